-- WRITTEN by xprint.py, a program of this session's. Not trusted: Lean checks it.
-- packed by pack.py
import Derived.Test.YtdjhcnepndflmaaPFnExactTakePiecex0
import Derived.Test.YtdjhcnepndflmaaPFnExactTakePiecex2
import Derived.Test.YtdjhcnepndflmaaPFnExactTakePiecex4
import Derived.Test.YtdjhcnepndflmaaPFnExactTakePiecex5
import Derived.Test.YtdjhcnepndflmaaPFnExactTakePiecex6
import Derived.Test.YtdjhcnepndflmaaPFnExactTakePiecex7
import Derived.Test.YtdjhcnepndflmaaPFnExactTakePiecex8
import Derived.Test.YtdjhcnepndflmaaTFnExactTakePiecea
namespace Go.Proofs.Ytdjhcnepndflmaa.PFnExactTakePiece
open Go.RowKit Go.Proofs.YtdjhcnepndflmaaW.PrintWords Go.Proofs.YtdjhcnepndflmaaW.PrintLast Go.Proofs.YtdjhcnepndflmaaW.PrintMore Go.Proofs.YtdjhcnepndflmaaX
attribute [local go_sem] max2_int min2_int max_two min_two max_three min_three max_four min_four   -- for this text's walks alone
set_option maxHeartbeats 8000000
set_option maxRecDepth 100000
set_option linter.unusedVariables false
set_option linter.unusedSimpArgs false

def laws_FnExactTakePiece.f (k : Nat) (a0_0 : Int) (a0_1 : Int) (l0_2 : List (S78)) (a1_0 : Int) (a1_1 : Int) : Option (Bool) := (laws_szBoard.f a0_0 a0_1 l0_2 1048576).bind fun t222 => (if t222 < 0 then (some true) else ((laws_toBoard.f k a0_0 a0_1 l0_2).bind fun bt223 => ((laws_toCell.f k a1_0 a1_1).bind fun bt228 => ((spec_TakePiece.f k bt223.1 bt223.2.1 bt223.2.2 bt228.1 bt228.2).bind fun bt230 => ((laws_toBoard.f k a0_0 a0_1 l0_2).bind fun bt237 => ((laws_toCell.f k a1_0 a1_1).bind fun bt243 => ((impl_TakePiece.f k bt237.1 bt237.2.1 bt237.2.2 bt243.1 bt243.2).bind fun bt245 => ((laws_eqBoard.f k bt245.1 bt245.2.1 bt245.2.2.1 bt230.1 bt230.2.1 bt230.2.2.1).bind fun t252 => (if t252 = true then (if bt245.2.2.2 = bt230.2.2.2 then ((laws_toBoard.f k a0_0 a0_1 l0_2).bind fun bt253 => ((laws_eqBoard.f k bt237.1 bt237.2.1 bt237.2.2 bt253.1 bt253.2.1 bt253.2.2).bind fun t258 => (if t258 = true then ((laws_markBoard.f k bt237.1 bt237.2.1 bt237.2.2 1).bind fun bt259 => (if bt259.1 < 0 then (none) else ((laws_eqBoard.f k bt245.1 bt245.2.1 bt245.2.2.1 bt230.1 bt230.2.1 bt230.2.2.1).bind fun t261 => (if t261 = true then ((laws_markBoard.f k bt245.1 bt245.2.1 bt245.2.2.1 1).bind fun bt262 => ((laws_heldBoard.f k bt245.1 bt245.2.1 bt262.2 1).bind fun t264 => (if t264 < 0 then (none) else (if t264 = bt262.1 then ((laws_toBoard.f k a0_0 a0_1 l0_2).bind fun bt265 => ((laws_toCell.f k a1_0 a1_1).bind fun bt270 => ((impl_TakePiece.f k bt265.1 bt265.2.1 bt265.2.2 bt270.1 bt270.2).bind fun bt272 => ((laws_eqBoard.f k bt272.1 bt272.2.1 bt272.2.2.1 bt230.1 bt230.2.1 bt230.2.2.1).bind fun t279 => (if t279 = true then (if bt272.2.2.2 = bt230.2.2.2 then ((laws_heldBoard.f k bt245.1 bt245.2.1 bt262.2 1).bind fun t280 => (if t280 < 0 then (none) else (if t280 = bt262.1 then (some true) else (none)))) else (none)) else (none)))))) else (none))))) else (none))))) else (none)))) else (none)) else (none))))))))))
theorem laws_FnExactTakePiece.mono : ∀ a0 a1 a2 a3 a4 k, LeO (laws_FnExactTakePiece.f k a0 a1 a2 a3 a4) (laws_FnExactTakePiece.f (k + 1) a0 a1 a2 a3 a4) := by
 intro a0 a1 a2 a3 a4 k
 unfold laws_FnExactTakePiece.f
 repeat' first | (with_reducible first | apply impl_TakePiece.mono | apply laws_eqBoard.mono | apply laws_heldBoard.mono | apply laws_markBoard.mono | apply laws_toBoard.mono | apply laws_toCell.mono | apply spec_TakePiece.mono | exact LeO.refl _ | exact LeO.none _ | refine LeO.ite ?_ ?_ | refine LeO.bind ?_ (fun _ => ?_)) | apply impl_TakePiece.mono | apply laws_eqBoard.mono | apply laws_heldBoard.mono | apply laws_markBoard.mono | apply laws_toBoard.mono | apply laws_toCell.mono | apply spec_TakePiece.mono | exact LeO.none _ | refine LeO.ite ?_ ?_ | refine LeO.bind ?_ (fun _ => ?_)
def laws_FnExactTakePiece.T5 : Bool × List (List Nat × List Nat) := (true, [([], []), ([0], [0]), ([], []), ([2, 1], [2]), ([1, 3, 3], [1, 3]), ([4], [4]), ([5], [5]), ([5], [5]), ([], []), ([8, 6, 4, 0, 1, 2, 3, 4, 5, 6, 8], [6, 8]), ([7, 9, 0, 1, 2, 3, 4, 5, 6, 7, 8, 9], [7])])
def laws_FnExactTakePiece.B5 : List Nat := [0, 1, 0, 7, 15, 31, 63, 63, 0, 383, 1023]
theorem laws_FnExactTakePiece.tab5 : rtab .any (opsOf Try.f3 5) = laws_FnExactTakePiece.T5 := by kernel_rfl
theorem laws_FnExactTakePiece.bits5 : waitsOk laws_FnExactTakePiece.T5.2 laws_FnExactTakePiece.B5 = true := by kernel_rfl
def laws_FnExactTakePiece.T7 : Bool × List (List Nat × List Nat) := (true, [([], []), ([], []), ([1], [1]), ([0, 2, 2], [0, 2]), ([3], [3]), ([4], [4]), ([4], [4]), ([], []), ([7, 5, 3, 0, 1, 2, 3, 4, 5, 7], [5, 7]), ([6, 8, 0, 1, 2, 3, 4, 5, 6, 7, 8], [6])])
def laws_FnExactTakePiece.B7 : List Nat := [0, 0, 2, 7, 15, 31, 31, 0, 191, 511]
theorem laws_FnExactTakePiece.tab7 : rtab .any (opsOf Try.f3 7) = laws_FnExactTakePiece.T7 := by kernel_rfl
theorem laws_FnExactTakePiece.bits7 : waitsOk laws_FnExactTakePiece.T7.2 laws_FnExactTakePiece.B7 = true := by kernel_rfl
def laws_FnExactTakePiece.T24 : Bool × List (List Nat × List Nat) := (true, [([], []), ([0], [0]), ([], []), ([2, 1], [2]), ([1, 3, 3], [1, 3]), ([4], [4]), ([5], [5]), ([5], [5]), ([], []), ([8, 6, 4, 0, 1, 2, 3, 4, 5, 6, 8], [6, 8]), ([7, 9, 0, 1, 2, 3, 4, 5, 6, 7, 8, 9], [7])])
def laws_FnExactTakePiece.B24 : List Nat := [0, 1, 0, 7, 15, 31, 63, 63, 0, 383, 1023]
theorem laws_FnExactTakePiece.tab24 : rtab .any (opsOf Try.f3 24) = laws_FnExactTakePiece.T24 := by kernel_rfl
theorem laws_FnExactTakePiece.bits24 : waitsOk laws_FnExactTakePiece.T24.2 laws_FnExactTakePiece.B24 = true := by kernel_rfl
theorem laws_FnExactTakePiece.calls (k : Nat) (a0_0 : Int) (a0_1 : Int) (A0_2 : Option Addr) (c0_2 : Nat) (l0_2 : List (S78)) (a1_0 : Int) (a1_1 : Int) (r : Bool) (w : World) (hr0_2 : Kd.C k78 w A0_2 l0_2.length l0_2) (hc0_2 : l0_2.length ≤ c0_2) (h : laws_FnExactTakePiece.f k a0_0 a0_1 l0_2 a1_0 a1_1 = some r) :
    Calls Try.prog 3 #[.agg #[.int .i8 a0_0, .int .i8 a0_1, .slice A0_2 l0_2.length c0_2], .agg #[.int .i8 a1_0, .int .i8 a1_1]] w fun e w' => e = .returned (.bool r) ∧ Below w.heap.size w w' := by
 have hu25 := Try.underlying25
 have hu26 := Try.underlying26
 have hu30 := Try.underlying30
 have HR0_2 := Aside0.mk hr0_2
 have HC0_2 := Aside0.mk hc0_2
 clear hr0_2 hc0_2
 have HB := Aside0.mk (Below.refl w.heap.size w)
 have H : ((laws_szBoard.f a0_0 a0_1 l0_2 1048576).bind fun t222 => (if t222 < 0 then (some true) else ((laws_toBoard.f k a0_0 a0_1 l0_2).bind fun bt223 => ((laws_toCell.f k a1_0 a1_1).bind fun bt228 => ((spec_TakePiece.f k bt223.1 bt223.2.1 bt223.2.2 bt228.1 bt228.2).bind fun bt230 => ((laws_toBoard.f k a0_0 a0_1 l0_2).bind fun bt237 => ((laws_toCell.f k a1_0 a1_1).bind fun bt243 => ((impl_TakePiece.f k bt237.1 bt237.2.1 bt237.2.2 bt243.1 bt243.2).bind fun bt245 => ((laws_eqBoard.f k bt245.1 bt245.2.1 bt245.2.2.1 bt230.1 bt230.2.1 bt230.2.2.1).bind fun t252 => (if t252 = true then (if bt245.2.2.2 = bt230.2.2.2 then ((laws_toBoard.f k a0_0 a0_1 l0_2).bind fun bt253 => ((laws_eqBoard.f k bt237.1 bt237.2.1 bt237.2.2 bt253.1 bt253.2.1 bt253.2.2).bind fun t258 => (if t258 = true then ((laws_markBoard.f k bt237.1 bt237.2.1 bt237.2.2 1).bind fun bt259 => (if bt259.1 < 0 then (none) else ((laws_eqBoard.f k bt245.1 bt245.2.1 bt245.2.2.1 bt230.1 bt230.2.1 bt230.2.2.1).bind fun t261 => (if t261 = true then ((laws_markBoard.f k bt245.1 bt245.2.1 bt245.2.2.1 1).bind fun bt262 => ((laws_heldBoard.f k bt245.1 bt245.2.1 bt262.2 1).bind fun t264 => (if t264 < 0 then (none) else (if t264 = bt262.1 then ((laws_toBoard.f k a0_0 a0_1 l0_2).bind fun bt265 => ((laws_toCell.f k a1_0 a1_1).bind fun bt270 => ((impl_TakePiece.f k bt265.1 bt265.2.1 bt265.2.2 bt270.1 bt270.2).bind fun bt272 => ((laws_eqBoard.f k bt272.1 bt272.2.1 bt272.2.2.1 bt230.1 bt230.2.1 bt230.2.2.1).bind fun t279 => (if t279 = true then (if bt272.2.2.2 = bt230.2.2.2 then ((laws_heldBoard.f k bt245.1 bt245.2.1 bt262.2 1).bind fun t280 => (if t280 < 0 then (none) else (if t280 = bt262.1 then (some true) else (none)))) else (none)) else (none)))))) else (none))))) else (none))))) else (none)))) else (none)) else (none))))))))))) = some r := h
 clear h
 replace H := zob H
 obtain ⟨t222, A30, H⟩ := H
 replace H : (if t222 < 0 then (some true) else ((laws_toBoard.f k a0_0 a0_1 l0_2).bind fun bt223 => ((laws_toCell.f k a1_0 a1_1).bind fun bt228 => ((spec_TakePiece.f k bt223.1 bt223.2.1 bt223.2.2 bt228.1 bt228.2).bind fun bt230 => ((laws_toBoard.f k a0_0 a0_1 l0_2).bind fun bt237 => ((laws_toCell.f k a1_0 a1_1).bind fun bt243 => ((impl_TakePiece.f k bt237.1 bt237.2.1 bt237.2.2 bt243.1 bt243.2).bind fun bt245 => ((laws_eqBoard.f k bt245.1 bt245.2.1 bt245.2.2.1 bt230.1 bt230.2.1 bt230.2.2.1).bind fun t252 => (if t252 = true then (if bt245.2.2.2 = bt230.2.2.2 then ((laws_toBoard.f k a0_0 a0_1 l0_2).bind fun bt253 => ((laws_eqBoard.f k bt237.1 bt237.2.1 bt237.2.2 bt253.1 bt253.2.1 bt253.2.2).bind fun t258 => (if t258 = true then ((laws_markBoard.f k bt237.1 bt237.2.1 bt237.2.2 1).bind fun bt259 => (if bt259.1 < 0 then (none) else ((laws_eqBoard.f k bt245.1 bt245.2.1 bt245.2.2.1 bt230.1 bt230.2.1 bt230.2.2.1).bind fun t261 => (if t261 = true then ((laws_markBoard.f k bt245.1 bt245.2.1 bt245.2.2.1 1).bind fun bt262 => ((laws_heldBoard.f k bt245.1 bt245.2.1 bt262.2 1).bind fun t264 => (if t264 < 0 then (none) else (if t264 = bt262.1 then ((laws_toBoard.f k a0_0 a0_1 l0_2).bind fun bt265 => ((laws_toCell.f k a1_0 a1_1).bind fun bt270 => ((impl_TakePiece.f k bt265.1 bt265.2.1 bt265.2.2 bt270.1 bt270.2).bind fun bt272 => ((laws_eqBoard.f k bt272.1 bt272.2.1 bt272.2.2.1 bt230.1 bt230.2.1 bt230.2.2.1).bind fun t279 => (if t279 = true then (if bt272.2.2.2 = bt230.2.2.2 then ((laws_heldBoard.f k bt245.1 bt245.2.1 bt262.2 1).bind fun t280 => (if t280 < 0 then (none) else (if t280 = bt262.1 then (some true) else (none)))) else (none)) else (none)))))) else (none))))) else (none))))) else (none)))) else (none)) else (none)))))))))) = some r := H
 have A3 := Aside0.mk A30
 clear A30
 by_cases c4 : t222 < 0
 ·rw [if_pos c4] at H
  have c4b0 : decide (t222 < 0) = true := decide_eq_true c4
  clear c4
  obtain rfl := Option.some.inj H
  go_enter Try.func3, Try.ntmps3
  go_wp2_with (first | ((with_reducible refine gate_dst (N := 2) rfl ?_); refine zbx 2 #[.int .i8 a0_0, .int .i8 a0_1, .slice A0_2 l0_2.length c0_2] 25 ?_; intro gb220 hg w5 hbox hb; have n_ : _ ∧ _ ∧ _ ∧ _ := ⟨zb HB hb, Aside0.mk (hbox), zg HB hg, zg HB hg⟩; clear HB; obtain ⟨HB, BK220, GW220, GE220⟩ := n_; clear hb hbox hg) | ((with_reducible refine gate_dst (N := 3) rfl ?_); refine zbx 3 #[.int .i8 a1_0, .int .i8 a1_1] 26 ?_; intro gb221 hg w6 hbox hb; have n_ : _ ∧ _ ∧ _ ∧ _ ∧ _ ∧ _ ∧ _ := ⟨zk BK220 hb, zbs hb, Aside0.mk (hbox), zg HB hg, zg HB hg, zn1 BK220 hg, zn2 BK220 hg⟩; clear BK220 HB; obtain ⟨BK220, HB, BK221, GW221, GE221, NB220_221, NB221_220⟩ := n_; clear hb hbox hg; have hnb7 := NB220_221.out; have hnc7 := NB221_220.out; obtain ⟨z8_0, z8_1, z8_2, y8_0, y8_1, y8_2⟩ := zB3 BK220) | ((with_reducible refine gate_callee (f := 6) rfl ?_); refine goesL_ (some 18) rfl rfl Try.func6 (by kernel_rfl) rfl #[.agg #[.int .i8 a0_0, .int .i8 a0_1, .slice A0_2 l0_2.length c0_2], .int .i64 1048576] rfl zm ?_; (with_reducible refine (laws_szBoard.calls a0_0 a0_1 _ _ l0_2 1048576 t222 _ ?side1 ?side2 A3.out).mono ?_); (case side1 => exact zcc HB HR0_2.out); (case side2 => exact HC0_2.out); rintro e w9 ⟨rfl, hb⟩; refine ⟨_, rfl, ?_⟩; have n_ : _ ∧ _ ∧ _ := ⟨zk BK220 hb, zk BK221 hb, zbs hb⟩; clear BK220 BK221 HB; obtain ⟨BK220, BK221, HB⟩ := n_; (try clear hb); (try clear hb2); (try clear hk); (try clear hi)))
  go_ret
  exact ⟨zv, zbo⟩
 rw [if_neg c4] at H
 have c4b0 : decide (t222 < 0) = false := decide_eq_false c4
 clear c4
 replace H := zob H
 obtain ⟨⟨t223, t224, t225⟩, A100, H⟩ := H
 replace H : ((laws_toCell.f k a1_0 a1_1).bind fun bt228 => ((spec_TakePiece.f k t223 t224 t225 bt228.1 bt228.2).bind fun bt230 => ((laws_toBoard.f k a0_0 a0_1 l0_2).bind fun bt237 => ((laws_toCell.f k a1_0 a1_1).bind fun bt243 => ((impl_TakePiece.f k bt237.1 bt237.2.1 bt237.2.2 bt243.1 bt243.2).bind fun bt245 => ((laws_eqBoard.f k bt245.1 bt245.2.1 bt245.2.2.1 bt230.1 bt230.2.1 bt230.2.2.1).bind fun t252 => (if t252 = true then (if bt245.2.2.2 = bt230.2.2.2 then ((laws_toBoard.f k a0_0 a0_1 l0_2).bind fun bt253 => ((laws_eqBoard.f k bt237.1 bt237.2.1 bt237.2.2 bt253.1 bt253.2.1 bt253.2.2).bind fun t258 => (if t258 = true then ((laws_markBoard.f k bt237.1 bt237.2.1 bt237.2.2 1).bind fun bt259 => (if bt259.1 < 0 then (none) else ((laws_eqBoard.f k bt245.1 bt245.2.1 bt245.2.2.1 bt230.1 bt230.2.1 bt230.2.2.1).bind fun t261 => (if t261 = true then ((laws_markBoard.f k bt245.1 bt245.2.1 bt245.2.2.1 1).bind fun bt262 => ((laws_heldBoard.f k bt245.1 bt245.2.1 bt262.2 1).bind fun t264 => (if t264 < 0 then (none) else (if t264 = bt262.1 then ((laws_toBoard.f k a0_0 a0_1 l0_2).bind fun bt265 => ((laws_toCell.f k a1_0 a1_1).bind fun bt270 => ((impl_TakePiece.f k bt265.1 bt265.2.1 bt265.2.2 bt270.1 bt270.2).bind fun bt272 => ((laws_eqBoard.f k bt272.1 bt272.2.1 bt272.2.2.1 bt230.1 bt230.2.1 bt230.2.2.1).bind fun t279 => (if t279 = true then (if bt272.2.2.2 = bt230.2.2.2 then ((laws_heldBoard.f k bt245.1 bt245.2.1 bt262.2 1).bind fun t280 => (if t280 < 0 then (none) else (if t280 = bt262.1 then (some true) else (none)))) else (none)) else (none)))))) else (none))))) else (none))))) else (none)))) else (none)) else (none)))))))) = some r := H
 have A10 := Aside0.mk A100
 clear A100
 replace H := zob H
 obtain ⟨⟨t228, t229⟩, A110, H⟩ := H
 replace H : ((spec_TakePiece.f k t223 t224 t225 t228 t229).bind fun bt230 => ((laws_toBoard.f k a0_0 a0_1 l0_2).bind fun bt237 => ((laws_toCell.f k a1_0 a1_1).bind fun bt243 => ((impl_TakePiece.f k bt237.1 bt237.2.1 bt237.2.2 bt243.1 bt243.2).bind fun bt245 => ((laws_eqBoard.f k bt245.1 bt245.2.1 bt245.2.2.1 bt230.1 bt230.2.1 bt230.2.2.1).bind fun t252 => (if t252 = true then (if bt245.2.2.2 = bt230.2.2.2 then ((laws_toBoard.f k a0_0 a0_1 l0_2).bind fun bt253 => ((laws_eqBoard.f k bt237.1 bt237.2.1 bt237.2.2 bt253.1 bt253.2.1 bt253.2.2).bind fun t258 => (if t258 = true then ((laws_markBoard.f k bt237.1 bt237.2.1 bt237.2.2 1).bind fun bt259 => (if bt259.1 < 0 then (none) else ((laws_eqBoard.f k bt245.1 bt245.2.1 bt245.2.2.1 bt230.1 bt230.2.1 bt230.2.2.1).bind fun t261 => (if t261 = true then ((laws_markBoard.f k bt245.1 bt245.2.1 bt245.2.2.1 1).bind fun bt262 => ((laws_heldBoard.f k bt245.1 bt245.2.1 bt262.2 1).bind fun t264 => (if t264 < 0 then (none) else (if t264 = bt262.1 then ((laws_toBoard.f k a0_0 a0_1 l0_2).bind fun bt265 => ((laws_toCell.f k a1_0 a1_1).bind fun bt270 => ((impl_TakePiece.f k bt265.1 bt265.2.1 bt265.2.2 bt270.1 bt270.2).bind fun bt272 => ((laws_eqBoard.f k bt272.1 bt272.2.1 bt272.2.2.1 bt230.1 bt230.2.1 bt230.2.2.1).bind fun t279 => (if t279 = true then (if bt272.2.2.2 = bt230.2.2.2 then ((laws_heldBoard.f k bt245.1 bt245.2.1 bt262.2 1).bind fun t280 => (if t280 < 0 then (none) else (if t280 = bt262.1 then (some true) else (none)))) else (none)) else (none)))))) else (none))))) else (none))))) else (none)))) else (none)) else (none))))))) = some r := H
 have A11 := Aside0.mk A110
 clear A110
 replace H := zob H
 obtain ⟨⟨t230, t231, t232, t235⟩, A120, H⟩ := H
 replace H : ((laws_toBoard.f k a0_0 a0_1 l0_2).bind fun bt237 => ((laws_toCell.f k a1_0 a1_1).bind fun bt243 => ((impl_TakePiece.f k bt237.1 bt237.2.1 bt237.2.2 bt243.1 bt243.2).bind fun bt245 => ((laws_eqBoard.f k bt245.1 bt245.2.1 bt245.2.2.1 t230 t231 t232).bind fun t252 => (if t252 = true then (if bt245.2.2.2 = t235 then ((laws_toBoard.f k a0_0 a0_1 l0_2).bind fun bt253 => ((laws_eqBoard.f k bt237.1 bt237.2.1 bt237.2.2 bt253.1 bt253.2.1 bt253.2.2).bind fun t258 => (if t258 = true then ((laws_markBoard.f k bt237.1 bt237.2.1 bt237.2.2 1).bind fun bt259 => (if bt259.1 < 0 then (none) else ((laws_eqBoard.f k bt245.1 bt245.2.1 bt245.2.2.1 t230 t231 t232).bind fun t261 => (if t261 = true then ((laws_markBoard.f k bt245.1 bt245.2.1 bt245.2.2.1 1).bind fun bt262 => ((laws_heldBoard.f k bt245.1 bt245.2.1 bt262.2 1).bind fun t264 => (if t264 < 0 then (none) else (if t264 = bt262.1 then ((laws_toBoard.f k a0_0 a0_1 l0_2).bind fun bt265 => ((laws_toCell.f k a1_0 a1_1).bind fun bt270 => ((impl_TakePiece.f k bt265.1 bt265.2.1 bt265.2.2 bt270.1 bt270.2).bind fun bt272 => ((laws_eqBoard.f k bt272.1 bt272.2.1 bt272.2.2.1 t230 t231 t232).bind fun t279 => (if t279 = true then (if bt272.2.2.2 = t235 then ((laws_heldBoard.f k bt245.1 bt245.2.1 bt262.2 1).bind fun t280 => (if t280 < 0 then (none) else (if t280 = bt262.1 then (some true) else (none)))) else (none)) else (none)))))) else (none))))) else (none))))) else (none)))) else (none)) else (none)))))) = some r := H
 have A12 := Aside0.mk A120
 clear A120
 replace H := zob H
 obtain ⟨⟨t237, t238, t239⟩, A130, H⟩ := H
 replace H : ((laws_toCell.f k a1_0 a1_1).bind fun bt243 => ((impl_TakePiece.f k t237 t238 t239 bt243.1 bt243.2).bind fun bt245 => ((laws_eqBoard.f k bt245.1 bt245.2.1 bt245.2.2.1 t230 t231 t232).bind fun t252 => (if t252 = true then (if bt245.2.2.2 = t235 then ((laws_toBoard.f k a0_0 a0_1 l0_2).bind fun bt253 => ((laws_eqBoard.f k t237 t238 t239 bt253.1 bt253.2.1 bt253.2.2).bind fun t258 => (if t258 = true then ((laws_markBoard.f k t237 t238 t239 1).bind fun bt259 => (if bt259.1 < 0 then (none) else ((laws_eqBoard.f k bt245.1 bt245.2.1 bt245.2.2.1 t230 t231 t232).bind fun t261 => (if t261 = true then ((laws_markBoard.f k bt245.1 bt245.2.1 bt245.2.2.1 1).bind fun bt262 => ((laws_heldBoard.f k bt245.1 bt245.2.1 bt262.2 1).bind fun t264 => (if t264 < 0 then (none) else (if t264 = bt262.1 then ((laws_toBoard.f k a0_0 a0_1 l0_2).bind fun bt265 => ((laws_toCell.f k a1_0 a1_1).bind fun bt270 => ((impl_TakePiece.f k bt265.1 bt265.2.1 bt265.2.2 bt270.1 bt270.2).bind fun bt272 => ((laws_eqBoard.f k bt272.1 bt272.2.1 bt272.2.2.1 t230 t231 t232).bind fun t279 => (if t279 = true then (if bt272.2.2.2 = t235 then ((laws_heldBoard.f k bt245.1 bt245.2.1 bt262.2 1).bind fun t280 => (if t280 < 0 then (none) else (if t280 = bt262.1 then (some true) else (none)))) else (none)) else (none)))))) else (none))))) else (none))))) else (none)))) else (none)) else (none))))) = some r := H
 have A13 := Aside0.mk A130
 clear A130
 replace H := zob H
 obtain ⟨⟨t243, t244⟩, A140, H⟩ := H
 replace H : ((impl_TakePiece.f k t237 t238 t239 t243 t244).bind fun bt245 => ((laws_eqBoard.f k bt245.1 bt245.2.1 bt245.2.2.1 t230 t231 t232).bind fun t252 => (if t252 = true then (if bt245.2.2.2 = t235 then ((laws_toBoard.f k a0_0 a0_1 l0_2).bind fun bt253 => ((laws_eqBoard.f k t237 t238 t239 bt253.1 bt253.2.1 bt253.2.2).bind fun t258 => (if t258 = true then ((laws_markBoard.f k t237 t238 t239 1).bind fun bt259 => (if bt259.1 < 0 then (none) else ((laws_eqBoard.f k bt245.1 bt245.2.1 bt245.2.2.1 t230 t231 t232).bind fun t261 => (if t261 = true then ((laws_markBoard.f k bt245.1 bt245.2.1 bt245.2.2.1 1).bind fun bt262 => ((laws_heldBoard.f k bt245.1 bt245.2.1 bt262.2 1).bind fun t264 => (if t264 < 0 then (none) else (if t264 = bt262.1 then ((laws_toBoard.f k a0_0 a0_1 l0_2).bind fun bt265 => ((laws_toCell.f k a1_0 a1_1).bind fun bt270 => ((impl_TakePiece.f k bt265.1 bt265.2.1 bt265.2.2 bt270.1 bt270.2).bind fun bt272 => ((laws_eqBoard.f k bt272.1 bt272.2.1 bt272.2.2.1 t230 t231 t232).bind fun t279 => (if t279 = true then (if bt272.2.2.2 = t235 then ((laws_heldBoard.f k bt245.1 bt245.2.1 bt262.2 1).bind fun t280 => (if t280 < 0 then (none) else (if t280 = bt262.1 then (some true) else (none)))) else (none)) else (none)))))) else (none))))) else (none))))) else (none)))) else (none)) else (none)))) = some r := H
 have A14 := Aside0.mk A140
 clear A140
 replace H := zob H
 obtain ⟨⟨t245, t246, t247, t250⟩, A150, H⟩ := H
 replace H : ((laws_eqBoard.f k t245 t246 t247 t230 t231 t232).bind fun t252 => (if t252 = true then (if t250 = t235 then ((laws_toBoard.f k a0_0 a0_1 l0_2).bind fun bt253 => ((laws_eqBoard.f k t237 t238 t239 bt253.1 bt253.2.1 bt253.2.2).bind fun t258 => (if t258 = true then ((laws_markBoard.f k t237 t238 t239 1).bind fun bt259 => (if bt259.1 < 0 then (none) else ((laws_eqBoard.f k t245 t246 t247 t230 t231 t232).bind fun t261 => (if t261 = true then ((laws_markBoard.f k t245 t246 t247 1).bind fun bt262 => ((laws_heldBoard.f k t245 t246 bt262.2 1).bind fun t264 => (if t264 < 0 then (none) else (if t264 = bt262.1 then ((laws_toBoard.f k a0_0 a0_1 l0_2).bind fun bt265 => ((laws_toCell.f k a1_0 a1_1).bind fun bt270 => ((impl_TakePiece.f k bt265.1 bt265.2.1 bt265.2.2 bt270.1 bt270.2).bind fun bt272 => ((laws_eqBoard.f k bt272.1 bt272.2.1 bt272.2.2.1 t230 t231 t232).bind fun t279 => (if t279 = true then (if bt272.2.2.2 = t235 then ((laws_heldBoard.f k t245 t246 bt262.2 1).bind fun t280 => (if t280 < 0 then (none) else (if t280 = bt262.1 then (some true) else (none)))) else (none)) else (none)))))) else (none))))) else (none))))) else (none)))) else (none)) else (none))) = some r := H
 have A15 := Aside0.mk A150
 clear A150
 replace H := zob H
 obtain ⟨t252, A160, H⟩ := H
 replace H : (if t252 = true then (if t250 = t235 then ((laws_toBoard.f k a0_0 a0_1 l0_2).bind fun bt253 => ((laws_eqBoard.f k t237 t238 t239 bt253.1 bt253.2.1 bt253.2.2).bind fun t258 => (if t258 = true then ((laws_markBoard.f k t237 t238 t239 1).bind fun bt259 => (if bt259.1 < 0 then (none) else ((laws_eqBoard.f k t245 t246 t247 t230 t231 t232).bind fun t261 => (if t261 = true then ((laws_markBoard.f k t245 t246 t247 1).bind fun bt262 => ((laws_heldBoard.f k t245 t246 bt262.2 1).bind fun t264 => (if t264 < 0 then (none) else (if t264 = bt262.1 then ((laws_toBoard.f k a0_0 a0_1 l0_2).bind fun bt265 => ((laws_toCell.f k a1_0 a1_1).bind fun bt270 => ((impl_TakePiece.f k bt265.1 bt265.2.1 bt265.2.2 bt270.1 bt270.2).bind fun bt272 => ((laws_eqBoard.f k bt272.1 bt272.2.1 bt272.2.2.1 t230 t231 t232).bind fun t279 => (if t279 = true then (if bt272.2.2.2 = t235 then ((laws_heldBoard.f k t245 t246 bt262.2 1).bind fun t280 => (if t280 < 0 then (none) else (if t280 = bt262.1 then (some true) else (none)))) else (none)) else (none)))))) else (none))))) else (none))))) else (none)))) else (none)) else (none)) = some r := H
 have A16 := Aside0.mk A160
 clear A160
 by_cases c17 : t252 = true
 rotate_left
 ·replace c17 := Bool.eq_false_iff.mpr c17
  subst c17
  have H1 : (none) = some r := by rw [if_neg (show ¬ (false = true) by decide)] at H; exact H
  clear H
  have H := H1
  clear H1
  exact absurd H (by simp)
 subst c17
 have H1 : (if t250 = t235 then ((laws_toBoard.f k a0_0 a0_1 l0_2).bind fun bt253 => ((laws_eqBoard.f k t237 t238 t239 bt253.1 bt253.2.1 bt253.2.2).bind fun t258 => (if t258 = true then ((laws_markBoard.f k t237 t238 t239 1).bind fun bt259 => (if bt259.1 < 0 then (none) else ((laws_eqBoard.f k t245 t246 t247 t230 t231 t232).bind fun t261 => (if t261 = true then ((laws_markBoard.f k t245 t246 t247 1).bind fun bt262 => ((laws_heldBoard.f k t245 t246 bt262.2 1).bind fun t264 => (if t264 < 0 then (none) else (if t264 = bt262.1 then ((laws_toBoard.f k a0_0 a0_1 l0_2).bind fun bt265 => ((laws_toCell.f k a1_0 a1_1).bind fun bt270 => ((impl_TakePiece.f k bt265.1 bt265.2.1 bt265.2.2 bt270.1 bt270.2).bind fun bt272 => ((laws_eqBoard.f k bt272.1 bt272.2.1 bt272.2.2.1 t230 t231 t232).bind fun t279 => (if t279 = true then (if bt272.2.2.2 = t235 then ((laws_heldBoard.f k t245 t246 bt262.2 1).bind fun t280 => (if t280 < 0 then (none) else (if t280 = bt262.1 then (some true) else (none)))) else (none)) else (none)))))) else (none))))) else (none))))) else (none)))) else (none)) = some r := by rw [if_pos rfl] at H; exact H
 clear H
 have H := H1
 clear H1
 by_cases c18 : t250 = t235
 rotate_left
 ·rw [if_neg c18] at H
  exact absurd H (by simp)
 rw [if_pos c18] at H
 have c18b0 : (t250 == t235) = true := beq_iff_eq.mpr c18
 have c18b1 : (t250 != t235) = false := bne_eq_false_iff_eq.mpr c18
 clear c18
 replace H := zob H
 obtain ⟨⟨t253, t254, t255⟩, A190, H⟩ := H
 replace H : ((laws_eqBoard.f k t237 t238 t239 t253 t254 t255).bind fun t258 => (if t258 = true then ((laws_markBoard.f k t237 t238 t239 1).bind fun bt259 => (if bt259.1 < 0 then (none) else ((laws_eqBoard.f k t245 t246 t247 t230 t231 t232).bind fun t261 => (if t261 = true then ((laws_markBoard.f k t245 t246 t247 1).bind fun bt262 => ((laws_heldBoard.f k t245 t246 bt262.2 1).bind fun t264 => (if t264 < 0 then (none) else (if t264 = bt262.1 then ((laws_toBoard.f k a0_0 a0_1 l0_2).bind fun bt265 => ((laws_toCell.f k a1_0 a1_1).bind fun bt270 => ((impl_TakePiece.f k bt265.1 bt265.2.1 bt265.2.2 bt270.1 bt270.2).bind fun bt272 => ((laws_eqBoard.f k bt272.1 bt272.2.1 bt272.2.2.1 t230 t231 t232).bind fun t279 => (if t279 = true then (if bt272.2.2.2 = t235 then ((laws_heldBoard.f k t245 t246 bt262.2 1).bind fun t280 => (if t280 < 0 then (none) else (if t280 = bt262.1 then (some true) else (none)))) else (none)) else (none)))))) else (none))))) else (none))))) else (none))) = some r := H
 have A19 := Aside0.mk A190
 clear A190
 replace H := zob H
 obtain ⟨t258, A200, H⟩ := H
 replace H : (if t258 = true then ((laws_markBoard.f k t237 t238 t239 1).bind fun bt259 => (if bt259.1 < 0 then (none) else ((laws_eqBoard.f k t245 t246 t247 t230 t231 t232).bind fun t261 => (if t261 = true then ((laws_markBoard.f k t245 t246 t247 1).bind fun bt262 => ((laws_heldBoard.f k t245 t246 bt262.2 1).bind fun t264 => (if t264 < 0 then (none) else (if t264 = bt262.1 then ((laws_toBoard.f k a0_0 a0_1 l0_2).bind fun bt265 => ((laws_toCell.f k a1_0 a1_1).bind fun bt270 => ((impl_TakePiece.f k bt265.1 bt265.2.1 bt265.2.2 bt270.1 bt270.2).bind fun bt272 => ((laws_eqBoard.f k bt272.1 bt272.2.1 bt272.2.2.1 t230 t231 t232).bind fun t279 => (if t279 = true then (if bt272.2.2.2 = t235 then ((laws_heldBoard.f k t245 t246 bt262.2 1).bind fun t280 => (if t280 < 0 then (none) else (if t280 = bt262.1 then (some true) else (none)))) else (none)) else (none)))))) else (none))))) else (none))))) else (none)) = some r := H
 have A20 := Aside0.mk A200
 clear A200
 by_cases c21 : t258 = true
 rotate_left
 ·replace c21 := Bool.eq_false_iff.mpr c21
  subst c21
  have H1 : (none) = some r := by rw [if_neg (show ¬ (false = true) by decide)] at H; exact H
  clear H
  have H := H1
  clear H1
  exact absurd H (by simp)
 subst c21
 have H1 : ((laws_markBoard.f k t237 t238 t239 1).bind fun bt259 => (if bt259.1 < 0 then (none) else ((laws_eqBoard.f k t245 t246 t247 t230 t231 t232).bind fun t261 => (if t261 = true then ((laws_markBoard.f k t245 t246 t247 1).bind fun bt262 => ((laws_heldBoard.f k t245 t246 bt262.2 1).bind fun t264 => (if t264 < 0 then (none) else (if t264 = bt262.1 then ((laws_toBoard.f k a0_0 a0_1 l0_2).bind fun bt265 => ((laws_toCell.f k a1_0 a1_1).bind fun bt270 => ((impl_TakePiece.f k bt265.1 bt265.2.1 bt265.2.2 bt270.1 bt270.2).bind fun bt272 => ((laws_eqBoard.f k bt272.1 bt272.2.1 bt272.2.2.1 t230 t231 t232).bind fun t279 => (if t279 = true then (if bt272.2.2.2 = t235 then ((laws_heldBoard.f k t245 t246 bt262.2 1).bind fun t280 => (if t280 < 0 then (none) else (if t280 = bt262.1 then (some true) else (none)))) else (none)) else (none)))))) else (none))))) else (none))))) = some r := by rw [if_pos rfl] at H; exact H
 clear H
 have H := H1
 clear H1
 replace H := zob H
 obtain ⟨⟨t259, t260⟩, A220, H⟩ := H
 replace H : (if t259 < 0 then (none) else ((laws_eqBoard.f k t245 t246 t247 t230 t231 t232).bind fun t261 => (if t261 = true then ((laws_markBoard.f k t245 t246 t247 1).bind fun bt262 => ((laws_heldBoard.f k t245 t246 bt262.2 1).bind fun t264 => (if t264 < 0 then (none) else (if t264 = bt262.1 then ((laws_toBoard.f k a0_0 a0_1 l0_2).bind fun bt265 => ((laws_toCell.f k a1_0 a1_1).bind fun bt270 => ((impl_TakePiece.f k bt265.1 bt265.2.1 bt265.2.2 bt270.1 bt270.2).bind fun bt272 => ((laws_eqBoard.f k bt272.1 bt272.2.1 bt272.2.2.1 t230 t231 t232).bind fun t279 => (if t279 = true then (if bt272.2.2.2 = t235 then ((laws_heldBoard.f k t245 t246 bt262.2 1).bind fun t280 => (if t280 < 0 then (none) else (if t280 = bt262.1 then (some true) else (none)))) else (none)) else (none)))))) else (none))))) else (none)))) = some r := H
 have A22 := Aside0.mk A220
 clear A220
 by_cases c23 : t259 < 0
 ·rw [if_pos c23] at H
  exact absurd H (by simp)
 rw [if_neg c23] at H
 have c23b0 : decide (t259 < 0) = false := decide_eq_false c23
 clear c23
 replace H := zob H
 obtain ⟨t261, A240, H⟩ := H
 replace H : (if t261 = true then ((laws_markBoard.f k t245 t246 t247 1).bind fun bt262 => ((laws_heldBoard.f k t245 t246 bt262.2 1).bind fun t264 => (if t264 < 0 then (none) else (if t264 = bt262.1 then ((laws_toBoard.f k a0_0 a0_1 l0_2).bind fun bt265 => ((laws_toCell.f k a1_0 a1_1).bind fun bt270 => ((impl_TakePiece.f k bt265.1 bt265.2.1 bt265.2.2 bt270.1 bt270.2).bind fun bt272 => ((laws_eqBoard.f k bt272.1 bt272.2.1 bt272.2.2.1 t230 t231 t232).bind fun t279 => (if t279 = true then (if bt272.2.2.2 = t235 then ((laws_heldBoard.f k t245 t246 bt262.2 1).bind fun t280 => (if t280 < 0 then (none) else (if t280 = bt262.1 then (some true) else (none)))) else (none)) else (none)))))) else (none))))) else (none)) = some r := H
 have A24 := Aside0.mk A240
 clear A240
 by_cases c25 : t261 = true
 rotate_left
 ·replace c25 := Bool.eq_false_iff.mpr c25
  subst c25
  have H1 : (none) = some r := by rw [if_neg (show ¬ (false = true) by decide)] at H; exact H
  clear H
  have H := H1
  clear H1
  exact absurd H (by simp)
 subst c25
 have H1 : ((laws_markBoard.f k t245 t246 t247 1).bind fun bt262 => ((laws_heldBoard.f k t245 t246 bt262.2 1).bind fun t264 => (if t264 < 0 then (none) else (if t264 = bt262.1 then ((laws_toBoard.f k a0_0 a0_1 l0_2).bind fun bt265 => ((laws_toCell.f k a1_0 a1_1).bind fun bt270 => ((impl_TakePiece.f k bt265.1 bt265.2.1 bt265.2.2 bt270.1 bt270.2).bind fun bt272 => ((laws_eqBoard.f k bt272.1 bt272.2.1 bt272.2.2.1 t230 t231 t232).bind fun t279 => (if t279 = true then (if bt272.2.2.2 = t235 then ((laws_heldBoard.f k t245 t246 bt262.2 1).bind fun t280 => (if t280 < 0 then (none) else (if t280 = bt262.1 then (some true) else (none)))) else (none)) else (none)))))) else (none))))) = some r := by rw [if_pos rfl] at H; exact H
 clear H
 have H := H1
 clear H1
 replace H := zob H
 obtain ⟨⟨t262, t263⟩, A260, H⟩ := H
 replace H : ((laws_heldBoard.f k t245 t246 t263 1).bind fun t264 => (if t264 < 0 then (none) else (if t264 = t262 then ((laws_toBoard.f k a0_0 a0_1 l0_2).bind fun bt265 => ((laws_toCell.f k a1_0 a1_1).bind fun bt270 => ((impl_TakePiece.f k bt265.1 bt265.2.1 bt265.2.2 bt270.1 bt270.2).bind fun bt272 => ((laws_eqBoard.f k bt272.1 bt272.2.1 bt272.2.2.1 t230 t231 t232).bind fun t279 => (if t279 = true then (if bt272.2.2.2 = t235 then ((laws_heldBoard.f k t245 t246 t263 1).bind fun t280 => (if t280 < 0 then (none) else (if t280 = t262 then (some true) else (none)))) else (none)) else (none)))))) else (none)))) = some r := H
 have A26 := Aside0.mk A260
 clear A260
 replace H := zob H
 obtain ⟨t264, A270, H⟩ := H
 replace H : (if t264 < 0 then (none) else (if t264 = t262 then ((laws_toBoard.f k a0_0 a0_1 l0_2).bind fun bt265 => ((laws_toCell.f k a1_0 a1_1).bind fun bt270 => ((impl_TakePiece.f k bt265.1 bt265.2.1 bt265.2.2 bt270.1 bt270.2).bind fun bt272 => ((laws_eqBoard.f k bt272.1 bt272.2.1 bt272.2.2.1 t230 t231 t232).bind fun t279 => (if t279 = true then (if bt272.2.2.2 = t235 then ((laws_heldBoard.f k t245 t246 t263 1).bind fun t280 => (if t280 < 0 then (none) else (if t280 = t262 then (some true) else (none)))) else (none)) else (none)))))) else (none))) = some r := H
 have A27 := Aside0.mk A270
 clear A270
 by_cases c28 : t264 < 0
 ·rw [if_pos c28] at H
  exact absurd H (by simp)
 rw [if_neg c28] at H
 have c28b0 : decide (t264 < 0) = false := decide_eq_false c28
 clear c28
 by_cases c29 : t264 = t262
 rotate_left
 ·rw [if_neg c29] at H
  exact absurd H (by simp)
 rw [if_pos c29] at H
 have c29b0 : (t264 == t262) = true := beq_iff_eq.mpr c29
 have c29b1 : (t264 != t262) = false := bne_eq_false_iff_eq.mpr c29
 clear c29
 replace H := zob H
 obtain ⟨⟨t265, t266, t267⟩, A300, H⟩ := H
 replace H : ((laws_toCell.f k a1_0 a1_1).bind fun bt270 => ((impl_TakePiece.f k t265 t266 t267 bt270.1 bt270.2).bind fun bt272 => ((laws_eqBoard.f k bt272.1 bt272.2.1 bt272.2.2.1 t230 t231 t232).bind fun t279 => (if t279 = true then (if bt272.2.2.2 = t235 then ((laws_heldBoard.f k t245 t246 t263 1).bind fun t280 => (if t280 < 0 then (none) else (if t280 = t262 then (some true) else (none)))) else (none)) else (none))))) = some r := H
 have A30 := Aside0.mk A300
 clear A300
 replace H := zob H
 obtain ⟨⟨t270, t271⟩, A310, H⟩ := H
 replace H : ((impl_TakePiece.f k t265 t266 t267 t270 t271).bind fun bt272 => ((laws_eqBoard.f k bt272.1 bt272.2.1 bt272.2.2.1 t230 t231 t232).bind fun t279 => (if t279 = true then (if bt272.2.2.2 = t235 then ((laws_heldBoard.f k t245 t246 t263 1).bind fun t280 => (if t280 < 0 then (none) else (if t280 = t262 then (some true) else (none)))) else (none)) else (none)))) = some r := H
 have A31 := Aside0.mk A310
 clear A310
 replace H := zob H
 obtain ⟨⟨t272, t273, t274, t277⟩, A320, H⟩ := H
 replace H : ((laws_eqBoard.f k t272 t273 t274 t230 t231 t232).bind fun t279 => (if t279 = true then (if t277 = t235 then ((laws_heldBoard.f k t245 t246 t263 1).bind fun t280 => (if t280 < 0 then (none) else (if t280 = t262 then (some true) else (none)))) else (none)) else (none))) = some r := H
 have A32 := Aside0.mk A320
 clear A320
 replace H := zob H
 obtain ⟨t279, A330, H⟩ := H
 replace H : (if t279 = true then (if t277 = t235 then ((laws_heldBoard.f k t245 t246 t263 1).bind fun t280 => (if t280 < 0 then (none) else (if t280 = t262 then (some true) else (none)))) else (none)) else (none)) = some r := H
 have A33 := Aside0.mk A330
 clear A330
 by_cases c34 : t279 = true
 rotate_left
 ·replace c34 := Bool.eq_false_iff.mpr c34
  subst c34
  have H1 : (none) = some r := by rw [if_neg (show ¬ (false = true) by decide)] at H; exact H
  clear H
  have H := H1
  clear H1
  exact absurd H (by simp)
 subst c34
 have H1 : (if t277 = t235 then ((laws_heldBoard.f k t245 t246 t263 1).bind fun t280 => (if t280 < 0 then (none) else (if t280 = t262 then (some true) else (none)))) else (none)) = some r := by rw [if_pos rfl] at H; exact H
 clear H
 have H := H1
 clear H1
 by_cases c35 : t277 = t235
 rotate_left
 ·rw [if_neg c35] at H
  exact absurd H (by simp)
 rw [if_pos c35] at H
 have c35b0 : (t277 == t235) = true := beq_iff_eq.mpr c35
 have c35b1 : (t277 != t235) = false := bne_eq_false_iff_eq.mpr c35
 clear c35
 replace H := zob H
 obtain ⟨t280, A360, H⟩ := H
 replace H : (if t280 < 0 then (none) else (if t280 = t262 then (some true) else (none))) = some r := H
 have A36 := Aside0.mk A360
 clear A360
 by_cases c37 : t280 < 0
 ·rw [if_pos c37] at H
  exact absurd H (by simp)
 rw [if_neg c37] at H
 have c37b0 : decide (t280 < 0) = false := decide_eq_false c37
 clear c37
 by_cases c38 : t280 = t262
 rotate_left
 ·rw [if_neg c38] at H
  exact absurd H (by simp)
 rw [if_pos c38] at H
 have c38b0 : (t280 == t262) = true := beq_iff_eq.mpr c38
 have c38b1 : (t280 != t262) = false := bne_eq_false_iff_eq.mpr c38
 clear c38
 obtain rfl := Option.some.inj H
 go_enter Try.func3, Try.ntmps3
 try go_wp2_with (first | ((with_reducible refine gate_dst (N := 2) rfl ?_); refine zbx 2 #[.int .i8 a0_0, .int .i8 a0_1, .slice A0_2 l0_2.length c0_2] 25 ?_; intro gb220 hg w39 hbox hb; have n_ : _ ∧ _ ∧ _ ∧ _ := ⟨zb HB hb, Aside0.mk (hbox), zg HB hg, zg HB hg⟩; clear HB; obtain ⟨HB, BK220, GW220, GE220⟩ := n_; clear hb hbox hg) | ((with_reducible refine gate_dst (N := 3) rfl ?_); refine zbx 3 #[.int .i8 a1_0, .int .i8 a1_1] 26 ?_; intro gb221 hg w40 hbox hb; have n_ : _ ∧ _ ∧ _ ∧ _ ∧ _ ∧ _ ∧ _ := ⟨zk BK220 hb, zbs hb, Aside0.mk (hbox), zg HB hg, zg HB hg, zn1 BK220 hg, zn2 BK220 hg⟩; clear BK220 HB; obtain ⟨BK220, HB, BK221, GW221, GE221, NB220_221, NB221_220⟩ := n_; clear hb hbox hg; have hnb41 := NB220_221.out; have hnc41 := NB221_220.out; obtain ⟨z42_0, z42_1, z42_2, y42_0, y42_1, y42_2⟩ := zB3 BK220) | ((with_reducible refine gate_callee (f := 6) rfl ?_); refine goesL_ (some 18) rfl rfl Try.func6 (by kernel_rfl) rfl #[.agg #[.int .i8 a0_0, .int .i8 a0_1, .slice A0_2 l0_2.length c0_2], .int .i64 1048576] rfl zm ?_; (with_reducible refine (laws_szBoard.calls a0_0 a0_1 _ _ l0_2 1048576 t222 _ ?side1 ?side2 A3.out).mono ?_); (case side1 => exact zcc HB HR0_2.out); (case side2 => exact HC0_2.out); rintro e w43 ⟨rfl, hb⟩; refine ⟨_, rfl, ?_⟩; have n_ : _ ∧ _ ∧ _ := ⟨zk BK220 hb, zk BK221 hb, zbs hb⟩; clear BK220 BK221 HB; obtain ⟨BK220, BK221, HB⟩ := n_; (try clear hb); (try clear hb2); (try clear hk); (try clear hi)))
 have n_ : _ ∧ _ ∧ _ := ⟨Aside0.mk (blk_drew BK220.out), Aside0.mk (blk_drew BK221.out), Aside0.mk (below_drew1 HB.out)⟩
 clear BK220 BK221 HB
 obtain ⟨BK220, BK221, HB⟩ := n_
 refine start_ (n := 11) (S := fun w' => w'.cell? ⟨gb220, 0, none⟩ = some (.int .i8 a0_0) ∧ w'.cell? ⟨gb220, 1, none⟩ = some (.int .i8 a0_1) ∧ w'.cell? ⟨gb220, 2, none⟩ = some (.slice A0_2 l0_2.length c0_2) ∧ w'.cell? ⟨gb221, 0, none⟩ = some (.int .i8 a1_0) ∧ w'.cell? ⟨gb221, 1, none⟩ = some (.int .i8 a1_1)) (ds := []) (zq 11 0) (by kernel_rfl) rfl rfl ⟨(blk_cell BK220.out 0).trans rfl, (blk_cell BK220.out 1).trans rfl, (blk_cell BK220.out 2).trans rfl, (blk_cell BK221.out 0).trans rfl, (blk_cell BK221.out 1).trans rfl⟩ (fun hHeld => ?_); refine with_tabW laws_FnExactTakePiece.tab5 laws_FnExactTakePiece.bits5 (fun HT_ HW_ => ?_)
 generalize w43.drew = w44 at BK220 BK221 HB hHeld ⊢
 refine ztk 0 (some 22) (zq 11 1) HT_ HW_ rfl hHeld (Or.inl ⟨by rfl, by (rintro w' ⟨s0, s1, s2, s3, s4⟩; go_simp; with_reducible rfl)⟩) ?_
 refine ztk 2 (some 24) (zq 11 5) HT_ HW_ rfl hHeld (Or.inl ⟨by rfl, by (rintro w' ⟨s0, s1, s2, s3, s4⟩; go_simp; with_reducible rfl)⟩) ?_
 refine join_ (σ := Value × Value × Nat) 2 (zq 11 511) (fun s_ => [(23, .agg #[.int .i8 t223, .int .i8 t224, s_.1]), (25, .agg #[.int .i8 t228, .int .i8 t229]), (26, .tuple #[.agg #[.int .i8 t230, .int .i8 t231, s_.2.1], .int .i64 t235]), (6, .pointer (some ⟨s_.2.2, 0, none⟩)), (21, .tuple #[.agg #[.int .i8 t230, .int .i8 t231, s_.2.1], .int .i64 t235]), (27, .agg #[.int .i8 t230, .int .i8 t231, s_.2.1]), (28, .int .i64 t235)]) (fun s_ w' => (w'.cell? ⟨gb220, 0, none⟩ = some (.int .i8 a0_0) ∧ w'.cell? ⟨gb220, 1, none⟩ = some (.int .i8 a0_1) ∧ w'.cell? ⟨gb220, 2, none⟩ = some (.slice A0_2 l0_2.length c0_2) ∧ w'.cell? ⟨gb221, 0, none⟩ = some (.int .i8 a1_0) ∧ w'.cell? ⟨gb221, 1, none⟩ = some (.int .i8 a1_1)) ∧ (Kd.R k62 62 w' w.heap.size (fun k_ => some k_ ≠ (s_.2.1 : Value).ownBlock) s_.1 t225) ∧ (Kd.R k62 62 w' w.heap.size (fun k_ => some k_ ≠ (s_.1 : Value).ownBlock) s_.2.1 t232) ∧ (w'.heap[gb220]? = some (.cells #[.int .i8 a0_0, .int .i8 a0_1, .slice A0_2 l0_2.length c0_2] 25 (0, 0))) ∧ (w'.heap[gb221]? = some (.cells #[.int .i8 a1_0, .int .i8 a1_1] 26 (0, 0))) ∧ (w'.heap[s_.2.2]? = some (.cells #[.int .i8 0, .int .i8 0, .slice none 0 0] 30 (0, 0))) ∧ (w.heap.size ≤ s_.2.2) ∧ (w.heap.size ≤ s_.2.2) ∧ (gb220 ≠ s_.2.2) ∧ (s_.2.2 ≠ gb220) ∧ (gb221 ≠ s_.2.2) ∧ (s_.2.2 ≠ gb221) ∧ (Below w.heap.size w w')) ?_ ?_
 rotate_left
 ·intro hCont
  refine two_ (i := 1) (j := 8) (Ni := some 23) (Nj := some 6) (zq 11 7) (zq 11 261) rfl rfl rfl rfl (two_of HT_.out (by kernel_rfl)) (by decide) (by decide) (fun K hK => ?_) (fun K hK => ?_)
  rotate_left
  ·skip
   refine box_step ?hg (N := 6) ?hd (cs := #[.int .i8 0, .int .i8 0, .slice none 0 0]) (t := 30) ?hr ?_; (case hd => rfl); (case hg => rfl); (case hr => exact zgs)
   intro gb236 hg w45 hbox hb
   have n_ : _ ∧ _ ∧ _ ∧ _ ∧ _ ∧ _ ∧ _ ∧ _ ∧ _ ∧ _ := ⟨zk BK220 hb, zk BK221 hb, zbs hb, Aside0.mk (hbox), zg HB hg, zg HB hg, zn1 BK220 hg, zn2 BK220 hg, zn1 BK221 hg, zn2 BK221 hg⟩
   clear BK220 BK221 HB
   obtain ⟨BK220, BK221, HB, BK236, GW236, GE236, NB220_236, NB236_220, NB221_236, NB236_221⟩ := n_
   clear hb hbox hg
   refine hK.out _ _ ⟨(blk_cell BK220.out 0).trans rfl, (blk_cell BK220.out 1).trans rfl, (blk_cell BK220.out 2).trans rfl, (blk_cell BK221.out 0).trans rfl, (blk_cell BK221.out 1).trans rfl⟩ (fun hHeld => ?_)
   clear hK K
   refine norm_ (a' := ?_) ?_ ?_
   rotate_left
   ·show Act.put _ (some 6) _ = _
    exact zap
   refine one_ (i := 1) (N := some 23) (zq 11 263) rfl rfl (one_of HT_.out (by kernel_rfl)) (by decide) (fun K hK => ?_)
   refine goes_ Try.func8 (by kernel_rfl) rfl #[.agg #[.int .i8 a0_0, .int .i8 a0_1, .slice A0_2 l0_2.length c0_2]] (by rfl) rfl rfl zm ?_
   with_reducible refine (laws_toBoard.calls k a0_0 a0_1 _ _ l0_2 t223 t224 t225 _ ?side1 ?side2 A10.out).mono ?_
   (case side1 => exact zcc HB HR0_2.out)
   (case side2 => exact HC0_2.out)
   rintro e w46 ⟨v226, rfl, ho0, hb⟩
   refine ⟨_, rfl, ?_⟩
   have n_ : _ ∧ _ ∧ _ ∧ _ ∧ _ := ⟨Aside0.mk (Kd.R_lower ho0 (zz HB)), zk BK220 hb, zk BK221 hb, zk BK236 hb, zbs hb⟩
   clear BK220 BK221 BK236 HB
   obtain ⟨HO227, BK220, BK221, BK236, HB⟩ := n_
   (try clear hb)
   (try clear hb2)
   (try clear hk)
   (try clear hi)
   (try clear ho0)
   refine hK.out _ _ ⟨(blk_cell BK220.out 0).trans rfl, (blk_cell BK220.out 1).trans rfl, (blk_cell BK220.out 2).trans rfl, (blk_cell BK221.out 0).trans rfl, (blk_cell BK221.out 1).trans rfl⟩ (fun hHeld => ?_)
   clear hK K
   refine norm_ (a' := ?_) ?_ ?_
   rotate_left
   ·show Act.put _ (some 23) _ = _
    exact zap
   refine one_ (i := 3) (N := some 25) (zq 11 271) rfl rfl (one_of HT_.out (by kernel_rfl)) (by decide) (fun K hK => ?_)
   refine goes_ Try.func9 (by kernel_rfl) rfl #[.agg #[.int .i8 a1_0, .int .i8 a1_1]] (by rfl) rfl rfl zm ?_
   with_reducible refine (laws_toCell.calls k a1_0 a1_1 t228 t229 _ A11.out).mono ?_
   rintro e w47 ⟨rfl, hb⟩
   refine ⟨_, rfl, ?_⟩
   have n_ : _ ∧ _ ∧ _ ∧ _ ∧ _ := ⟨zr HO227 hb, zk BK220 hb, zk BK221 hb, zk BK236 hb, zbs hb⟩
   clear HO227 BK220 BK221 BK236 HB
   obtain ⟨HO227, BK220, BK221, BK236, HB⟩ := n_
   (try clear hb)
   (try clear hb2)
   (try clear hk)
   (try clear hi)
   obtain ⟨Ao48, co48, eo48⟩ := Kd.R_slice HO227.out
   (first | subst eo48 | (injection eo48 with f1_ f2_ f3_; have f4_ := f1_.symm; have f5_ := f3_.symm; clear f1_ f2_ f3_; subst f4_; subst f5_))
   refine hK.out _ _ ⟨(blk_cell BK220.out 0).trans rfl, (blk_cell BK220.out 1).trans rfl, (blk_cell BK220.out 2).trans rfl, (blk_cell BK221.out 0).trans rfl, (blk_cell BK221.out 1).trans rfl⟩ (fun hHeld => ?_)
   clear hK K
   refine norm_ (a' := ?_) ?_ ?_
   rotate_left
   ·show Act.put _ (some 25) _ = _
    exact zap
   refine one_ (i := 4) (N := some 26) (zq 11 287) rfl rfl (one_of HT_.out (by kernel_rfl)) (by decide) (fun K hK => ?_)
   refine goes_ Try.func7 (by kernel_rfl) rfl #[.agg #[.int .i8 t223, .int .i8 t224, .slice Ao48 t225.length co48], .agg #[.int .i8 t228, .int .i8 t229]] (by rfl) rfl rfl zm ?_
   with_reducible refine (spec_TakePiece.calls k t223 t224 _ _ t225 t228 t229 t230 t231 t232 t235 _ ?side1 ?side2 A12.out).mono ?_
   (case side1 => exact zrc HO227)
   (case side2 => exact (Kd.R_reads' HO227.out).2.1)
   rintro e w49 ⟨v233, rfl, ho0, hb⟩
   refine ⟨_, rfl, ?_⟩
   have n_ : _ ∧ _ ∧ _ ∧ _ ∧ _ ∧ _ := ⟨Aside0.mk (Kd.R_elder' (ze HO227).out (Kd.R_base ho0) hb), Aside0.mk (Kd.R_lower (Kd.R_new' ho0 (Kd.R_lt (ze HO227).out)) (zz HB)), zk BK220 hb, zk BK221 hb, zk BK236 hb, zbs hb⟩
   clear HO227 BK220 BK221 BK236 HB
   obtain ⟨HO227, HO234, BK220, BK221, BK236, HB⟩ := n_
   (try clear hb)
   (try clear hb2)
   (try clear hk)
   (try clear hi)
   (try clear ho0)
   refine hK.out _ _ ⟨(blk_cell BK220.out 0).trans rfl, (blk_cell BK220.out 1).trans rfl, (blk_cell BK220.out 2).trans rfl, (blk_cell BK221.out 0).trans rfl, (blk_cell BK221.out 1).trans rfl⟩ (fun hHeld => ?_)
   clear hK K
   refine norm_ (a' := ?_) ?_ ?_
   rotate_left
   ·show Act.put _ (some 26) _ = _
    exact zap
   refine zpu 5 (some 21) (zq 11 319) HT_ ?_
   refine zpu 6 (some 27) (zq 11 383) HT_ ?_
   refine zpu 7 (some 28) (zq 11 511) HT_ ?_
   exact norm_ (by simp only [putAll, Act.put, List.setIfInBounds_toArray, List.set_cons_zero, List.set_cons_succ]) (hCont (.slice Ao48 t225.length co48, v233, gb236) _ ⟨hHeld, (by (with_reducible repeat (first | apply Kd.R_alloc | apply Kd.R_drewN | apply Kd.R_drew)); exact Kd.R_mono HO227.out (fun _ hk => hk.2)), (by (with_reducible repeat (first | apply Kd.R_alloc | apply Kd.R_drewN | apply Kd.R_drew)); exact Kd.R_mono HO234.out (fun _ hk => hk.2)), (zh BK220).out, (zh BK221).out, (zh BK236).out, GW236.out, GE236.out, NB220_236.out, NB236_220.out, NB221_236.out, NB236_221.out, zbo⟩)
  skip
  refine goes_ Try.func8 (by kernel_rfl) rfl #[.agg #[.int .i8 a0_0, .int .i8 a0_1, .slice A0_2 l0_2.length c0_2]] (by rfl) rfl rfl zm ?_
  with_reducible refine (laws_toBoard.calls k a0_0 a0_1 _ _ l0_2 t223 t224 t225 _ ?side1 ?side2 A10.out).mono ?_
  (case side1 => exact zcc HB HR0_2.out)
  (case side2 => exact HC0_2.out)
  rintro e w45 ⟨v226, rfl, ho0, hb⟩
  refine ⟨_, rfl, ?_⟩
  have n_ : _ ∧ _ ∧ _ ∧ _ := ⟨Aside0.mk (Kd.R_lower ho0 (zz HB)), zk BK220 hb, zk BK221 hb, zbs hb⟩
  clear BK220 BK221 HB
  obtain ⟨HO227, BK220, BK221, HB⟩ := n_
  (try clear hb)
  (try clear hb2)
  (try clear hk)
  (try clear hi)
  (try clear ho0)
  refine hK.out _ _ ⟨(blk_cell BK220.out 0).trans rfl, (blk_cell BK220.out 1).trans rfl, (blk_cell BK220.out 2).trans rfl, (blk_cell BK221.out 0).trans rfl, (blk_cell BK221.out 1).trans rfl⟩ (fun hHeld => ?_)
  clear hK K
  refine norm_ (a' := ?_) ?_ ?_
  rotate_left
  ·show Act.put _ (some 23) _ = _
   exact zap
  refine two_ (i := 3) (j := 8) (Ni := some 25) (Nj := some 6) (zq 11 15) (zq 11 263) rfl rfl rfl rfl (two_of HT_.out (by kernel_rfl)) (by decide) (by decide) (fun K hK => ?_) (fun K hK => ?_)
  rotate_left
  ·skip
   refine box_step ?hg (N := 6) ?hd (cs := #[.int .i8 0, .int .i8 0, .slice none 0 0]) (t := 30) ?hr ?_; (case hd => rfl); (case hg => rfl); (case hr => exact zgs)
   intro gb236 hg w46 hbox hb
   have n_ : _ ∧ _ ∧ _ ∧ _ ∧ _ ∧ _ ∧ _ ∧ _ ∧ _ ∧ _ ∧ _ := ⟨zr HO227 hb, zk BK220 hb, zk BK221 hb, zbs hb, Aside0.mk (hbox), zg HB hg, zg HB hg, zn1 BK220 hg, zn2 BK220 hg, zn1 BK221 hg, zn2 BK221 hg⟩
   clear HO227 BK220 BK221 HB
   obtain ⟨HO227, BK220, BK221, HB, BK236, GW236, GE236, NB220_236, NB236_220, NB221_236, NB236_221⟩ := n_
   clear hb hbox hg
   refine hK.out _ _ ⟨(blk_cell BK220.out 0).trans rfl, (blk_cell BK220.out 1).trans rfl, (blk_cell BK220.out 2).trans rfl, (blk_cell BK221.out 0).trans rfl, (blk_cell BK221.out 1).trans rfl⟩ (fun hHeld => ?_)
   clear hK K
   refine norm_ (a' := ?_) ?_ ?_
   rotate_left
   ·show Act.put _ (some 6) _ = _
    exact zap
   refine one_ (i := 3) (N := some 25) (zq 11 271) rfl rfl (one_of HT_.out (by kernel_rfl)) (by decide) (fun K hK => ?_)
   refine goes_ Try.func9 (by kernel_rfl) rfl #[.agg #[.int .i8 a1_0, .int .i8 a1_1]] (by rfl) rfl rfl zm ?_
   with_reducible refine (laws_toCell.calls k a1_0 a1_1 t228 t229 _ A11.out).mono ?_
   rintro e w47 ⟨rfl, hb⟩
   refine ⟨_, rfl, ?_⟩
   have n_ : _ ∧ _ ∧ _ ∧ _ ∧ _ := ⟨zr HO227 hb, zk BK220 hb, zk BK221 hb, zk BK236 hb, zbs hb⟩
   clear HO227 BK220 BK221 BK236 HB
   obtain ⟨HO227, BK220, BK221, BK236, HB⟩ := n_
   (try clear hb)
   (try clear hb2)
   (try clear hk)
   (try clear hi)
   obtain ⟨Ao48, co48, eo48⟩ := Kd.R_slice HO227.out
   (first | subst eo48 | (injection eo48 with f1_ f2_ f3_; have f4_ := f1_.symm; have f5_ := f3_.symm; clear f1_ f2_ f3_; subst f4_; subst f5_))
   refine hK.out _ _ ⟨(blk_cell BK220.out 0).trans rfl, (blk_cell BK220.out 1).trans rfl, (blk_cell BK220.out 2).trans rfl, (blk_cell BK221.out 0).trans rfl, (blk_cell BK221.out 1).trans rfl⟩ (fun hHeld => ?_)
   clear hK K
   refine norm_ (a' := ?_) ?_ ?_
   rotate_left
   ·show Act.put _ (some 25) _ = _
    exact zap
   refine one_ (i := 4) (N := some 26) (zq 11 287) rfl rfl (one_of HT_.out (by kernel_rfl)) (by decide) (fun K hK => ?_)
   refine goes_ Try.func7 (by kernel_rfl) rfl #[.agg #[.int .i8 t223, .int .i8 t224, .slice Ao48 t225.length co48], .agg #[.int .i8 t228, .int .i8 t229]] (by rfl) rfl rfl zm ?_
   with_reducible refine (spec_TakePiece.calls k t223 t224 _ _ t225 t228 t229 t230 t231 t232 t235 _ ?side1 ?side2 A12.out).mono ?_
   (case side1 => exact zrc HO227)
   (case side2 => exact (Kd.R_reads' HO227.out).2.1)
   rintro e w49 ⟨v233, rfl, ho0, hb⟩
   refine ⟨_, rfl, ?_⟩
   have n_ : _ ∧ _ ∧ _ ∧ _ ∧ _ ∧ _ := ⟨Aside0.mk (Kd.R_elder' (ze HO227).out (Kd.R_base ho0) hb), Aside0.mk (Kd.R_lower (Kd.R_new' ho0 (Kd.R_lt (ze HO227).out)) (zz HB)), zk BK220 hb, zk BK221 hb, zk BK236 hb, zbs hb⟩
   clear HO227 BK220 BK221 BK236 HB
   obtain ⟨HO227, HO234, BK220, BK221, BK236, HB⟩ := n_
   (try clear hb)
   (try clear hb2)
   (try clear hk)
   (try clear hi)
   (try clear ho0)
   refine hK.out _ _ ⟨(blk_cell BK220.out 0).trans rfl, (blk_cell BK220.out 1).trans rfl, (blk_cell BK220.out 2).trans rfl, (blk_cell BK221.out 0).trans rfl, (blk_cell BK221.out 1).trans rfl⟩ (fun hHeld => ?_)
   clear hK K
   refine norm_ (a' := ?_) ?_ ?_
   rotate_left
   ·show Act.put _ (some 26) _ = _
    exact zap
   refine zpu 5 (some 21) (zq 11 319) HT_ ?_
   refine zpu 6 (some 27) (zq 11 383) HT_ ?_
   refine zpu 7 (some 28) (zq 11 511) HT_ ?_
   exact norm_ (by simp only [putAll, Act.put, List.setIfInBounds_toArray, List.set_cons_zero, List.set_cons_succ]) (hCont (.slice Ao48 t225.length co48, v233, gb236) _ ⟨hHeld, (by (with_reducible repeat (first | apply Kd.R_alloc | apply Kd.R_drewN | apply Kd.R_drew)); exact Kd.R_mono HO227.out (fun _ hk => hk.2)), (by (with_reducible repeat (first | apply Kd.R_alloc | apply Kd.R_drewN | apply Kd.R_drew)); exact Kd.R_mono HO234.out (fun _ hk => hk.2)), (zh BK220).out, (zh BK221).out, (zh BK236).out, GW236.out, GE236.out, NB220_236.out, NB236_220.out, NB221_236.out, NB236_221.out, zbo⟩)
  skip
  refine goes_ Try.func9 (by kernel_rfl) rfl #[.agg #[.int .i8 a1_0, .int .i8 a1_1]] (by rfl) rfl rfl zm ?_
  with_reducible refine (laws_toCell.calls k a1_0 a1_1 t228 t229 _ A11.out).mono ?_
  rintro e w46 ⟨rfl, hb⟩
  refine ⟨_, rfl, ?_⟩
  have n_ : _ ∧ _ ∧ _ ∧ _ := ⟨zr HO227 hb, zk BK220 hb, zk BK221 hb, zbs hb⟩
  clear HO227 BK220 BK221 HB
  obtain ⟨HO227, BK220, BK221, HB⟩ := n_
  (try clear hb)
  (try clear hb2)
  (try clear hk)
  (try clear hi)
  obtain ⟨Ao47, co47, eo47⟩ := Kd.R_slice HO227.out
  (first | subst eo47 | (injection eo47 with f1_ f2_ f3_; have f4_ := f1_.symm; have f5_ := f3_.symm; clear f1_ f2_ f3_; subst f4_; subst f5_))
  refine hK.out _ _ ⟨(blk_cell BK220.out 0).trans rfl, (blk_cell BK220.out 1).trans rfl, (blk_cell BK220.out 2).trans rfl, (blk_cell BK221.out 0).trans rfl, (blk_cell BK221.out 1).trans rfl⟩ (fun hHeld => ?_)
  clear hK K
  refine norm_ (a' := ?_) ?_ ?_
  rotate_left
  ·show Act.put _ (some 25) _ = _
   exact zap
  refine two_ (i := 4) (j := 8) (Ni := some 26) (Nj := some 6) (zq 11 31) (zq 11 271) rfl rfl rfl rfl (two_of HT_.out (by kernel_rfl)) (by decide) (by decide) (fun K hK => ?_) (fun K hK => ?_)
  ·skip
   refine goes_ Try.func7 (by kernel_rfl) rfl #[.agg #[.int .i8 t223, .int .i8 t224, .slice Ao47 t225.length co47], .agg #[.int .i8 t228, .int .i8 t229]] (by rfl) rfl rfl zm ?_
   with_reducible refine (spec_TakePiece.calls k t223 t224 _ _ t225 t228 t229 t230 t231 t232 t235 _ ?side1 ?side2 A12.out).mono ?_
   (case side1 => exact zrc HO227)
   (case side2 => exact (Kd.R_reads' HO227.out).2.1)
   rintro e w48 ⟨v233, rfl, ho0, hb⟩
   refine ⟨_, rfl, ?_⟩
   have n_ : _ ∧ _ ∧ _ ∧ _ ∧ _ := ⟨Aside0.mk (Kd.R_elder' (ze HO227).out (Kd.R_base ho0) hb), Aside0.mk (Kd.R_lower (Kd.R_new' ho0 (Kd.R_lt (ze HO227).out)) (zz HB)), zk BK220 hb, zk BK221 hb, zbs hb⟩
   clear HO227 BK220 BK221 HB
   obtain ⟨HO227, HO234, BK220, BK221, HB⟩ := n_
   (try clear hb)
   (try clear hb2)
   (try clear hk)
   (try clear hi)
   (try clear ho0)
   refine hK.out _ _ ⟨(blk_cell BK220.out 0).trans rfl, (blk_cell BK220.out 1).trans rfl, (blk_cell BK220.out 2).trans rfl, (blk_cell BK221.out 0).trans rfl, (blk_cell BK221.out 1).trans rfl⟩ (fun hHeld => ?_)
   clear hK K
   refine norm_ (a' := ?_) ?_ ?_
   rotate_left
   ·show Act.put _ (some 26) _ = _
    exact zap
   refine zpu 5 (some 21) (zq 11 63) HT_ ?_
   refine zpu 6 (some 27) (zq 11 127) HT_ ?_
   refine zpu 7 (some 28) (zq 11 255) HT_ ?_
   refine one_ (i := 8) (N := some 6) (zq 11 511) rfl rfl (one_of HT_.out (by kernel_rfl)) (by decide) (fun K hK => ?_)
   refine box_step ?hg (N := 6) ?hd (cs := #[.int .i8 0, .int .i8 0, .slice none 0 0]) (t := 30) ?hr ?_; (case hd => rfl); (case hg => rfl); (case hr => exact zgs)
   intro gb236 hg w49 hbox hb
   have n_ : _ ∧ _ ∧ _ ∧ _ ∧ _ ∧ _ ∧ _ ∧ _ ∧ _ ∧ _ ∧ _ ∧ _ := ⟨zr HO227 hb, zr HO234 hb, zk BK220 hb, zk BK221 hb, zbs hb, Aside0.mk (hbox), zg HB hg, zg HB hg, zn1 BK220 hg, zn2 BK220 hg, zn1 BK221 hg, zn2 BK221 hg⟩
   clear HO227 HO234 BK220 BK221 HB
   obtain ⟨HO227, HO234, BK220, BK221, HB, BK236, GW236, GE236, NB220_236, NB236_220, NB221_236, NB236_221⟩ := n_
   clear hb hbox hg
   refine hK.out _ _ ⟨(blk_cell BK220.out 0).trans rfl, (blk_cell BK220.out 1).trans rfl, (blk_cell BK220.out 2).trans rfl, (blk_cell BK221.out 0).trans rfl, (blk_cell BK221.out 1).trans rfl⟩ (fun hHeld => ?_)
   clear hK K
   refine norm_ (a' := ?_) ?_ ?_
   rotate_left
   ·show Act.put _ (some 6) _ = _
    exact zap
   exact norm_ (by simp only [putAll, Act.put, List.setIfInBounds_toArray, List.set_cons_zero, List.set_cons_succ]) (hCont (.slice Ao47 t225.length co47, v233, gb236) _ ⟨hHeld, (by (with_reducible repeat (first | apply Kd.R_alloc | apply Kd.R_drewN | apply Kd.R_drew)); exact Kd.R_mono HO227.out (fun _ hk => hk.2)), (by (with_reducible repeat (first | apply Kd.R_alloc | apply Kd.R_drewN | apply Kd.R_drew)); exact Kd.R_mono HO234.out (fun _ hk => hk.2)), (zh BK220).out, (zh BK221).out, (zh BK236).out, GW236.out, GE236.out, NB220_236.out, NB236_220.out, NB221_236.out, NB236_221.out, zbo⟩)
  skip
  refine box_step ?hg (N := 6) ?hd (cs := #[.int .i8 0, .int .i8 0, .slice none 0 0]) (t := 30) ?hr ?_; (case hd => rfl); (case hg => rfl); (case hr => exact zgs)
  intro gb236 hg w47 hbox hb
  have n_ : _ ∧ _ ∧ _ ∧ _ ∧ _ ∧ _ ∧ _ ∧ _ ∧ _ ∧ _ ∧ _ := ⟨zr HO227 hb, zk BK220 hb, zk BK221 hb, zbs hb, Aside0.mk (hbox), zg HB hg, zg HB hg, zn1 BK220 hg, zn2 BK220 hg, zn1 BK221 hg, zn2 BK221 hg⟩
  clear HO227 BK220 BK221 HB
  obtain ⟨HO227, BK220, BK221, HB, BK236, GW236, GE236, NB220_236, NB236_220, NB221_236, NB236_221⟩ := n_
  clear hb hbox hg
  obtain ⟨Ao48, co48, eo48⟩ := Kd.R_slice HO227.out
  (first | subst eo48 | (injection eo48 with f1_ f2_ f3_; have f4_ := f1_.symm; have f5_ := f3_.symm; clear f1_ f2_ f3_; subst f4_; subst f5_))
  refine hK.out _ _ ⟨(blk_cell BK220.out 0).trans rfl, (blk_cell BK220.out 1).trans rfl, (blk_cell BK220.out 2).trans rfl, (blk_cell BK221.out 0).trans rfl, (blk_cell BK221.out 1).trans rfl⟩ (fun hHeld => ?_)
  clear hK K
  refine norm_ (a' := ?_) ?_ ?_
  rotate_left
  ·show Act.put _ (some 6) _ = _
   exact zap
  refine one_ (i := 4) (N := some 26) (zq 11 287) rfl rfl (one_of HT_.out (by kernel_rfl)) (by decide) (fun K hK => ?_)
  refine goes_ Try.func7 (by kernel_rfl) rfl #[.agg #[.int .i8 t223, .int .i8 t224, .slice Ao48 t225.length co48], .agg #[.int .i8 t228, .int .i8 t229]] (by rfl) rfl rfl zm ?_
  with_reducible refine (spec_TakePiece.calls k t223 t224 _ _ t225 t228 t229 t230 t231 t232 t235 _ ?side1 ?side2 A12.out).mono ?_
  (case side1 => exact zrc HO227)
  (case side2 => exact (Kd.R_reads' HO227.out).2.1)
  rintro e w49 ⟨v233, rfl, ho0, hb⟩
  refine ⟨_, rfl, ?_⟩
  have n_ : _ ∧ _ ∧ _ ∧ _ ∧ _ ∧ _ := ⟨Aside0.mk (Kd.R_elder' (ze HO227).out (Kd.R_base ho0) hb), Aside0.mk (Kd.R_lower (Kd.R_new' ho0 (Kd.R_lt (ze HO227).out)) (zz HB)), zk BK220 hb, zk BK221 hb, zk BK236 hb, zbs hb⟩
  clear HO227 BK220 BK221 BK236 HB
  obtain ⟨HO227, HO234, BK220, BK221, BK236, HB⟩ := n_
  (try clear hb)
  (try clear hb2)
  (try clear hk)
  (try clear hi)
  (try clear ho0)
  refine hK.out _ _ ⟨(blk_cell BK220.out 0).trans rfl, (blk_cell BK220.out 1).trans rfl, (blk_cell BK220.out 2).trans rfl, (blk_cell BK221.out 0).trans rfl, (blk_cell BK221.out 1).trans rfl⟩ (fun hHeld => ?_)
  clear hK K
  refine norm_ (a' := ?_) ?_ ?_
  rotate_left
  ·show Act.put _ (some 26) _ = _
   exact zap
  refine zpu 5 (some 21) (zq 11 319) HT_ ?_
  refine zpu 6 (some 27) (zq 11 383) HT_ ?_
  refine zpu 7 (some 28) (zq 11 511) HT_ ?_
  exact norm_ (by simp only [putAll, Act.put, List.setIfInBounds_toArray, List.set_cons_zero, List.set_cons_succ]) (hCont (.slice Ao48 t225.length co48, v233, gb236) _ ⟨hHeld, (by (with_reducible repeat (first | apply Kd.R_alloc | apply Kd.R_drewN | apply Kd.R_drew)); exact Kd.R_mono HO227.out (fun _ hk => hk.2)), (by (with_reducible repeat (first | apply Kd.R_alloc | apply Kd.R_drewN | apply Kd.R_drew)); exact Kd.R_mono HO234.out (fun _ hk => hk.2)), (zh BK220).out, (zh BK221).out, (zh BK236).out, GW236.out, GE236.out, NB220_236.out, NB236_220.out, NB221_236.out, NB236_221.out, zbo⟩)
 rintro ⟨v226, v233, gb236⟩ w50 ⟨hS_, h0_, h1_, h2_, h3_, h4_, h5_, h6_, h7_, h8_, h9_, h10_, h11_⟩
 have n_ : (Aside0 (Kd.R k62 62 w50 w.heap.size (fun k_ => some k_ ≠ (v233 : Value).ownBlock) v226 t225)) ∧ (Aside0 (Kd.R k62 62 w50 w.heap.size (fun k_ => some k_ ≠ (v226 : Value).ownBlock) v233 t232)) ∧ (Aside0 (w50.heap[gb220]? = some (.cells #[.int .i8 a0_0, .int .i8 a0_1, .slice A0_2 l0_2.length c0_2] 25 (0, 0)))) ∧ (Aside0 (w50.heap[gb221]? = some (.cells #[.int .i8 a1_0, .int .i8 a1_1] 26 (0, 0)))) ∧ (Aside0 (w50.heap[gb236]? = some (.cells #[.int .i8 0, .int .i8 0, .slice none 0 0] 30 (0, 0)))) ∧ (Aside0 (w.heap.size ≤ gb236)) ∧ (Aside0 (w.heap.size ≤ gb236)) ∧ (Aside0 (gb220 ≠ gb236)) ∧ (Aside0 (gb236 ≠ gb220)) ∧ (Aside0 (gb221 ≠ gb236)) ∧ (Aside0 (gb236 ≠ gb221)) ∧ (Aside0 (Below w.heap.size w w50)) := ⟨⟨h0_⟩, ⟨h1_⟩, ⟨h2_⟩, ⟨h3_⟩, ⟨h4_⟩, ⟨h5_⟩, ⟨h6_⟩, ⟨h7_⟩, ⟨h8_⟩, ⟨h9_⟩, ⟨h10_⟩, ⟨h11_⟩⟩
 clear BK220 BK221 HB h0_ h1_ h2_ h3_ h4_ h5_ h6_ h7_ h8_ h9_ h10_ h11_
 obtain ⟨HO227, HO234, BK220, BK221, BK236, GW236, GE236, NB220_236, NB236_220, NB221_236, NB236_221, HB⟩ := n_
 have hHeld := hS_
 obtain ⟨Ao53, co53, eo53⟩ := Kd.R_slice HO234.out
 (first | subst eo53 | (injection eo53 with f1_ f2_ f3_; have f4_ := f1_.symm; have f5_ := f3_.symm; clear f1_ f2_ f3_; subst f4_; subst f5_))
 refine norm_ (a' := ?_) ?_ ?_
 rotate_left
 ·simp only [putAll, Act.put, List.setIfInBounds_toArray, List.set_cons_zero, List.set_cons_succ]
  rfl
 refine one_ (i := 9) (N := none) (zq 11 1023) rfl rfl (one_of HT_.out (by kernel_rfl)) (by decide) (fun K hK => ?_)
 have hs51 : w50.cell? ⟨gb236, 0, none⟩ = some (.int .i8 0) := (blk_cell BK236.out 0).trans rfl
 have hfs51 := blk_frozen BK236.out 0
 have hns51_0 := NB220_236.out
 have hns51_1 := NB221_236.out
 have hms51_0 := NB236_220.out
 have hms51_1 := NB236_221.out
 have hs52 : w50.cell? ⟨gb236, 1, none⟩ = some (.int .i8 0) := (blk_cell BK236.out 1).trans rfl
 have hfs52 := blk_frozen BK236.out 1
 have hns52_0 := NB220_236.out
 have hns52_1 := NB221_236.out
 have hms52_0 := NB236_220.out
 have hms52_1 := NB236_221.out
 have hs54 : w50.cell? ⟨gb236, 2, none⟩ = some (.slice none 0 0) := (blk_cell BK236.out 2).trans rfl
 have hfs54 := blk_frozen BK236.out 2
 have hns54_0 := NB220_236.out
 have hns54_1 := NB221_236.out
 have hms54_0 := NB236_220.out
 have hms54_1 := NB236_221.out
 refine skip_ (w1 := ?_) (by rfl) rfl ?_ ?_
 rotate_left
 ·go_simp
  rfl
 refine hK.out _ _ ⟨((cell_far (p := ⟨gb236, _, none⟩) NB220_236.out _).trans (((cell_far (p := ⟨gb236, _, none⟩) NB220_236.out _).trans (((cell_far (p := ⟨gb236, _, none⟩) NB220_236.out _).trans (hHeld.1)))))), ((cell_far (p := ⟨gb236, _, none⟩) NB220_236.out _).trans (((cell_far (p := ⟨gb236, _, none⟩) NB220_236.out _).trans (((cell_far (p := ⟨gb236, _, none⟩) NB220_236.out _).trans (hHeld.2.1)))))), ((cell_far (p := ⟨gb236, _, none⟩) NB220_236.out _).trans (((cell_far (p := ⟨gb236, _, none⟩) NB220_236.out _).trans (((cell_far (p := ⟨gb236, _, none⟩) NB220_236.out _).trans (hHeld.2.2.1)))))), ((cell_far (p := ⟨gb236, _, none⟩) NB221_236.out _).trans (((cell_far (p := ⟨gb236, _, none⟩) NB221_236.out _).trans (((cell_far (p := ⟨gb236, _, none⟩) NB221_236.out _).trans (hHeld.2.2.2.1)))))), ((cell_far (p := ⟨gb236, _, none⟩) NB221_236.out _).trans (((cell_far (p := ⟨gb236, _, none⟩) NB221_236.out _).trans (((cell_far (p := ⟨gb236, _, none⟩) NB221_236.out _).trans (hHeld.2.2.2.2))))))⟩ (fun hHeld => ?_)
 clear hK K
 refine zpu 10 (some 7) (zq 11 2047) HT_ ?_
 refine done_ (done_of HT_.out (by kernel_rfl)) ?_
 have hnb55 := NB220_236.out
 have hnc55 := NB236_220.out
 obtain ⟨z56_0, z56_1, z56_2, y56_0, y56_1, y56_2⟩ := zB3 BK220
 try go_wp2_with (first | ((with_reducible refine gate_callee (f := 8) rfl ?_); refine goesL_ (some 30) rfl rfl Try.func8 (by kernel_rfl) rfl #[.agg #[.int .i8 a0_0, .int .i8 a0_1, .slice A0_2 l0_2.length c0_2]] rfl zm ?_; (with_reducible refine (laws_toBoard.calls k a0_0 a0_1 _ _ l0_2 t237 t238 t239 _ ?side1 ?side2 A13.out).mono ?_); (case side1 => exact Kd.C_below HR0_2.out zbo); (case side2 => exact HC0_2.out); rintro e w57 ⟨v240, rfl, ho0, hb⟩; refine ⟨_, rfl, ?_⟩; have n_ : _ ∧ _ ∧ _ ∧ _ ∧ _ ∧ _ ∧ _ := ⟨Aside0.mk (Kd.R_elder' (zs HO227 BK236).out (Kd.R_base ho0) hb), Aside0.mk (Kd.R_elder' (zs HO234 BK236).out (Kd.R_base ho0) hb), Aside0.mk (Kd.R_lower (Kd.R_new' (Kd.R_new' ho0 (Kd.R_lt (zs HO227 BK236).out)) (Kd.R_lt (zs HO234 BK236).out)) (zz HB)), zfb BK220 NB220_236 hb, zfb BK221 NB221_236 hb, Aside0.mk (blk_below (g := gb236) (o := .cells #[.int .i8 t230, .int .i8 t231, .slice Ao53 t232.length co53] 30 (0, 0)) (zp BK236) hb), zbs hb⟩; clear HO227 HO234 BK220 BK221 BK236 HB; obtain ⟨HO227, HO234, HO241, BK220, BK221, BK236, HB⟩ := n_; (try clear hb); (try clear hb2); (try clear hk); (try clear hi); (try clear ho0)) | ((with_reducible refine gate_dst (N := 8) rfl ?_); refine zbx 8 #[.int .i8 0, .int .i8 0, .slice none 0 0] 30 ?_; intro gb242 hg w58 hbox hb; have n_ : _ ∧ _ ∧ _ ∧ _ ∧ _ ∧ _ ∧ _ ∧ _ ∧ _ ∧ _ ∧ _ ∧ _ ∧ _ ∧ _ ∧ _ ∧ _ := ⟨zr HO227 hb, zr HO234 hb, zr HO241 hb, zk BK220 hb, zk BK221 hb, zk BK236 hb, zbs hb, Aside0.mk (hbox), zg HB hg, zg HB hg, zn1 BK220 hg, zn2 BK220 hg, zn1 BK221 hg, zn2 BK221 hg, zn1 BK236 hg, zn2 BK236 hg⟩; clear HO227 HO234 HO241 BK220 BK221 BK236 HB; obtain ⟨HO227, HO234, HO241, BK220, BK221, BK236, HB, BK242, GW242, GE242, NB220_242, NB242_220, NB221_242, NB242_221, NB236_242, NB242_236⟩ := n_; clear hb hbox hg; have hnb59 := NB242_220.out; have hnc59 := NB220_242.out; have hnb60 := NB242_221.out; have hnc60 := NB221_242.out; have hnb61 := NB242_236.out; have hnc61 := NB236_242.out; obtain ⟨z62_0, z62_1, z62_2, y62_0, y62_1, y62_2⟩ := zB3 BK242; obtain ⟨Ao63, co63, eo63⟩ := Kd.R_slice HO241.out; subst eo63))
 have n0_ : Aside0 (Kd.R k62 62 (((w58.setCell ⟨gb242, 0, none⟩ (.int .i8 t237)).setCell ⟨gb242, 1, none⟩ (.int .i8 t238)).setCell ⟨gb242, 2, none⟩ (.slice Ao63 t239.length co63)) w.heap.size (fun k_ => some k_ ≠ (.slice Ao53 t232.length co53 : Value).ownBlock ∧ some k_ ≠ (.slice Ao63 t239.length co63 : Value).ownBlock) v226 t225) := ⟨by (with_reducible repeat (first | apply Kd.R_alloc | apply Kd.R_drewN | apply Kd.R_drew)); exact Kd.R_mono (Kd.R_far (p := ⟨gb242, 2, none⟩) (Kd.R_far (p := ⟨gb242, 1, none⟩) (Kd.R_far (p := ⟨gb242, 0, none⟩) (Kd.R_types HO227.out BK242.out (by decide)) (fun _ hk => hk.2) (.int .i8 t237)) (fun _ hk => hk.2) (.int .i8 t238)) (fun _ hk => hk.2) (.slice Ao63 t239.length co63)) (fun _ hk => ⟨hk.1.1, hk.1.2⟩)⟩
 have n1_ : Aside0 (Kd.R k62 62 (((w58.setCell ⟨gb242, 0, none⟩ (.int .i8 t237)).setCell ⟨gb242, 1, none⟩ (.int .i8 t238)).setCell ⟨gb242, 2, none⟩ (.slice Ao63 t239.length co63)) w.heap.size (fun k_ => some k_ ≠ (v226 : Value).ownBlock ∧ some k_ ≠ (.slice Ao63 t239.length co63 : Value).ownBlock) (.slice Ao53 t232.length co53) t232) := ⟨by (with_reducible repeat (first | apply Kd.R_alloc | apply Kd.R_drewN | apply Kd.R_drew)); exact Kd.R_mono (Kd.R_far (p := ⟨gb242, 2, none⟩) (Kd.R_far (p := ⟨gb242, 1, none⟩) (Kd.R_far (p := ⟨gb242, 0, none⟩) (Kd.R_types HO234.out BK242.out (by decide)) (fun _ hk => hk.2) (.int .i8 t237)) (fun _ hk => hk.2) (.int .i8 t238)) (fun _ hk => hk.2) (.slice Ao63 t239.length co63)) (fun _ hk => ⟨hk.1.1, hk.1.2⟩)⟩
 have n2_ : Aside0 (Kd.R k62 62 (((w58.setCell ⟨gb242, 0, none⟩ (.int .i8 t237)).setCell ⟨gb242, 1, none⟩ (.int .i8 t238)).setCell ⟨gb242, 2, none⟩ (.slice Ao63 t239.length co63)) w.heap.size (fun k_ => some k_ ≠ (v226 : Value).ownBlock ∧ some k_ ≠ (.slice Ao53 t232.length co53 : Value).ownBlock) (.slice Ao63 t239.length co63) t239) := ⟨by (with_reducible repeat (first | apply Kd.R_alloc | apply Kd.R_drewN | apply Kd.R_drew)); exact Kd.R_mono (Kd.R_far (p := ⟨gb242, 2, none⟩) (Kd.R_far (p := ⟨gb242, 1, none⟩) (Kd.R_far (p := ⟨gb242, 0, none⟩) (Kd.R_types HO241.out BK242.out (by decide)) (fun _ hk => hk.2) (.int .i8 t237)) (fun _ hk => hk.2) (.int .i8 t238)) (fun _ hk => hk.2) (.slice Ao63 t239.length co63)) (fun _ hk => ⟨hk.1.1.2, hk.1.2⟩)⟩
 have n3_ : Aside0 ((((w58.setCell ⟨gb242, 0, none⟩ (.int .i8 t237)).setCell ⟨gb242, 1, none⟩ (.int .i8 t238)).setCell ⟨gb242, 2, none⟩ (.slice Ao63 t239.length co63)).heap[gb220]? = some (.cells #[.int .i8 a0_0, .int .i8 a0_1, .slice A0_2 l0_2.length c0_2] 25 (0, 0))) := zf BK220 NB220_242
 have n4_ : Aside0 ((((w58.setCell ⟨gb242, 0, none⟩ (.int .i8 t237)).setCell ⟨gb242, 1, none⟩ (.int .i8 t238)).setCell ⟨gb242, 2, none⟩ (.slice Ao63 t239.length co63)).heap[gb221]? = some (.cells #[.int .i8 a1_0, .int .i8 a1_1] 26 (0, 0))) := zf BK221 NB221_242
 have n5_ : Aside0 ((((w58.setCell ⟨gb242, 0, none⟩ (.int .i8 t237)).setCell ⟨gb242, 1, none⟩ (.int .i8 t238)).setCell ⟨gb242, 2, none⟩ (.slice Ao63 t239.length co63)).heap[gb236]? = some (.cells #[.int .i8 t230, .int .i8 t231, .slice Ao53 t232.length co53] 30 (0, 0))) := zf BK236 NB236_242
 have n6_ : Aside0 ((((w58.setCell ⟨gb242, 0, none⟩ (.int .i8 t237)).setCell ⟨gb242, 1, none⟩ (.int .i8 t238)).setCell ⟨gb242, 2, none⟩ (.slice Ao63 t239.length co63)).heap[gb242]? = some (.cells #[.int .i8 t237, .int .i8 t238, .slice Ao63 t239.length co63] 30 (0, 0))) := ⟨zp BK242⟩
 have n7_ : Aside0 (Below w.heap.size w (((w58.setCell ⟨gb242, 0, none⟩ (.int .i8 t237)).setCell ⟨gb242, 1, none⟩ (.int .i8 t238)).setCell ⟨gb242, 2, none⟩ (.slice Ao63 t239.length co63))) := zba
 (try clear HO227)
 (try clear HO234)
 (try clear HO241)
 (try clear BK220)
 (try clear BK221)
 (try clear BK236)
 (try clear BK242)
 (try clear HB)
 generalize (((w58.setCell ⟨gb242, 0, none⟩ (.int .i8 t237)).setCell ⟨gb242, 1, none⟩ (.int .i8 t238)).setCell ⟨gb242, 2, none⟩ (.slice Ao63 t239.length co63)) = w64 at n0_ n1_ n2_ n3_ n4_ n5_ n6_ n7_ ⊢
 have HO227 := n0_
 have HO234 := n1_
 have HO241 := n2_
 have BK220 := n3_
 have BK221 := n4_
 have BK236 := n5_
 have BK242 := n6_
 have HB := n7_
 clear n0_ n1_ n2_ n3_ n4_ n5_ n6_ n7_
 have n_ : _ ∧ _ ∧ _ ∧ _ ∧ _ ∧ _ ∧ _ ∧ _ := ⟨Aside0.mk (Kd.R_drew HO227.out), Aside0.mk (Kd.R_drew HO234.out), Aside0.mk (Kd.R_drew HO241.out), Aside0.mk (blk_drew BK220.out), Aside0.mk (blk_drew BK221.out), Aside0.mk (blk_drew BK236.out), Aside0.mk (blk_drew BK242.out), Aside0.mk (below_drew1 HB.out)⟩
 clear HO227 HO234 HO241 BK220 BK221 BK236 BK242 HB
 obtain ⟨HO227, HO234, HO241, BK220, BK221, BK236, BK242, HB⟩ := n_
 refine start_ (n := 10) (S := fun w' => w'.cell? ⟨gb242, 0, none⟩ = some (.int .i8 t237) ∧ w'.cell? ⟨gb242, 1, none⟩ = some (.int .i8 t238) ∧ w'.cell? ⟨gb242, 2, none⟩ = some (.slice Ao63 t239.length co63) ∧ w'.cell? ⟨gb221, 0, none⟩ = some (.int .i8 a1_0) ∧ w'.cell? ⟨gb221, 1, none⟩ = some (.int .i8 a1_1)) (ds := []) (zq 10 0) (by kernel_rfl) rfl rfl ⟨(blk_cell BK242.out 0).trans rfl, (blk_cell BK242.out 1).trans rfl, (blk_cell BK242.out 2).trans rfl, (blk_cell BK221.out 0).trans rfl, (blk_cell BK221.out 1).trans rfl⟩ (fun hHeld => ?_); refine with_tabW laws_FnExactTakePiece.tab7 laws_FnExactTakePiece.bits7 (fun HT_ HW_ => ?_)
 generalize w64.drew = w65 at HO227 HO234 HO241 BK220 BK221 BK236 BK242 HB hHeld ⊢
 refine ztk 0 (some 32) (zq 10 1) HT_ HW_ rfl hHeld (Or.inl ⟨by rfl, by (rintro w' ⟨s0, s1, s2, s3, s4⟩; go_simp; with_reducible rfl)⟩) ?_
 refine ztk 1 (some 33) (zq 10 3) HT_ HW_ rfl hHeld (Or.inl ⟨by rfl, by (rintro w' ⟨s0, s1, s2, s3, s4⟩; go_simp; with_reducible rfl)⟩) ?_
 refine join_ (σ := Value × Nat) 2 (zq 10 255) (fun s_ => [(34, .agg #[.int .i8 t243, .int .i8 t244]), (35, .tuple #[.agg #[.int .i8 t245, .int .i8 t246, s_.1], .int .i64 t250]), (9, .pointer (some ⟨s_.2, 0, none⟩)), (31, .tuple #[.agg #[.int .i8 t245, .int .i8 t246, s_.1], .int .i64 t250]), (36, .agg #[.int .i8 t245, .int .i8 t246, s_.1]), (37, .int .i64 t250)]) (fun s_ w' => (w'.cell? ⟨gb242, 0, none⟩ = some (.int .i8 t237) ∧ w'.cell? ⟨gb242, 1, none⟩ = some (.int .i8 t238) ∧ w'.cell? ⟨gb242, 2, none⟩ = some (.slice Ao63 t239.length co63) ∧ w'.cell? ⟨gb221, 0, none⟩ = some (.int .i8 a1_0) ∧ w'.cell? ⟨gb221, 1, none⟩ = some (.int .i8 a1_1)) ∧ (Kd.R k62 62 w' w.heap.size (fun k_ => some k_ ≠ (.slice Ao53 t232.length co53 : Value).ownBlock ∧ some k_ ≠ (.slice Ao63 t239.length co63 : Value).ownBlock ∧ some k_ ≠ (s_.1 : Value).ownBlock) v226 t225) ∧ (Kd.R k62 62 w' w.heap.size (fun k_ => some k_ ≠ (v226 : Value).ownBlock ∧ some k_ ≠ (.slice Ao63 t239.length co63 : Value).ownBlock ∧ some k_ ≠ (s_.1 : Value).ownBlock) (.slice Ao53 t232.length co53) t232) ∧ (Kd.R k62 62 w' w.heap.size (fun k_ => some k_ ≠ (v226 : Value).ownBlock ∧ some k_ ≠ (.slice Ao53 t232.length co53 : Value).ownBlock ∧ some k_ ≠ (s_.1 : Value).ownBlock) (.slice Ao63 t239.length co63) t239) ∧ (Kd.R k62 62 w' w.heap.size (fun k_ => some k_ ≠ (v226 : Value).ownBlock ∧ some k_ ≠ (.slice Ao53 t232.length co53 : Value).ownBlock ∧ some k_ ≠ (.slice Ao63 t239.length co63 : Value).ownBlock) s_.1 t247) ∧ (w'.heap[gb220]? = some (.cells #[.int .i8 a0_0, .int .i8 a0_1, .slice A0_2 l0_2.length c0_2] 25 (0, 0))) ∧ (w'.heap[gb221]? = some (.cells #[.int .i8 a1_0, .int .i8 a1_1] 26 (0, 0))) ∧ (w'.heap[gb236]? = some (.cells #[.int .i8 t230, .int .i8 t231, .slice Ao53 t232.length co53] 30 (0, 0))) ∧ (w'.heap[gb242]? = some (.cells #[.int .i8 t237, .int .i8 t238, .slice Ao63 t239.length co63] 30 (0, 0))) ∧ (w'.heap[s_.2]? = some (.cells #[.int .i8 0, .int .i8 0, .slice none 0 0] 30 (0, 0))) ∧ (w.heap.size ≤ s_.2) ∧ (w.heap.size ≤ s_.2) ∧ (gb220 ≠ s_.2) ∧ (s_.2 ≠ gb220) ∧ (gb221 ≠ s_.2) ∧ (s_.2 ≠ gb221) ∧ (gb236 ≠ s_.2) ∧ (s_.2 ≠ gb236) ∧ (gb242 ≠ s_.2) ∧ (s_.2 ≠ gb242) ∧ (Below w.heap.size w w')) ?_ ?_
 rotate_left
 ·intro hCont
  refine two_ (i := 2) (j := 7) (Ni := some 34) (Nj := some 9) (zq 10 7) (zq 10 131) rfl rfl rfl rfl (two_of HT_.out (by kernel_rfl)) (by decide) (by decide) (fun K hK => ?_) (fun K hK => ?_)
  rotate_left
  ·skip
   refine box_step ?hg (N := 9) ?hd (cs := #[.int .i8 0, .int .i8 0, .slice none 0 0]) (t := 30) ?hr ?_; (case hd => rfl); (case hg => rfl); (case hr => exact zgs)
   intro gb251 hg w66 hbox hb
   have n_ : _ ∧ _ ∧ _ ∧ _ ∧ _ ∧ _ ∧ _ ∧ _ ∧ _ ∧ _ ∧ _ ∧ _ ∧ _ ∧ _ ∧ _ ∧ _ ∧ _ ∧ _ ∧ _ := ⟨zr HO227 hb, zr HO234 hb, zr HO241 hb, zk BK220 hb, zk BK221 hb, zk BK236 hb, zk BK242 hb, zbs hb, Aside0.mk (hbox), zg HB hg, zg HB hg, zn1 BK220 hg, zn2 BK220 hg, zn1 BK221 hg, zn2 BK221 hg, zn1 BK236 hg, zn2 BK236 hg, zn1 BK242 hg, zn2 BK242 hg⟩
   clear HO227 HO234 HO241 BK220 BK221 BK236 BK242 HB
   obtain ⟨HO227, HO234, HO241, BK220, BK221, BK236, BK242, HB, BK251, GW251, GE251, NB220_251, NB251_220, NB221_251, NB251_221, NB236_251, NB251_236, NB242_251, NB251_242⟩ := n_
   clear hb hbox hg
   refine hK.out _ _ ⟨(blk_cell BK242.out 0).trans rfl, (blk_cell BK242.out 1).trans rfl, (blk_cell BK242.out 2).trans rfl, (blk_cell BK221.out 0).trans rfl, (blk_cell BK221.out 1).trans rfl⟩ (fun hHeld => ?_)
   clear hK K
   refine norm_ (a' := ?_) ?_ ?_
   rotate_left
   ·show Act.put _ (some 9) _ = _
    exact zap
   refine one_ (i := 2) (N := some 34) (zq 10 135) rfl rfl (one_of HT_.out (by kernel_rfl)) (by decide) (fun K hK => ?_)
   refine goes_ Try.func9 (by kernel_rfl) rfl #[.agg #[.int .i8 a1_0, .int .i8 a1_1]] (by rfl) rfl rfl zm ?_
   with_reducible refine (laws_toCell.calls k a1_0 a1_1 t243 t244 _ A14.out).mono ?_
   rintro e w67 ⟨rfl, hb⟩
   refine ⟨_, rfl, ?_⟩
   have n_ : _ ∧ _ ∧ _ ∧ _ ∧ _ ∧ _ ∧ _ ∧ _ ∧ _ := ⟨zr HO227 hb, zr HO234 hb, zr HO241 hb, zk BK220 hb, zk BK221 hb, zk BK236 hb, zk BK242 hb, zk BK251 hb, zbs hb⟩
   clear HO227 HO234 HO241 BK220 BK221 BK236 BK242 BK251 HB
   obtain ⟨HO227, HO234, HO241, BK220, BK221, BK236, BK242, BK251, HB⟩ := n_
   (try clear hb)
   (try clear hb2)
   (try clear hk)
   (try clear hi)
   refine hK.out _ _ ⟨(blk_cell BK242.out 0).trans rfl, (blk_cell BK242.out 1).trans rfl, (blk_cell BK242.out 2).trans rfl, (blk_cell BK221.out 0).trans rfl, (blk_cell BK221.out 1).trans rfl⟩ (fun hHeld => ?_)
   clear hK K
   refine norm_ (a' := ?_) ?_ ?_
   rotate_left
   ·show Act.put _ (some 34) _ = _
    exact zap
   refine one_ (i := 3) (N := some 35) (zq 10 143) rfl rfl (one_of HT_.out (by kernel_rfl)) (by decide) (fun K hK => ?_)
   refine goes_ Try.func10 (by kernel_rfl) rfl #[.agg #[.int .i8 t237, .int .i8 t238, .slice Ao63 t239.length co63], .agg #[.int .i8 t243, .int .i8 t244]] (by rfl) rfl rfl zm ?_
   with_reducible refine (impl_TakePiece.calls k t237 t238 _ _ t239 t243 t244 t245 t246 t247 t250 _ ?side1 ?side2 A15.out).mono ?_
   (case side1 => exact zrc HO241)
   (case side2 => exact (Kd.R_reads' HO241.out).2.1)
   rintro e w68 ⟨v248, rfl, ho0, hb⟩
   refine ⟨_, rfl, ?_⟩
   have n_ : _ ∧ _ ∧ _ ∧ _ ∧ _ ∧ _ ∧ _ ∧ _ ∧ _ ∧ _ := ⟨Aside0.mk (Kd.R_elder' (ze HO227).out (Kd.R_base ho0) hb), Aside0.mk (Kd.R_elder' (ze HO234).out (Kd.R_base ho0) hb), Aside0.mk (Kd.R_elder' (ze HO241).out (Kd.R_base ho0) hb), Aside0.mk (Kd.R_lower (Kd.R_new' (Kd.R_new' (Kd.R_new' ho0 (Kd.R_lt (ze HO227).out)) (Kd.R_lt (ze HO234).out)) (Kd.R_lt (ze HO241).out)) (zz HB)), zk BK220 hb, zk BK221 hb, zk BK236 hb, zk BK242 hb, zk BK251 hb, zbs hb⟩
   clear HO227 HO234 HO241 BK220 BK221 BK236 BK242 BK251 HB
   obtain ⟨HO227, HO234, HO241, HO249, BK220, BK221, BK236, BK242, BK251, HB⟩ := n_
   (try clear hb)
   (try clear hb2)
   (try clear hk)
   (try clear hi)
   (try clear ho0)
   refine hK.out _ _ ⟨(blk_cell BK242.out 0).trans rfl, (blk_cell BK242.out 1).trans rfl, (blk_cell BK242.out 2).trans rfl, (blk_cell BK221.out 0).trans rfl, (blk_cell BK221.out 1).trans rfl⟩ (fun hHeld => ?_)
   clear hK K
   refine norm_ (a' := ?_) ?_ ?_
   rotate_left
   ·show Act.put _ (some 35) _ = _
    exact zap
   refine zpu 4 (some 31) (zq 10 159) HT_ ?_
   refine zpu 5 (some 36) (zq 10 191) HT_ ?_
   refine zpu 6 (some 37) (zq 10 255) HT_ ?_
   exact norm_ (by simp only [putAll, Act.put, List.setIfInBounds_toArray, List.set_cons_zero, List.set_cons_succ]) (hCont (v248, gb251) _ ⟨hHeld, (by (with_reducible repeat (first | apply Kd.R_alloc | apply Kd.R_drewN | apply Kd.R_drew)); exact Kd.R_mono HO227.out (fun _ hk => ⟨hk.1.1, ⟨hk.1.2, hk.2⟩⟩)), (by (with_reducible repeat (first | apply Kd.R_alloc | apply Kd.R_drewN | apply Kd.R_drew)); exact Kd.R_mono HO234.out (fun _ hk => ⟨hk.1.1, ⟨hk.1.2, hk.2⟩⟩)), (by (with_reducible repeat (first | apply Kd.R_alloc | apply Kd.R_drewN | apply Kd.R_drew)); exact Kd.R_mono HO241.out (fun _ hk => ⟨hk.1.1, ⟨hk.1.2, hk.2⟩⟩)), (by (with_reducible repeat (first | apply Kd.R_alloc | apply Kd.R_drewN | apply Kd.R_drew)); exact Kd.R_mono HO249.out (fun _ hk => ⟨hk.1.1.2, ⟨hk.1.2, hk.2⟩⟩)), (zh BK220).out, (zh BK221).out, (zh BK236).out, (zh BK242).out, (zh BK251).out, GW251.out, GE251.out, NB220_251.out, NB251_220.out, NB221_251.out, NB251_221.out, NB236_251.out, NB251_236.out, NB242_251.out, NB251_242.out, zbo⟩)
  skip
  refine goes_ Try.func9 (by kernel_rfl) rfl #[.agg #[.int .i8 a1_0, .int .i8 a1_1]] (by rfl) rfl rfl zm ?_
  with_reducible refine (laws_toCell.calls k a1_0 a1_1 t243 t244 _ A14.out).mono ?_
  rintro e w66 ⟨rfl, hb⟩
  refine ⟨_, rfl, ?_⟩
  have n_ : _ ∧ _ ∧ _ ∧ _ ∧ _ ∧ _ ∧ _ ∧ _ := ⟨zr HO227 hb, zr HO234 hb, zr HO241 hb, zk BK220 hb, zk BK221 hb, zk BK236 hb, zk BK242 hb, zbs hb⟩
  clear HO227 HO234 HO241 BK220 BK221 BK236 BK242 HB
  obtain ⟨HO227, HO234, HO241, BK220, BK221, BK236, BK242, HB⟩ := n_
  (try clear hb)
  (try clear hb2)
  (try clear hk)
  (try clear hi)
  refine hK.out _ _ ⟨(blk_cell BK242.out 0).trans rfl, (blk_cell BK242.out 1).trans rfl, (blk_cell BK242.out 2).trans rfl, (blk_cell BK221.out 0).trans rfl, (blk_cell BK221.out 1).trans rfl⟩ (fun hHeld => ?_)
  clear hK K
  refine norm_ (a' := ?_) ?_ ?_
  rotate_left
  ·show Act.put _ (some 34) _ = _
   exact zap
  refine two_ (i := 3) (j := 7) (Ni := some 35) (Nj := some 9) (zq 10 15) (zq 10 135) rfl rfl rfl rfl (two_of HT_.out (by kernel_rfl)) (by decide) (by decide) (fun K hK => ?_) (fun K hK => ?_)
  rotate_left
  ·skip
   refine box_step ?hg (N := 9) ?hd (cs := #[.int .i8 0, .int .i8 0, .slice none 0 0]) (t := 30) ?hr ?_; (case hd => rfl); (case hg => rfl); (case hr => exact zgs)
   intro gb251 hg w67 hbox hb
   have n_ : _ ∧ _ ∧ _ ∧ _ ∧ _ ∧ _ ∧ _ ∧ _ ∧ _ ∧ _ ∧ _ ∧ _ ∧ _ ∧ _ ∧ _ ∧ _ ∧ _ ∧ _ ∧ _ := ⟨zr HO227 hb, zr HO234 hb, zr HO241 hb, zk BK220 hb, zk BK221 hb, zk BK236 hb, zk BK242 hb, zbs hb, Aside0.mk (hbox), zg HB hg, zg HB hg, zn1 BK220 hg, zn2 BK220 hg, zn1 BK221 hg, zn2 BK221 hg, zn1 BK236 hg, zn2 BK236 hg, zn1 BK242 hg, zn2 BK242 hg⟩
   clear HO227 HO234 HO241 BK220 BK221 BK236 BK242 HB
   obtain ⟨HO227, HO234, HO241, BK220, BK221, BK236, BK242, HB, BK251, GW251, GE251, NB220_251, NB251_220, NB221_251, NB251_221, NB236_251, NB251_236, NB242_251, NB251_242⟩ := n_
   clear hb hbox hg
   refine hK.out _ _ ⟨(blk_cell BK242.out 0).trans rfl, (blk_cell BK242.out 1).trans rfl, (blk_cell BK242.out 2).trans rfl, (blk_cell BK221.out 0).trans rfl, (blk_cell BK221.out 1).trans rfl⟩ (fun hHeld => ?_)
   clear hK K
   refine norm_ (a' := ?_) ?_ ?_
   rotate_left
   ·show Act.put _ (some 9) _ = _
    exact zap
   refine one_ (i := 3) (N := some 35) (zq 10 143) rfl rfl (one_of HT_.out (by kernel_rfl)) (by decide) (fun K hK => ?_)
   refine goes_ Try.func10 (by kernel_rfl) rfl #[.agg #[.int .i8 t237, .int .i8 t238, .slice Ao63 t239.length co63], .agg #[.int .i8 t243, .int .i8 t244]] (by rfl) rfl rfl zm ?_
   with_reducible refine (impl_TakePiece.calls k t237 t238 _ _ t239 t243 t244 t245 t246 t247 t250 _ ?side1 ?side2 A15.out).mono ?_
   (case side1 => exact zrc HO241)
   (case side2 => exact (Kd.R_reads' HO241.out).2.1)
   rintro e w68 ⟨v248, rfl, ho0, hb⟩
   refine ⟨_, rfl, ?_⟩
   have n_ : _ ∧ _ ∧ _ ∧ _ ∧ _ ∧ _ ∧ _ ∧ _ ∧ _ ∧ _ := ⟨Aside0.mk (Kd.R_elder' (ze HO227).out (Kd.R_base ho0) hb), Aside0.mk (Kd.R_elder' (ze HO234).out (Kd.R_base ho0) hb), Aside0.mk (Kd.R_elder' (ze HO241).out (Kd.R_base ho0) hb), Aside0.mk (Kd.R_lower (Kd.R_new' (Kd.R_new' (Kd.R_new' ho0 (Kd.R_lt (ze HO227).out)) (Kd.R_lt (ze HO234).out)) (Kd.R_lt (ze HO241).out)) (zz HB)), zk BK220 hb, zk BK221 hb, zk BK236 hb, zk BK242 hb, zk BK251 hb, zbs hb⟩
   clear HO227 HO234 HO241 BK220 BK221 BK236 BK242 BK251 HB
   obtain ⟨HO227, HO234, HO241, HO249, BK220, BK221, BK236, BK242, BK251, HB⟩ := n_
   (try clear hb)
   (try clear hb2)
   (try clear hk)
   (try clear hi)
   (try clear ho0)
   refine hK.out _ _ ⟨(blk_cell BK242.out 0).trans rfl, (blk_cell BK242.out 1).trans rfl, (blk_cell BK242.out 2).trans rfl, (blk_cell BK221.out 0).trans rfl, (blk_cell BK221.out 1).trans rfl⟩ (fun hHeld => ?_)
   clear hK K
   refine norm_ (a' := ?_) ?_ ?_
   rotate_left
   ·show Act.put _ (some 35) _ = _
    exact zap
   refine zpu 4 (some 31) (zq 10 159) HT_ ?_
   refine zpu 5 (some 36) (zq 10 191) HT_ ?_
   refine zpu 6 (some 37) (zq 10 255) HT_ ?_
   exact norm_ (by simp only [putAll, Act.put, List.setIfInBounds_toArray, List.set_cons_zero, List.set_cons_succ]) (hCont (v248, gb251) _ ⟨hHeld, (by (with_reducible repeat (first | apply Kd.R_alloc | apply Kd.R_drewN | apply Kd.R_drew)); exact Kd.R_mono HO227.out (fun _ hk => ⟨hk.1.1, ⟨hk.1.2, hk.2⟩⟩)), (by (with_reducible repeat (first | apply Kd.R_alloc | apply Kd.R_drewN | apply Kd.R_drew)); exact Kd.R_mono HO234.out (fun _ hk => ⟨hk.1.1, ⟨hk.1.2, hk.2⟩⟩)), (by (with_reducible repeat (first | apply Kd.R_alloc | apply Kd.R_drewN | apply Kd.R_drew)); exact Kd.R_mono HO241.out (fun _ hk => ⟨hk.1.1, ⟨hk.1.2, hk.2⟩⟩)), (by (with_reducible repeat (first | apply Kd.R_alloc | apply Kd.R_drewN | apply Kd.R_drew)); exact Kd.R_mono HO249.out (fun _ hk => ⟨hk.1.1.2, ⟨hk.1.2, hk.2⟩⟩)), (zh BK220).out, (zh BK221).out, (zh BK236).out, (zh BK242).out, (zh BK251).out, GW251.out, GE251.out, NB220_251.out, NB251_220.out, NB221_251.out, NB251_221.out, NB236_251.out, NB251_236.out, NB242_251.out, NB251_242.out, zbo⟩)
  skip
  refine goes_ Try.func10 (by kernel_rfl) rfl #[.agg #[.int .i8 t237, .int .i8 t238, .slice Ao63 t239.length co63], .agg #[.int .i8 t243, .int .i8 t244]] (by rfl) rfl rfl zm ?_
  with_reducible refine (impl_TakePiece.calls k t237 t238 _ _ t239 t243 t244 t245 t246 t247 t250 _ ?side1 ?side2 A15.out).mono ?_
  (case side1 => exact zrc HO241)
  (case side2 => exact (Kd.R_reads' HO241.out).2.1)
  rintro e w67 ⟨v248, rfl, ho0, hb⟩
  refine ⟨_, rfl, ?_⟩
  have n_ : _ ∧ _ ∧ _ ∧ _ ∧ _ ∧ _ ∧ _ ∧ _ ∧ _ := ⟨Aside0.mk (Kd.R_elder' (ze HO227).out (Kd.R_base ho0) hb), Aside0.mk (Kd.R_elder' (ze HO234).out (Kd.R_base ho0) hb), Aside0.mk (Kd.R_elder' (ze HO241).out (Kd.R_base ho0) hb), Aside0.mk (Kd.R_lower (Kd.R_new' (Kd.R_new' (Kd.R_new' ho0 (Kd.R_lt (ze HO227).out)) (Kd.R_lt (ze HO234).out)) (Kd.R_lt (ze HO241).out)) (zz HB)), zk BK220 hb, zk BK221 hb, zk BK236 hb, zk BK242 hb, zbs hb⟩
  clear HO227 HO234 HO241 BK220 BK221 BK236 BK242 HB
  obtain ⟨HO227, HO234, HO241, HO249, BK220, BK221, BK236, BK242, HB⟩ := n_
  (try clear hb)
  (try clear hb2)
  (try clear hk)
  (try clear hi)
  (try clear ho0)
  refine hK.out _ _ ⟨(blk_cell BK242.out 0).trans rfl, (blk_cell BK242.out 1).trans rfl, (blk_cell BK242.out 2).trans rfl, (blk_cell BK221.out 0).trans rfl, (blk_cell BK221.out 1).trans rfl⟩ (fun hHeld => ?_)
  clear hK K
  refine norm_ (a' := ?_) ?_ ?_
  rotate_left
  ·show Act.put _ (some 35) _ = _
   exact zap
  refine zpu 4 (some 31) (zq 10 31) HT_ ?_
  refine zpu 5 (some 36) (zq 10 63) HT_ ?_
  refine zpu 6 (some 37) (zq 10 127) HT_ ?_
  refine one_ (i := 7) (N := some 9) (zq 10 255) rfl rfl (one_of HT_.out (by kernel_rfl)) (by decide) (fun K hK => ?_)
  refine box_step ?hg (N := 9) ?hd (cs := #[.int .i8 0, .int .i8 0, .slice none 0 0]) (t := 30) ?hr ?_; (case hd => rfl); (case hg => rfl); (case hr => exact zgs)
  intro gb251 hg w68 hbox hb
  have n_ : _ ∧ _ ∧ _ ∧ _ ∧ _ ∧ _ ∧ _ ∧ _ ∧ _ ∧ _ ∧ _ ∧ _ ∧ _ ∧ _ ∧ _ ∧ _ ∧ _ ∧ _ ∧ _ ∧ _ := ⟨zr HO227 hb, zr HO234 hb, zr HO241 hb, zr HO249 hb, zk BK220 hb, zk BK221 hb, zk BK236 hb, zk BK242 hb, zbs hb, Aside0.mk (hbox), zg HB hg, zg HB hg, zn1 BK220 hg, zn2 BK220 hg, zn1 BK221 hg, zn2 BK221 hg, zn1 BK236 hg, zn2 BK236 hg, zn1 BK242 hg, zn2 BK242 hg⟩
  clear HO227 HO234 HO241 HO249 BK220 BK221 BK236 BK242 HB
  obtain ⟨HO227, HO234, HO241, HO249, BK220, BK221, BK236, BK242, HB, BK251, GW251, GE251, NB220_251, NB251_220, NB221_251, NB251_221, NB236_251, NB251_236, NB242_251, NB251_242⟩ := n_
  clear hb hbox hg
  refine hK.out _ _ ⟨(blk_cell BK242.out 0).trans rfl, (blk_cell BK242.out 1).trans rfl, (blk_cell BK242.out 2).trans rfl, (blk_cell BK221.out 0).trans rfl, (blk_cell BK221.out 1).trans rfl⟩ (fun hHeld => ?_)
  clear hK K
  refine norm_ (a' := ?_) ?_ ?_
  rotate_left
  ·show Act.put _ (some 9) _ = _
   exact zap
  exact norm_ (by simp only [putAll, Act.put, List.setIfInBounds_toArray, List.set_cons_zero, List.set_cons_succ]) (hCont (v248, gb251) _ ⟨hHeld, (by (with_reducible repeat (first | apply Kd.R_alloc | apply Kd.R_drewN | apply Kd.R_drew)); exact Kd.R_mono HO227.out (fun _ hk => ⟨hk.1.1, ⟨hk.1.2, hk.2⟩⟩)), (by (with_reducible repeat (first | apply Kd.R_alloc | apply Kd.R_drewN | apply Kd.R_drew)); exact Kd.R_mono HO234.out (fun _ hk => ⟨hk.1.1, ⟨hk.1.2, hk.2⟩⟩)), (by (with_reducible repeat (first | apply Kd.R_alloc | apply Kd.R_drewN | apply Kd.R_drew)); exact Kd.R_mono HO241.out (fun _ hk => ⟨hk.1.1, ⟨hk.1.2, hk.2⟩⟩)), (by (with_reducible repeat (first | apply Kd.R_alloc | apply Kd.R_drewN | apply Kd.R_drew)); exact Kd.R_mono HO249.out (fun _ hk => ⟨hk.1.1.2, ⟨hk.1.2, hk.2⟩⟩)), (zh BK220).out, (zh BK221).out, (zh BK236).out, (zh BK242).out, (zh BK251).out, GW251.out, GE251.out, NB220_251.out, NB251_220.out, NB221_251.out, NB251_221.out, NB236_251.out, NB251_236.out, NB242_251.out, NB251_242.out, zbo⟩)
 rintro ⟨v248, gb251⟩ w69 ⟨hS_, h0_, h1_, h2_, h3_, h4_, h5_, h6_, h7_, h8_, h9_, h10_, h11_, h12_, h13_, h14_, h15_, h16_, h17_, h18_, h19_⟩
 have n_ : (Aside0 (Kd.R k62 62 w69 w.heap.size (fun k_ => some k_ ≠ (.slice Ao53 t232.length co53 : Value).ownBlock ∧ some k_ ≠ (.slice Ao63 t239.length co63 : Value).ownBlock ∧ some k_ ≠ (v248 : Value).ownBlock) v226 t225)) ∧ (Aside0 (Kd.R k62 62 w69 w.heap.size (fun k_ => some k_ ≠ (v226 : Value).ownBlock ∧ some k_ ≠ (.slice Ao63 t239.length co63 : Value).ownBlock ∧ some k_ ≠ (v248 : Value).ownBlock) (.slice Ao53 t232.length co53) t232)) ∧ (Aside0 (Kd.R k62 62 w69 w.heap.size (fun k_ => some k_ ≠ (v226 : Value).ownBlock ∧ some k_ ≠ (.slice Ao53 t232.length co53 : Value).ownBlock ∧ some k_ ≠ (v248 : Value).ownBlock) (.slice Ao63 t239.length co63) t239)) ∧ (Aside0 (Kd.R k62 62 w69 w.heap.size (fun k_ => some k_ ≠ (v226 : Value).ownBlock ∧ some k_ ≠ (.slice Ao53 t232.length co53 : Value).ownBlock ∧ some k_ ≠ (.slice Ao63 t239.length co63 : Value).ownBlock) v248 t247)) ∧ (Aside0 (w69.heap[gb220]? = some (.cells #[.int .i8 a0_0, .int .i8 a0_1, .slice A0_2 l0_2.length c0_2] 25 (0, 0)))) ∧ (Aside0 (w69.heap[gb221]? = some (.cells #[.int .i8 a1_0, .int .i8 a1_1] 26 (0, 0)))) ∧ (Aside0 (w69.heap[gb236]? = some (.cells #[.int .i8 t230, .int .i8 t231, .slice Ao53 t232.length co53] 30 (0, 0)))) ∧ (Aside0 (w69.heap[gb242]? = some (.cells #[.int .i8 t237, .int .i8 t238, .slice Ao63 t239.length co63] 30 (0, 0)))) ∧ (Aside0 (w69.heap[gb251]? = some (.cells #[.int .i8 0, .int .i8 0, .slice none 0 0] 30 (0, 0)))) ∧ (Aside0 (w.heap.size ≤ gb251)) ∧ (Aside0 (w.heap.size ≤ gb251)) ∧ (Aside0 (gb220 ≠ gb251)) ∧ (Aside0 (gb251 ≠ gb220)) ∧ (Aside0 (gb221 ≠ gb251)) ∧ (Aside0 (gb251 ≠ gb221)) ∧ (Aside0 (gb236 ≠ gb251)) ∧ (Aside0 (gb251 ≠ gb236)) ∧ (Aside0 (gb242 ≠ gb251)) ∧ (Aside0 (gb251 ≠ gb242)) ∧ (Aside0 (Below w.heap.size w w69)) := ⟨⟨h0_⟩, ⟨h1_⟩, ⟨h2_⟩, ⟨h3_⟩, ⟨h4_⟩, ⟨h5_⟩, ⟨h6_⟩, ⟨h7_⟩, ⟨h8_⟩, ⟨h9_⟩, ⟨h10_⟩, ⟨h11_⟩, ⟨h12_⟩, ⟨h13_⟩, ⟨h14_⟩, ⟨h15_⟩, ⟨h16_⟩, ⟨h17_⟩, ⟨h18_⟩, ⟨h19_⟩⟩
 clear HO227 HO234 HO241 BK220 BK221 BK236 BK242 HB h0_ h1_ h2_ h3_ h4_ h5_ h6_ h7_ h8_ h9_ h10_ h11_ h12_ h13_ h14_ h15_ h16_ h17_ h18_ h19_
 obtain ⟨HO227, HO234, HO241, HO249, BK220, BK221, BK236, BK242, BK251, GW251, GE251, NB220_251, NB251_220, NB221_251, NB251_221, NB236_251, NB251_236, NB242_251, NB251_242, HB⟩ := n_
 have hHeld := hS_
 obtain ⟨Ao72, co72, eo72⟩ := Kd.R_slice HO249.out
 (first | subst eo72 | (injection eo72 with f1_ f2_ f3_; have f4_ := f1_.symm; have f5_ := f3_.symm; clear f1_ f2_ f3_; subst f4_; subst f5_))
 refine norm_ (a' := ?_) ?_ ?_
 rotate_left
 ·simp only [putAll, Act.put, List.setIfInBounds_toArray, List.set_cons_zero, List.set_cons_succ]
  rfl
 refine one_ (i := 8) (N := none) (zq 10 511) rfl rfl (one_of HT_.out (by kernel_rfl)) (by decide) (fun K hK => ?_)
 have hs70 : w69.cell? ⟨gb251, 0, none⟩ = some (.int .i8 0) := (blk_cell BK251.out 0).trans rfl
 have hfs70 := blk_frozen BK251.out 0
 have hns70_0 := NB220_251.out
 have hns70_1 := NB221_251.out
 have hns70_2 := NB236_251.out
 have hns70_3 := NB242_251.out
 have hms70_0 := NB251_220.out
 have hms70_1 := NB251_221.out
 have hms70_2 := NB251_236.out
 have hms70_3 := NB251_242.out
 have hs71 : w69.cell? ⟨gb251, 1, none⟩ = some (.int .i8 0) := (blk_cell BK251.out 1).trans rfl
 have hfs71 := blk_frozen BK251.out 1
 have hns71_0 := NB220_251.out
 have hns71_1 := NB221_251.out
 have hns71_2 := NB236_251.out
 have hns71_3 := NB242_251.out
 have hms71_0 := NB251_220.out
 have hms71_1 := NB251_221.out
 have hms71_2 := NB251_236.out
 have hms71_3 := NB251_242.out
 have hs73 : w69.cell? ⟨gb251, 2, none⟩ = some (.slice none 0 0) := (blk_cell BK251.out 2).trans rfl
 have hfs73 := blk_frozen BK251.out 2
 have hns73_0 := NB220_251.out
 have hns73_1 := NB221_251.out
 have hns73_2 := NB236_251.out
 have hns73_3 := NB242_251.out
 have hms73_0 := NB251_220.out
 have hms73_1 := NB251_221.out
 have hms73_2 := NB251_236.out
 have hms73_3 := NB251_242.out
 refine skip_ (w1 := ?_) (by rfl) rfl ?_ ?_
 rotate_left
 ·go_simp
  rfl
 refine hK.out _ _ ⟨((cell_far (p := ⟨gb251, _, none⟩) NB242_251.out _).trans (((cell_far (p := ⟨gb251, _, none⟩) NB242_251.out _).trans (((cell_far (p := ⟨gb251, _, none⟩) NB242_251.out _).trans (hHeld.1)))))), ((cell_far (p := ⟨gb251, _, none⟩) NB242_251.out _).trans (((cell_far (p := ⟨gb251, _, none⟩) NB242_251.out _).trans (((cell_far (p := ⟨gb251, _, none⟩) NB242_251.out _).trans (hHeld.2.1)))))), ((cell_far (p := ⟨gb251, _, none⟩) NB242_251.out _).trans (((cell_far (p := ⟨gb251, _, none⟩) NB242_251.out _).trans (((cell_far (p := ⟨gb251, _, none⟩) NB242_251.out _).trans (hHeld.2.2.1)))))), ((cell_far (p := ⟨gb251, _, none⟩) NB221_251.out _).trans (((cell_far (p := ⟨gb251, _, none⟩) NB221_251.out _).trans (((cell_far (p := ⟨gb251, _, none⟩) NB221_251.out _).trans (hHeld.2.2.2.1)))))), ((cell_far (p := ⟨gb251, _, none⟩) NB221_251.out _).trans (((cell_far (p := ⟨gb251, _, none⟩) NB221_251.out _).trans (((cell_far (p := ⟨gb251, _, none⟩) NB221_251.out _).trans (hHeld.2.2.2.2))))))⟩ (fun hHeld => ?_)
 clear hK K
 refine zpu 9 (some 10) (zq 10 1023) HT_ ?_
 refine done_ (done_of HT_.out (by kernel_rfl)) ?_
 have hnb74 := NB251_220.out
 have hnc74 := NB220_251.out
 have hnb75 := NB251_221.out
 have hnc75 := NB221_251.out
 have hnb76 := NB251_236.out
 have hnc76 := NB236_251.out
 have hnb77 := NB251_242.out
 have hnc77 := NB242_251.out
 obtain ⟨z78_0, z78_1, z78_2, y78_0, y78_1, y78_2⟩ := zB3 BK251
 have hnb79 := NB236_221.out
 have hnc79 := NB221_236.out
 obtain ⟨z80_0, z80_1, z80_2, y80_0, y80_1, y80_2⟩ := zB3 BK236
 try go_wp2_with (first | ((with_reducible refine gate_callee (f := 11) rfl ?_); refine goesL_ (some 40) rfl rfl Try.func11 (by kernel_rfl) rfl #[.agg #[.int .i8 t245, .int .i8 t246, .slice Ao72 t247.length co72], .agg #[.int .i8 t230, .int .i8 t231, .slice Ao53 t232.length co53]] rfl zm ?_; (with_reducible refine (laws_eqBoard.calls k t245 t246 _ _ t247 t230 t231 _ _ t232 true _ ?side1 ?side2 ?side3 ?side4 A16.out).mono ?_); (case side1 => exact (Kd.R_reads' (zs HO249 BK251).out).2.2); (case side2 => exact (Kd.R_reads' HO249.out).2.1); (case side3 => exact (Kd.R_reads' (zs HO234 BK251).out).2.2); (case side4 => exact (Kd.R_reads' HO234.out).2.1); rintro e w81 ⟨rfl, hb⟩; refine ⟨_, rfl, ?_⟩; have n_ : _ ∧ _ ∧ _ ∧ _ ∧ _ ∧ _ ∧ _ ∧ _ ∧ _ ∧ _ := ⟨zsb HO227 BK251 hb, zsb HO234 BK251 hb, zsb HO241 BK251 hb, zsb HO249 BK251 hb, zfb BK220 NB220_251 hb, zfb BK221 NB221_251 hb, zfb BK236 NB236_251 hb, zfb BK242 NB242_251 hb, Aside0.mk (blk_below (g := gb251) (o := .cells #[.int .i8 t245, .int .i8 t246, .slice Ao72 t247.length co72] 30 (0, 0)) (zp BK251) hb), zbs hb⟩; clear HO227 HO234 HO241 HO249 BK220 BK221 BK236 BK242 BK251 HB; obtain ⟨HO227, HO234, HO241, HO249, BK220, BK221, BK236, BK242, BK251, HB⟩ := n_; (try clear hb); (try clear hb2); (try clear hk); (try clear hi)))
 have n_ : _ ∧ _ ∧ _ ∧ _ ∧ _ ∧ _ ∧ _ ∧ _ ∧ _ ∧ _ := ⟨Aside0.mk (Kd.R_drew HO227.out), Aside0.mk (Kd.R_drew HO234.out), Aside0.mk (Kd.R_drew HO241.out), Aside0.mk (Kd.R_drew HO249.out), Aside0.mk (blk_drew BK220.out), Aside0.mk (blk_drew BK221.out), Aside0.mk (blk_drew BK236.out), Aside0.mk (blk_drew BK242.out), Aside0.mk (blk_drew BK251.out), Aside0.mk (below_drew1 HB.out)⟩
 clear HO227 HO234 HO241 HO249 BK220 BK221 BK236 BK242 BK251 HB
 obtain ⟨HO227, HO234, HO241, HO249, BK220, BK221, BK236, BK242, BK251, HB⟩ := n_
 refine start_ (n := 5) (S := fun w' => w'.cell? ⟨gb242, 0, none⟩ = some (.int .i8 t237) ∧ w'.cell? ⟨gb242, 1, none⟩ = some (.int .i8 t238) ∧ w'.cell? ⟨gb242, 2, none⟩ = some (.slice Ao63 t239.length co63) ∧ w'.cell? ⟨gb220, 0, none⟩ = some (.int .i8 a0_0) ∧ w'.cell? ⟨gb220, 1, none⟩ = some (.int .i8 a0_1) ∧ w'.cell? ⟨gb220, 2, none⟩ = some (.slice A0_2 l0_2.length c0_2)) (ds := []) #[false, false, false, false, false] (by kernel_rfl) rfl rfl ⟨(blk_cell BK242.out 0).trans rfl, (blk_cell BK242.out 1).trans rfl, (blk_cell BK242.out 2).trans rfl, (blk_cell BK220.out 0).trans rfl, (blk_cell BK220.out 1).trans rfl, (blk_cell BK220.out 2).trans rfl⟩ (fun hHeld => ?_)
 generalize w81.drew = w82 at HO227 HO234 HO241 HO249 BK220 BK221 BK236 BK242 BK251 HB hHeld ⊢
 refine take_ (i := 0) (N := some 47) (v := ?_) (a' := ?_) #[true, false, false, false, false] rfl rfl (by kernel_rfl) (fun _ _ _ h => h) (Or.inl ⟨by rfl, ?_⟩) hHeld ?_ ?_
 rotate_left
 ·rintro w' ⟨s0, s1, s2, s3, s4, s5⟩
  go_simp
  with_reducible rfl
 rotate_left
 ·exact zap
 refine take_ (i := 1) (N := some 48) (v := ?_) (a' := ?_) #[true, true, false, false, false] rfl rfl (by kernel_rfl) (fun _ _ _ h => h) (Or.inl ⟨by rfl, ?_⟩) hHeld ?_ ?_
 rotate_left
 ·rintro w' ⟨s0, s1, s2, s3, s4, s5⟩
  go_simp
  with_reducible rfl
 rotate_left
 ·exact zap
 refine one_ (i := 2) (N := some 49) #[true, true, true, false, false] rfl rfl (by kernel_rfl) (by decide) (fun K hK => ?_)
 refine goes_ Try.func8 (by kernel_rfl) rfl #[.agg #[.int .i8 a0_0, .int .i8 a0_1, .slice A0_2 l0_2.length c0_2]] (by rfl) rfl rfl zm ?_
 with_reducible refine (laws_toBoard.calls k a0_0 a0_1 _ _ l0_2 t253 t254 t255 _ ?side1 ?side2 A19.out).mono ?_
 (case side1 => exact zcc HB HR0_2.out)
 (case side2 => exact HC0_2.out)
 rintro e w83 ⟨v256, rfl, ho0, hb⟩
 refine ⟨_, rfl, ?_⟩
 have n_ : _ ∧ _ ∧ _ ∧ _ ∧ _ ∧ _ ∧ _ ∧ _ ∧ _ ∧ _ ∧ _ := ⟨Aside0.mk (Kd.R_elder' (ze HO227).out (Kd.R_base ho0) hb), Aside0.mk (Kd.R_elder' (ze HO234).out (Kd.R_base ho0) hb), Aside0.mk (Kd.R_elder' (ze HO241).out (Kd.R_base ho0) hb), Aside0.mk (Kd.R_elder' (ze HO249).out (Kd.R_base ho0) hb), Aside0.mk (Kd.R_lower (Kd.R_new' (Kd.R_new' (Kd.R_new' (Kd.R_new' ho0 (Kd.R_lt (ze HO227).out)) (Kd.R_lt (ze HO234).out)) (Kd.R_lt (ze HO241).out)) (Kd.R_lt (ze HO249).out)) (zz HB)), zk BK220 hb, zk BK221 hb, zk BK236 hb, zk BK242 hb, zk BK251 hb, zbs hb⟩
 clear HO227 HO234 HO241 HO249 BK220 BK221 BK236 BK242 BK251 HB
 obtain ⟨HO227, HO234, HO241, HO249, HO257, BK220, BK221, BK236, BK242, BK251, HB⟩ := n_
 (try clear hb)
 (try clear hb2)
 (try clear hk)
 (try clear hi)
 (try clear ho0)
 obtain ⟨Ao84, co84, eo84⟩ := Kd.R_slice HO257.out
 (first | subst eo84 | (injection eo84 with f1_ f2_ f3_; have f4_ := f1_.symm; have f5_ := f3_.symm; clear f1_ f2_ f3_; subst f4_; subst f5_))
 refine hK.out _ _ ⟨(blk_cell BK242.out 0).trans rfl, (blk_cell BK242.out 1).trans rfl, (blk_cell BK242.out 2).trans rfl, (blk_cell BK220.out 0).trans rfl, (blk_cell BK220.out 1).trans rfl, (blk_cell BK220.out 2).trans rfl⟩ (fun hHeld => ?_)
 clear hK K
 refine norm_ (a' := ?_) ?_ ?_
 rotate_left
 ·show Act.put _ (some 49) _ = _
  exact zap
 refine one_ (i := 3) (N := some 50) #[true, true, true, true, false] rfl rfl (by kernel_rfl) (by decide) (fun K hK => ?_)
 refine goes_ Try.func11 (by kernel_rfl) rfl #[.agg #[.int .i8 t237, .int .i8 t238, .slice Ao63 t239.length co63], .agg #[.int .i8 t253, .int .i8 t254, .slice Ao84 t255.length co84]] (by rfl) rfl rfl zm ?_
 with_reducible refine (laws_eqBoard.calls k t237 t238 _ _ t239 t253 t254 _ _ t255 true _ ?side1 ?side2 ?side3 ?side4 A20.out).mono ?_
 (case side1 => exact zrc HO241)
 (case side2 => exact (Kd.R_reads' HO241.out).2.1)
 (case side3 => exact zrc HO257)
 (case side4 => exact (Kd.R_reads' HO257.out).2.1)
 rintro e w85 ⟨rfl, hb⟩
 refine ⟨_, rfl, ?_⟩
 have n_ : _ ∧ _ ∧ _ ∧ _ ∧ _ ∧ _ ∧ _ ∧ _ ∧ _ ∧ _ ∧ _ := ⟨zr HO227 hb, zr HO234 hb, zr HO241 hb, zr HO249 hb, zr HO257 hb, zk BK220 hb, zk BK221 hb, zk BK236 hb, zk BK242 hb, zk BK251 hb, zbs hb⟩
 clear HO227 HO234 HO241 HO249 HO257 BK220 BK221 BK236 BK242 BK251 HB
 obtain ⟨HO227, HO234, HO241, HO249, HO257, BK220, BK221, BK236, BK242, BK251, HB⟩ := n_
 (try clear hb)
 (try clear hb2)
 (try clear hk)
 (try clear hi)
 refine hK.out _ _ ⟨(blk_cell BK242.out 0).trans rfl, (blk_cell BK242.out 1).trans rfl, (blk_cell BK242.out 2).trans rfl, (blk_cell BK220.out 0).trans rfl, (blk_cell BK220.out 1).trans rfl, (blk_cell BK220.out 2).trans rfl⟩ (fun hHeld => ?_)
 clear hK K
 refine norm_ (a' := ?_) ?_ ?_
 rotate_left
 ·show Act.put _ (some 50) _ = _
  exact zap
 refine pure_ (i := 4) (N := some 51) (v := ?_) (a' := ?_) #[true, true, true, true, true] rfl rfl (by kernel_rfl) (fun _ _ _ h => h) (Or.inl ⟨by rfl, ?_⟩) ?_ ?_
 rotate_left
 ·intro w'
  go_simp
  with_reducible rfl
 rotate_left
 ·exact zap
 refine done_ (by kernel_rfl) ?_
 obtain ⟨z86_0, z86_1, z86_2, y86_0, y86_1, y86_2⟩ := zB3 BK242
 try go_wp2_with (first | ((with_reducible refine gate_callee (f := 12) rfl ?_); refine goesL_ (some 54) rfl rfl Try.func12 (by kernel_rfl) rfl #[.agg #[.int .i8 t237, .int .i8 t238, .slice Ao63 t239.length co63], .int .i64 1] rfl zm ?_; (with_reducible refine (laws_markBoard.calls k t237 t238 (fun k_ => some k_ = (.slice Ao63 t239.length co63 : Value).ownBlock) (.slice Ao63 t239.length co63) t239 1 t259 t260 w _ ?side1 ?side2 A22.out).mono ?_); (case side1 => exact zbo); (case side2 => exact Kd.R_tight rfl HO241.out); rintro e w87 ⟨rfl, hy0, hb, hkp⟩; refine ⟨_, rfl, ?_⟩; have n_ : _ ∧ _ ∧ _ ∧ _ ∧ _ ∧ _ ∧ _ ∧ _ ∧ _ ∧ _ ∧ _ := ⟨zkr BK220 hkp (fun hs_ => (fun e_ => (Kd.R_ne HO241.out BK220.out (by decide)) e_) hs_), zkr BK221 hkp (fun hs_ => (fun e_ => (Kd.R_ne HO241.out BK221.out (by decide)) e_) hs_), Aside0.mk (Kd.R_mono (ok' := fun k_ => some k_ ≠ (.slice Ao53 t232.length co53 : Value).ownBlock ∧ some k_ ≠ (.slice Ao63 t239.length co63 : Value).ownBlock ∧ some k_ ≠ (.slice Ao72 t247.length co72 : Value).ownBlock ∧ some k_ ≠ (.slice Ao84 t255.length co84 : Value).ownBlock) (Kd.R_keptB (HO227.out) hkp (fun k_ hk_ hs_ => (hk_.1.2.1) hs_)) (fun k_ hk_ => ⟨hk_.1.1.1, hk_.1.1.2.1, hk_.1.1.2.2, hk_.1.2⟩)), Aside0.mk (Kd.R_mono (ok' := fun k_ => some k_ ≠ (v226 : Value).ownBlock ∧ some k_ ≠ (.slice Ao63 t239.length co63 : Value).ownBlock ∧ some k_ ≠ (.slice Ao72 t247.length co72 : Value).ownBlock ∧ some k_ ≠ (.slice Ao84 t255.length co84 : Value).ownBlock) (Kd.R_keptB (HO234.out) hkp (fun k_ hk_ hs_ => (hk_.1.2.1) hs_)) (fun k_ hk_ => ⟨hk_.1.1.1, hk_.1.1.2.1, hk_.1.1.2.2, hk_.1.2⟩)), zkr BK236 hkp (fun hs_ => (fun e_ => (Kd.R_ne HO241.out BK236.out (by decide)) e_) hs_), Aside0.mk (Kd.R_reok rfl hy0 (fun k_ e_ => HO241.out.1 k_ e_)), zkr BK242 hkp (fun hs_ => (fun e_ => (Kd.R_ne HO241.out BK242.out (by decide)) e_) hs_), Aside0.mk (Kd.R_mono (ok' := fun k_ => some k_ ≠ (v226 : Value).ownBlock ∧ some k_ ≠ (.slice Ao53 t232.length co53 : Value).ownBlock ∧ some k_ ≠ (.slice Ao63 t239.length co63 : Value).ownBlock ∧ some k_ ≠ (.slice Ao84 t255.length co84 : Value).ownBlock) (Kd.R_keptB (HO249.out) hkp (fun k_ hk_ hs_ => (hk_.1.2.2) hs_)) (fun k_ hk_ => ⟨hk_.1.1.1, hk_.1.1.2.1, hk_.1.1.2.2, hk_.1.2⟩)), zkr BK251 hkp (fun hs_ => (fun e_ => (Kd.R_ne HO241.out BK251.out (by decide)) e_) hs_), Aside0.mk (Kd.R_mono (ok' := fun k_ => some k_ ≠ (v226 : Value).ownBlock ∧ some k_ ≠ (.slice Ao53 t232.length co53 : Value).ownBlock ∧ some k_ ≠ (.slice Ao63 t239.length co63 : Value).ownBlock ∧ some k_ ≠ (.slice Ao72 t247.length co72 : Value).ownBlock) (Kd.R_keptB (HO257.out) hkp (fun k_ hk_ hs_ => (hk_.1.2) hs_)) (fun k_ hk_ => ⟨hk_.1.1.1.1.2, hk_.1.1.1.2, hk_.1.1.2, hk_.1.2⟩)), Aside0.mk (hb)⟩; clear BK220 BK221 HO227 HO234 BK236 HO241 BK242 HO249 BK251 HO257 HB; obtain ⟨BK220, BK221, HO227, HO234, BK236, HO241, BK242, HO249, BK251, HO257, HB⟩ := n_; (try clear hb); (try clear hkp); (try clear hy0); obtain ⟨z88_0, z88_1, z88_2, y88_0, y88_1, y88_2⟩ := zB3 BK251; obtain ⟨z89_0, z89_1, z89_2, y89_0, y89_1, y89_2⟩ := zB3 BK236) | (go_at_call 11; (with_reducible refine (laws_eqBoard.calls k t245 t246 _ _ t247 t230 t231 _ _ t232 true _ ?side1 ?side2 ?side3 ?side4 A24.out).mono ?_); (case side1 => exact zrc HO249); (case side2 => exact (Kd.R_reads' HO249.out).2.1); (case side3 => exact zrc HO234); (case side4 => exact (Kd.R_reads' HO234.out).2.1); rintro e w90 ⟨rfl, hb⟩; have n_ : _ ∧ _ ∧ _ ∧ _ ∧ _ ∧ _ ∧ _ ∧ _ ∧ _ ∧ _ ∧ _ := ⟨zr HO227 hb, zr HO234 hb, zr HO241 hb, zr HO249 hb, zr HO257 hb, zk BK220 hb, zk BK221 hb, zk BK236 hb, zk BK242 hb, zk BK251 hb, zbs hb⟩; clear HO227 HO234 HO241 HO249 HO257 BK220 BK221 BK236 BK242 BK251 HB; obtain ⟨HO227, HO234, HO241, HO249, HO257, BK220, BK221, BK236, BK242, BK251, HB⟩ := n_; (try clear hb); (try clear hb2); (try clear hk); (try clear hi); obtain ⟨z91_0, z91_1, z91_2, y91_0, y91_1, y91_2⟩ := zB3 BK251) | ((with_reducible refine gate_callee (f := 12) rfl ?_); refine goesL_ (some 70) rfl rfl Try.func12 (by kernel_rfl) rfl #[.agg #[.int .i8 t245, .int .i8 t246, .slice Ao72 t247.length co72], .int .i64 1] rfl zm ?_; (with_reducible refine (laws_markBoard.calls k t245 t246 (fun k_ => some k_ = (.slice Ao72 t247.length co72 : Value).ownBlock) (.slice Ao72 t247.length co72) t247 1 t262 t263 w _ ?side1 ?side2 A26.out).mono ?_); (case side1 => exact zbo); (case side2 => exact Kd.R_tight rfl HO249.out); rintro e w92 ⟨rfl, hy0, hb, hkp⟩; refine ⟨_, rfl, ?_⟩; have n_ : _ ∧ _ ∧ _ ∧ _ ∧ _ ∧ _ ∧ _ ∧ _ ∧ _ ∧ _ ∧ _ := ⟨zkr BK220 hkp (fun hs_ => (fun e_ => (Kd.R_ne HO249.out BK220.out (by decide)) e_) hs_), zkr BK221 hkp (fun hs_ => (fun e_ => (Kd.R_ne HO249.out BK221.out (by decide)) e_) hs_), Aside0.mk (Kd.R_mono (ok' := fun k_ => some k_ ≠ (.slice Ao53 t232.length co53 : Value).ownBlock ∧ some k_ ≠ (.slice Ao63 t239.length co63 : Value).ownBlock ∧ some k_ ≠ (.slice Ao72 t247.length co72 : Value).ownBlock ∧ some k_ ≠ (.slice Ao84 t255.length co84 : Value).ownBlock) (Kd.R_keptB (HO227.out) hkp (fun k_ hk_ hs_ => (hk_.2.2.1) hs_)) (fun k_ hk_ => ⟨hk_.1.1, hk_.1.2.1, hk_.1.2.2.1, hk_.1.2.2.2⟩)), Aside0.mk (Kd.R_mono (ok' := fun k_ => some k_ ≠ (v226 : Value).ownBlock ∧ some k_ ≠ (.slice Ao63 t239.length co63 : Value).ownBlock ∧ some k_ ≠ (.slice Ao72 t247.length co72 : Value).ownBlock ∧ some k_ ≠ (.slice Ao84 t255.length co84 : Value).ownBlock) (Kd.R_keptB (HO234.out) hkp (fun k_ hk_ hs_ => (hk_.2.2.1) hs_)) (fun k_ hk_ => ⟨hk_.1.1, hk_.1.2.1, hk_.1.2.2.1, hk_.1.2.2.2⟩)), zkr BK236 hkp (fun hs_ => (fun e_ => (Kd.R_ne HO249.out BK236.out (by decide)) e_) hs_), Aside0.mk (Kd.R_mono (ok' := fun k_ => some k_ ≠ (v226 : Value).ownBlock ∧ some k_ ≠ (.slice Ao53 t232.length co53 : Value).ownBlock ∧ some k_ ≠ (.slice Ao72 t247.length co72 : Value).ownBlock ∧ some k_ ≠ (.slice Ao84 t255.length co84 : Value).ownBlock) (Kd.R_keptB (HO241.out) hkp (fun k_ hk_ hs_ => (hk_.1.2.2) hs_)) (fun k_ hk_ => ⟨hk_.1.1.1, hk_.1.1.2.1, hk_.1.1.2.2, hk_.1.2⟩)), zkr BK242 hkp (fun hs_ => (fun e_ => (Kd.R_ne HO249.out BK242.out (by decide)) e_) hs_), Aside0.mk (Kd.R_reok rfl hy0 (fun k_ e_ => HO249.out.1 k_ e_)), zkr BK251 hkp (fun hs_ => (fun e_ => (Kd.R_ne HO249.out BK251.out (by decide)) e_) hs_), Aside0.mk (Kd.R_mono (ok' := fun k_ => some k_ ≠ (v226 : Value).ownBlock ∧ some k_ ≠ (.slice Ao53 t232.length co53 : Value).ownBlock ∧ some k_ ≠ (.slice Ao63 t239.length co63 : Value).ownBlock ∧ some k_ ≠ (.slice Ao72 t247.length co72 : Value).ownBlock) (Kd.R_keptB (HO257.out) hkp (fun k_ hk_ hs_ => (hk_.2.2.2) hs_)) (fun k_ hk_ => ⟨hk_.1.1, hk_.1.2.1, hk_.1.2.2.1, hk_.1.2.2.2⟩)), Aside0.mk (hb)⟩; clear BK220 BK221 HO227 HO234 BK236 HO241 BK242 HO249 BK251 HO257 HB; obtain ⟨BK220, BK221, HO227, HO234, BK236, HO241, BK242, HO249, BK251, HO257, HB⟩ := n_; (try clear hb); (try clear hkp); (try clear hy0); obtain ⟨z93_0, z93_1, z93_2, y93_0, y93_1, y93_2⟩ := zB3 BK251) | ((with_reducible refine gate_callee (f := 13) rfl ?_); refine goesL_ (some 73) rfl rfl Try.func13 (by kernel_rfl) rfl #[.agg #[.int .i8 t245, .int .i8 t246, .slice Ao72 t263.length co72], .int .i64 1] rfl (by (try simp only [List.map_toArray, List.map_cons, List.map_nil]); first | done | (rw [show t263.length = t247.length from (Kd.R_reads' HO249.out).1.symm] <;> rfl) | rfl | (simp only [List.length_drop, List.length_take]; rfl)) ?_; (with_reducible refine (laws_heldBoard.calls k t245 t246 _ _ t263 1 t264 _ ?side1 ?side2 A27.out).mono ?_); (case side1 => exact zrc HO249); (case side2 => rw [show t263.length = t247.length from (Kd.R_reads' HO249.out).1.symm]; exact (Kd.R_reads' HO249.out).2.1); rintro e w94 ⟨rfl, hb⟩; refine ⟨_, rfl, ?_⟩; have n_ : _ ∧ _ ∧ _ ∧ _ ∧ _ ∧ _ ∧ _ ∧ _ ∧ _ ∧ _ ∧ _ := ⟨zr HO227 hb, zr HO234 hb, zr HO241 hb, zr HO249 hb, zr HO257 hb, zk BK220 hb, zk BK221 hb, zk BK236 hb, zk BK242 hb, zk BK251 hb, zbs hb⟩; clear HO227 HO234 HO241 HO249 HO257 BK220 BK221 BK236 BK242 BK251 HB; obtain ⟨HO227, HO234, HO241, HO249, HO257, BK220, BK221, BK236, BK242, BK251, HB⟩ := n_; (try clear hb); (try clear hb2); (try clear hk); (try clear hi)))
 have n_ : _ ∧ _ ∧ _ ∧ _ ∧ _ ∧ _ ∧ _ ∧ _ ∧ _ ∧ _ ∧ _ := ⟨Aside0.mk (Kd.R_drew HO227.out), Aside0.mk (Kd.R_drew HO234.out), Aside0.mk (Kd.R_drew HO241.out), Aside0.mk (Kd.R_drew HO249.out), Aside0.mk (Kd.R_drew HO257.out), Aside0.mk (blk_drew BK220.out), Aside0.mk (blk_drew BK221.out), Aside0.mk (blk_drew BK236.out), Aside0.mk (blk_drew BK242.out), Aside0.mk (blk_drew BK251.out), Aside0.mk (below_drew1 HB.out)⟩
 clear HO227 HO234 HO241 HO249 HO257 BK220 BK221 BK236 BK242 BK251 HB
 obtain ⟨HO227, HO234, HO241, HO249, HO257, BK220, BK221, BK236, BK242, BK251, HB⟩ := n_
 refine start_ (n := 11) (S := fun w' => w'.cell? ⟨gb220, 0, none⟩ = some (.int .i8 a0_0) ∧ w'.cell? ⟨gb220, 1, none⟩ = some (.int .i8 a0_1) ∧ w'.cell? ⟨gb220, 2, none⟩ = some (.slice A0_2 l0_2.length c0_2) ∧ w'.cell? ⟨gb221, 0, none⟩ = some (.int .i8 a1_0) ∧ w'.cell? ⟨gb221, 1, none⟩ = some (.int .i8 a1_1)) (ds := []) (zq 11 0) (by kernel_rfl) rfl rfl ⟨(blk_cell BK220.out 0).trans rfl, (blk_cell BK220.out 1).trans rfl, (blk_cell BK220.out 2).trans rfl, (blk_cell BK221.out 0).trans rfl, (blk_cell BK221.out 1).trans rfl⟩ (fun hHeld => ?_); refine with_tabW laws_FnExactTakePiece.tab24 laws_FnExactTakePiece.bits24 (fun HT_ HW_ => ?_)
 generalize w94.drew = w95 at HO227 HO234 HO241 HO249 HO257 BK220 BK221 BK236 BK242 BK251 HB hHeld ⊢
 refine ztk 0 (some 80) (zq 11 1) HT_ HW_ rfl hHeld (Or.inl ⟨by rfl, by (rintro w' ⟨s0, s1, s2, s3, s4⟩; go_simp; with_reducible rfl)⟩) ?_
 refine ztk 2 (some 82) (zq 11 5) HT_ HW_ rfl hHeld (Or.inl ⟨by rfl, by (rintro w' ⟨s0, s1, s2, s3, s4⟩; go_simp; with_reducible rfl)⟩) ?_
 refine join_ (σ := Value × Value × Nat) 2 (zq 11 511) (fun s_ => [(81, .agg #[.int .i8 t265, .int .i8 t266, s_.1]), (83, .agg #[.int .i8 t270, .int .i8 t271]), (84, .tuple #[.agg #[.int .i8 t272, .int .i8 t273, s_.2.1], .int .i64 t277]), (14, .pointer (some ⟨s_.2.2, 0, none⟩)), (79, .tuple #[.agg #[.int .i8 t272, .int .i8 t273, s_.2.1], .int .i64 t277]), (85, .agg #[.int .i8 t272, .int .i8 t273, s_.2.1]), (86, .int .i64 t277)]) (fun s_ w' => (w'.cell? ⟨gb220, 0, none⟩ = some (.int .i8 a0_0) ∧ w'.cell? ⟨gb220, 1, none⟩ = some (.int .i8 a0_1) ∧ w'.cell? ⟨gb220, 2, none⟩ = some (.slice A0_2 l0_2.length c0_2) ∧ w'.cell? ⟨gb221, 0, none⟩ = some (.int .i8 a1_0) ∧ w'.cell? ⟨gb221, 1, none⟩ = some (.int .i8 a1_1)) ∧ (Kd.R k62 62 w' w.heap.size (fun k_ => some k_ ≠ (.slice Ao53 t232.length co53 : Value).ownBlock ∧ some k_ ≠ (.slice Ao63 t239.length co63 : Value).ownBlock ∧ some k_ ≠ (.slice Ao72 t247.length co72 : Value).ownBlock ∧ some k_ ≠ (.slice Ao84 t255.length co84 : Value).ownBlock ∧ some k_ ≠ (s_.1 : Value).ownBlock ∧ some k_ ≠ (s_.2.1 : Value).ownBlock) v226 t225) ∧ (Kd.R k62 62 w' w.heap.size (fun k_ => some k_ ≠ (v226 : Value).ownBlock ∧ some k_ ≠ (.slice Ao63 t239.length co63 : Value).ownBlock ∧ some k_ ≠ (.slice Ao72 t247.length co72 : Value).ownBlock ∧ some k_ ≠ (.slice Ao84 t255.length co84 : Value).ownBlock ∧ some k_ ≠ (s_.1 : Value).ownBlock ∧ some k_ ≠ (s_.2.1 : Value).ownBlock) (.slice Ao53 t232.length co53) t232) ∧ (Kd.R k62 62 w' w.heap.size (fun k_ => some k_ ≠ (v226 : Value).ownBlock ∧ some k_ ≠ (.slice Ao53 t232.length co53 : Value).ownBlock ∧ some k_ ≠ (.slice Ao72 t247.length co72 : Value).ownBlock ∧ some k_ ≠ (.slice Ao84 t255.length co84 : Value).ownBlock ∧ some k_ ≠ (s_.1 : Value).ownBlock ∧ some k_ ≠ (s_.2.1 : Value).ownBlock) (.slice Ao63 t239.length co63) t260) ∧ (Kd.R k62 62 w' w.heap.size (fun k_ => some k_ ≠ (v226 : Value).ownBlock ∧ some k_ ≠ (.slice Ao53 t232.length co53 : Value).ownBlock ∧ some k_ ≠ (.slice Ao63 t239.length co63 : Value).ownBlock ∧ some k_ ≠ (.slice Ao84 t255.length co84 : Value).ownBlock ∧ some k_ ≠ (s_.1 : Value).ownBlock ∧ some k_ ≠ (s_.2.1 : Value).ownBlock) (.slice Ao72 t247.length co72) t263) ∧ (Kd.R k62 62 w' w.heap.size (fun k_ => some k_ ≠ (v226 : Value).ownBlock ∧ some k_ ≠ (.slice Ao53 t232.length co53 : Value).ownBlock ∧ some k_ ≠ (.slice Ao63 t239.length co63 : Value).ownBlock ∧ some k_ ≠ (.slice Ao72 t247.length co72 : Value).ownBlock ∧ some k_ ≠ (s_.1 : Value).ownBlock ∧ some k_ ≠ (s_.2.1 : Value).ownBlock) (.slice Ao84 t255.length co84) t255) ∧ (Kd.R k62 62 w' w.heap.size (fun k_ => some k_ ≠ (v226 : Value).ownBlock ∧ some k_ ≠ (.slice Ao53 t232.length co53 : Value).ownBlock ∧ some k_ ≠ (.slice Ao63 t239.length co63 : Value).ownBlock ∧ some k_ ≠ (.slice Ao72 t247.length co72 : Value).ownBlock ∧ some k_ ≠ (.slice Ao84 t255.length co84 : Value).ownBlock ∧ some k_ ≠ (s_.2.1 : Value).ownBlock) s_.1 t267) ∧ (Kd.R k62 62 w' w.heap.size (fun k_ => some k_ ≠ (v226 : Value).ownBlock ∧ some k_ ≠ (.slice Ao53 t232.length co53 : Value).ownBlock ∧ some k_ ≠ (.slice Ao63 t239.length co63 : Value).ownBlock ∧ some k_ ≠ (.slice Ao72 t247.length co72 : Value).ownBlock ∧ some k_ ≠ (.slice Ao84 t255.length co84 : Value).ownBlock ∧ some k_ ≠ (s_.1 : Value).ownBlock) s_.2.1 t274) ∧ (w'.heap[gb220]? = some (.cells #[.int .i8 a0_0, .int .i8 a0_1, .slice A0_2 l0_2.length c0_2] 25 (0, 0))) ∧ (w'.heap[gb221]? = some (.cells #[.int .i8 a1_0, .int .i8 a1_1] 26 (0, 0))) ∧ (w'.heap[gb236]? = some (.cells #[.int .i8 t230, .int .i8 t231, .slice Ao53 t232.length co53] 30 (0, 0))) ∧ (w'.heap[gb242]? = some (.cells #[.int .i8 t237, .int .i8 t238, .slice Ao63 t239.length co63] 30 (0, 0))) ∧ (w'.heap[gb251]? = some (.cells #[.int .i8 t245, .int .i8 t246, .slice Ao72 t247.length co72] 30 (0, 0))) ∧ (w'.heap[s_.2.2]? = some (.cells #[.int .i8 0, .int .i8 0, .slice none 0 0] 30 (0, 0))) ∧ (w.heap.size ≤ s_.2.2) ∧ (w.heap.size ≤ s_.2.2) ∧ (gb220 ≠ s_.2.2) ∧ (s_.2.2 ≠ gb220) ∧ (gb221 ≠ s_.2.2) ∧ (s_.2.2 ≠ gb221) ∧ (gb236 ≠ s_.2.2) ∧ (s_.2.2 ≠ gb236) ∧ (gb242 ≠ s_.2.2) ∧ (s_.2.2 ≠ gb242) ∧ (gb251 ≠ s_.2.2) ∧ (s_.2.2 ≠ gb251) ∧ (Below w.heap.size w w')) ?_ ?_
 rotate_left
 ·intro hCont
  refine two_ (i := 1) (j := 8) (Ni := some 81) (Nj := some 14) (zq 11 7) (zq 11 261) rfl rfl rfl rfl (two_of HT_.out (by kernel_rfl)) (by decide) (by decide) (fun K hK => ?_) (fun K hK => ?_)
  rotate_left
  ·skip
   refine box_step ?hg (N := 14) ?hd (cs := #[.int .i8 0, .int .i8 0, .slice none 0 0]) (t := 30) ?hr ?_; (case hd => rfl); (case hg => rfl); (case hr => exact zgs)
   intro gb278 hg w96 hbox hb
   have n_ : _ ∧ _ ∧ _ ∧ _ ∧ _ ∧ _ ∧ _ ∧ _ ∧ _ ∧ _ ∧ _ ∧ _ ∧ _ ∧ _ ∧ _ ∧ _ ∧ _ ∧ _ ∧ _ ∧ _ ∧ _ ∧ _ ∧ _ ∧ _ := ⟨zr HO227 hb, zr HO234 hb, zr HO241 hb, zr HO249 hb, zr HO257 hb, zk BK220 hb, zk BK221 hb, zk BK236 hb, zk BK242 hb, zk BK251 hb, zbs hb, Aside0.mk (hbox), zg HB hg, zg HB hg, zn1 BK220 hg, zn2 BK220 hg, zn1 BK221 hg, zn2 BK221 hg, zn1 BK236 hg, zn2 BK236 hg, zn1 BK242 hg, zn2 BK242 hg, zn1 BK251 hg, zn2 BK251 hg⟩
   clear HO227 HO234 HO241 HO249 HO257 BK220 BK221 BK236 BK242 BK251 HB
   obtain ⟨HO227, HO234, HO241, HO249, HO257, BK220, BK221, BK236, BK242, BK251, HB, BK278, GW278, GE278, NB220_278, NB278_220, NB221_278, NB278_221, NB236_278, NB278_236, NB242_278, NB278_242, NB251_278, NB278_251⟩ := n_
   clear hb hbox hg
   refine hK.out _ _ ⟨(blk_cell BK220.out 0).trans rfl, (blk_cell BK220.out 1).trans rfl, (blk_cell BK220.out 2).trans rfl, (blk_cell BK221.out 0).trans rfl, (blk_cell BK221.out 1).trans rfl⟩ (fun hHeld => ?_)
   clear hK K
   refine norm_ (a' := ?_) ?_ ?_
   rotate_left
   ·show Act.put _ (some 14) _ = _
    exact zap
   refine one_ (i := 1) (N := some 81) (zq 11 263) rfl rfl (one_of HT_.out (by kernel_rfl)) (by decide) (fun K hK => ?_)
   refine goes_ Try.func8 (by kernel_rfl) rfl #[.agg #[.int .i8 a0_0, .int .i8 a0_1, .slice A0_2 l0_2.length c0_2]] (by rfl) rfl rfl zm ?_
   with_reducible refine (laws_toBoard.calls k a0_0 a0_1 _ _ l0_2 t265 t266 t267 _ ?side1 ?side2 A30.out).mono ?_
   (case side1 => exact zcc HB HR0_2.out)
   (case side2 => exact HC0_2.out)
   rintro e w97 ⟨v268, rfl, ho0, hb⟩
   refine ⟨_, rfl, ?_⟩
   have n_ : _ ∧ _ ∧ _ ∧ _ ∧ _ ∧ _ ∧ _ ∧ _ ∧ _ ∧ _ ∧ _ ∧ _ ∧ _ := ⟨Aside0.mk (Kd.R_elder' (ze HO227).out (Kd.R_base ho0) hb), Aside0.mk (Kd.R_elder' (ze HO234).out (Kd.R_base ho0) hb), Aside0.mk (Kd.R_elder' (ze HO241).out (Kd.R_base ho0) hb), Aside0.mk (Kd.R_elder' (ze HO249).out (Kd.R_base ho0) hb), Aside0.mk (Kd.R_elder' (ze HO257).out (Kd.R_base ho0) hb), Aside0.mk (Kd.R_lower (Kd.R_new' (Kd.R_new' (Kd.R_new' (Kd.R_new' (Kd.R_new' ho0 (Kd.R_lt (ze HO227).out)) (Kd.R_lt (ze HO234).out)) (Kd.R_lt (ze HO241).out)) (Kd.R_lt (ze HO249).out)) (Kd.R_lt (ze HO257).out)) (zz HB)), zk BK220 hb, zk BK221 hb, zk BK236 hb, zk BK242 hb, zk BK251 hb, zk BK278 hb, zbs hb⟩
   clear HO227 HO234 HO241 HO249 HO257 BK220 BK221 BK236 BK242 BK251 BK278 HB
   obtain ⟨HO227, HO234, HO241, HO249, HO257, HO269, BK220, BK221, BK236, BK242, BK251, BK278, HB⟩ := n_
   (try clear hb)
   (try clear hb2)
   (try clear hk)
   (try clear hi)
   (try clear ho0)
   refine hK.out _ _ ⟨(blk_cell BK220.out 0).trans rfl, (blk_cell BK220.out 1).trans rfl, (blk_cell BK220.out 2).trans rfl, (blk_cell BK221.out 0).trans rfl, (blk_cell BK221.out 1).trans rfl⟩ (fun hHeld => ?_)
   clear hK K
   refine norm_ (a' := ?_) ?_ ?_
   rotate_left
   ·show Act.put _ (some 81) _ = _
    exact zap
   refine one_ (i := 3) (N := some 83) (zq 11 271) rfl rfl (one_of HT_.out (by kernel_rfl)) (by decide) (fun K hK => ?_)
   refine goes_ Try.func9 (by kernel_rfl) rfl #[.agg #[.int .i8 a1_0, .int .i8 a1_1]] (by rfl) rfl rfl zm ?_
   with_reducible refine (laws_toCell.calls k a1_0 a1_1 t270 t271 _ A31.out).mono ?_
   rintro e w98 ⟨rfl, hb⟩
   refine ⟨_, rfl, ?_⟩
   have n_ : _ ∧ _ ∧ _ ∧ _ ∧ _ ∧ _ ∧ _ ∧ _ ∧ _ ∧ _ ∧ _ ∧ _ ∧ _ := ⟨zr HO227 hb, zr HO234 hb, zr HO241 hb, zr HO249 hb, zr HO257 hb, zr HO269 hb, zk BK220 hb, zk BK221 hb, zk BK236 hb, zk BK242 hb, zk BK251 hb, zk BK278 hb, zbs hb⟩
   clear HO227 HO234 HO241 HO249 HO257 HO269 BK220 BK221 BK236 BK242 BK251 BK278 HB
   obtain ⟨HO227, HO234, HO241, HO249, HO257, HO269, BK220, BK221, BK236, BK242, BK251, BK278, HB⟩ := n_
   (try clear hb)
   (try clear hb2)
   (try clear hk)
   (try clear hi)
   obtain ⟨Ao99, co99, eo99⟩ := Kd.R_slice HO269.out
   (first | subst eo99 | (injection eo99 with f1_ f2_ f3_; have f4_ := f1_.symm; have f5_ := f3_.symm; clear f1_ f2_ f3_; subst f4_; subst f5_))
   refine hK.out _ _ ⟨(blk_cell BK220.out 0).trans rfl, (blk_cell BK220.out 1).trans rfl, (blk_cell BK220.out 2).trans rfl, (blk_cell BK221.out 0).trans rfl, (blk_cell BK221.out 1).trans rfl⟩ (fun hHeld => ?_)
   clear hK K
   refine norm_ (a' := ?_) ?_ ?_
   rotate_left
   ·show Act.put _ (some 83) _ = _
    exact zap
   refine one_ (i := 4) (N := some 84) (zq 11 287) rfl rfl (one_of HT_.out (by kernel_rfl)) (by decide) (fun K hK => ?_)
   refine goes_ Try.func10 (by kernel_rfl) rfl #[.agg #[.int .i8 t265, .int .i8 t266, .slice Ao99 t267.length co99], .agg #[.int .i8 t270, .int .i8 t271]] (by rfl) rfl rfl zm ?_
   with_reducible refine (impl_TakePiece.calls k t265 t266 _ _ t267 t270 t271 t272 t273 t274 t277 _ ?side1 ?side2 A32.out).mono ?_
   (case side1 => exact zrc HO269)
   (case side2 => exact (Kd.R_reads' HO269.out).2.1)
   rintro e w100 ⟨v275, rfl, ho0, hb⟩
   refine ⟨_, rfl, ?_⟩
   have n_ : _ ∧ _ ∧ _ ∧ _ ∧ _ ∧ _ ∧ _ ∧ _ ∧ _ ∧ _ ∧ _ ∧ _ ∧ _ ∧ _ := ⟨Aside0.mk (Kd.R_elder' (ze HO227).out (Kd.R_base ho0) hb), Aside0.mk (Kd.R_elder' (ze HO234).out (Kd.R_base ho0) hb), Aside0.mk (Kd.R_elder' (ze HO241).out (Kd.R_base ho0) hb), Aside0.mk (Kd.R_elder' (ze HO249).out (Kd.R_base ho0) hb), Aside0.mk (Kd.R_elder' (ze HO257).out (Kd.R_base ho0) hb), Aside0.mk (Kd.R_elder' (ze HO269).out (Kd.R_base ho0) hb), Aside0.mk (Kd.R_lower (Kd.R_new' (Kd.R_new' (Kd.R_new' (Kd.R_new' (Kd.R_new' (Kd.R_new' ho0 (Kd.R_lt (ze HO227).out)) (Kd.R_lt (ze HO234).out)) (Kd.R_lt (ze HO241).out)) (Kd.R_lt (ze HO249).out)) (Kd.R_lt (ze HO257).out)) (Kd.R_lt (ze HO269).out)) (zz HB)), zk BK220 hb, zk BK221 hb, zk BK236 hb, zk BK242 hb, zk BK251 hb, zk BK278 hb, zbs hb⟩
   clear HO227 HO234 HO241 HO249 HO257 HO269 BK220 BK221 BK236 BK242 BK251 BK278 HB
   obtain ⟨HO227, HO234, HO241, HO249, HO257, HO269, HO276, BK220, BK221, BK236, BK242, BK251, BK278, HB⟩ := n_
   (try clear hb)
   (try clear hb2)
   (try clear hk)
   (try clear hi)
   (try clear ho0)
   refine hK.out _ _ ⟨(blk_cell BK220.out 0).trans rfl, (blk_cell BK220.out 1).trans rfl, (blk_cell BK220.out 2).trans rfl, (blk_cell BK221.out 0).trans rfl, (blk_cell BK221.out 1).trans rfl⟩ (fun hHeld => ?_)
   clear hK K
   refine norm_ (a' := ?_) ?_ ?_
   rotate_left
   ·show Act.put _ (some 84) _ = _
    exact zap
   refine zpu 5 (some 79) (zq 11 319) HT_ ?_
   refine zpu 6 (some 85) (zq 11 383) HT_ ?_
   refine zpu 7 (some 86) (zq 11 511) HT_ ?_
   exact norm_ (by simp only [putAll, Act.put, List.setIfInBounds_toArray, List.set_cons_zero, List.set_cons_succ]) (hCont (.slice Ao99 t267.length co99, v275, gb278) _ ⟨hHeld, (by (with_reducible repeat (first | apply Kd.R_alloc | apply Kd.R_drewN | apply Kd.R_drew)); exact Kd.R_mono HO227.out (fun _ hk => ⟨hk.1.1.1, ⟨hk.1.1.2.1, ⟨hk.1.1.2.2.1, ⟨hk.1.1.2.2.2, ⟨hk.1.2, hk.2⟩⟩⟩⟩⟩)), (by (with_reducible repeat (first | apply Kd.R_alloc | apply Kd.R_drewN | apply Kd.R_drew)); exact Kd.R_mono HO234.out (fun _ hk => ⟨hk.1.1.1, ⟨hk.1.1.2.1, ⟨hk.1.1.2.2.1, ⟨hk.1.1.2.2.2, ⟨hk.1.2, hk.2⟩⟩⟩⟩⟩)), (by (with_reducible repeat (first | apply Kd.R_alloc | apply Kd.R_drewN | apply Kd.R_drew)); exact Kd.R_mono HO241.out (fun _ hk => ⟨hk.1.1.1, ⟨hk.1.1.2.1, ⟨hk.1.1.2.2.1, ⟨hk.1.1.2.2.2, ⟨hk.1.2, hk.2⟩⟩⟩⟩⟩)), (by (with_reducible repeat (first | apply Kd.R_alloc | apply Kd.R_drewN | apply Kd.R_drew)); exact Kd.R_mono HO249.out (fun _ hk => ⟨hk.1.1.1, ⟨hk.1.1.2.1, ⟨hk.1.1.2.2.1, ⟨hk.1.1.2.2.2, ⟨hk.1.2, hk.2⟩⟩⟩⟩⟩)), (by (with_reducible repeat (first | apply Kd.R_alloc | apply Kd.R_drewN | apply Kd.R_drew)); exact Kd.R_mono HO257.out (fun _ hk => ⟨hk.1.1.1, ⟨hk.1.1.2.1, ⟨hk.1.1.2.2.1, ⟨hk.1.1.2.2.2, ⟨hk.1.2, hk.2⟩⟩⟩⟩⟩)), (by (with_reducible repeat (first | apply Kd.R_alloc | apply Kd.R_drewN | apply Kd.R_drew)); exact Kd.R_mono HO269.out (fun _ hk => ⟨hk.1.1.1.1.1.2, ⟨hk.1.1.1.1.2, ⟨hk.1.1.1.2, ⟨hk.1.1.2, ⟨hk.1.2, hk.2⟩⟩⟩⟩⟩)), (by (with_reducible repeat (first | apply Kd.R_alloc | apply Kd.R_drewN | apply Kd.R_drew)); exact Kd.R_mono HO276.out (fun _ hk => ⟨hk.1.1.1.1.1.2, ⟨hk.1.1.1.1.2, ⟨hk.1.1.1.2, ⟨hk.1.1.2, ⟨hk.1.2, hk.2⟩⟩⟩⟩⟩)), (zh BK220).out, (zh BK221).out, (zh BK236).out, (zh BK242).out, (zh BK251).out, (zh BK278).out, GW278.out, GE278.out, NB220_278.out, NB278_220.out, NB221_278.out, NB278_221.out, NB236_278.out, NB278_236.out, NB242_278.out, NB278_242.out, NB251_278.out, NB278_251.out, zbo⟩)
  skip
  refine goes_ Try.func8 (by kernel_rfl) rfl #[.agg #[.int .i8 a0_0, .int .i8 a0_1, .slice A0_2 l0_2.length c0_2]] (by rfl) rfl rfl zm ?_
  with_reducible refine (laws_toBoard.calls k a0_0 a0_1 _ _ l0_2 t265 t266 t267 _ ?side1 ?side2 A30.out).mono ?_
  (case side1 => exact zcc HB HR0_2.out)
  (case side2 => exact HC0_2.out)
  rintro e w96 ⟨v268, rfl, ho0, hb⟩
  refine ⟨_, rfl, ?_⟩
  have n_ : _ ∧ _ ∧ _ ∧ _ ∧ _ ∧ _ ∧ _ ∧ _ ∧ _ ∧ _ ∧ _ ∧ _ := ⟨Aside0.mk (Kd.R_elder' (ze HO227).out (Kd.R_base ho0) hb), Aside0.mk (Kd.R_elder' (ze HO234).out (Kd.R_base ho0) hb), Aside0.mk (Kd.R_elder' (ze HO241).out (Kd.R_base ho0) hb), Aside0.mk (Kd.R_elder' (ze HO249).out (Kd.R_base ho0) hb), Aside0.mk (Kd.R_elder' (ze HO257).out (Kd.R_base ho0) hb), Aside0.mk (Kd.R_lower (Kd.R_new' (Kd.R_new' (Kd.R_new' (Kd.R_new' (Kd.R_new' ho0 (Kd.R_lt (ze HO227).out)) (Kd.R_lt (ze HO234).out)) (Kd.R_lt (ze HO241).out)) (Kd.R_lt (ze HO249).out)) (Kd.R_lt (ze HO257).out)) (zz HB)), zk BK220 hb, zk BK221 hb, zk BK236 hb, zk BK242 hb, zk BK251 hb, zbs hb⟩
  clear HO227 HO234 HO241 HO249 HO257 BK220 BK221 BK236 BK242 BK251 HB
  obtain ⟨HO227, HO234, HO241, HO249, HO257, HO269, BK220, BK221, BK236, BK242, BK251, HB⟩ := n_
  (try clear hb)
  (try clear hb2)
  (try clear hk)
  (try clear hi)
  (try clear ho0)
  refine hK.out _ _ ⟨(blk_cell BK220.out 0).trans rfl, (blk_cell BK220.out 1).trans rfl, (blk_cell BK220.out 2).trans rfl, (blk_cell BK221.out 0).trans rfl, (blk_cell BK221.out 1).trans rfl⟩ (fun hHeld => ?_)
  clear hK K
  refine norm_ (a' := ?_) ?_ ?_
  rotate_left
  ·show Act.put _ (some 81) _ = _
   exact zap
  refine two_ (i := 3) (j := 8) (Ni := some 83) (Nj := some 14) (zq 11 15) (zq 11 263) rfl rfl rfl rfl (two_of HT_.out (by kernel_rfl)) (by decide) (by decide) (fun K hK => ?_) (fun K hK => ?_)
  rotate_left
  ·skip
   refine box_step ?hg (N := 14) ?hd (cs := #[.int .i8 0, .int .i8 0, .slice none 0 0]) (t := 30) ?hr ?_; (case hd => rfl); (case hg => rfl); (case hr => exact zgs)
   intro gb278 hg w97 hbox hb
   have n_ : _ ∧ _ ∧ _ ∧ _ ∧ _ ∧ _ ∧ _ ∧ _ ∧ _ ∧ _ ∧ _ ∧ _ ∧ _ ∧ _ ∧ _ ∧ _ ∧ _ ∧ _ ∧ _ ∧ _ ∧ _ ∧ _ ∧ _ ∧ _ ∧ _ := ⟨zr HO227 hb, zr HO234 hb, zr HO241 hb, zr HO249 hb, zr HO257 hb, zr HO269 hb, zk BK220 hb, zk BK221 hb, zk BK236 hb, zk BK242 hb, zk BK251 hb, zbs hb, Aside0.mk (hbox), zg HB hg, zg HB hg, zn1 BK220 hg, zn2 BK220 hg, zn1 BK221 hg, zn2 BK221 hg, zn1 BK236 hg, zn2 BK236 hg, zn1 BK242 hg, zn2 BK242 hg, zn1 BK251 hg, zn2 BK251 hg⟩
   clear HO227 HO234 HO241 HO249 HO257 HO269 BK220 BK221 BK236 BK242 BK251 HB
   obtain ⟨HO227, HO234, HO241, HO249, HO257, HO269, BK220, BK221, BK236, BK242, BK251, HB, BK278, GW278, GE278, NB220_278, NB278_220, NB221_278, NB278_221, NB236_278, NB278_236, NB242_278, NB278_242, NB251_278, NB278_251⟩ := n_
   clear hb hbox hg
   refine hK.out _ _ ⟨(blk_cell BK220.out 0).trans rfl, (blk_cell BK220.out 1).trans rfl, (blk_cell BK220.out 2).trans rfl, (blk_cell BK221.out 0).trans rfl, (blk_cell BK221.out 1).trans rfl⟩ (fun hHeld => ?_)
   clear hK K
   refine norm_ (a' := ?_) ?_ ?_
   rotate_left
   ·show Act.put _ (some 14) _ = _
    exact zap
   refine one_ (i := 3) (N := some 83) (zq 11 271) rfl rfl (one_of HT_.out (by kernel_rfl)) (by decide) (fun K hK => ?_)
   refine goes_ Try.func9 (by kernel_rfl) rfl #[.agg #[.int .i8 a1_0, .int .i8 a1_1]] (by rfl) rfl rfl zm ?_
   with_reducible refine (laws_toCell.calls k a1_0 a1_1 t270 t271 _ A31.out).mono ?_
   rintro e w98 ⟨rfl, hb⟩
   refine ⟨_, rfl, ?_⟩
   have n_ : _ ∧ _ ∧ _ ∧ _ ∧ _ ∧ _ ∧ _ ∧ _ ∧ _ ∧ _ ∧ _ ∧ _ ∧ _ := ⟨zr HO227 hb, zr HO234 hb, zr HO241 hb, zr HO249 hb, zr HO257 hb, zr HO269 hb, zk BK220 hb, zk BK221 hb, zk BK236 hb, zk BK242 hb, zk BK251 hb, zk BK278 hb, zbs hb⟩
   clear HO227 HO234 HO241 HO249 HO257 HO269 BK220 BK221 BK236 BK242 BK251 BK278 HB
   obtain ⟨HO227, HO234, HO241, HO249, HO257, HO269, BK220, BK221, BK236, BK242, BK251, BK278, HB⟩ := n_
   (try clear hb)
   (try clear hb2)
   (try clear hk)
   (try clear hi)
   obtain ⟨Ao99, co99, eo99⟩ := Kd.R_slice HO269.out
   (first | subst eo99 | (injection eo99 with f1_ f2_ f3_; have f4_ := f1_.symm; have f5_ := f3_.symm; clear f1_ f2_ f3_; subst f4_; subst f5_))
   refine hK.out _ _ ⟨(blk_cell BK220.out 0).trans rfl, (blk_cell BK220.out 1).trans rfl, (blk_cell BK220.out 2).trans rfl, (blk_cell BK221.out 0).trans rfl, (blk_cell BK221.out 1).trans rfl⟩ (fun hHeld => ?_)
   clear hK K
   refine norm_ (a' := ?_) ?_ ?_
   rotate_left
   ·show Act.put _ (some 83) _ = _
    exact zap
   refine one_ (i := 4) (N := some 84) (zq 11 287) rfl rfl (one_of HT_.out (by kernel_rfl)) (by decide) (fun K hK => ?_)
   refine goes_ Try.func10 (by kernel_rfl) rfl #[.agg #[.int .i8 t265, .int .i8 t266, .slice Ao99 t267.length co99], .agg #[.int .i8 t270, .int .i8 t271]] (by rfl) rfl rfl zm ?_
   with_reducible refine (impl_TakePiece.calls k t265 t266 _ _ t267 t270 t271 t272 t273 t274 t277 _ ?side1 ?side2 A32.out).mono ?_
   (case side1 => exact zrc HO269)
   (case side2 => exact (Kd.R_reads' HO269.out).2.1)
   rintro e w100 ⟨v275, rfl, ho0, hb⟩
   refine ⟨_, rfl, ?_⟩
   have n_ : _ ∧ _ ∧ _ ∧ _ ∧ _ ∧ _ ∧ _ ∧ _ ∧ _ ∧ _ ∧ _ ∧ _ ∧ _ ∧ _ := ⟨Aside0.mk (Kd.R_elder' (ze HO227).out (Kd.R_base ho0) hb), Aside0.mk (Kd.R_elder' (ze HO234).out (Kd.R_base ho0) hb), Aside0.mk (Kd.R_elder' (ze HO241).out (Kd.R_base ho0) hb), Aside0.mk (Kd.R_elder' (ze HO249).out (Kd.R_base ho0) hb), Aside0.mk (Kd.R_elder' (ze HO257).out (Kd.R_base ho0) hb), Aside0.mk (Kd.R_elder' (ze HO269).out (Kd.R_base ho0) hb), Aside0.mk (Kd.R_lower (Kd.R_new' (Kd.R_new' (Kd.R_new' (Kd.R_new' (Kd.R_new' (Kd.R_new' ho0 (Kd.R_lt (ze HO227).out)) (Kd.R_lt (ze HO234).out)) (Kd.R_lt (ze HO241).out)) (Kd.R_lt (ze HO249).out)) (Kd.R_lt (ze HO257).out)) (Kd.R_lt (ze HO269).out)) (zz HB)), zk BK220 hb, zk BK221 hb, zk BK236 hb, zk BK242 hb, zk BK251 hb, zk BK278 hb, zbs hb⟩
   clear HO227 HO234 HO241 HO249 HO257 HO269 BK220 BK221 BK236 BK242 BK251 BK278 HB
   obtain ⟨HO227, HO234, HO241, HO249, HO257, HO269, HO276, BK220, BK221, BK236, BK242, BK251, BK278, HB⟩ := n_
   (try clear hb)
   (try clear hb2)
   (try clear hk)
   (try clear hi)
   (try clear ho0)
   refine hK.out _ _ ⟨(blk_cell BK220.out 0).trans rfl, (blk_cell BK220.out 1).trans rfl, (blk_cell BK220.out 2).trans rfl, (blk_cell BK221.out 0).trans rfl, (blk_cell BK221.out 1).trans rfl⟩ (fun hHeld => ?_)
   clear hK K
   refine norm_ (a' := ?_) ?_ ?_
   rotate_left
   ·show Act.put _ (some 84) _ = _
    exact zap
   refine zpu 5 (some 79) (zq 11 319) HT_ ?_
   refine zpu 6 (some 85) (zq 11 383) HT_ ?_
   refine zpu 7 (some 86) (zq 11 511) HT_ ?_
   exact norm_ (by simp only [putAll, Act.put, List.setIfInBounds_toArray, List.set_cons_zero, List.set_cons_succ]) (hCont (.slice Ao99 t267.length co99, v275, gb278) _ ⟨hHeld, (by (with_reducible repeat (first | apply Kd.R_alloc | apply Kd.R_drewN | apply Kd.R_drew)); exact Kd.R_mono HO227.out (fun _ hk => ⟨hk.1.1.1, ⟨hk.1.1.2.1, ⟨hk.1.1.2.2.1, ⟨hk.1.1.2.2.2, ⟨hk.1.2, hk.2⟩⟩⟩⟩⟩)), (by (with_reducible repeat (first | apply Kd.R_alloc | apply Kd.R_drewN | apply Kd.R_drew)); exact Kd.R_mono HO234.out (fun _ hk => ⟨hk.1.1.1, ⟨hk.1.1.2.1, ⟨hk.1.1.2.2.1, ⟨hk.1.1.2.2.2, ⟨hk.1.2, hk.2⟩⟩⟩⟩⟩)), (by (with_reducible repeat (first | apply Kd.R_alloc | apply Kd.R_drewN | apply Kd.R_drew)); exact Kd.R_mono HO241.out (fun _ hk => ⟨hk.1.1.1, ⟨hk.1.1.2.1, ⟨hk.1.1.2.2.1, ⟨hk.1.1.2.2.2, ⟨hk.1.2, hk.2⟩⟩⟩⟩⟩)), (by (with_reducible repeat (first | apply Kd.R_alloc | apply Kd.R_drewN | apply Kd.R_drew)); exact Kd.R_mono HO249.out (fun _ hk => ⟨hk.1.1.1, ⟨hk.1.1.2.1, ⟨hk.1.1.2.2.1, ⟨hk.1.1.2.2.2, ⟨hk.1.2, hk.2⟩⟩⟩⟩⟩)), (by (with_reducible repeat (first | apply Kd.R_alloc | apply Kd.R_drewN | apply Kd.R_drew)); exact Kd.R_mono HO257.out (fun _ hk => ⟨hk.1.1.1, ⟨hk.1.1.2.1, ⟨hk.1.1.2.2.1, ⟨hk.1.1.2.2.2, ⟨hk.1.2, hk.2⟩⟩⟩⟩⟩)), (by (with_reducible repeat (first | apply Kd.R_alloc | apply Kd.R_drewN | apply Kd.R_drew)); exact Kd.R_mono HO269.out (fun _ hk => ⟨hk.1.1.1.1.1.2, ⟨hk.1.1.1.1.2, ⟨hk.1.1.1.2, ⟨hk.1.1.2, ⟨hk.1.2, hk.2⟩⟩⟩⟩⟩)), (by (with_reducible repeat (first | apply Kd.R_alloc | apply Kd.R_drewN | apply Kd.R_drew)); exact Kd.R_mono HO276.out (fun _ hk => ⟨hk.1.1.1.1.1.2, ⟨hk.1.1.1.1.2, ⟨hk.1.1.1.2, ⟨hk.1.1.2, ⟨hk.1.2, hk.2⟩⟩⟩⟩⟩)), (zh BK220).out, (zh BK221).out, (zh BK236).out, (zh BK242).out, (zh BK251).out, (zh BK278).out, GW278.out, GE278.out, NB220_278.out, NB278_220.out, NB221_278.out, NB278_221.out, NB236_278.out, NB278_236.out, NB242_278.out, NB278_242.out, NB251_278.out, NB278_251.out, zbo⟩)
  skip
  refine goes_ Try.func9 (by kernel_rfl) rfl #[.agg #[.int .i8 a1_0, .int .i8 a1_1]] (by rfl) rfl rfl zm ?_
  with_reducible refine (laws_toCell.calls k a1_0 a1_1 t270 t271 _ A31.out).mono ?_
  rintro e w97 ⟨rfl, hb⟩
  refine ⟨_, rfl, ?_⟩
  have n_ : _ ∧ _ ∧ _ ∧ _ ∧ _ ∧ _ ∧ _ ∧ _ ∧ _ ∧ _ ∧ _ ∧ _ := ⟨zr HO227 hb, zr HO234 hb, zr HO241 hb, zr HO249 hb, zr HO257 hb, zr HO269 hb, zk BK220 hb, zk BK221 hb, zk BK236 hb, zk BK242 hb, zk BK251 hb, zbs hb⟩
  clear HO227 HO234 HO241 HO249 HO257 HO269 BK220 BK221 BK236 BK242 BK251 HB
  obtain ⟨HO227, HO234, HO241, HO249, HO257, HO269, BK220, BK221, BK236, BK242, BK251, HB⟩ := n_
  (try clear hb)
  (try clear hb2)
  (try clear hk)
  (try clear hi)
  obtain ⟨Ao98, co98, eo98⟩ := Kd.R_slice HO269.out
  (first | subst eo98 | (injection eo98 with f1_ f2_ f3_; have f4_ := f1_.symm; have f5_ := f3_.symm; clear f1_ f2_ f3_; subst f4_; subst f5_))
  refine hK.out _ _ ⟨(blk_cell BK220.out 0).trans rfl, (blk_cell BK220.out 1).trans rfl, (blk_cell BK220.out 2).trans rfl, (blk_cell BK221.out 0).trans rfl, (blk_cell BK221.out 1).trans rfl⟩ (fun hHeld => ?_)
  clear hK K
  refine norm_ (a' := ?_) ?_ ?_
  rotate_left
  ·show Act.put _ (some 83) _ = _
   exact zap
  refine two_ (i := 4) (j := 8) (Ni := some 84) (Nj := some 14) (zq 11 31) (zq 11 271) rfl rfl rfl rfl (two_of HT_.out (by kernel_rfl)) (by decide) (by decide) (fun K hK => ?_) (fun K hK => ?_)
  ·skip
   refine goes_ Try.func10 (by kernel_rfl) rfl #[.agg #[.int .i8 t265, .int .i8 t266, .slice Ao98 t267.length co98], .agg #[.int .i8 t270, .int .i8 t271]] (by rfl) rfl rfl zm ?_
   with_reducible refine (impl_TakePiece.calls k t265 t266 _ _ t267 t270 t271 t272 t273 t274 t277 _ ?side1 ?side2 A32.out).mono ?_
   (case side1 => exact zrc HO269)
   (case side2 => exact (Kd.R_reads' HO269.out).2.1)
   rintro e w99 ⟨v275, rfl, ho0, hb⟩
   refine ⟨_, rfl, ?_⟩
   have n_ : _ ∧ _ ∧ _ ∧ _ ∧ _ ∧ _ ∧ _ ∧ _ ∧ _ ∧ _ ∧ _ ∧ _ ∧ _ := ⟨Aside0.mk (Kd.R_elder' (ze HO227).out (Kd.R_base ho0) hb), Aside0.mk (Kd.R_elder' (ze HO234).out (Kd.R_base ho0) hb), Aside0.mk (Kd.R_elder' (ze HO241).out (Kd.R_base ho0) hb), Aside0.mk (Kd.R_elder' (ze HO249).out (Kd.R_base ho0) hb), Aside0.mk (Kd.R_elder' (ze HO257).out (Kd.R_base ho0) hb), Aside0.mk (Kd.R_elder' (ze HO269).out (Kd.R_base ho0) hb), Aside0.mk (Kd.R_lower (Kd.R_new' (Kd.R_new' (Kd.R_new' (Kd.R_new' (Kd.R_new' (Kd.R_new' ho0 (Kd.R_lt (ze HO227).out)) (Kd.R_lt (ze HO234).out)) (Kd.R_lt (ze HO241).out)) (Kd.R_lt (ze HO249).out)) (Kd.R_lt (ze HO257).out)) (Kd.R_lt (ze HO269).out)) (zz HB)), zk BK220 hb, zk BK221 hb, zk BK236 hb, zk BK242 hb, zk BK251 hb, zbs hb⟩
   clear HO227 HO234 HO241 HO249 HO257 HO269 BK220 BK221 BK236 BK242 BK251 HB
   obtain ⟨HO227, HO234, HO241, HO249, HO257, HO269, HO276, BK220, BK221, BK236, BK242, BK251, HB⟩ := n_
   (try clear hb)
   (try clear hb2)
   (try clear hk)
   (try clear hi)
   (try clear ho0)
   refine hK.out _ _ ⟨(blk_cell BK220.out 0).trans rfl, (blk_cell BK220.out 1).trans rfl, (blk_cell BK220.out 2).trans rfl, (blk_cell BK221.out 0).trans rfl, (blk_cell BK221.out 1).trans rfl⟩ (fun hHeld => ?_)
   clear hK K
   refine norm_ (a' := ?_) ?_ ?_
   rotate_left
   ·show Act.put _ (some 84) _ = _
    exact zap
   refine zpu 5 (some 79) (zq 11 63) HT_ ?_
   refine zpu 6 (some 85) (zq 11 127) HT_ ?_
   refine zpu 7 (some 86) (zq 11 255) HT_ ?_
   refine one_ (i := 8) (N := some 14) (zq 11 511) rfl rfl (one_of HT_.out (by kernel_rfl)) (by decide) (fun K hK => ?_)
   refine box_step ?hg (N := 14) ?hd (cs := #[.int .i8 0, .int .i8 0, .slice none 0 0]) (t := 30) ?hr ?_; (case hd => rfl); (case hg => rfl); (case hr => exact zgs)
   intro gb278 hg w100 hbox hb
   have n_ : _ ∧ _ ∧ _ ∧ _ ∧ _ ∧ _ ∧ _ ∧ _ ∧ _ ∧ _ ∧ _ ∧ _ ∧ _ ∧ _ ∧ _ ∧ _ ∧ _ ∧ _ ∧ _ ∧ _ ∧ _ ∧ _ ∧ _ ∧ _ ∧ _ ∧ _ := ⟨zr HO227 hb, zr HO234 hb, zr HO241 hb, zr HO249 hb, zr HO257 hb, zr HO269 hb, zr HO276 hb, zk BK220 hb, zk BK221 hb, zk BK236 hb, zk BK242 hb, zk BK251 hb, zbs hb, Aside0.mk (hbox), zg HB hg, zg HB hg, zn1 BK220 hg, zn2 BK220 hg, zn1 BK221 hg, zn2 BK221 hg, zn1 BK236 hg, zn2 BK236 hg, zn1 BK242 hg, zn2 BK242 hg, zn1 BK251 hg, zn2 BK251 hg⟩
   clear HO227 HO234 HO241 HO249 HO257 HO269 HO276 BK220 BK221 BK236 BK242 BK251 HB
   obtain ⟨HO227, HO234, HO241, HO249, HO257, HO269, HO276, BK220, BK221, BK236, BK242, BK251, HB, BK278, GW278, GE278, NB220_278, NB278_220, NB221_278, NB278_221, NB236_278, NB278_236, NB242_278, NB278_242, NB251_278, NB278_251⟩ := n_
   clear hb hbox hg
   refine hK.out _ _ ⟨(blk_cell BK220.out 0).trans rfl, (blk_cell BK220.out 1).trans rfl, (blk_cell BK220.out 2).trans rfl, (blk_cell BK221.out 0).trans rfl, (blk_cell BK221.out 1).trans rfl⟩ (fun hHeld => ?_)
   clear hK K
   refine norm_ (a' := ?_) ?_ ?_
   rotate_left
   ·show Act.put _ (some 14) _ = _
    exact zap
   exact norm_ (by simp only [putAll, Act.put, List.setIfInBounds_toArray, List.set_cons_zero, List.set_cons_succ]) (hCont (.slice Ao98 t267.length co98, v275, gb278) _ ⟨hHeld, (by (with_reducible repeat (first | apply Kd.R_alloc | apply Kd.R_drewN | apply Kd.R_drew)); exact Kd.R_mono HO227.out (fun _ hk => ⟨hk.1.1.1, ⟨hk.1.1.2.1, ⟨hk.1.1.2.2.1, ⟨hk.1.1.2.2.2, ⟨hk.1.2, hk.2⟩⟩⟩⟩⟩)), (by (with_reducible repeat (first | apply Kd.R_alloc | apply Kd.R_drewN | apply Kd.R_drew)); exact Kd.R_mono HO234.out (fun _ hk => ⟨hk.1.1.1, ⟨hk.1.1.2.1, ⟨hk.1.1.2.2.1, ⟨hk.1.1.2.2.2, ⟨hk.1.2, hk.2⟩⟩⟩⟩⟩)), (by (with_reducible repeat (first | apply Kd.R_alloc | apply Kd.R_drewN | apply Kd.R_drew)); exact Kd.R_mono HO241.out (fun _ hk => ⟨hk.1.1.1, ⟨hk.1.1.2.1, ⟨hk.1.1.2.2.1, ⟨hk.1.1.2.2.2, ⟨hk.1.2, hk.2⟩⟩⟩⟩⟩)), (by (with_reducible repeat (first | apply Kd.R_alloc | apply Kd.R_drewN | apply Kd.R_drew)); exact Kd.R_mono HO249.out (fun _ hk => ⟨hk.1.1.1, ⟨hk.1.1.2.1, ⟨hk.1.1.2.2.1, ⟨hk.1.1.2.2.2, ⟨hk.1.2, hk.2⟩⟩⟩⟩⟩)), (by (with_reducible repeat (first | apply Kd.R_alloc | apply Kd.R_drewN | apply Kd.R_drew)); exact Kd.R_mono HO257.out (fun _ hk => ⟨hk.1.1.1, ⟨hk.1.1.2.1, ⟨hk.1.1.2.2.1, ⟨hk.1.1.2.2.2, ⟨hk.1.2, hk.2⟩⟩⟩⟩⟩)), (by (with_reducible repeat (first | apply Kd.R_alloc | apply Kd.R_drewN | apply Kd.R_drew)); exact Kd.R_mono HO269.out (fun _ hk => ⟨hk.1.1.1.1.1.2, ⟨hk.1.1.1.1.2, ⟨hk.1.1.1.2, ⟨hk.1.1.2, ⟨hk.1.2, hk.2⟩⟩⟩⟩⟩)), (by (with_reducible repeat (first | apply Kd.R_alloc | apply Kd.R_drewN | apply Kd.R_drew)); exact Kd.R_mono HO276.out (fun _ hk => ⟨hk.1.1.1.1.1.2, ⟨hk.1.1.1.1.2, ⟨hk.1.1.1.2, ⟨hk.1.1.2, ⟨hk.1.2, hk.2⟩⟩⟩⟩⟩)), (zh BK220).out, (zh BK221).out, (zh BK236).out, (zh BK242).out, (zh BK251).out, (zh BK278).out, GW278.out, GE278.out, NB220_278.out, NB278_220.out, NB221_278.out, NB278_221.out, NB236_278.out, NB278_236.out, NB242_278.out, NB278_242.out, NB251_278.out, NB278_251.out, zbo⟩)
  skip
  refine box_step ?hg (N := 14) ?hd (cs := #[.int .i8 0, .int .i8 0, .slice none 0 0]) (t := 30) ?hr ?_; (case hd => rfl); (case hg => rfl); (case hr => exact zgs)
  intro gb278 hg w98 hbox hb
  have n_ : _ ∧ _ ∧ _ ∧ _ ∧ _ ∧ _ ∧ _ ∧ _ ∧ _ ∧ _ ∧ _ ∧ _ ∧ _ ∧ _ ∧ _ ∧ _ ∧ _ ∧ _ ∧ _ ∧ _ ∧ _ ∧ _ ∧ _ ∧ _ ∧ _ := ⟨zr HO227 hb, zr HO234 hb, zr HO241 hb, zr HO249 hb, zr HO257 hb, zr HO269 hb, zk BK220 hb, zk BK221 hb, zk BK236 hb, zk BK242 hb, zk BK251 hb, zbs hb, Aside0.mk (hbox), zg HB hg, zg HB hg, zn1 BK220 hg, zn2 BK220 hg, zn1 BK221 hg, zn2 BK221 hg, zn1 BK236 hg, zn2 BK236 hg, zn1 BK242 hg, zn2 BK242 hg, zn1 BK251 hg, zn2 BK251 hg⟩
  clear HO227 HO234 HO241 HO249 HO257 HO269 BK220 BK221 BK236 BK242 BK251 HB
  obtain ⟨HO227, HO234, HO241, HO249, HO257, HO269, BK220, BK221, BK236, BK242, BK251, HB, BK278, GW278, GE278, NB220_278, NB278_220, NB221_278, NB278_221, NB236_278, NB278_236, NB242_278, NB278_242, NB251_278, NB278_251⟩ := n_
  clear hb hbox hg
  obtain ⟨Ao99, co99, eo99⟩ := Kd.R_slice HO269.out
  (first | subst eo99 | (injection eo99 with f1_ f2_ f3_; have f4_ := f1_.symm; have f5_ := f3_.symm; clear f1_ f2_ f3_; subst f4_; subst f5_))
  refine hK.out _ _ ⟨(blk_cell BK220.out 0).trans rfl, (blk_cell BK220.out 1).trans rfl, (blk_cell BK220.out 2).trans rfl, (blk_cell BK221.out 0).trans rfl, (blk_cell BK221.out 1).trans rfl⟩ (fun hHeld => ?_)
  clear hK K
  refine norm_ (a' := ?_) ?_ ?_
  rotate_left
  ·show Act.put _ (some 14) _ = _
   exact zap
  refine one_ (i := 4) (N := some 84) (zq 11 287) rfl rfl (one_of HT_.out (by kernel_rfl)) (by decide) (fun K hK => ?_)
  refine goes_ Try.func10 (by kernel_rfl) rfl #[.agg #[.int .i8 t265, .int .i8 t266, .slice Ao99 t267.length co99], .agg #[.int .i8 t270, .int .i8 t271]] (by rfl) rfl rfl zm ?_
  with_reducible refine (impl_TakePiece.calls k t265 t266 _ _ t267 t270 t271 t272 t273 t274 t277 _ ?side1 ?side2 A32.out).mono ?_
  (case side1 => exact zrc HO269)
  (case side2 => exact (Kd.R_reads' HO269.out).2.1)
  rintro e w100 ⟨v275, rfl, ho0, hb⟩
  refine ⟨_, rfl, ?_⟩
  have n_ : _ ∧ _ ∧ _ ∧ _ ∧ _ ∧ _ ∧ _ ∧ _ ∧ _ ∧ _ ∧ _ ∧ _ ∧ _ ∧ _ := ⟨Aside0.mk (Kd.R_elder' (ze HO227).out (Kd.R_base ho0) hb), Aside0.mk (Kd.R_elder' (ze HO234).out (Kd.R_base ho0) hb), Aside0.mk (Kd.R_elder' (ze HO241).out (Kd.R_base ho0) hb), Aside0.mk (Kd.R_elder' (ze HO249).out (Kd.R_base ho0) hb), Aside0.mk (Kd.R_elder' (ze HO257).out (Kd.R_base ho0) hb), Aside0.mk (Kd.R_elder' (ze HO269).out (Kd.R_base ho0) hb), Aside0.mk (Kd.R_lower (Kd.R_new' (Kd.R_new' (Kd.R_new' (Kd.R_new' (Kd.R_new' (Kd.R_new' ho0 (Kd.R_lt (ze HO227).out)) (Kd.R_lt (ze HO234).out)) (Kd.R_lt (ze HO241).out)) (Kd.R_lt (ze HO249).out)) (Kd.R_lt (ze HO257).out)) (Kd.R_lt (ze HO269).out)) (zz HB)), zk BK220 hb, zk BK221 hb, zk BK236 hb, zk BK242 hb, zk BK251 hb, zk BK278 hb, zbs hb⟩
  clear HO227 HO234 HO241 HO249 HO257 HO269 BK220 BK221 BK236 BK242 BK251 BK278 HB
  obtain ⟨HO227, HO234, HO241, HO249, HO257, HO269, HO276, BK220, BK221, BK236, BK242, BK251, BK278, HB⟩ := n_
  (try clear hb)
  (try clear hb2)
  (try clear hk)
  (try clear hi)
  (try clear ho0)
  refine hK.out _ _ ⟨(blk_cell BK220.out 0).trans rfl, (blk_cell BK220.out 1).trans rfl, (blk_cell BK220.out 2).trans rfl, (blk_cell BK221.out 0).trans rfl, (blk_cell BK221.out 1).trans rfl⟩ (fun hHeld => ?_)
  clear hK K
  refine norm_ (a' := ?_) ?_ ?_
  rotate_left
  ·show Act.put _ (some 84) _ = _
   exact zap
  refine zpu 5 (some 79) (zq 11 319) HT_ ?_
  refine zpu 6 (some 85) (zq 11 383) HT_ ?_
  refine zpu 7 (some 86) (zq 11 511) HT_ ?_
  exact norm_ (by simp only [putAll, Act.put, List.setIfInBounds_toArray, List.set_cons_zero, List.set_cons_succ]) (hCont (.slice Ao99 t267.length co99, v275, gb278) _ ⟨hHeld, (by (with_reducible repeat (first | apply Kd.R_alloc | apply Kd.R_drewN | apply Kd.R_drew)); exact Kd.R_mono HO227.out (fun _ hk => ⟨hk.1.1.1, ⟨hk.1.1.2.1, ⟨hk.1.1.2.2.1, ⟨hk.1.1.2.2.2, ⟨hk.1.2, hk.2⟩⟩⟩⟩⟩)), (by (with_reducible repeat (first | apply Kd.R_alloc | apply Kd.R_drewN | apply Kd.R_drew)); exact Kd.R_mono HO234.out (fun _ hk => ⟨hk.1.1.1, ⟨hk.1.1.2.1, ⟨hk.1.1.2.2.1, ⟨hk.1.1.2.2.2, ⟨hk.1.2, hk.2⟩⟩⟩⟩⟩)), (by (with_reducible repeat (first | apply Kd.R_alloc | apply Kd.R_drewN | apply Kd.R_drew)); exact Kd.R_mono HO241.out (fun _ hk => ⟨hk.1.1.1, ⟨hk.1.1.2.1, ⟨hk.1.1.2.2.1, ⟨hk.1.1.2.2.2, ⟨hk.1.2, hk.2⟩⟩⟩⟩⟩)), (by (with_reducible repeat (first | apply Kd.R_alloc | apply Kd.R_drewN | apply Kd.R_drew)); exact Kd.R_mono HO249.out (fun _ hk => ⟨hk.1.1.1, ⟨hk.1.1.2.1, ⟨hk.1.1.2.2.1, ⟨hk.1.1.2.2.2, ⟨hk.1.2, hk.2⟩⟩⟩⟩⟩)), (by (with_reducible repeat (first | apply Kd.R_alloc | apply Kd.R_drewN | apply Kd.R_drew)); exact Kd.R_mono HO257.out (fun _ hk => ⟨hk.1.1.1, ⟨hk.1.1.2.1, ⟨hk.1.1.2.2.1, ⟨hk.1.1.2.2.2, ⟨hk.1.2, hk.2⟩⟩⟩⟩⟩)), (by (with_reducible repeat (first | apply Kd.R_alloc | apply Kd.R_drewN | apply Kd.R_drew)); exact Kd.R_mono HO269.out (fun _ hk => ⟨hk.1.1.1.1.1.2, ⟨hk.1.1.1.1.2, ⟨hk.1.1.1.2, ⟨hk.1.1.2, ⟨hk.1.2, hk.2⟩⟩⟩⟩⟩)), (by (with_reducible repeat (first | apply Kd.R_alloc | apply Kd.R_drewN | apply Kd.R_drew)); exact Kd.R_mono HO276.out (fun _ hk => ⟨hk.1.1.1.1.1.2, ⟨hk.1.1.1.1.2, ⟨hk.1.1.1.2, ⟨hk.1.1.2, ⟨hk.1.2, hk.2⟩⟩⟩⟩⟩)), (zh BK220).out, (zh BK221).out, (zh BK236).out, (zh BK242).out, (zh BK251).out, (zh BK278).out, GW278.out, GE278.out, NB220_278.out, NB278_220.out, NB221_278.out, NB278_221.out, NB236_278.out, NB278_236.out, NB242_278.out, NB278_242.out, NB251_278.out, NB278_251.out, zbo⟩)
 rintro ⟨v268, v275, gb278⟩ w101 ⟨hS_, h0_, h1_, h2_, h3_, h4_, h5_, h6_, h7_, h8_, h9_, h10_, h11_, h12_, h13_, h14_, h15_, h16_, h17_, h18_, h19_, h20_, h21_, h22_, h23_, h24_, h25_⟩
 have n_ : (Aside0 (Kd.R k62 62 w101 w.heap.size (fun k_ => some k_ ≠ (.slice Ao53 t232.length co53 : Value).ownBlock ∧ some k_ ≠ (.slice Ao63 t239.length co63 : Value).ownBlock ∧ some k_ ≠ (.slice Ao72 t247.length co72 : Value).ownBlock ∧ some k_ ≠ (.slice Ao84 t255.length co84 : Value).ownBlock ∧ some k_ ≠ (v268 : Value).ownBlock ∧ some k_ ≠ (v275 : Value).ownBlock) v226 t225)) ∧ (Aside0 (Kd.R k62 62 w101 w.heap.size (fun k_ => some k_ ≠ (v226 : Value).ownBlock ∧ some k_ ≠ (.slice Ao63 t239.length co63 : Value).ownBlock ∧ some k_ ≠ (.slice Ao72 t247.length co72 : Value).ownBlock ∧ some k_ ≠ (.slice Ao84 t255.length co84 : Value).ownBlock ∧ some k_ ≠ (v268 : Value).ownBlock ∧ some k_ ≠ (v275 : Value).ownBlock) (.slice Ao53 t232.length co53) t232)) ∧ (Aside0 (Kd.R k62 62 w101 w.heap.size (fun k_ => some k_ ≠ (v226 : Value).ownBlock ∧ some k_ ≠ (.slice Ao53 t232.length co53 : Value).ownBlock ∧ some k_ ≠ (.slice Ao72 t247.length co72 : Value).ownBlock ∧ some k_ ≠ (.slice Ao84 t255.length co84 : Value).ownBlock ∧ some k_ ≠ (v268 : Value).ownBlock ∧ some k_ ≠ (v275 : Value).ownBlock) (.slice Ao63 t239.length co63) t260)) ∧ (Aside0 (Kd.R k62 62 w101 w.heap.size (fun k_ => some k_ ≠ (v226 : Value).ownBlock ∧ some k_ ≠ (.slice Ao53 t232.length co53 : Value).ownBlock ∧ some k_ ≠ (.slice Ao63 t239.length co63 : Value).ownBlock ∧ some k_ ≠ (.slice Ao84 t255.length co84 : Value).ownBlock ∧ some k_ ≠ (v268 : Value).ownBlock ∧ some k_ ≠ (v275 : Value).ownBlock) (.slice Ao72 t247.length co72) t263)) ∧ (Aside0 (Kd.R k62 62 w101 w.heap.size (fun k_ => some k_ ≠ (v226 : Value).ownBlock ∧ some k_ ≠ (.slice Ao53 t232.length co53 : Value).ownBlock ∧ some k_ ≠ (.slice Ao63 t239.length co63 : Value).ownBlock ∧ some k_ ≠ (.slice Ao72 t247.length co72 : Value).ownBlock ∧ some k_ ≠ (v268 : Value).ownBlock ∧ some k_ ≠ (v275 : Value).ownBlock) (.slice Ao84 t255.length co84) t255)) ∧ (Aside0 (Kd.R k62 62 w101 w.heap.size (fun k_ => some k_ ≠ (v226 : Value).ownBlock ∧ some k_ ≠ (.slice Ao53 t232.length co53 : Value).ownBlock ∧ some k_ ≠ (.slice Ao63 t239.length co63 : Value).ownBlock ∧ some k_ ≠ (.slice Ao72 t247.length co72 : Value).ownBlock ∧ some k_ ≠ (.slice Ao84 t255.length co84 : Value).ownBlock ∧ some k_ ≠ (v275 : Value).ownBlock) v268 t267)) ∧ (Aside0 (Kd.R k62 62 w101 w.heap.size (fun k_ => some k_ ≠ (v226 : Value).ownBlock ∧ some k_ ≠ (.slice Ao53 t232.length co53 : Value).ownBlock ∧ some k_ ≠ (.slice Ao63 t239.length co63 : Value).ownBlock ∧ some k_ ≠ (.slice Ao72 t247.length co72 : Value).ownBlock ∧ some k_ ≠ (.slice Ao84 t255.length co84 : Value).ownBlock ∧ some k_ ≠ (v268 : Value).ownBlock) v275 t274)) ∧ (Aside0 (w101.heap[gb220]? = some (.cells #[.int .i8 a0_0, .int .i8 a0_1, .slice A0_2 l0_2.length c0_2] 25 (0, 0)))) ∧ (Aside0 (w101.heap[gb221]? = some (.cells #[.int .i8 a1_0, .int .i8 a1_1] 26 (0, 0)))) ∧ (Aside0 (w101.heap[gb236]? = some (.cells #[.int .i8 t230, .int .i8 t231, .slice Ao53 t232.length co53] 30 (0, 0)))) ∧ (Aside0 (w101.heap[gb242]? = some (.cells #[.int .i8 t237, .int .i8 t238, .slice Ao63 t239.length co63] 30 (0, 0)))) ∧ (Aside0 (w101.heap[gb251]? = some (.cells #[.int .i8 t245, .int .i8 t246, .slice Ao72 t247.length co72] 30 (0, 0)))) ∧ (Aside0 (w101.heap[gb278]? = some (.cells #[.int .i8 0, .int .i8 0, .slice none 0 0] 30 (0, 0)))) ∧ (Aside0 (w.heap.size ≤ gb278)) ∧ (Aside0 (w.heap.size ≤ gb278)) ∧ (Aside0 (gb220 ≠ gb278)) ∧ (Aside0 (gb278 ≠ gb220)) ∧ (Aside0 (gb221 ≠ gb278)) ∧ (Aside0 (gb278 ≠ gb221)) ∧ (Aside0 (gb236 ≠ gb278)) ∧ (Aside0 (gb278 ≠ gb236)) ∧ (Aside0 (gb242 ≠ gb278)) ∧ (Aside0 (gb278 ≠ gb242)) ∧ (Aside0 (gb251 ≠ gb278)) ∧ (Aside0 (gb278 ≠ gb251)) ∧ (Aside0 (Below w.heap.size w w101)) := ⟨⟨h0_⟩, ⟨h1_⟩, ⟨h2_⟩, ⟨h3_⟩, ⟨h4_⟩, ⟨h5_⟩, ⟨h6_⟩, ⟨h7_⟩, ⟨h8_⟩, ⟨h9_⟩, ⟨h10_⟩, ⟨h11_⟩, ⟨h12_⟩, ⟨h13_⟩, ⟨h14_⟩, ⟨h15_⟩, ⟨h16_⟩, ⟨h17_⟩, ⟨h18_⟩, ⟨h19_⟩, ⟨h20_⟩, ⟨h21_⟩, ⟨h22_⟩, ⟨h23_⟩, ⟨h24_⟩, ⟨h25_⟩⟩
 clear HO227 HO234 HO241 HO249 HO257 BK220 BK221 BK236 BK242 BK251 HB h0_ h1_ h2_ h3_ h4_ h5_ h6_ h7_ h8_ h9_ h10_ h11_ h12_ h13_ h14_ h15_ h16_ h17_ h18_ h19_ h20_ h21_ h22_ h23_ h24_ h25_
 obtain ⟨HO227, HO234, HO241, HO249, HO257, HO269, HO276, BK220, BK221, BK236, BK242, BK251, BK278, GW278, GE278, NB220_278, NB278_220, NB221_278, NB278_221, NB236_278, NB278_236, NB242_278, NB278_242, NB251_278, NB278_251, HB⟩ := n_
 have hHeld := hS_
 obtain ⟨Ao104, co104, eo104⟩ := Kd.R_slice HO276.out
 (first | subst eo104 | (injection eo104 with f1_ f2_ f3_; have f4_ := f1_.symm; have f5_ := f3_.symm; clear f1_ f2_ f3_; subst f4_; subst f5_))
 refine norm_ (a' := ?_) ?_ ?_
 rotate_left
 ·simp only [putAll, Act.put, List.setIfInBounds_toArray, List.set_cons_zero, List.set_cons_succ]
  rfl
 refine one_ (i := 9) (N := none) (zq 11 1023) rfl rfl (one_of HT_.out (by kernel_rfl)) (by decide) (fun K hK => ?_)
 have hs102 : w101.cell? ⟨gb278, 0, none⟩ = some (.int .i8 0) := (blk_cell BK278.out 0).trans rfl
 have hfs102 := blk_frozen BK278.out 0
 have hns102_0 := NB220_278.out
 have hns102_1 := NB221_278.out
 have hns102_2 := NB236_278.out
 have hns102_3 := NB242_278.out
 have hns102_4 := NB251_278.out
 have hms102_0 := NB278_220.out
 have hms102_1 := NB278_221.out
 have hms102_2 := NB278_236.out
 have hms102_3 := NB278_242.out
 have hms102_4 := NB278_251.out
 have hs103 : w101.cell? ⟨gb278, 1, none⟩ = some (.int .i8 0) := (blk_cell BK278.out 1).trans rfl
 have hfs103 := blk_frozen BK278.out 1
 have hns103_0 := NB220_278.out
 have hns103_1 := NB221_278.out
 have hns103_2 := NB236_278.out
 have hns103_3 := NB242_278.out
 have hns103_4 := NB251_278.out
 have hms103_0 := NB278_220.out
 have hms103_1 := NB278_221.out
 have hms103_2 := NB278_236.out
 have hms103_3 := NB278_242.out
 have hms103_4 := NB278_251.out
 have hs105 : w101.cell? ⟨gb278, 2, none⟩ = some (.slice none 0 0) := (blk_cell BK278.out 2).trans rfl
 have hfs105 := blk_frozen BK278.out 2
 have hns105_0 := NB220_278.out
 have hns105_1 := NB221_278.out
 have hns105_2 := NB236_278.out
 have hns105_3 := NB242_278.out
 have hns105_4 := NB251_278.out
 have hms105_0 := NB278_220.out
 have hms105_1 := NB278_221.out
 have hms105_2 := NB278_236.out
 have hms105_3 := NB278_242.out
 have hms105_4 := NB278_251.out
 refine skip_ (w1 := ?_) (by rfl) rfl ?_ ?_
 rotate_left
 ·go_simp
  rfl
 refine hK.out _ _ ⟨((cell_far (p := ⟨gb278, _, none⟩) NB220_278.out _).trans (((cell_far (p := ⟨gb278, _, none⟩) NB220_278.out _).trans (((cell_far (p := ⟨gb278, _, none⟩) NB220_278.out _).trans (hHeld.1)))))), ((cell_far (p := ⟨gb278, _, none⟩) NB220_278.out _).trans (((cell_far (p := ⟨gb278, _, none⟩) NB220_278.out _).trans (((cell_far (p := ⟨gb278, _, none⟩) NB220_278.out _).trans (hHeld.2.1)))))), ((cell_far (p := ⟨gb278, _, none⟩) NB220_278.out _).trans (((cell_far (p := ⟨gb278, _, none⟩) NB220_278.out _).trans (((cell_far (p := ⟨gb278, _, none⟩) NB220_278.out _).trans (hHeld.2.2.1)))))), ((cell_far (p := ⟨gb278, _, none⟩) NB221_278.out _).trans (((cell_far (p := ⟨gb278, _, none⟩) NB221_278.out _).trans (((cell_far (p := ⟨gb278, _, none⟩) NB221_278.out _).trans (hHeld.2.2.2.1)))))), ((cell_far (p := ⟨gb278, _, none⟩) NB221_278.out _).trans (((cell_far (p := ⟨gb278, _, none⟩) NB221_278.out _).trans (((cell_far (p := ⟨gb278, _, none⟩) NB221_278.out _).trans (hHeld.2.2.2.2))))))⟩ (fun hHeld => ?_)
 clear hK K
 refine zpu 10 (some 15) (zq 11 2047) HT_ ?_
 refine done_ (done_of HT_.out (by kernel_rfl)) ?_
 have hnb106 := NB278_220.out
 have hnc106 := NB220_278.out
 have hnb107 := NB278_221.out
 have hnc107 := NB221_278.out
 have hnb108 := NB278_236.out
 have hnc108 := NB236_278.out
 have hnb109 := NB278_242.out
 have hnc109 := NB242_278.out
 have hnb110 := NB278_251.out
 have hnc110 := NB251_278.out
 obtain ⟨z111_0, z111_1, z111_2, y111_0, y111_1, y111_2⟩ := zB3 BK278
 obtain ⟨z112_0, z112_1, z112_2, y112_0, y112_1, y112_2⟩ := zB3 BK236
 try go_wp2_with (first | ((with_reducible refine gate_callee (f := 11) rfl ?_); refine goesL_ (some 89) rfl rfl Try.func11 (by kernel_rfl) rfl #[.agg #[.int .i8 t272, .int .i8 t273, .slice Ao104 t274.length co104], .agg #[.int .i8 t230, .int .i8 t231, .slice Ao53 t232.length co53]] rfl zm ?_; (with_reducible refine (laws_eqBoard.calls k t272 t273 _ _ t274 t230 t231 _ _ t232 true _ ?side1 ?side2 ?side3 ?side4 A33.out).mono ?_); (case side1 => exact (Kd.R_reads' (zs HO276 BK278).out).2.2); (case side2 => exact (Kd.R_reads' HO276.out).2.1); (case side3 => exact (Kd.R_reads' (zs HO234 BK278).out).2.2); (case side4 => exact (Kd.R_reads' HO234.out).2.1); rintro e w113 ⟨rfl, hb⟩; refine ⟨_, rfl, ?_⟩; have n_ : _ ∧ _ ∧ _ ∧ _ ∧ _ ∧ _ ∧ _ ∧ _ ∧ _ ∧ _ ∧ _ ∧ _ ∧ _ ∧ _ := ⟨zsb HO227 BK278 hb, zsb HO234 BK278 hb, zsb HO241 BK278 hb, zsb HO249 BK278 hb, zsb HO257 BK278 hb, zsb HO269 BK278 hb, zsb HO276 BK278 hb, zfb BK220 NB220_278 hb, zfb BK221 NB221_278 hb, zfb BK236 NB236_278 hb, zfb BK242 NB242_278 hb, zfb BK251 NB251_278 hb, Aside0.mk (blk_below (g := gb278) (o := .cells #[.int .i8 t272, .int .i8 t273, .slice Ao104 t274.length co104] 30 (0, 0)) (zp BK278) hb), zbs hb⟩; clear HO227 HO234 HO241 HO249 HO257 HO269 HO276 BK220 BK221 BK236 BK242 BK251 BK278 HB; obtain ⟨HO227, HO234, HO241, HO249, HO257, HO269, HO276, BK220, BK221, BK236, BK242, BK251, BK278, HB⟩ := n_; (try clear hb); (try clear hb2); (try clear hk); (try clear hi); obtain ⟨z114_0, z114_1, z114_2, y114_0, y114_1, y114_2⟩ := zB3 BK251) | ((with_reducible refine gate_callee (f := 13) rfl ?_); refine goesL_ (some 98) rfl rfl Try.func13 (by kernel_rfl) rfl #[.agg #[.int .i8 t245, .int .i8 t246, .slice Ao72 t263.length co72], .int .i64 1] rfl (by (try simp only [List.map_toArray, List.map_cons, List.map_nil]); first | done | (rw [show t263.length = t247.length from (Kd.R_reads' HO249.out).1.symm] <;> rfl) | rfl | (simp only [List.length_drop, List.length_take]; rfl)) ?_; (with_reducible refine (laws_heldBoard.calls k t245 t246 _ _ t263 1 t280 _ ?side1 ?side2 A36.out).mono ?_); (case side1 => exact zrc HO249); (case side2 => rw [show t263.length = t247.length from (Kd.R_reads' HO249.out).1.symm]; exact (Kd.R_reads' HO249.out).2.1); rintro e w115 ⟨rfl, hb⟩; refine ⟨_, rfl, ?_⟩; have n_ : _ ∧ _ ∧ _ ∧ _ ∧ _ ∧ _ ∧ _ ∧ _ ∧ _ ∧ _ ∧ _ ∧ _ ∧ _ ∧ _ := ⟨zr HO227 hb, zr HO234 hb, zr HO241 hb, zr HO249 hb, zr HO257 hb, zr HO269 hb, zr HO276 hb, zk BK220 hb, zk BK221 hb, zk BK236 hb, zk BK242 hb, zk BK251 hb, zk BK278 hb, zbs hb⟩; clear HO227 HO234 HO241 HO249 HO257 HO269 HO276 BK220 BK221 BK236 BK242 BK251 BK278 HB; obtain ⟨HO227, HO234, HO241, HO249, HO257, HO269, HO276, BK220, BK221, BK236, BK242, BK251, BK278, HB⟩ := n_; (try clear hb); (try clear hb2); (try clear hk); (try clear hi)))
 go_ret
 exact ⟨zv, zbo⟩
end Go.Proofs.Ytdjhcnepndflmaa.PFnExactTakePiece
