-- WRITTEN by xprint.py, a program of this session's. Not trusted: Lean checks it.
-- packed by pack.py
import Derived.Test.YtffnfpnajkgnaaaPFnExactJoinBoardsx0
import Derived.Test.YtffnfpnajkgnaaaPFnExactJoinBoardsx2
import Derived.Test.YtffnfpnajkgnaaaPFnExactJoinBoardsx3
import Derived.Test.YtffnfpnajkgnaaaPFnExactJoinBoardsx4
import Derived.Test.YtffnfpnajkgnaaaPFnExactJoinBoardsx7
import Derived.Test.YtffnfpnajkgnaaaPFnExactJoinBoardsx10
import Derived.Test.YtffnfpnajkgnaaaTFnExactJoinBoardsa
namespace Go.Proofs.Ytffnfpnajkgnaaa.PFnExactJoinBoards
open Go.RowKit Go.Proofs.YtffnfpnajkgnaaaW.PrintWords Go.Proofs.YtffnfpnajkgnaaaW.PrintLast Go.Proofs.YtffnfpnajkgnaaaW.PrintMore Go.Proofs.YtffnfpnajkgnaaaX
attribute [local go_sem] max2_int min2_int max_two min_two max_three min_three max_four min_four   -- for this text's walks alone
set_option maxHeartbeats 8000000
set_option maxRecDepth 100000
set_option linter.unusedVariables false
set_option linter.unusedSimpArgs false

def laws_FnExactJoinBoards.f (k : Nat) (a0_0 : Int) (a0_1 : Int) (l0_2 : List (S88)) (a1_0 : Int) (a1_1 : Int) (l1_2 : List (S88)) : Option (Bool) := (laws_szBoard.f a0_0 a0_1 l0_2 1048576).bind fun t266 => (if t266 < 0 then (some true) else ((laws_szBoard.f a1_0 a1_1 l1_2 t266).bind fun t267 => (if t267 < 0 then (some true) else ((laws_toBoard.f k a0_0 a0_1 l0_2).bind fun bt268 => ((laws_toBoard.f k a1_0 a1_1 l1_2).bind fun bt273 => ((spec_JoinBoards.f k bt268.1 bt268.2.1 bt268.2.2 bt273.1 bt273.2.1 bt273.2.2).bind fun bt278 => ((laws_toBoard.f k a0_0 a0_1 l0_2).bind fun bt285 => ((laws_toBoard.f k a1_0 a1_1 l1_2).bind fun bt291 => ((impl_JoinBoards.f k bt285.1 bt285.2.1 bt285.2.2 bt291.1 bt291.2.1 bt291.2.2).bind fun bt297 => ((laws_eqBoard.f k bt297.1 bt297.2.1 bt297.2.2.1 bt278.1 bt278.2.1 bt278.2.2.1).bind fun t304 => (if t304 = true then (if bt297.2.2.2 = bt278.2.2.2 then ((laws_toBoard.f k a0_0 a0_1 l0_2).bind fun bt305 => ((laws_eqBoard.f k bt285.1 bt285.2.1 bt285.2.2 bt305.1 bt305.2.1 bt305.2.2).bind fun t310 => (if t310 = true then ((laws_toBoard.f k a1_0 a1_1 l1_2).bind fun bt311 => ((laws_eqBoard.f k bt291.1 bt291.2.1 bt291.2.2 bt311.1 bt311.2.1 bt311.2.2).bind fun t316 => (if t316 = true then ((laws_markBoard.f k bt285.1 bt285.2.1 bt285.2.2 1).bind fun bt317 => ((laws_markBoard.f k bt291.1 bt291.2.1 bt291.2.2 bt317.1).bind fun bt319 => (if bt319.1 < 0 then (none) else ((laws_eqBoard.f k bt297.1 bt297.2.1 bt297.2.2.1 bt278.1 bt278.2.1 bt278.2.2.1).bind fun t321 => (if t321 = true then ((laws_markBoard.f k bt297.1 bt297.2.1 bt297.2.2.1 1).bind fun bt322 => ((laws_heldBoard.f k bt297.1 bt297.2.1 bt322.2 1).bind fun t324 => (if t324 < 0 then (none) else (if t324 = bt322.1 then ((laws_toBoard.f k a0_0 a0_1 l0_2).bind fun bt325 => ((laws_toBoard.f k a1_0 a1_1 l1_2).bind fun bt330 => ((impl_JoinBoards.f k bt325.1 bt325.2.1 bt325.2.2 bt330.1 bt330.2.1 bt330.2.2).bind fun bt335 => ((laws_eqBoard.f k bt335.1 bt335.2.1 bt335.2.2.1 bt278.1 bt278.2.1 bt278.2.2.1).bind fun t342 => (if t342 = true then (if bt335.2.2.2 = bt278.2.2.2 then ((laws_heldBoard.f k bt297.1 bt297.2.1 bt322.2 1).bind fun t343 => (if t343 < 0 then (none) else (if t343 = bt322.1 then (some true) else (none)))) else (none)) else (none)))))) else (none))))) else (none)))))) else (none)))) else (none)))) else (none)) else (none))))))))))))
theorem laws_FnExactJoinBoards.mono : ∀ a0 a1 a2 a3 a4 a5 k, LeO (laws_FnExactJoinBoards.f k a0 a1 a2 a3 a4 a5) (laws_FnExactJoinBoards.f (k + 1) a0 a1 a2 a3 a4 a5) := by
 intro a0 a1 a2 a3 a4 a5 k
 unfold laws_FnExactJoinBoards.f
 repeat' first | (with_reducible first | apply impl_JoinBoards.mono | apply laws_eqBoard.mono | apply laws_heldBoard.mono | apply laws_markBoard.mono | apply laws_toBoard.mono | apply spec_JoinBoards.mono | exact LeO.refl _ | exact LeO.none _ | refine LeO.ite ?_ ?_ | refine LeO.bind ?_ (fun _ => ?_)) | apply impl_JoinBoards.mono | apply laws_eqBoard.mono | apply laws_heldBoard.mono | apply laws_markBoard.mono | apply laws_toBoard.mono | apply spec_JoinBoards.mono | exact LeO.none _ | refine LeO.ite ?_ ?_ | refine LeO.bind ?_ (fun _ => ?_)
def laws_FnExactJoinBoards.T8 : Bool × List (List Nat × List Nat) := (true, [([], []), ([0], [0]), ([], []), ([2, 1], [2]), ([1, 3, 3], [1, 3]), ([4], [4]), ([5], [5]), ([5], [5]), ([], []), ([8, 6, 4, 0, 1, 2, 3, 4, 5, 6, 8], [6, 8]), ([7, 9, 0, 1, 2, 3, 4, 5, 6, 7, 8, 9], [7])])
def laws_FnExactJoinBoards.B8 : List Nat := [0, 1, 0, 7, 15, 31, 63, 63, 0, 383, 1023]
theorem laws_FnExactJoinBoards.tab8 : rtab .any (opsOf Try.f17 8) = laws_FnExactJoinBoards.T8 := by kernel_rfl
theorem laws_FnExactJoinBoards.bits8 : waitsOk laws_FnExactJoinBoards.T8.2 laws_FnExactJoinBoards.B8 = true := by kernel_rfl
def laws_FnExactJoinBoards.T31 : Bool × List (List Nat × List Nat) := (true, [([], []), ([0], [0]), ([], []), ([2, 1], [2]), ([1, 3, 3], [1, 3]), ([4], [4]), ([5], [5]), ([5], [5]), ([], []), ([8, 6, 4, 0, 1, 2, 3, 4, 5, 6, 8], [6, 8]), ([7, 9, 0, 1, 2, 3, 4, 5, 6, 7, 8, 9], [7])])
def laws_FnExactJoinBoards.B31 : List Nat := [0, 1, 0, 7, 15, 31, 63, 63, 0, 383, 1023]
theorem laws_FnExactJoinBoards.tab31 : rtab .any (opsOf Try.f17 31) = laws_FnExactJoinBoards.T31 := by kernel_rfl
theorem laws_FnExactJoinBoards.bits31 : waitsOk laws_FnExactJoinBoards.T31.2 laws_FnExactJoinBoards.B31 = true := by kernel_rfl
theorem laws_FnExactJoinBoards.calls (k : Nat) (a0_0 : Int) (a0_1 : Int) (A0_2 : Option Addr) (c0_2 : Nat) (l0_2 : List (S88)) (a1_0 : Int) (a1_1 : Int) (A1_2 : Option Addr) (c1_2 : Nat) (l1_2 : List (S88)) (r : Bool) (w : World) (hr0_2 : Kd.C k88 w A0_2 l0_2.length l0_2) (hc0_2 : l0_2.length ≤ c0_2) (hr1_2 : Kd.C k88 w A1_2 l1_2.length l1_2) (hc1_2 : l1_2.length ≤ c1_2) (h : laws_FnExactJoinBoards.f k a0_0 a0_1 l0_2 a1_0 a1_1 l1_2 = some r) :
    Calls Try.prog 17 #[.agg #[.int .i8 a0_0, .int .i8 a0_1, .slice A0_2 l0_2.length c0_2], .agg #[.int .i8 a1_0, .int .i8 a1_1, .slice A1_2 l1_2.length c1_2]] w fun e w' => e = .returned (.bool r) ∧ Below w.heap.size w w' := by
 have hu25 := Try.underlying25
 have hu37 := Try.underlying37
 have HR0_2 := Aside0.mk hr0_2
 have HC0_2 := Aside0.mk hc0_2
 clear hr0_2 hc0_2
 have HR1_2 := Aside0.mk hr1_2
 have HC1_2 := Aside0.mk hc1_2
 clear hr1_2 hc1_2
 have HB := Aside0.mk (Below.refl w.heap.size w)
 have H : ((laws_szBoard.f a0_0 a0_1 l0_2 1048576).bind fun t266 => (if t266 < 0 then (some true) else ((laws_szBoard.f a1_0 a1_1 l1_2 t266).bind fun t267 => (if t267 < 0 then (some true) else ((laws_toBoard.f k a0_0 a0_1 l0_2).bind fun bt268 => ((laws_toBoard.f k a1_0 a1_1 l1_2).bind fun bt273 => ((spec_JoinBoards.f k bt268.1 bt268.2.1 bt268.2.2 bt273.1 bt273.2.1 bt273.2.2).bind fun bt278 => ((laws_toBoard.f k a0_0 a0_1 l0_2).bind fun bt285 => ((laws_toBoard.f k a1_0 a1_1 l1_2).bind fun bt291 => ((impl_JoinBoards.f k bt285.1 bt285.2.1 bt285.2.2 bt291.1 bt291.2.1 bt291.2.2).bind fun bt297 => ((laws_eqBoard.f k bt297.1 bt297.2.1 bt297.2.2.1 bt278.1 bt278.2.1 bt278.2.2.1).bind fun t304 => (if t304 = true then (if bt297.2.2.2 = bt278.2.2.2 then ((laws_toBoard.f k a0_0 a0_1 l0_2).bind fun bt305 => ((laws_eqBoard.f k bt285.1 bt285.2.1 bt285.2.2 bt305.1 bt305.2.1 bt305.2.2).bind fun t310 => (if t310 = true then ((laws_toBoard.f k a1_0 a1_1 l1_2).bind fun bt311 => ((laws_eqBoard.f k bt291.1 bt291.2.1 bt291.2.2 bt311.1 bt311.2.1 bt311.2.2).bind fun t316 => (if t316 = true then ((laws_markBoard.f k bt285.1 bt285.2.1 bt285.2.2 1).bind fun bt317 => ((laws_markBoard.f k bt291.1 bt291.2.1 bt291.2.2 bt317.1).bind fun bt319 => (if bt319.1 < 0 then (none) else ((laws_eqBoard.f k bt297.1 bt297.2.1 bt297.2.2.1 bt278.1 bt278.2.1 bt278.2.2.1).bind fun t321 => (if t321 = true then ((laws_markBoard.f k bt297.1 bt297.2.1 bt297.2.2.1 1).bind fun bt322 => ((laws_heldBoard.f k bt297.1 bt297.2.1 bt322.2 1).bind fun t324 => (if t324 < 0 then (none) else (if t324 = bt322.1 then ((laws_toBoard.f k a0_0 a0_1 l0_2).bind fun bt325 => ((laws_toBoard.f k a1_0 a1_1 l1_2).bind fun bt330 => ((impl_JoinBoards.f k bt325.1 bt325.2.1 bt325.2.2 bt330.1 bt330.2.1 bt330.2.2).bind fun bt335 => ((laws_eqBoard.f k bt335.1 bt335.2.1 bt335.2.2.1 bt278.1 bt278.2.1 bt278.2.2.1).bind fun t342 => (if t342 = true then (if bt335.2.2.2 = bt278.2.2.2 then ((laws_heldBoard.f k bt297.1 bt297.2.1 bt322.2 1).bind fun t343 => (if t343 < 0 then (none) else (if t343 = bt322.1 then (some true) else (none)))) else (none)) else (none)))))) else (none))))) else (none)))))) else (none)))) else (none)))) else (none)) else (none))))))))))))) = some r := h
 clear h
 replace H := zob H
 obtain ⟨t266, A30, H⟩ := H
 replace H : (if t266 < 0 then (some true) else ((laws_szBoard.f a1_0 a1_1 l1_2 t266).bind fun t267 => (if t267 < 0 then (some true) else ((laws_toBoard.f k a0_0 a0_1 l0_2).bind fun bt268 => ((laws_toBoard.f k a1_0 a1_1 l1_2).bind fun bt273 => ((spec_JoinBoards.f k bt268.1 bt268.2.1 bt268.2.2 bt273.1 bt273.2.1 bt273.2.2).bind fun bt278 => ((laws_toBoard.f k a0_0 a0_1 l0_2).bind fun bt285 => ((laws_toBoard.f k a1_0 a1_1 l1_2).bind fun bt291 => ((impl_JoinBoards.f k bt285.1 bt285.2.1 bt285.2.2 bt291.1 bt291.2.1 bt291.2.2).bind fun bt297 => ((laws_eqBoard.f k bt297.1 bt297.2.1 bt297.2.2.1 bt278.1 bt278.2.1 bt278.2.2.1).bind fun t304 => (if t304 = true then (if bt297.2.2.2 = bt278.2.2.2 then ((laws_toBoard.f k a0_0 a0_1 l0_2).bind fun bt305 => ((laws_eqBoard.f k bt285.1 bt285.2.1 bt285.2.2 bt305.1 bt305.2.1 bt305.2.2).bind fun t310 => (if t310 = true then ((laws_toBoard.f k a1_0 a1_1 l1_2).bind fun bt311 => ((laws_eqBoard.f k bt291.1 bt291.2.1 bt291.2.2 bt311.1 bt311.2.1 bt311.2.2).bind fun t316 => (if t316 = true then ((laws_markBoard.f k bt285.1 bt285.2.1 bt285.2.2 1).bind fun bt317 => ((laws_markBoard.f k bt291.1 bt291.2.1 bt291.2.2 bt317.1).bind fun bt319 => (if bt319.1 < 0 then (none) else ((laws_eqBoard.f k bt297.1 bt297.2.1 bt297.2.2.1 bt278.1 bt278.2.1 bt278.2.2.1).bind fun t321 => (if t321 = true then ((laws_markBoard.f k bt297.1 bt297.2.1 bt297.2.2.1 1).bind fun bt322 => ((laws_heldBoard.f k bt297.1 bt297.2.1 bt322.2 1).bind fun t324 => (if t324 < 0 then (none) else (if t324 = bt322.1 then ((laws_toBoard.f k a0_0 a0_1 l0_2).bind fun bt325 => ((laws_toBoard.f k a1_0 a1_1 l1_2).bind fun bt330 => ((impl_JoinBoards.f k bt325.1 bt325.2.1 bt325.2.2 bt330.1 bt330.2.1 bt330.2.2).bind fun bt335 => ((laws_eqBoard.f k bt335.1 bt335.2.1 bt335.2.2.1 bt278.1 bt278.2.1 bt278.2.2.1).bind fun t342 => (if t342 = true then (if bt335.2.2.2 = bt278.2.2.2 then ((laws_heldBoard.f k bt297.1 bt297.2.1 bt322.2 1).bind fun t343 => (if t343 < 0 then (none) else (if t343 = bt322.1 then (some true) else (none)))) else (none)) else (none)))))) else (none))))) else (none)))))) else (none)))) else (none)))) else (none)) else (none)))))))))))) = some r := H
 have A3 := Aside0.mk A30
 clear A30
 by_cases c4 : t266 < 0
 ·rw [if_pos c4] at H
  have c4b0 : decide (t266 < 0) = true := decide_eq_true c4
  clear c4
  obtain rfl := Option.some.inj H
  go_enter Try.func17, Try.ntmps17
  go_wp2_with (first | ((with_reducible refine gate_dst (N := 2) rfl ?_); refine zbx 2 #[.int .i8 a0_0, .int .i8 a0_1, .slice A0_2 l0_2.length c0_2] 25 ?_; intro gb264 hg w5 hbox hb; have n_ : _ ∧ _ ∧ _ ∧ _ := ⟨zb HB hb, Aside0.mk (hbox), zg HB hg, zg HB hg⟩; clear HB; obtain ⟨HB, BK264, GW264, GE264⟩ := n_; clear hb hbox hg) | ((with_reducible refine gate_dst (N := 3) rfl ?_); refine zbx 3 #[.int .i8 a1_0, .int .i8 a1_1, .slice A1_2 l1_2.length c1_2] 25 ?_; intro gb265 hg w6 hbox hb; have n_ : _ ∧ _ ∧ _ ∧ _ ∧ _ ∧ _ ∧ _ := ⟨zk BK264 hb, zbs hb, Aside0.mk (hbox), zg HB hg, zg HB hg, zn1 BK264 hg, zn2 BK264 hg⟩; clear BK264 HB; obtain ⟨BK264, HB, BK265, GW265, GE265, NB264_265, NB265_264⟩ := n_; clear hb hbox hg; have hnb7 := NB264_265.out; have hnc7 := NB265_264.out; obtain ⟨z8_0, z8_1, z8_2, y8_0, y8_1, y8_2⟩ := zB3 BK264) | ((with_reducible refine gate_callee (f := 40) rfl ?_); refine goesL_ (some 19) rfl rfl Try.func40 (by kernel_rfl) rfl #[.agg #[.int .i8 a0_0, .int .i8 a0_1, .slice A0_2 l0_2.length c0_2], .int .i64 1048576] rfl zm ?_; (with_reducible refine (laws_szBoard.calls a0_0 a0_1 _ _ l0_2 1048576 t266 _ ?side1 ?side2 A3.out).mono ?_); (case side1 => exact zcc HB HR0_2.out); (case side2 => exact HC0_2.out); rintro e w9 ⟨rfl, hb⟩; refine ⟨_, rfl, ?_⟩; have n_ : _ ∧ _ ∧ _ := ⟨zk BK264 hb, zk BK265 hb, zbs hb⟩; clear BK264 BK265 HB; obtain ⟨BK264, BK265, HB⟩ := n_; (try clear hb); (try clear hb2); (try clear hk); (try clear hi)))
  go_ret
  exact ⟨zv, zbo⟩
 rw [if_neg c4] at H
 have c4b0 : decide (t266 < 0) = false := decide_eq_false c4
 clear c4
 replace H := zob H
 obtain ⟨t267, A100, H⟩ := H
 replace H : (if t267 < 0 then (some true) else ((laws_toBoard.f k a0_0 a0_1 l0_2).bind fun bt268 => ((laws_toBoard.f k a1_0 a1_1 l1_2).bind fun bt273 => ((spec_JoinBoards.f k bt268.1 bt268.2.1 bt268.2.2 bt273.1 bt273.2.1 bt273.2.2).bind fun bt278 => ((laws_toBoard.f k a0_0 a0_1 l0_2).bind fun bt285 => ((laws_toBoard.f k a1_0 a1_1 l1_2).bind fun bt291 => ((impl_JoinBoards.f k bt285.1 bt285.2.1 bt285.2.2 bt291.1 bt291.2.1 bt291.2.2).bind fun bt297 => ((laws_eqBoard.f k bt297.1 bt297.2.1 bt297.2.2.1 bt278.1 bt278.2.1 bt278.2.2.1).bind fun t304 => (if t304 = true then (if bt297.2.2.2 = bt278.2.2.2 then ((laws_toBoard.f k a0_0 a0_1 l0_2).bind fun bt305 => ((laws_eqBoard.f k bt285.1 bt285.2.1 bt285.2.2 bt305.1 bt305.2.1 bt305.2.2).bind fun t310 => (if t310 = true then ((laws_toBoard.f k a1_0 a1_1 l1_2).bind fun bt311 => ((laws_eqBoard.f k bt291.1 bt291.2.1 bt291.2.2 bt311.1 bt311.2.1 bt311.2.2).bind fun t316 => (if t316 = true then ((laws_markBoard.f k bt285.1 bt285.2.1 bt285.2.2 1).bind fun bt317 => ((laws_markBoard.f k bt291.1 bt291.2.1 bt291.2.2 bt317.1).bind fun bt319 => (if bt319.1 < 0 then (none) else ((laws_eqBoard.f k bt297.1 bt297.2.1 bt297.2.2.1 bt278.1 bt278.2.1 bt278.2.2.1).bind fun t321 => (if t321 = true then ((laws_markBoard.f k bt297.1 bt297.2.1 bt297.2.2.1 1).bind fun bt322 => ((laws_heldBoard.f k bt297.1 bt297.2.1 bt322.2 1).bind fun t324 => (if t324 < 0 then (none) else (if t324 = bt322.1 then ((laws_toBoard.f k a0_0 a0_1 l0_2).bind fun bt325 => ((laws_toBoard.f k a1_0 a1_1 l1_2).bind fun bt330 => ((impl_JoinBoards.f k bt325.1 bt325.2.1 bt325.2.2 bt330.1 bt330.2.1 bt330.2.2).bind fun bt335 => ((laws_eqBoard.f k bt335.1 bt335.2.1 bt335.2.2.1 bt278.1 bt278.2.1 bt278.2.2.1).bind fun t342 => (if t342 = true then (if bt335.2.2.2 = bt278.2.2.2 then ((laws_heldBoard.f k bt297.1 bt297.2.1 bt322.2 1).bind fun t343 => (if t343 < 0 then (none) else (if t343 = bt322.1 then (some true) else (none)))) else (none)) else (none)))))) else (none))))) else (none)))))) else (none)))) else (none)))) else (none)) else (none)))))))))) = some r := H
 have A10 := Aside0.mk A100
 clear A100
 by_cases c11 : t267 < 0
 ·rw [if_pos c11] at H
  have c11b0 : decide (t267 < 0) = true := decide_eq_true c11
  clear c11
  obtain rfl := Option.some.inj H
  go_enter Try.func17, Try.ntmps17
  go_wp2_with (first | ((with_reducible refine gate_dst (N := 2) rfl ?_); refine zbx 2 #[.int .i8 a0_0, .int .i8 a0_1, .slice A0_2 l0_2.length c0_2] 25 ?_; intro gb264 hg w12 hbox hb; have n_ : _ ∧ _ ∧ _ ∧ _ := ⟨zb HB hb, Aside0.mk (hbox), zg HB hg, zg HB hg⟩; clear HB; obtain ⟨HB, BK264, GW264, GE264⟩ := n_; clear hb hbox hg) | ((with_reducible refine gate_dst (N := 3) rfl ?_); refine zbx 3 #[.int .i8 a1_0, .int .i8 a1_1, .slice A1_2 l1_2.length c1_2] 25 ?_; intro gb265 hg w13 hbox hb; have n_ : _ ∧ _ ∧ _ ∧ _ ∧ _ ∧ _ ∧ _ := ⟨zk BK264 hb, zbs hb, Aside0.mk (hbox), zg HB hg, zg HB hg, zn1 BK264 hg, zn2 BK264 hg⟩; clear BK264 HB; obtain ⟨BK264, HB, BK265, GW265, GE265, NB264_265, NB265_264⟩ := n_; clear hb hbox hg; have hnb14 := NB264_265.out; have hnc14 := NB265_264.out; obtain ⟨z15_0, z15_1, z15_2, y15_0, y15_1, y15_2⟩ := zB3 BK264) | ((with_reducible refine gate_callee (f := 40) rfl ?_); refine goesL_ (some 19) rfl rfl Try.func40 (by kernel_rfl) rfl #[.agg #[.int .i8 a0_0, .int .i8 a0_1, .slice A0_2 l0_2.length c0_2], .int .i64 1048576] rfl zm ?_; (with_reducible refine (laws_szBoard.calls a0_0 a0_1 _ _ l0_2 1048576 t266 _ ?side1 ?side2 A3.out).mono ?_); (case side1 => exact zcc HB HR0_2.out); (case side2 => exact HC0_2.out); rintro e w16 ⟨rfl, hb⟩; refine ⟨_, rfl, ?_⟩; have n_ : _ ∧ _ ∧ _ := ⟨zk BK264 hb, zk BK265 hb, zbs hb⟩; clear BK264 BK265 HB; obtain ⟨BK264, BK265, HB⟩ := n_; (try clear hb); (try clear hb2); (try clear hk); (try clear hi); obtain ⟨z17_0, z17_1, z17_2, y17_0, y17_1, y17_2⟩ := zB3 BK265) | ((with_reducible refine gate_callee (f := 40) rfl ?_); refine goesL_ (some 24) rfl rfl Try.func40 (by kernel_rfl) rfl #[.agg #[.int .i8 a1_0, .int .i8 a1_1, .slice A1_2 l1_2.length c1_2], .int .i64 t266] rfl zm ?_; (with_reducible refine (laws_szBoard.calls a1_0 a1_1 _ _ l1_2 t266 t267 _ ?side1 ?side2 A10.out).mono ?_); (case side1 => exact zcc HB HR1_2.out); (case side2 => exact HC1_2.out); rintro e w18 ⟨rfl, hb⟩; refine ⟨_, rfl, ?_⟩; have n_ : _ ∧ _ ∧ _ := ⟨zk BK264 hb, zk BK265 hb, zbs hb⟩; clear BK264 BK265 HB; obtain ⟨BK264, BK265, HB⟩ := n_; (try clear hb); (try clear hb2); (try clear hk); (try clear hi)))
  go_ret
  exact ⟨zv, zbo⟩
 rw [if_neg c11] at H
 have c11b0 : decide (t267 < 0) = false := decide_eq_false c11
 clear c11
 replace H := zob H
 obtain ⟨⟨t268, t269, t270⟩, A190, H⟩ := H
 replace H : ((laws_toBoard.f k a1_0 a1_1 l1_2).bind fun bt273 => ((spec_JoinBoards.f k t268 t269 t270 bt273.1 bt273.2.1 bt273.2.2).bind fun bt278 => ((laws_toBoard.f k a0_0 a0_1 l0_2).bind fun bt285 => ((laws_toBoard.f k a1_0 a1_1 l1_2).bind fun bt291 => ((impl_JoinBoards.f k bt285.1 bt285.2.1 bt285.2.2 bt291.1 bt291.2.1 bt291.2.2).bind fun bt297 => ((laws_eqBoard.f k bt297.1 bt297.2.1 bt297.2.2.1 bt278.1 bt278.2.1 bt278.2.2.1).bind fun t304 => (if t304 = true then (if bt297.2.2.2 = bt278.2.2.2 then ((laws_toBoard.f k a0_0 a0_1 l0_2).bind fun bt305 => ((laws_eqBoard.f k bt285.1 bt285.2.1 bt285.2.2 bt305.1 bt305.2.1 bt305.2.2).bind fun t310 => (if t310 = true then ((laws_toBoard.f k a1_0 a1_1 l1_2).bind fun bt311 => ((laws_eqBoard.f k bt291.1 bt291.2.1 bt291.2.2 bt311.1 bt311.2.1 bt311.2.2).bind fun t316 => (if t316 = true then ((laws_markBoard.f k bt285.1 bt285.2.1 bt285.2.2 1).bind fun bt317 => ((laws_markBoard.f k bt291.1 bt291.2.1 bt291.2.2 bt317.1).bind fun bt319 => (if bt319.1 < 0 then (none) else ((laws_eqBoard.f k bt297.1 bt297.2.1 bt297.2.2.1 bt278.1 bt278.2.1 bt278.2.2.1).bind fun t321 => (if t321 = true then ((laws_markBoard.f k bt297.1 bt297.2.1 bt297.2.2.1 1).bind fun bt322 => ((laws_heldBoard.f k bt297.1 bt297.2.1 bt322.2 1).bind fun t324 => (if t324 < 0 then (none) else (if t324 = bt322.1 then ((laws_toBoard.f k a0_0 a0_1 l0_2).bind fun bt325 => ((laws_toBoard.f k a1_0 a1_1 l1_2).bind fun bt330 => ((impl_JoinBoards.f k bt325.1 bt325.2.1 bt325.2.2 bt330.1 bt330.2.1 bt330.2.2).bind fun bt335 => ((laws_eqBoard.f k bt335.1 bt335.2.1 bt335.2.2.1 bt278.1 bt278.2.1 bt278.2.2.1).bind fun t342 => (if t342 = true then (if bt335.2.2.2 = bt278.2.2.2 then ((laws_heldBoard.f k bt297.1 bt297.2.1 bt322.2 1).bind fun t343 => (if t343 < 0 then (none) else (if t343 = bt322.1 then (some true) else (none)))) else (none)) else (none)))))) else (none))))) else (none)))))) else (none)))) else (none)))) else (none)) else (none)))))))) = some r := H
 have A19 := Aside0.mk A190
 clear A190
 replace H := zob H
 obtain ⟨⟨t273, t274, t275⟩, A200, H⟩ := H
 replace H : ((spec_JoinBoards.f k t268 t269 t270 t273 t274 t275).bind fun bt278 => ((laws_toBoard.f k a0_0 a0_1 l0_2).bind fun bt285 => ((laws_toBoard.f k a1_0 a1_1 l1_2).bind fun bt291 => ((impl_JoinBoards.f k bt285.1 bt285.2.1 bt285.2.2 bt291.1 bt291.2.1 bt291.2.2).bind fun bt297 => ((laws_eqBoard.f k bt297.1 bt297.2.1 bt297.2.2.1 bt278.1 bt278.2.1 bt278.2.2.1).bind fun t304 => (if t304 = true then (if bt297.2.2.2 = bt278.2.2.2 then ((laws_toBoard.f k a0_0 a0_1 l0_2).bind fun bt305 => ((laws_eqBoard.f k bt285.1 bt285.2.1 bt285.2.2 bt305.1 bt305.2.1 bt305.2.2).bind fun t310 => (if t310 = true then ((laws_toBoard.f k a1_0 a1_1 l1_2).bind fun bt311 => ((laws_eqBoard.f k bt291.1 bt291.2.1 bt291.2.2 bt311.1 bt311.2.1 bt311.2.2).bind fun t316 => (if t316 = true then ((laws_markBoard.f k bt285.1 bt285.2.1 bt285.2.2 1).bind fun bt317 => ((laws_markBoard.f k bt291.1 bt291.2.1 bt291.2.2 bt317.1).bind fun bt319 => (if bt319.1 < 0 then (none) else ((laws_eqBoard.f k bt297.1 bt297.2.1 bt297.2.2.1 bt278.1 bt278.2.1 bt278.2.2.1).bind fun t321 => (if t321 = true then ((laws_markBoard.f k bt297.1 bt297.2.1 bt297.2.2.1 1).bind fun bt322 => ((laws_heldBoard.f k bt297.1 bt297.2.1 bt322.2 1).bind fun t324 => (if t324 < 0 then (none) else (if t324 = bt322.1 then ((laws_toBoard.f k a0_0 a0_1 l0_2).bind fun bt325 => ((laws_toBoard.f k a1_0 a1_1 l1_2).bind fun bt330 => ((impl_JoinBoards.f k bt325.1 bt325.2.1 bt325.2.2 bt330.1 bt330.2.1 bt330.2.2).bind fun bt335 => ((laws_eqBoard.f k bt335.1 bt335.2.1 bt335.2.2.1 bt278.1 bt278.2.1 bt278.2.2.1).bind fun t342 => (if t342 = true then (if bt335.2.2.2 = bt278.2.2.2 then ((laws_heldBoard.f k bt297.1 bt297.2.1 bt322.2 1).bind fun t343 => (if t343 < 0 then (none) else (if t343 = bt322.1 then (some true) else (none)))) else (none)) else (none)))))) else (none))))) else (none)))))) else (none)))) else (none)))) else (none)) else (none))))))) = some r := H
 have A20 := Aside0.mk A200
 clear A200
 replace H := zob H
 obtain ⟨⟨t278, t279, t280, t283⟩, A210, H⟩ := H
 replace H : ((laws_toBoard.f k a0_0 a0_1 l0_2).bind fun bt285 => ((laws_toBoard.f k a1_0 a1_1 l1_2).bind fun bt291 => ((impl_JoinBoards.f k bt285.1 bt285.2.1 bt285.2.2 bt291.1 bt291.2.1 bt291.2.2).bind fun bt297 => ((laws_eqBoard.f k bt297.1 bt297.2.1 bt297.2.2.1 t278 t279 t280).bind fun t304 => (if t304 = true then (if bt297.2.2.2 = t283 then ((laws_toBoard.f k a0_0 a0_1 l0_2).bind fun bt305 => ((laws_eqBoard.f k bt285.1 bt285.2.1 bt285.2.2 bt305.1 bt305.2.1 bt305.2.2).bind fun t310 => (if t310 = true then ((laws_toBoard.f k a1_0 a1_1 l1_2).bind fun bt311 => ((laws_eqBoard.f k bt291.1 bt291.2.1 bt291.2.2 bt311.1 bt311.2.1 bt311.2.2).bind fun t316 => (if t316 = true then ((laws_markBoard.f k bt285.1 bt285.2.1 bt285.2.2 1).bind fun bt317 => ((laws_markBoard.f k bt291.1 bt291.2.1 bt291.2.2 bt317.1).bind fun bt319 => (if bt319.1 < 0 then (none) else ((laws_eqBoard.f k bt297.1 bt297.2.1 bt297.2.2.1 t278 t279 t280).bind fun t321 => (if t321 = true then ((laws_markBoard.f k bt297.1 bt297.2.1 bt297.2.2.1 1).bind fun bt322 => ((laws_heldBoard.f k bt297.1 bt297.2.1 bt322.2 1).bind fun t324 => (if t324 < 0 then (none) else (if t324 = bt322.1 then ((laws_toBoard.f k a0_0 a0_1 l0_2).bind fun bt325 => ((laws_toBoard.f k a1_0 a1_1 l1_2).bind fun bt330 => ((impl_JoinBoards.f k bt325.1 bt325.2.1 bt325.2.2 bt330.1 bt330.2.1 bt330.2.2).bind fun bt335 => ((laws_eqBoard.f k bt335.1 bt335.2.1 bt335.2.2.1 t278 t279 t280).bind fun t342 => (if t342 = true then (if bt335.2.2.2 = t283 then ((laws_heldBoard.f k bt297.1 bt297.2.1 bt322.2 1).bind fun t343 => (if t343 < 0 then (none) else (if t343 = bt322.1 then (some true) else (none)))) else (none)) else (none)))))) else (none))))) else (none)))))) else (none)))) else (none)))) else (none)) else (none)))))) = some r := H
 have A21 := Aside0.mk A210
 clear A210
 replace H := zob H
 obtain ⟨⟨t285, t286, t287⟩, A220, H⟩ := H
 replace H : ((laws_toBoard.f k a1_0 a1_1 l1_2).bind fun bt291 => ((impl_JoinBoards.f k t285 t286 t287 bt291.1 bt291.2.1 bt291.2.2).bind fun bt297 => ((laws_eqBoard.f k bt297.1 bt297.2.1 bt297.2.2.1 t278 t279 t280).bind fun t304 => (if t304 = true then (if bt297.2.2.2 = t283 then ((laws_toBoard.f k a0_0 a0_1 l0_2).bind fun bt305 => ((laws_eqBoard.f k t285 t286 t287 bt305.1 bt305.2.1 bt305.2.2).bind fun t310 => (if t310 = true then ((laws_toBoard.f k a1_0 a1_1 l1_2).bind fun bt311 => ((laws_eqBoard.f k bt291.1 bt291.2.1 bt291.2.2 bt311.1 bt311.2.1 bt311.2.2).bind fun t316 => (if t316 = true then ((laws_markBoard.f k t285 t286 t287 1).bind fun bt317 => ((laws_markBoard.f k bt291.1 bt291.2.1 bt291.2.2 bt317.1).bind fun bt319 => (if bt319.1 < 0 then (none) else ((laws_eqBoard.f k bt297.1 bt297.2.1 bt297.2.2.1 t278 t279 t280).bind fun t321 => (if t321 = true then ((laws_markBoard.f k bt297.1 bt297.2.1 bt297.2.2.1 1).bind fun bt322 => ((laws_heldBoard.f k bt297.1 bt297.2.1 bt322.2 1).bind fun t324 => (if t324 < 0 then (none) else (if t324 = bt322.1 then ((laws_toBoard.f k a0_0 a0_1 l0_2).bind fun bt325 => ((laws_toBoard.f k a1_0 a1_1 l1_2).bind fun bt330 => ((impl_JoinBoards.f k bt325.1 bt325.2.1 bt325.2.2 bt330.1 bt330.2.1 bt330.2.2).bind fun bt335 => ((laws_eqBoard.f k bt335.1 bt335.2.1 bt335.2.2.1 t278 t279 t280).bind fun t342 => (if t342 = true then (if bt335.2.2.2 = t283 then ((laws_heldBoard.f k bt297.1 bt297.2.1 bt322.2 1).bind fun t343 => (if t343 < 0 then (none) else (if t343 = bt322.1 then (some true) else (none)))) else (none)) else (none)))))) else (none))))) else (none)))))) else (none)))) else (none)))) else (none)) else (none))))) = some r := H
 have A22 := Aside0.mk A220
 clear A220
 replace H := zob H
 obtain ⟨⟨t291, t292, t293⟩, A230, H⟩ := H
 replace H : ((impl_JoinBoards.f k t285 t286 t287 t291 t292 t293).bind fun bt297 => ((laws_eqBoard.f k bt297.1 bt297.2.1 bt297.2.2.1 t278 t279 t280).bind fun t304 => (if t304 = true then (if bt297.2.2.2 = t283 then ((laws_toBoard.f k a0_0 a0_1 l0_2).bind fun bt305 => ((laws_eqBoard.f k t285 t286 t287 bt305.1 bt305.2.1 bt305.2.2).bind fun t310 => (if t310 = true then ((laws_toBoard.f k a1_0 a1_1 l1_2).bind fun bt311 => ((laws_eqBoard.f k t291 t292 t293 bt311.1 bt311.2.1 bt311.2.2).bind fun t316 => (if t316 = true then ((laws_markBoard.f k t285 t286 t287 1).bind fun bt317 => ((laws_markBoard.f k t291 t292 t293 bt317.1).bind fun bt319 => (if bt319.1 < 0 then (none) else ((laws_eqBoard.f k bt297.1 bt297.2.1 bt297.2.2.1 t278 t279 t280).bind fun t321 => (if t321 = true then ((laws_markBoard.f k bt297.1 bt297.2.1 bt297.2.2.1 1).bind fun bt322 => ((laws_heldBoard.f k bt297.1 bt297.2.1 bt322.2 1).bind fun t324 => (if t324 < 0 then (none) else (if t324 = bt322.1 then ((laws_toBoard.f k a0_0 a0_1 l0_2).bind fun bt325 => ((laws_toBoard.f k a1_0 a1_1 l1_2).bind fun bt330 => ((impl_JoinBoards.f k bt325.1 bt325.2.1 bt325.2.2 bt330.1 bt330.2.1 bt330.2.2).bind fun bt335 => ((laws_eqBoard.f k bt335.1 bt335.2.1 bt335.2.2.1 t278 t279 t280).bind fun t342 => (if t342 = true then (if bt335.2.2.2 = t283 then ((laws_heldBoard.f k bt297.1 bt297.2.1 bt322.2 1).bind fun t343 => (if t343 < 0 then (none) else (if t343 = bt322.1 then (some true) else (none)))) else (none)) else (none)))))) else (none))))) else (none)))))) else (none)))) else (none)))) else (none)) else (none)))) = some r := H
 have A23 := Aside0.mk A230
 clear A230
 replace H := zob H
 obtain ⟨⟨t297, t298, t299, t302⟩, A240, H⟩ := H
 replace H : ((laws_eqBoard.f k t297 t298 t299 t278 t279 t280).bind fun t304 => (if t304 = true then (if t302 = t283 then ((laws_toBoard.f k a0_0 a0_1 l0_2).bind fun bt305 => ((laws_eqBoard.f k t285 t286 t287 bt305.1 bt305.2.1 bt305.2.2).bind fun t310 => (if t310 = true then ((laws_toBoard.f k a1_0 a1_1 l1_2).bind fun bt311 => ((laws_eqBoard.f k t291 t292 t293 bt311.1 bt311.2.1 bt311.2.2).bind fun t316 => (if t316 = true then ((laws_markBoard.f k t285 t286 t287 1).bind fun bt317 => ((laws_markBoard.f k t291 t292 t293 bt317.1).bind fun bt319 => (if bt319.1 < 0 then (none) else ((laws_eqBoard.f k t297 t298 t299 t278 t279 t280).bind fun t321 => (if t321 = true then ((laws_markBoard.f k t297 t298 t299 1).bind fun bt322 => ((laws_heldBoard.f k t297 t298 bt322.2 1).bind fun t324 => (if t324 < 0 then (none) else (if t324 = bt322.1 then ((laws_toBoard.f k a0_0 a0_1 l0_2).bind fun bt325 => ((laws_toBoard.f k a1_0 a1_1 l1_2).bind fun bt330 => ((impl_JoinBoards.f k bt325.1 bt325.2.1 bt325.2.2 bt330.1 bt330.2.1 bt330.2.2).bind fun bt335 => ((laws_eqBoard.f k bt335.1 bt335.2.1 bt335.2.2.1 t278 t279 t280).bind fun t342 => (if t342 = true then (if bt335.2.2.2 = t283 then ((laws_heldBoard.f k t297 t298 bt322.2 1).bind fun t343 => (if t343 < 0 then (none) else (if t343 = bt322.1 then (some true) else (none)))) else (none)) else (none)))))) else (none))))) else (none)))))) else (none)))) else (none)))) else (none)) else (none))) = some r := H
 have A24 := Aside0.mk A240
 clear A240
 replace H := zob H
 obtain ⟨t304, A250, H⟩ := H
 replace H : (if t304 = true then (if t302 = t283 then ((laws_toBoard.f k a0_0 a0_1 l0_2).bind fun bt305 => ((laws_eqBoard.f k t285 t286 t287 bt305.1 bt305.2.1 bt305.2.2).bind fun t310 => (if t310 = true then ((laws_toBoard.f k a1_0 a1_1 l1_2).bind fun bt311 => ((laws_eqBoard.f k t291 t292 t293 bt311.1 bt311.2.1 bt311.2.2).bind fun t316 => (if t316 = true then ((laws_markBoard.f k t285 t286 t287 1).bind fun bt317 => ((laws_markBoard.f k t291 t292 t293 bt317.1).bind fun bt319 => (if bt319.1 < 0 then (none) else ((laws_eqBoard.f k t297 t298 t299 t278 t279 t280).bind fun t321 => (if t321 = true then ((laws_markBoard.f k t297 t298 t299 1).bind fun bt322 => ((laws_heldBoard.f k t297 t298 bt322.2 1).bind fun t324 => (if t324 < 0 then (none) else (if t324 = bt322.1 then ((laws_toBoard.f k a0_0 a0_1 l0_2).bind fun bt325 => ((laws_toBoard.f k a1_0 a1_1 l1_2).bind fun bt330 => ((impl_JoinBoards.f k bt325.1 bt325.2.1 bt325.2.2 bt330.1 bt330.2.1 bt330.2.2).bind fun bt335 => ((laws_eqBoard.f k bt335.1 bt335.2.1 bt335.2.2.1 t278 t279 t280).bind fun t342 => (if t342 = true then (if bt335.2.2.2 = t283 then ((laws_heldBoard.f k t297 t298 bt322.2 1).bind fun t343 => (if t343 < 0 then (none) else (if t343 = bt322.1 then (some true) else (none)))) else (none)) else (none)))))) else (none))))) else (none)))))) else (none)))) else (none)))) else (none)) else (none)) = some r := H
 have A25 := Aside0.mk A250
 clear A250
 by_cases c26 : t304 = true
 rotate_left
 ·replace c26 := Bool.eq_false_iff.mpr c26
  subst c26
  have H1 : (none) = some r := by rw [if_neg (show ¬ (false = true) by decide)] at H; exact H
  clear H
  have H := H1
  clear H1
  exact absurd H (by simp)
 subst c26
 have H1 : (if t302 = t283 then ((laws_toBoard.f k a0_0 a0_1 l0_2).bind fun bt305 => ((laws_eqBoard.f k t285 t286 t287 bt305.1 bt305.2.1 bt305.2.2).bind fun t310 => (if t310 = true then ((laws_toBoard.f k a1_0 a1_1 l1_2).bind fun bt311 => ((laws_eqBoard.f k t291 t292 t293 bt311.1 bt311.2.1 bt311.2.2).bind fun t316 => (if t316 = true then ((laws_markBoard.f k t285 t286 t287 1).bind fun bt317 => ((laws_markBoard.f k t291 t292 t293 bt317.1).bind fun bt319 => (if bt319.1 < 0 then (none) else ((laws_eqBoard.f k t297 t298 t299 t278 t279 t280).bind fun t321 => (if t321 = true then ((laws_markBoard.f k t297 t298 t299 1).bind fun bt322 => ((laws_heldBoard.f k t297 t298 bt322.2 1).bind fun t324 => (if t324 < 0 then (none) else (if t324 = bt322.1 then ((laws_toBoard.f k a0_0 a0_1 l0_2).bind fun bt325 => ((laws_toBoard.f k a1_0 a1_1 l1_2).bind fun bt330 => ((impl_JoinBoards.f k bt325.1 bt325.2.1 bt325.2.2 bt330.1 bt330.2.1 bt330.2.2).bind fun bt335 => ((laws_eqBoard.f k bt335.1 bt335.2.1 bt335.2.2.1 t278 t279 t280).bind fun t342 => (if t342 = true then (if bt335.2.2.2 = t283 then ((laws_heldBoard.f k t297 t298 bt322.2 1).bind fun t343 => (if t343 < 0 then (none) else (if t343 = bt322.1 then (some true) else (none)))) else (none)) else (none)))))) else (none))))) else (none)))))) else (none)))) else (none)))) else (none)) = some r := by rw [if_pos rfl] at H; exact H
 clear H
 have H := H1
 clear H1
 by_cases c27 : t302 = t283
 rotate_left
 ·rw [if_neg c27] at H
  exact absurd H (by simp)
 rw [if_pos c27] at H
 have c27b0 : (t302 == t283) = true := beq_iff_eq.mpr c27
 have c27b1 : (t302 != t283) = false := bne_eq_false_iff_eq.mpr c27
 clear c27
 replace H := zob H
 obtain ⟨⟨t305, t306, t307⟩, A280, H⟩ := H
 replace H : ((laws_eqBoard.f k t285 t286 t287 t305 t306 t307).bind fun t310 => (if t310 = true then ((laws_toBoard.f k a1_0 a1_1 l1_2).bind fun bt311 => ((laws_eqBoard.f k t291 t292 t293 bt311.1 bt311.2.1 bt311.2.2).bind fun t316 => (if t316 = true then ((laws_markBoard.f k t285 t286 t287 1).bind fun bt317 => ((laws_markBoard.f k t291 t292 t293 bt317.1).bind fun bt319 => (if bt319.1 < 0 then (none) else ((laws_eqBoard.f k t297 t298 t299 t278 t279 t280).bind fun t321 => (if t321 = true then ((laws_markBoard.f k t297 t298 t299 1).bind fun bt322 => ((laws_heldBoard.f k t297 t298 bt322.2 1).bind fun t324 => (if t324 < 0 then (none) else (if t324 = bt322.1 then ((laws_toBoard.f k a0_0 a0_1 l0_2).bind fun bt325 => ((laws_toBoard.f k a1_0 a1_1 l1_2).bind fun bt330 => ((impl_JoinBoards.f k bt325.1 bt325.2.1 bt325.2.2 bt330.1 bt330.2.1 bt330.2.2).bind fun bt335 => ((laws_eqBoard.f k bt335.1 bt335.2.1 bt335.2.2.1 t278 t279 t280).bind fun t342 => (if t342 = true then (if bt335.2.2.2 = t283 then ((laws_heldBoard.f k t297 t298 bt322.2 1).bind fun t343 => (if t343 < 0 then (none) else (if t343 = bt322.1 then (some true) else (none)))) else (none)) else (none)))))) else (none))))) else (none)))))) else (none)))) else (none))) = some r := H
 have A28 := Aside0.mk A280
 clear A280
 replace H := zob H
 obtain ⟨t310, A290, H⟩ := H
 replace H : (if t310 = true then ((laws_toBoard.f k a1_0 a1_1 l1_2).bind fun bt311 => ((laws_eqBoard.f k t291 t292 t293 bt311.1 bt311.2.1 bt311.2.2).bind fun t316 => (if t316 = true then ((laws_markBoard.f k t285 t286 t287 1).bind fun bt317 => ((laws_markBoard.f k t291 t292 t293 bt317.1).bind fun bt319 => (if bt319.1 < 0 then (none) else ((laws_eqBoard.f k t297 t298 t299 t278 t279 t280).bind fun t321 => (if t321 = true then ((laws_markBoard.f k t297 t298 t299 1).bind fun bt322 => ((laws_heldBoard.f k t297 t298 bt322.2 1).bind fun t324 => (if t324 < 0 then (none) else (if t324 = bt322.1 then ((laws_toBoard.f k a0_0 a0_1 l0_2).bind fun bt325 => ((laws_toBoard.f k a1_0 a1_1 l1_2).bind fun bt330 => ((impl_JoinBoards.f k bt325.1 bt325.2.1 bt325.2.2 bt330.1 bt330.2.1 bt330.2.2).bind fun bt335 => ((laws_eqBoard.f k bt335.1 bt335.2.1 bt335.2.2.1 t278 t279 t280).bind fun t342 => (if t342 = true then (if bt335.2.2.2 = t283 then ((laws_heldBoard.f k t297 t298 bt322.2 1).bind fun t343 => (if t343 < 0 then (none) else (if t343 = bt322.1 then (some true) else (none)))) else (none)) else (none)))))) else (none))))) else (none)))))) else (none)))) else (none)) = some r := H
 have A29 := Aside0.mk A290
 clear A290
 by_cases c30 : t310 = true
 rotate_left
 ·replace c30 := Bool.eq_false_iff.mpr c30
  subst c30
  have H1 : (none) = some r := by rw [if_neg (show ¬ (false = true) by decide)] at H; exact H
  clear H
  have H := H1
  clear H1
  exact absurd H (by simp)
 subst c30
 have H1 : ((laws_toBoard.f k a1_0 a1_1 l1_2).bind fun bt311 => ((laws_eqBoard.f k t291 t292 t293 bt311.1 bt311.2.1 bt311.2.2).bind fun t316 => (if t316 = true then ((laws_markBoard.f k t285 t286 t287 1).bind fun bt317 => ((laws_markBoard.f k t291 t292 t293 bt317.1).bind fun bt319 => (if bt319.1 < 0 then (none) else ((laws_eqBoard.f k t297 t298 t299 t278 t279 t280).bind fun t321 => (if t321 = true then ((laws_markBoard.f k t297 t298 t299 1).bind fun bt322 => ((laws_heldBoard.f k t297 t298 bt322.2 1).bind fun t324 => (if t324 < 0 then (none) else (if t324 = bt322.1 then ((laws_toBoard.f k a0_0 a0_1 l0_2).bind fun bt325 => ((laws_toBoard.f k a1_0 a1_1 l1_2).bind fun bt330 => ((impl_JoinBoards.f k bt325.1 bt325.2.1 bt325.2.2 bt330.1 bt330.2.1 bt330.2.2).bind fun bt335 => ((laws_eqBoard.f k bt335.1 bt335.2.1 bt335.2.2.1 t278 t279 t280).bind fun t342 => (if t342 = true then (if bt335.2.2.2 = t283 then ((laws_heldBoard.f k t297 t298 bt322.2 1).bind fun t343 => (if t343 < 0 then (none) else (if t343 = bt322.1 then (some true) else (none)))) else (none)) else (none)))))) else (none))))) else (none)))))) else (none)))) = some r := by rw [if_pos rfl] at H; exact H
 clear H
 have H := H1
 clear H1
 replace H := zob H
 obtain ⟨⟨t311, t312, t313⟩, A310, H⟩ := H
 replace H : ((laws_eqBoard.f k t291 t292 t293 t311 t312 t313).bind fun t316 => (if t316 = true then ((laws_markBoard.f k t285 t286 t287 1).bind fun bt317 => ((laws_markBoard.f k t291 t292 t293 bt317.1).bind fun bt319 => (if bt319.1 < 0 then (none) else ((laws_eqBoard.f k t297 t298 t299 t278 t279 t280).bind fun t321 => (if t321 = true then ((laws_markBoard.f k t297 t298 t299 1).bind fun bt322 => ((laws_heldBoard.f k t297 t298 bt322.2 1).bind fun t324 => (if t324 < 0 then (none) else (if t324 = bt322.1 then ((laws_toBoard.f k a0_0 a0_1 l0_2).bind fun bt325 => ((laws_toBoard.f k a1_0 a1_1 l1_2).bind fun bt330 => ((impl_JoinBoards.f k bt325.1 bt325.2.1 bt325.2.2 bt330.1 bt330.2.1 bt330.2.2).bind fun bt335 => ((laws_eqBoard.f k bt335.1 bt335.2.1 bt335.2.2.1 t278 t279 t280).bind fun t342 => (if t342 = true then (if bt335.2.2.2 = t283 then ((laws_heldBoard.f k t297 t298 bt322.2 1).bind fun t343 => (if t343 < 0 then (none) else (if t343 = bt322.1 then (some true) else (none)))) else (none)) else (none)))))) else (none))))) else (none)))))) else (none))) = some r := H
 have A31 := Aside0.mk A310
 clear A310
 replace H := zob H
 obtain ⟨t316, A320, H⟩ := H
 replace H : (if t316 = true then ((laws_markBoard.f k t285 t286 t287 1).bind fun bt317 => ((laws_markBoard.f k t291 t292 t293 bt317.1).bind fun bt319 => (if bt319.1 < 0 then (none) else ((laws_eqBoard.f k t297 t298 t299 t278 t279 t280).bind fun t321 => (if t321 = true then ((laws_markBoard.f k t297 t298 t299 1).bind fun bt322 => ((laws_heldBoard.f k t297 t298 bt322.2 1).bind fun t324 => (if t324 < 0 then (none) else (if t324 = bt322.1 then ((laws_toBoard.f k a0_0 a0_1 l0_2).bind fun bt325 => ((laws_toBoard.f k a1_0 a1_1 l1_2).bind fun bt330 => ((impl_JoinBoards.f k bt325.1 bt325.2.1 bt325.2.2 bt330.1 bt330.2.1 bt330.2.2).bind fun bt335 => ((laws_eqBoard.f k bt335.1 bt335.2.1 bt335.2.2.1 t278 t279 t280).bind fun t342 => (if t342 = true then (if bt335.2.2.2 = t283 then ((laws_heldBoard.f k t297 t298 bt322.2 1).bind fun t343 => (if t343 < 0 then (none) else (if t343 = bt322.1 then (some true) else (none)))) else (none)) else (none)))))) else (none))))) else (none)))))) else (none)) = some r := H
 have A32 := Aside0.mk A320
 clear A320
 by_cases c33 : t316 = true
 rotate_left
 ·replace c33 := Bool.eq_false_iff.mpr c33
  subst c33
  have H1 : (none) = some r := by rw [if_neg (show ¬ (false = true) by decide)] at H; exact H
  clear H
  have H := H1
  clear H1
  exact absurd H (by simp)
 subst c33
 have H1 : ((laws_markBoard.f k t285 t286 t287 1).bind fun bt317 => ((laws_markBoard.f k t291 t292 t293 bt317.1).bind fun bt319 => (if bt319.1 < 0 then (none) else ((laws_eqBoard.f k t297 t298 t299 t278 t279 t280).bind fun t321 => (if t321 = true then ((laws_markBoard.f k t297 t298 t299 1).bind fun bt322 => ((laws_heldBoard.f k t297 t298 bt322.2 1).bind fun t324 => (if t324 < 0 then (none) else (if t324 = bt322.1 then ((laws_toBoard.f k a0_0 a0_1 l0_2).bind fun bt325 => ((laws_toBoard.f k a1_0 a1_1 l1_2).bind fun bt330 => ((impl_JoinBoards.f k bt325.1 bt325.2.1 bt325.2.2 bt330.1 bt330.2.1 bt330.2.2).bind fun bt335 => ((laws_eqBoard.f k bt335.1 bt335.2.1 bt335.2.2.1 t278 t279 t280).bind fun t342 => (if t342 = true then (if bt335.2.2.2 = t283 then ((laws_heldBoard.f k t297 t298 bt322.2 1).bind fun t343 => (if t343 < 0 then (none) else (if t343 = bt322.1 then (some true) else (none)))) else (none)) else (none)))))) else (none))))) else (none)))))) = some r := by rw [if_pos rfl] at H; exact H
 clear H
 have H := H1
 clear H1
 replace H := zob H
 obtain ⟨⟨t317, t318⟩, A340, H⟩ := H
 replace H : ((laws_markBoard.f k t291 t292 t293 t317).bind fun bt319 => (if bt319.1 < 0 then (none) else ((laws_eqBoard.f k t297 t298 t299 t278 t279 t280).bind fun t321 => (if t321 = true then ((laws_markBoard.f k t297 t298 t299 1).bind fun bt322 => ((laws_heldBoard.f k t297 t298 bt322.2 1).bind fun t324 => (if t324 < 0 then (none) else (if t324 = bt322.1 then ((laws_toBoard.f k a0_0 a0_1 l0_2).bind fun bt325 => ((laws_toBoard.f k a1_0 a1_1 l1_2).bind fun bt330 => ((impl_JoinBoards.f k bt325.1 bt325.2.1 bt325.2.2 bt330.1 bt330.2.1 bt330.2.2).bind fun bt335 => ((laws_eqBoard.f k bt335.1 bt335.2.1 bt335.2.2.1 t278 t279 t280).bind fun t342 => (if t342 = true then (if bt335.2.2.2 = t283 then ((laws_heldBoard.f k t297 t298 bt322.2 1).bind fun t343 => (if t343 < 0 then (none) else (if t343 = bt322.1 then (some true) else (none)))) else (none)) else (none)))))) else (none))))) else (none))))) = some r := H
 have A34 := Aside0.mk A340
 clear A340
 replace H := zob H
 obtain ⟨⟨t319, t320⟩, A350, H⟩ := H
 replace H : (if t319 < 0 then (none) else ((laws_eqBoard.f k t297 t298 t299 t278 t279 t280).bind fun t321 => (if t321 = true then ((laws_markBoard.f k t297 t298 t299 1).bind fun bt322 => ((laws_heldBoard.f k t297 t298 bt322.2 1).bind fun t324 => (if t324 < 0 then (none) else (if t324 = bt322.1 then ((laws_toBoard.f k a0_0 a0_1 l0_2).bind fun bt325 => ((laws_toBoard.f k a1_0 a1_1 l1_2).bind fun bt330 => ((impl_JoinBoards.f k bt325.1 bt325.2.1 bt325.2.2 bt330.1 bt330.2.1 bt330.2.2).bind fun bt335 => ((laws_eqBoard.f k bt335.1 bt335.2.1 bt335.2.2.1 t278 t279 t280).bind fun t342 => (if t342 = true then (if bt335.2.2.2 = t283 then ((laws_heldBoard.f k t297 t298 bt322.2 1).bind fun t343 => (if t343 < 0 then (none) else (if t343 = bt322.1 then (some true) else (none)))) else (none)) else (none)))))) else (none))))) else (none)))) = some r := H
 have A35 := Aside0.mk A350
 clear A350
 by_cases c36 : t319 < 0
 ·rw [if_pos c36] at H
  exact absurd H (by simp)
 rw [if_neg c36] at H
 have c36b0 : decide (t319 < 0) = false := decide_eq_false c36
 clear c36
 replace H := zob H
 obtain ⟨t321, A370, H⟩ := H
 replace H : (if t321 = true then ((laws_markBoard.f k t297 t298 t299 1).bind fun bt322 => ((laws_heldBoard.f k t297 t298 bt322.2 1).bind fun t324 => (if t324 < 0 then (none) else (if t324 = bt322.1 then ((laws_toBoard.f k a0_0 a0_1 l0_2).bind fun bt325 => ((laws_toBoard.f k a1_0 a1_1 l1_2).bind fun bt330 => ((impl_JoinBoards.f k bt325.1 bt325.2.1 bt325.2.2 bt330.1 bt330.2.1 bt330.2.2).bind fun bt335 => ((laws_eqBoard.f k bt335.1 bt335.2.1 bt335.2.2.1 t278 t279 t280).bind fun t342 => (if t342 = true then (if bt335.2.2.2 = t283 then ((laws_heldBoard.f k t297 t298 bt322.2 1).bind fun t343 => (if t343 < 0 then (none) else (if t343 = bt322.1 then (some true) else (none)))) else (none)) else (none)))))) else (none))))) else (none)) = some r := H
 have A37 := Aside0.mk A370
 clear A370
 by_cases c38 : t321 = true
 rotate_left
 ·replace c38 := Bool.eq_false_iff.mpr c38
  subst c38
  have H1 : (none) = some r := by rw [if_neg (show ¬ (false = true) by decide)] at H; exact H
  clear H
  have H := H1
  clear H1
  exact absurd H (by simp)
 subst c38
 have H1 : ((laws_markBoard.f k t297 t298 t299 1).bind fun bt322 => ((laws_heldBoard.f k t297 t298 bt322.2 1).bind fun t324 => (if t324 < 0 then (none) else (if t324 = bt322.1 then ((laws_toBoard.f k a0_0 a0_1 l0_2).bind fun bt325 => ((laws_toBoard.f k a1_0 a1_1 l1_2).bind fun bt330 => ((impl_JoinBoards.f k bt325.1 bt325.2.1 bt325.2.2 bt330.1 bt330.2.1 bt330.2.2).bind fun bt335 => ((laws_eqBoard.f k bt335.1 bt335.2.1 bt335.2.2.1 t278 t279 t280).bind fun t342 => (if t342 = true then (if bt335.2.2.2 = t283 then ((laws_heldBoard.f k t297 t298 bt322.2 1).bind fun t343 => (if t343 < 0 then (none) else (if t343 = bt322.1 then (some true) else (none)))) else (none)) else (none)))))) else (none))))) = some r := by rw [if_pos rfl] at H; exact H
 clear H
 have H := H1
 clear H1
 replace H := zob H
 obtain ⟨⟨t322, t323⟩, A390, H⟩ := H
 replace H : ((laws_heldBoard.f k t297 t298 t323 1).bind fun t324 => (if t324 < 0 then (none) else (if t324 = t322 then ((laws_toBoard.f k a0_0 a0_1 l0_2).bind fun bt325 => ((laws_toBoard.f k a1_0 a1_1 l1_2).bind fun bt330 => ((impl_JoinBoards.f k bt325.1 bt325.2.1 bt325.2.2 bt330.1 bt330.2.1 bt330.2.2).bind fun bt335 => ((laws_eqBoard.f k bt335.1 bt335.2.1 bt335.2.2.1 t278 t279 t280).bind fun t342 => (if t342 = true then (if bt335.2.2.2 = t283 then ((laws_heldBoard.f k t297 t298 t323 1).bind fun t343 => (if t343 < 0 then (none) else (if t343 = t322 then (some true) else (none)))) else (none)) else (none)))))) else (none)))) = some r := H
 have A39 := Aside0.mk A390
 clear A390
 replace H := zob H
 obtain ⟨t324, A400, H⟩ := H
 replace H : (if t324 < 0 then (none) else (if t324 = t322 then ((laws_toBoard.f k a0_0 a0_1 l0_2).bind fun bt325 => ((laws_toBoard.f k a1_0 a1_1 l1_2).bind fun bt330 => ((impl_JoinBoards.f k bt325.1 bt325.2.1 bt325.2.2 bt330.1 bt330.2.1 bt330.2.2).bind fun bt335 => ((laws_eqBoard.f k bt335.1 bt335.2.1 bt335.2.2.1 t278 t279 t280).bind fun t342 => (if t342 = true then (if bt335.2.2.2 = t283 then ((laws_heldBoard.f k t297 t298 t323 1).bind fun t343 => (if t343 < 0 then (none) else (if t343 = t322 then (some true) else (none)))) else (none)) else (none)))))) else (none))) = some r := H
 have A40 := Aside0.mk A400
 clear A400
 by_cases c41 : t324 < 0
 ·rw [if_pos c41] at H
  exact absurd H (by simp)
 rw [if_neg c41] at H
 have c41b0 : decide (t324 < 0) = false := decide_eq_false c41
 clear c41
 by_cases c42 : t324 = t322
 rotate_left
 ·rw [if_neg c42] at H
  exact absurd H (by simp)
 rw [if_pos c42] at H
 have c42b0 : (t324 == t322) = true := beq_iff_eq.mpr c42
 have c42b1 : (t324 != t322) = false := bne_eq_false_iff_eq.mpr c42
 clear c42
 replace H := zob H
 obtain ⟨⟨t325, t326, t327⟩, A430, H⟩ := H
 replace H : ((laws_toBoard.f k a1_0 a1_1 l1_2).bind fun bt330 => ((impl_JoinBoards.f k t325 t326 t327 bt330.1 bt330.2.1 bt330.2.2).bind fun bt335 => ((laws_eqBoard.f k bt335.1 bt335.2.1 bt335.2.2.1 t278 t279 t280).bind fun t342 => (if t342 = true then (if bt335.2.2.2 = t283 then ((laws_heldBoard.f k t297 t298 t323 1).bind fun t343 => (if t343 < 0 then (none) else (if t343 = t322 then (some true) else (none)))) else (none)) else (none))))) = some r := H
 have A43 := Aside0.mk A430
 clear A430
 replace H := zob H
 obtain ⟨⟨t330, t331, t332⟩, A440, H⟩ := H
 replace H : ((impl_JoinBoards.f k t325 t326 t327 t330 t331 t332).bind fun bt335 => ((laws_eqBoard.f k bt335.1 bt335.2.1 bt335.2.2.1 t278 t279 t280).bind fun t342 => (if t342 = true then (if bt335.2.2.2 = t283 then ((laws_heldBoard.f k t297 t298 t323 1).bind fun t343 => (if t343 < 0 then (none) else (if t343 = t322 then (some true) else (none)))) else (none)) else (none)))) = some r := H
 have A44 := Aside0.mk A440
 clear A440
 replace H := zob H
 obtain ⟨⟨t335, t336, t337, t340⟩, A450, H⟩ := H
 replace H : ((laws_eqBoard.f k t335 t336 t337 t278 t279 t280).bind fun t342 => (if t342 = true then (if t340 = t283 then ((laws_heldBoard.f k t297 t298 t323 1).bind fun t343 => (if t343 < 0 then (none) else (if t343 = t322 then (some true) else (none)))) else (none)) else (none))) = some r := H
 have A45 := Aside0.mk A450
 clear A450
 replace H := zob H
 obtain ⟨t342, A460, H⟩ := H
 replace H : (if t342 = true then (if t340 = t283 then ((laws_heldBoard.f k t297 t298 t323 1).bind fun t343 => (if t343 < 0 then (none) else (if t343 = t322 then (some true) else (none)))) else (none)) else (none)) = some r := H
 have A46 := Aside0.mk A460
 clear A460
 by_cases c47 : t342 = true
 rotate_left
 ·replace c47 := Bool.eq_false_iff.mpr c47
  subst c47
  have H1 : (none) = some r := by rw [if_neg (show ¬ (false = true) by decide)] at H; exact H
  clear H
  have H := H1
  clear H1
  exact absurd H (by simp)
 subst c47
 have H1 : (if t340 = t283 then ((laws_heldBoard.f k t297 t298 t323 1).bind fun t343 => (if t343 < 0 then (none) else (if t343 = t322 then (some true) else (none)))) else (none)) = some r := by rw [if_pos rfl] at H; exact H
 clear H
 have H := H1
 clear H1
 by_cases c48 : t340 = t283
 rotate_left
 ·rw [if_neg c48] at H
  exact absurd H (by simp)
 rw [if_pos c48] at H
 have c48b0 : (t340 == t283) = true := beq_iff_eq.mpr c48
 have c48b1 : (t340 != t283) = false := bne_eq_false_iff_eq.mpr c48
 clear c48
 replace H := zob H
 obtain ⟨t343, A490, H⟩ := H
 replace H : (if t343 < 0 then (none) else (if t343 = t322 then (some true) else (none))) = some r := H
 have A49 := Aside0.mk A490
 clear A490
 by_cases c50 : t343 < 0
 ·rw [if_pos c50] at H
  exact absurd H (by simp)
 rw [if_neg c50] at H
 have c50b0 : decide (t343 < 0) = false := decide_eq_false c50
 clear c50
 by_cases c51 : t343 = t322
 rotate_left
 ·rw [if_neg c51] at H
  exact absurd H (by simp)
 rw [if_pos c51] at H
 have c51b0 : (t343 == t322) = true := beq_iff_eq.mpr c51
 have c51b1 : (t343 != t322) = false := bne_eq_false_iff_eq.mpr c51
 clear c51
 obtain rfl := Option.some.inj H
 go_enter Try.func17, Try.ntmps17
 try go_wp2_with (first | ((with_reducible refine gate_dst (N := 2) rfl ?_); refine zbx 2 #[.int .i8 a0_0, .int .i8 a0_1, .slice A0_2 l0_2.length c0_2] 25 ?_; intro gb264 hg w52 hbox hb; have n_ : _ ∧ _ ∧ _ ∧ _ := ⟨zb HB hb, Aside0.mk (hbox), zg HB hg, zg HB hg⟩; clear HB; obtain ⟨HB, BK264, GW264, GE264⟩ := n_; clear hb hbox hg) | ((with_reducible refine gate_dst (N := 3) rfl ?_); refine zbx 3 #[.int .i8 a1_0, .int .i8 a1_1, .slice A1_2 l1_2.length c1_2] 25 ?_; intro gb265 hg w53 hbox hb; have n_ : _ ∧ _ ∧ _ ∧ _ ∧ _ ∧ _ ∧ _ := ⟨zk BK264 hb, zbs hb, Aside0.mk (hbox), zg HB hg, zg HB hg, zn1 BK264 hg, zn2 BK264 hg⟩; clear BK264 HB; obtain ⟨BK264, HB, BK265, GW265, GE265, NB264_265, NB265_264⟩ := n_; clear hb hbox hg; have hnb54 := NB264_265.out; have hnc54 := NB265_264.out; obtain ⟨z55_0, z55_1, z55_2, y55_0, y55_1, y55_2⟩ := zB3 BK264) | ((with_reducible refine gate_callee (f := 40) rfl ?_); refine goesL_ (some 19) rfl rfl Try.func40 (by kernel_rfl) rfl #[.agg #[.int .i8 a0_0, .int .i8 a0_1, .slice A0_2 l0_2.length c0_2], .int .i64 1048576] rfl zm ?_; (with_reducible refine (laws_szBoard.calls a0_0 a0_1 _ _ l0_2 1048576 t266 _ ?side1 ?side2 A3.out).mono ?_); (case side1 => exact zcc HB HR0_2.out); (case side2 => exact HC0_2.out); rintro e w56 ⟨rfl, hb⟩; refine ⟨_, rfl, ?_⟩; have n_ : _ ∧ _ ∧ _ := ⟨zk BK264 hb, zk BK265 hb, zbs hb⟩; clear BK264 BK265 HB; obtain ⟨BK264, BK265, HB⟩ := n_; (try clear hb); (try clear hb2); (try clear hk); (try clear hi); obtain ⟨z57_0, z57_1, z57_2, y57_0, y57_1, y57_2⟩ := zB3 BK265) | ((with_reducible refine gate_callee (f := 40) rfl ?_); refine goesL_ (some 24) rfl rfl Try.func40 (by kernel_rfl) rfl #[.agg #[.int .i8 a1_0, .int .i8 a1_1, .slice A1_2 l1_2.length c1_2], .int .i64 t266] rfl zm ?_; (with_reducible refine (laws_szBoard.calls a1_0 a1_1 _ _ l1_2 t266 t267 _ ?side1 ?side2 A10.out).mono ?_); (case side1 => exact zcc HB HR1_2.out); (case side2 => exact HC1_2.out); rintro e w58 ⟨rfl, hb⟩; refine ⟨_, rfl, ?_⟩; have n_ : _ ∧ _ ∧ _ := ⟨zk BK264 hb, zk BK265 hb, zbs hb⟩; clear BK264 BK265 HB; obtain ⟨BK264, BK265, HB⟩ := n_; (try clear hb); (try clear hb2); (try clear hk); (try clear hi)))
 have n_ : _ ∧ _ ∧ _ := ⟨Aside0.mk (blk_drew BK264.out), Aside0.mk (blk_drew BK265.out), Aside0.mk (below_drew1 HB.out)⟩
 clear BK264 BK265 HB
 obtain ⟨BK264, BK265, HB⟩ := n_
 refine start_ (n := 11) (S := fun w' => w'.cell? ⟨gb264, 0, none⟩ = some (.int .i8 a0_0) ∧ w'.cell? ⟨gb264, 1, none⟩ = some (.int .i8 a0_1) ∧ w'.cell? ⟨gb264, 2, none⟩ = some (.slice A0_2 l0_2.length c0_2) ∧ w'.cell? ⟨gb265, 0, none⟩ = some (.int .i8 a1_0) ∧ w'.cell? ⟨gb265, 1, none⟩ = some (.int .i8 a1_1) ∧ w'.cell? ⟨gb265, 2, none⟩ = some (.slice A1_2 l1_2.length c1_2)) (ds := []) (zq 11 0) (by kernel_rfl) rfl rfl ⟨(blk_cell BK264.out 0).trans rfl, (blk_cell BK264.out 1).trans rfl, (blk_cell BK264.out 2).trans rfl, (blk_cell BK265.out 0).trans rfl, (blk_cell BK265.out 1).trans rfl, (blk_cell BK265.out 2).trans rfl⟩ (fun hHeld => ?_); refine with_tabW laws_FnExactJoinBoards.tab8 laws_FnExactJoinBoards.bits8 (fun HT_ HW_ => ?_)
 generalize w58.drew = w59 at BK264 BK265 HB hHeld ⊢
 refine ztk 0 (some 28) (zq 11 1) HT_ HW_ rfl hHeld (Or.inl ⟨by rfl, by (rintro w' ⟨s0, s1, s2, s3, s4, s5⟩; go_simp; with_reducible rfl)⟩) ?_
 refine ztk 2 (some 30) (zq 11 5) HT_ HW_ rfl hHeld (Or.inl ⟨by rfl, by (rintro w' ⟨s0, s1, s2, s3, s4, s5⟩; go_simp; with_reducible rfl)⟩) ?_
 refine join_ (σ := Value × Value × Value × Nat) 2 (zq 11 511) (fun s_ => [(29, .agg #[.int .i8 t268, .int .i8 t269, s_.1]), (31, .agg #[.int .i8 t273, .int .i8 t274, s_.2.1]), (32, .tuple #[.agg #[.int .i8 t278, .int .i8 t279, s_.2.2.1], .int .i64 t283]), (6, .pointer (some ⟨s_.2.2.2, 0, none⟩)), (27, .tuple #[.agg #[.int .i8 t278, .int .i8 t279, s_.2.2.1], .int .i64 t283]), (33, .agg #[.int .i8 t278, .int .i8 t279, s_.2.2.1]), (34, .int .i64 t283)]) (fun s_ w' => (w'.cell? ⟨gb264, 0, none⟩ = some (.int .i8 a0_0) ∧ w'.cell? ⟨gb264, 1, none⟩ = some (.int .i8 a0_1) ∧ w'.cell? ⟨gb264, 2, none⟩ = some (.slice A0_2 l0_2.length c0_2) ∧ w'.cell? ⟨gb265, 0, none⟩ = some (.int .i8 a1_0) ∧ w'.cell? ⟨gb265, 1, none⟩ = some (.int .i8 a1_1) ∧ w'.cell? ⟨gb265, 2, none⟩ = some (.slice A1_2 l1_2.length c1_2)) ∧ (Kd.R k91 91 w' w.heap.size (fun k_ => some k_ ≠ (s_.2.1 : Value).ownBlock ∧ some k_ ≠ (s_.2.2.1 : Value).ownBlock) s_.1 t270) ∧ (Kd.R k91 91 w' w.heap.size (fun k_ => some k_ ≠ (s_.1 : Value).ownBlock ∧ some k_ ≠ (s_.2.2.1 : Value).ownBlock) s_.2.1 t275) ∧ (Kd.R k91 91 w' w.heap.size (fun k_ => some k_ ≠ (s_.1 : Value).ownBlock ∧ some k_ ≠ (s_.2.1 : Value).ownBlock) s_.2.2.1 t280) ∧ (w'.heap[gb264]? = some (.cells #[.int .i8 a0_0, .int .i8 a0_1, .slice A0_2 l0_2.length c0_2] 25 (0, 0))) ∧ (w'.heap[gb265]? = some (.cells #[.int .i8 a1_0, .int .i8 a1_1, .slice A1_2 l1_2.length c1_2] 25 (0, 0))) ∧ (w'.heap[s_.2.2.2]? = some (.cells #[.int .i8 0, .int .i8 0, .slice none 0 0] 37 (0, 0))) ∧ (w.heap.size ≤ s_.2.2.2) ∧ (w.heap.size ≤ s_.2.2.2) ∧ (gb264 ≠ s_.2.2.2) ∧ (s_.2.2.2 ≠ gb264) ∧ (gb265 ≠ s_.2.2.2) ∧ (s_.2.2.2 ≠ gb265) ∧ (Below w.heap.size w w')) ?_ ?_
 rotate_left
 ·intro hCont
  refine two_ (i := 1) (j := 8) (Ni := some 29) (Nj := some 6) (zq 11 7) (zq 11 261) rfl rfl rfl rfl (two_of HT_.out (by kernel_rfl)) (by decide) (by decide) (fun K hK => ?_) (fun K hK => ?_)
  rotate_left
  ·skip
   refine box_step ?hg (N := 6) ?hd (cs := #[.int .i8 0, .int .i8 0, .slice none 0 0]) (t := 37) ?hr ?_; (case hd => rfl); (case hg => rfl); (case hr => exact zgs)
   intro gb284 hg w60 hbox hb
   have n_ : _ ∧ _ ∧ _ ∧ _ ∧ _ ∧ _ ∧ _ ∧ _ ∧ _ ∧ _ := ⟨zk BK264 hb, zk BK265 hb, zbs hb, Aside0.mk (hbox), zg HB hg, zg HB hg, zn1 BK264 hg, zn2 BK264 hg, zn1 BK265 hg, zn2 BK265 hg⟩
   clear BK264 BK265 HB
   obtain ⟨BK264, BK265, HB, BK284, GW284, GE284, NB264_284, NB284_264, NB265_284, NB284_265⟩ := n_
   clear hb hbox hg
   refine hK.out _ _ ⟨(blk_cell BK264.out 0).trans rfl, (blk_cell BK264.out 1).trans rfl, (blk_cell BK264.out 2).trans rfl, (blk_cell BK265.out 0).trans rfl, (blk_cell BK265.out 1).trans rfl, (blk_cell BK265.out 2).trans rfl⟩ (fun hHeld => ?_)
   clear hK K
   refine norm_ (a' := ?_) ?_ ?_
   rotate_left
   ·show Act.put _ (some 6) _ = _
    exact zap
   refine one_ (i := 1) (N := some 29) (zq 11 263) rfl rfl (one_of HT_.out (by kernel_rfl)) (by decide) (fun K hK => ?_)
   refine goes_ Try.func42 (by kernel_rfl) rfl #[.agg #[.int .i8 a0_0, .int .i8 a0_1, .slice A0_2 l0_2.length c0_2]] (by rfl) rfl rfl zm ?_
   with_reducible refine (laws_toBoard.calls k a0_0 a0_1 _ _ l0_2 t268 t269 t270 _ ?side1 ?side2 A19.out).mono ?_
   (case side1 => exact zcc HB HR0_2.out)
   (case side2 => exact HC0_2.out)
   rintro e w61 ⟨v271, rfl, ho0, hb⟩
   refine ⟨_, rfl, ?_⟩
   have n_ : _ ∧ _ ∧ _ ∧ _ ∧ _ := ⟨Aside0.mk (Kd.R_lower ho0 (zz HB)), zk BK264 hb, zk BK265 hb, zk BK284 hb, zbs hb⟩
   clear BK264 BK265 BK284 HB
   obtain ⟨HO272, BK264, BK265, BK284, HB⟩ := n_
   (try clear hb)
   (try clear hb2)
   (try clear hk)
   (try clear hi)
   (try clear ho0)
   refine hK.out _ _ ⟨(blk_cell BK264.out 0).trans rfl, (blk_cell BK264.out 1).trans rfl, (blk_cell BK264.out 2).trans rfl, (blk_cell BK265.out 0).trans rfl, (blk_cell BK265.out 1).trans rfl, (blk_cell BK265.out 2).trans rfl⟩ (fun hHeld => ?_)
   clear hK K
   refine norm_ (a' := ?_) ?_ ?_
   rotate_left
   ·show Act.put _ (some 29) _ = _
    exact zap
   refine one_ (i := 3) (N := some 31) (zq 11 271) rfl rfl (one_of HT_.out (by kernel_rfl)) (by decide) (fun K hK => ?_)
   refine goes_ Try.func42 (by kernel_rfl) rfl #[.agg #[.int .i8 a1_0, .int .i8 a1_1, .slice A1_2 l1_2.length c1_2]] (by rfl) rfl rfl zm ?_
   with_reducible refine (laws_toBoard.calls k a1_0 a1_1 _ _ l1_2 t273 t274 t275 _ ?side1 ?side2 A20.out).mono ?_
   (case side1 => exact zcc HB HR1_2.out)
   (case side2 => exact HC1_2.out)
   rintro e w62 ⟨v276, rfl, ho0, hb⟩
   refine ⟨_, rfl, ?_⟩
   have n_ : _ ∧ _ ∧ _ ∧ _ ∧ _ ∧ _ := ⟨Aside0.mk (Kd.R_elder' (ze HO272).out (Kd.R_base ho0) hb), Aside0.mk (Kd.R_lower (Kd.R_new' ho0 (Kd.R_lt (ze HO272).out)) (zz HB)), zk BK264 hb, zk BK265 hb, zk BK284 hb, zbs hb⟩
   clear HO272 BK264 BK265 BK284 HB
   obtain ⟨HO272, HO277, BK264, BK265, BK284, HB⟩ := n_
   (try clear hb)
   (try clear hb2)
   (try clear hk)
   (try clear hi)
   (try clear ho0)
   obtain ⟨Ao63, co63, eo63⟩ := Kd.R_slice HO272.out
   (first | subst eo63 | (injection eo63 with f1_ f2_ f3_; have f4_ := f1_.symm; have f5_ := f3_.symm; clear f1_ f2_ f3_; subst f4_; subst f5_))
   obtain ⟨Ao64, co64, eo64⟩ := Kd.R_slice HO277.out
   (first | subst eo64 | (injection eo64 with f1_ f2_ f3_; have f4_ := f1_.symm; have f5_ := f3_.symm; clear f1_ f2_ f3_; subst f4_; subst f5_))
   refine hK.out _ _ ⟨(blk_cell BK264.out 0).trans rfl, (blk_cell BK264.out 1).trans rfl, (blk_cell BK264.out 2).trans rfl, (blk_cell BK265.out 0).trans rfl, (blk_cell BK265.out 1).trans rfl, (blk_cell BK265.out 2).trans rfl⟩ (fun hHeld => ?_)
   clear hK K
   refine norm_ (a' := ?_) ?_ ?_
   rotate_left
   ·show Act.put _ (some 31) _ = _
    exact zap
   refine one_ (i := 4) (N := some 32) (zq 11 287) rfl rfl (one_of HT_.out (by kernel_rfl)) (by decide) (fun K hK => ?_)
   refine goes_ Try.func71 (by kernel_rfl) rfl #[.agg #[.int .i8 t268, .int .i8 t269, .slice Ao63 t270.length co63], .agg #[.int .i8 t273, .int .i8 t274, .slice Ao64 t275.length co64]] (by rfl) rfl rfl zm ?_
   with_reducible refine (spec_JoinBoards.calls k t268 t269 _ _ t270 t273 t274 _ _ t275 t278 t279 t280 t283 _ ?side1 ?side2 ?side3 ?side4 A21.out).mono ?_
   (case side1 => exact zrc HO272)
   (case side2 => exact (Kd.R_reads' HO272.out).2.1)
   (case side3 => exact zrc HO277)
   (case side4 => exact (Kd.R_reads' HO277.out).2.1)
   rintro e w65 ⟨v281, rfl, ho0, hb⟩
   refine ⟨_, rfl, ?_⟩
   have n_ : _ ∧ _ ∧ _ ∧ _ ∧ _ ∧ _ ∧ _ := ⟨Aside0.mk (Kd.R_elder' (ze HO272).out (Kd.R_base ho0) hb), Aside0.mk (Kd.R_elder' (ze HO277).out (Kd.R_base ho0) hb), Aside0.mk (Kd.R_lower (Kd.R_new' (Kd.R_new' ho0 (Kd.R_lt (ze HO272).out)) (Kd.R_lt (ze HO277).out)) (zz HB)), zk BK264 hb, zk BK265 hb, zk BK284 hb, zbs hb⟩
   clear HO272 HO277 BK264 BK265 BK284 HB
   obtain ⟨HO272, HO277, HO282, BK264, BK265, BK284, HB⟩ := n_
   (try clear hb)
   (try clear hb2)
   (try clear hk)
   (try clear hi)
   (try clear ho0)
   refine hK.out _ _ ⟨(blk_cell BK264.out 0).trans rfl, (blk_cell BK264.out 1).trans rfl, (blk_cell BK264.out 2).trans rfl, (blk_cell BK265.out 0).trans rfl, (blk_cell BK265.out 1).trans rfl, (blk_cell BK265.out 2).trans rfl⟩ (fun hHeld => ?_)
   clear hK K
   refine norm_ (a' := ?_) ?_ ?_
   rotate_left
   ·show Act.put _ (some 32) _ = _
    exact zap
   refine zpu 5 (some 27) (zq 11 319) HT_ ?_
   refine zpu 6 (some 33) (zq 11 383) HT_ ?_
   refine zpu 7 (some 34) (zq 11 511) HT_ ?_
   exact norm_ (by simp only [putAll, Act.put, List.setIfInBounds_toArray, List.set_cons_zero, List.set_cons_succ]) (hCont (.slice Ao63 t270.length co63, .slice Ao64 t275.length co64, v281, gb284) _ ⟨hHeld, (by (with_reducible repeat (first | apply Kd.R_alloc | apply Kd.R_drewN | apply Kd.R_drew)); exact Kd.R_mono HO272.out (fun _ hk => ⟨hk.1.2, hk.2⟩)), (by (with_reducible repeat (first | apply Kd.R_alloc | apply Kd.R_drewN | apply Kd.R_drew)); exact Kd.R_mono HO277.out (fun _ hk => ⟨hk.1.2, hk.2⟩)), (by (with_reducible repeat (first | apply Kd.R_alloc | apply Kd.R_drewN | apply Kd.R_drew)); exact Kd.R_mono HO282.out (fun _ hk => ⟨hk.1.2, hk.2⟩)), (zh BK264).out, (zh BK265).out, (zh BK284).out, GW284.out, GE284.out, NB264_284.out, NB284_264.out, NB265_284.out, NB284_265.out, zbo⟩)
  skip
  refine goes_ Try.func42 (by kernel_rfl) rfl #[.agg #[.int .i8 a0_0, .int .i8 a0_1, .slice A0_2 l0_2.length c0_2]] (by rfl) rfl rfl zm ?_
  with_reducible refine (laws_toBoard.calls k a0_0 a0_1 _ _ l0_2 t268 t269 t270 _ ?side1 ?side2 A19.out).mono ?_
  (case side1 => exact zcc HB HR0_2.out)
  (case side2 => exact HC0_2.out)
  rintro e w60 ⟨v271, rfl, ho0, hb⟩
  refine ⟨_, rfl, ?_⟩
  have n_ : _ ∧ _ ∧ _ ∧ _ := ⟨Aside0.mk (Kd.R_lower ho0 (zz HB)), zk BK264 hb, zk BK265 hb, zbs hb⟩
  clear BK264 BK265 HB
  obtain ⟨HO272, BK264, BK265, HB⟩ := n_
  (try clear hb)
  (try clear hb2)
  (try clear hk)
  (try clear hi)
  (try clear ho0)
  refine hK.out _ _ ⟨(blk_cell BK264.out 0).trans rfl, (blk_cell BK264.out 1).trans rfl, (blk_cell BK264.out 2).trans rfl, (blk_cell BK265.out 0).trans rfl, (blk_cell BK265.out 1).trans rfl, (blk_cell BK265.out 2).trans rfl⟩ (fun hHeld => ?_)
  clear hK K
  refine norm_ (a' := ?_) ?_ ?_
  rotate_left
  ·show Act.put _ (some 29) _ = _
   exact zap
  refine two_ (i := 3) (j := 8) (Ni := some 31) (Nj := some 6) (zq 11 15) (zq 11 263) rfl rfl rfl rfl (two_of HT_.out (by kernel_rfl)) (by decide) (by decide) (fun K hK => ?_) (fun K hK => ?_)
  rotate_left
  ·skip
   refine box_step ?hg (N := 6) ?hd (cs := #[.int .i8 0, .int .i8 0, .slice none 0 0]) (t := 37) ?hr ?_; (case hd => rfl); (case hg => rfl); (case hr => exact zgs)
   intro gb284 hg w61 hbox hb
   have n_ : _ ∧ _ ∧ _ ∧ _ ∧ _ ∧ _ ∧ _ ∧ _ ∧ _ ∧ _ ∧ _ := ⟨zr HO272 hb, zk BK264 hb, zk BK265 hb, zbs hb, Aside0.mk (hbox), zg HB hg, zg HB hg, zn1 BK264 hg, zn2 BK264 hg, zn1 BK265 hg, zn2 BK265 hg⟩
   clear HO272 BK264 BK265 HB
   obtain ⟨HO272, BK264, BK265, HB, BK284, GW284, GE284, NB264_284, NB284_264, NB265_284, NB284_265⟩ := n_
   clear hb hbox hg
   refine hK.out _ _ ⟨(blk_cell BK264.out 0).trans rfl, (blk_cell BK264.out 1).trans rfl, (blk_cell BK264.out 2).trans rfl, (blk_cell BK265.out 0).trans rfl, (blk_cell BK265.out 1).trans rfl, (blk_cell BK265.out 2).trans rfl⟩ (fun hHeld => ?_)
   clear hK K
   refine norm_ (a' := ?_) ?_ ?_
   rotate_left
   ·show Act.put _ (some 6) _ = _
    exact zap
   refine one_ (i := 3) (N := some 31) (zq 11 271) rfl rfl (one_of HT_.out (by kernel_rfl)) (by decide) (fun K hK => ?_)
   refine goes_ Try.func42 (by kernel_rfl) rfl #[.agg #[.int .i8 a1_0, .int .i8 a1_1, .slice A1_2 l1_2.length c1_2]] (by rfl) rfl rfl zm ?_
   with_reducible refine (laws_toBoard.calls k a1_0 a1_1 _ _ l1_2 t273 t274 t275 _ ?side1 ?side2 A20.out).mono ?_
   (case side1 => exact zcc HB HR1_2.out)
   (case side2 => exact HC1_2.out)
   rintro e w62 ⟨v276, rfl, ho0, hb⟩
   refine ⟨_, rfl, ?_⟩
   have n_ : _ ∧ _ ∧ _ ∧ _ ∧ _ ∧ _ := ⟨Aside0.mk (Kd.R_elder' (ze HO272).out (Kd.R_base ho0) hb), Aside0.mk (Kd.R_lower (Kd.R_new' ho0 (Kd.R_lt (ze HO272).out)) (zz HB)), zk BK264 hb, zk BK265 hb, zk BK284 hb, zbs hb⟩
   clear HO272 BK264 BK265 BK284 HB
   obtain ⟨HO272, HO277, BK264, BK265, BK284, HB⟩ := n_
   (try clear hb)
   (try clear hb2)
   (try clear hk)
   (try clear hi)
   (try clear ho0)
   obtain ⟨Ao63, co63, eo63⟩ := Kd.R_slice HO272.out
   (first | subst eo63 | (injection eo63 with f1_ f2_ f3_; have f4_ := f1_.symm; have f5_ := f3_.symm; clear f1_ f2_ f3_; subst f4_; subst f5_))
   obtain ⟨Ao64, co64, eo64⟩ := Kd.R_slice HO277.out
   (first | subst eo64 | (injection eo64 with f1_ f2_ f3_; have f4_ := f1_.symm; have f5_ := f3_.symm; clear f1_ f2_ f3_; subst f4_; subst f5_))
   refine hK.out _ _ ⟨(blk_cell BK264.out 0).trans rfl, (blk_cell BK264.out 1).trans rfl, (blk_cell BK264.out 2).trans rfl, (blk_cell BK265.out 0).trans rfl, (blk_cell BK265.out 1).trans rfl, (blk_cell BK265.out 2).trans rfl⟩ (fun hHeld => ?_)
   clear hK K
   refine norm_ (a' := ?_) ?_ ?_
   rotate_left
   ·show Act.put _ (some 31) _ = _
    exact zap
   refine one_ (i := 4) (N := some 32) (zq 11 287) rfl rfl (one_of HT_.out (by kernel_rfl)) (by decide) (fun K hK => ?_)
   refine goes_ Try.func71 (by kernel_rfl) rfl #[.agg #[.int .i8 t268, .int .i8 t269, .slice Ao63 t270.length co63], .agg #[.int .i8 t273, .int .i8 t274, .slice Ao64 t275.length co64]] (by rfl) rfl rfl zm ?_
   with_reducible refine (spec_JoinBoards.calls k t268 t269 _ _ t270 t273 t274 _ _ t275 t278 t279 t280 t283 _ ?side1 ?side2 ?side3 ?side4 A21.out).mono ?_
   (case side1 => exact zrc HO272)
   (case side2 => exact (Kd.R_reads' HO272.out).2.1)
   (case side3 => exact zrc HO277)
   (case side4 => exact (Kd.R_reads' HO277.out).2.1)
   rintro e w65 ⟨v281, rfl, ho0, hb⟩
   refine ⟨_, rfl, ?_⟩
   have n_ : _ ∧ _ ∧ _ ∧ _ ∧ _ ∧ _ ∧ _ := ⟨Aside0.mk (Kd.R_elder' (ze HO272).out (Kd.R_base ho0) hb), Aside0.mk (Kd.R_elder' (ze HO277).out (Kd.R_base ho0) hb), Aside0.mk (Kd.R_lower (Kd.R_new' (Kd.R_new' ho0 (Kd.R_lt (ze HO272).out)) (Kd.R_lt (ze HO277).out)) (zz HB)), zk BK264 hb, zk BK265 hb, zk BK284 hb, zbs hb⟩
   clear HO272 HO277 BK264 BK265 BK284 HB
   obtain ⟨HO272, HO277, HO282, BK264, BK265, BK284, HB⟩ := n_
   (try clear hb)
   (try clear hb2)
   (try clear hk)
   (try clear hi)
   (try clear ho0)
   refine hK.out _ _ ⟨(blk_cell BK264.out 0).trans rfl, (blk_cell BK264.out 1).trans rfl, (blk_cell BK264.out 2).trans rfl, (blk_cell BK265.out 0).trans rfl, (blk_cell BK265.out 1).trans rfl, (blk_cell BK265.out 2).trans rfl⟩ (fun hHeld => ?_)
   clear hK K
   refine norm_ (a' := ?_) ?_ ?_
   rotate_left
   ·show Act.put _ (some 32) _ = _
    exact zap
   refine zpu 5 (some 27) (zq 11 319) HT_ ?_
   refine zpu 6 (some 33) (zq 11 383) HT_ ?_
   refine zpu 7 (some 34) (zq 11 511) HT_ ?_
   exact norm_ (by simp only [putAll, Act.put, List.setIfInBounds_toArray, List.set_cons_zero, List.set_cons_succ]) (hCont (.slice Ao63 t270.length co63, .slice Ao64 t275.length co64, v281, gb284) _ ⟨hHeld, (by (with_reducible repeat (first | apply Kd.R_alloc | apply Kd.R_drewN | apply Kd.R_drew)); exact Kd.R_mono HO272.out (fun _ hk => ⟨hk.1.2, hk.2⟩)), (by (with_reducible repeat (first | apply Kd.R_alloc | apply Kd.R_drewN | apply Kd.R_drew)); exact Kd.R_mono HO277.out (fun _ hk => ⟨hk.1.2, hk.2⟩)), (by (with_reducible repeat (first | apply Kd.R_alloc | apply Kd.R_drewN | apply Kd.R_drew)); exact Kd.R_mono HO282.out (fun _ hk => ⟨hk.1.2, hk.2⟩)), (zh BK264).out, (zh BK265).out, (zh BK284).out, GW284.out, GE284.out, NB264_284.out, NB284_264.out, NB265_284.out, NB284_265.out, zbo⟩)
  skip
  refine goes_ Try.func42 (by kernel_rfl) rfl #[.agg #[.int .i8 a1_0, .int .i8 a1_1, .slice A1_2 l1_2.length c1_2]] (by rfl) rfl rfl zm ?_
  with_reducible refine (laws_toBoard.calls k a1_0 a1_1 _ _ l1_2 t273 t274 t275 _ ?side1 ?side2 A20.out).mono ?_
  (case side1 => exact zcc HB HR1_2.out)
  (case side2 => exact HC1_2.out)
  rintro e w61 ⟨v276, rfl, ho0, hb⟩
  refine ⟨_, rfl, ?_⟩
  have n_ : _ ∧ _ ∧ _ ∧ _ ∧ _ := ⟨Aside0.mk (Kd.R_elder' (ze HO272).out (Kd.R_base ho0) hb), Aside0.mk (Kd.R_lower (Kd.R_new' ho0 (Kd.R_lt (ze HO272).out)) (zz HB)), zk BK264 hb, zk BK265 hb, zbs hb⟩
  clear HO272 BK264 BK265 HB
  obtain ⟨HO272, HO277, BK264, BK265, HB⟩ := n_
  (try clear hb)
  (try clear hb2)
  (try clear hk)
  (try clear hi)
  (try clear ho0)
  obtain ⟨Ao62, co62, eo62⟩ := Kd.R_slice HO272.out
  (first | subst eo62 | (injection eo62 with f1_ f2_ f3_; have f4_ := f1_.symm; have f5_ := f3_.symm; clear f1_ f2_ f3_; subst f4_; subst f5_))
  obtain ⟨Ao63, co63, eo63⟩ := Kd.R_slice HO277.out
  (first | subst eo63 | (injection eo63 with f1_ f2_ f3_; have f4_ := f1_.symm; have f5_ := f3_.symm; clear f1_ f2_ f3_; subst f4_; subst f5_))
  refine hK.out _ _ ⟨(blk_cell BK264.out 0).trans rfl, (blk_cell BK264.out 1).trans rfl, (blk_cell BK264.out 2).trans rfl, (blk_cell BK265.out 0).trans rfl, (blk_cell BK265.out 1).trans rfl, (blk_cell BK265.out 2).trans rfl⟩ (fun hHeld => ?_)
  clear hK K
  refine norm_ (a' := ?_) ?_ ?_
  rotate_left
  ·show Act.put _ (some 31) _ = _
   exact zap
  refine two_ (i := 4) (j := 8) (Ni := some 32) (Nj := some 6) (zq 11 31) (zq 11 271) rfl rfl rfl rfl (two_of HT_.out (by kernel_rfl)) (by decide) (by decide) (fun K hK => ?_) (fun K hK => ?_)
  ·skip
   refine goes_ Try.func71 (by kernel_rfl) rfl #[.agg #[.int .i8 t268, .int .i8 t269, .slice Ao62 t270.length co62], .agg #[.int .i8 t273, .int .i8 t274, .slice Ao63 t275.length co63]] (by rfl) rfl rfl zm ?_
   with_reducible refine (spec_JoinBoards.calls k t268 t269 _ _ t270 t273 t274 _ _ t275 t278 t279 t280 t283 _ ?side1 ?side2 ?side3 ?side4 A21.out).mono ?_
   (case side1 => exact zrc HO272)
   (case side2 => exact (Kd.R_reads' HO272.out).2.1)
   (case side3 => exact zrc HO277)
   (case side4 => exact (Kd.R_reads' HO277.out).2.1)
   rintro e w64 ⟨v281, rfl, ho0, hb⟩
   refine ⟨_, rfl, ?_⟩
   have n_ : _ ∧ _ ∧ _ ∧ _ ∧ _ ∧ _ := ⟨Aside0.mk (Kd.R_elder' (ze HO272).out (Kd.R_base ho0) hb), Aside0.mk (Kd.R_elder' (ze HO277).out (Kd.R_base ho0) hb), Aside0.mk (Kd.R_lower (Kd.R_new' (Kd.R_new' ho0 (Kd.R_lt (ze HO272).out)) (Kd.R_lt (ze HO277).out)) (zz HB)), zk BK264 hb, zk BK265 hb, zbs hb⟩
   clear HO272 HO277 BK264 BK265 HB
   obtain ⟨HO272, HO277, HO282, BK264, BK265, HB⟩ := n_
   (try clear hb)
   (try clear hb2)
   (try clear hk)
   (try clear hi)
   (try clear ho0)
   refine hK.out _ _ ⟨(blk_cell BK264.out 0).trans rfl, (blk_cell BK264.out 1).trans rfl, (blk_cell BK264.out 2).trans rfl, (blk_cell BK265.out 0).trans rfl, (blk_cell BK265.out 1).trans rfl, (blk_cell BK265.out 2).trans rfl⟩ (fun hHeld => ?_)
   clear hK K
   refine norm_ (a' := ?_) ?_ ?_
   rotate_left
   ·show Act.put _ (some 32) _ = _
    exact zap
   refine zpu 5 (some 27) (zq 11 63) HT_ ?_
   refine zpu 6 (some 33) (zq 11 127) HT_ ?_
   refine zpu 7 (some 34) (zq 11 255) HT_ ?_
   refine one_ (i := 8) (N := some 6) (zq 11 511) rfl rfl (one_of HT_.out (by kernel_rfl)) (by decide) (fun K hK => ?_)
   refine box_step ?hg (N := 6) ?hd (cs := #[.int .i8 0, .int .i8 0, .slice none 0 0]) (t := 37) ?hr ?_; (case hd => rfl); (case hg => rfl); (case hr => exact zgs)
   intro gb284 hg w65 hbox hb
   have n_ : _ ∧ _ ∧ _ ∧ _ ∧ _ ∧ _ ∧ _ ∧ _ ∧ _ ∧ _ ∧ _ ∧ _ ∧ _ := ⟨zr HO272 hb, zr HO277 hb, zr HO282 hb, zk BK264 hb, zk BK265 hb, zbs hb, Aside0.mk (hbox), zg HB hg, zg HB hg, zn1 BK264 hg, zn2 BK264 hg, zn1 BK265 hg, zn2 BK265 hg⟩
   clear HO272 HO277 HO282 BK264 BK265 HB
   obtain ⟨HO272, HO277, HO282, BK264, BK265, HB, BK284, GW284, GE284, NB264_284, NB284_264, NB265_284, NB284_265⟩ := n_
   clear hb hbox hg
   refine hK.out _ _ ⟨(blk_cell BK264.out 0).trans rfl, (blk_cell BK264.out 1).trans rfl, (blk_cell BK264.out 2).trans rfl, (blk_cell BK265.out 0).trans rfl, (blk_cell BK265.out 1).trans rfl, (blk_cell BK265.out 2).trans rfl⟩ (fun hHeld => ?_)
   clear hK K
   refine norm_ (a' := ?_) ?_ ?_
   rotate_left
   ·show Act.put _ (some 6) _ = _
    exact zap
   exact norm_ (by simp only [putAll, Act.put, List.setIfInBounds_toArray, List.set_cons_zero, List.set_cons_succ]) (hCont (.slice Ao62 t270.length co62, .slice Ao63 t275.length co63, v281, gb284) _ ⟨hHeld, (by (with_reducible repeat (first | apply Kd.R_alloc | apply Kd.R_drewN | apply Kd.R_drew)); exact Kd.R_mono HO272.out (fun _ hk => ⟨hk.1.2, hk.2⟩)), (by (with_reducible repeat (first | apply Kd.R_alloc | apply Kd.R_drewN | apply Kd.R_drew)); exact Kd.R_mono HO277.out (fun _ hk => ⟨hk.1.2, hk.2⟩)), (by (with_reducible repeat (first | apply Kd.R_alloc | apply Kd.R_drewN | apply Kd.R_drew)); exact Kd.R_mono HO282.out (fun _ hk => ⟨hk.1.2, hk.2⟩)), (zh BK264).out, (zh BK265).out, (zh BK284).out, GW284.out, GE284.out, NB264_284.out, NB284_264.out, NB265_284.out, NB284_265.out, zbo⟩)
  skip
  refine box_step ?hg (N := 6) ?hd (cs := #[.int .i8 0, .int .i8 0, .slice none 0 0]) (t := 37) ?hr ?_; (case hd => rfl); (case hg => rfl); (case hr => exact zgs)
  intro gb284 hg w62 hbox hb
  have n_ : _ ∧ _ ∧ _ ∧ _ ∧ _ ∧ _ ∧ _ ∧ _ ∧ _ ∧ _ ∧ _ ∧ _ := ⟨zr HO272 hb, zr HO277 hb, zk BK264 hb, zk BK265 hb, zbs hb, Aside0.mk (hbox), zg HB hg, zg HB hg, zn1 BK264 hg, zn2 BK264 hg, zn1 BK265 hg, zn2 BK265 hg⟩
  clear HO272 HO277 BK264 BK265 HB
  obtain ⟨HO272, HO277, BK264, BK265, HB, BK284, GW284, GE284, NB264_284, NB284_264, NB265_284, NB284_265⟩ := n_
  clear hb hbox hg
  obtain ⟨Ao63, co63, eo63⟩ := Kd.R_slice HO272.out
  (first | subst eo63 | (injection eo63 with f1_ f2_ f3_; have f4_ := f1_.symm; have f5_ := f3_.symm; clear f1_ f2_ f3_; subst f4_; subst f5_))
  obtain ⟨Ao64, co64, eo64⟩ := Kd.R_slice HO277.out
  (first | subst eo64 | (injection eo64 with f1_ f2_ f3_; have f4_ := f1_.symm; have f5_ := f3_.symm; clear f1_ f2_ f3_; subst f4_; subst f5_))
  refine hK.out _ _ ⟨(blk_cell BK264.out 0).trans rfl, (blk_cell BK264.out 1).trans rfl, (blk_cell BK264.out 2).trans rfl, (blk_cell BK265.out 0).trans rfl, (blk_cell BK265.out 1).trans rfl, (blk_cell BK265.out 2).trans rfl⟩ (fun hHeld => ?_)
  clear hK K
  refine norm_ (a' := ?_) ?_ ?_
  rotate_left
  ·show Act.put _ (some 6) _ = _
   exact zap
  refine one_ (i := 4) (N := some 32) (zq 11 287) rfl rfl (one_of HT_.out (by kernel_rfl)) (by decide) (fun K hK => ?_)
  refine goes_ Try.func71 (by kernel_rfl) rfl #[.agg #[.int .i8 t268, .int .i8 t269, .slice Ao63 t270.length co63], .agg #[.int .i8 t273, .int .i8 t274, .slice Ao64 t275.length co64]] (by rfl) rfl rfl zm ?_
  with_reducible refine (spec_JoinBoards.calls k t268 t269 _ _ t270 t273 t274 _ _ t275 t278 t279 t280 t283 _ ?side1 ?side2 ?side3 ?side4 A21.out).mono ?_
  (case side1 => exact zrc HO272)
  (case side2 => exact (Kd.R_reads' HO272.out).2.1)
  (case side3 => exact zrc HO277)
  (case side4 => exact (Kd.R_reads' HO277.out).2.1)
  rintro e w65 ⟨v281, rfl, ho0, hb⟩
  refine ⟨_, rfl, ?_⟩
  have n_ : _ ∧ _ ∧ _ ∧ _ ∧ _ ∧ _ ∧ _ := ⟨Aside0.mk (Kd.R_elder' (ze HO272).out (Kd.R_base ho0) hb), Aside0.mk (Kd.R_elder' (ze HO277).out (Kd.R_base ho0) hb), Aside0.mk (Kd.R_lower (Kd.R_new' (Kd.R_new' ho0 (Kd.R_lt (ze HO272).out)) (Kd.R_lt (ze HO277).out)) (zz HB)), zk BK264 hb, zk BK265 hb, zk BK284 hb, zbs hb⟩
  clear HO272 HO277 BK264 BK265 BK284 HB
  obtain ⟨HO272, HO277, HO282, BK264, BK265, BK284, HB⟩ := n_
  (try clear hb)
  (try clear hb2)
  (try clear hk)
  (try clear hi)
  (try clear ho0)
  refine hK.out _ _ ⟨(blk_cell BK264.out 0).trans rfl, (blk_cell BK264.out 1).trans rfl, (blk_cell BK264.out 2).trans rfl, (blk_cell BK265.out 0).trans rfl, (blk_cell BK265.out 1).trans rfl, (blk_cell BK265.out 2).trans rfl⟩ (fun hHeld => ?_)
  clear hK K
  refine norm_ (a' := ?_) ?_ ?_
  rotate_left
  ·show Act.put _ (some 32) _ = _
   exact zap
  refine zpu 5 (some 27) (zq 11 319) HT_ ?_
  refine zpu 6 (some 33) (zq 11 383) HT_ ?_
  refine zpu 7 (some 34) (zq 11 511) HT_ ?_
  exact norm_ (by simp only [putAll, Act.put, List.setIfInBounds_toArray, List.set_cons_zero, List.set_cons_succ]) (hCont (.slice Ao63 t270.length co63, .slice Ao64 t275.length co64, v281, gb284) _ ⟨hHeld, (by (with_reducible repeat (first | apply Kd.R_alloc | apply Kd.R_drewN | apply Kd.R_drew)); exact Kd.R_mono HO272.out (fun _ hk => ⟨hk.1.2, hk.2⟩)), (by (with_reducible repeat (first | apply Kd.R_alloc | apply Kd.R_drewN | apply Kd.R_drew)); exact Kd.R_mono HO277.out (fun _ hk => ⟨hk.1.2, hk.2⟩)), (by (with_reducible repeat (first | apply Kd.R_alloc | apply Kd.R_drewN | apply Kd.R_drew)); exact Kd.R_mono HO282.out (fun _ hk => ⟨hk.1.2, hk.2⟩)), (zh BK264).out, (zh BK265).out, (zh BK284).out, GW284.out, GE284.out, NB264_284.out, NB284_264.out, NB265_284.out, NB284_265.out, zbo⟩)
 rintro ⟨v271, v276, v281, gb284⟩ w66 ⟨hS_, h0_, h1_, h2_, h3_, h4_, h5_, h6_, h7_, h8_, h9_, h10_, h11_, h12_⟩
 have n_ : (Aside0 (Kd.R k91 91 w66 w.heap.size (fun k_ => some k_ ≠ (v276 : Value).ownBlock ∧ some k_ ≠ (v281 : Value).ownBlock) v271 t270)) ∧ (Aside0 (Kd.R k91 91 w66 w.heap.size (fun k_ => some k_ ≠ (v271 : Value).ownBlock ∧ some k_ ≠ (v281 : Value).ownBlock) v276 t275)) ∧ (Aside0 (Kd.R k91 91 w66 w.heap.size (fun k_ => some k_ ≠ (v271 : Value).ownBlock ∧ some k_ ≠ (v276 : Value).ownBlock) v281 t280)) ∧ (Aside0 (w66.heap[gb264]? = some (.cells #[.int .i8 a0_0, .int .i8 a0_1, .slice A0_2 l0_2.length c0_2] 25 (0, 0)))) ∧ (Aside0 (w66.heap[gb265]? = some (.cells #[.int .i8 a1_0, .int .i8 a1_1, .slice A1_2 l1_2.length c1_2] 25 (0, 0)))) ∧ (Aside0 (w66.heap[gb284]? = some (.cells #[.int .i8 0, .int .i8 0, .slice none 0 0] 37 (0, 0)))) ∧ (Aside0 (w.heap.size ≤ gb284)) ∧ (Aside0 (w.heap.size ≤ gb284)) ∧ (Aside0 (gb264 ≠ gb284)) ∧ (Aside0 (gb284 ≠ gb264)) ∧ (Aside0 (gb265 ≠ gb284)) ∧ (Aside0 (gb284 ≠ gb265)) ∧ (Aside0 (Below w.heap.size w w66)) := ⟨⟨h0_⟩, ⟨h1_⟩, ⟨h2_⟩, ⟨h3_⟩, ⟨h4_⟩, ⟨h5_⟩, ⟨h6_⟩, ⟨h7_⟩, ⟨h8_⟩, ⟨h9_⟩, ⟨h10_⟩, ⟨h11_⟩, ⟨h12_⟩⟩
 clear BK264 BK265 HB h0_ h1_ h2_ h3_ h4_ h5_ h6_ h7_ h8_ h9_ h10_ h11_ h12_
 obtain ⟨HO272, HO277, HO282, BK264, BK265, BK284, GW284, GE284, NB264_284, NB284_264, NB265_284, NB284_265, HB⟩ := n_
 have hHeld := hS_
 obtain ⟨Ao69, co69, eo69⟩ := Kd.R_slice HO282.out
 (first | subst eo69 | (injection eo69 with f1_ f2_ f3_; have f4_ := f1_.symm; have f5_ := f3_.symm; clear f1_ f2_ f3_; subst f4_; subst f5_))
 refine norm_ (a' := ?_) ?_ ?_
 rotate_left
 ·simp only [putAll, Act.put, List.setIfInBounds_toArray, List.set_cons_zero, List.set_cons_succ]
  rfl
 refine one_ (i := 9) (N := none) (zq 11 1023) rfl rfl (one_of HT_.out (by kernel_rfl)) (by decide) (fun K hK => ?_)
 have hs67 : w66.cell? ⟨gb284, 0, none⟩ = some (.int .i8 0) := (blk_cell BK284.out 0).trans rfl
 have hfs67 := blk_frozen BK284.out 0
 have hns67_0 := NB264_284.out
 have hns67_1 := NB265_284.out
 have hms67_0 := NB284_264.out
 have hms67_1 := NB284_265.out
 have hs68 : w66.cell? ⟨gb284, 1, none⟩ = some (.int .i8 0) := (blk_cell BK284.out 1).trans rfl
 have hfs68 := blk_frozen BK284.out 1
 have hns68_0 := NB264_284.out
 have hns68_1 := NB265_284.out
 have hms68_0 := NB284_264.out
 have hms68_1 := NB284_265.out
 have hs70 : w66.cell? ⟨gb284, 2, none⟩ = some (.slice none 0 0) := (blk_cell BK284.out 2).trans rfl
 have hfs70 := blk_frozen BK284.out 2
 have hns70_0 := NB264_284.out
 have hns70_1 := NB265_284.out
 have hms70_0 := NB284_264.out
 have hms70_1 := NB284_265.out
 refine skip_ (w1 := ?_) (by rfl) rfl ?_ ?_
 rotate_left
 ·go_simp
  rfl
 refine hK.out _ _ ⟨((cell_far (p := ⟨gb284, _, none⟩) NB264_284.out _).trans (((cell_far (p := ⟨gb284, _, none⟩) NB264_284.out _).trans (((cell_far (p := ⟨gb284, _, none⟩) NB264_284.out _).trans (hHeld.1)))))), ((cell_far (p := ⟨gb284, _, none⟩) NB264_284.out _).trans (((cell_far (p := ⟨gb284, _, none⟩) NB264_284.out _).trans (((cell_far (p := ⟨gb284, _, none⟩) NB264_284.out _).trans (hHeld.2.1)))))), ((cell_far (p := ⟨gb284, _, none⟩) NB264_284.out _).trans (((cell_far (p := ⟨gb284, _, none⟩) NB264_284.out _).trans (((cell_far (p := ⟨gb284, _, none⟩) NB264_284.out _).trans (hHeld.2.2.1)))))), ((cell_far (p := ⟨gb284, _, none⟩) NB265_284.out _).trans (((cell_far (p := ⟨gb284, _, none⟩) NB265_284.out _).trans (((cell_far (p := ⟨gb284, _, none⟩) NB265_284.out _).trans (hHeld.2.2.2.1)))))), ((cell_far (p := ⟨gb284, _, none⟩) NB265_284.out _).trans (((cell_far (p := ⟨gb284, _, none⟩) NB265_284.out _).trans (((cell_far (p := ⟨gb284, _, none⟩) NB265_284.out _).trans (hHeld.2.2.2.2.1)))))), ((cell_far (p := ⟨gb284, _, none⟩) NB265_284.out _).trans (((cell_far (p := ⟨gb284, _, none⟩) NB265_284.out _).trans (((cell_far (p := ⟨gb284, _, none⟩) NB265_284.out _).trans (hHeld.2.2.2.2.2))))))⟩ (fun hHeld => ?_)
 clear hK K
 refine zpu 10 (some 7) (zq 11 2047) HT_ ?_
 refine done_ (done_of HT_.out (by kernel_rfl)) ?_
 have hnb71 := NB264_284.out
 have hnc71 := NB284_264.out
 obtain ⟨z72_0, z72_1, z72_2, y72_0, y72_1, y72_2⟩ := zB3 BK264
 try go_wp2_with (first | ((with_reducible refine gate_callee (f := 42) rfl ?_); refine goesL_ (some 36) rfl rfl Try.func42 (by kernel_rfl) rfl #[.agg #[.int .i8 a0_0, .int .i8 a0_1, .slice A0_2 l0_2.length c0_2]] rfl zm ?_; (with_reducible refine (laws_toBoard.calls k a0_0 a0_1 _ _ l0_2 t285 t286 t287 _ ?side1 ?side2 A22.out).mono ?_); (case side1 => exact Kd.C_below HR0_2.out zbo); (case side2 => exact HC0_2.out); rintro e w73 ⟨v288, rfl, ho0, hb⟩; refine ⟨_, rfl, ?_⟩; have n_ : _ ∧ _ ∧ _ ∧ _ ∧ _ ∧ _ ∧ _ ∧ _ := ⟨Aside0.mk (Kd.R_elder' (zs HO272 BK284).out (Kd.R_base ho0) hb), Aside0.mk (Kd.R_elder' (zs HO277 BK284).out (Kd.R_base ho0) hb), Aside0.mk (Kd.R_elder' (zs HO282 BK284).out (Kd.R_base ho0) hb), Aside0.mk (Kd.R_lower (Kd.R_new' (Kd.R_new' (Kd.R_new' ho0 (Kd.R_lt (zs HO272 BK284).out)) (Kd.R_lt (zs HO277 BK284).out)) (Kd.R_lt (zs HO282 BK284).out)) (zz HB)), zfb BK264 NB264_284 hb, zfb BK265 NB265_284 hb, Aside0.mk (blk_below (g := gb284) (o := .cells #[.int .i8 t278, .int .i8 t279, .slice Ao69 t280.length co69] 37 (0, 0)) (zp BK284) hb), zbs hb⟩; clear HO272 HO277 HO282 BK264 BK265 BK284 HB; obtain ⟨HO272, HO277, HO282, HO289, BK264, BK265, BK284, HB⟩ := n_; (try clear hb); (try clear hb2); (try clear hk); (try clear hi); (try clear ho0)) | ((with_reducible refine gate_dst (N := 8) rfl ?_); refine zbx 8 #[.int .i8 0, .int .i8 0, .slice none 0 0] 37 ?_; intro gb290 hg w74 hbox hb; have n_ : _ ∧ _ ∧ _ ∧ _ ∧ _ ∧ _ ∧ _ ∧ _ ∧ _ ∧ _ ∧ _ ∧ _ ∧ _ ∧ _ ∧ _ ∧ _ ∧ _ := ⟨zr HO272 hb, zr HO277 hb, zr HO282 hb, zr HO289 hb, zk BK264 hb, zk BK265 hb, zk BK284 hb, zbs hb, Aside0.mk (hbox), zg HB hg, zg HB hg, zn1 BK264 hg, zn2 BK264 hg, zn1 BK265 hg, zn2 BK265 hg, zn1 BK284 hg, zn2 BK284 hg⟩; clear HO272 HO277 HO282 HO289 BK264 BK265 BK284 HB; obtain ⟨HO272, HO277, HO282, HO289, BK264, BK265, BK284, HB, BK290, GW290, GE290, NB264_290, NB290_264, NB265_290, NB290_265, NB284_290, NB290_284⟩ := n_; clear hb hbox hg; have hnb75 := NB290_264.out; have hnc75 := NB264_290.out; have hnb76 := NB290_265.out; have hnc76 := NB265_290.out; have hnb77 := NB290_284.out; have hnc77 := NB284_290.out; obtain ⟨z78_0, z78_1, z78_2, y78_0, y78_1, y78_2⟩ := zB3 BK290; obtain ⟨Ao79, co79, eo79⟩ := Kd.R_slice HO289.out; subst eo79; have hnb80 := NB265_284.out; have hnc80 := NB284_265.out; obtain ⟨z81_0, z81_1, z81_2, y81_0, y81_1, y81_2⟩ := zB3 BK265) | ((with_reducible refine gate_callee (f := 42) rfl ?_); refine goesL_ (some 38) rfl rfl Try.func42 (by kernel_rfl) rfl #[.agg #[.int .i8 a1_0, .int .i8 a1_1, .slice A1_2 l1_2.length c1_2]] rfl zm ?_; (with_reducible refine (laws_toBoard.calls k a1_0 a1_1 _ _ l1_2 t291 t292 t293 _ ?side1 ?side2 A23.out).mono ?_); (case side1 => exact Kd.C_below HR1_2.out zbo); (case side2 => exact HC1_2.out); rintro e w82 ⟨v294, rfl, ho0, hb⟩; refine ⟨_, rfl, ?_⟩; have n_ : _ ∧ _ ∧ _ ∧ _ ∧ _ ∧ _ ∧ _ ∧ _ ∧ _ ∧ _ := ⟨Aside0.mk (Kd.R_elder' (zs HO272 BK290).out (Kd.R_base ho0) hb), Aside0.mk (Kd.R_elder' (zs HO277 BK290).out (Kd.R_base ho0) hb), Aside0.mk (Kd.R_elder' (zs HO282 BK290).out (Kd.R_base ho0) hb), Aside0.mk (Kd.R_elder' (zs HO289 BK290).out (Kd.R_base ho0) hb), Aside0.mk (Kd.R_lower (Kd.R_new' (Kd.R_new' (Kd.R_new' (Kd.R_new' ho0 (Kd.R_lt (zs HO272 BK290).out)) (Kd.R_lt (zs HO277 BK290).out)) (Kd.R_lt (zs HO282 BK290).out)) (Kd.R_lt (zs HO289 BK290).out)) (zz HB)), zfb BK264 NB264_290 hb, zfb BK265 NB265_290 hb, zfb BK284 NB284_290 hb, Aside0.mk (blk_below (g := gb290) (o := .cells #[.int .i8 t285, .int .i8 t286, .slice Ao79 t287.length co79] 37 (0, 0)) (zp BK290) hb), zbs hb⟩; clear HO272 HO277 HO282 HO289 BK264 BK265 BK284 BK290 HB; obtain ⟨HO272, HO277, HO282, HO289, HO295, BK264, BK265, BK284, BK290, HB⟩ := n_; (try clear hb); (try clear hb2); (try clear hk); (try clear hi); (try clear ho0)) | ((with_reducible refine gate_dst (N := 9) rfl ?_); refine zbx 9 #[.int .i8 0, .int .i8 0, .slice none 0 0] 37 ?_; intro gb296 hg w83 hbox hb; have n_ : _ ∧ _ ∧ _ ∧ _ ∧ _ ∧ _ ∧ _ ∧ _ ∧ _ ∧ _ ∧ _ ∧ _ ∧ _ ∧ _ ∧ _ ∧ _ ∧ _ ∧ _ ∧ _ ∧ _ ∧ _ := ⟨zr HO272 hb, zr HO277 hb, zr HO282 hb, zr HO289 hb, zr HO295 hb, zk BK264 hb, zk BK265 hb, zk BK284 hb, zk BK290 hb, zbs hb, Aside0.mk (hbox), zg HB hg, zg HB hg, zn1 BK264 hg, zn2 BK264 hg, zn1 BK265 hg, zn2 BK265 hg, zn1 BK284 hg, zn2 BK284 hg, zn1 BK290 hg, zn2 BK290 hg⟩; clear HO272 HO277 HO282 HO289 HO295 BK264 BK265 BK284 BK290 HB; obtain ⟨HO272, HO277, HO282, HO289, HO295, BK264, BK265, BK284, BK290, HB, BK296, GW296, GE296, NB264_296, NB296_264, NB265_296, NB296_265, NB284_296, NB296_284, NB290_296, NB296_290⟩ := n_; clear hb hbox hg; have hnb84 := NB296_264.out; have hnc84 := NB264_296.out; have hnb85 := NB296_265.out; have hnc85 := NB265_296.out; have hnb86 := NB296_284.out; have hnc86 := NB284_296.out; have hnb87 := NB296_290.out; have hnc87 := NB290_296.out; obtain ⟨z88_0, z88_1, z88_2, y88_0, y88_1, y88_2⟩ := zB3 BK296; obtain ⟨Ao89, co89, eo89⟩ := Kd.R_slice HO295.out; subst eo89) | ((with_reducible refine gate_store (t := 37) (p := 9) rfl ?_); refine store_event (t := 37) (p := 9) (v := ?vo_w90) (w1 := (((w83.setCell ⟨gb296, 0, none⟩ (.int .i8 t291)).setCell ⟨gb296, 1, none⟩ (.int .i8 t292)).setCell ⟨gb296, 2, none⟩ (.slice Ao89 t293.length co89))) ?hg ?ho ?hn ?hr ?_; (case ho => rfl); (case hg => rfl); (case hn => rfl); (case hr => exact zgs); intro w90 hw; have n0_ : Aside0 (Kd.R k91 91 w90 w.heap.size (fun k_ => some k_ ≠ (v276 : Value).ownBlock ∧ some k_ ≠ (.slice Ao69 t280.length co69 : Value).ownBlock ∧ some k_ ≠ (.slice Ao79 t287.length co79 : Value).ownBlock ∧ some k_ ≠ (.slice Ao89 t293.length co89 : Value).ownBlock) v271 t270) := ⟨(by rw [hw]; exact (by (with_reducible repeat (first | apply Kd.R_alloc | apply Kd.R_drewN | apply Kd.R_drew)); exact Kd.R_mono (Kd.R_far (p := ⟨gb296, 2, none⟩) (Kd.R_far (p := ⟨gb296, 1, none⟩) (Kd.R_far (p := ⟨gb296, 0, none⟩) (Kd.R_types HO272.out BK296.out (by decide)) (fun _ hk => hk.2) (.int .i8 t291)) (fun _ hk => hk.2) (.int .i8 t292)) (fun _ hk => hk.2) (.slice Ao89 t293.length co89)) (fun _ hk => ⟨hk.1.1.1.1, ⟨hk.1.1.1.2, ⟨hk.1.1.2, hk.1.2⟩⟩⟩)))⟩; have n1_ : Aside0 (Kd.R k91 91 w90 w.heap.size (fun k_ => some k_ ≠ (v271 : Value).ownBlock ∧ some k_ ≠ (.slice Ao69 t280.length co69 : Value).ownBlock ∧ some k_ ≠ (.slice Ao79 t287.length co79 : Value).ownBlock ∧ some k_ ≠ (.slice Ao89 t293.length co89 : Value).ownBlock) v276 t275) := ⟨(by rw [hw]; exact (by (with_reducible repeat (first | apply Kd.R_alloc | apply Kd.R_drewN | apply Kd.R_drew)); exact Kd.R_mono (Kd.R_far (p := ⟨gb296, 2, none⟩) (Kd.R_far (p := ⟨gb296, 1, none⟩) (Kd.R_far (p := ⟨gb296, 0, none⟩) (Kd.R_types HO277.out BK296.out (by decide)) (fun _ hk => hk.2) (.int .i8 t291)) (fun _ hk => hk.2) (.int .i8 t292)) (fun _ hk => hk.2) (.slice Ao89 t293.length co89)) (fun _ hk => ⟨hk.1.1.1.1, ⟨hk.1.1.1.2, ⟨hk.1.1.2, hk.1.2⟩⟩⟩)))⟩; have n2_ : Aside0 (Kd.R k91 91 w90 w.heap.size (fun k_ => some k_ ≠ (v271 : Value).ownBlock ∧ some k_ ≠ (v276 : Value).ownBlock ∧ some k_ ≠ (.slice Ao79 t287.length co79 : Value).ownBlock ∧ some k_ ≠ (.slice Ao89 t293.length co89 : Value).ownBlock) (.slice Ao69 t280.length co69) t280) := ⟨(by rw [hw]; exact (by (with_reducible repeat (first | apply Kd.R_alloc | apply Kd.R_drewN | apply Kd.R_drew)); exact Kd.R_mono (Kd.R_far (p := ⟨gb296, 2, none⟩) (Kd.R_far (p := ⟨gb296, 1, none⟩) (Kd.R_far (p := ⟨gb296, 0, none⟩) (Kd.R_types HO282.out BK296.out (by decide)) (fun _ hk => hk.2) (.int .i8 t291)) (fun _ hk => hk.2) (.int .i8 t292)) (fun _ hk => hk.2) (.slice Ao89 t293.length co89)) (fun _ hk => ⟨hk.1.1.1.1, ⟨hk.1.1.1.2, ⟨hk.1.1.2, hk.1.2⟩⟩⟩)))⟩; have n3_ : Aside0 (Kd.R k91 91 w90 w.heap.size (fun k_ => some k_ ≠ (v271 : Value).ownBlock ∧ some k_ ≠ (v276 : Value).ownBlock ∧ some k_ ≠ (.slice Ao69 t280.length co69 : Value).ownBlock ∧ some k_ ≠ (.slice Ao89 t293.length co89 : Value).ownBlock) (.slice Ao79 t287.length co79) t287) := ⟨(by rw [hw]; exact (by (with_reducible repeat (first | apply Kd.R_alloc | apply Kd.R_drewN | apply Kd.R_drew)); exact Kd.R_mono (Kd.R_far (p := ⟨gb296, 2, none⟩) (Kd.R_far (p := ⟨gb296, 1, none⟩) (Kd.R_far (p := ⟨gb296, 0, none⟩) (Kd.R_types HO289.out BK296.out (by decide)) (fun _ hk => hk.2) (.int .i8 t291)) (fun _ hk => hk.2) (.int .i8 t292)) (fun _ hk => hk.2) (.slice Ao89 t293.length co89)) (fun _ hk => ⟨hk.1.1.1.1.2, ⟨hk.1.1.1.2, ⟨hk.1.1.2, hk.1.2⟩⟩⟩)))⟩; have n4_ : Aside0 (Kd.R k91 91 w90 w.heap.size (fun k_ => some k_ ≠ (v271 : Value).ownBlock ∧ some k_ ≠ (v276 : Value).ownBlock ∧ some k_ ≠ (.slice Ao69 t280.length co69 : Value).ownBlock ∧ some k_ ≠ (.slice Ao79 t287.length co79 : Value).ownBlock) (.slice Ao89 t293.length co89) t293) := ⟨(by rw [hw]; exact (by (with_reducible repeat (first | apply Kd.R_alloc | apply Kd.R_drewN | apply Kd.R_drew)); exact Kd.R_mono (Kd.R_far (p := ⟨gb296, 2, none⟩) (Kd.R_far (p := ⟨gb296, 1, none⟩) (Kd.R_far (p := ⟨gb296, 0, none⟩) (Kd.R_types HO295.out BK296.out (by decide)) (fun _ hk => hk.2) (.int .i8 t291)) (fun _ hk => hk.2) (.int .i8 t292)) (fun _ hk => hk.2) (.slice Ao89 t293.length co89)) (fun _ hk => ⟨hk.1.1.1.1.2, ⟨hk.1.1.1.2, ⟨hk.1.1.2, hk.1.2⟩⟩⟩)))⟩; have n5_ : Aside0 (w90.heap[gb264]? = some (.cells #[.int .i8 a0_0, .int .i8 a0_1, .slice A0_2 l0_2.length c0_2] 25 (0, 0))) := ⟨(by rw [hw]; exact (zf BK264 NB264_296).out)⟩; have n6_ : Aside0 (w90.heap[gb265]? = some (.cells #[.int .i8 a1_0, .int .i8 a1_1, .slice A1_2 l1_2.length c1_2] 25 (0, 0))) := ⟨(by rw [hw]; exact (zf BK265 NB265_296).out)⟩; have n7_ : Aside0 (w90.heap[gb284]? = some (.cells #[.int .i8 t278, .int .i8 t279, .slice Ao69 t280.length co69] 37 (0, 0))) := ⟨(by rw [hw]; exact (zf BK284 NB284_296).out)⟩; have n8_ : Aside0 (w90.heap[gb290]? = some (.cells #[.int .i8 t285, .int .i8 t286, .slice Ao79 t287.length co79] 37 (0, 0))) := ⟨(by rw [hw]; exact (zf BK290 NB290_296).out)⟩; have n9_ : Aside0 (w90.heap[gb296]? = some (.cells #[.int .i8 t291, .int .i8 t292, .slice Ao89 t293.length co89] 37 (0, 0))) := ⟨(by rw [hw]; exact (zp BK296))⟩; have n10_ : Aside0 (Below w.heap.size w w90) := ⟨(by rw [hw]; exact zbo)⟩; clear hw; clear HO272; clear HO277; clear HO282; clear HO289; clear HO295; clear BK264; clear BK265; clear BK284; clear BK290; clear BK296; clear HB; have HO272 := n0_; have HO277 := n1_; have HO282 := n2_; have HO289 := n3_; have HO295 := n4_; have BK264 := n5_; have BK265 := n6_; have BK284 := n7_; have BK290 := n8_; have BK296 := n9_; have HB := n10_; clear n0_ n1_ n2_ n3_ n4_ n5_ n6_ n7_ n8_ n9_ n10_; obtain ⟨z91_0, z91_1, z91_2, y91_0, y91_1, y91_2⟩ := zB3 BK290; obtain ⟨z92_0, z92_1, z92_2, y92_0, y92_1, y92_2⟩ := zB3 BK296) | ((with_reducible refine gate_callee (f := 72) rfl ?_); refine goesL_ (some 42) rfl rfl Try.func72 (by kernel_rfl) rfl #[.agg #[.int .i8 t285, .int .i8 t286, .slice Ao79 t287.length co79], .agg #[.int .i8 t291, .int .i8 t292, .slice Ao89 t293.length co89]] rfl zm ?_; (with_reducible refine (impl_JoinBoards.calls k t285 t286 (fun k_ => some k_ = (.slice Ao79 t287.length co79 : Value).ownBlock) _ _ t287 t291 t292 (fun k_ => some k_ = (.slice Ao89 t293.length co89 : Value).ownBlock) _ _ t293 t297 t298 t299 t302 _ ?side1 ?side2 A24.out).mono ?_); (case side1 => exact Kd.R_V (Kd.R_tight rfl (Kd.R_types (Kd.R_types (Kd.R_types (Kd.R_types (Kd.R_types (HO289.out) BK264.out (by decide)) BK265.out (by decide)) BK284.out (by decide)) BK290.out (by decide)) BK296.out (by decide)))); (case side2 => exact Kd.R_V (Kd.R_tight rfl (Kd.R_types (Kd.R_types (Kd.R_types (Kd.R_types (Kd.R_types (HO295.out) BK264.out (by decide)) BK265.out (by decide)) BK284.out (by decide)) BK290.out (by decide)) BK296.out (by decide)))); rintro e w93 ⟨v300, rfl, ho0, hb⟩; refine ⟨_, rfl, ?_⟩; have n_ : _ ∧ _ ∧ _ ∧ _ ∧ _ ∧ _ ∧ _ ∧ _ ∧ _ ∧ _ ∧ _ ∧ _ := ⟨Aside0.mk (Kd.R_elder' (ze HO272).out (Kd.R_base ho0) hb), Aside0.mk (Kd.R_elder' (ze HO277).out (Kd.R_base ho0) hb), Aside0.mk (Kd.R_elder' (ze HO282).out (Kd.R_base ho0) hb), Aside0.mk (Kd.R_elder' (ze HO289).out (Kd.R_base ho0) hb), Aside0.mk (Kd.R_elder' (ze HO295).out (Kd.R_base ho0) hb), Aside0.mk (Kd.R_lower (Kd.R_new' (Kd.R_new' (Kd.R_new' (Kd.R_new' (Kd.R_new' (Kd.R_mono (ok' := fun k_ => True) ho0 (fun _ hk_ => trivial)) (Kd.R_lt (ze HO272).out)) (Kd.R_lt (ze HO277).out)) (Kd.R_lt (ze HO282).out)) (Kd.R_lt (ze HO289).out)) (Kd.R_lt (ze HO295).out)) (zz HB)), zk BK264 hb, zk BK265 hb, zk BK284 hb, zk BK290 hb, zk BK296 hb, zbs hb⟩; clear HO272 HO277 HO282 HO289 HO295 BK264 BK265 BK284 BK290 BK296 HB; obtain ⟨HO272, HO277, HO282, HO289, HO295, HO301, BK264, BK265, BK284, BK290, BK296, HB⟩ := n_; (try clear hb); (try clear hb2); (try clear hk); (try clear hi); (try clear ho0)) | ((with_reducible refine gate_dst (N := 10) rfl ?_); refine zbx 10 #[.int .i8 0, .int .i8 0, .slice none 0 0] 37 ?_; intro gb303 hg w94 hbox hb; have n_ : _ ∧ _ ∧ _ ∧ _ ∧ _ ∧ _ ∧ _ ∧ _ ∧ _ ∧ _ ∧ _ ∧ _ ∧ _ ∧ _ ∧ _ ∧ _ ∧ _ ∧ _ ∧ _ ∧ _ ∧ _ ∧ _ ∧ _ ∧ _ ∧ _ := ⟨zr HO272 hb, zr HO277 hb, zr HO282 hb, zr HO289 hb, zr HO295 hb, zr HO301 hb, zk BK264 hb, zk BK265 hb, zk BK284 hb, zk BK290 hb, zk BK296 hb, zbs hb, Aside0.mk (hbox), zg HB hg, zg HB hg, zn1 BK264 hg, zn2 BK264 hg, zn1 BK265 hg, zn2 BK265 hg, zn1 BK284 hg, zn2 BK284 hg, zn1 BK290 hg, zn2 BK290 hg, zn1 BK296 hg, zn2 BK296 hg⟩; clear HO272 HO277 HO282 HO289 HO295 HO301 BK264 BK265 BK284 BK290 BK296 HB; obtain ⟨HO272, HO277, HO282, HO289, HO295, HO301, BK264, BK265, BK284, BK290, BK296, HB, BK303, GW303, GE303, NB264_303, NB303_264, NB265_303, NB303_265, NB284_303, NB303_284, NB290_303, NB303_290, NB296_303, NB303_296⟩ := n_; clear hb hbox hg; have hnb95 := NB303_264.out; have hnc95 := NB264_303.out; have hnb96 := NB303_265.out; have hnc96 := NB265_303.out; have hnb97 := NB303_284.out; have hnc97 := NB284_303.out; have hnb98 := NB303_290.out; have hnc98 := NB290_303.out; have hnb99 := NB303_296.out; have hnc99 := NB296_303.out; obtain ⟨z100_0, z100_1, z100_2, y100_0, y100_1, y100_2⟩ := zB3 BK303; obtain ⟨Ao101, co101, eo101⟩ := Kd.R_slice HO301.out; subst eo101; obtain ⟨z102_0, z102_1, z102_2, y102_0, y102_1, y102_2⟩ := zB3 BK284) | ((with_reducible refine gate_callee (f := 44) rfl ?_); refine goesL_ (some 47) rfl rfl Try.func44 (by kernel_rfl) rfl #[.agg #[.int .i8 t297, .int .i8 t298, .slice Ao101 t299.length co101], .agg #[.int .i8 t278, .int .i8 t279, .slice Ao69 t280.length co69]] rfl zm ?_; (with_reducible refine (laws_eqBoard.calls k t297 t298 _ _ t299 t278 t279 _ _ t280 true _ ?side1 ?side2 ?side3 ?side4 A25.out).mono ?_); (case side1 => exact (Kd.R_reads' (zs HO301 BK303).out).2.2); (case side2 => exact (Kd.R_reads' HO301.out).2.1); (case side3 => exact (Kd.R_reads' (zs HO282 BK303).out).2.2); (case side4 => exact (Kd.R_reads' HO282.out).2.1); rintro e w103 ⟨rfl, hb⟩; refine ⟨_, rfl, ?_⟩; have n_ : _ ∧ _ ∧ _ ∧ _ ∧ _ ∧ _ ∧ _ ∧ _ ∧ _ ∧ _ ∧ _ ∧ _ ∧ _ := ⟨zsb HO272 BK303 hb, zsb HO277 BK303 hb, zsb HO282 BK303 hb, zsb HO289 BK303 hb, zsb HO295 BK303 hb, zsb HO301 BK303 hb, zfb BK264 NB264_303 hb, zfb BK265 NB265_303 hb, zfb BK284 NB284_303 hb, zfb BK290 NB290_303 hb, zfb BK296 NB296_303 hb, Aside0.mk (blk_below (g := gb303) (o := .cells #[.int .i8 t297, .int .i8 t298, .slice Ao101 t299.length co101] 37 (0, 0)) (zp BK303) hb), zbs hb⟩; clear HO272 HO277 HO282 HO289 HO295 HO301 BK264 BK265 BK284 BK290 BK296 BK303 HB; obtain ⟨HO272, HO277, HO282, HO289, HO295, HO301, BK264, BK265, BK284, BK290, BK296, BK303, HB⟩ := n_; (try clear hb); (try clear hb2); (try clear hk); (try clear hi)))
 have n_ : _ ∧ _ ∧ _ ∧ _ ∧ _ ∧ _ ∧ _ ∧ _ ∧ _ ∧ _ ∧ _ ∧ _ ∧ _ := ⟨Aside0.mk (Kd.R_drew HO272.out), Aside0.mk (Kd.R_drew HO277.out), Aside0.mk (Kd.R_drew HO282.out), Aside0.mk (Kd.R_drew HO289.out), Aside0.mk (Kd.R_drew HO295.out), Aside0.mk (Kd.R_drew HO301.out), Aside0.mk (blk_drew BK264.out), Aside0.mk (blk_drew BK265.out), Aside0.mk (blk_drew BK284.out), Aside0.mk (blk_drew BK290.out), Aside0.mk (blk_drew BK296.out), Aside0.mk (blk_drew BK303.out), Aside0.mk (below_drew1 HB.out)⟩
 clear HO272 HO277 HO282 HO289 HO295 HO301 BK264 BK265 BK284 BK290 BK296 BK303 HB
 obtain ⟨HO272, HO277, HO282, HO289, HO295, HO301, BK264, BK265, BK284, BK290, BK296, BK303, HB⟩ := n_
 refine start_ (n := 5) (S := fun w' => w'.cell? ⟨gb290, 0, none⟩ = some (.int .i8 t285) ∧ w'.cell? ⟨gb290, 1, none⟩ = some (.int .i8 t286) ∧ w'.cell? ⟨gb290, 2, none⟩ = some (.slice Ao79 t287.length co79) ∧ w'.cell? ⟨gb264, 0, none⟩ = some (.int .i8 a0_0) ∧ w'.cell? ⟨gb264, 1, none⟩ = some (.int .i8 a0_1) ∧ w'.cell? ⟨gb264, 2, none⟩ = some (.slice A0_2 l0_2.length c0_2)) (ds := []) #[false, false, false, false, false] (by kernel_rfl) rfl rfl ⟨(blk_cell BK290.out 0).trans rfl, (blk_cell BK290.out 1).trans rfl, (blk_cell BK290.out 2).trans rfl, (blk_cell BK264.out 0).trans rfl, (blk_cell BK264.out 1).trans rfl, (blk_cell BK264.out 2).trans rfl⟩ (fun hHeld => ?_)
 generalize w103.drew = w104 at HO272 HO277 HO282 HO289 HO295 HO301 BK264 BK265 BK284 BK290 BK296 BK303 HB hHeld ⊢
 refine take_ (i := 0) (N := some 54) (v := ?_) (a' := ?_) #[true, false, false, false, false] rfl rfl (by kernel_rfl) (fun _ _ _ h => h) (Or.inl ⟨by rfl, ?_⟩) hHeld ?_ ?_
 rotate_left
 ·rintro w' ⟨s0, s1, s2, s3, s4, s5⟩
  go_simp
  with_reducible rfl
 rotate_left
 ·exact zap
 refine take_ (i := 1) (N := some 55) (v := ?_) (a' := ?_) #[true, true, false, false, false] rfl rfl (by kernel_rfl) (fun _ _ _ h => h) (Or.inl ⟨by rfl, ?_⟩) hHeld ?_ ?_
 rotate_left
 ·rintro w' ⟨s0, s1, s2, s3, s4, s5⟩
  go_simp
  with_reducible rfl
 rotate_left
 ·exact zap
 refine one_ (i := 2) (N := some 56) #[true, true, true, false, false] rfl rfl (by kernel_rfl) (by decide) (fun K hK => ?_)
 refine goes_ Try.func42 (by kernel_rfl) rfl #[.agg #[.int .i8 a0_0, .int .i8 a0_1, .slice A0_2 l0_2.length c0_2]] (by rfl) rfl rfl zm ?_
 with_reducible refine (laws_toBoard.calls k a0_0 a0_1 _ _ l0_2 t305 t306 t307 _ ?side1 ?side2 A28.out).mono ?_
 (case side1 => exact zcc HB HR0_2.out)
 (case side2 => exact HC0_2.out)
 rintro e w105 ⟨v308, rfl, ho0, hb⟩
 refine ⟨_, rfl, ?_⟩
 have n_ : _ ∧ _ ∧ _ ∧ _ ∧ _ ∧ _ ∧ _ ∧ _ ∧ _ ∧ _ ∧ _ ∧ _ ∧ _ ∧ _ := ⟨Aside0.mk (Kd.R_elder' (ze HO272).out (Kd.R_base ho0) hb), Aside0.mk (Kd.R_elder' (ze HO277).out (Kd.R_base ho0) hb), Aside0.mk (Kd.R_elder' (ze HO282).out (Kd.R_base ho0) hb), Aside0.mk (Kd.R_elder' (ze HO289).out (Kd.R_base ho0) hb), Aside0.mk (Kd.R_elder' (ze HO295).out (Kd.R_base ho0) hb), Aside0.mk (Kd.R_elder' (ze HO301).out (Kd.R_base ho0) hb), Aside0.mk (Kd.R_lower (Kd.R_new' (Kd.R_new' (Kd.R_new' (Kd.R_new' (Kd.R_new' (Kd.R_new' ho0 (Kd.R_lt (ze HO272).out)) (Kd.R_lt (ze HO277).out)) (Kd.R_lt (ze HO282).out)) (Kd.R_lt (ze HO289).out)) (Kd.R_lt (ze HO295).out)) (Kd.R_lt (ze HO301).out)) (zz HB)), zk BK264 hb, zk BK265 hb, zk BK284 hb, zk BK290 hb, zk BK296 hb, zk BK303 hb, zbs hb⟩
 clear HO272 HO277 HO282 HO289 HO295 HO301 BK264 BK265 BK284 BK290 BK296 BK303 HB
 obtain ⟨HO272, HO277, HO282, HO289, HO295, HO301, HO309, BK264, BK265, BK284, BK290, BK296, BK303, HB⟩ := n_
 (try clear hb)
 (try clear hb2)
 (try clear hk)
 (try clear hi)
 (try clear ho0)
 obtain ⟨Ao106, co106, eo106⟩ := Kd.R_slice HO309.out
 (first | subst eo106 | (injection eo106 with f1_ f2_ f3_; have f4_ := f1_.symm; have f5_ := f3_.symm; clear f1_ f2_ f3_; subst f4_; subst f5_))
 refine hK.out _ _ ⟨(blk_cell BK290.out 0).trans rfl, (blk_cell BK290.out 1).trans rfl, (blk_cell BK290.out 2).trans rfl, (blk_cell BK264.out 0).trans rfl, (blk_cell BK264.out 1).trans rfl, (blk_cell BK264.out 2).trans rfl⟩ (fun hHeld => ?_)
 clear hK K
 refine norm_ (a' := ?_) ?_ ?_
 rotate_left
 ·show Act.put _ (some 56) _ = _
  exact zap
 refine one_ (i := 3) (N := some 57) #[true, true, true, true, false] rfl rfl (by kernel_rfl) (by decide) (fun K hK => ?_)
 refine goes_ Try.func44 (by kernel_rfl) rfl #[.agg #[.int .i8 t285, .int .i8 t286, .slice Ao79 t287.length co79], .agg #[.int .i8 t305, .int .i8 t306, .slice Ao106 t307.length co106]] (by rfl) rfl rfl zm ?_
 with_reducible refine (laws_eqBoard.calls k t285 t286 _ _ t287 t305 t306 _ _ t307 true _ ?side1 ?side2 ?side3 ?side4 A29.out).mono ?_
 (case side1 => exact zrc HO289)
 (case side2 => exact (Kd.R_reads' HO289.out).2.1)
 (case side3 => exact zrc HO309)
 (case side4 => exact (Kd.R_reads' HO309.out).2.1)
 rintro e w107 ⟨rfl, hb⟩
 refine ⟨_, rfl, ?_⟩
 have n_ : _ ∧ _ ∧ _ ∧ _ ∧ _ ∧ _ ∧ _ ∧ _ ∧ _ ∧ _ ∧ _ ∧ _ ∧ _ ∧ _ := ⟨zr HO272 hb, zr HO277 hb, zr HO282 hb, zr HO289 hb, zr HO295 hb, zr HO301 hb, zr HO309 hb, zk BK264 hb, zk BK265 hb, zk BK284 hb, zk BK290 hb, zk BK296 hb, zk BK303 hb, zbs hb⟩
 clear HO272 HO277 HO282 HO289 HO295 HO301 HO309 BK264 BK265 BK284 BK290 BK296 BK303 HB
 obtain ⟨HO272, HO277, HO282, HO289, HO295, HO301, HO309, BK264, BK265, BK284, BK290, BK296, BK303, HB⟩ := n_
 (try clear hb)
 (try clear hb2)
 (try clear hk)
 (try clear hi)
 refine hK.out _ _ ⟨(blk_cell BK290.out 0).trans rfl, (blk_cell BK290.out 1).trans rfl, (blk_cell BK290.out 2).trans rfl, (blk_cell BK264.out 0).trans rfl, (blk_cell BK264.out 1).trans rfl, (blk_cell BK264.out 2).trans rfl⟩ (fun hHeld => ?_)
 clear hK K
 refine norm_ (a' := ?_) ?_ ?_
 rotate_left
 ·show Act.put _ (some 57) _ = _
  exact zap
 refine pure_ (i := 4) (N := some 58) (v := ?_) (a' := ?_) #[true, true, true, true, true] rfl rfl (by kernel_rfl) (fun _ _ _ h => h) (Or.inl ⟨by rfl, ?_⟩) ?_ ?_
 rotate_left
 ·intro w'
  go_simp
  with_reducible rfl
 rotate_left
 ·exact zap
 refine done_ (by kernel_rfl) ?_
 try go_wp2
 have n_ : _ ∧ _ ∧ _ ∧ _ ∧ _ ∧ _ ∧ _ ∧ _ ∧ _ ∧ _ ∧ _ ∧ _ ∧ _ ∧ _ := ⟨Aside0.mk (Kd.R_drew HO272.out), Aside0.mk (Kd.R_drew HO277.out), Aside0.mk (Kd.R_drew HO282.out), Aside0.mk (Kd.R_drew HO289.out), Aside0.mk (Kd.R_drew HO295.out), Aside0.mk (Kd.R_drew HO301.out), Aside0.mk (Kd.R_drew HO309.out), Aside0.mk (blk_drew BK264.out), Aside0.mk (blk_drew BK265.out), Aside0.mk (blk_drew BK284.out), Aside0.mk (blk_drew BK290.out), Aside0.mk (blk_drew BK296.out), Aside0.mk (blk_drew BK303.out), Aside0.mk (below_drew1 HB.out)⟩
 clear HO272 HO277 HO282 HO289 HO295 HO301 HO309 BK264 BK265 BK284 BK290 BK296 BK303 HB
 obtain ⟨HO272, HO277, HO282, HO289, HO295, HO301, HO309, BK264, BK265, BK284, BK290, BK296, BK303, HB⟩ := n_
 refine start_ (n := 5) (S := fun w' => w'.cell? ⟨gb296, 0, none⟩ = some (.int .i8 t291) ∧ w'.cell? ⟨gb296, 1, none⟩ = some (.int .i8 t292) ∧ w'.cell? ⟨gb296, 2, none⟩ = some (.slice Ao89 t293.length co89) ∧ w'.cell? ⟨gb265, 0, none⟩ = some (.int .i8 a1_0) ∧ w'.cell? ⟨gb265, 1, none⟩ = some (.int .i8 a1_1) ∧ w'.cell? ⟨gb265, 2, none⟩ = some (.slice A1_2 l1_2.length c1_2)) (ds := []) #[false, false, false, false, false] (by kernel_rfl) rfl rfl ⟨(blk_cell BK296.out 0).trans rfl, (blk_cell BK296.out 1).trans rfl, (blk_cell BK296.out 2).trans rfl, (blk_cell BK265.out 0).trans rfl, (blk_cell BK265.out 1).trans rfl, (blk_cell BK265.out 2).trans rfl⟩ (fun hHeld => ?_)
 generalize w107.drew = w108 at HO272 HO277 HO282 HO289 HO295 HO301 HO309 BK264 BK265 BK284 BK290 BK296 BK303 HB hHeld ⊢
 refine take_ (i := 0) (N := some 59) (v := ?_) (a' := ?_) #[true, false, false, false, false] rfl rfl (by kernel_rfl) (fun _ _ _ h => h) (Or.inl ⟨by rfl, ?_⟩) hHeld ?_ ?_
 rotate_left
 ·rintro w' ⟨s0, s1, s2, s3, s4, s5⟩
  go_simp
  with_reducible rfl
 rotate_left
 ·exact zap
 refine take_ (i := 1) (N := some 60) (v := ?_) (a' := ?_) #[true, true, false, false, false] rfl rfl (by kernel_rfl) (fun _ _ _ h => h) (Or.inl ⟨by rfl, ?_⟩) hHeld ?_ ?_
 rotate_left
 ·rintro w' ⟨s0, s1, s2, s3, s4, s5⟩
  go_simp
  with_reducible rfl
 rotate_left
 ·exact zap
 refine one_ (i := 2) (N := some 61) #[true, true, true, false, false] rfl rfl (by kernel_rfl) (by decide) (fun K hK => ?_)
 refine goes_ Try.func42 (by kernel_rfl) rfl #[.agg #[.int .i8 a1_0, .int .i8 a1_1, .slice A1_2 l1_2.length c1_2]] (by rfl) rfl rfl zm ?_
 with_reducible refine (laws_toBoard.calls k a1_0 a1_1 _ _ l1_2 t311 t312 t313 _ ?side1 ?side2 A31.out).mono ?_
 (case side1 => exact zcc HB HR1_2.out)
 (case side2 => exact HC1_2.out)
 rintro e w109 ⟨v314, rfl, ho0, hb⟩
 refine ⟨_, rfl, ?_⟩
 have n_ : _ ∧ _ ∧ _ ∧ _ ∧ _ ∧ _ ∧ _ ∧ _ ∧ _ ∧ _ ∧ _ ∧ _ ∧ _ ∧ _ ∧ _ := ⟨Aside0.mk (Kd.R_elder' (ze HO272).out (Kd.R_base ho0) hb), Aside0.mk (Kd.R_elder' (ze HO277).out (Kd.R_base ho0) hb), Aside0.mk (Kd.R_elder' (ze HO282).out (Kd.R_base ho0) hb), Aside0.mk (Kd.R_elder' (ze HO289).out (Kd.R_base ho0) hb), Aside0.mk (Kd.R_elder' (ze HO295).out (Kd.R_base ho0) hb), Aside0.mk (Kd.R_elder' (ze HO301).out (Kd.R_base ho0) hb), Aside0.mk (Kd.R_elder' (ze HO309).out (Kd.R_base ho0) hb), Aside0.mk (Kd.R_lower (Kd.R_new' (Kd.R_new' (Kd.R_new' (Kd.R_new' (Kd.R_new' (Kd.R_new' (Kd.R_new' ho0 (Kd.R_lt (ze HO272).out)) (Kd.R_lt (ze HO277).out)) (Kd.R_lt (ze HO282).out)) (Kd.R_lt (ze HO289).out)) (Kd.R_lt (ze HO295).out)) (Kd.R_lt (ze HO301).out)) (Kd.R_lt (ze HO309).out)) (zz HB)), zk BK264 hb, zk BK265 hb, zk BK284 hb, zk BK290 hb, zk BK296 hb, zk BK303 hb, zbs hb⟩
 clear HO272 HO277 HO282 HO289 HO295 HO301 HO309 BK264 BK265 BK284 BK290 BK296 BK303 HB
 obtain ⟨HO272, HO277, HO282, HO289, HO295, HO301, HO309, HO315, BK264, BK265, BK284, BK290, BK296, BK303, HB⟩ := n_
 (try clear hb)
 (try clear hb2)
 (try clear hk)
 (try clear hi)
 (try clear ho0)
 obtain ⟨Ao110, co110, eo110⟩ := Kd.R_slice HO315.out
 (first | subst eo110 | (injection eo110 with f1_ f2_ f3_; have f4_ := f1_.symm; have f5_ := f3_.symm; clear f1_ f2_ f3_; subst f4_; subst f5_))
 refine hK.out _ _ ⟨(blk_cell BK296.out 0).trans rfl, (blk_cell BK296.out 1).trans rfl, (blk_cell BK296.out 2).trans rfl, (blk_cell BK265.out 0).trans rfl, (blk_cell BK265.out 1).trans rfl, (blk_cell BK265.out 2).trans rfl⟩ (fun hHeld => ?_)
 clear hK K
 refine norm_ (a' := ?_) ?_ ?_
 rotate_left
 ·show Act.put _ (some 61) _ = _
  exact zap
 refine one_ (i := 3) (N := some 62) #[true, true, true, true, false] rfl rfl (by kernel_rfl) (by decide) (fun K hK => ?_)
 refine goes_ Try.func44 (by kernel_rfl) rfl #[.agg #[.int .i8 t291, .int .i8 t292, .slice Ao89 t293.length co89], .agg #[.int .i8 t311, .int .i8 t312, .slice Ao110 t313.length co110]] (by rfl) rfl rfl zm ?_
 with_reducible refine (laws_eqBoard.calls k t291 t292 _ _ t293 t311 t312 _ _ t313 true _ ?side1 ?side2 ?side3 ?side4 A32.out).mono ?_
 (case side1 => exact zrc HO295)
 (case side2 => exact (Kd.R_reads' HO295.out).2.1)
 (case side3 => exact zrc HO315)
 (case side4 => exact (Kd.R_reads' HO315.out).2.1)
 rintro e w111 ⟨rfl, hb⟩
 refine ⟨_, rfl, ?_⟩
 have n_ : _ ∧ _ ∧ _ ∧ _ ∧ _ ∧ _ ∧ _ ∧ _ ∧ _ ∧ _ ∧ _ ∧ _ ∧ _ ∧ _ ∧ _ := ⟨zr HO272 hb, zr HO277 hb, zr HO282 hb, zr HO289 hb, zr HO295 hb, zr HO301 hb, zr HO309 hb, zr HO315 hb, zk BK264 hb, zk BK265 hb, zk BK284 hb, zk BK290 hb, zk BK296 hb, zk BK303 hb, zbs hb⟩
 clear HO272 HO277 HO282 HO289 HO295 HO301 HO309 HO315 BK264 BK265 BK284 BK290 BK296 BK303 HB
 obtain ⟨HO272, HO277, HO282, HO289, HO295, HO301, HO309, HO315, BK264, BK265, BK284, BK290, BK296, BK303, HB⟩ := n_
 (try clear hb)
 (try clear hb2)
 (try clear hk)
 (try clear hi)
 refine hK.out _ _ ⟨(blk_cell BK296.out 0).trans rfl, (blk_cell BK296.out 1).trans rfl, (blk_cell BK296.out 2).trans rfl, (blk_cell BK265.out 0).trans rfl, (blk_cell BK265.out 1).trans rfl, (blk_cell BK265.out 2).trans rfl⟩ (fun hHeld => ?_)
 clear hK K
 refine norm_ (a' := ?_) ?_ ?_
 rotate_left
 ·show Act.put _ (some 62) _ = _
  exact zap
 refine pure_ (i := 4) (N := some 63) (v := ?_) (a' := ?_) #[true, true, true, true, true] rfl rfl (by kernel_rfl) (fun _ _ _ h => h) (Or.inl ⟨by rfl, ?_⟩) ?_ ?_
 rotate_left
 ·intro w'
  go_simp
  with_reducible rfl
 rotate_left
 ·exact zap
 refine done_ (by kernel_rfl) ?_
 obtain ⟨z112_0, z112_1, z112_2, y112_0, y112_1, y112_2⟩ := zB3 BK290
 try go_wp2_with (first | ((with_reducible refine gate_callee (f := 50) rfl ?_); refine goesL_ (some 66) rfl rfl Try.func50 (by kernel_rfl) rfl #[.agg #[.int .i8 t285, .int .i8 t286, .slice Ao79 t287.length co79], .int .i64 1] rfl zm ?_; (with_reducible refine (laws_markBoard.calls k t285 t286 (fun k_ => some k_ = (.slice Ao79 t287.length co79 : Value).ownBlock) (.slice Ao79 t287.length co79) t287 1 t317 t318 w _ ?side1 ?side2 A34.out).mono ?_); (case side1 => exact zbo); (case side2 => exact Kd.R_tight rfl HO289.out); rintro e w113 ⟨rfl, hy0, hb, hkp⟩; refine ⟨_, rfl, ?_⟩; have n_ : _ ∧ _ ∧ _ ∧ _ ∧ _ ∧ _ ∧ _ ∧ _ ∧ _ ∧ _ ∧ _ ∧ _ ∧ _ ∧ _ ∧ _ := ⟨zkr BK264 hkp (fun hs_ => (fun e_ => (Kd.R_ne HO289.out BK264.out (by decide)) e_) hs_), zkr BK265 hkp (fun hs_ => (fun e_ => (Kd.R_ne HO289.out BK265.out (by decide)) e_) hs_), Aside0.mk (Kd.R_mono (ok' := fun k_ => some k_ ≠ (v276 : Value).ownBlock ∧ some k_ ≠ (.slice Ao69 t280.length co69 : Value).ownBlock ∧ some k_ ≠ (.slice Ao79 t287.length co79 : Value).ownBlock ∧ some k_ ≠ (.slice Ao89 t293.length co89 : Value).ownBlock ∧ some k_ ≠ (.slice Ao101 t299.length co101 : Value).ownBlock ∧ some k_ ≠ (.slice Ao106 t307.length co106 : Value).ownBlock ∧ some k_ ≠ (.slice Ao110 t313.length co110 : Value).ownBlock) (Kd.R_keptB (HO272.out) hkp (fun k_ hk_ hs_ => (hk_.1.1.1.2.2.1) hs_)) (fun k_ hk_ => ⟨hk_.1.1.1.1.1, hk_.1.1.1.1.2.1, hk_.1.1.1.1.2.2.1, hk_.1.1.1.1.2.2.2, hk_.1.1.1.2, hk_.1.1.2, hk_.1.2⟩)), Aside0.mk (Kd.R_mono (ok' := fun k_ => some k_ ≠ (v271 : Value).ownBlock ∧ some k_ ≠ (.slice Ao69 t280.length co69 : Value).ownBlock ∧ some k_ ≠ (.slice Ao79 t287.length co79 : Value).ownBlock ∧ some k_ ≠ (.slice Ao89 t293.length co89 : Value).ownBlock ∧ some k_ ≠ (.slice Ao101 t299.length co101 : Value).ownBlock ∧ some k_ ≠ (.slice Ao106 t307.length co106 : Value).ownBlock ∧ some k_ ≠ (.slice Ao110 t313.length co110 : Value).ownBlock) (Kd.R_keptB (HO277.out) hkp (fun k_ hk_ hs_ => (hk_.1.1.1.2.2.1) hs_)) (fun k_ hk_ => ⟨hk_.1.1.1.1.1, hk_.1.1.1.1.2.1, hk_.1.1.1.1.2.2.1, hk_.1.1.1.1.2.2.2, hk_.1.1.1.2, hk_.1.1.2, hk_.1.2⟩)), Aside0.mk (Kd.R_mono (ok' := fun k_ => some k_ ≠ (v271 : Value).ownBlock ∧ some k_ ≠ (v276 : Value).ownBlock ∧ some k_ ≠ (.slice Ao79 t287.length co79 : Value).ownBlock ∧ some k_ ≠ (.slice Ao89 t293.length co89 : Value).ownBlock ∧ some k_ ≠ (.slice Ao101 t299.length co101 : Value).ownBlock ∧ some k_ ≠ (.slice Ao106 t307.length co106 : Value).ownBlock ∧ some k_ ≠ (.slice Ao110 t313.length co110 : Value).ownBlock) (Kd.R_keptB (HO282.out) hkp (fun k_ hk_ hs_ => (hk_.1.1.1.2.2.1) hs_)) (fun k_ hk_ => ⟨hk_.1.1.1.1.1, hk_.1.1.1.1.2.1, hk_.1.1.1.1.2.2.1, hk_.1.1.1.1.2.2.2, hk_.1.1.1.2, hk_.1.1.2, hk_.1.2⟩)), zkr BK284 hkp (fun hs_ => (fun e_ => (Kd.R_ne HO289.out BK284.out (by decide)) e_) hs_), Aside0.mk (Kd.R_reok rfl hy0 (fun k_ e_ => HO289.out.1 k_ e_)), zkr BK290 hkp (fun hs_ => (fun e_ => (Kd.R_ne HO289.out BK290.out (by decide)) e_) hs_), Aside0.mk (Kd.R_mono (ok' := fun k_ => some k_ ≠ (v271 : Value).ownBlock ∧ some k_ ≠ (v276 : Value).ownBlock ∧ some k_ ≠ (.slice Ao69 t280.length co69 : Value).ownBlock ∧ some k_ ≠ (.slice Ao79 t287.length co79 : Value).ownBlock ∧ some k_ ≠ (.slice Ao101 t299.length co101 : Value).ownBlock ∧ some k_ ≠ (.slice Ao106 t307.length co106 : Value).ownBlock ∧ some k_ ≠ (.slice Ao110 t313.length co110 : Value).ownBlock) (Kd.R_keptB (HO295.out) hkp (fun k_ hk_ hs_ => (hk_.1.1.1.2.2.2) hs_)) (fun k_ hk_ => ⟨hk_.1.1.1.1.1, hk_.1.1.1.1.2.1, hk_.1.1.1.1.2.2.1, hk_.1.1.1.1.2.2.2, hk_.1.1.1.2, hk_.1.1.2, hk_.1.2⟩)), zkr BK296 hkp (fun hs_ => (fun e_ => (Kd.R_ne HO289.out BK296.out (by decide)) e_) hs_), Aside0.mk (Kd.R_mono (ok' := fun k_ => some k_ ≠ (v271 : Value).ownBlock ∧ some k_ ≠ (v276 : Value).ownBlock ∧ some k_ ≠ (.slice Ao69 t280.length co69 : Value).ownBlock ∧ some k_ ≠ (.slice Ao79 t287.length co79 : Value).ownBlock ∧ some k_ ≠ (.slice Ao89 t293.length co89 : Value).ownBlock ∧ some k_ ≠ (.slice Ao106 t307.length co106 : Value).ownBlock ∧ some k_ ≠ (.slice Ao110 t313.length co110 : Value).ownBlock) (Kd.R_keptB (HO301.out) hkp (fun k_ hk_ hs_ => (hk_.1.1.1.2) hs_)) (fun k_ hk_ => ⟨hk_.1.1.1.1.1.1.1.2, hk_.1.1.1.1.1.1.2, hk_.1.1.1.1.1.2, hk_.1.1.1.1.2, hk_.1.1.1.2, hk_.1.1.2, hk_.1.2⟩)), zkr BK303 hkp (fun hs_ => (fun e_ => (Kd.R_ne HO289.out BK303.out (by decide)) e_) hs_), Aside0.mk (Kd.R_mono (ok' := fun k_ => some k_ ≠ (v271 : Value).ownBlock ∧ some k_ ≠ (v276 : Value).ownBlock ∧ some k_ ≠ (.slice Ao69 t280.length co69 : Value).ownBlock ∧ some k_ ≠ (.slice Ao79 t287.length co79 : Value).ownBlock ∧ some k_ ≠ (.slice Ao89 t293.length co89 : Value).ownBlock ∧ some k_ ≠ (.slice Ao101 t299.length co101 : Value).ownBlock ∧ some k_ ≠ (.slice Ao110 t313.length co110 : Value).ownBlock) (Kd.R_keptB (HO309.out) hkp (fun k_ hk_ hs_ => (hk_.1.1.1.2) hs_)) (fun k_ hk_ => ⟨hk_.1.1.1.1.1.1.1.2, hk_.1.1.1.1.1.1.2, hk_.1.1.1.1.1.2, hk_.1.1.1.1.2, hk_.1.1.1.2, hk_.1.1.2, hk_.1.2⟩)), Aside0.mk (Kd.R_mono (ok' := fun k_ => some k_ ≠ (v271 : Value).ownBlock ∧ some k_ ≠ (v276 : Value).ownBlock ∧ some k_ ≠ (.slice Ao69 t280.length co69 : Value).ownBlock ∧ some k_ ≠ (.slice Ao79 t287.length co79 : Value).ownBlock ∧ some k_ ≠ (.slice Ao89 t293.length co89 : Value).ownBlock ∧ some k_ ≠ (.slice Ao101 t299.length co101 : Value).ownBlock ∧ some k_ ≠ (.slice Ao106 t307.length co106 : Value).ownBlock) (Kd.R_keptB (HO315.out) hkp (fun k_ hk_ hs_ => (hk_.1.1.1.2) hs_)) (fun k_ hk_ => ⟨hk_.1.1.1.1.1.1.1.2, hk_.1.1.1.1.1.1.2, hk_.1.1.1.1.1.2, hk_.1.1.1.1.2, hk_.1.1.1.2, hk_.1.1.2, hk_.1.2⟩)), Aside0.mk (hb)⟩; clear BK264 BK265 HO272 HO277 HO282 BK284 HO289 BK290 HO295 BK296 HO301 BK303 HO309 HO315 HB; obtain ⟨BK264, BK265, HO272, HO277, HO282, BK284, HO289, BK290, HO295, BK296, HO301, BK303, HO309, HO315, HB⟩ := n_; (try clear hb); (try clear hkp); (try clear hy0); obtain ⟨z114_0, z114_1, z114_2, y114_0, y114_1, y114_2⟩ := zB3 BK296) | ((with_reducible refine gate_callee (f := 50) rfl ?_); refine goesL_ (some 69) rfl rfl Try.func50 (by kernel_rfl) rfl #[.agg #[.int .i8 t291, .int .i8 t292, .slice Ao89 t293.length co89], .int .i64 t317] rfl zm ?_; (with_reducible refine (laws_markBoard.calls k t291 t292 (fun k_ => some k_ = (.slice Ao89 t293.length co89 : Value).ownBlock) (.slice Ao89 t293.length co89) t293 t317 t319 t320 w _ ?side1 ?side2 A35.out).mono ?_); (case side1 => exact zbo); (case side2 => exact Kd.R_tight rfl HO295.out); rintro e w115 ⟨rfl, hy0, hb, hkp⟩; refine ⟨_, rfl, ?_⟩; have n_ : _ ∧ _ ∧ _ ∧ _ ∧ _ ∧ _ ∧ _ ∧ _ ∧ _ ∧ _ ∧ _ ∧ _ ∧ _ ∧ _ ∧ _ := ⟨zkr BK264 hkp (fun hs_ => (fun e_ => (Kd.R_ne HO295.out BK264.out (by decide)) e_) hs_), zkr BK265 hkp (fun hs_ => (fun e_ => (Kd.R_ne HO295.out BK265.out (by decide)) e_) hs_), Aside0.mk (Kd.R_mono (ok' := fun k_ => some k_ ≠ (v276 : Value).ownBlock ∧ some k_ ≠ (.slice Ao69 t280.length co69 : Value).ownBlock ∧ some k_ ≠ (.slice Ao79 t287.length co79 : Value).ownBlock ∧ some k_ ≠ (.slice Ao89 t293.length co89 : Value).ownBlock ∧ some k_ ≠ (.slice Ao101 t299.length co101 : Value).ownBlock ∧ some k_ ≠ (.slice Ao106 t307.length co106 : Value).ownBlock ∧ some k_ ≠ (.slice Ao110 t313.length co110 : Value).ownBlock) (Kd.R_keptB (HO272.out) hkp (fun k_ hk_ hs_ => (hk_.2.2.2.1) hs_)) (fun k_ hk_ => ⟨hk_.1.1, hk_.1.2.1, hk_.1.2.2.1, hk_.1.2.2.2.1, hk_.1.2.2.2.2.1, hk_.1.2.2.2.2.2.1, hk_.1.2.2.2.2.2.2⟩)), Aside0.mk (Kd.R_mono (ok' := fun k_ => some k_ ≠ (v271 : Value).ownBlock ∧ some k_ ≠ (.slice Ao69 t280.length co69 : Value).ownBlock ∧ some k_ ≠ (.slice Ao79 t287.length co79 : Value).ownBlock ∧ some k_ ≠ (.slice Ao89 t293.length co89 : Value).ownBlock ∧ some k_ ≠ (.slice Ao101 t299.length co101 : Value).ownBlock ∧ some k_ ≠ (.slice Ao106 t307.length co106 : Value).ownBlock ∧ some k_ ≠ (.slice Ao110 t313.length co110 : Value).ownBlock) (Kd.R_keptB (HO277.out) hkp (fun k_ hk_ hs_ => (hk_.2.2.2.1) hs_)) (fun k_ hk_ => ⟨hk_.1.1, hk_.1.2.1, hk_.1.2.2.1, hk_.1.2.2.2.1, hk_.1.2.2.2.2.1, hk_.1.2.2.2.2.2.1, hk_.1.2.2.2.2.2.2⟩)), Aside0.mk (Kd.R_mono (ok' := fun k_ => some k_ ≠ (v271 : Value).ownBlock ∧ some k_ ≠ (v276 : Value).ownBlock ∧ some k_ ≠ (.slice Ao79 t287.length co79 : Value).ownBlock ∧ some k_ ≠ (.slice Ao89 t293.length co89 : Value).ownBlock ∧ some k_ ≠ (.slice Ao101 t299.length co101 : Value).ownBlock ∧ some k_ ≠ (.slice Ao106 t307.length co106 : Value).ownBlock ∧ some k_ ≠ (.slice Ao110 t313.length co110 : Value).ownBlock) (Kd.R_keptB (HO282.out) hkp (fun k_ hk_ hs_ => (hk_.2.2.2.1) hs_)) (fun k_ hk_ => ⟨hk_.1.1, hk_.1.2.1, hk_.1.2.2.1, hk_.1.2.2.2.1, hk_.1.2.2.2.2.1, hk_.1.2.2.2.2.2.1, hk_.1.2.2.2.2.2.2⟩)), zkr BK284 hkp (fun hs_ => (fun e_ => (Kd.R_ne HO295.out BK284.out (by decide)) e_) hs_), Aside0.mk (Kd.R_mono (ok' := fun k_ => some k_ ≠ (v271 : Value).ownBlock ∧ some k_ ≠ (v276 : Value).ownBlock ∧ some k_ ≠ (.slice Ao69 t280.length co69 : Value).ownBlock ∧ some k_ ≠ (.slice Ao89 t293.length co89 : Value).ownBlock ∧ some k_ ≠ (.slice Ao101 t299.length co101 : Value).ownBlock ∧ some k_ ≠ (.slice Ao106 t307.length co106 : Value).ownBlock ∧ some k_ ≠ (.slice Ao110 t313.length co110 : Value).ownBlock) (Kd.R_keptB (HO289.out) hkp (fun k_ hk_ hs_ => (hk_.1.1.1.2.2.2) hs_)) (fun k_ hk_ => ⟨hk_.1.1.1.1.1, hk_.1.1.1.1.2.1, hk_.1.1.1.1.2.2.1, hk_.1.1.1.1.2.2.2, hk_.1.1.1.2, hk_.1.1.2, hk_.1.2⟩)), zkr BK290 hkp (fun hs_ => (fun e_ => (Kd.R_ne HO295.out BK290.out (by decide)) e_) hs_), Aside0.mk (Kd.R_reok rfl hy0 (fun k_ e_ => HO295.out.1 k_ e_)), zkr BK296 hkp (fun hs_ => (fun e_ => (Kd.R_ne HO295.out BK296.out (by decide)) e_) hs_), Aside0.mk (Kd.R_mono (ok' := fun k_ => some k_ ≠ (v271 : Value).ownBlock ∧ some k_ ≠ (v276 : Value).ownBlock ∧ some k_ ≠ (.slice Ao69 t280.length co69 : Value).ownBlock ∧ some k_ ≠ (.slice Ao79 t287.length co79 : Value).ownBlock ∧ some k_ ≠ (.slice Ao89 t293.length co89 : Value).ownBlock ∧ some k_ ≠ (.slice Ao106 t307.length co106 : Value).ownBlock ∧ some k_ ≠ (.slice Ao110 t313.length co110 : Value).ownBlock) (Kd.R_keptB (HO301.out) hkp (fun k_ hk_ hs_ => (hk_.2.2.2.2.1) hs_)) (fun k_ hk_ => ⟨hk_.1.1, hk_.1.2.1, hk_.1.2.2.1, hk_.1.2.2.2.1, hk_.1.2.2.2.2.1, hk_.1.2.2.2.2.2.1, hk_.1.2.2.2.2.2.2⟩)), zkr BK303 hkp (fun hs_ => (fun e_ => (Kd.R_ne HO295.out BK303.out (by decide)) e_) hs_), Aside0.mk (Kd.R_mono (ok' := fun k_ => some k_ ≠ (v271 : Value).ownBlock ∧ some k_ ≠ (v276 : Value).ownBlock ∧ some k_ ≠ (.slice Ao69 t280.length co69 : Value).ownBlock ∧ some k_ ≠ (.slice Ao79 t287.length co79 : Value).ownBlock ∧ some k_ ≠ (.slice Ao89 t293.length co89 : Value).ownBlock ∧ some k_ ≠ (.slice Ao101 t299.length co101 : Value).ownBlock ∧ some k_ ≠ (.slice Ao110 t313.length co110 : Value).ownBlock) (Kd.R_keptB (HO309.out) hkp (fun k_ hk_ hs_ => (hk_.2.2.2.2.1) hs_)) (fun k_ hk_ => ⟨hk_.1.1, hk_.1.2.1, hk_.1.2.2.1, hk_.1.2.2.2.1, hk_.1.2.2.2.2.1, hk_.1.2.2.2.2.2.1, hk_.1.2.2.2.2.2.2⟩)), Aside0.mk (Kd.R_mono (ok' := fun k_ => some k_ ≠ (v271 : Value).ownBlock ∧ some k_ ≠ (v276 : Value).ownBlock ∧ some k_ ≠ (.slice Ao69 t280.length co69 : Value).ownBlock ∧ some k_ ≠ (.slice Ao79 t287.length co79 : Value).ownBlock ∧ some k_ ≠ (.slice Ao89 t293.length co89 : Value).ownBlock ∧ some k_ ≠ (.slice Ao101 t299.length co101 : Value).ownBlock ∧ some k_ ≠ (.slice Ao106 t307.length co106 : Value).ownBlock) (Kd.R_keptB (HO315.out) hkp (fun k_ hk_ hs_ => (hk_.2.2.2.2.1) hs_)) (fun k_ hk_ => ⟨hk_.1.1, hk_.1.2.1, hk_.1.2.2.1, hk_.1.2.2.2.1, hk_.1.2.2.2.2.1, hk_.1.2.2.2.2.2.1, hk_.1.2.2.2.2.2.2⟩)), Aside0.mk (hb)⟩; clear BK264 BK265 HO272 HO277 HO282 BK284 HO289 BK290 HO295 BK296 HO301 BK303 HO309 HO315 HB; obtain ⟨BK264, BK265, HO272, HO277, HO282, BK284, HO289, BK290, HO295, BK296, HO301, BK303, HO309, HO315, HB⟩ := n_; (try clear hb); (try clear hkp); (try clear hy0); obtain ⟨z116_0, z116_1, z116_2, y116_0, y116_1, y116_2⟩ := zB3 BK303; obtain ⟨z117_0, z117_1, z117_2, y117_0, y117_1, y117_2⟩ := zB3 BK284) | (go_at_call 44; (with_reducible refine (laws_eqBoard.calls k t297 t298 _ _ t299 t278 t279 _ _ t280 true _ ?side1 ?side2 ?side3 ?side4 A37.out).mono ?_); (case side1 => exact zrc HO301); (case side2 => exact (Kd.R_reads' HO301.out).2.1); (case side3 => exact zrc HO282); (case side4 => exact (Kd.R_reads' HO282.out).2.1); rintro e w118 ⟨rfl, hb⟩; have n_ : _ ∧ _ ∧ _ ∧ _ ∧ _ ∧ _ ∧ _ ∧ _ ∧ _ ∧ _ ∧ _ ∧ _ ∧ _ ∧ _ ∧ _ := ⟨zr HO272 hb, zr HO277 hb, zr HO282 hb, zr HO289 hb, zr HO295 hb, zr HO301 hb, zr HO309 hb, zr HO315 hb, zk BK264 hb, zk BK265 hb, zk BK284 hb, zk BK290 hb, zk BK296 hb, zk BK303 hb, zbs hb⟩; clear HO272 HO277 HO282 HO289 HO295 HO301 HO309 HO315 BK264 BK265 BK284 BK290 BK296 BK303 HB; obtain ⟨HO272, HO277, HO282, HO289, HO295, HO301, HO309, HO315, BK264, BK265, BK284, BK290, BK296, BK303, HB⟩ := n_; (try clear hb); (try clear hb2); (try clear hk); (try clear hi); obtain ⟨z119_0, z119_1, z119_2, y119_0, y119_1, y119_2⟩ := zB3 BK303) | ((with_reducible refine gate_callee (f := 50) rfl ?_); refine goesL_ (some 85) rfl rfl Try.func50 (by kernel_rfl) rfl #[.agg #[.int .i8 t297, .int .i8 t298, .slice Ao101 t299.length co101], .int .i64 1] rfl zm ?_; (with_reducible refine (laws_markBoard.calls k t297 t298 (fun k_ => some k_ = (.slice Ao101 t299.length co101 : Value).ownBlock) (.slice Ao101 t299.length co101) t299 1 t322 t323 w _ ?side1 ?side2 A39.out).mono ?_); (case side1 => exact zbo); (case side2 => exact Kd.R_tight rfl HO301.out); rintro e w120 ⟨rfl, hy0, hb, hkp⟩; refine ⟨_, rfl, ?_⟩; have n_ : _ ∧ _ ∧ _ ∧ _ ∧ _ ∧ _ ∧ _ ∧ _ ∧ _ ∧ _ ∧ _ ∧ _ ∧ _ ∧ _ ∧ _ := ⟨zkr BK264 hkp (fun hs_ => (fun e_ => (Kd.R_ne HO301.out BK264.out (by decide)) e_) hs_), zkr BK265 hkp (fun hs_ => (fun e_ => (Kd.R_ne HO301.out BK265.out (by decide)) e_) hs_), Aside0.mk (Kd.R_mono (ok' := fun k_ => some k_ ≠ (v276 : Value).ownBlock ∧ some k_ ≠ (.slice Ao69 t280.length co69 : Value).ownBlock ∧ some k_ ≠ (.slice Ao79 t287.length co79 : Value).ownBlock ∧ some k_ ≠ (.slice Ao89 t293.length co89 : Value).ownBlock ∧ some k_ ≠ (.slice Ao101 t299.length co101 : Value).ownBlock ∧ some k_ ≠ (.slice Ao106 t307.length co106 : Value).ownBlock ∧ some k_ ≠ (.slice Ao110 t313.length co110 : Value).ownBlock) (Kd.R_keptB (HO272.out) hkp (fun k_ hk_ hs_ => (hk_.2.2.2.2.1) hs_)) (fun k_ hk_ => ⟨hk_.1.1, hk_.1.2.1, hk_.1.2.2.1, hk_.1.2.2.2.1, hk_.1.2.2.2.2.1, hk_.1.2.2.2.2.2.1, hk_.1.2.2.2.2.2.2⟩)), Aside0.mk (Kd.R_mono (ok' := fun k_ => some k_ ≠ (v271 : Value).ownBlock ∧ some k_ ≠ (.slice Ao69 t280.length co69 : Value).ownBlock ∧ some k_ ≠ (.slice Ao79 t287.length co79 : Value).ownBlock ∧ some k_ ≠ (.slice Ao89 t293.length co89 : Value).ownBlock ∧ some k_ ≠ (.slice Ao101 t299.length co101 : Value).ownBlock ∧ some k_ ≠ (.slice Ao106 t307.length co106 : Value).ownBlock ∧ some k_ ≠ (.slice Ao110 t313.length co110 : Value).ownBlock) (Kd.R_keptB (HO277.out) hkp (fun k_ hk_ hs_ => (hk_.2.2.2.2.1) hs_)) (fun k_ hk_ => ⟨hk_.1.1, hk_.1.2.1, hk_.1.2.2.1, hk_.1.2.2.2.1, hk_.1.2.2.2.2.1, hk_.1.2.2.2.2.2.1, hk_.1.2.2.2.2.2.2⟩)), Aside0.mk (Kd.R_mono (ok' := fun k_ => some k_ ≠ (v271 : Value).ownBlock ∧ some k_ ≠ (v276 : Value).ownBlock ∧ some k_ ≠ (.slice Ao79 t287.length co79 : Value).ownBlock ∧ some k_ ≠ (.slice Ao89 t293.length co89 : Value).ownBlock ∧ some k_ ≠ (.slice Ao101 t299.length co101 : Value).ownBlock ∧ some k_ ≠ (.slice Ao106 t307.length co106 : Value).ownBlock ∧ some k_ ≠ (.slice Ao110 t313.length co110 : Value).ownBlock) (Kd.R_keptB (HO282.out) hkp (fun k_ hk_ hs_ => (hk_.2.2.2.2.1) hs_)) (fun k_ hk_ => ⟨hk_.1.1, hk_.1.2.1, hk_.1.2.2.1, hk_.1.2.2.2.1, hk_.1.2.2.2.2.1, hk_.1.2.2.2.2.2.1, hk_.1.2.2.2.2.2.2⟩)), zkr BK284 hkp (fun hs_ => (fun e_ => (Kd.R_ne HO301.out BK284.out (by decide)) e_) hs_), Aside0.mk (Kd.R_mono (ok' := fun k_ => some k_ ≠ (v271 : Value).ownBlock ∧ some k_ ≠ (v276 : Value).ownBlock ∧ some k_ ≠ (.slice Ao69 t280.length co69 : Value).ownBlock ∧ some k_ ≠ (.slice Ao89 t293.length co89 : Value).ownBlock ∧ some k_ ≠ (.slice Ao101 t299.length co101 : Value).ownBlock ∧ some k_ ≠ (.slice Ao106 t307.length co106 : Value).ownBlock ∧ some k_ ≠ (.slice Ao110 t313.length co110 : Value).ownBlock) (Kd.R_keptB (HO289.out) hkp (fun k_ hk_ hs_ => (hk_.2.2.2.2.1) hs_)) (fun k_ hk_ => ⟨hk_.1.1, hk_.1.2.1, hk_.1.2.2.1, hk_.1.2.2.2.1, hk_.1.2.2.2.2.1, hk_.1.2.2.2.2.2.1, hk_.1.2.2.2.2.2.2⟩)), zkr BK290 hkp (fun hs_ => (fun e_ => (Kd.R_ne HO301.out BK290.out (by decide)) e_) hs_), Aside0.mk (Kd.R_mono (ok' := fun k_ => some k_ ≠ (v271 : Value).ownBlock ∧ some k_ ≠ (v276 : Value).ownBlock ∧ some k_ ≠ (.slice Ao69 t280.length co69 : Value).ownBlock ∧ some k_ ≠ (.slice Ao79 t287.length co79 : Value).ownBlock ∧ some k_ ≠ (.slice Ao101 t299.length co101 : Value).ownBlock ∧ some k_ ≠ (.slice Ao106 t307.length co106 : Value).ownBlock ∧ some k_ ≠ (.slice Ao110 t313.length co110 : Value).ownBlock) (Kd.R_keptB (HO295.out) hkp (fun k_ hk_ hs_ => (hk_.2.2.2.2.1) hs_)) (fun k_ hk_ => ⟨hk_.1.1, hk_.1.2.1, hk_.1.2.2.1, hk_.1.2.2.2.1, hk_.1.2.2.2.2.1, hk_.1.2.2.2.2.2.1, hk_.1.2.2.2.2.2.2⟩)), zkr BK296 hkp (fun hs_ => (fun e_ => (Kd.R_ne HO301.out BK296.out (by decide)) e_) hs_), Aside0.mk (Kd.R_reok rfl hy0 (fun k_ e_ => HO301.out.1 k_ e_)), zkr BK303 hkp (fun hs_ => (fun e_ => (Kd.R_ne HO301.out BK303.out (by decide)) e_) hs_), Aside0.mk (Kd.R_mono (ok' := fun k_ => some k_ ≠ (v271 : Value).ownBlock ∧ some k_ ≠ (v276 : Value).ownBlock ∧ some k_ ≠ (.slice Ao69 t280.length co69 : Value).ownBlock ∧ some k_ ≠ (.slice Ao79 t287.length co79 : Value).ownBlock ∧ some k_ ≠ (.slice Ao89 t293.length co89 : Value).ownBlock ∧ some k_ ≠ (.slice Ao101 t299.length co101 : Value).ownBlock ∧ some k_ ≠ (.slice Ao110 t313.length co110 : Value).ownBlock) (Kd.R_keptB (HO309.out) hkp (fun k_ hk_ hs_ => (hk_.2.2.2.2.2.1) hs_)) (fun k_ hk_ => ⟨hk_.1.1, hk_.1.2.1, hk_.1.2.2.1, hk_.1.2.2.2.1, hk_.1.2.2.2.2.1, hk_.1.2.2.2.2.2.1, hk_.1.2.2.2.2.2.2⟩)), Aside0.mk (Kd.R_mono (ok' := fun k_ => some k_ ≠ (v271 : Value).ownBlock ∧ some k_ ≠ (v276 : Value).ownBlock ∧ some k_ ≠ (.slice Ao69 t280.length co69 : Value).ownBlock ∧ some k_ ≠ (.slice Ao79 t287.length co79 : Value).ownBlock ∧ some k_ ≠ (.slice Ao89 t293.length co89 : Value).ownBlock ∧ some k_ ≠ (.slice Ao101 t299.length co101 : Value).ownBlock ∧ some k_ ≠ (.slice Ao106 t307.length co106 : Value).ownBlock) (Kd.R_keptB (HO315.out) hkp (fun k_ hk_ hs_ => (hk_.2.2.2.2.2.1) hs_)) (fun k_ hk_ => ⟨hk_.1.1, hk_.1.2.1, hk_.1.2.2.1, hk_.1.2.2.2.1, hk_.1.2.2.2.2.1, hk_.1.2.2.2.2.2.1, hk_.1.2.2.2.2.2.2⟩)), Aside0.mk (hb)⟩; clear BK264 BK265 HO272 HO277 HO282 BK284 HO289 BK290 HO295 BK296 HO301 BK303 HO309 HO315 HB; obtain ⟨BK264, BK265, HO272, HO277, HO282, BK284, HO289, BK290, HO295, BK296, HO301, BK303, HO309, HO315, HB⟩ := n_; (try clear hb); (try clear hkp); (try clear hy0); obtain ⟨z121_0, z121_1, z121_2, y121_0, y121_1, y121_2⟩ := zB3 BK303) | ((with_reducible refine gate_callee (f := 51) rfl ?_); refine goesL_ (some 88) rfl rfl Try.func51 (by kernel_rfl) rfl #[.agg #[.int .i8 t297, .int .i8 t298, .slice Ao101 t323.length co101], .int .i64 1] rfl (by (try simp only [List.map_toArray, List.map_cons, List.map_nil]); first | done | (rw [show t323.length = t299.length from (Kd.R_reads' HO301.out).1.symm] <;> rfl) | rfl | (simp only [List.length_drop, List.length_take]; rfl)) ?_; (with_reducible refine (laws_heldBoard.calls k t297 t298 _ _ t323 1 t324 _ ?side1 ?side2 A40.out).mono ?_); (case side1 => exact zrc HO301); (case side2 => rw [show t323.length = t299.length from (Kd.R_reads' HO301.out).1.symm]; exact (Kd.R_reads' HO301.out).2.1); rintro e w122 ⟨rfl, hb⟩; refine ⟨_, rfl, ?_⟩; have n_ : _ ∧ _ ∧ _ ∧ _ ∧ _ ∧ _ ∧ _ ∧ _ ∧ _ ∧ _ ∧ _ ∧ _ ∧ _ ∧ _ ∧ _ := ⟨zr HO272 hb, zr HO277 hb, zr HO282 hb, zr HO289 hb, zr HO295 hb, zr HO301 hb, zr HO309 hb, zr HO315 hb, zk BK264 hb, zk BK265 hb, zk BK284 hb, zk BK290 hb, zk BK296 hb, zk BK303 hb, zbs hb⟩; clear HO272 HO277 HO282 HO289 HO295 HO301 HO309 HO315 BK264 BK265 BK284 BK290 BK296 BK303 HB; obtain ⟨HO272, HO277, HO282, HO289, HO295, HO301, HO309, HO315, BK264, BK265, BK284, BK290, BK296, BK303, HB⟩ := n_; (try clear hb); (try clear hb2); (try clear hk); (try clear hi)))
 have n_ : _ ∧ _ ∧ _ ∧ _ ∧ _ ∧ _ ∧ _ ∧ _ ∧ _ ∧ _ ∧ _ ∧ _ ∧ _ ∧ _ ∧ _ := ⟨Aside0.mk (Kd.R_drew HO272.out), Aside0.mk (Kd.R_drew HO277.out), Aside0.mk (Kd.R_drew HO282.out), Aside0.mk (Kd.R_drew HO289.out), Aside0.mk (Kd.R_drew HO295.out), Aside0.mk (Kd.R_drew HO301.out), Aside0.mk (Kd.R_drew HO309.out), Aside0.mk (Kd.R_drew HO315.out), Aside0.mk (blk_drew BK264.out), Aside0.mk (blk_drew BK265.out), Aside0.mk (blk_drew BK284.out), Aside0.mk (blk_drew BK290.out), Aside0.mk (blk_drew BK296.out), Aside0.mk (blk_drew BK303.out), Aside0.mk (below_drew1 HB.out)⟩
 clear HO272 HO277 HO282 HO289 HO295 HO301 HO309 HO315 BK264 BK265 BK284 BK290 BK296 BK303 HB
 obtain ⟨HO272, HO277, HO282, HO289, HO295, HO301, HO309, HO315, BK264, BK265, BK284, BK290, BK296, BK303, HB⟩ := n_
 refine start_ (n := 11) (S := fun w' => w'.cell? ⟨gb264, 0, none⟩ = some (.int .i8 a0_0) ∧ w'.cell? ⟨gb264, 1, none⟩ = some (.int .i8 a0_1) ∧ w'.cell? ⟨gb264, 2, none⟩ = some (.slice A0_2 l0_2.length c0_2) ∧ w'.cell? ⟨gb265, 0, none⟩ = some (.int .i8 a1_0) ∧ w'.cell? ⟨gb265, 1, none⟩ = some (.int .i8 a1_1) ∧ w'.cell? ⟨gb265, 2, none⟩ = some (.slice A1_2 l1_2.length c1_2)) (ds := []) (zq 11 0) (by kernel_rfl) rfl rfl ⟨(blk_cell BK264.out 0).trans rfl, (blk_cell BK264.out 1).trans rfl, (blk_cell BK264.out 2).trans rfl, (blk_cell BK265.out 0).trans rfl, (blk_cell BK265.out 1).trans rfl, (blk_cell BK265.out 2).trans rfl⟩ (fun hHeld => ?_); refine with_tabW laws_FnExactJoinBoards.tab31 laws_FnExactJoinBoards.bits31 (fun HT_ HW_ => ?_)
 generalize w122.drew = w123 at HO272 HO277 HO282 HO289 HO295 HO301 HO309 HO315 BK264 BK265 BK284 BK290 BK296 BK303 HB hHeld ⊢
 refine ztk 0 (some 95) (zq 11 1) HT_ HW_ rfl hHeld (Or.inl ⟨by rfl, by (rintro w' ⟨s0, s1, s2, s3, s4, s5⟩; go_simp; with_reducible rfl)⟩) ?_
 refine ztk 2 (some 97) (zq 11 5) HT_ HW_ rfl hHeld (Or.inl ⟨by rfl, by (rintro w' ⟨s0, s1, s2, s3, s4, s5⟩; go_simp; with_reducible rfl)⟩) ?_
 refine join_ (σ := Value × Value × Value × Nat) 2 (zq 11 511) (fun s_ => [(96, .agg #[.int .i8 t325, .int .i8 t326, s_.1]), (98, .agg #[.int .i8 t330, .int .i8 t331, s_.2.1]), (99, .tuple #[.agg #[.int .i8 t335, .int .i8 t336, s_.2.2.1], .int .i64 t340]), (15, .pointer (some ⟨s_.2.2.2, 0, none⟩)), (94, .tuple #[.agg #[.int .i8 t335, .int .i8 t336, s_.2.2.1], .int .i64 t340]), (100, .agg #[.int .i8 t335, .int .i8 t336, s_.2.2.1]), (101, .int .i64 t340)]) (fun s_ w' => (w'.cell? ⟨gb264, 0, none⟩ = some (.int .i8 a0_0) ∧ w'.cell? ⟨gb264, 1, none⟩ = some (.int .i8 a0_1) ∧ w'.cell? ⟨gb264, 2, none⟩ = some (.slice A0_2 l0_2.length c0_2) ∧ w'.cell? ⟨gb265, 0, none⟩ = some (.int .i8 a1_0) ∧ w'.cell? ⟨gb265, 1, none⟩ = some (.int .i8 a1_1) ∧ w'.cell? ⟨gb265, 2, none⟩ = some (.slice A1_2 l1_2.length c1_2)) ∧ (Kd.R k91 91 w' w.heap.size (fun k_ => some k_ ≠ (v276 : Value).ownBlock ∧ some k_ ≠ (.slice Ao69 t280.length co69 : Value).ownBlock ∧ some k_ ≠ (.slice Ao79 t287.length co79 : Value).ownBlock ∧ some k_ ≠ (.slice Ao89 t293.length co89 : Value).ownBlock ∧ some k_ ≠ (.slice Ao101 t299.length co101 : Value).ownBlock ∧ some k_ ≠ (.slice Ao106 t307.length co106 : Value).ownBlock ∧ some k_ ≠ (.slice Ao110 t313.length co110 : Value).ownBlock ∧ some k_ ≠ (s_.1 : Value).ownBlock ∧ some k_ ≠ (s_.2.1 : Value).ownBlock ∧ some k_ ≠ (s_.2.2.1 : Value).ownBlock) v271 t270) ∧ (Kd.R k91 91 w' w.heap.size (fun k_ => some k_ ≠ (v271 : Value).ownBlock ∧ some k_ ≠ (.slice Ao69 t280.length co69 : Value).ownBlock ∧ some k_ ≠ (.slice Ao79 t287.length co79 : Value).ownBlock ∧ some k_ ≠ (.slice Ao89 t293.length co89 : Value).ownBlock ∧ some k_ ≠ (.slice Ao101 t299.length co101 : Value).ownBlock ∧ some k_ ≠ (.slice Ao106 t307.length co106 : Value).ownBlock ∧ some k_ ≠ (.slice Ao110 t313.length co110 : Value).ownBlock ∧ some k_ ≠ (s_.1 : Value).ownBlock ∧ some k_ ≠ (s_.2.1 : Value).ownBlock ∧ some k_ ≠ (s_.2.2.1 : Value).ownBlock) v276 t275) ∧ (Kd.R k91 91 w' w.heap.size (fun k_ => some k_ ≠ (v271 : Value).ownBlock ∧ some k_ ≠ (v276 : Value).ownBlock ∧ some k_ ≠ (.slice Ao79 t287.length co79 : Value).ownBlock ∧ some k_ ≠ (.slice Ao89 t293.length co89 : Value).ownBlock ∧ some k_ ≠ (.slice Ao101 t299.length co101 : Value).ownBlock ∧ some k_ ≠ (.slice Ao106 t307.length co106 : Value).ownBlock ∧ some k_ ≠ (.slice Ao110 t313.length co110 : Value).ownBlock ∧ some k_ ≠ (s_.1 : Value).ownBlock ∧ some k_ ≠ (s_.2.1 : Value).ownBlock ∧ some k_ ≠ (s_.2.2.1 : Value).ownBlock) (.slice Ao69 t280.length co69) t280) ∧ (Kd.R k91 91 w' w.heap.size (fun k_ => some k_ ≠ (v271 : Value).ownBlock ∧ some k_ ≠ (v276 : Value).ownBlock ∧ some k_ ≠ (.slice Ao69 t280.length co69 : Value).ownBlock ∧ some k_ ≠ (.slice Ao89 t293.length co89 : Value).ownBlock ∧ some k_ ≠ (.slice Ao101 t299.length co101 : Value).ownBlock ∧ some k_ ≠ (.slice Ao106 t307.length co106 : Value).ownBlock ∧ some k_ ≠ (.slice Ao110 t313.length co110 : Value).ownBlock ∧ some k_ ≠ (s_.1 : Value).ownBlock ∧ some k_ ≠ (s_.2.1 : Value).ownBlock ∧ some k_ ≠ (s_.2.2.1 : Value).ownBlock) (.slice Ao79 t287.length co79) t318) ∧ (Kd.R k91 91 w' w.heap.size (fun k_ => some k_ ≠ (v271 : Value).ownBlock ∧ some k_ ≠ (v276 : Value).ownBlock ∧ some k_ ≠ (.slice Ao69 t280.length co69 : Value).ownBlock ∧ some k_ ≠ (.slice Ao79 t287.length co79 : Value).ownBlock ∧ some k_ ≠ (.slice Ao101 t299.length co101 : Value).ownBlock ∧ some k_ ≠ (.slice Ao106 t307.length co106 : Value).ownBlock ∧ some k_ ≠ (.slice Ao110 t313.length co110 : Value).ownBlock ∧ some k_ ≠ (s_.1 : Value).ownBlock ∧ some k_ ≠ (s_.2.1 : Value).ownBlock ∧ some k_ ≠ (s_.2.2.1 : Value).ownBlock) (.slice Ao89 t293.length co89) t320) ∧ (Kd.R k91 91 w' w.heap.size (fun k_ => some k_ ≠ (v271 : Value).ownBlock ∧ some k_ ≠ (v276 : Value).ownBlock ∧ some k_ ≠ (.slice Ao69 t280.length co69 : Value).ownBlock ∧ some k_ ≠ (.slice Ao79 t287.length co79 : Value).ownBlock ∧ some k_ ≠ (.slice Ao89 t293.length co89 : Value).ownBlock ∧ some k_ ≠ (.slice Ao106 t307.length co106 : Value).ownBlock ∧ some k_ ≠ (.slice Ao110 t313.length co110 : Value).ownBlock ∧ some k_ ≠ (s_.1 : Value).ownBlock ∧ some k_ ≠ (s_.2.1 : Value).ownBlock ∧ some k_ ≠ (s_.2.2.1 : Value).ownBlock) (.slice Ao101 t299.length co101) t323) ∧ (Kd.R k91 91 w' w.heap.size (fun k_ => some k_ ≠ (v271 : Value).ownBlock ∧ some k_ ≠ (v276 : Value).ownBlock ∧ some k_ ≠ (.slice Ao69 t280.length co69 : Value).ownBlock ∧ some k_ ≠ (.slice Ao79 t287.length co79 : Value).ownBlock ∧ some k_ ≠ (.slice Ao89 t293.length co89 : Value).ownBlock ∧ some k_ ≠ (.slice Ao101 t299.length co101 : Value).ownBlock ∧ some k_ ≠ (.slice Ao110 t313.length co110 : Value).ownBlock ∧ some k_ ≠ (s_.1 : Value).ownBlock ∧ some k_ ≠ (s_.2.1 : Value).ownBlock ∧ some k_ ≠ (s_.2.2.1 : Value).ownBlock) (.slice Ao106 t307.length co106) t307) ∧ (Kd.R k91 91 w' w.heap.size (fun k_ => some k_ ≠ (v271 : Value).ownBlock ∧ some k_ ≠ (v276 : Value).ownBlock ∧ some k_ ≠ (.slice Ao69 t280.length co69 : Value).ownBlock ∧ some k_ ≠ (.slice Ao79 t287.length co79 : Value).ownBlock ∧ some k_ ≠ (.slice Ao89 t293.length co89 : Value).ownBlock ∧ some k_ ≠ (.slice Ao101 t299.length co101 : Value).ownBlock ∧ some k_ ≠ (.slice Ao106 t307.length co106 : Value).ownBlock ∧ some k_ ≠ (s_.1 : Value).ownBlock ∧ some k_ ≠ (s_.2.1 : Value).ownBlock ∧ some k_ ≠ (s_.2.2.1 : Value).ownBlock) (.slice Ao110 t313.length co110) t313) ∧ (Kd.R k91 91 w' w.heap.size (fun k_ => some k_ ≠ (v271 : Value).ownBlock ∧ some k_ ≠ (v276 : Value).ownBlock ∧ some k_ ≠ (.slice Ao69 t280.length co69 : Value).ownBlock ∧ some k_ ≠ (.slice Ao79 t287.length co79 : Value).ownBlock ∧ some k_ ≠ (.slice Ao89 t293.length co89 : Value).ownBlock ∧ some k_ ≠ (.slice Ao101 t299.length co101 : Value).ownBlock ∧ some k_ ≠ (.slice Ao106 t307.length co106 : Value).ownBlock ∧ some k_ ≠ (.slice Ao110 t313.length co110 : Value).ownBlock ∧ some k_ ≠ (s_.2.1 : Value).ownBlock ∧ some k_ ≠ (s_.2.2.1 : Value).ownBlock) s_.1 t327) ∧ (Kd.R k91 91 w' w.heap.size (fun k_ => some k_ ≠ (v271 : Value).ownBlock ∧ some k_ ≠ (v276 : Value).ownBlock ∧ some k_ ≠ (.slice Ao69 t280.length co69 : Value).ownBlock ∧ some k_ ≠ (.slice Ao79 t287.length co79 : Value).ownBlock ∧ some k_ ≠ (.slice Ao89 t293.length co89 : Value).ownBlock ∧ some k_ ≠ (.slice Ao101 t299.length co101 : Value).ownBlock ∧ some k_ ≠ (.slice Ao106 t307.length co106 : Value).ownBlock ∧ some k_ ≠ (.slice Ao110 t313.length co110 : Value).ownBlock ∧ some k_ ≠ (s_.1 : Value).ownBlock ∧ some k_ ≠ (s_.2.2.1 : Value).ownBlock) s_.2.1 t332) ∧ (Kd.R k91 91 w' w.heap.size (fun k_ => some k_ ≠ (v271 : Value).ownBlock ∧ some k_ ≠ (v276 : Value).ownBlock ∧ some k_ ≠ (.slice Ao69 t280.length co69 : Value).ownBlock ∧ some k_ ≠ (.slice Ao79 t287.length co79 : Value).ownBlock ∧ some k_ ≠ (.slice Ao89 t293.length co89 : Value).ownBlock ∧ some k_ ≠ (.slice Ao101 t299.length co101 : Value).ownBlock ∧ some k_ ≠ (.slice Ao106 t307.length co106 : Value).ownBlock ∧ some k_ ≠ (.slice Ao110 t313.length co110 : Value).ownBlock ∧ some k_ ≠ (s_.1 : Value).ownBlock ∧ some k_ ≠ (s_.2.1 : Value).ownBlock) s_.2.2.1 t337) ∧ (w'.heap[gb264]? = some (.cells #[.int .i8 a0_0, .int .i8 a0_1, .slice A0_2 l0_2.length c0_2] 25 (0, 0))) ∧ (w'.heap[gb265]? = some (.cells #[.int .i8 a1_0, .int .i8 a1_1, .slice A1_2 l1_2.length c1_2] 25 (0, 0))) ∧ (w'.heap[gb284]? = some (.cells #[.int .i8 t278, .int .i8 t279, .slice Ao69 t280.length co69] 37 (0, 0))) ∧ (w'.heap[gb290]? = some (.cells #[.int .i8 t285, .int .i8 t286, .slice Ao79 t287.length co79] 37 (0, 0))) ∧ (w'.heap[gb296]? = some (.cells #[.int .i8 t291, .int .i8 t292, .slice Ao89 t293.length co89] 37 (0, 0))) ∧ (w'.heap[gb303]? = some (.cells #[.int .i8 t297, .int .i8 t298, .slice Ao101 t299.length co101] 37 (0, 0))) ∧ (w'.heap[s_.2.2.2]? = some (.cells #[.int .i8 0, .int .i8 0, .slice none 0 0] 37 (0, 0))) ∧ (w.heap.size ≤ s_.2.2.2) ∧ (w.heap.size ≤ s_.2.2.2) ∧ (gb264 ≠ s_.2.2.2) ∧ (s_.2.2.2 ≠ gb264) ∧ (gb265 ≠ s_.2.2.2) ∧ (s_.2.2.2 ≠ gb265) ∧ (gb284 ≠ s_.2.2.2) ∧ (s_.2.2.2 ≠ gb284) ∧ (gb290 ≠ s_.2.2.2) ∧ (s_.2.2.2 ≠ gb290) ∧ (gb296 ≠ s_.2.2.2) ∧ (s_.2.2.2 ≠ gb296) ∧ (gb303 ≠ s_.2.2.2) ∧ (s_.2.2.2 ≠ gb303) ∧ (Below w.heap.size w w')) ?_ ?_
 rotate_left
 ·intro hCont
  refine two_ (i := 1) (j := 8) (Ni := some 96) (Nj := some 15) (zq 11 7) (zq 11 261) rfl rfl rfl rfl (two_of HT_.out (by kernel_rfl)) (by decide) (by decide) (fun K hK => ?_) (fun K hK => ?_)
  rotate_left
  ·skip
   refine box_step ?hg (N := 15) ?hd (cs := #[.int .i8 0, .int .i8 0, .slice none 0 0]) (t := 37) ?hr ?_; (case hd => rfl); (case hg => rfl); (case hr => exact zgs)
   intro gb341 hg w124 hbox hb
   have n_ : _ ∧ _ ∧ _ ∧ _ ∧ _ ∧ _ ∧ _ ∧ _ ∧ _ ∧ _ ∧ _ ∧ _ ∧ _ ∧ _ ∧ _ ∧ _ ∧ _ ∧ _ ∧ _ ∧ _ ∧ _ ∧ _ ∧ _ ∧ _ ∧ _ ∧ _ ∧ _ ∧ _ ∧ _ ∧ _ := ⟨zr HO272 hb, zr HO277 hb, zr HO282 hb, zr HO289 hb, zr HO295 hb, zr HO301 hb, zr HO309 hb, zr HO315 hb, zk BK264 hb, zk BK265 hb, zk BK284 hb, zk BK290 hb, zk BK296 hb, zk BK303 hb, zbs hb, Aside0.mk (hbox), zg HB hg, zg HB hg, zn1 BK264 hg, zn2 BK264 hg, zn1 BK265 hg, zn2 BK265 hg, zn1 BK284 hg, zn2 BK284 hg, zn1 BK290 hg, zn2 BK290 hg, zn1 BK296 hg, zn2 BK296 hg, zn1 BK303 hg, zn2 BK303 hg⟩
   clear HO272 HO277 HO282 HO289 HO295 HO301 HO309 HO315 BK264 BK265 BK284 BK290 BK296 BK303 HB
   obtain ⟨HO272, HO277, HO282, HO289, HO295, HO301, HO309, HO315, BK264, BK265, BK284, BK290, BK296, BK303, HB, BK341, GW341, GE341, NB264_341, NB341_264, NB265_341, NB341_265, NB284_341, NB341_284, NB290_341, NB341_290, NB296_341, NB341_296, NB303_341, NB341_303⟩ := n_
   clear hb hbox hg
   refine hK.out _ _ ⟨(blk_cell BK264.out 0).trans rfl, (blk_cell BK264.out 1).trans rfl, (blk_cell BK264.out 2).trans rfl, (blk_cell BK265.out 0).trans rfl, (blk_cell BK265.out 1).trans rfl, (blk_cell BK265.out 2).trans rfl⟩ (fun hHeld => ?_)
   clear hK K
   refine norm_ (a' := ?_) ?_ ?_
   rotate_left
   ·show Act.put _ (some 15) _ = _
    exact zap
   refine one_ (i := 1) (N := some 96) (zq 11 263) rfl rfl (one_of HT_.out (by kernel_rfl)) (by decide) (fun K hK => ?_)
   refine goes_ Try.func42 (by kernel_rfl) rfl #[.agg #[.int .i8 a0_0, .int .i8 a0_1, .slice A0_2 l0_2.length c0_2]] (by rfl) rfl rfl zm ?_
   with_reducible refine (laws_toBoard.calls k a0_0 a0_1 _ _ l0_2 t325 t326 t327 _ ?side1 ?side2 A43.out).mono ?_
   (case side1 => exact zcc HB HR0_2.out)
   (case side2 => exact HC0_2.out)
   rintro e w125 ⟨v328, rfl, ho0, hb⟩
   refine ⟨_, rfl, ?_⟩
   have n_ : _ ∧ _ ∧ _ ∧ _ ∧ _ ∧ _ ∧ _ ∧ _ ∧ _ ∧ _ ∧ _ ∧ _ ∧ _ ∧ _ ∧ _ ∧ _ ∧ _ := ⟨Aside0.mk (Kd.R_elder' (ze HO272).out (Kd.R_base ho0) hb), Aside0.mk (Kd.R_elder' (ze HO277).out (Kd.R_base ho0) hb), Aside0.mk (Kd.R_elder' (ze HO282).out (Kd.R_base ho0) hb), Aside0.mk (Kd.R_elder' (ze HO289).out (Kd.R_base ho0) hb), Aside0.mk (Kd.R_elder' (ze HO295).out (Kd.R_base ho0) hb), Aside0.mk (Kd.R_elder' (ze HO301).out (Kd.R_base ho0) hb), Aside0.mk (Kd.R_elder' (ze HO309).out (Kd.R_base ho0) hb), Aside0.mk (Kd.R_elder' (ze HO315).out (Kd.R_base ho0) hb), Aside0.mk (Kd.R_lower (Kd.R_new' (Kd.R_new' (Kd.R_new' (Kd.R_new' (Kd.R_new' (Kd.R_new' (Kd.R_new' (Kd.R_new' ho0 (Kd.R_lt (ze HO272).out)) (Kd.R_lt (ze HO277).out)) (Kd.R_lt (ze HO282).out)) (Kd.R_lt (ze HO289).out)) (Kd.R_lt (ze HO295).out)) (Kd.R_lt (ze HO301).out)) (Kd.R_lt (ze HO309).out)) (Kd.R_lt (ze HO315).out)) (zz HB)), zk BK264 hb, zk BK265 hb, zk BK284 hb, zk BK290 hb, zk BK296 hb, zk BK303 hb, zk BK341 hb, zbs hb⟩
   clear HO272 HO277 HO282 HO289 HO295 HO301 HO309 HO315 BK264 BK265 BK284 BK290 BK296 BK303 BK341 HB
   obtain ⟨HO272, HO277, HO282, HO289, HO295, HO301, HO309, HO315, HO329, BK264, BK265, BK284, BK290, BK296, BK303, BK341, HB⟩ := n_
   (try clear hb)
   (try clear hb2)
   (try clear hk)
   (try clear hi)
   (try clear ho0)
   refine hK.out _ _ ⟨(blk_cell BK264.out 0).trans rfl, (blk_cell BK264.out 1).trans rfl, (blk_cell BK264.out 2).trans rfl, (blk_cell BK265.out 0).trans rfl, (blk_cell BK265.out 1).trans rfl, (blk_cell BK265.out 2).trans rfl⟩ (fun hHeld => ?_)
   clear hK K
   refine norm_ (a' := ?_) ?_ ?_
   rotate_left
   ·show Act.put _ (some 96) _ = _
    exact zap
   refine one_ (i := 3) (N := some 98) (zq 11 271) rfl rfl (one_of HT_.out (by kernel_rfl)) (by decide) (fun K hK => ?_)
   refine goes_ Try.func42 (by kernel_rfl) rfl #[.agg #[.int .i8 a1_0, .int .i8 a1_1, .slice A1_2 l1_2.length c1_2]] (by rfl) rfl rfl zm ?_
   with_reducible refine (laws_toBoard.calls k a1_0 a1_1 _ _ l1_2 t330 t331 t332 _ ?side1 ?side2 A44.out).mono ?_
   (case side1 => exact zcc HB HR1_2.out)
   (case side2 => exact HC1_2.out)
   rintro e w126 ⟨v333, rfl, ho0, hb⟩
   refine ⟨_, rfl, ?_⟩
   have n_ : _ ∧ _ ∧ _ ∧ _ ∧ _ ∧ _ ∧ _ ∧ _ ∧ _ ∧ _ ∧ _ ∧ _ ∧ _ ∧ _ ∧ _ ∧ _ ∧ _ ∧ _ := ⟨Aside0.mk (Kd.R_elder' (ze HO272).out (Kd.R_base ho0) hb), Aside0.mk (Kd.R_elder' (ze HO277).out (Kd.R_base ho0) hb), Aside0.mk (Kd.R_elder' (ze HO282).out (Kd.R_base ho0) hb), Aside0.mk (Kd.R_elder' (ze HO289).out (Kd.R_base ho0) hb), Aside0.mk (Kd.R_elder' (ze HO295).out (Kd.R_base ho0) hb), Aside0.mk (Kd.R_elder' (ze HO301).out (Kd.R_base ho0) hb), Aside0.mk (Kd.R_elder' (ze HO309).out (Kd.R_base ho0) hb), Aside0.mk (Kd.R_elder' (ze HO315).out (Kd.R_base ho0) hb), Aside0.mk (Kd.R_elder' (ze HO329).out (Kd.R_base ho0) hb), Aside0.mk (Kd.R_lower (Kd.R_new' (Kd.R_new' (Kd.R_new' (Kd.R_new' (Kd.R_new' (Kd.R_new' (Kd.R_new' (Kd.R_new' (Kd.R_new' ho0 (Kd.R_lt (ze HO272).out)) (Kd.R_lt (ze HO277).out)) (Kd.R_lt (ze HO282).out)) (Kd.R_lt (ze HO289).out)) (Kd.R_lt (ze HO295).out)) (Kd.R_lt (ze HO301).out)) (Kd.R_lt (ze HO309).out)) (Kd.R_lt (ze HO315).out)) (Kd.R_lt (ze HO329).out)) (zz HB)), zk BK264 hb, zk BK265 hb, zk BK284 hb, zk BK290 hb, zk BK296 hb, zk BK303 hb, zk BK341 hb, zbs hb⟩
   clear HO272 HO277 HO282 HO289 HO295 HO301 HO309 HO315 HO329 BK264 BK265 BK284 BK290 BK296 BK303 BK341 HB
   obtain ⟨HO272, HO277, HO282, HO289, HO295, HO301, HO309, HO315, HO329, HO334, BK264, BK265, BK284, BK290, BK296, BK303, BK341, HB⟩ := n_
   (try clear hb)
   (try clear hb2)
   (try clear hk)
   (try clear hi)
   (try clear ho0)
   obtain ⟨Ao127, co127, eo127⟩ := Kd.R_slice HO329.out
   (first | subst eo127 | (injection eo127 with f1_ f2_ f3_; have f4_ := f1_.symm; have f5_ := f3_.symm; clear f1_ f2_ f3_; subst f4_; subst f5_))
   obtain ⟨Ao128, co128, eo128⟩ := Kd.R_slice HO334.out
   (first | subst eo128 | (injection eo128 with f1_ f2_ f3_; have f4_ := f1_.symm; have f5_ := f3_.symm; clear f1_ f2_ f3_; subst f4_; subst f5_))
   refine hK.out _ _ ⟨(blk_cell BK264.out 0).trans rfl, (blk_cell BK264.out 1).trans rfl, (blk_cell BK264.out 2).trans rfl, (blk_cell BK265.out 0).trans rfl, (blk_cell BK265.out 1).trans rfl, (blk_cell BK265.out 2).trans rfl⟩ (fun hHeld => ?_)
   clear hK K
   refine norm_ (a' := ?_) ?_ ?_
   rotate_left
   ·show Act.put _ (some 98) _ = _
    exact zap
   refine one_ (i := 4) (N := some 99) (zq 11 287) rfl rfl (one_of HT_.out (by kernel_rfl)) (by decide) (fun K hK => ?_)
   refine goes_ Try.func72 (by kernel_rfl) rfl #[.agg #[.int .i8 t325, .int .i8 t326, .slice Ao127 t327.length co127], .agg #[.int .i8 t330, .int .i8 t331, .slice Ao128 t332.length co128]] (by rfl) rfl rfl zm ?_
   with_reducible refine (impl_JoinBoards.calls k t325 t326 (fun k_ => some k_ = (.slice Ao127 t327.length co127 : Value).ownBlock) _ _ t327 t330 t331 (fun k_ => some k_ = (.slice Ao128 t332.length co128 : Value).ownBlock) _ _ t332 t335 t336 t337 t340 _ ?side1 ?side2 A45.out).mono ?_
   (case side1 => exact Kd.R_V (Kd.R_tight rfl (Kd.R_types (Kd.R_types (Kd.R_types (Kd.R_types (Kd.R_types (Kd.R_types (Kd.R_types (HO329.out) BK264.out (by decide)) BK265.out (by decide)) BK284.out (by decide)) BK290.out (by decide)) BK296.out (by decide)) BK303.out (by decide)) BK341.out (by decide))))
   (case side2 => exact Kd.R_V (Kd.R_tight rfl (Kd.R_types (Kd.R_types (Kd.R_types (Kd.R_types (Kd.R_types (Kd.R_types (Kd.R_types (HO334.out) BK264.out (by decide)) BK265.out (by decide)) BK284.out (by decide)) BK290.out (by decide)) BK296.out (by decide)) BK303.out (by decide)) BK341.out (by decide))))
   rintro e w129 ⟨v338, rfl, ho0, hb⟩
   refine ⟨_, rfl, ?_⟩
   have n_ : _ ∧ _ ∧ _ ∧ _ ∧ _ ∧ _ ∧ _ ∧ _ ∧ _ ∧ _ ∧ _ ∧ _ ∧ _ ∧ _ ∧ _ ∧ _ ∧ _ ∧ _ ∧ _ := ⟨Aside0.mk (Kd.R_elder' (ze HO272).out (Kd.R_base ho0) hb), Aside0.mk (Kd.R_elder' (ze HO277).out (Kd.R_base ho0) hb), Aside0.mk (Kd.R_elder' (ze HO282).out (Kd.R_base ho0) hb), Aside0.mk (Kd.R_elder' (ze HO289).out (Kd.R_base ho0) hb), Aside0.mk (Kd.R_elder' (ze HO295).out (Kd.R_base ho0) hb), Aside0.mk (Kd.R_elder' (ze HO301).out (Kd.R_base ho0) hb), Aside0.mk (Kd.R_elder' (ze HO309).out (Kd.R_base ho0) hb), Aside0.mk (Kd.R_elder' (ze HO315).out (Kd.R_base ho0) hb), Aside0.mk (Kd.R_elder' (ze HO329).out (Kd.R_base ho0) hb), Aside0.mk (Kd.R_elder' (ze HO334).out (Kd.R_base ho0) hb), Aside0.mk (Kd.R_lower (Kd.R_new' (Kd.R_new' (Kd.R_new' (Kd.R_new' (Kd.R_new' (Kd.R_new' (Kd.R_new' (Kd.R_new' (Kd.R_new' (Kd.R_new' (Kd.R_mono (ok' := fun k_ => True) ho0 (fun _ hk_ => trivial)) (Kd.R_lt (ze HO272).out)) (Kd.R_lt (ze HO277).out)) (Kd.R_lt (ze HO282).out)) (Kd.R_lt (ze HO289).out)) (Kd.R_lt (ze HO295).out)) (Kd.R_lt (ze HO301).out)) (Kd.R_lt (ze HO309).out)) (Kd.R_lt (ze HO315).out)) (Kd.R_lt (ze HO329).out)) (Kd.R_lt (ze HO334).out)) (zz HB)), zk BK264 hb, zk BK265 hb, zk BK284 hb, zk BK290 hb, zk BK296 hb, zk BK303 hb, zk BK341 hb, zbs hb⟩
   clear HO272 HO277 HO282 HO289 HO295 HO301 HO309 HO315 HO329 HO334 BK264 BK265 BK284 BK290 BK296 BK303 BK341 HB
   obtain ⟨HO272, HO277, HO282, HO289, HO295, HO301, HO309, HO315, HO329, HO334, HO339, BK264, BK265, BK284, BK290, BK296, BK303, BK341, HB⟩ := n_
   (try clear hb)
   (try clear hb2)
   (try clear hk)
   (try clear hi)
   (try clear ho0)
   refine hK.out _ _ ⟨(blk_cell BK264.out 0).trans rfl, (blk_cell BK264.out 1).trans rfl, (blk_cell BK264.out 2).trans rfl, (blk_cell BK265.out 0).trans rfl, (blk_cell BK265.out 1).trans rfl, (blk_cell BK265.out 2).trans rfl⟩ (fun hHeld => ?_)
   clear hK K
   refine norm_ (a' := ?_) ?_ ?_
   rotate_left
   ·show Act.put _ (some 99) _ = _
    exact zap
   refine zpu 5 (some 94) (zq 11 319) HT_ ?_
   refine zpu 6 (some 100) (zq 11 383) HT_ ?_
   refine zpu 7 (some 101) (zq 11 511) HT_ ?_
   exact norm_ (by simp only [putAll, Act.put, List.setIfInBounds_toArray, List.set_cons_zero, List.set_cons_succ]) (hCont (.slice Ao127 t327.length co127, .slice Ao128 t332.length co128, v338, gb341) _ ⟨hHeld, (by (with_reducible repeat (first | apply Kd.R_alloc | apply Kd.R_drewN | apply Kd.R_drew)); exact Kd.R_mono HO272.out (fun _ hk => ⟨hk.1.1.1.1, ⟨hk.1.1.1.2.1, ⟨hk.1.1.1.2.2.1, ⟨hk.1.1.1.2.2.2.1, ⟨hk.1.1.1.2.2.2.2.1, ⟨hk.1.1.1.2.2.2.2.2.1, ⟨hk.1.1.1.2.2.2.2.2.2, ⟨hk.1.1.2, ⟨hk.1.2, hk.2⟩⟩⟩⟩⟩⟩⟩⟩⟩)), (by (with_reducible repeat (first | apply Kd.R_alloc | apply Kd.R_drewN | apply Kd.R_drew)); exact Kd.R_mono HO277.out (fun _ hk => ⟨hk.1.1.1.1, ⟨hk.1.1.1.2.1, ⟨hk.1.1.1.2.2.1, ⟨hk.1.1.1.2.2.2.1, ⟨hk.1.1.1.2.2.2.2.1, ⟨hk.1.1.1.2.2.2.2.2.1, ⟨hk.1.1.1.2.2.2.2.2.2, ⟨hk.1.1.2, ⟨hk.1.2, hk.2⟩⟩⟩⟩⟩⟩⟩⟩⟩)), (by (with_reducible repeat (first | apply Kd.R_alloc | apply Kd.R_drewN | apply Kd.R_drew)); exact Kd.R_mono HO282.out (fun _ hk => ⟨hk.1.1.1.1, ⟨hk.1.1.1.2.1, ⟨hk.1.1.1.2.2.1, ⟨hk.1.1.1.2.2.2.1, ⟨hk.1.1.1.2.2.2.2.1, ⟨hk.1.1.1.2.2.2.2.2.1, ⟨hk.1.1.1.2.2.2.2.2.2, ⟨hk.1.1.2, ⟨hk.1.2, hk.2⟩⟩⟩⟩⟩⟩⟩⟩⟩)), (by (with_reducible repeat (first | apply Kd.R_alloc | apply Kd.R_drewN | apply Kd.R_drew)); exact Kd.R_mono HO289.out (fun _ hk => ⟨hk.1.1.1.1, ⟨hk.1.1.1.2.1, ⟨hk.1.1.1.2.2.1, ⟨hk.1.1.1.2.2.2.1, ⟨hk.1.1.1.2.2.2.2.1, ⟨hk.1.1.1.2.2.2.2.2.1, ⟨hk.1.1.1.2.2.2.2.2.2, ⟨hk.1.1.2, ⟨hk.1.2, hk.2⟩⟩⟩⟩⟩⟩⟩⟩⟩)), (by (with_reducible repeat (first | apply Kd.R_alloc | apply Kd.R_drewN | apply Kd.R_drew)); exact Kd.R_mono HO295.out (fun _ hk => ⟨hk.1.1.1.1, ⟨hk.1.1.1.2.1, ⟨hk.1.1.1.2.2.1, ⟨hk.1.1.1.2.2.2.1, ⟨hk.1.1.1.2.2.2.2.1, ⟨hk.1.1.1.2.2.2.2.2.1, ⟨hk.1.1.1.2.2.2.2.2.2, ⟨hk.1.1.2, ⟨hk.1.2, hk.2⟩⟩⟩⟩⟩⟩⟩⟩⟩)), (by (with_reducible repeat (first | apply Kd.R_alloc | apply Kd.R_drewN | apply Kd.R_drew)); exact Kd.R_mono HO301.out (fun _ hk => ⟨hk.1.1.1.1, ⟨hk.1.1.1.2.1, ⟨hk.1.1.1.2.2.1, ⟨hk.1.1.1.2.2.2.1, ⟨hk.1.1.1.2.2.2.2.1, ⟨hk.1.1.1.2.2.2.2.2.1, ⟨hk.1.1.1.2.2.2.2.2.2, ⟨hk.1.1.2, ⟨hk.1.2, hk.2⟩⟩⟩⟩⟩⟩⟩⟩⟩)), (by (with_reducible repeat (first | apply Kd.R_alloc | apply Kd.R_drewN | apply Kd.R_drew)); exact Kd.R_mono HO309.out (fun _ hk => ⟨hk.1.1.1.1, ⟨hk.1.1.1.2.1, ⟨hk.1.1.1.2.2.1, ⟨hk.1.1.1.2.2.2.1, ⟨hk.1.1.1.2.2.2.2.1, ⟨hk.1.1.1.2.2.2.2.2.1, ⟨hk.1.1.1.2.2.2.2.2.2, ⟨hk.1.1.2, ⟨hk.1.2, hk.2⟩⟩⟩⟩⟩⟩⟩⟩⟩)), (by (with_reducible repeat (first | apply Kd.R_alloc | apply Kd.R_drewN | apply Kd.R_drew)); exact Kd.R_mono HO315.out (fun _ hk => ⟨hk.1.1.1.1, ⟨hk.1.1.1.2.1, ⟨hk.1.1.1.2.2.1, ⟨hk.1.1.1.2.2.2.1, ⟨hk.1.1.1.2.2.2.2.1, ⟨hk.1.1.1.2.2.2.2.2.1, ⟨hk.1.1.1.2.2.2.2.2.2, ⟨hk.1.1.2, ⟨hk.1.2, hk.2⟩⟩⟩⟩⟩⟩⟩⟩⟩)), (by (with_reducible repeat (first | apply Kd.R_alloc | apply Kd.R_drewN | apply Kd.R_drew)); exact Kd.R_mono HO329.out (fun _ hk => ⟨hk.1.1.1.1.1.1.1.1.1.2, ⟨hk.1.1.1.1.1.1.1.1.2, ⟨hk.1.1.1.1.1.1.1.2, ⟨hk.1.1.1.1.1.1.2, ⟨hk.1.1.1.1.1.2, ⟨hk.1.1.1.1.2, ⟨hk.1.1.1.2, ⟨hk.1.1.2, ⟨hk.1.2, hk.2⟩⟩⟩⟩⟩⟩⟩⟩⟩)), (by (with_reducible repeat (first | apply Kd.R_alloc | apply Kd.R_drewN | apply Kd.R_drew)); exact Kd.R_mono HO334.out (fun _ hk => ⟨hk.1.1.1.1.1.1.1.1.1.2, ⟨hk.1.1.1.1.1.1.1.1.2, ⟨hk.1.1.1.1.1.1.1.2, ⟨hk.1.1.1.1.1.1.2, ⟨hk.1.1.1.1.1.2, ⟨hk.1.1.1.1.2, ⟨hk.1.1.1.2, ⟨hk.1.1.2, ⟨hk.1.2, hk.2⟩⟩⟩⟩⟩⟩⟩⟩⟩)), (by (with_reducible repeat (first | apply Kd.R_alloc | apply Kd.R_drewN | apply Kd.R_drew)); exact Kd.R_mono HO339.out (fun _ hk => ⟨hk.1.1.1.1.1.1.1.1.1.2, ⟨hk.1.1.1.1.1.1.1.1.2, ⟨hk.1.1.1.1.1.1.1.2, ⟨hk.1.1.1.1.1.1.2, ⟨hk.1.1.1.1.1.2, ⟨hk.1.1.1.1.2, ⟨hk.1.1.1.2, ⟨hk.1.1.2, ⟨hk.1.2, hk.2⟩⟩⟩⟩⟩⟩⟩⟩⟩)), (zh BK264).out, (zh BK265).out, (zh BK284).out, (zh BK290).out, (zh BK296).out, (zh BK303).out, (zh BK341).out, GW341.out, GE341.out, NB264_341.out, NB341_264.out, NB265_341.out, NB341_265.out, NB284_341.out, NB341_284.out, NB290_341.out, NB341_290.out, NB296_341.out, NB341_296.out, NB303_341.out, NB341_303.out, zbo⟩)
  skip
  refine goes_ Try.func42 (by kernel_rfl) rfl #[.agg #[.int .i8 a0_0, .int .i8 a0_1, .slice A0_2 l0_2.length c0_2]] (by rfl) rfl rfl zm ?_
  with_reducible refine (laws_toBoard.calls k a0_0 a0_1 _ _ l0_2 t325 t326 t327 _ ?side1 ?side2 A43.out).mono ?_
  (case side1 => exact zcc HB HR0_2.out)
  (case side2 => exact HC0_2.out)
  rintro e w124 ⟨v328, rfl, ho0, hb⟩
  refine ⟨_, rfl, ?_⟩
  have n_ : _ ∧ _ ∧ _ ∧ _ ∧ _ ∧ _ ∧ _ ∧ _ ∧ _ ∧ _ ∧ _ ∧ _ ∧ _ ∧ _ ∧ _ ∧ _ := ⟨Aside0.mk (Kd.R_elder' (ze HO272).out (Kd.R_base ho0) hb), Aside0.mk (Kd.R_elder' (ze HO277).out (Kd.R_base ho0) hb), Aside0.mk (Kd.R_elder' (ze HO282).out (Kd.R_base ho0) hb), Aside0.mk (Kd.R_elder' (ze HO289).out (Kd.R_base ho0) hb), Aside0.mk (Kd.R_elder' (ze HO295).out (Kd.R_base ho0) hb), Aside0.mk (Kd.R_elder' (ze HO301).out (Kd.R_base ho0) hb), Aside0.mk (Kd.R_elder' (ze HO309).out (Kd.R_base ho0) hb), Aside0.mk (Kd.R_elder' (ze HO315).out (Kd.R_base ho0) hb), Aside0.mk (Kd.R_lower (Kd.R_new' (Kd.R_new' (Kd.R_new' (Kd.R_new' (Kd.R_new' (Kd.R_new' (Kd.R_new' (Kd.R_new' ho0 (Kd.R_lt (ze HO272).out)) (Kd.R_lt (ze HO277).out)) (Kd.R_lt (ze HO282).out)) (Kd.R_lt (ze HO289).out)) (Kd.R_lt (ze HO295).out)) (Kd.R_lt (ze HO301).out)) (Kd.R_lt (ze HO309).out)) (Kd.R_lt (ze HO315).out)) (zz HB)), zk BK264 hb, zk BK265 hb, zk BK284 hb, zk BK290 hb, zk BK296 hb, zk BK303 hb, zbs hb⟩
  clear HO272 HO277 HO282 HO289 HO295 HO301 HO309 HO315 BK264 BK265 BK284 BK290 BK296 BK303 HB
  obtain ⟨HO272, HO277, HO282, HO289, HO295, HO301, HO309, HO315, HO329, BK264, BK265, BK284, BK290, BK296, BK303, HB⟩ := n_
  (try clear hb)
  (try clear hb2)
  (try clear hk)
  (try clear hi)
  (try clear ho0)
  refine hK.out _ _ ⟨(blk_cell BK264.out 0).trans rfl, (blk_cell BK264.out 1).trans rfl, (blk_cell BK264.out 2).trans rfl, (blk_cell BK265.out 0).trans rfl, (blk_cell BK265.out 1).trans rfl, (blk_cell BK265.out 2).trans rfl⟩ (fun hHeld => ?_)
  clear hK K
  refine norm_ (a' := ?_) ?_ ?_
  rotate_left
  ·show Act.put _ (some 96) _ = _
   exact zap
  refine two_ (i := 3) (j := 8) (Ni := some 98) (Nj := some 15) (zq 11 15) (zq 11 263) rfl rfl rfl rfl (two_of HT_.out (by kernel_rfl)) (by decide) (by decide) (fun K hK => ?_) (fun K hK => ?_)
  rotate_left
  ·skip
   refine box_step ?hg (N := 15) ?hd (cs := #[.int .i8 0, .int .i8 0, .slice none 0 0]) (t := 37) ?hr ?_; (case hd => rfl); (case hg => rfl); (case hr => exact zgs)
   intro gb341 hg w125 hbox hb
   have n_ : _ ∧ _ ∧ _ ∧ _ ∧ _ ∧ _ ∧ _ ∧ _ ∧ _ ∧ _ ∧ _ ∧ _ ∧ _ ∧ _ ∧ _ ∧ _ ∧ _ ∧ _ ∧ _ ∧ _ ∧ _ ∧ _ ∧ _ ∧ _ ∧ _ ∧ _ ∧ _ ∧ _ ∧ _ ∧ _ ∧ _ := ⟨zr HO272 hb, zr HO277 hb, zr HO282 hb, zr HO289 hb, zr HO295 hb, zr HO301 hb, zr HO309 hb, zr HO315 hb, zr HO329 hb, zk BK264 hb, zk BK265 hb, zk BK284 hb, zk BK290 hb, zk BK296 hb, zk BK303 hb, zbs hb, Aside0.mk (hbox), zg HB hg, zg HB hg, zn1 BK264 hg, zn2 BK264 hg, zn1 BK265 hg, zn2 BK265 hg, zn1 BK284 hg, zn2 BK284 hg, zn1 BK290 hg, zn2 BK290 hg, zn1 BK296 hg, zn2 BK296 hg, zn1 BK303 hg, zn2 BK303 hg⟩
   clear HO272 HO277 HO282 HO289 HO295 HO301 HO309 HO315 HO329 BK264 BK265 BK284 BK290 BK296 BK303 HB
   obtain ⟨HO272, HO277, HO282, HO289, HO295, HO301, HO309, HO315, HO329, BK264, BK265, BK284, BK290, BK296, BK303, HB, BK341, GW341, GE341, NB264_341, NB341_264, NB265_341, NB341_265, NB284_341, NB341_284, NB290_341, NB341_290, NB296_341, NB341_296, NB303_341, NB341_303⟩ := n_
   clear hb hbox hg
   refine hK.out _ _ ⟨(blk_cell BK264.out 0).trans rfl, (blk_cell BK264.out 1).trans rfl, (blk_cell BK264.out 2).trans rfl, (blk_cell BK265.out 0).trans rfl, (blk_cell BK265.out 1).trans rfl, (blk_cell BK265.out 2).trans rfl⟩ (fun hHeld => ?_)
   clear hK K
   refine norm_ (a' := ?_) ?_ ?_
   rotate_left
   ·show Act.put _ (some 15) _ = _
    exact zap
   refine one_ (i := 3) (N := some 98) (zq 11 271) rfl rfl (one_of HT_.out (by kernel_rfl)) (by decide) (fun K hK => ?_)
   refine goes_ Try.func42 (by kernel_rfl) rfl #[.agg #[.int .i8 a1_0, .int .i8 a1_1, .slice A1_2 l1_2.length c1_2]] (by rfl) rfl rfl zm ?_
   with_reducible refine (laws_toBoard.calls k a1_0 a1_1 _ _ l1_2 t330 t331 t332 _ ?side1 ?side2 A44.out).mono ?_
   (case side1 => exact zcc HB HR1_2.out)
   (case side2 => exact HC1_2.out)
   rintro e w126 ⟨v333, rfl, ho0, hb⟩
   refine ⟨_, rfl, ?_⟩
   have n_ : _ ∧ _ ∧ _ ∧ _ ∧ _ ∧ _ ∧ _ ∧ _ ∧ _ ∧ _ ∧ _ ∧ _ ∧ _ ∧ _ ∧ _ ∧ _ ∧ _ ∧ _ := ⟨Aside0.mk (Kd.R_elder' (ze HO272).out (Kd.R_base ho0) hb), Aside0.mk (Kd.R_elder' (ze HO277).out (Kd.R_base ho0) hb), Aside0.mk (Kd.R_elder' (ze HO282).out (Kd.R_base ho0) hb), Aside0.mk (Kd.R_elder' (ze HO289).out (Kd.R_base ho0) hb), Aside0.mk (Kd.R_elder' (ze HO295).out (Kd.R_base ho0) hb), Aside0.mk (Kd.R_elder' (ze HO301).out (Kd.R_base ho0) hb), Aside0.mk (Kd.R_elder' (ze HO309).out (Kd.R_base ho0) hb), Aside0.mk (Kd.R_elder' (ze HO315).out (Kd.R_base ho0) hb), Aside0.mk (Kd.R_elder' (ze HO329).out (Kd.R_base ho0) hb), Aside0.mk (Kd.R_lower (Kd.R_new' (Kd.R_new' (Kd.R_new' (Kd.R_new' (Kd.R_new' (Kd.R_new' (Kd.R_new' (Kd.R_new' (Kd.R_new' ho0 (Kd.R_lt (ze HO272).out)) (Kd.R_lt (ze HO277).out)) (Kd.R_lt (ze HO282).out)) (Kd.R_lt (ze HO289).out)) (Kd.R_lt (ze HO295).out)) (Kd.R_lt (ze HO301).out)) (Kd.R_lt (ze HO309).out)) (Kd.R_lt (ze HO315).out)) (Kd.R_lt (ze HO329).out)) (zz HB)), zk BK264 hb, zk BK265 hb, zk BK284 hb, zk BK290 hb, zk BK296 hb, zk BK303 hb, zk BK341 hb, zbs hb⟩
   clear HO272 HO277 HO282 HO289 HO295 HO301 HO309 HO315 HO329 BK264 BK265 BK284 BK290 BK296 BK303 BK341 HB
   obtain ⟨HO272, HO277, HO282, HO289, HO295, HO301, HO309, HO315, HO329, HO334, BK264, BK265, BK284, BK290, BK296, BK303, BK341, HB⟩ := n_
   (try clear hb)
   (try clear hb2)
   (try clear hk)
   (try clear hi)
   (try clear ho0)
   obtain ⟨Ao127, co127, eo127⟩ := Kd.R_slice HO329.out
   (first | subst eo127 | (injection eo127 with f1_ f2_ f3_; have f4_ := f1_.symm; have f5_ := f3_.symm; clear f1_ f2_ f3_; subst f4_; subst f5_))
   obtain ⟨Ao128, co128, eo128⟩ := Kd.R_slice HO334.out
   (first | subst eo128 | (injection eo128 with f1_ f2_ f3_; have f4_ := f1_.symm; have f5_ := f3_.symm; clear f1_ f2_ f3_; subst f4_; subst f5_))
   refine hK.out _ _ ⟨(blk_cell BK264.out 0).trans rfl, (blk_cell BK264.out 1).trans rfl, (blk_cell BK264.out 2).trans rfl, (blk_cell BK265.out 0).trans rfl, (blk_cell BK265.out 1).trans rfl, (blk_cell BK265.out 2).trans rfl⟩ (fun hHeld => ?_)
   clear hK K
   refine norm_ (a' := ?_) ?_ ?_
   rotate_left
   ·show Act.put _ (some 98) _ = _
    exact zap
   refine one_ (i := 4) (N := some 99) (zq 11 287) rfl rfl (one_of HT_.out (by kernel_rfl)) (by decide) (fun K hK => ?_)
   refine goes_ Try.func72 (by kernel_rfl) rfl #[.agg #[.int .i8 t325, .int .i8 t326, .slice Ao127 t327.length co127], .agg #[.int .i8 t330, .int .i8 t331, .slice Ao128 t332.length co128]] (by rfl) rfl rfl zm ?_
   with_reducible refine (impl_JoinBoards.calls k t325 t326 (fun k_ => some k_ = (.slice Ao127 t327.length co127 : Value).ownBlock) _ _ t327 t330 t331 (fun k_ => some k_ = (.slice Ao128 t332.length co128 : Value).ownBlock) _ _ t332 t335 t336 t337 t340 _ ?side1 ?side2 A45.out).mono ?_
   (case side1 => exact Kd.R_V (Kd.R_tight rfl (Kd.R_types (Kd.R_types (Kd.R_types (Kd.R_types (Kd.R_types (Kd.R_types (Kd.R_types (HO329.out) BK264.out (by decide)) BK265.out (by decide)) BK284.out (by decide)) BK290.out (by decide)) BK296.out (by decide)) BK303.out (by decide)) BK341.out (by decide))))
   (case side2 => exact Kd.R_V (Kd.R_tight rfl (Kd.R_types (Kd.R_types (Kd.R_types (Kd.R_types (Kd.R_types (Kd.R_types (Kd.R_types (HO334.out) BK264.out (by decide)) BK265.out (by decide)) BK284.out (by decide)) BK290.out (by decide)) BK296.out (by decide)) BK303.out (by decide)) BK341.out (by decide))))
   rintro e w129 ⟨v338, rfl, ho0, hb⟩
   refine ⟨_, rfl, ?_⟩
   have n_ : _ ∧ _ ∧ _ ∧ _ ∧ _ ∧ _ ∧ _ ∧ _ ∧ _ ∧ _ ∧ _ ∧ _ ∧ _ ∧ _ ∧ _ ∧ _ ∧ _ ∧ _ ∧ _ := ⟨Aside0.mk (Kd.R_elder' (ze HO272).out (Kd.R_base ho0) hb), Aside0.mk (Kd.R_elder' (ze HO277).out (Kd.R_base ho0) hb), Aside0.mk (Kd.R_elder' (ze HO282).out (Kd.R_base ho0) hb), Aside0.mk (Kd.R_elder' (ze HO289).out (Kd.R_base ho0) hb), Aside0.mk (Kd.R_elder' (ze HO295).out (Kd.R_base ho0) hb), Aside0.mk (Kd.R_elder' (ze HO301).out (Kd.R_base ho0) hb), Aside0.mk (Kd.R_elder' (ze HO309).out (Kd.R_base ho0) hb), Aside0.mk (Kd.R_elder' (ze HO315).out (Kd.R_base ho0) hb), Aside0.mk (Kd.R_elder' (ze HO329).out (Kd.R_base ho0) hb), Aside0.mk (Kd.R_elder' (ze HO334).out (Kd.R_base ho0) hb), Aside0.mk (Kd.R_lower (Kd.R_new' (Kd.R_new' (Kd.R_new' (Kd.R_new' (Kd.R_new' (Kd.R_new' (Kd.R_new' (Kd.R_new' (Kd.R_new' (Kd.R_new' (Kd.R_mono (ok' := fun k_ => True) ho0 (fun _ hk_ => trivial)) (Kd.R_lt (ze HO272).out)) (Kd.R_lt (ze HO277).out)) (Kd.R_lt (ze HO282).out)) (Kd.R_lt (ze HO289).out)) (Kd.R_lt (ze HO295).out)) (Kd.R_lt (ze HO301).out)) (Kd.R_lt (ze HO309).out)) (Kd.R_lt (ze HO315).out)) (Kd.R_lt (ze HO329).out)) (Kd.R_lt (ze HO334).out)) (zz HB)), zk BK264 hb, zk BK265 hb, zk BK284 hb, zk BK290 hb, zk BK296 hb, zk BK303 hb, zk BK341 hb, zbs hb⟩
   clear HO272 HO277 HO282 HO289 HO295 HO301 HO309 HO315 HO329 HO334 BK264 BK265 BK284 BK290 BK296 BK303 BK341 HB
   obtain ⟨HO272, HO277, HO282, HO289, HO295, HO301, HO309, HO315, HO329, HO334, HO339, BK264, BK265, BK284, BK290, BK296, BK303, BK341, HB⟩ := n_
   (try clear hb)
   (try clear hb2)
   (try clear hk)
   (try clear hi)
   (try clear ho0)
   refine hK.out _ _ ⟨(blk_cell BK264.out 0).trans rfl, (blk_cell BK264.out 1).trans rfl, (blk_cell BK264.out 2).trans rfl, (blk_cell BK265.out 0).trans rfl, (blk_cell BK265.out 1).trans rfl, (blk_cell BK265.out 2).trans rfl⟩ (fun hHeld => ?_)
   clear hK K
   refine norm_ (a' := ?_) ?_ ?_
   rotate_left
   ·show Act.put _ (some 99) _ = _
    exact zap
   refine zpu 5 (some 94) (zq 11 319) HT_ ?_
   refine zpu 6 (some 100) (zq 11 383) HT_ ?_
   refine zpu 7 (some 101) (zq 11 511) HT_ ?_
   exact norm_ (by simp only [putAll, Act.put, List.setIfInBounds_toArray, List.set_cons_zero, List.set_cons_succ]) (hCont (.slice Ao127 t327.length co127, .slice Ao128 t332.length co128, v338, gb341) _ ⟨hHeld, (by (with_reducible repeat (first | apply Kd.R_alloc | apply Kd.R_drewN | apply Kd.R_drew)); exact Kd.R_mono HO272.out (fun _ hk => ⟨hk.1.1.1.1, ⟨hk.1.1.1.2.1, ⟨hk.1.1.1.2.2.1, ⟨hk.1.1.1.2.2.2.1, ⟨hk.1.1.1.2.2.2.2.1, ⟨hk.1.1.1.2.2.2.2.2.1, ⟨hk.1.1.1.2.2.2.2.2.2, ⟨hk.1.1.2, ⟨hk.1.2, hk.2⟩⟩⟩⟩⟩⟩⟩⟩⟩)), (by (with_reducible repeat (first | apply Kd.R_alloc | apply Kd.R_drewN | apply Kd.R_drew)); exact Kd.R_mono HO277.out (fun _ hk => ⟨hk.1.1.1.1, ⟨hk.1.1.1.2.1, ⟨hk.1.1.1.2.2.1, ⟨hk.1.1.1.2.2.2.1, ⟨hk.1.1.1.2.2.2.2.1, ⟨hk.1.1.1.2.2.2.2.2.1, ⟨hk.1.1.1.2.2.2.2.2.2, ⟨hk.1.1.2, ⟨hk.1.2, hk.2⟩⟩⟩⟩⟩⟩⟩⟩⟩)), (by (with_reducible repeat (first | apply Kd.R_alloc | apply Kd.R_drewN | apply Kd.R_drew)); exact Kd.R_mono HO282.out (fun _ hk => ⟨hk.1.1.1.1, ⟨hk.1.1.1.2.1, ⟨hk.1.1.1.2.2.1, ⟨hk.1.1.1.2.2.2.1, ⟨hk.1.1.1.2.2.2.2.1, ⟨hk.1.1.1.2.2.2.2.2.1, ⟨hk.1.1.1.2.2.2.2.2.2, ⟨hk.1.1.2, ⟨hk.1.2, hk.2⟩⟩⟩⟩⟩⟩⟩⟩⟩)), (by (with_reducible repeat (first | apply Kd.R_alloc | apply Kd.R_drewN | apply Kd.R_drew)); exact Kd.R_mono HO289.out (fun _ hk => ⟨hk.1.1.1.1, ⟨hk.1.1.1.2.1, ⟨hk.1.1.1.2.2.1, ⟨hk.1.1.1.2.2.2.1, ⟨hk.1.1.1.2.2.2.2.1, ⟨hk.1.1.1.2.2.2.2.2.1, ⟨hk.1.1.1.2.2.2.2.2.2, ⟨hk.1.1.2, ⟨hk.1.2, hk.2⟩⟩⟩⟩⟩⟩⟩⟩⟩)), (by (with_reducible repeat (first | apply Kd.R_alloc | apply Kd.R_drewN | apply Kd.R_drew)); exact Kd.R_mono HO295.out (fun _ hk => ⟨hk.1.1.1.1, ⟨hk.1.1.1.2.1, ⟨hk.1.1.1.2.2.1, ⟨hk.1.1.1.2.2.2.1, ⟨hk.1.1.1.2.2.2.2.1, ⟨hk.1.1.1.2.2.2.2.2.1, ⟨hk.1.1.1.2.2.2.2.2.2, ⟨hk.1.1.2, ⟨hk.1.2, hk.2⟩⟩⟩⟩⟩⟩⟩⟩⟩)), (by (with_reducible repeat (first | apply Kd.R_alloc | apply Kd.R_drewN | apply Kd.R_drew)); exact Kd.R_mono HO301.out (fun _ hk => ⟨hk.1.1.1.1, ⟨hk.1.1.1.2.1, ⟨hk.1.1.1.2.2.1, ⟨hk.1.1.1.2.2.2.1, ⟨hk.1.1.1.2.2.2.2.1, ⟨hk.1.1.1.2.2.2.2.2.1, ⟨hk.1.1.1.2.2.2.2.2.2, ⟨hk.1.1.2, ⟨hk.1.2, hk.2⟩⟩⟩⟩⟩⟩⟩⟩⟩)), (by (with_reducible repeat (first | apply Kd.R_alloc | apply Kd.R_drewN | apply Kd.R_drew)); exact Kd.R_mono HO309.out (fun _ hk => ⟨hk.1.1.1.1, ⟨hk.1.1.1.2.1, ⟨hk.1.1.1.2.2.1, ⟨hk.1.1.1.2.2.2.1, ⟨hk.1.1.1.2.2.2.2.1, ⟨hk.1.1.1.2.2.2.2.2.1, ⟨hk.1.1.1.2.2.2.2.2.2, ⟨hk.1.1.2, ⟨hk.1.2, hk.2⟩⟩⟩⟩⟩⟩⟩⟩⟩)), (by (with_reducible repeat (first | apply Kd.R_alloc | apply Kd.R_drewN | apply Kd.R_drew)); exact Kd.R_mono HO315.out (fun _ hk => ⟨hk.1.1.1.1, ⟨hk.1.1.1.2.1, ⟨hk.1.1.1.2.2.1, ⟨hk.1.1.1.2.2.2.1, ⟨hk.1.1.1.2.2.2.2.1, ⟨hk.1.1.1.2.2.2.2.2.1, ⟨hk.1.1.1.2.2.2.2.2.2, ⟨hk.1.1.2, ⟨hk.1.2, hk.2⟩⟩⟩⟩⟩⟩⟩⟩⟩)), (by (with_reducible repeat (first | apply Kd.R_alloc | apply Kd.R_drewN | apply Kd.R_drew)); exact Kd.R_mono HO329.out (fun _ hk => ⟨hk.1.1.1.1.1.1.1.1.1.2, ⟨hk.1.1.1.1.1.1.1.1.2, ⟨hk.1.1.1.1.1.1.1.2, ⟨hk.1.1.1.1.1.1.2, ⟨hk.1.1.1.1.1.2, ⟨hk.1.1.1.1.2, ⟨hk.1.1.1.2, ⟨hk.1.1.2, ⟨hk.1.2, hk.2⟩⟩⟩⟩⟩⟩⟩⟩⟩)), (by (with_reducible repeat (first | apply Kd.R_alloc | apply Kd.R_drewN | apply Kd.R_drew)); exact Kd.R_mono HO334.out (fun _ hk => ⟨hk.1.1.1.1.1.1.1.1.1.2, ⟨hk.1.1.1.1.1.1.1.1.2, ⟨hk.1.1.1.1.1.1.1.2, ⟨hk.1.1.1.1.1.1.2, ⟨hk.1.1.1.1.1.2, ⟨hk.1.1.1.1.2, ⟨hk.1.1.1.2, ⟨hk.1.1.2, ⟨hk.1.2, hk.2⟩⟩⟩⟩⟩⟩⟩⟩⟩)), (by (with_reducible repeat (first | apply Kd.R_alloc | apply Kd.R_drewN | apply Kd.R_drew)); exact Kd.R_mono HO339.out (fun _ hk => ⟨hk.1.1.1.1.1.1.1.1.1.2, ⟨hk.1.1.1.1.1.1.1.1.2, ⟨hk.1.1.1.1.1.1.1.2, ⟨hk.1.1.1.1.1.1.2, ⟨hk.1.1.1.1.1.2, ⟨hk.1.1.1.1.2, ⟨hk.1.1.1.2, ⟨hk.1.1.2, ⟨hk.1.2, hk.2⟩⟩⟩⟩⟩⟩⟩⟩⟩)), (zh BK264).out, (zh BK265).out, (zh BK284).out, (zh BK290).out, (zh BK296).out, (zh BK303).out, (zh BK341).out, GW341.out, GE341.out, NB264_341.out, NB341_264.out, NB265_341.out, NB341_265.out, NB284_341.out, NB341_284.out, NB290_341.out, NB341_290.out, NB296_341.out, NB341_296.out, NB303_341.out, NB341_303.out, zbo⟩)
  skip
  refine goes_ Try.func42 (by kernel_rfl) rfl #[.agg #[.int .i8 a1_0, .int .i8 a1_1, .slice A1_2 l1_2.length c1_2]] (by rfl) rfl rfl zm ?_
  with_reducible refine (laws_toBoard.calls k a1_0 a1_1 _ _ l1_2 t330 t331 t332 _ ?side1 ?side2 A44.out).mono ?_
  (case side1 => exact zcc HB HR1_2.out)
  (case side2 => exact HC1_2.out)
  rintro e w125 ⟨v333, rfl, ho0, hb⟩
  refine ⟨_, rfl, ?_⟩
  have n_ : _ ∧ _ ∧ _ ∧ _ ∧ _ ∧ _ ∧ _ ∧ _ ∧ _ ∧ _ ∧ _ ∧ _ ∧ _ ∧ _ ∧ _ ∧ _ ∧ _ := ⟨Aside0.mk (Kd.R_elder' (ze HO272).out (Kd.R_base ho0) hb), Aside0.mk (Kd.R_elder' (ze HO277).out (Kd.R_base ho0) hb), Aside0.mk (Kd.R_elder' (ze HO282).out (Kd.R_base ho0) hb), Aside0.mk (Kd.R_elder' (ze HO289).out (Kd.R_base ho0) hb), Aside0.mk (Kd.R_elder' (ze HO295).out (Kd.R_base ho0) hb), Aside0.mk (Kd.R_elder' (ze HO301).out (Kd.R_base ho0) hb), Aside0.mk (Kd.R_elder' (ze HO309).out (Kd.R_base ho0) hb), Aside0.mk (Kd.R_elder' (ze HO315).out (Kd.R_base ho0) hb), Aside0.mk (Kd.R_elder' (ze HO329).out (Kd.R_base ho0) hb), Aside0.mk (Kd.R_lower (Kd.R_new' (Kd.R_new' (Kd.R_new' (Kd.R_new' (Kd.R_new' (Kd.R_new' (Kd.R_new' (Kd.R_new' (Kd.R_new' ho0 (Kd.R_lt (ze HO272).out)) (Kd.R_lt (ze HO277).out)) (Kd.R_lt (ze HO282).out)) (Kd.R_lt (ze HO289).out)) (Kd.R_lt (ze HO295).out)) (Kd.R_lt (ze HO301).out)) (Kd.R_lt (ze HO309).out)) (Kd.R_lt (ze HO315).out)) (Kd.R_lt (ze HO329).out)) (zz HB)), zk BK264 hb, zk BK265 hb, zk BK284 hb, zk BK290 hb, zk BK296 hb, zk BK303 hb, zbs hb⟩
  clear HO272 HO277 HO282 HO289 HO295 HO301 HO309 HO315 HO329 BK264 BK265 BK284 BK290 BK296 BK303 HB
  obtain ⟨HO272, HO277, HO282, HO289, HO295, HO301, HO309, HO315, HO329, HO334, BK264, BK265, BK284, BK290, BK296, BK303, HB⟩ := n_
  (try clear hb)
  (try clear hb2)
  (try clear hk)
  (try clear hi)
  (try clear ho0)
  obtain ⟨Ao126, co126, eo126⟩ := Kd.R_slice HO329.out
  (first | subst eo126 | (injection eo126 with f1_ f2_ f3_; have f4_ := f1_.symm; have f5_ := f3_.symm; clear f1_ f2_ f3_; subst f4_; subst f5_))
  obtain ⟨Ao127, co127, eo127⟩ := Kd.R_slice HO334.out
  (first | subst eo127 | (injection eo127 with f1_ f2_ f3_; have f4_ := f1_.symm; have f5_ := f3_.symm; clear f1_ f2_ f3_; subst f4_; subst f5_))
  refine hK.out _ _ ⟨(blk_cell BK264.out 0).trans rfl, (blk_cell BK264.out 1).trans rfl, (blk_cell BK264.out 2).trans rfl, (blk_cell BK265.out 0).trans rfl, (blk_cell BK265.out 1).trans rfl, (blk_cell BK265.out 2).trans rfl⟩ (fun hHeld => ?_)
  clear hK K
  refine norm_ (a' := ?_) ?_ ?_
  rotate_left
  ·show Act.put _ (some 98) _ = _
   exact zap
  refine two_ (i := 4) (j := 8) (Ni := some 99) (Nj := some 15) (zq 11 31) (zq 11 271) rfl rfl rfl rfl (two_of HT_.out (by kernel_rfl)) (by decide) (by decide) (fun K hK => ?_) (fun K hK => ?_)
  ·skip
   refine goes_ Try.func72 (by kernel_rfl) rfl #[.agg #[.int .i8 t325, .int .i8 t326, .slice Ao126 t327.length co126], .agg #[.int .i8 t330, .int .i8 t331, .slice Ao127 t332.length co127]] (by rfl) rfl rfl zm ?_
   with_reducible refine (impl_JoinBoards.calls k t325 t326 (fun k_ => some k_ = (.slice Ao126 t327.length co126 : Value).ownBlock) _ _ t327 t330 t331 (fun k_ => some k_ = (.slice Ao127 t332.length co127 : Value).ownBlock) _ _ t332 t335 t336 t337 t340 _ ?side1 ?side2 A45.out).mono ?_
   (case side1 => exact Kd.R_V (Kd.R_tight rfl (Kd.R_types (Kd.R_types (Kd.R_types (Kd.R_types (Kd.R_types (Kd.R_types (HO329.out) BK264.out (by decide)) BK265.out (by decide)) BK284.out (by decide)) BK290.out (by decide)) BK296.out (by decide)) BK303.out (by decide))))
   (case side2 => exact Kd.R_V (Kd.R_tight rfl (Kd.R_types (Kd.R_types (Kd.R_types (Kd.R_types (Kd.R_types (Kd.R_types (HO334.out) BK264.out (by decide)) BK265.out (by decide)) BK284.out (by decide)) BK290.out (by decide)) BK296.out (by decide)) BK303.out (by decide))))
   rintro e w128 ⟨v338, rfl, ho0, hb⟩
   refine ⟨_, rfl, ?_⟩
   have n_ : _ ∧ _ ∧ _ ∧ _ ∧ _ ∧ _ ∧ _ ∧ _ ∧ _ ∧ _ ∧ _ ∧ _ ∧ _ ∧ _ ∧ _ ∧ _ ∧ _ ∧ _ := ⟨Aside0.mk (Kd.R_elder' (ze HO272).out (Kd.R_base ho0) hb), Aside0.mk (Kd.R_elder' (ze HO277).out (Kd.R_base ho0) hb), Aside0.mk (Kd.R_elder' (ze HO282).out (Kd.R_base ho0) hb), Aside0.mk (Kd.R_elder' (ze HO289).out (Kd.R_base ho0) hb), Aside0.mk (Kd.R_elder' (ze HO295).out (Kd.R_base ho0) hb), Aside0.mk (Kd.R_elder' (ze HO301).out (Kd.R_base ho0) hb), Aside0.mk (Kd.R_elder' (ze HO309).out (Kd.R_base ho0) hb), Aside0.mk (Kd.R_elder' (ze HO315).out (Kd.R_base ho0) hb), Aside0.mk (Kd.R_elder' (ze HO329).out (Kd.R_base ho0) hb), Aside0.mk (Kd.R_elder' (ze HO334).out (Kd.R_base ho0) hb), Aside0.mk (Kd.R_lower (Kd.R_new' (Kd.R_new' (Kd.R_new' (Kd.R_new' (Kd.R_new' (Kd.R_new' (Kd.R_new' (Kd.R_new' (Kd.R_new' (Kd.R_new' (Kd.R_mono (ok' := fun k_ => True) ho0 (fun _ hk_ => trivial)) (Kd.R_lt (ze HO272).out)) (Kd.R_lt (ze HO277).out)) (Kd.R_lt (ze HO282).out)) (Kd.R_lt (ze HO289).out)) (Kd.R_lt (ze HO295).out)) (Kd.R_lt (ze HO301).out)) (Kd.R_lt (ze HO309).out)) (Kd.R_lt (ze HO315).out)) (Kd.R_lt (ze HO329).out)) (Kd.R_lt (ze HO334).out)) (zz HB)), zk BK264 hb, zk BK265 hb, zk BK284 hb, zk BK290 hb, zk BK296 hb, zk BK303 hb, zbs hb⟩
   clear HO272 HO277 HO282 HO289 HO295 HO301 HO309 HO315 HO329 HO334 BK264 BK265 BK284 BK290 BK296 BK303 HB
   obtain ⟨HO272, HO277, HO282, HO289, HO295, HO301, HO309, HO315, HO329, HO334, HO339, BK264, BK265, BK284, BK290, BK296, BK303, HB⟩ := n_
   (try clear hb)
   (try clear hb2)
   (try clear hk)
   (try clear hi)
   (try clear ho0)
   refine hK.out _ _ ⟨(blk_cell BK264.out 0).trans rfl, (blk_cell BK264.out 1).trans rfl, (blk_cell BK264.out 2).trans rfl, (blk_cell BK265.out 0).trans rfl, (blk_cell BK265.out 1).trans rfl, (blk_cell BK265.out 2).trans rfl⟩ (fun hHeld => ?_)
   clear hK K
   refine norm_ (a' := ?_) ?_ ?_
   rotate_left
   ·show Act.put _ (some 99) _ = _
    exact zap
   refine zpu 5 (some 94) (zq 11 63) HT_ ?_
   refine zpu 6 (some 100) (zq 11 127) HT_ ?_
   refine zpu 7 (some 101) (zq 11 255) HT_ ?_
   refine one_ (i := 8) (N := some 15) (zq 11 511) rfl rfl (one_of HT_.out (by kernel_rfl)) (by decide) (fun K hK => ?_)
   refine box_step ?hg (N := 15) ?hd (cs := #[.int .i8 0, .int .i8 0, .slice none 0 0]) (t := 37) ?hr ?_; (case hd => rfl); (case hg => rfl); (case hr => exact zgs)
   intro gb341 hg w129 hbox hb
   have n_ : _ ∧ _ ∧ _ ∧ _ ∧ _ ∧ _ ∧ _ ∧ _ ∧ _ ∧ _ ∧ _ ∧ _ ∧ _ ∧ _ ∧ _ ∧ _ ∧ _ ∧ _ ∧ _ ∧ _ ∧ _ ∧ _ ∧ _ ∧ _ ∧ _ ∧ _ ∧ _ ∧ _ ∧ _ ∧ _ ∧ _ ∧ _ ∧ _ := ⟨zr HO272 hb, zr HO277 hb, zr HO282 hb, zr HO289 hb, zr HO295 hb, zr HO301 hb, zr HO309 hb, zr HO315 hb, zr HO329 hb, zr HO334 hb, zr HO339 hb, zk BK264 hb, zk BK265 hb, zk BK284 hb, zk BK290 hb, zk BK296 hb, zk BK303 hb, zbs hb, Aside0.mk (hbox), zg HB hg, zg HB hg, zn1 BK264 hg, zn2 BK264 hg, zn1 BK265 hg, zn2 BK265 hg, zn1 BK284 hg, zn2 BK284 hg, zn1 BK290 hg, zn2 BK290 hg, zn1 BK296 hg, zn2 BK296 hg, zn1 BK303 hg, zn2 BK303 hg⟩
   clear HO272 HO277 HO282 HO289 HO295 HO301 HO309 HO315 HO329 HO334 HO339 BK264 BK265 BK284 BK290 BK296 BK303 HB
   obtain ⟨HO272, HO277, HO282, HO289, HO295, HO301, HO309, HO315, HO329, HO334, HO339, BK264, BK265, BK284, BK290, BK296, BK303, HB, BK341, GW341, GE341, NB264_341, NB341_264, NB265_341, NB341_265, NB284_341, NB341_284, NB290_341, NB341_290, NB296_341, NB341_296, NB303_341, NB341_303⟩ := n_
   clear hb hbox hg
   refine hK.out _ _ ⟨(blk_cell BK264.out 0).trans rfl, (blk_cell BK264.out 1).trans rfl, (blk_cell BK264.out 2).trans rfl, (blk_cell BK265.out 0).trans rfl, (blk_cell BK265.out 1).trans rfl, (blk_cell BK265.out 2).trans rfl⟩ (fun hHeld => ?_)
   clear hK K
   refine norm_ (a' := ?_) ?_ ?_
   rotate_left
   ·show Act.put _ (some 15) _ = _
    exact zap
   exact norm_ (by simp only [putAll, Act.put, List.setIfInBounds_toArray, List.set_cons_zero, List.set_cons_succ]) (hCont (.slice Ao126 t327.length co126, .slice Ao127 t332.length co127, v338, gb341) _ ⟨hHeld, (by (with_reducible repeat (first | apply Kd.R_alloc | apply Kd.R_drewN | apply Kd.R_drew)); exact Kd.R_mono HO272.out (fun _ hk => ⟨hk.1.1.1.1, ⟨hk.1.1.1.2.1, ⟨hk.1.1.1.2.2.1, ⟨hk.1.1.1.2.2.2.1, ⟨hk.1.1.1.2.2.2.2.1, ⟨hk.1.1.1.2.2.2.2.2.1, ⟨hk.1.1.1.2.2.2.2.2.2, ⟨hk.1.1.2, ⟨hk.1.2, hk.2⟩⟩⟩⟩⟩⟩⟩⟩⟩)), (by (with_reducible repeat (first | apply Kd.R_alloc | apply Kd.R_drewN | apply Kd.R_drew)); exact Kd.R_mono HO277.out (fun _ hk => ⟨hk.1.1.1.1, ⟨hk.1.1.1.2.1, ⟨hk.1.1.1.2.2.1, ⟨hk.1.1.1.2.2.2.1, ⟨hk.1.1.1.2.2.2.2.1, ⟨hk.1.1.1.2.2.2.2.2.1, ⟨hk.1.1.1.2.2.2.2.2.2, ⟨hk.1.1.2, ⟨hk.1.2, hk.2⟩⟩⟩⟩⟩⟩⟩⟩⟩)), (by (with_reducible repeat (first | apply Kd.R_alloc | apply Kd.R_drewN | apply Kd.R_drew)); exact Kd.R_mono HO282.out (fun _ hk => ⟨hk.1.1.1.1, ⟨hk.1.1.1.2.1, ⟨hk.1.1.1.2.2.1, ⟨hk.1.1.1.2.2.2.1, ⟨hk.1.1.1.2.2.2.2.1, ⟨hk.1.1.1.2.2.2.2.2.1, ⟨hk.1.1.1.2.2.2.2.2.2, ⟨hk.1.1.2, ⟨hk.1.2, hk.2⟩⟩⟩⟩⟩⟩⟩⟩⟩)), (by (with_reducible repeat (first | apply Kd.R_alloc | apply Kd.R_drewN | apply Kd.R_drew)); exact Kd.R_mono HO289.out (fun _ hk => ⟨hk.1.1.1.1, ⟨hk.1.1.1.2.1, ⟨hk.1.1.1.2.2.1, ⟨hk.1.1.1.2.2.2.1, ⟨hk.1.1.1.2.2.2.2.1, ⟨hk.1.1.1.2.2.2.2.2.1, ⟨hk.1.1.1.2.2.2.2.2.2, ⟨hk.1.1.2, ⟨hk.1.2, hk.2⟩⟩⟩⟩⟩⟩⟩⟩⟩)), (by (with_reducible repeat (first | apply Kd.R_alloc | apply Kd.R_drewN | apply Kd.R_drew)); exact Kd.R_mono HO295.out (fun _ hk => ⟨hk.1.1.1.1, ⟨hk.1.1.1.2.1, ⟨hk.1.1.1.2.2.1, ⟨hk.1.1.1.2.2.2.1, ⟨hk.1.1.1.2.2.2.2.1, ⟨hk.1.1.1.2.2.2.2.2.1, ⟨hk.1.1.1.2.2.2.2.2.2, ⟨hk.1.1.2, ⟨hk.1.2, hk.2⟩⟩⟩⟩⟩⟩⟩⟩⟩)), (by (with_reducible repeat (first | apply Kd.R_alloc | apply Kd.R_drewN | apply Kd.R_drew)); exact Kd.R_mono HO301.out (fun _ hk => ⟨hk.1.1.1.1, ⟨hk.1.1.1.2.1, ⟨hk.1.1.1.2.2.1, ⟨hk.1.1.1.2.2.2.1, ⟨hk.1.1.1.2.2.2.2.1, ⟨hk.1.1.1.2.2.2.2.2.1, ⟨hk.1.1.1.2.2.2.2.2.2, ⟨hk.1.1.2, ⟨hk.1.2, hk.2⟩⟩⟩⟩⟩⟩⟩⟩⟩)), (by (with_reducible repeat (first | apply Kd.R_alloc | apply Kd.R_drewN | apply Kd.R_drew)); exact Kd.R_mono HO309.out (fun _ hk => ⟨hk.1.1.1.1, ⟨hk.1.1.1.2.1, ⟨hk.1.1.1.2.2.1, ⟨hk.1.1.1.2.2.2.1, ⟨hk.1.1.1.2.2.2.2.1, ⟨hk.1.1.1.2.2.2.2.2.1, ⟨hk.1.1.1.2.2.2.2.2.2, ⟨hk.1.1.2, ⟨hk.1.2, hk.2⟩⟩⟩⟩⟩⟩⟩⟩⟩)), (by (with_reducible repeat (first | apply Kd.R_alloc | apply Kd.R_drewN | apply Kd.R_drew)); exact Kd.R_mono HO315.out (fun _ hk => ⟨hk.1.1.1.1, ⟨hk.1.1.1.2.1, ⟨hk.1.1.1.2.2.1, ⟨hk.1.1.1.2.2.2.1, ⟨hk.1.1.1.2.2.2.2.1, ⟨hk.1.1.1.2.2.2.2.2.1, ⟨hk.1.1.1.2.2.2.2.2.2, ⟨hk.1.1.2, ⟨hk.1.2, hk.2⟩⟩⟩⟩⟩⟩⟩⟩⟩)), (by (with_reducible repeat (first | apply Kd.R_alloc | apply Kd.R_drewN | apply Kd.R_drew)); exact Kd.R_mono HO329.out (fun _ hk => ⟨hk.1.1.1.1.1.1.1.1.1.2, ⟨hk.1.1.1.1.1.1.1.1.2, ⟨hk.1.1.1.1.1.1.1.2, ⟨hk.1.1.1.1.1.1.2, ⟨hk.1.1.1.1.1.2, ⟨hk.1.1.1.1.2, ⟨hk.1.1.1.2, ⟨hk.1.1.2, ⟨hk.1.2, hk.2⟩⟩⟩⟩⟩⟩⟩⟩⟩)), (by (with_reducible repeat (first | apply Kd.R_alloc | apply Kd.R_drewN | apply Kd.R_drew)); exact Kd.R_mono HO334.out (fun _ hk => ⟨hk.1.1.1.1.1.1.1.1.1.2, ⟨hk.1.1.1.1.1.1.1.1.2, ⟨hk.1.1.1.1.1.1.1.2, ⟨hk.1.1.1.1.1.1.2, ⟨hk.1.1.1.1.1.2, ⟨hk.1.1.1.1.2, ⟨hk.1.1.1.2, ⟨hk.1.1.2, ⟨hk.1.2, hk.2⟩⟩⟩⟩⟩⟩⟩⟩⟩)), (by (with_reducible repeat (first | apply Kd.R_alloc | apply Kd.R_drewN | apply Kd.R_drew)); exact Kd.R_mono HO339.out (fun _ hk => ⟨hk.1.1.1.1.1.1.1.1.1.2, ⟨hk.1.1.1.1.1.1.1.1.2, ⟨hk.1.1.1.1.1.1.1.2, ⟨hk.1.1.1.1.1.1.2, ⟨hk.1.1.1.1.1.2, ⟨hk.1.1.1.1.2, ⟨hk.1.1.1.2, ⟨hk.1.1.2, ⟨hk.1.2, hk.2⟩⟩⟩⟩⟩⟩⟩⟩⟩)), (zh BK264).out, (zh BK265).out, (zh BK284).out, (zh BK290).out, (zh BK296).out, (zh BK303).out, (zh BK341).out, GW341.out, GE341.out, NB264_341.out, NB341_264.out, NB265_341.out, NB341_265.out, NB284_341.out, NB341_284.out, NB290_341.out, NB341_290.out, NB296_341.out, NB341_296.out, NB303_341.out, NB341_303.out, zbo⟩)
  skip
  refine box_step ?hg (N := 15) ?hd (cs := #[.int .i8 0, .int .i8 0, .slice none 0 0]) (t := 37) ?hr ?_; (case hd => rfl); (case hg => rfl); (case hr => exact zgs)
  intro gb341 hg w126 hbox hb
  have n_ : _ ∧ _ ∧ _ ∧ _ ∧ _ ∧ _ ∧ _ ∧ _ ∧ _ ∧ _ ∧ _ ∧ _ ∧ _ ∧ _ ∧ _ ∧ _ ∧ _ ∧ _ ∧ _ ∧ _ ∧ _ ∧ _ ∧ _ ∧ _ ∧ _ ∧ _ ∧ _ ∧ _ ∧ _ ∧ _ ∧ _ ∧ _ := ⟨zr HO272 hb, zr HO277 hb, zr HO282 hb, zr HO289 hb, zr HO295 hb, zr HO301 hb, zr HO309 hb, zr HO315 hb, zr HO329 hb, zr HO334 hb, zk BK264 hb, zk BK265 hb, zk BK284 hb, zk BK290 hb, zk BK296 hb, zk BK303 hb, zbs hb, Aside0.mk (hbox), zg HB hg, zg HB hg, zn1 BK264 hg, zn2 BK264 hg, zn1 BK265 hg, zn2 BK265 hg, zn1 BK284 hg, zn2 BK284 hg, zn1 BK290 hg, zn2 BK290 hg, zn1 BK296 hg, zn2 BK296 hg, zn1 BK303 hg, zn2 BK303 hg⟩
  clear HO272 HO277 HO282 HO289 HO295 HO301 HO309 HO315 HO329 HO334 BK264 BK265 BK284 BK290 BK296 BK303 HB
  obtain ⟨HO272, HO277, HO282, HO289, HO295, HO301, HO309, HO315, HO329, HO334, BK264, BK265, BK284, BK290, BK296, BK303, HB, BK341, GW341, GE341, NB264_341, NB341_264, NB265_341, NB341_265, NB284_341, NB341_284, NB290_341, NB341_290, NB296_341, NB341_296, NB303_341, NB341_303⟩ := n_
  clear hb hbox hg
  obtain ⟨Ao127, co127, eo127⟩ := Kd.R_slice HO329.out
  (first | subst eo127 | (injection eo127 with f1_ f2_ f3_; have f4_ := f1_.symm; have f5_ := f3_.symm; clear f1_ f2_ f3_; subst f4_; subst f5_))
  obtain ⟨Ao128, co128, eo128⟩ := Kd.R_slice HO334.out
  (first | subst eo128 | (injection eo128 with f1_ f2_ f3_; have f4_ := f1_.symm; have f5_ := f3_.symm; clear f1_ f2_ f3_; subst f4_; subst f5_))
  refine hK.out _ _ ⟨(blk_cell BK264.out 0).trans rfl, (blk_cell BK264.out 1).trans rfl, (blk_cell BK264.out 2).trans rfl, (blk_cell BK265.out 0).trans rfl, (blk_cell BK265.out 1).trans rfl, (blk_cell BK265.out 2).trans rfl⟩ (fun hHeld => ?_)
  clear hK K
  refine norm_ (a' := ?_) ?_ ?_
  rotate_left
  ·show Act.put _ (some 15) _ = _
   exact zap
  refine one_ (i := 4) (N := some 99) (zq 11 287) rfl rfl (one_of HT_.out (by kernel_rfl)) (by decide) (fun K hK => ?_)
  refine goes_ Try.func72 (by kernel_rfl) rfl #[.agg #[.int .i8 t325, .int .i8 t326, .slice Ao127 t327.length co127], .agg #[.int .i8 t330, .int .i8 t331, .slice Ao128 t332.length co128]] (by rfl) rfl rfl zm ?_
  with_reducible refine (impl_JoinBoards.calls k t325 t326 (fun k_ => some k_ = (.slice Ao127 t327.length co127 : Value).ownBlock) _ _ t327 t330 t331 (fun k_ => some k_ = (.slice Ao128 t332.length co128 : Value).ownBlock) _ _ t332 t335 t336 t337 t340 _ ?side1 ?side2 A45.out).mono ?_
  (case side1 => exact Kd.R_V (Kd.R_tight rfl (Kd.R_types (Kd.R_types (Kd.R_types (Kd.R_types (Kd.R_types (Kd.R_types (Kd.R_types (HO329.out) BK264.out (by decide)) BK265.out (by decide)) BK284.out (by decide)) BK290.out (by decide)) BK296.out (by decide)) BK303.out (by decide)) BK341.out (by decide))))
  (case side2 => exact Kd.R_V (Kd.R_tight rfl (Kd.R_types (Kd.R_types (Kd.R_types (Kd.R_types (Kd.R_types (Kd.R_types (Kd.R_types (HO334.out) BK264.out (by decide)) BK265.out (by decide)) BK284.out (by decide)) BK290.out (by decide)) BK296.out (by decide)) BK303.out (by decide)) BK341.out (by decide))))
  rintro e w129 ⟨v338, rfl, ho0, hb⟩
  refine ⟨_, rfl, ?_⟩
  have n_ : _ ∧ _ ∧ _ ∧ _ ∧ _ ∧ _ ∧ _ ∧ _ ∧ _ ∧ _ ∧ _ ∧ _ ∧ _ ∧ _ ∧ _ ∧ _ ∧ _ ∧ _ ∧ _ := ⟨Aside0.mk (Kd.R_elder' (ze HO272).out (Kd.R_base ho0) hb), Aside0.mk (Kd.R_elder' (ze HO277).out (Kd.R_base ho0) hb), Aside0.mk (Kd.R_elder' (ze HO282).out (Kd.R_base ho0) hb), Aside0.mk (Kd.R_elder' (ze HO289).out (Kd.R_base ho0) hb), Aside0.mk (Kd.R_elder' (ze HO295).out (Kd.R_base ho0) hb), Aside0.mk (Kd.R_elder' (ze HO301).out (Kd.R_base ho0) hb), Aside0.mk (Kd.R_elder' (ze HO309).out (Kd.R_base ho0) hb), Aside0.mk (Kd.R_elder' (ze HO315).out (Kd.R_base ho0) hb), Aside0.mk (Kd.R_elder' (ze HO329).out (Kd.R_base ho0) hb), Aside0.mk (Kd.R_elder' (ze HO334).out (Kd.R_base ho0) hb), Aside0.mk (Kd.R_lower (Kd.R_new' (Kd.R_new' (Kd.R_new' (Kd.R_new' (Kd.R_new' (Kd.R_new' (Kd.R_new' (Kd.R_new' (Kd.R_new' (Kd.R_new' (Kd.R_mono (ok' := fun k_ => True) ho0 (fun _ hk_ => trivial)) (Kd.R_lt (ze HO272).out)) (Kd.R_lt (ze HO277).out)) (Kd.R_lt (ze HO282).out)) (Kd.R_lt (ze HO289).out)) (Kd.R_lt (ze HO295).out)) (Kd.R_lt (ze HO301).out)) (Kd.R_lt (ze HO309).out)) (Kd.R_lt (ze HO315).out)) (Kd.R_lt (ze HO329).out)) (Kd.R_lt (ze HO334).out)) (zz HB)), zk BK264 hb, zk BK265 hb, zk BK284 hb, zk BK290 hb, zk BK296 hb, zk BK303 hb, zk BK341 hb, zbs hb⟩
  clear HO272 HO277 HO282 HO289 HO295 HO301 HO309 HO315 HO329 HO334 BK264 BK265 BK284 BK290 BK296 BK303 BK341 HB
  obtain ⟨HO272, HO277, HO282, HO289, HO295, HO301, HO309, HO315, HO329, HO334, HO339, BK264, BK265, BK284, BK290, BK296, BK303, BK341, HB⟩ := n_
  (try clear hb)
  (try clear hb2)
  (try clear hk)
  (try clear hi)
  (try clear ho0)
  refine hK.out _ _ ⟨(blk_cell BK264.out 0).trans rfl, (blk_cell BK264.out 1).trans rfl, (blk_cell BK264.out 2).trans rfl, (blk_cell BK265.out 0).trans rfl, (blk_cell BK265.out 1).trans rfl, (blk_cell BK265.out 2).trans rfl⟩ (fun hHeld => ?_)
  clear hK K
  refine norm_ (a' := ?_) ?_ ?_
  rotate_left
  ·show Act.put _ (some 99) _ = _
   exact zap
  refine zpu 5 (some 94) (zq 11 319) HT_ ?_
  refine zpu 6 (some 100) (zq 11 383) HT_ ?_
  refine zpu 7 (some 101) (zq 11 511) HT_ ?_
  exact norm_ (by simp only [putAll, Act.put, List.setIfInBounds_toArray, List.set_cons_zero, List.set_cons_succ]) (hCont (.slice Ao127 t327.length co127, .slice Ao128 t332.length co128, v338, gb341) _ ⟨hHeld, (by (with_reducible repeat (first | apply Kd.R_alloc | apply Kd.R_drewN | apply Kd.R_drew)); exact Kd.R_mono HO272.out (fun _ hk => ⟨hk.1.1.1.1, ⟨hk.1.1.1.2.1, ⟨hk.1.1.1.2.2.1, ⟨hk.1.1.1.2.2.2.1, ⟨hk.1.1.1.2.2.2.2.1, ⟨hk.1.1.1.2.2.2.2.2.1, ⟨hk.1.1.1.2.2.2.2.2.2, ⟨hk.1.1.2, ⟨hk.1.2, hk.2⟩⟩⟩⟩⟩⟩⟩⟩⟩)), (by (with_reducible repeat (first | apply Kd.R_alloc | apply Kd.R_drewN | apply Kd.R_drew)); exact Kd.R_mono HO277.out (fun _ hk => ⟨hk.1.1.1.1, ⟨hk.1.1.1.2.1, ⟨hk.1.1.1.2.2.1, ⟨hk.1.1.1.2.2.2.1, ⟨hk.1.1.1.2.2.2.2.1, ⟨hk.1.1.1.2.2.2.2.2.1, ⟨hk.1.1.1.2.2.2.2.2.2, ⟨hk.1.1.2, ⟨hk.1.2, hk.2⟩⟩⟩⟩⟩⟩⟩⟩⟩)), (by (with_reducible repeat (first | apply Kd.R_alloc | apply Kd.R_drewN | apply Kd.R_drew)); exact Kd.R_mono HO282.out (fun _ hk => ⟨hk.1.1.1.1, ⟨hk.1.1.1.2.1, ⟨hk.1.1.1.2.2.1, ⟨hk.1.1.1.2.2.2.1, ⟨hk.1.1.1.2.2.2.2.1, ⟨hk.1.1.1.2.2.2.2.2.1, ⟨hk.1.1.1.2.2.2.2.2.2, ⟨hk.1.1.2, ⟨hk.1.2, hk.2⟩⟩⟩⟩⟩⟩⟩⟩⟩)), (by (with_reducible repeat (first | apply Kd.R_alloc | apply Kd.R_drewN | apply Kd.R_drew)); exact Kd.R_mono HO289.out (fun _ hk => ⟨hk.1.1.1.1, ⟨hk.1.1.1.2.1, ⟨hk.1.1.1.2.2.1, ⟨hk.1.1.1.2.2.2.1, ⟨hk.1.1.1.2.2.2.2.1, ⟨hk.1.1.1.2.2.2.2.2.1, ⟨hk.1.1.1.2.2.2.2.2.2, ⟨hk.1.1.2, ⟨hk.1.2, hk.2⟩⟩⟩⟩⟩⟩⟩⟩⟩)), (by (with_reducible repeat (first | apply Kd.R_alloc | apply Kd.R_drewN | apply Kd.R_drew)); exact Kd.R_mono HO295.out (fun _ hk => ⟨hk.1.1.1.1, ⟨hk.1.1.1.2.1, ⟨hk.1.1.1.2.2.1, ⟨hk.1.1.1.2.2.2.1, ⟨hk.1.1.1.2.2.2.2.1, ⟨hk.1.1.1.2.2.2.2.2.1, ⟨hk.1.1.1.2.2.2.2.2.2, ⟨hk.1.1.2, ⟨hk.1.2, hk.2⟩⟩⟩⟩⟩⟩⟩⟩⟩)), (by (with_reducible repeat (first | apply Kd.R_alloc | apply Kd.R_drewN | apply Kd.R_drew)); exact Kd.R_mono HO301.out (fun _ hk => ⟨hk.1.1.1.1, ⟨hk.1.1.1.2.1, ⟨hk.1.1.1.2.2.1, ⟨hk.1.1.1.2.2.2.1, ⟨hk.1.1.1.2.2.2.2.1, ⟨hk.1.1.1.2.2.2.2.2.1, ⟨hk.1.1.1.2.2.2.2.2.2, ⟨hk.1.1.2, ⟨hk.1.2, hk.2⟩⟩⟩⟩⟩⟩⟩⟩⟩)), (by (with_reducible repeat (first | apply Kd.R_alloc | apply Kd.R_drewN | apply Kd.R_drew)); exact Kd.R_mono HO309.out (fun _ hk => ⟨hk.1.1.1.1, ⟨hk.1.1.1.2.1, ⟨hk.1.1.1.2.2.1, ⟨hk.1.1.1.2.2.2.1, ⟨hk.1.1.1.2.2.2.2.1, ⟨hk.1.1.1.2.2.2.2.2.1, ⟨hk.1.1.1.2.2.2.2.2.2, ⟨hk.1.1.2, ⟨hk.1.2, hk.2⟩⟩⟩⟩⟩⟩⟩⟩⟩)), (by (with_reducible repeat (first | apply Kd.R_alloc | apply Kd.R_drewN | apply Kd.R_drew)); exact Kd.R_mono HO315.out (fun _ hk => ⟨hk.1.1.1.1, ⟨hk.1.1.1.2.1, ⟨hk.1.1.1.2.2.1, ⟨hk.1.1.1.2.2.2.1, ⟨hk.1.1.1.2.2.2.2.1, ⟨hk.1.1.1.2.2.2.2.2.1, ⟨hk.1.1.1.2.2.2.2.2.2, ⟨hk.1.1.2, ⟨hk.1.2, hk.2⟩⟩⟩⟩⟩⟩⟩⟩⟩)), (by (with_reducible repeat (first | apply Kd.R_alloc | apply Kd.R_drewN | apply Kd.R_drew)); exact Kd.R_mono HO329.out (fun _ hk => ⟨hk.1.1.1.1.1.1.1.1.1.2, ⟨hk.1.1.1.1.1.1.1.1.2, ⟨hk.1.1.1.1.1.1.1.2, ⟨hk.1.1.1.1.1.1.2, ⟨hk.1.1.1.1.1.2, ⟨hk.1.1.1.1.2, ⟨hk.1.1.1.2, ⟨hk.1.1.2, ⟨hk.1.2, hk.2⟩⟩⟩⟩⟩⟩⟩⟩⟩)), (by (with_reducible repeat (first | apply Kd.R_alloc | apply Kd.R_drewN | apply Kd.R_drew)); exact Kd.R_mono HO334.out (fun _ hk => ⟨hk.1.1.1.1.1.1.1.1.1.2, ⟨hk.1.1.1.1.1.1.1.1.2, ⟨hk.1.1.1.1.1.1.1.2, ⟨hk.1.1.1.1.1.1.2, ⟨hk.1.1.1.1.1.2, ⟨hk.1.1.1.1.2, ⟨hk.1.1.1.2, ⟨hk.1.1.2, ⟨hk.1.2, hk.2⟩⟩⟩⟩⟩⟩⟩⟩⟩)), (by (with_reducible repeat (first | apply Kd.R_alloc | apply Kd.R_drewN | apply Kd.R_drew)); exact Kd.R_mono HO339.out (fun _ hk => ⟨hk.1.1.1.1.1.1.1.1.1.2, ⟨hk.1.1.1.1.1.1.1.1.2, ⟨hk.1.1.1.1.1.1.1.2, ⟨hk.1.1.1.1.1.1.2, ⟨hk.1.1.1.1.1.2, ⟨hk.1.1.1.1.2, ⟨hk.1.1.1.2, ⟨hk.1.1.2, ⟨hk.1.2, hk.2⟩⟩⟩⟩⟩⟩⟩⟩⟩)), (zh BK264).out, (zh BK265).out, (zh BK284).out, (zh BK290).out, (zh BK296).out, (zh BK303).out, (zh BK341).out, GW341.out, GE341.out, NB264_341.out, NB341_264.out, NB265_341.out, NB341_265.out, NB284_341.out, NB341_284.out, NB290_341.out, NB341_290.out, NB296_341.out, NB341_296.out, NB303_341.out, NB341_303.out, zbo⟩)
 rintro ⟨v328, v333, v338, gb341⟩ w130 ⟨hS_, h0_, h1_, h2_, h3_, h4_, h5_, h6_, h7_, h8_, h9_, h10_, h11_, h12_, h13_, h14_, h15_, h16_, h17_, h18_, h19_, h20_, h21_, h22_, h23_, h24_, h25_, h26_, h27_, h28_, h29_, h30_, h31_, h32_⟩
 have n_ : (Aside0 (Kd.R k91 91 w130 w.heap.size (fun k_ => some k_ ≠ (v276 : Value).ownBlock ∧ some k_ ≠ (.slice Ao69 t280.length co69 : Value).ownBlock ∧ some k_ ≠ (.slice Ao79 t287.length co79 : Value).ownBlock ∧ some k_ ≠ (.slice Ao89 t293.length co89 : Value).ownBlock ∧ some k_ ≠ (.slice Ao101 t299.length co101 : Value).ownBlock ∧ some k_ ≠ (.slice Ao106 t307.length co106 : Value).ownBlock ∧ some k_ ≠ (.slice Ao110 t313.length co110 : Value).ownBlock ∧ some k_ ≠ (v328 : Value).ownBlock ∧ some k_ ≠ (v333 : Value).ownBlock ∧ some k_ ≠ (v338 : Value).ownBlock) v271 t270)) ∧ (Aside0 (Kd.R k91 91 w130 w.heap.size (fun k_ => some k_ ≠ (v271 : Value).ownBlock ∧ some k_ ≠ (.slice Ao69 t280.length co69 : Value).ownBlock ∧ some k_ ≠ (.slice Ao79 t287.length co79 : Value).ownBlock ∧ some k_ ≠ (.slice Ao89 t293.length co89 : Value).ownBlock ∧ some k_ ≠ (.slice Ao101 t299.length co101 : Value).ownBlock ∧ some k_ ≠ (.slice Ao106 t307.length co106 : Value).ownBlock ∧ some k_ ≠ (.slice Ao110 t313.length co110 : Value).ownBlock ∧ some k_ ≠ (v328 : Value).ownBlock ∧ some k_ ≠ (v333 : Value).ownBlock ∧ some k_ ≠ (v338 : Value).ownBlock) v276 t275)) ∧ (Aside0 (Kd.R k91 91 w130 w.heap.size (fun k_ => some k_ ≠ (v271 : Value).ownBlock ∧ some k_ ≠ (v276 : Value).ownBlock ∧ some k_ ≠ (.slice Ao79 t287.length co79 : Value).ownBlock ∧ some k_ ≠ (.slice Ao89 t293.length co89 : Value).ownBlock ∧ some k_ ≠ (.slice Ao101 t299.length co101 : Value).ownBlock ∧ some k_ ≠ (.slice Ao106 t307.length co106 : Value).ownBlock ∧ some k_ ≠ (.slice Ao110 t313.length co110 : Value).ownBlock ∧ some k_ ≠ (v328 : Value).ownBlock ∧ some k_ ≠ (v333 : Value).ownBlock ∧ some k_ ≠ (v338 : Value).ownBlock) (.slice Ao69 t280.length co69) t280)) ∧ (Aside0 (Kd.R k91 91 w130 w.heap.size (fun k_ => some k_ ≠ (v271 : Value).ownBlock ∧ some k_ ≠ (v276 : Value).ownBlock ∧ some k_ ≠ (.slice Ao69 t280.length co69 : Value).ownBlock ∧ some k_ ≠ (.slice Ao89 t293.length co89 : Value).ownBlock ∧ some k_ ≠ (.slice Ao101 t299.length co101 : Value).ownBlock ∧ some k_ ≠ (.slice Ao106 t307.length co106 : Value).ownBlock ∧ some k_ ≠ (.slice Ao110 t313.length co110 : Value).ownBlock ∧ some k_ ≠ (v328 : Value).ownBlock ∧ some k_ ≠ (v333 : Value).ownBlock ∧ some k_ ≠ (v338 : Value).ownBlock) (.slice Ao79 t287.length co79) t318)) ∧ (Aside0 (Kd.R k91 91 w130 w.heap.size (fun k_ => some k_ ≠ (v271 : Value).ownBlock ∧ some k_ ≠ (v276 : Value).ownBlock ∧ some k_ ≠ (.slice Ao69 t280.length co69 : Value).ownBlock ∧ some k_ ≠ (.slice Ao79 t287.length co79 : Value).ownBlock ∧ some k_ ≠ (.slice Ao101 t299.length co101 : Value).ownBlock ∧ some k_ ≠ (.slice Ao106 t307.length co106 : Value).ownBlock ∧ some k_ ≠ (.slice Ao110 t313.length co110 : Value).ownBlock ∧ some k_ ≠ (v328 : Value).ownBlock ∧ some k_ ≠ (v333 : Value).ownBlock ∧ some k_ ≠ (v338 : Value).ownBlock) (.slice Ao89 t293.length co89) t320)) ∧ (Aside0 (Kd.R k91 91 w130 w.heap.size (fun k_ => some k_ ≠ (v271 : Value).ownBlock ∧ some k_ ≠ (v276 : Value).ownBlock ∧ some k_ ≠ (.slice Ao69 t280.length co69 : Value).ownBlock ∧ some k_ ≠ (.slice Ao79 t287.length co79 : Value).ownBlock ∧ some k_ ≠ (.slice Ao89 t293.length co89 : Value).ownBlock ∧ some k_ ≠ (.slice Ao106 t307.length co106 : Value).ownBlock ∧ some k_ ≠ (.slice Ao110 t313.length co110 : Value).ownBlock ∧ some k_ ≠ (v328 : Value).ownBlock ∧ some k_ ≠ (v333 : Value).ownBlock ∧ some k_ ≠ (v338 : Value).ownBlock) (.slice Ao101 t299.length co101) t323)) ∧ (Aside0 (Kd.R k91 91 w130 w.heap.size (fun k_ => some k_ ≠ (v271 : Value).ownBlock ∧ some k_ ≠ (v276 : Value).ownBlock ∧ some k_ ≠ (.slice Ao69 t280.length co69 : Value).ownBlock ∧ some k_ ≠ (.slice Ao79 t287.length co79 : Value).ownBlock ∧ some k_ ≠ (.slice Ao89 t293.length co89 : Value).ownBlock ∧ some k_ ≠ (.slice Ao101 t299.length co101 : Value).ownBlock ∧ some k_ ≠ (.slice Ao110 t313.length co110 : Value).ownBlock ∧ some k_ ≠ (v328 : Value).ownBlock ∧ some k_ ≠ (v333 : Value).ownBlock ∧ some k_ ≠ (v338 : Value).ownBlock) (.slice Ao106 t307.length co106) t307)) ∧ (Aside0 (Kd.R k91 91 w130 w.heap.size (fun k_ => some k_ ≠ (v271 : Value).ownBlock ∧ some k_ ≠ (v276 : Value).ownBlock ∧ some k_ ≠ (.slice Ao69 t280.length co69 : Value).ownBlock ∧ some k_ ≠ (.slice Ao79 t287.length co79 : Value).ownBlock ∧ some k_ ≠ (.slice Ao89 t293.length co89 : Value).ownBlock ∧ some k_ ≠ (.slice Ao101 t299.length co101 : Value).ownBlock ∧ some k_ ≠ (.slice Ao106 t307.length co106 : Value).ownBlock ∧ some k_ ≠ (v328 : Value).ownBlock ∧ some k_ ≠ (v333 : Value).ownBlock ∧ some k_ ≠ (v338 : Value).ownBlock) (.slice Ao110 t313.length co110) t313)) ∧ (Aside0 (Kd.R k91 91 w130 w.heap.size (fun k_ => some k_ ≠ (v271 : Value).ownBlock ∧ some k_ ≠ (v276 : Value).ownBlock ∧ some k_ ≠ (.slice Ao69 t280.length co69 : Value).ownBlock ∧ some k_ ≠ (.slice Ao79 t287.length co79 : Value).ownBlock ∧ some k_ ≠ (.slice Ao89 t293.length co89 : Value).ownBlock ∧ some k_ ≠ (.slice Ao101 t299.length co101 : Value).ownBlock ∧ some k_ ≠ (.slice Ao106 t307.length co106 : Value).ownBlock ∧ some k_ ≠ (.slice Ao110 t313.length co110 : Value).ownBlock ∧ some k_ ≠ (v333 : Value).ownBlock ∧ some k_ ≠ (v338 : Value).ownBlock) v328 t327)) ∧ (Aside0 (Kd.R k91 91 w130 w.heap.size (fun k_ => some k_ ≠ (v271 : Value).ownBlock ∧ some k_ ≠ (v276 : Value).ownBlock ∧ some k_ ≠ (.slice Ao69 t280.length co69 : Value).ownBlock ∧ some k_ ≠ (.slice Ao79 t287.length co79 : Value).ownBlock ∧ some k_ ≠ (.slice Ao89 t293.length co89 : Value).ownBlock ∧ some k_ ≠ (.slice Ao101 t299.length co101 : Value).ownBlock ∧ some k_ ≠ (.slice Ao106 t307.length co106 : Value).ownBlock ∧ some k_ ≠ (.slice Ao110 t313.length co110 : Value).ownBlock ∧ some k_ ≠ (v328 : Value).ownBlock ∧ some k_ ≠ (v338 : Value).ownBlock) v333 t332)) ∧ (Aside0 (Kd.R k91 91 w130 w.heap.size (fun k_ => some k_ ≠ (v271 : Value).ownBlock ∧ some k_ ≠ (v276 : Value).ownBlock ∧ some k_ ≠ (.slice Ao69 t280.length co69 : Value).ownBlock ∧ some k_ ≠ (.slice Ao79 t287.length co79 : Value).ownBlock ∧ some k_ ≠ (.slice Ao89 t293.length co89 : Value).ownBlock ∧ some k_ ≠ (.slice Ao101 t299.length co101 : Value).ownBlock ∧ some k_ ≠ (.slice Ao106 t307.length co106 : Value).ownBlock ∧ some k_ ≠ (.slice Ao110 t313.length co110 : Value).ownBlock ∧ some k_ ≠ (v328 : Value).ownBlock ∧ some k_ ≠ (v333 : Value).ownBlock) v338 t337)) ∧ (Aside0 (w130.heap[gb264]? = some (.cells #[.int .i8 a0_0, .int .i8 a0_1, .slice A0_2 l0_2.length c0_2] 25 (0, 0)))) ∧ (Aside0 (w130.heap[gb265]? = some (.cells #[.int .i8 a1_0, .int .i8 a1_1, .slice A1_2 l1_2.length c1_2] 25 (0, 0)))) ∧ (Aside0 (w130.heap[gb284]? = some (.cells #[.int .i8 t278, .int .i8 t279, .slice Ao69 t280.length co69] 37 (0, 0)))) ∧ (Aside0 (w130.heap[gb290]? = some (.cells #[.int .i8 t285, .int .i8 t286, .slice Ao79 t287.length co79] 37 (0, 0)))) ∧ (Aside0 (w130.heap[gb296]? = some (.cells #[.int .i8 t291, .int .i8 t292, .slice Ao89 t293.length co89] 37 (0, 0)))) ∧ (Aside0 (w130.heap[gb303]? = some (.cells #[.int .i8 t297, .int .i8 t298, .slice Ao101 t299.length co101] 37 (0, 0)))) ∧ (Aside0 (w130.heap[gb341]? = some (.cells #[.int .i8 0, .int .i8 0, .slice none 0 0] 37 (0, 0)))) ∧ (Aside0 (w.heap.size ≤ gb341)) ∧ (Aside0 (w.heap.size ≤ gb341)) ∧ (Aside0 (gb264 ≠ gb341)) ∧ (Aside0 (gb341 ≠ gb264)) ∧ (Aside0 (gb265 ≠ gb341)) ∧ (Aside0 (gb341 ≠ gb265)) ∧ (Aside0 (gb284 ≠ gb341)) ∧ (Aside0 (gb341 ≠ gb284)) ∧ (Aside0 (gb290 ≠ gb341)) ∧ (Aside0 (gb341 ≠ gb290)) ∧ (Aside0 (gb296 ≠ gb341)) ∧ (Aside0 (gb341 ≠ gb296)) ∧ (Aside0 (gb303 ≠ gb341)) ∧ (Aside0 (gb341 ≠ gb303)) ∧ (Aside0 (Below w.heap.size w w130)) := ⟨⟨h0_⟩, ⟨h1_⟩, ⟨h2_⟩, ⟨h3_⟩, ⟨h4_⟩, ⟨h5_⟩, ⟨h6_⟩, ⟨h7_⟩, ⟨h8_⟩, ⟨h9_⟩, ⟨h10_⟩, ⟨h11_⟩, ⟨h12_⟩, ⟨h13_⟩, ⟨h14_⟩, ⟨h15_⟩, ⟨h16_⟩, ⟨h17_⟩, ⟨h18_⟩, ⟨h19_⟩, ⟨h20_⟩, ⟨h21_⟩, ⟨h22_⟩, ⟨h23_⟩, ⟨h24_⟩, ⟨h25_⟩, ⟨h26_⟩, ⟨h27_⟩, ⟨h28_⟩, ⟨h29_⟩, ⟨h30_⟩, ⟨h31_⟩, ⟨h32_⟩⟩
 clear HO272 HO277 HO282 HO289 HO295 HO301 HO309 HO315 BK264 BK265 BK284 BK290 BK296 BK303 HB h0_ h1_ h2_ h3_ h4_ h5_ h6_ h7_ h8_ h9_ h10_ h11_ h12_ h13_ h14_ h15_ h16_ h17_ h18_ h19_ h20_ h21_ h22_ h23_ h24_ h25_ h26_ h27_ h28_ h29_ h30_ h31_ h32_
 obtain ⟨HO272, HO277, HO282, HO289, HO295, HO301, HO309, HO315, HO329, HO334, HO339, BK264, BK265, BK284, BK290, BK296, BK303, BK341, GW341, GE341, NB264_341, NB341_264, NB265_341, NB341_265, NB284_341, NB341_284, NB290_341, NB341_290, NB296_341, NB341_296, NB303_341, NB341_303, HB⟩ := n_
 have hHeld := hS_
 obtain ⟨Ao133, co133, eo133⟩ := Kd.R_slice HO339.out
 (first | subst eo133 | (injection eo133 with f1_ f2_ f3_; have f4_ := f1_.symm; have f5_ := f3_.symm; clear f1_ f2_ f3_; subst f4_; subst f5_))
 refine norm_ (a' := ?_) ?_ ?_
 rotate_left
 ·simp only [putAll, Act.put, List.setIfInBounds_toArray, List.set_cons_zero, List.set_cons_succ]
  rfl
 refine one_ (i := 9) (N := none) (zq 11 1023) rfl rfl (one_of HT_.out (by kernel_rfl)) (by decide) (fun K hK => ?_)
 have hs131 : w130.cell? ⟨gb341, 0, none⟩ = some (.int .i8 0) := (blk_cell BK341.out 0).trans rfl
 have hfs131 := blk_frozen BK341.out 0
 have hns131_0 := NB264_341.out
 have hns131_1 := NB265_341.out
 have hns131_2 := NB284_341.out
 have hns131_3 := NB290_341.out
 have hns131_4 := NB296_341.out
 have hns131_5 := NB303_341.out
 have hms131_0 := NB341_264.out
 have hms131_1 := NB341_265.out
 have hms131_2 := NB341_284.out
 have hms131_3 := NB341_290.out
 have hms131_4 := NB341_296.out
 have hms131_5 := NB341_303.out
 have hs132 : w130.cell? ⟨gb341, 1, none⟩ = some (.int .i8 0) := (blk_cell BK341.out 1).trans rfl
 have hfs132 := blk_frozen BK341.out 1
 have hns132_0 := NB264_341.out
 have hns132_1 := NB265_341.out
 have hns132_2 := NB284_341.out
 have hns132_3 := NB290_341.out
 have hns132_4 := NB296_341.out
 have hns132_5 := NB303_341.out
 have hms132_0 := NB341_264.out
 have hms132_1 := NB341_265.out
 have hms132_2 := NB341_284.out
 have hms132_3 := NB341_290.out
 have hms132_4 := NB341_296.out
 have hms132_5 := NB341_303.out
 have hs134 : w130.cell? ⟨gb341, 2, none⟩ = some (.slice none 0 0) := (blk_cell BK341.out 2).trans rfl
 have hfs134 := blk_frozen BK341.out 2
 have hns134_0 := NB264_341.out
 have hns134_1 := NB265_341.out
 have hns134_2 := NB284_341.out
 have hns134_3 := NB290_341.out
 have hns134_4 := NB296_341.out
 have hns134_5 := NB303_341.out
 have hms134_0 := NB341_264.out
 have hms134_1 := NB341_265.out
 have hms134_2 := NB341_284.out
 have hms134_3 := NB341_290.out
 have hms134_4 := NB341_296.out
 have hms134_5 := NB341_303.out
 refine skip_ (w1 := ?_) (by rfl) rfl ?_ ?_
 rotate_left
 ·go_simp
  rfl
 refine hK.out _ _ ⟨((cell_far (p := ⟨gb341, _, none⟩) NB264_341.out _).trans (((cell_far (p := ⟨gb341, _, none⟩) NB264_341.out _).trans (((cell_far (p := ⟨gb341, _, none⟩) NB264_341.out _).trans (hHeld.1)))))), ((cell_far (p := ⟨gb341, _, none⟩) NB264_341.out _).trans (((cell_far (p := ⟨gb341, _, none⟩) NB264_341.out _).trans (((cell_far (p := ⟨gb341, _, none⟩) NB264_341.out _).trans (hHeld.2.1)))))), ((cell_far (p := ⟨gb341, _, none⟩) NB264_341.out _).trans (((cell_far (p := ⟨gb341, _, none⟩) NB264_341.out _).trans (((cell_far (p := ⟨gb341, _, none⟩) NB264_341.out _).trans (hHeld.2.2.1)))))), ((cell_far (p := ⟨gb341, _, none⟩) NB265_341.out _).trans (((cell_far (p := ⟨gb341, _, none⟩) NB265_341.out _).trans (((cell_far (p := ⟨gb341, _, none⟩) NB265_341.out _).trans (hHeld.2.2.2.1)))))), ((cell_far (p := ⟨gb341, _, none⟩) NB265_341.out _).trans (((cell_far (p := ⟨gb341, _, none⟩) NB265_341.out _).trans (((cell_far (p := ⟨gb341, _, none⟩) NB265_341.out _).trans (hHeld.2.2.2.2.1)))))), ((cell_far (p := ⟨gb341, _, none⟩) NB265_341.out _).trans (((cell_far (p := ⟨gb341, _, none⟩) NB265_341.out _).trans (((cell_far (p := ⟨gb341, _, none⟩) NB265_341.out _).trans (hHeld.2.2.2.2.2))))))⟩ (fun hHeld => ?_)
 clear hK K
 refine zpu 10 (some 16) (zq 11 2047) HT_ ?_
 refine done_ (done_of HT_.out (by kernel_rfl)) ?_
 have hnb135 := NB341_264.out
 have hnc135 := NB264_341.out
 have hnb136 := NB341_265.out
 have hnc136 := NB265_341.out
 have hnb137 := NB341_284.out
 have hnc137 := NB284_341.out
 have hnb138 := NB341_290.out
 have hnc138 := NB290_341.out
 have hnb139 := NB341_296.out
 have hnc139 := NB296_341.out
 have hnb140 := NB341_303.out
 have hnc140 := NB303_341.out
 obtain ⟨z141_0, z141_1, z141_2, y141_0, y141_1, y141_2⟩ := zB3 BK341
 obtain ⟨z142_0, z142_1, z142_2, y142_0, y142_1, y142_2⟩ := zB3 BK284
 try go_wp2_with (first | ((with_reducible refine gate_callee (f := 44) rfl ?_); refine goesL_ (some 104) rfl rfl Try.func44 (by kernel_rfl) rfl #[.agg #[.int .i8 t335, .int .i8 t336, .slice Ao133 t337.length co133], .agg #[.int .i8 t278, .int .i8 t279, .slice Ao69 t280.length co69]] rfl zm ?_; (with_reducible refine (laws_eqBoard.calls k t335 t336 _ _ t337 t278 t279 _ _ t280 true _ ?side1 ?side2 ?side3 ?side4 A46.out).mono ?_); (case side1 => exact (Kd.R_reads' (zs HO339 BK341).out).2.2); (case side2 => exact (Kd.R_reads' HO339.out).2.1); (case side3 => exact (Kd.R_reads' (zs HO282 BK341).out).2.2); (case side4 => exact (Kd.R_reads' HO282.out).2.1); rintro e w143 ⟨rfl, hb⟩; refine ⟨_, rfl, ?_⟩; have n_ : _ ∧ _ ∧ _ ∧ _ ∧ _ ∧ _ ∧ _ ∧ _ ∧ _ ∧ _ ∧ _ ∧ _ ∧ _ ∧ _ ∧ _ ∧ _ ∧ _ ∧ _ ∧ _ := ⟨zsb HO272 BK341 hb, zsb HO277 BK341 hb, zsb HO282 BK341 hb, zsb HO289 BK341 hb, zsb HO295 BK341 hb, zsb HO301 BK341 hb, zsb HO309 BK341 hb, zsb HO315 BK341 hb, zsb HO329 BK341 hb, zsb HO334 BK341 hb, zsb HO339 BK341 hb, zfb BK264 NB264_341 hb, zfb BK265 NB265_341 hb, zfb BK284 NB284_341 hb, zfb BK290 NB290_341 hb, zfb BK296 NB296_341 hb, zfb BK303 NB303_341 hb, Aside0.mk (blk_below (g := gb341) (o := .cells #[.int .i8 t335, .int .i8 t336, .slice Ao133 t337.length co133] 37 (0, 0)) (zp BK341) hb), zbs hb⟩; clear HO272 HO277 HO282 HO289 HO295 HO301 HO309 HO315 HO329 HO334 HO339 BK264 BK265 BK284 BK290 BK296 BK303 BK341 HB; obtain ⟨HO272, HO277, HO282, HO289, HO295, HO301, HO309, HO315, HO329, HO334, HO339, BK264, BK265, BK284, BK290, BK296, BK303, BK341, HB⟩ := n_; (try clear hb); (try clear hb2); (try clear hk); (try clear hi); obtain ⟨z144_0, z144_1, z144_2, y144_0, y144_1, y144_2⟩ := zB3 BK303) | ((with_reducible refine gate_callee (f := 51) rfl ?_); refine goesL_ (some 113) rfl rfl Try.func51 (by kernel_rfl) rfl #[.agg #[.int .i8 t297, .int .i8 t298, .slice Ao101 t323.length co101], .int .i64 1] rfl (by (try simp only [List.map_toArray, List.map_cons, List.map_nil]); first | done | (rw [show t323.length = t299.length from (Kd.R_reads' HO301.out).1.symm] <;> rfl) | rfl | (simp only [List.length_drop, List.length_take]; rfl)) ?_; (with_reducible refine (laws_heldBoard.calls k t297 t298 _ _ t323 1 t343 _ ?side1 ?side2 A49.out).mono ?_); (case side1 => exact zrc HO301); (case side2 => rw [show t323.length = t299.length from (Kd.R_reads' HO301.out).1.symm]; exact (Kd.R_reads' HO301.out).2.1); rintro e w145 ⟨rfl, hb⟩; refine ⟨_, rfl, ?_⟩; have n_ : _ ∧ _ ∧ _ ∧ _ ∧ _ ∧ _ ∧ _ ∧ _ ∧ _ ∧ _ ∧ _ ∧ _ ∧ _ ∧ _ ∧ _ ∧ _ ∧ _ ∧ _ ∧ _ := ⟨zr HO272 hb, zr HO277 hb, zr HO282 hb, zr HO289 hb, zr HO295 hb, zr HO301 hb, zr HO309 hb, zr HO315 hb, zr HO329 hb, zr HO334 hb, zr HO339 hb, zk BK264 hb, zk BK265 hb, zk BK284 hb, zk BK290 hb, zk BK296 hb, zk BK303 hb, zk BK341 hb, zbs hb⟩; clear HO272 HO277 HO282 HO289 HO295 HO301 HO309 HO315 HO329 HO334 HO339 BK264 BK265 BK284 BK290 BK296 BK303 BK341 HB; obtain ⟨HO272, HO277, HO282, HO289, HO295, HO301, HO309, HO315, HO329, HO334, HO339, BK264, BK265, BK284, BK290, BK296, BK303, BK341, HB⟩ := n_; (try clear hb); (try clear hb2); (try clear hk); (try clear hi)))
 go_ret
 exact ⟨zv, zbo⟩
end Go.Proofs.Ytffnfpnajkgnaaa.PFnExactJoinBoards
