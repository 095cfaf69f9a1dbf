-- WRITTEN by xprint.py, a program of this session's. Not trusted: Lean checks it.
-- packed by pack.py
import Derived.Test.YtffnfpnajkgnaaaPFnExactPutPiecex0
import Derived.Test.YtffnfpnajkgnaaaPFnExactPutPiecex2
import Derived.Test.YtffnfpnajkgnaaaPFnExactPutPiecex3
import Derived.Test.YtffnfpnajkgnaaaPFnExactPutPiecex4
import Derived.Test.YtffnfpnajkgnaaaPFnExactPutPiecex6
import Derived.Test.YtffnfpnajkgnaaaPFnExactPutPiecex8
import Derived.Test.YtffnfpnajkgnaaaTFnExactPutPiecea
namespace Go.Proofs.Ytffnfpnajkgnaaa.PFnExactPutPiece
open Go.RowKit Go.Proofs.YtffnfpnajkgnaaaW.PrintWords Go.Proofs.YtffnfpnajkgnaaaW.PrintLast Go.Proofs.YtffnfpnajkgnaaaW.PrintMore Go.Proofs.YtffnfpnajkgnaaaX
attribute [local go_sem] max2_int min2_int max_two min_two max_three min_three max_four min_four   -- for this text's walks alone
set_option linter.unusedVariables false
set_option linter.unusedSimpArgs false

/-! ### laws_FnExactPutPiece: function 14 -/
def laws_FnExactPutPiece.f (k : Nat) (a0_0 : Int) (a0_1 : Int) (l0_2 : List (S88)) (a1_0 : Int) (a1_1 : Int) (a1_2 : Int) (a1_3 : Int) (a1_4 : Int) : Option (Bool) := (laws_szBoard.f a0_0 a0_1 l0_2 1048576).bind fun t249 => (if t249 < 0 then (some true) else ((laws_toBoard.f k a0_0 a0_1 l0_2).bind fun bt250 => ((laws_toPiece.f k a1_0 a1_1 a1_2 a1_3 a1_4).bind fun bt255 => ((spec_PutPiece.f k bt250.1 bt250.2.1 bt250.2.2 bt255.1 bt255.2.1 bt255.2.2.1 bt255.2.2.2.1 bt255.2.2.2.2).bind fun bt260 => ((laws_toBoard.f k a0_0 a0_1 l0_2).bind fun bt267 => ((laws_toPiece.f k a1_0 a1_1 a1_2 a1_3 a1_4).bind fun bt273 => ((impl_PutPiece.f k bt267.1 bt267.2.1 bt267.2.2 bt273.1 bt273.2.1 bt273.2.2.1 bt273.2.2.2.1 bt273.2.2.2.2).bind fun bt278 => ((laws_eqBoard.f k bt278.1 bt278.2.1 bt278.2.2.1 bt260.1 bt260.2.1 bt260.2.2.1).bind fun t285 => (if t285 = true then (if bt278.2.2.2 = bt260.2.2.2 then ((laws_toBoard.f k a0_0 a0_1 l0_2).bind fun bt286 => ((laws_eqBoard.f k bt267.1 bt267.2.1 bt267.2.2 bt286.1 bt286.2.1 bt286.2.2).bind fun t291 => (if t291 = true then ((laws_markBoard.f k bt267.1 bt267.2.1 bt267.2.2 1).bind fun bt292 => (if bt292.1 < 0 then (none) else ((laws_eqBoard.f k bt278.1 bt278.2.1 bt278.2.2.1 bt260.1 bt260.2.1 bt260.2.2.1).bind fun t294 => (if t294 = true then ((laws_markBoard.f k bt278.1 bt278.2.1 bt278.2.2.1 1).bind fun bt295 => ((laws_heldBoard.f k bt278.1 bt278.2.1 bt295.2 1).bind fun t297 => (if t297 < 0 then (none) else (if t297 = bt295.1 then ((laws_toBoard.f k a0_0 a0_1 l0_2).bind fun bt298 => ((laws_toPiece.f k a1_0 a1_1 a1_2 a1_3 a1_4).bind fun bt303 => ((impl_PutPiece.f k bt298.1 bt298.2.1 bt298.2.2 bt303.1 bt303.2.1 bt303.2.2.1 bt303.2.2.2.1 bt303.2.2.2.2).bind fun bt308 => ((laws_eqBoard.f k bt308.1 bt308.2.1 bt308.2.2.1 bt260.1 bt260.2.1 bt260.2.2.1).bind fun t315 => (if t315 = true then (if bt308.2.2.2 = bt260.2.2.2 then ((laws_heldBoard.f k bt278.1 bt278.2.1 bt295.2 1).bind fun t316 => (if t316 < 0 then (none) else (if t316 = bt295.1 then (some true) else (none)))) else (none)) else (none)))))) else (none))))) else (none))))) else (none)))) else (none)) else (none))))))))))
theorem laws_FnExactPutPiece.mono : ∀ a0 a1 a2 a3 a4 a5 a6 a7 k, LeO (laws_FnExactPutPiece.f k a0 a1 a2 a3 a4 a5 a6 a7) (laws_FnExactPutPiece.f (k + 1) a0 a1 a2 a3 a4 a5 a6 a7) := by
 intro a0 a1 a2 a3 a4 a5 a6 a7 k
 unfold laws_FnExactPutPiece.f
 repeat' first | (with_reducible first | apply impl_PutPiece.mono | apply laws_eqBoard.mono | apply laws_heldBoard.mono | apply laws_markBoard.mono | apply laws_toBoard.mono | apply laws_toPiece.mono | apply spec_PutPiece.mono | exact LeO.refl _ | exact LeO.none _ | refine LeO.ite ?_ ?_ | refine LeO.bind ?_ (fun _ => ?_)) | apply impl_PutPiece.mono | apply laws_eqBoard.mono | apply laws_heldBoard.mono | apply laws_markBoard.mono | apply laws_toBoard.mono | apply laws_toPiece.mono | apply spec_PutPiece.mono | exact LeO.none _ | refine LeO.ite ?_ ?_ | refine LeO.bind ?_ (fun _ => ?_)
def laws_FnExactPutPiece.T5 : Bool × List (List Nat × List Nat) := (true, [([], []), ([0], [0]), ([], []), ([2, 1], [2]), ([1, 3, 3], [1, 3]), ([4], [4]), ([5], [5]), ([5], [5]), ([], []), ([8, 6, 4, 0, 1, 2, 3, 4, 5, 6, 8], [6, 8]), ([7, 9, 0, 1, 2, 3, 4, 5, 6, 7, 8, 9], [7])])
def laws_FnExactPutPiece.B5 : List Nat := [0, 1, 0, 7, 15, 31, 63, 63, 0, 383, 1023]
theorem laws_FnExactPutPiece.tab5 : rtab .any (opsOf Try.f14 5) = laws_FnExactPutPiece.T5 := by kernel_rfl
theorem laws_FnExactPutPiece.bits5 : waitsOk laws_FnExactPutPiece.T5.2 laws_FnExactPutPiece.B5 = true := by kernel_rfl
def laws_FnExactPutPiece.T7 : Bool × List (List Nat × List Nat) := (true, [([], []), ([], []), ([1], [1]), ([0, 2, 2], [0, 2]), ([3], [3]), ([4], [4]), ([4], [4]), ([], []), ([7, 5, 3, 0, 1, 2, 3, 4, 5, 7], [5, 7]), ([6, 8, 0, 1, 2, 3, 4, 5, 6, 7, 8], [6])])
def laws_FnExactPutPiece.B7 : List Nat := [0, 0, 2, 7, 15, 31, 31, 0, 191, 511]
theorem laws_FnExactPutPiece.tab7 : rtab .any (opsOf Try.f14 7) = laws_FnExactPutPiece.T7 := by kernel_rfl
theorem laws_FnExactPutPiece.bits7 : waitsOk laws_FnExactPutPiece.T7.2 laws_FnExactPutPiece.B7 = true := by kernel_rfl
def laws_FnExactPutPiece.T24 : Bool × List (List Nat × List Nat) := (true, [([], []), ([0], [0]), ([], []), ([2, 1], [2]), ([1, 3, 3], [1, 3]), ([4], [4]), ([5], [5]), ([5], [5]), ([], []), ([8, 6, 4, 0, 1, 2, 3, 4, 5, 6, 8], [6, 8]), ([7, 9, 0, 1, 2, 3, 4, 5, 6, 7, 8, 9], [7])])
def laws_FnExactPutPiece.B24 : List Nat := [0, 1, 0, 7, 15, 31, 63, 63, 0, 383, 1023]
theorem laws_FnExactPutPiece.tab24 : rtab .any (opsOf Try.f14 24) = laws_FnExactPutPiece.T24 := by kernel_rfl
theorem laws_FnExactPutPiece.bits24 : waitsOk laws_FnExactPutPiece.T24.2 laws_FnExactPutPiece.B24 = true := by kernel_rfl
set_option maxHeartbeats 8000000 in
set_option maxRecDepth 100000 in
theorem laws_FnExactPutPiece.calls (k : Nat) (a0_0 : Int) (a0_1 : Int) (A0_2 : Option Addr) (c0_2 : Nat) (l0_2 : List (S88)) (a1_0 : Int) (a1_1 : Int) (a1_2 : Int) (a1_3 : Int) (a1_4 : Int) (r : Bool) (w : World) (hr0_2 : Kd.C k88 w A0_2 l0_2.length l0_2) (hc0_2 : l0_2.length ≤ c0_2) (h : laws_FnExactPutPiece.f k a0_0 a0_1 l0_2 a1_0 a1_1 a1_2 a1_3 a1_4 = some r) :
    Calls Try.prog 14 #[.agg #[.int .i8 a0_0, .int .i8 a0_1, .slice A0_2 l0_2.length c0_2], .agg #[.int .i8 a1_0, .int .i8 a1_1, .int .i8 a1_2, .int .i8 a1_3, .int .i8 a1_4]] w fun e w' => e = .returned (.bool r) ∧ Below w.heap.size w w' := by
 have hu25 := Try.underlying25
 have hu88 := Try.underlying88
 have hu37 := Try.underlying37
 have HR0_2 := Aside0.mk hr0_2
 have HC0_2 := Aside0.mk hc0_2
 clear hr0_2 hc0_2
 have HB := Aside0.mk (Below.refl w.heap.size w)
 have H : ((laws_szBoard.f a0_0 a0_1 l0_2 1048576).bind fun t249 => (if t249 < 0 then (some true) else ((laws_toBoard.f k a0_0 a0_1 l0_2).bind fun bt250 => ((laws_toPiece.f k a1_0 a1_1 a1_2 a1_3 a1_4).bind fun bt255 => ((spec_PutPiece.f k bt250.1 bt250.2.1 bt250.2.2 bt255.1 bt255.2.1 bt255.2.2.1 bt255.2.2.2.1 bt255.2.2.2.2).bind fun bt260 => ((laws_toBoard.f k a0_0 a0_1 l0_2).bind fun bt267 => ((laws_toPiece.f k a1_0 a1_1 a1_2 a1_3 a1_4).bind fun bt273 => ((impl_PutPiece.f k bt267.1 bt267.2.1 bt267.2.2 bt273.1 bt273.2.1 bt273.2.2.1 bt273.2.2.2.1 bt273.2.2.2.2).bind fun bt278 => ((laws_eqBoard.f k bt278.1 bt278.2.1 bt278.2.2.1 bt260.1 bt260.2.1 bt260.2.2.1).bind fun t285 => (if t285 = true then (if bt278.2.2.2 = bt260.2.2.2 then ((laws_toBoard.f k a0_0 a0_1 l0_2).bind fun bt286 => ((laws_eqBoard.f k bt267.1 bt267.2.1 bt267.2.2 bt286.1 bt286.2.1 bt286.2.2).bind fun t291 => (if t291 = true then ((laws_markBoard.f k bt267.1 bt267.2.1 bt267.2.2 1).bind fun bt292 => (if bt292.1 < 0 then (none) else ((laws_eqBoard.f k bt278.1 bt278.2.1 bt278.2.2.1 bt260.1 bt260.2.1 bt260.2.2.1).bind fun t294 => (if t294 = true then ((laws_markBoard.f k bt278.1 bt278.2.1 bt278.2.2.1 1).bind fun bt295 => ((laws_heldBoard.f k bt278.1 bt278.2.1 bt295.2 1).bind fun t297 => (if t297 < 0 then (none) else (if t297 = bt295.1 then ((laws_toBoard.f k a0_0 a0_1 l0_2).bind fun bt298 => ((laws_toPiece.f k a1_0 a1_1 a1_2 a1_3 a1_4).bind fun bt303 => ((impl_PutPiece.f k bt298.1 bt298.2.1 bt298.2.2 bt303.1 bt303.2.1 bt303.2.2.1 bt303.2.2.2.1 bt303.2.2.2.2).bind fun bt308 => ((laws_eqBoard.f k bt308.1 bt308.2.1 bt308.2.2.1 bt260.1 bt260.2.1 bt260.2.2.1).bind fun t315 => (if t315 = true then (if bt308.2.2.2 = bt260.2.2.2 then ((laws_heldBoard.f k bt278.1 bt278.2.1 bt295.2 1).bind fun t316 => (if t316 < 0 then (none) else (if t316 = bt295.1 then (some true) else (none)))) else (none)) else (none)))))) else (none))))) else (none))))) else (none)))) else (none)) else (none))))))))))) = some r := h
 clear h
 replace H := Option.bind_eq_some_iff.mp H
 obtain ⟨t249, A30, H⟩ := H
 replace H : (if t249 < 0 then (some true) else ((laws_toBoard.f k a0_0 a0_1 l0_2).bind fun bt250 => ((laws_toPiece.f k a1_0 a1_1 a1_2 a1_3 a1_4).bind fun bt255 => ((spec_PutPiece.f k bt250.1 bt250.2.1 bt250.2.2 bt255.1 bt255.2.1 bt255.2.2.1 bt255.2.2.2.1 bt255.2.2.2.2).bind fun bt260 => ((laws_toBoard.f k a0_0 a0_1 l0_2).bind fun bt267 => ((laws_toPiece.f k a1_0 a1_1 a1_2 a1_3 a1_4).bind fun bt273 => ((impl_PutPiece.f k bt267.1 bt267.2.1 bt267.2.2 bt273.1 bt273.2.1 bt273.2.2.1 bt273.2.2.2.1 bt273.2.2.2.2).bind fun bt278 => ((laws_eqBoard.f k bt278.1 bt278.2.1 bt278.2.2.1 bt260.1 bt260.2.1 bt260.2.2.1).bind fun t285 => (if t285 = true then (if bt278.2.2.2 = bt260.2.2.2 then ((laws_toBoard.f k a0_0 a0_1 l0_2).bind fun bt286 => ((laws_eqBoard.f k bt267.1 bt267.2.1 bt267.2.2 bt286.1 bt286.2.1 bt286.2.2).bind fun t291 => (if t291 = true then ((laws_markBoard.f k bt267.1 bt267.2.1 bt267.2.2 1).bind fun bt292 => (if bt292.1 < 0 then (none) else ((laws_eqBoard.f k bt278.1 bt278.2.1 bt278.2.2.1 bt260.1 bt260.2.1 bt260.2.2.1).bind fun t294 => (if t294 = true then ((laws_markBoard.f k bt278.1 bt278.2.1 bt278.2.2.1 1).bind fun bt295 => ((laws_heldBoard.f k bt278.1 bt278.2.1 bt295.2 1).bind fun t297 => (if t297 < 0 then (none) else (if t297 = bt295.1 then ((laws_toBoard.f k a0_0 a0_1 l0_2).bind fun bt298 => ((laws_toPiece.f k a1_0 a1_1 a1_2 a1_3 a1_4).bind fun bt303 => ((impl_PutPiece.f k bt298.1 bt298.2.1 bt298.2.2 bt303.1 bt303.2.1 bt303.2.2.1 bt303.2.2.2.1 bt303.2.2.2.2).bind fun bt308 => ((laws_eqBoard.f k bt308.1 bt308.2.1 bt308.2.2.1 bt260.1 bt260.2.1 bt260.2.2.1).bind fun t315 => (if t315 = true then (if bt308.2.2.2 = bt260.2.2.2 then ((laws_heldBoard.f k bt278.1 bt278.2.1 bt295.2 1).bind fun t316 => (if t316 < 0 then (none) else (if t316 = bt295.1 then (some true) else (none)))) else (none)) else (none)))))) else (none))))) else (none))))) else (none)))) else (none)) else (none)))))))))) = some r := H
 have A3 := Aside0.mk A30
 clear A30
 by_cases c4 : t249 < 0
 ·rw [if_pos c4] at H
  have c4b0 : decide (t249 < 0) = true := decide_eq_true c4
  clear c4
  obtain rfl := Option.some.inj H
  go_enter Try.func14, Try.ntmps14
  go_wp2_with (first | ((with_reducible refine gate_dst (N := 2) rfl ?_); refine box_event ?hg (N := 2) ?hd (cs := #[.int .i8 a0_0, .int .i8 a0_1, .slice A0_2 l0_2.length c0_2]) (t := 25) ?hr ?_; (case hd => rfl); (case hg => rfl); (case hr => first | (go_simp; done) | (go_simp; rfl)); intro gb247 hg w5 hbox hb; have n_ : _ ∧ _ ∧ _ ∧ _ := ⟨zb HB hb, Aside0.mk (hbox), zg HB hg, zg HB hg⟩; clear HB; obtain ⟨HB, BK247, GW247, GE247⟩ := n_; clear hb hbox hg) | ((with_reducible refine gate_dst (N := 3) rfl ?_); refine box_event ?hg (N := 3) ?hd (cs := #[.int .i8 a1_0, .int .i8 a1_1, .int .i8 a1_2, .int .i8 a1_3, .int .i8 a1_4]) (t := 88) ?hr ?_; (case hd => rfl); (case hg => rfl); (case hr => first | (go_simp; done) | (go_simp; rfl)); intro gb248 hg w6 hbox hb; have n_ : _ ∧ _ ∧ _ ∧ _ ∧ _ ∧ _ ∧ _ := ⟨zk BK247 hb, zbs hb, Aside0.mk (hbox), zg HB hg, zg HB hg, zn1 BK247 hg, zn2 BK247 hg⟩; clear BK247 HB; obtain ⟨BK247, HB, BK248, GW248, GE248, NB247_248, NB248_247⟩ := n_; clear hb hbox hg; have hnb7 := NB247_248.out; have hnc7 := NB248_247.out; obtain ⟨z8_0, z8_1, z8_2, y8_0, y8_1, y8_2⟩ := zB3 BK247) | ((with_reducible refine gate_callee (f := 40) rfl ?_); refine goesL_ (some 18) rfl rfl Try.func40 (by kernel_rfl) rfl #[.agg #[.int .i8 a0_0, .int .i8 a0_1, .slice A0_2 l0_2.length c0_2], .int .i64 1048576] rfl (by (try simp only [List.map_toArray, List.map_cons, List.map_nil]); first | done | rfl | (simp only [List.length_drop, List.length_take]; rfl)) ?_; (with_reducible refine (laws_szBoard.calls a0_0 a0_1 _ _ l0_2 1048576 t249 _ ?side1 ?side2 A3.out).mono ?_); (case side1 => exact zcc HB HR0_2.out); (case side2 => exact HC0_2.out); rintro e w9 ⟨rfl, hb⟩; refine ⟨_, rfl, ?_⟩; have n_ : _ ∧ _ ∧ _ := ⟨zk BK247 hb, zk BK248 hb, zbs hb⟩; clear BK247 BK248 HB; obtain ⟨BK247, BK248, HB⟩ := n_; (try clear hb); (try clear hb2); (try clear hk); (try clear hi)))
  go_ret
  exact ⟨by first | rfl | (simp [errW_none, errW_some] <;> rfl) | (simp [*, errW_none, errW_some] <;> rfl), by repeat (first | (with_reducible first | exact HB.out | apply below_alloc | apply pw_below_drewN | apply below_drew1 | refine below_set ?_ GE247.out | refine below_set ?_ GE248.out) | exact HB.out)⟩
 rw [if_neg c4] at H
 have c4b0 : decide (t249 < 0) = false := decide_eq_false c4
 clear c4
 replace H := Option.bind_eq_some_iff.mp H
 obtain ⟨⟨t250, t251, t252⟩, A100, H⟩ := H
 replace H : ((laws_toPiece.f k a1_0 a1_1 a1_2 a1_3 a1_4).bind fun bt255 => ((spec_PutPiece.f k t250 t251 t252 bt255.1 bt255.2.1 bt255.2.2.1 bt255.2.2.2.1 bt255.2.2.2.2).bind fun bt260 => ((laws_toBoard.f k a0_0 a0_1 l0_2).bind fun bt267 => ((laws_toPiece.f k a1_0 a1_1 a1_2 a1_3 a1_4).bind fun bt273 => ((impl_PutPiece.f k bt267.1 bt267.2.1 bt267.2.2 bt273.1 bt273.2.1 bt273.2.2.1 bt273.2.2.2.1 bt273.2.2.2.2).bind fun bt278 => ((laws_eqBoard.f k bt278.1 bt278.2.1 bt278.2.2.1 bt260.1 bt260.2.1 bt260.2.2.1).bind fun t285 => (if t285 = true then (if bt278.2.2.2 = bt260.2.2.2 then ((laws_toBoard.f k a0_0 a0_1 l0_2).bind fun bt286 => ((laws_eqBoard.f k bt267.1 bt267.2.1 bt267.2.2 bt286.1 bt286.2.1 bt286.2.2).bind fun t291 => (if t291 = true then ((laws_markBoard.f k bt267.1 bt267.2.1 bt267.2.2 1).bind fun bt292 => (if bt292.1 < 0 then (none) else ((laws_eqBoard.f k bt278.1 bt278.2.1 bt278.2.2.1 bt260.1 bt260.2.1 bt260.2.2.1).bind fun t294 => (if t294 = true then ((laws_markBoard.f k bt278.1 bt278.2.1 bt278.2.2.1 1).bind fun bt295 => ((laws_heldBoard.f k bt278.1 bt278.2.1 bt295.2 1).bind fun t297 => (if t297 < 0 then (none) else (if t297 = bt295.1 then ((laws_toBoard.f k a0_0 a0_1 l0_2).bind fun bt298 => ((laws_toPiece.f k a1_0 a1_1 a1_2 a1_3 a1_4).bind fun bt303 => ((impl_PutPiece.f k bt298.1 bt298.2.1 bt298.2.2 bt303.1 bt303.2.1 bt303.2.2.1 bt303.2.2.2.1 bt303.2.2.2.2).bind fun bt308 => ((laws_eqBoard.f k bt308.1 bt308.2.1 bt308.2.2.1 bt260.1 bt260.2.1 bt260.2.2.1).bind fun t315 => (if t315 = true then (if bt308.2.2.2 = bt260.2.2.2 then ((laws_heldBoard.f k bt278.1 bt278.2.1 bt295.2 1).bind fun t316 => (if t316 < 0 then (none) else (if t316 = bt295.1 then (some true) else (none)))) else (none)) else (none)))))) else (none))))) else (none))))) else (none)))) else (none)) else (none)))))))) = some r := H
 have A10 := Aside0.mk A100
 clear A100
 replace H := Option.bind_eq_some_iff.mp H
 obtain ⟨⟨t255, t256, t257, t258, t259⟩, A110, H⟩ := H
 replace H : ((spec_PutPiece.f k t250 t251 t252 t255 t256 t257 t258 t259).bind fun bt260 => ((laws_toBoard.f k a0_0 a0_1 l0_2).bind fun bt267 => ((laws_toPiece.f k a1_0 a1_1 a1_2 a1_3 a1_4).bind fun bt273 => ((impl_PutPiece.f k bt267.1 bt267.2.1 bt267.2.2 bt273.1 bt273.2.1 bt273.2.2.1 bt273.2.2.2.1 bt273.2.2.2.2).bind fun bt278 => ((laws_eqBoard.f k bt278.1 bt278.2.1 bt278.2.2.1 bt260.1 bt260.2.1 bt260.2.2.1).bind fun t285 => (if t285 = true then (if bt278.2.2.2 = bt260.2.2.2 then ((laws_toBoard.f k a0_0 a0_1 l0_2).bind fun bt286 => ((laws_eqBoard.f k bt267.1 bt267.2.1 bt267.2.2 bt286.1 bt286.2.1 bt286.2.2).bind fun t291 => (if t291 = true then ((laws_markBoard.f k bt267.1 bt267.2.1 bt267.2.2 1).bind fun bt292 => (if bt292.1 < 0 then (none) else ((laws_eqBoard.f k bt278.1 bt278.2.1 bt278.2.2.1 bt260.1 bt260.2.1 bt260.2.2.1).bind fun t294 => (if t294 = true then ((laws_markBoard.f k bt278.1 bt278.2.1 bt278.2.2.1 1).bind fun bt295 => ((laws_heldBoard.f k bt278.1 bt278.2.1 bt295.2 1).bind fun t297 => (if t297 < 0 then (none) else (if t297 = bt295.1 then ((laws_toBoard.f k a0_0 a0_1 l0_2).bind fun bt298 => ((laws_toPiece.f k a1_0 a1_1 a1_2 a1_3 a1_4).bind fun bt303 => ((impl_PutPiece.f k bt298.1 bt298.2.1 bt298.2.2 bt303.1 bt303.2.1 bt303.2.2.1 bt303.2.2.2.1 bt303.2.2.2.2).bind fun bt308 => ((laws_eqBoard.f k bt308.1 bt308.2.1 bt308.2.2.1 bt260.1 bt260.2.1 bt260.2.2.1).bind fun t315 => (if t315 = true then (if bt308.2.2.2 = bt260.2.2.2 then ((laws_heldBoard.f k bt278.1 bt278.2.1 bt295.2 1).bind fun t316 => (if t316 < 0 then (none) else (if t316 = bt295.1 then (some true) else (none)))) else (none)) else (none)))))) else (none))))) else (none))))) else (none)))) else (none)) else (none))))))) = some r := H
 have A11 := Aside0.mk A110
 clear A110
 replace H := Option.bind_eq_some_iff.mp H
 obtain ⟨⟨t260, t261, t262, t265⟩, A120, H⟩ := H
 replace H : ((laws_toBoard.f k a0_0 a0_1 l0_2).bind fun bt267 => ((laws_toPiece.f k a1_0 a1_1 a1_2 a1_3 a1_4).bind fun bt273 => ((impl_PutPiece.f k bt267.1 bt267.2.1 bt267.2.2 bt273.1 bt273.2.1 bt273.2.2.1 bt273.2.2.2.1 bt273.2.2.2.2).bind fun bt278 => ((laws_eqBoard.f k bt278.1 bt278.2.1 bt278.2.2.1 t260 t261 t262).bind fun t285 => (if t285 = true then (if bt278.2.2.2 = t265 then ((laws_toBoard.f k a0_0 a0_1 l0_2).bind fun bt286 => ((laws_eqBoard.f k bt267.1 bt267.2.1 bt267.2.2 bt286.1 bt286.2.1 bt286.2.2).bind fun t291 => (if t291 = true then ((laws_markBoard.f k bt267.1 bt267.2.1 bt267.2.2 1).bind fun bt292 => (if bt292.1 < 0 then (none) else ((laws_eqBoard.f k bt278.1 bt278.2.1 bt278.2.2.1 t260 t261 t262).bind fun t294 => (if t294 = true then ((laws_markBoard.f k bt278.1 bt278.2.1 bt278.2.2.1 1).bind fun bt295 => ((laws_heldBoard.f k bt278.1 bt278.2.1 bt295.2 1).bind fun t297 => (if t297 < 0 then (none) else (if t297 = bt295.1 then ((laws_toBoard.f k a0_0 a0_1 l0_2).bind fun bt298 => ((laws_toPiece.f k a1_0 a1_1 a1_2 a1_3 a1_4).bind fun bt303 => ((impl_PutPiece.f k bt298.1 bt298.2.1 bt298.2.2 bt303.1 bt303.2.1 bt303.2.2.1 bt303.2.2.2.1 bt303.2.2.2.2).bind fun bt308 => ((laws_eqBoard.f k bt308.1 bt308.2.1 bt308.2.2.1 t260 t261 t262).bind fun t315 => (if t315 = true then (if bt308.2.2.2 = t265 then ((laws_heldBoard.f k bt278.1 bt278.2.1 bt295.2 1).bind fun t316 => (if t316 < 0 then (none) else (if t316 = bt295.1 then (some true) else (none)))) else (none)) else (none)))))) else (none))))) else (none))))) else (none)))) else (none)) else (none)))))) = some r := H
 have A12 := Aside0.mk A120
 clear A120
 replace H := Option.bind_eq_some_iff.mp H
 obtain ⟨⟨t267, t268, t269⟩, A130, H⟩ := H
 replace H : ((laws_toPiece.f k a1_0 a1_1 a1_2 a1_3 a1_4).bind fun bt273 => ((impl_PutPiece.f k t267 t268 t269 bt273.1 bt273.2.1 bt273.2.2.1 bt273.2.2.2.1 bt273.2.2.2.2).bind fun bt278 => ((laws_eqBoard.f k bt278.1 bt278.2.1 bt278.2.2.1 t260 t261 t262).bind fun t285 => (if t285 = true then (if bt278.2.2.2 = t265 then ((laws_toBoard.f k a0_0 a0_1 l0_2).bind fun bt286 => ((laws_eqBoard.f k t267 t268 t269 bt286.1 bt286.2.1 bt286.2.2).bind fun t291 => (if t291 = true then ((laws_markBoard.f k t267 t268 t269 1).bind fun bt292 => (if bt292.1 < 0 then (none) else ((laws_eqBoard.f k bt278.1 bt278.2.1 bt278.2.2.1 t260 t261 t262).bind fun t294 => (if t294 = true then ((laws_markBoard.f k bt278.1 bt278.2.1 bt278.2.2.1 1).bind fun bt295 => ((laws_heldBoard.f k bt278.1 bt278.2.1 bt295.2 1).bind fun t297 => (if t297 < 0 then (none) else (if t297 = bt295.1 then ((laws_toBoard.f k a0_0 a0_1 l0_2).bind fun bt298 => ((laws_toPiece.f k a1_0 a1_1 a1_2 a1_3 a1_4).bind fun bt303 => ((impl_PutPiece.f k bt298.1 bt298.2.1 bt298.2.2 bt303.1 bt303.2.1 bt303.2.2.1 bt303.2.2.2.1 bt303.2.2.2.2).bind fun bt308 => ((laws_eqBoard.f k bt308.1 bt308.2.1 bt308.2.2.1 t260 t261 t262).bind fun t315 => (if t315 = true then (if bt308.2.2.2 = t265 then ((laws_heldBoard.f k bt278.1 bt278.2.1 bt295.2 1).bind fun t316 => (if t316 < 0 then (none) else (if t316 = bt295.1 then (some true) else (none)))) else (none)) else (none)))))) else (none))))) else (none))))) else (none)))) else (none)) else (none))))) = some r := H
 have A13 := Aside0.mk A130
 clear A130
 replace H := Option.bind_eq_some_iff.mp H
 obtain ⟨⟨t273, t274, t275, t276, t277⟩, A140, H⟩ := H
 replace H : ((impl_PutPiece.f k t267 t268 t269 t273 t274 t275 t276 t277).bind fun bt278 => ((laws_eqBoard.f k bt278.1 bt278.2.1 bt278.2.2.1 t260 t261 t262).bind fun t285 => (if t285 = true then (if bt278.2.2.2 = t265 then ((laws_toBoard.f k a0_0 a0_1 l0_2).bind fun bt286 => ((laws_eqBoard.f k t267 t268 t269 bt286.1 bt286.2.1 bt286.2.2).bind fun t291 => (if t291 = true then ((laws_markBoard.f k t267 t268 t269 1).bind fun bt292 => (if bt292.1 < 0 then (none) else ((laws_eqBoard.f k bt278.1 bt278.2.1 bt278.2.2.1 t260 t261 t262).bind fun t294 => (if t294 = true then ((laws_markBoard.f k bt278.1 bt278.2.1 bt278.2.2.1 1).bind fun bt295 => ((laws_heldBoard.f k bt278.1 bt278.2.1 bt295.2 1).bind fun t297 => (if t297 < 0 then (none) else (if t297 = bt295.1 then ((laws_toBoard.f k a0_0 a0_1 l0_2).bind fun bt298 => ((laws_toPiece.f k a1_0 a1_1 a1_2 a1_3 a1_4).bind fun bt303 => ((impl_PutPiece.f k bt298.1 bt298.2.1 bt298.2.2 bt303.1 bt303.2.1 bt303.2.2.1 bt303.2.2.2.1 bt303.2.2.2.2).bind fun bt308 => ((laws_eqBoard.f k bt308.1 bt308.2.1 bt308.2.2.1 t260 t261 t262).bind fun t315 => (if t315 = true then (if bt308.2.2.2 = t265 then ((laws_heldBoard.f k bt278.1 bt278.2.1 bt295.2 1).bind fun t316 => (if t316 < 0 then (none) else (if t316 = bt295.1 then (some true) else (none)))) else (none)) else (none)))))) else (none))))) else (none))))) else (none)))) else (none)) else (none)))) = some r := H
 have A14 := Aside0.mk A140
 clear A140
 replace H := Option.bind_eq_some_iff.mp H
 obtain ⟨⟨t278, t279, t280, t283⟩, A150, H⟩ := H
 replace H : ((laws_eqBoard.f k t278 t279 t280 t260 t261 t262).bind fun t285 => (if t285 = true then (if t283 = t265 then ((laws_toBoard.f k a0_0 a0_1 l0_2).bind fun bt286 => ((laws_eqBoard.f k t267 t268 t269 bt286.1 bt286.2.1 bt286.2.2).bind fun t291 => (if t291 = true then ((laws_markBoard.f k t267 t268 t269 1).bind fun bt292 => (if bt292.1 < 0 then (none) else ((laws_eqBoard.f k t278 t279 t280 t260 t261 t262).bind fun t294 => (if t294 = true then ((laws_markBoard.f k t278 t279 t280 1).bind fun bt295 => ((laws_heldBoard.f k t278 t279 bt295.2 1).bind fun t297 => (if t297 < 0 then (none) else (if t297 = bt295.1 then ((laws_toBoard.f k a0_0 a0_1 l0_2).bind fun bt298 => ((laws_toPiece.f k a1_0 a1_1 a1_2 a1_3 a1_4).bind fun bt303 => ((impl_PutPiece.f k bt298.1 bt298.2.1 bt298.2.2 bt303.1 bt303.2.1 bt303.2.2.1 bt303.2.2.2.1 bt303.2.2.2.2).bind fun bt308 => ((laws_eqBoard.f k bt308.1 bt308.2.1 bt308.2.2.1 t260 t261 t262).bind fun t315 => (if t315 = true then (if bt308.2.2.2 = t265 then ((laws_heldBoard.f k t278 t279 bt295.2 1).bind fun t316 => (if t316 < 0 then (none) else (if t316 = bt295.1 then (some true) else (none)))) else (none)) else (none)))))) else (none))))) else (none))))) else (none)))) else (none)) else (none))) = some r := H
 have A15 := Aside0.mk A150
 clear A150
 replace H := Option.bind_eq_some_iff.mp H
 obtain ⟨t285, A160, H⟩ := H
 replace H : (if t285 = true then (if t283 = t265 then ((laws_toBoard.f k a0_0 a0_1 l0_2).bind fun bt286 => ((laws_eqBoard.f k t267 t268 t269 bt286.1 bt286.2.1 bt286.2.2).bind fun t291 => (if t291 = true then ((laws_markBoard.f k t267 t268 t269 1).bind fun bt292 => (if bt292.1 < 0 then (none) else ((laws_eqBoard.f k t278 t279 t280 t260 t261 t262).bind fun t294 => (if t294 = true then ((laws_markBoard.f k t278 t279 t280 1).bind fun bt295 => ((laws_heldBoard.f k t278 t279 bt295.2 1).bind fun t297 => (if t297 < 0 then (none) else (if t297 = bt295.1 then ((laws_toBoard.f k a0_0 a0_1 l0_2).bind fun bt298 => ((laws_toPiece.f k a1_0 a1_1 a1_2 a1_3 a1_4).bind fun bt303 => ((impl_PutPiece.f k bt298.1 bt298.2.1 bt298.2.2 bt303.1 bt303.2.1 bt303.2.2.1 bt303.2.2.2.1 bt303.2.2.2.2).bind fun bt308 => ((laws_eqBoard.f k bt308.1 bt308.2.1 bt308.2.2.1 t260 t261 t262).bind fun t315 => (if t315 = true then (if bt308.2.2.2 = t265 then ((laws_heldBoard.f k t278 t279 bt295.2 1).bind fun t316 => (if t316 < 0 then (none) else (if t316 = bt295.1 then (some true) else (none)))) else (none)) else (none)))))) else (none))))) else (none))))) else (none)))) else (none)) else (none)) = some r := H
 have A16 := Aside0.mk A160
 clear A160
 by_cases c17 : t285 = true
 rotate_left
 ·replace c17 := Bool.eq_false_iff.mpr c17
  subst c17
  have H1 : (none) = some r := by rw [if_neg (show ¬ (false = true) by decide)] at H; exact H
  clear H
  have H := H1
  clear H1
  exact absurd H (by simp)
 subst c17
 have H1 : (if t283 = t265 then ((laws_toBoard.f k a0_0 a0_1 l0_2).bind fun bt286 => ((laws_eqBoard.f k t267 t268 t269 bt286.1 bt286.2.1 bt286.2.2).bind fun t291 => (if t291 = true then ((laws_markBoard.f k t267 t268 t269 1).bind fun bt292 => (if bt292.1 < 0 then (none) else ((laws_eqBoard.f k t278 t279 t280 t260 t261 t262).bind fun t294 => (if t294 = true then ((laws_markBoard.f k t278 t279 t280 1).bind fun bt295 => ((laws_heldBoard.f k t278 t279 bt295.2 1).bind fun t297 => (if t297 < 0 then (none) else (if t297 = bt295.1 then ((laws_toBoard.f k a0_0 a0_1 l0_2).bind fun bt298 => ((laws_toPiece.f k a1_0 a1_1 a1_2 a1_3 a1_4).bind fun bt303 => ((impl_PutPiece.f k bt298.1 bt298.2.1 bt298.2.2 bt303.1 bt303.2.1 bt303.2.2.1 bt303.2.2.2.1 bt303.2.2.2.2).bind fun bt308 => ((laws_eqBoard.f k bt308.1 bt308.2.1 bt308.2.2.1 t260 t261 t262).bind fun t315 => (if t315 = true then (if bt308.2.2.2 = t265 then ((laws_heldBoard.f k t278 t279 bt295.2 1).bind fun t316 => (if t316 < 0 then (none) else (if t316 = bt295.1 then (some true) else (none)))) else (none)) else (none)))))) else (none))))) else (none))))) else (none)))) else (none)) = some r := by rw [if_pos rfl] at H; exact H
 clear H
 have H := H1
 clear H1
 by_cases c18 : t283 = t265
 rotate_left
 ·rw [if_neg c18] at H
  exact absurd H (by simp)
 rw [if_pos c18] at H
 have c18b0 : (t283 == t265) = true := beq_iff_eq.mpr c18
 have c18b1 : (t283 != t265) = false := bne_eq_false_iff_eq.mpr c18
 clear c18
 replace H := Option.bind_eq_some_iff.mp H
 obtain ⟨⟨t286, t287, t288⟩, A190, H⟩ := H
 replace H : ((laws_eqBoard.f k t267 t268 t269 t286 t287 t288).bind fun t291 => (if t291 = true then ((laws_markBoard.f k t267 t268 t269 1).bind fun bt292 => (if bt292.1 < 0 then (none) else ((laws_eqBoard.f k t278 t279 t280 t260 t261 t262).bind fun t294 => (if t294 = true then ((laws_markBoard.f k t278 t279 t280 1).bind fun bt295 => ((laws_heldBoard.f k t278 t279 bt295.2 1).bind fun t297 => (if t297 < 0 then (none) else (if t297 = bt295.1 then ((laws_toBoard.f k a0_0 a0_1 l0_2).bind fun bt298 => ((laws_toPiece.f k a1_0 a1_1 a1_2 a1_3 a1_4).bind fun bt303 => ((impl_PutPiece.f k bt298.1 bt298.2.1 bt298.2.2 bt303.1 bt303.2.1 bt303.2.2.1 bt303.2.2.2.1 bt303.2.2.2.2).bind fun bt308 => ((laws_eqBoard.f k bt308.1 bt308.2.1 bt308.2.2.1 t260 t261 t262).bind fun t315 => (if t315 = true then (if bt308.2.2.2 = t265 then ((laws_heldBoard.f k t278 t279 bt295.2 1).bind fun t316 => (if t316 < 0 then (none) else (if t316 = bt295.1 then (some true) else (none)))) else (none)) else (none)))))) else (none))))) else (none))))) else (none))) = some r := H
 have A19 := Aside0.mk A190
 clear A190
 replace H := Option.bind_eq_some_iff.mp H
 obtain ⟨t291, A200, H⟩ := H
 replace H : (if t291 = true then ((laws_markBoard.f k t267 t268 t269 1).bind fun bt292 => (if bt292.1 < 0 then (none) else ((laws_eqBoard.f k t278 t279 t280 t260 t261 t262).bind fun t294 => (if t294 = true then ((laws_markBoard.f k t278 t279 t280 1).bind fun bt295 => ((laws_heldBoard.f k t278 t279 bt295.2 1).bind fun t297 => (if t297 < 0 then (none) else (if t297 = bt295.1 then ((laws_toBoard.f k a0_0 a0_1 l0_2).bind fun bt298 => ((laws_toPiece.f k a1_0 a1_1 a1_2 a1_3 a1_4).bind fun bt303 => ((impl_PutPiece.f k bt298.1 bt298.2.1 bt298.2.2 bt303.1 bt303.2.1 bt303.2.2.1 bt303.2.2.2.1 bt303.2.2.2.2).bind fun bt308 => ((laws_eqBoard.f k bt308.1 bt308.2.1 bt308.2.2.1 t260 t261 t262).bind fun t315 => (if t315 = true then (if bt308.2.2.2 = t265 then ((laws_heldBoard.f k t278 t279 bt295.2 1).bind fun t316 => (if t316 < 0 then (none) else (if t316 = bt295.1 then (some true) else (none)))) else (none)) else (none)))))) else (none))))) else (none))))) else (none)) = some r := H
 have A20 := Aside0.mk A200
 clear A200
 by_cases c21 : t291 = true
 rotate_left
 ·replace c21 := Bool.eq_false_iff.mpr c21
  subst c21
  have H1 : (none) = some r := by rw [if_neg (show ¬ (false = true) by decide)] at H; exact H
  clear H
  have H := H1
  clear H1
  exact absurd H (by simp)
 subst c21
 have H1 : ((laws_markBoard.f k t267 t268 t269 1).bind fun bt292 => (if bt292.1 < 0 then (none) else ((laws_eqBoard.f k t278 t279 t280 t260 t261 t262).bind fun t294 => (if t294 = true then ((laws_markBoard.f k t278 t279 t280 1).bind fun bt295 => ((laws_heldBoard.f k t278 t279 bt295.2 1).bind fun t297 => (if t297 < 0 then (none) else (if t297 = bt295.1 then ((laws_toBoard.f k a0_0 a0_1 l0_2).bind fun bt298 => ((laws_toPiece.f k a1_0 a1_1 a1_2 a1_3 a1_4).bind fun bt303 => ((impl_PutPiece.f k bt298.1 bt298.2.1 bt298.2.2 bt303.1 bt303.2.1 bt303.2.2.1 bt303.2.2.2.1 bt303.2.2.2.2).bind fun bt308 => ((laws_eqBoard.f k bt308.1 bt308.2.1 bt308.2.2.1 t260 t261 t262).bind fun t315 => (if t315 = true then (if bt308.2.2.2 = t265 then ((laws_heldBoard.f k t278 t279 bt295.2 1).bind fun t316 => (if t316 < 0 then (none) else (if t316 = bt295.1 then (some true) else (none)))) else (none)) else (none)))))) else (none))))) else (none))))) = some r := by rw [if_pos rfl] at H; exact H
 clear H
 have H := H1
 clear H1
 replace H := Option.bind_eq_some_iff.mp H
 obtain ⟨⟨t292, t293⟩, A220, H⟩ := H
 replace H : (if t292 < 0 then (none) else ((laws_eqBoard.f k t278 t279 t280 t260 t261 t262).bind fun t294 => (if t294 = true then ((laws_markBoard.f k t278 t279 t280 1).bind fun bt295 => ((laws_heldBoard.f k t278 t279 bt295.2 1).bind fun t297 => (if t297 < 0 then (none) else (if t297 = bt295.1 then ((laws_toBoard.f k a0_0 a0_1 l0_2).bind fun bt298 => ((laws_toPiece.f k a1_0 a1_1 a1_2 a1_3 a1_4).bind fun bt303 => ((impl_PutPiece.f k bt298.1 bt298.2.1 bt298.2.2 bt303.1 bt303.2.1 bt303.2.2.1 bt303.2.2.2.1 bt303.2.2.2.2).bind fun bt308 => ((laws_eqBoard.f k bt308.1 bt308.2.1 bt308.2.2.1 t260 t261 t262).bind fun t315 => (if t315 = true then (if bt308.2.2.2 = t265 then ((laws_heldBoard.f k t278 t279 bt295.2 1).bind fun t316 => (if t316 < 0 then (none) else (if t316 = bt295.1 then (some true) else (none)))) else (none)) else (none)))))) else (none))))) else (none)))) = some r := H
 have A22 := Aside0.mk A220
 clear A220
 by_cases c23 : t292 < 0
 ·rw [if_pos c23] at H
  exact absurd H (by simp)
 rw [if_neg c23] at H
 have c23b0 : decide (t292 < 0) = false := decide_eq_false c23
 clear c23
 replace H := Option.bind_eq_some_iff.mp H
 obtain ⟨t294, A240, H⟩ := H
 replace H : (if t294 = true then ((laws_markBoard.f k t278 t279 t280 1).bind fun bt295 => ((laws_heldBoard.f k t278 t279 bt295.2 1).bind fun t297 => (if t297 < 0 then (none) else (if t297 = bt295.1 then ((laws_toBoard.f k a0_0 a0_1 l0_2).bind fun bt298 => ((laws_toPiece.f k a1_0 a1_1 a1_2 a1_3 a1_4).bind fun bt303 => ((impl_PutPiece.f k bt298.1 bt298.2.1 bt298.2.2 bt303.1 bt303.2.1 bt303.2.2.1 bt303.2.2.2.1 bt303.2.2.2.2).bind fun bt308 => ((laws_eqBoard.f k bt308.1 bt308.2.1 bt308.2.2.1 t260 t261 t262).bind fun t315 => (if t315 = true then (if bt308.2.2.2 = t265 then ((laws_heldBoard.f k t278 t279 bt295.2 1).bind fun t316 => (if t316 < 0 then (none) else (if t316 = bt295.1 then (some true) else (none)))) else (none)) else (none)))))) else (none))))) else (none)) = some r := H
 have A24 := Aside0.mk A240
 clear A240
 by_cases c25 : t294 = true
 rotate_left
 ·replace c25 := Bool.eq_false_iff.mpr c25
  subst c25
  have H1 : (none) = some r := by rw [if_neg (show ¬ (false = true) by decide)] at H; exact H
  clear H
  have H := H1
  clear H1
  exact absurd H (by simp)
 subst c25
 have H1 : ((laws_markBoard.f k t278 t279 t280 1).bind fun bt295 => ((laws_heldBoard.f k t278 t279 bt295.2 1).bind fun t297 => (if t297 < 0 then (none) else (if t297 = bt295.1 then ((laws_toBoard.f k a0_0 a0_1 l0_2).bind fun bt298 => ((laws_toPiece.f k a1_0 a1_1 a1_2 a1_3 a1_4).bind fun bt303 => ((impl_PutPiece.f k bt298.1 bt298.2.1 bt298.2.2 bt303.1 bt303.2.1 bt303.2.2.1 bt303.2.2.2.1 bt303.2.2.2.2).bind fun bt308 => ((laws_eqBoard.f k bt308.1 bt308.2.1 bt308.2.2.1 t260 t261 t262).bind fun t315 => (if t315 = true then (if bt308.2.2.2 = t265 then ((laws_heldBoard.f k t278 t279 bt295.2 1).bind fun t316 => (if t316 < 0 then (none) else (if t316 = bt295.1 then (some true) else (none)))) else (none)) else (none)))))) else (none))))) = some r := by rw [if_pos rfl] at H; exact H
 clear H
 have H := H1
 clear H1
 replace H := Option.bind_eq_some_iff.mp H
 obtain ⟨⟨t295, t296⟩, A260, H⟩ := H
 replace H : ((laws_heldBoard.f k t278 t279 t296 1).bind fun t297 => (if t297 < 0 then (none) else (if t297 = t295 then ((laws_toBoard.f k a0_0 a0_1 l0_2).bind fun bt298 => ((laws_toPiece.f k a1_0 a1_1 a1_2 a1_3 a1_4).bind fun bt303 => ((impl_PutPiece.f k bt298.1 bt298.2.1 bt298.2.2 bt303.1 bt303.2.1 bt303.2.2.1 bt303.2.2.2.1 bt303.2.2.2.2).bind fun bt308 => ((laws_eqBoard.f k bt308.1 bt308.2.1 bt308.2.2.1 t260 t261 t262).bind fun t315 => (if t315 = true then (if bt308.2.2.2 = t265 then ((laws_heldBoard.f k t278 t279 t296 1).bind fun t316 => (if t316 < 0 then (none) else (if t316 = t295 then (some true) else (none)))) else (none)) else (none)))))) else (none)))) = some r := H
 have A26 := Aside0.mk A260
 clear A260
 replace H := Option.bind_eq_some_iff.mp H
 obtain ⟨t297, A270, H⟩ := H
 replace H : (if t297 < 0 then (none) else (if t297 = t295 then ((laws_toBoard.f k a0_0 a0_1 l0_2).bind fun bt298 => ((laws_toPiece.f k a1_0 a1_1 a1_2 a1_3 a1_4).bind fun bt303 => ((impl_PutPiece.f k bt298.1 bt298.2.1 bt298.2.2 bt303.1 bt303.2.1 bt303.2.2.1 bt303.2.2.2.1 bt303.2.2.2.2).bind fun bt308 => ((laws_eqBoard.f k bt308.1 bt308.2.1 bt308.2.2.1 t260 t261 t262).bind fun t315 => (if t315 = true then (if bt308.2.2.2 = t265 then ((laws_heldBoard.f k t278 t279 t296 1).bind fun t316 => (if t316 < 0 then (none) else (if t316 = t295 then (some true) else (none)))) else (none)) else (none)))))) else (none))) = some r := H
 have A27 := Aside0.mk A270
 clear A270
 by_cases c28 : t297 < 0
 ·rw [if_pos c28] at H
  exact absurd H (by simp)
 rw [if_neg c28] at H
 have c28b0 : decide (t297 < 0) = false := decide_eq_false c28
 clear c28
 by_cases c29 : t297 = t295
 rotate_left
 ·rw [if_neg c29] at H
  exact absurd H (by simp)
 rw [if_pos c29] at H
 have c29b0 : (t297 == t295) = true := beq_iff_eq.mpr c29
 have c29b1 : (t297 != t295) = false := bne_eq_false_iff_eq.mpr c29
 clear c29
 replace H := Option.bind_eq_some_iff.mp H
 obtain ⟨⟨t298, t299, t300⟩, A300, H⟩ := H
 replace H : ((laws_toPiece.f k a1_0 a1_1 a1_2 a1_3 a1_4).bind fun bt303 => ((impl_PutPiece.f k t298 t299 t300 bt303.1 bt303.2.1 bt303.2.2.1 bt303.2.2.2.1 bt303.2.2.2.2).bind fun bt308 => ((laws_eqBoard.f k bt308.1 bt308.2.1 bt308.2.2.1 t260 t261 t262).bind fun t315 => (if t315 = true then (if bt308.2.2.2 = t265 then ((laws_heldBoard.f k t278 t279 t296 1).bind fun t316 => (if t316 < 0 then (none) else (if t316 = t295 then (some true) else (none)))) else (none)) else (none))))) = some r := H
 have A30 := Aside0.mk A300
 clear A300
 replace H := Option.bind_eq_some_iff.mp H
 obtain ⟨⟨t303, t304, t305, t306, t307⟩, A310, H⟩ := H
 replace H : ((impl_PutPiece.f k t298 t299 t300 t303 t304 t305 t306 t307).bind fun bt308 => ((laws_eqBoard.f k bt308.1 bt308.2.1 bt308.2.2.1 t260 t261 t262).bind fun t315 => (if t315 = true then (if bt308.2.2.2 = t265 then ((laws_heldBoard.f k t278 t279 t296 1).bind fun t316 => (if t316 < 0 then (none) else (if t316 = t295 then (some true) else (none)))) else (none)) else (none)))) = some r := H
 have A31 := Aside0.mk A310
 clear A310
 replace H := Option.bind_eq_some_iff.mp H
 obtain ⟨⟨t308, t309, t310, t313⟩, A320, H⟩ := H
 replace H : ((laws_eqBoard.f k t308 t309 t310 t260 t261 t262).bind fun t315 => (if t315 = true then (if t313 = t265 then ((laws_heldBoard.f k t278 t279 t296 1).bind fun t316 => (if t316 < 0 then (none) else (if t316 = t295 then (some true) else (none)))) else (none)) else (none))) = some r := H
 have A32 := Aside0.mk A320
 clear A320
 replace H := Option.bind_eq_some_iff.mp H
 obtain ⟨t315, A330, H⟩ := H
 replace H : (if t315 = true then (if t313 = t265 then ((laws_heldBoard.f k t278 t279 t296 1).bind fun t316 => (if t316 < 0 then (none) else (if t316 = t295 then (some true) else (none)))) else (none)) else (none)) = some r := H
 have A33 := Aside0.mk A330
 clear A330
 by_cases c34 : t315 = true
 rotate_left
 ·replace c34 := Bool.eq_false_iff.mpr c34
  subst c34
  have H1 : (none) = some r := by rw [if_neg (show ¬ (false = true) by decide)] at H; exact H
  clear H
  have H := H1
  clear H1
  exact absurd H (by simp)
 subst c34
 have H1 : (if t313 = t265 then ((laws_heldBoard.f k t278 t279 t296 1).bind fun t316 => (if t316 < 0 then (none) else (if t316 = t295 then (some true) else (none)))) else (none)) = some r := by rw [if_pos rfl] at H; exact H
 clear H
 have H := H1
 clear H1
 by_cases c35 : t313 = t265
 rotate_left
 ·rw [if_neg c35] at H
  exact absurd H (by simp)
 rw [if_pos c35] at H
 have c35b0 : (t313 == t265) = true := beq_iff_eq.mpr c35
 have c35b1 : (t313 != t265) = false := bne_eq_false_iff_eq.mpr c35
 clear c35
 replace H := Option.bind_eq_some_iff.mp H
 obtain ⟨t316, A360, H⟩ := H
 replace H : (if t316 < 0 then (none) else (if t316 = t295 then (some true) else (none))) = some r := H
 have A36 := Aside0.mk A360
 clear A360
 by_cases c37 : t316 < 0
 ·rw [if_pos c37] at H
  exact absurd H (by simp)
 rw [if_neg c37] at H
 have c37b0 : decide (t316 < 0) = false := decide_eq_false c37
 clear c37
 by_cases c38 : t316 = t295
 rotate_left
 ·rw [if_neg c38] at H
  exact absurd H (by simp)
 rw [if_pos c38] at H
 have c38b0 : (t316 == t295) = true := beq_iff_eq.mpr c38
 have c38b1 : (t316 != t295) = false := bne_eq_false_iff_eq.mpr c38
 clear c38
 obtain rfl := Option.some.inj H
 go_enter Try.func14, Try.ntmps14
 try go_wp2_with (first | ((with_reducible refine gate_dst (N := 2) rfl ?_); refine box_event ?hg (N := 2) ?hd (cs := #[.int .i8 a0_0, .int .i8 a0_1, .slice A0_2 l0_2.length c0_2]) (t := 25) ?hr ?_; (case hd => rfl); (case hg => rfl); (case hr => first | (go_simp; done) | (go_simp; rfl)); intro gb247 hg w39 hbox hb; have n_ : _ ∧ _ ∧ _ ∧ _ := ⟨zb HB hb, Aside0.mk (hbox), zg HB hg, zg HB hg⟩; clear HB; obtain ⟨HB, BK247, GW247, GE247⟩ := n_; clear hb hbox hg) | ((with_reducible refine gate_dst (N := 3) rfl ?_); refine box_event ?hg (N := 3) ?hd (cs := #[.int .i8 a1_0, .int .i8 a1_1, .int .i8 a1_2, .int .i8 a1_3, .int .i8 a1_4]) (t := 88) ?hr ?_; (case hd => rfl); (case hg => rfl); (case hr => first | (go_simp; done) | (go_simp; rfl)); intro gb248 hg w40 hbox hb; have n_ : _ ∧ _ ∧ _ ∧ _ ∧ _ ∧ _ ∧ _ := ⟨zk BK247 hb, zbs hb, Aside0.mk (hbox), zg HB hg, zg HB hg, zn1 BK247 hg, zn2 BK247 hg⟩; clear BK247 HB; obtain ⟨BK247, HB, BK248, GW248, GE248, NB247_248, NB248_247⟩ := n_; clear hb hbox hg; have hnb41 := NB247_248.out; have hnc41 := NB248_247.out; obtain ⟨z42_0, z42_1, z42_2, y42_0, y42_1, y42_2⟩ := zB3 BK247) | ((with_reducible refine gate_callee (f := 40) rfl ?_); refine goesL_ (some 18) rfl rfl Try.func40 (by kernel_rfl) rfl #[.agg #[.int .i8 a0_0, .int .i8 a0_1, .slice A0_2 l0_2.length c0_2], .int .i64 1048576] rfl (by (try simp only [List.map_toArray, List.map_cons, List.map_nil]); first | done | rfl | (simp only [List.length_drop, List.length_take]; rfl)) ?_; (with_reducible refine (laws_szBoard.calls a0_0 a0_1 _ _ l0_2 1048576 t249 _ ?side1 ?side2 A3.out).mono ?_); (case side1 => exact zcc HB HR0_2.out); (case side2 => exact HC0_2.out); rintro e w43 ⟨rfl, hb⟩; refine ⟨_, rfl, ?_⟩; have n_ : _ ∧ _ ∧ _ := ⟨zk BK247 hb, zk BK248 hb, zbs hb⟩; clear BK247 BK248 HB; obtain ⟨BK247, BK248, HB⟩ := n_; (try clear hb); (try clear hb2); (try clear hk); (try clear hi)))
 have n0_ := Aside0.mk (blk_drew BK247.out)
 have n1_ := Aside0.mk (blk_drew BK248.out)
 have n2_ := Aside0.mk (below_drew1 HB.out)
 clear BK247
 clear BK248
 clear HB
 have BK247 := n0_
 have BK248 := n1_
 have HB := n2_
 clear n0_ n1_ n2_
 refine start_ (n := 11) (S := fun w' => w'.cell? ⟨gb247, 0, none⟩ = some (.int .i8 a0_0) ∧ w'.cell? ⟨gb247, 1, none⟩ = some (.int .i8 a0_1) ∧ w'.cell? ⟨gb247, 2, none⟩ = some (.slice A0_2 l0_2.length c0_2) ∧ w'.cell? ⟨gb248, 0, none⟩ = some (.int .i8 a1_0) ∧ w'.cell? ⟨gb248, 1, none⟩ = some (.int .i8 a1_1) ∧ w'.cell? ⟨gb248, 2, none⟩ = some (.int .i8 a1_2) ∧ w'.cell? ⟨gb248, 3, none⟩ = some (.int .i8 a1_3) ∧ w'.cell? ⟨gb248, 4, none⟩ = some (.int .i8 a1_4)) (ds := []) (zq 11 0) (by kernel_rfl) rfl rfl ⟨(blk_cell BK247.out 0).trans rfl, (blk_cell BK247.out 1).trans rfl, (blk_cell BK247.out 2).trans rfl, (blk_cell BK248.out 0).trans rfl, (blk_cell BK248.out 1).trans rfl, (blk_cell BK248.out 2).trans rfl, (blk_cell BK248.out 3).trans rfl, (blk_cell BK248.out 4).trans rfl⟩ (fun hHeld => ?_); refine with_tabW laws_FnExactPutPiece.tab5 laws_FnExactPutPiece.bits5 (fun HT_ HW_ => ?_)
 generalize w43.drew = w44 at BK247 BK248 HB hHeld ⊢
 refine ztk 0 (some 22) (zq 11 1) HT_ HW_ rfl hHeld (Or.inl ⟨by rfl, by (rintro w' ⟨s0, s1, s2, s3, s4, s5, s6, s7⟩; go_simp; with_reducible rfl)⟩) ?_
 refine ztk 2 (some 24) (zq 11 5) HT_ HW_ rfl hHeld (Or.inl ⟨by rfl, by (rintro w' ⟨s0, s1, s2, s3, s4, s5, s6, s7⟩; go_simp; with_reducible rfl)⟩) ?_
 refine join_ (σ := Value × Value × Nat) 2 (zq 11 511) (fun s_ => [(23, .agg #[.int .i8 t250, .int .i8 t251, s_.1]), (25, .agg #[.int .i8 t255, .int .i8 t256, .int .i8 t257, .int .i8 t258, .int .i8 t259]), (26, .tuple #[.agg #[.int .i8 t260, .int .i8 t261, s_.2.1], .int .i64 t265]), (6, .pointer (some ⟨s_.2.2, 0, none⟩)), (21, .tuple #[.agg #[.int .i8 t260, .int .i8 t261, s_.2.1], .int .i64 t265]), (27, .agg #[.int .i8 t260, .int .i8 t261, s_.2.1]), (28, .int .i64 t265)]) (fun s_ w' => (w'.cell? ⟨gb247, 0, none⟩ = some (.int .i8 a0_0) ∧ w'.cell? ⟨gb247, 1, none⟩ = some (.int .i8 a0_1) ∧ w'.cell? ⟨gb247, 2, none⟩ = some (.slice A0_2 l0_2.length c0_2) ∧ w'.cell? ⟨gb248, 0, none⟩ = some (.int .i8 a1_0) ∧ w'.cell? ⟨gb248, 1, none⟩ = some (.int .i8 a1_1) ∧ w'.cell? ⟨gb248, 2, none⟩ = some (.int .i8 a1_2) ∧ w'.cell? ⟨gb248, 3, none⟩ = some (.int .i8 a1_3) ∧ w'.cell? ⟨gb248, 4, none⟩ = some (.int .i8 a1_4)) ∧ (Kd.R k91 91 w' w.heap.size (fun k_ => some k_ ≠ (s_.2.1 : Value).ownBlock) s_.1 t252) ∧ (Kd.R k91 91 w' w.heap.size (fun k_ => some k_ ≠ (s_.1 : Value).ownBlock) s_.2.1 t262) ∧ (w'.heap[gb247]? = some (.cells #[.int .i8 a0_0, .int .i8 a0_1, .slice A0_2 l0_2.length c0_2] 25 (0, 0))) ∧ (w'.heap[gb248]? = some (.cells #[.int .i8 a1_0, .int .i8 a1_1, .int .i8 a1_2, .int .i8 a1_3, .int .i8 a1_4] 88 (0, 0))) ∧ (w'.heap[s_.2.2]? = some (.cells #[.int .i8 0, .int .i8 0, .slice none 0 0] 37 (0, 0))) ∧ (w.heap.size ≤ s_.2.2) ∧ (w.heap.size ≤ s_.2.2) ∧ (gb247 ≠ s_.2.2) ∧ (s_.2.2 ≠ gb247) ∧ (gb248 ≠ s_.2.2) ∧ (s_.2.2 ≠ gb248) ∧ (Below w.heap.size w w')) ?_ ?_
 rotate_left
 ·intro hCont
  refine two_ (i := 1) (j := 8) (Ni := some 23) (Nj := some 6) (zq 11 7) (zq 11 261) rfl rfl rfl rfl (two_of HT_.out (by kernel_rfl)) (by decide) (by decide) (fun K hK => ?_) (fun K hK => ?_)
  rotate_left
  ·skip
   refine box_step ?hg (N := 6) ?hd (cs := #[.int .i8 0, .int .i8 0, .slice none 0 0]) (t := 37) ?hr ?_; (case hd => rfl); (case hg => rfl); (case hr => first | (go_simp; done) | (go_simp; rfl))
   intro gb266 hg w45 hbox hb
   have n0_ := zk BK247 hb
   have n1_ := zk BK248 hb
   have n2_ := zbs hb
   have n3_ := Aside0.mk (hbox)
   have n4_ := zg HB hg
   have n5_ := zg HB hg
   have n6_ := zn1 BK247 hg
   have n7_ := zn2 BK247 hg
   have n8_ := zn1 BK248 hg
   have n9_ := zn2 BK248 hg
   clear BK247
   clear BK248
   clear HB
   have BK247 := n0_
   have BK248 := n1_
   have HB := n2_
   have BK266 := n3_
   have GW266 := n4_
   have GE266 := n5_
   have NB247_266 := n6_
   have NB266_247 := n7_
   have NB248_266 := n8_
   have NB266_248 := n9_
   clear n0_ n1_ n2_ n3_ n4_ n5_ n6_ n7_ n8_ n9_
   clear hb hbox hg
   refine hK.out _ _ ⟨(blk_cell BK247.out 0).trans rfl, (blk_cell BK247.out 1).trans rfl, (blk_cell BK247.out 2).trans rfl, (blk_cell BK248.out 0).trans rfl, (blk_cell BK248.out 1).trans rfl, (blk_cell BK248.out 2).trans rfl, (blk_cell BK248.out 3).trans rfl, (blk_cell BK248.out 4).trans rfl⟩ (fun hHeld => ?_)
   clear hK K
   refine norm_ (a' := ?_) ?_ ?_
   rotate_left
   ·show Act.put _ (some 6) _ = _
    simp only [Act.put, List.setIfInBounds_toArray, List.set_cons_zero, List.set_cons_succ, i64_w, i32_w]
    rfl
   refine one_ (i := 1) (N := some 23) (zq 11 263) rfl rfl (one_of HT_.out (by kernel_rfl)) (by decide) (fun K hK => ?_)
   refine goes_ Try.func42 (by kernel_rfl) rfl #[.agg #[.int .i8 a0_0, .int .i8 a0_1, .slice A0_2 l0_2.length c0_2]] (by rfl) rfl rfl (by (try simp only [List.map_toArray, List.map_cons, List.map_nil]); first | done | rfl | (simp only [List.length_drop, List.length_take]; rfl)) ?_
   with_reducible refine (laws_toBoard.calls k a0_0 a0_1 _ _ l0_2 t250 t251 t252 _ ?side1 ?side2 A10.out).mono ?_
   (case side1 => exact zcc HB HR0_2.out)
   (case side2 => exact HC0_2.out)
   rintro e w46 ⟨v253, rfl, ho0, hb⟩
   refine ⟨_, rfl, ?_⟩
   have n0_ := Aside0.mk (Kd.R_lower ho0 (zz HB))
   have n1_ := zk BK247 hb
   have n2_ := zk BK248 hb
   have n3_ := zk BK266 hb
   have n4_ := zbs hb
   clear BK247
   clear BK248
   clear BK266
   clear HB
   have HO254 := n0_
   have BK247 := n1_
   have BK248 := n2_
   have BK266 := n3_
   have HB := n4_
   clear n0_ n1_ n2_ n3_ n4_
   (try clear hb)
   (try clear hb2)
   (try clear hk)
   (try clear hi)
   (try clear ho0)
   refine hK.out _ _ ⟨(blk_cell BK247.out 0).trans rfl, (blk_cell BK247.out 1).trans rfl, (blk_cell BK247.out 2).trans rfl, (blk_cell BK248.out 0).trans rfl, (blk_cell BK248.out 1).trans rfl, (blk_cell BK248.out 2).trans rfl, (blk_cell BK248.out 3).trans rfl, (blk_cell BK248.out 4).trans rfl⟩ (fun hHeld => ?_)
   clear hK K
   refine norm_ (a' := ?_) ?_ ?_
   rotate_left
   ·show Act.put _ (some 23) _ = _
    simp only [Act.put, List.setIfInBounds_toArray, List.set_cons_zero, List.set_cons_succ, i64_w, i32_w]
    rfl
   refine one_ (i := 3) (N := some 25) (zq 11 271) rfl rfl (one_of HT_.out (by kernel_rfl)) (by decide) (fun K hK => ?_)
   refine goes_ Try.func65 (by kernel_rfl) rfl #[.agg #[.int .i8 a1_0, .int .i8 a1_1, .int .i8 a1_2, .int .i8 a1_3, .int .i8 a1_4]] (by rfl) rfl rfl (by (try simp only [List.map_toArray, List.map_cons, List.map_nil]); first | done | rfl | (simp only [List.length_drop, List.length_take]; rfl)) ?_
   with_reducible refine (laws_toPiece.calls k a1_0 a1_1 a1_2 a1_3 a1_4 t255 t256 t257 t258 t259 _ A11.out).mono ?_
   rintro e w47 ⟨rfl, hb⟩
   refine ⟨_, rfl, ?_⟩
   have n0_ := zr HO254 hb
   have n1_ := zk BK247 hb
   have n2_ := zk BK248 hb
   have n3_ := zk BK266 hb
   have n4_ := zbs hb
   clear HO254
   clear BK247
   clear BK248
   clear BK266
   clear HB
   have HO254 := n0_
   have BK247 := n1_
   have BK248 := n2_
   have BK266 := n3_
   have HB := n4_
   clear n0_ n1_ n2_ n3_ n4_
   (try clear hb)
   (try clear hb2)
   (try clear hk)
   (try clear hi)
   obtain ⟨Ao48, co48, eo48⟩ := Kd.R_slice HO254.out
   (first | subst eo48 | (injection eo48 with f1_ f2_ f3_; have f4_ := f1_.symm; have f5_ := f3_.symm; clear f1_ f2_ f3_; subst f4_; subst f5_))
   refine hK.out _ _ ⟨(blk_cell BK247.out 0).trans rfl, (blk_cell BK247.out 1).trans rfl, (blk_cell BK247.out 2).trans rfl, (blk_cell BK248.out 0).trans rfl, (blk_cell BK248.out 1).trans rfl, (blk_cell BK248.out 2).trans rfl, (blk_cell BK248.out 3).trans rfl, (blk_cell BK248.out 4).trans rfl⟩ (fun hHeld => ?_)
   clear hK K
   refine norm_ (a' := ?_) ?_ ?_
   rotate_left
   ·show Act.put _ (some 25) _ = _
    simp only [Act.put, List.setIfInBounds_toArray, List.set_cons_zero, List.set_cons_succ, i64_w, i32_w]
    rfl
   refine one_ (i := 4) (N := some 26) (zq 11 287) rfl rfl (one_of HT_.out (by kernel_rfl)) (by decide) (fun K hK => ?_)
   refine goes_ Try.func64 (by kernel_rfl) rfl #[.agg #[.int .i8 t250, .int .i8 t251, .slice Ao48 t252.length co48], .agg #[.int .i8 t255, .int .i8 t256, .int .i8 t257, .int .i8 t258, .int .i8 t259]] (by rfl) rfl rfl (by (try simp only [List.map_toArray, List.map_cons, List.map_nil]); first | done | rfl | (simp only [List.length_drop, List.length_take]; rfl)) ?_
   with_reducible refine (spec_PutPiece.calls k t250 t251 _ _ t252 t255 t256 t257 t258 t259 t260 t261 t262 t265 _ ?side1 ?side2 A12.out).mono ?_
   (case side1 => exact zrc HO254)
   (case side2 => exact (Kd.R_reads' HO254.out).2.1)
   rintro e w49 ⟨v263, rfl, ho0, hb⟩
   refine ⟨_, rfl, ?_⟩
   have n0_ := Aside0.mk (Kd.R_elder' (ze HO254).out (Kd.R_base ho0) hb)
   have n1_ := Aside0.mk (Kd.R_lower (Kd.R_new' ho0 (Kd.R_lt (ze HO254).out)) (zz HB))
   have n2_ := zk BK247 hb
   have n3_ := zk BK248 hb
   have n4_ := zk BK266 hb
   have n5_ := zbs hb
   clear HO254
   clear BK247
   clear BK248
   clear BK266
   clear HB
   have HO254 := n0_
   have HO264 := n1_
   have BK247 := n2_
   have BK248 := n3_
   have BK266 := n4_
   have HB := n5_
   clear n0_ n1_ n2_ n3_ n4_ n5_
   (try clear hb)
   (try clear hb2)
   (try clear hk)
   (try clear hi)
   (try clear ho0)
   refine hK.out _ _ ⟨(blk_cell BK247.out 0).trans rfl, (blk_cell BK247.out 1).trans rfl, (blk_cell BK247.out 2).trans rfl, (blk_cell BK248.out 0).trans rfl, (blk_cell BK248.out 1).trans rfl, (blk_cell BK248.out 2).trans rfl, (blk_cell BK248.out 3).trans rfl, (blk_cell BK248.out 4).trans rfl⟩ (fun hHeld => ?_)
   clear hK K
   refine norm_ (a' := ?_) ?_ ?_
   rotate_left
   ·show Act.put _ (some 26) _ = _
    simp only [Act.put, List.setIfInBounds_toArray, List.set_cons_zero, List.set_cons_succ, i64_w, i32_w]
    rfl
   refine zpu 5 (some 21) (zq 11 319) HT_ ?_
   refine zpu 6 (some 27) (zq 11 383) HT_ ?_
   refine zpu 7 (some 28) (zq 11 511) HT_ ?_
   exact norm_ (by simp only [putAll, Act.put, List.setIfInBounds_toArray, List.set_cons_zero, List.set_cons_succ]) (hCont (.slice Ao48 t252.length co48, v263, gb266) _ ⟨hHeld, (by (with_reducible repeat (first | apply Kd.R_alloc | apply Kd.R_drewN | apply Kd.R_drew)); exact Kd.R_mono HO254.out (fun _ hk => hk.2)), (by (with_reducible repeat (first | apply Kd.R_alloc | apply Kd.R_drewN | apply Kd.R_drew)); exact Kd.R_mono HO264.out (fun _ hk => hk.2)), (zh BK247).out, (zh BK248).out, (zh BK266).out, GW266.out, GE266.out, NB247_266.out, NB266_247.out, NB248_266.out, NB266_248.out, (by repeat (first | (with_reducible first | exact HB.out | apply below_alloc | apply pw_below_drewN | apply below_drew1 | refine below_set ?_ GE247.out | refine below_set ?_ GE248.out | refine below_set ?_ GE266.out) | exact HB.out))⟩)
  skip
  refine goes_ Try.func42 (by kernel_rfl) rfl #[.agg #[.int .i8 a0_0, .int .i8 a0_1, .slice A0_2 l0_2.length c0_2]] (by rfl) rfl rfl (by (try simp only [List.map_toArray, List.map_cons, List.map_nil]); first | done | rfl | (simp only [List.length_drop, List.length_take]; rfl)) ?_
  with_reducible refine (laws_toBoard.calls k a0_0 a0_1 _ _ l0_2 t250 t251 t252 _ ?side1 ?side2 A10.out).mono ?_
  (case side1 => exact zcc HB HR0_2.out)
  (case side2 => exact HC0_2.out)
  rintro e w45 ⟨v253, rfl, ho0, hb⟩
  refine ⟨_, rfl, ?_⟩
  have n0_ := Aside0.mk (Kd.R_lower ho0 (zz HB))
  have n1_ := zk BK247 hb
  have n2_ := zk BK248 hb
  have n3_ := zbs hb
  clear BK247
  clear BK248
  clear HB
  have HO254 := n0_
  have BK247 := n1_
  have BK248 := n2_
  have HB := n3_
  clear n0_ n1_ n2_ n3_
  (try clear hb)
  (try clear hb2)
  (try clear hk)
  (try clear hi)
  (try clear ho0)
  refine hK.out _ _ ⟨(blk_cell BK247.out 0).trans rfl, (blk_cell BK247.out 1).trans rfl, (blk_cell BK247.out 2).trans rfl, (blk_cell BK248.out 0).trans rfl, (blk_cell BK248.out 1).trans rfl, (blk_cell BK248.out 2).trans rfl, (blk_cell BK248.out 3).trans rfl, (blk_cell BK248.out 4).trans rfl⟩ (fun hHeld => ?_)
  clear hK K
  refine norm_ (a' := ?_) ?_ ?_
  rotate_left
  ·show Act.put _ (some 23) _ = _
   simp only [Act.put, List.setIfInBounds_toArray, List.set_cons_zero, List.set_cons_succ, i64_w, i32_w]
   rfl
  refine two_ (i := 3) (j := 8) (Ni := some 25) (Nj := some 6) (zq 11 15) (zq 11 263) rfl rfl rfl rfl (two_of HT_.out (by kernel_rfl)) (by decide) (by decide) (fun K hK => ?_) (fun K hK => ?_)
  rotate_left
  ·skip
   refine box_step ?hg (N := 6) ?hd (cs := #[.int .i8 0, .int .i8 0, .slice none 0 0]) (t := 37) ?hr ?_; (case hd => rfl); (case hg => rfl); (case hr => first | (go_simp; done) | (go_simp; rfl))
   intro gb266 hg w46 hbox hb
   have n0_ := zr HO254 hb
   have n1_ := zk BK247 hb
   have n2_ := zk BK248 hb
   have n3_ := zbs hb
   have n4_ := Aside0.mk (hbox)
   have n5_ := zg HB hg
   have n6_ := zg HB hg
   have n7_ := zn1 BK247 hg
   have n8_ := zn2 BK247 hg
   have n9_ := zn1 BK248 hg
   have n10_ := zn2 BK248 hg
   clear HO254
   clear BK247
   clear BK248
   clear HB
   have HO254 := n0_
   have BK247 := n1_
   have BK248 := n2_
   have HB := n3_
   have BK266 := n4_
   have GW266 := n5_
   have GE266 := n6_
   have NB247_266 := n7_
   have NB266_247 := n8_
   have NB248_266 := n9_
   have NB266_248 := n10_
   clear n0_ n1_ n2_ n3_ n4_ n5_ n6_ n7_ n8_ n9_ n10_
   clear hb hbox hg
   refine hK.out _ _ ⟨(blk_cell BK247.out 0).trans rfl, (blk_cell BK247.out 1).trans rfl, (blk_cell BK247.out 2).trans rfl, (blk_cell BK248.out 0).trans rfl, (blk_cell BK248.out 1).trans rfl, (blk_cell BK248.out 2).trans rfl, (blk_cell BK248.out 3).trans rfl, (blk_cell BK248.out 4).trans rfl⟩ (fun hHeld => ?_)
   clear hK K
   refine norm_ (a' := ?_) ?_ ?_
   rotate_left
   ·show Act.put _ (some 6) _ = _
    simp only [Act.put, List.setIfInBounds_toArray, List.set_cons_zero, List.set_cons_succ, i64_w, i32_w]
    rfl
   refine one_ (i := 3) (N := some 25) (zq 11 271) rfl rfl (one_of HT_.out (by kernel_rfl)) (by decide) (fun K hK => ?_)
   refine goes_ Try.func65 (by kernel_rfl) rfl #[.agg #[.int .i8 a1_0, .int .i8 a1_1, .int .i8 a1_2, .int .i8 a1_3, .int .i8 a1_4]] (by rfl) rfl rfl (by (try simp only [List.map_toArray, List.map_cons, List.map_nil]); first | done | rfl | (simp only [List.length_drop, List.length_take]; rfl)) ?_
   with_reducible refine (laws_toPiece.calls k a1_0 a1_1 a1_2 a1_3 a1_4 t255 t256 t257 t258 t259 _ A11.out).mono ?_
   rintro e w47 ⟨rfl, hb⟩
   refine ⟨_, rfl, ?_⟩
   have n0_ := zr HO254 hb
   have n1_ := zk BK247 hb
   have n2_ := zk BK248 hb
   have n3_ := zk BK266 hb
   have n4_ := zbs hb
   clear HO254
   clear BK247
   clear BK248
   clear BK266
   clear HB
   have HO254 := n0_
   have BK247 := n1_
   have BK248 := n2_
   have BK266 := n3_
   have HB := n4_
   clear n0_ n1_ n2_ n3_ n4_
   (try clear hb)
   (try clear hb2)
   (try clear hk)
   (try clear hi)
   obtain ⟨Ao48, co48, eo48⟩ := Kd.R_slice HO254.out
   (first | subst eo48 | (injection eo48 with f1_ f2_ f3_; have f4_ := f1_.symm; have f5_ := f3_.symm; clear f1_ f2_ f3_; subst f4_; subst f5_))
   refine hK.out _ _ ⟨(blk_cell BK247.out 0).trans rfl, (blk_cell BK247.out 1).trans rfl, (blk_cell BK247.out 2).trans rfl, (blk_cell BK248.out 0).trans rfl, (blk_cell BK248.out 1).trans rfl, (blk_cell BK248.out 2).trans rfl, (blk_cell BK248.out 3).trans rfl, (blk_cell BK248.out 4).trans rfl⟩ (fun hHeld => ?_)
   clear hK K
   refine norm_ (a' := ?_) ?_ ?_
   rotate_left
   ·show Act.put _ (some 25) _ = _
    simp only [Act.put, List.setIfInBounds_toArray, List.set_cons_zero, List.set_cons_succ, i64_w, i32_w]
    rfl
   refine one_ (i := 4) (N := some 26) (zq 11 287) rfl rfl (one_of HT_.out (by kernel_rfl)) (by decide) (fun K hK => ?_)
   refine goes_ Try.func64 (by kernel_rfl) rfl #[.agg #[.int .i8 t250, .int .i8 t251, .slice Ao48 t252.length co48], .agg #[.int .i8 t255, .int .i8 t256, .int .i8 t257, .int .i8 t258, .int .i8 t259]] (by rfl) rfl rfl (by (try simp only [List.map_toArray, List.map_cons, List.map_nil]); first | done | rfl | (simp only [List.length_drop, List.length_take]; rfl)) ?_
   with_reducible refine (spec_PutPiece.calls k t250 t251 _ _ t252 t255 t256 t257 t258 t259 t260 t261 t262 t265 _ ?side1 ?side2 A12.out).mono ?_
   (case side1 => exact zrc HO254)
   (case side2 => exact (Kd.R_reads' HO254.out).2.1)
   rintro e w49 ⟨v263, rfl, ho0, hb⟩
   refine ⟨_, rfl, ?_⟩
   have n0_ := Aside0.mk (Kd.R_elder' (ze HO254).out (Kd.R_base ho0) hb)
   have n1_ := Aside0.mk (Kd.R_lower (Kd.R_new' ho0 (Kd.R_lt (ze HO254).out)) (zz HB))
   have n2_ := zk BK247 hb
   have n3_ := zk BK248 hb
   have n4_ := zk BK266 hb
   have n5_ := zbs hb
   clear HO254
   clear BK247
   clear BK248
   clear BK266
   clear HB
   have HO254 := n0_
   have HO264 := n1_
   have BK247 := n2_
   have BK248 := n3_
   have BK266 := n4_
   have HB := n5_
   clear n0_ n1_ n2_ n3_ n4_ n5_
   (try clear hb)
   (try clear hb2)
   (try clear hk)
   (try clear hi)
   (try clear ho0)
   refine hK.out _ _ ⟨(blk_cell BK247.out 0).trans rfl, (blk_cell BK247.out 1).trans rfl, (blk_cell BK247.out 2).trans rfl, (blk_cell BK248.out 0).trans rfl, (blk_cell BK248.out 1).trans rfl, (blk_cell BK248.out 2).trans rfl, (blk_cell BK248.out 3).trans rfl, (blk_cell BK248.out 4).trans rfl⟩ (fun hHeld => ?_)
   clear hK K
   refine norm_ (a' := ?_) ?_ ?_
   rotate_left
   ·show Act.put _ (some 26) _ = _
    simp only [Act.put, List.setIfInBounds_toArray, List.set_cons_zero, List.set_cons_succ, i64_w, i32_w]
    rfl
   refine zpu 5 (some 21) (zq 11 319) HT_ ?_
   refine zpu 6 (some 27) (zq 11 383) HT_ ?_
   refine zpu 7 (some 28) (zq 11 511) HT_ ?_
   exact norm_ (by simp only [putAll, Act.put, List.setIfInBounds_toArray, List.set_cons_zero, List.set_cons_succ]) (hCont (.slice Ao48 t252.length co48, v263, gb266) _ ⟨hHeld, (by (with_reducible repeat (first | apply Kd.R_alloc | apply Kd.R_drewN | apply Kd.R_drew)); exact Kd.R_mono HO254.out (fun _ hk => hk.2)), (by (with_reducible repeat (first | apply Kd.R_alloc | apply Kd.R_drewN | apply Kd.R_drew)); exact Kd.R_mono HO264.out (fun _ hk => hk.2)), (zh BK247).out, (zh BK248).out, (zh BK266).out, GW266.out, GE266.out, NB247_266.out, NB266_247.out, NB248_266.out, NB266_248.out, (by repeat (first | (with_reducible first | exact HB.out | apply below_alloc | apply pw_below_drewN | apply below_drew1 | refine below_set ?_ GE247.out | refine below_set ?_ GE248.out | refine below_set ?_ GE266.out) | exact HB.out))⟩)
  skip
  refine goes_ Try.func65 (by kernel_rfl) rfl #[.agg #[.int .i8 a1_0, .int .i8 a1_1, .int .i8 a1_2, .int .i8 a1_3, .int .i8 a1_4]] (by rfl) rfl rfl (by (try simp only [List.map_toArray, List.map_cons, List.map_nil]); first | done | rfl | (simp only [List.length_drop, List.length_take]; rfl)) ?_
  with_reducible refine (laws_toPiece.calls k a1_0 a1_1 a1_2 a1_3 a1_4 t255 t256 t257 t258 t259 _ A11.out).mono ?_
  rintro e w46 ⟨rfl, hb⟩
  refine ⟨_, rfl, ?_⟩
  have n0_ := zr HO254 hb
  have n1_ := zk BK247 hb
  have n2_ := zk BK248 hb
  have n3_ := zbs hb
  clear HO254
  clear BK247
  clear BK248
  clear HB
  have HO254 := n0_
  have BK247 := n1_
  have BK248 := n2_
  have HB := n3_
  clear n0_ n1_ n2_ n3_
  (try clear hb)
  (try clear hb2)
  (try clear hk)
  (try clear hi)
  obtain ⟨Ao47, co47, eo47⟩ := Kd.R_slice HO254.out
  (first | subst eo47 | (injection eo47 with f1_ f2_ f3_; have f4_ := f1_.symm; have f5_ := f3_.symm; clear f1_ f2_ f3_; subst f4_; subst f5_))
  refine hK.out _ _ ⟨(blk_cell BK247.out 0).trans rfl, (blk_cell BK247.out 1).trans rfl, (blk_cell BK247.out 2).trans rfl, (blk_cell BK248.out 0).trans rfl, (blk_cell BK248.out 1).trans rfl, (blk_cell BK248.out 2).trans rfl, (blk_cell BK248.out 3).trans rfl, (blk_cell BK248.out 4).trans rfl⟩ (fun hHeld => ?_)
  clear hK K
  refine norm_ (a' := ?_) ?_ ?_
  rotate_left
  ·show Act.put _ (some 25) _ = _
   simp only [Act.put, List.setIfInBounds_toArray, List.set_cons_zero, List.set_cons_succ, i64_w, i32_w]
   rfl
  refine two_ (i := 4) (j := 8) (Ni := some 26) (Nj := some 6) (zq 11 31) (zq 11 271) rfl rfl rfl rfl (two_of HT_.out (by kernel_rfl)) (by decide) (by decide) (fun K hK => ?_) (fun K hK => ?_)
  ·skip
   refine goes_ Try.func64 (by kernel_rfl) rfl #[.agg #[.int .i8 t250, .int .i8 t251, .slice Ao47 t252.length co47], .agg #[.int .i8 t255, .int .i8 t256, .int .i8 t257, .int .i8 t258, .int .i8 t259]] (by rfl) rfl rfl (by (try simp only [List.map_toArray, List.map_cons, List.map_nil]); first | done | rfl | (simp only [List.length_drop, List.length_take]; rfl)) ?_
   with_reducible refine (spec_PutPiece.calls k t250 t251 _ _ t252 t255 t256 t257 t258 t259 t260 t261 t262 t265 _ ?side1 ?side2 A12.out).mono ?_
   (case side1 => exact zrc HO254)
   (case side2 => exact (Kd.R_reads' HO254.out).2.1)
   rintro e w48 ⟨v263, rfl, ho0, hb⟩
   refine ⟨_, rfl, ?_⟩
   have n0_ := Aside0.mk (Kd.R_elder' (ze HO254).out (Kd.R_base ho0) hb)
   have n1_ := Aside0.mk (Kd.R_lower (Kd.R_new' ho0 (Kd.R_lt (ze HO254).out)) (zz HB))
   have n2_ := zk BK247 hb
   have n3_ := zk BK248 hb
   have n4_ := zbs hb
   clear HO254
   clear BK247
   clear BK248
   clear HB
   have HO254 := n0_
   have HO264 := n1_
   have BK247 := n2_
   have BK248 := n3_
   have HB := n4_
   clear n0_ n1_ n2_ n3_ n4_
   (try clear hb)
   (try clear hb2)
   (try clear hk)
   (try clear hi)
   (try clear ho0)
   refine hK.out _ _ ⟨(blk_cell BK247.out 0).trans rfl, (blk_cell BK247.out 1).trans rfl, (blk_cell BK247.out 2).trans rfl, (blk_cell BK248.out 0).trans rfl, (blk_cell BK248.out 1).trans rfl, (blk_cell BK248.out 2).trans rfl, (blk_cell BK248.out 3).trans rfl, (blk_cell BK248.out 4).trans rfl⟩ (fun hHeld => ?_)
   clear hK K
   refine norm_ (a' := ?_) ?_ ?_
   rotate_left
   ·show Act.put _ (some 26) _ = _
    simp only [Act.put, List.setIfInBounds_toArray, List.set_cons_zero, List.set_cons_succ, i64_w, i32_w]
    rfl
   refine zpu 5 (some 21) (zq 11 63) HT_ ?_
   refine zpu 6 (some 27) (zq 11 127) HT_ ?_
   refine zpu 7 (some 28) (zq 11 255) HT_ ?_
   refine one_ (i := 8) (N := some 6) (zq 11 511) rfl rfl (one_of HT_.out (by kernel_rfl)) (by decide) (fun K hK => ?_)
   refine box_step ?hg (N := 6) ?hd (cs := #[.int .i8 0, .int .i8 0, .slice none 0 0]) (t := 37) ?hr ?_; (case hd => rfl); (case hg => rfl); (case hr => first | (go_simp; done) | (go_simp; rfl))
   intro gb266 hg w49 hbox hb
   have n0_ := zr HO254 hb
   have n1_ := zr HO264 hb
   have n2_ := zk BK247 hb
   have n3_ := zk BK248 hb
   have n4_ := zbs hb
   have n5_ := Aside0.mk (hbox)
   have n6_ := zg HB hg
   have n7_ := zg HB hg
   have n8_ := zn1 BK247 hg
   have n9_ := zn2 BK247 hg
   have n10_ := zn1 BK248 hg
   have n11_ := zn2 BK248 hg
   clear HO254
   clear HO264
   clear BK247
   clear BK248
   clear HB
   have HO254 := n0_
   have HO264 := n1_
   have BK247 := n2_
   have BK248 := n3_
   have HB := n4_
   have BK266 := n5_
   have GW266 := n6_
   have GE266 := n7_
   have NB247_266 := n8_
   have NB266_247 := n9_
   have NB248_266 := n10_
   have NB266_248 := n11_
   clear n0_ n1_ n2_ n3_ n4_ n5_ n6_ n7_ n8_ n9_ n10_ n11_
   clear hb hbox hg
   refine hK.out _ _ ⟨(blk_cell BK247.out 0).trans rfl, (blk_cell BK247.out 1).trans rfl, (blk_cell BK247.out 2).trans rfl, (blk_cell BK248.out 0).trans rfl, (blk_cell BK248.out 1).trans rfl, (blk_cell BK248.out 2).trans rfl, (blk_cell BK248.out 3).trans rfl, (blk_cell BK248.out 4).trans rfl⟩ (fun hHeld => ?_)
   clear hK K
   refine norm_ (a' := ?_) ?_ ?_
   rotate_left
   ·show Act.put _ (some 6) _ = _
    simp only [Act.put, List.setIfInBounds_toArray, List.set_cons_zero, List.set_cons_succ, i64_w, i32_w]
    rfl
   exact norm_ (by simp only [putAll, Act.put, List.setIfInBounds_toArray, List.set_cons_zero, List.set_cons_succ]) (hCont (.slice Ao47 t252.length co47, v263, gb266) _ ⟨hHeld, (by (with_reducible repeat (first | apply Kd.R_alloc | apply Kd.R_drewN | apply Kd.R_drew)); exact Kd.R_mono HO254.out (fun _ hk => hk.2)), (by (with_reducible repeat (first | apply Kd.R_alloc | apply Kd.R_drewN | apply Kd.R_drew)); exact Kd.R_mono HO264.out (fun _ hk => hk.2)), (zh BK247).out, (zh BK248).out, (zh BK266).out, GW266.out, GE266.out, NB247_266.out, NB266_247.out, NB248_266.out, NB266_248.out, (by repeat (first | (with_reducible first | exact HB.out | apply below_alloc | apply pw_below_drewN | apply below_drew1 | refine below_set ?_ GE247.out | refine below_set ?_ GE248.out | refine below_set ?_ GE266.out) | exact HB.out))⟩)
  skip
  refine box_step ?hg (N := 6) ?hd (cs := #[.int .i8 0, .int .i8 0, .slice none 0 0]) (t := 37) ?hr ?_; (case hd => rfl); (case hg => rfl); (case hr => first | (go_simp; done) | (go_simp; rfl))
  intro gb266 hg w47 hbox hb
  have n0_ := zr HO254 hb
  have n1_ := zk BK247 hb
  have n2_ := zk BK248 hb
  have n3_ := zbs hb
  have n4_ := Aside0.mk (hbox)
  have n5_ := zg HB hg
  have n6_ := zg HB hg
  have n7_ := zn1 BK247 hg
  have n8_ := zn2 BK247 hg
  have n9_ := zn1 BK248 hg
  have n10_ := zn2 BK248 hg
  clear HO254
  clear BK247
  clear BK248
  clear HB
  have HO254 := n0_
  have BK247 := n1_
  have BK248 := n2_
  have HB := n3_
  have BK266 := n4_
  have GW266 := n5_
  have GE266 := n6_
  have NB247_266 := n7_
  have NB266_247 := n8_
  have NB248_266 := n9_
  have NB266_248 := n10_
  clear n0_ n1_ n2_ n3_ n4_ n5_ n6_ n7_ n8_ n9_ n10_
  clear hb hbox hg
  obtain ⟨Ao48, co48, eo48⟩ := Kd.R_slice HO254.out
  (first | subst eo48 | (injection eo48 with f1_ f2_ f3_; have f4_ := f1_.symm; have f5_ := f3_.symm; clear f1_ f2_ f3_; subst f4_; subst f5_))
  refine hK.out _ _ ⟨(blk_cell BK247.out 0).trans rfl, (blk_cell BK247.out 1).trans rfl, (blk_cell BK247.out 2).trans rfl, (blk_cell BK248.out 0).trans rfl, (blk_cell BK248.out 1).trans rfl, (blk_cell BK248.out 2).trans rfl, (blk_cell BK248.out 3).trans rfl, (blk_cell BK248.out 4).trans rfl⟩ (fun hHeld => ?_)
  clear hK K
  refine norm_ (a' := ?_) ?_ ?_
  rotate_left
  ·show Act.put _ (some 6) _ = _
   simp only [Act.put, List.setIfInBounds_toArray, List.set_cons_zero, List.set_cons_succ, i64_w, i32_w]
   rfl
  refine one_ (i := 4) (N := some 26) (zq 11 287) rfl rfl (one_of HT_.out (by kernel_rfl)) (by decide) (fun K hK => ?_)
  refine goes_ Try.func64 (by kernel_rfl) rfl #[.agg #[.int .i8 t250, .int .i8 t251, .slice Ao48 t252.length co48], .agg #[.int .i8 t255, .int .i8 t256, .int .i8 t257, .int .i8 t258, .int .i8 t259]] (by rfl) rfl rfl (by (try simp only [List.map_toArray, List.map_cons, List.map_nil]); first | done | rfl | (simp only [List.length_drop, List.length_take]; rfl)) ?_
  with_reducible refine (spec_PutPiece.calls k t250 t251 _ _ t252 t255 t256 t257 t258 t259 t260 t261 t262 t265 _ ?side1 ?side2 A12.out).mono ?_
  (case side1 => exact zrc HO254)
  (case side2 => exact (Kd.R_reads' HO254.out).2.1)
  rintro e w49 ⟨v263, rfl, ho0, hb⟩
  refine ⟨_, rfl, ?_⟩
  have n0_ := Aside0.mk (Kd.R_elder' (ze HO254).out (Kd.R_base ho0) hb)
  have n1_ := Aside0.mk (Kd.R_lower (Kd.R_new' ho0 (Kd.R_lt (ze HO254).out)) (zz HB))
  have n2_ := zk BK247 hb
  have n3_ := zk BK248 hb
  have n4_ := zk BK266 hb
  have n5_ := zbs hb
  clear HO254
  clear BK247
  clear BK248
  clear BK266
  clear HB
  have HO254 := n0_
  have HO264 := n1_
  have BK247 := n2_
  have BK248 := n3_
  have BK266 := n4_
  have HB := n5_
  clear n0_ n1_ n2_ n3_ n4_ n5_
  (try clear hb)
  (try clear hb2)
  (try clear hk)
  (try clear hi)
  (try clear ho0)
  refine hK.out _ _ ⟨(blk_cell BK247.out 0).trans rfl, (blk_cell BK247.out 1).trans rfl, (blk_cell BK247.out 2).trans rfl, (blk_cell BK248.out 0).trans rfl, (blk_cell BK248.out 1).trans rfl, (blk_cell BK248.out 2).trans rfl, (blk_cell BK248.out 3).trans rfl, (blk_cell BK248.out 4).trans rfl⟩ (fun hHeld => ?_)
  clear hK K
  refine norm_ (a' := ?_) ?_ ?_
  rotate_left
  ·show Act.put _ (some 26) _ = _
   simp only [Act.put, List.setIfInBounds_toArray, List.set_cons_zero, List.set_cons_succ, i64_w, i32_w]
   rfl
  refine zpu 5 (some 21) (zq 11 319) HT_ ?_
  refine zpu 6 (some 27) (zq 11 383) HT_ ?_
  refine zpu 7 (some 28) (zq 11 511) HT_ ?_
  exact norm_ (by simp only [putAll, Act.put, List.setIfInBounds_toArray, List.set_cons_zero, List.set_cons_succ]) (hCont (.slice Ao48 t252.length co48, v263, gb266) _ ⟨hHeld, (by (with_reducible repeat (first | apply Kd.R_alloc | apply Kd.R_drewN | apply Kd.R_drew)); exact Kd.R_mono HO254.out (fun _ hk => hk.2)), (by (with_reducible repeat (first | apply Kd.R_alloc | apply Kd.R_drewN | apply Kd.R_drew)); exact Kd.R_mono HO264.out (fun _ hk => hk.2)), (zh BK247).out, (zh BK248).out, (zh BK266).out, GW266.out, GE266.out, NB247_266.out, NB266_247.out, NB248_266.out, NB266_248.out, (by repeat (first | (with_reducible first | exact HB.out | apply below_alloc | apply pw_below_drewN | apply below_drew1 | refine below_set ?_ GE247.out | refine below_set ?_ GE248.out | refine below_set ?_ GE266.out) | exact HB.out))⟩)
 rintro ⟨v253, v263, gb266⟩ w50 ⟨hS_, h0_, h1_, h2_, h3_, h4_, h5_, h6_, h7_, h8_, h9_, h10_, h11_⟩
 have n0_ : Aside0 (Kd.R k91 91 w50 w.heap.size (fun k_ => some k_ ≠ (v263 : Value).ownBlock) v253 t252) := ⟨h0_⟩
 have n1_ : Aside0 (Kd.R k91 91 w50 w.heap.size (fun k_ => some k_ ≠ (v253 : Value).ownBlock) v263 t262) := ⟨h1_⟩
 have n2_ : Aside0 (w50.heap[gb247]? = some (.cells #[.int .i8 a0_0, .int .i8 a0_1, .slice A0_2 l0_2.length c0_2] 25 (0, 0))) := ⟨h2_⟩
 have n3_ : Aside0 (w50.heap[gb248]? = some (.cells #[.int .i8 a1_0, .int .i8 a1_1, .int .i8 a1_2, .int .i8 a1_3, .int .i8 a1_4] 88 (0, 0))) := ⟨h3_⟩
 have n4_ : Aside0 (w50.heap[gb266]? = some (.cells #[.int .i8 0, .int .i8 0, .slice none 0 0] 37 (0, 0))) := ⟨h4_⟩
 have n5_ : Aside0 (w.heap.size ≤ gb266) := ⟨h5_⟩
 have n6_ : Aside0 (w.heap.size ≤ gb266) := ⟨h6_⟩
 have n7_ : Aside0 (gb247 ≠ gb266) := ⟨h7_⟩
 have n8_ : Aside0 (gb266 ≠ gb247) := ⟨h8_⟩
 have n9_ : Aside0 (gb248 ≠ gb266) := ⟨h9_⟩
 have n10_ : Aside0 (gb266 ≠ gb248) := ⟨h10_⟩
 have n11_ : Aside0 (Below w.heap.size w w50) := ⟨h11_⟩
 clear BK247
 clear BK248
 clear HB
 clear h0_ h1_ h2_ h3_ h4_ h5_ h6_ h7_ h8_ h9_ h10_ h11_
 have HO254 := n0_
 have HO264 := n1_
 have BK247 := n2_
 have BK248 := n3_
 have BK266 := n4_
 have GW266 := n5_
 have GE266 := n6_
 have NB247_266 := n7_
 have NB266_247 := n8_
 have NB248_266 := n9_
 have NB266_248 := n10_
 have HB := n11_
 clear n0_ n1_ n2_ n3_ n4_ n5_ n6_ n7_ n8_ n9_ n10_ n11_
 have hHeld : w50.cell? ⟨gb247, 0, none⟩ = some (.int .i8 a0_0) ∧ w50.cell? ⟨gb247, 1, none⟩ = some (.int .i8 a0_1) ∧ w50.cell? ⟨gb247, 2, none⟩ = some (.slice A0_2 l0_2.length c0_2) ∧ w50.cell? ⟨gb248, 0, none⟩ = some (.int .i8 a1_0) ∧ w50.cell? ⟨gb248, 1, none⟩ = some (.int .i8 a1_1) ∧ w50.cell? ⟨gb248, 2, none⟩ = some (.int .i8 a1_2) ∧ w50.cell? ⟨gb248, 3, none⟩ = some (.int .i8 a1_3) ∧ w50.cell? ⟨gb248, 4, none⟩ = some (.int .i8 a1_4) := hS_
 obtain ⟨Ao53, co53, eo53⟩ := Kd.R_slice HO264.out
 (first | subst eo53 | (injection eo53 with f1_ f2_ f3_; have f4_ := f1_.symm; have f5_ := f3_.symm; clear f1_ f2_ f3_; subst f4_; subst f5_))
 refine norm_ (a' := ?_) ?_ ?_
 rotate_left
 ·simp only [putAll, Act.put, List.setIfInBounds_toArray, List.set_cons_zero, List.set_cons_succ]
  rfl
 refine one_ (i := 9) (N := none) (zq 11 1023) rfl rfl (one_of HT_.out (by kernel_rfl)) (by decide) (fun K hK => ?_)
 have hs51 : w50.cell? ⟨gb266, 0, none⟩ = some (.int .i8 0) := (blk_cell BK266.out 0).trans rfl
 have hfs51 := blk_frozen BK266.out 0
 have hns51_0 := NB247_266.out
 have hns51_1 := NB248_266.out
 have hms51_0 := NB266_247.out
 have hms51_1 := NB266_248.out
 have hs52 : w50.cell? ⟨gb266, 1, none⟩ = some (.int .i8 0) := (blk_cell BK266.out 1).trans rfl
 have hfs52 := blk_frozen BK266.out 1
 have hns52_0 := NB247_266.out
 have hns52_1 := NB248_266.out
 have hms52_0 := NB266_247.out
 have hms52_1 := NB266_248.out
 have hs54 : w50.cell? ⟨gb266, 2, none⟩ = some (.slice none 0 0) := (blk_cell BK266.out 2).trans rfl
 have hfs54 := blk_frozen BK266.out 2
 have hns54_0 := NB247_266.out
 have hns54_1 := NB248_266.out
 have hms54_0 := NB266_247.out
 have hms54_1 := NB266_248.out
 refine skip_ (w1 := ?_) (by rfl) rfl ?_ ?_
 rotate_left
 ·go_simp
  rfl
 refine hK.out _ _ ⟨((cell_far (p := ⟨gb266, _, none⟩) NB247_266.out _).trans (((cell_far (p := ⟨gb266, _, none⟩) NB247_266.out _).trans (((cell_far (p := ⟨gb266, _, none⟩) NB247_266.out _).trans (hHeld.1)))))), ((cell_far (p := ⟨gb266, _, none⟩) NB247_266.out _).trans (((cell_far (p := ⟨gb266, _, none⟩) NB247_266.out _).trans (((cell_far (p := ⟨gb266, _, none⟩) NB247_266.out _).trans (hHeld.2.1)))))), ((cell_far (p := ⟨gb266, _, none⟩) NB247_266.out _).trans (((cell_far (p := ⟨gb266, _, none⟩) NB247_266.out _).trans (((cell_far (p := ⟨gb266, _, none⟩) NB247_266.out _).trans (hHeld.2.2.1)))))), ((cell_far (p := ⟨gb266, _, none⟩) NB248_266.out _).trans (((cell_far (p := ⟨gb266, _, none⟩) NB248_266.out _).trans (((cell_far (p := ⟨gb266, _, none⟩) NB248_266.out _).trans (hHeld.2.2.2.1)))))), ((cell_far (p := ⟨gb266, _, none⟩) NB248_266.out _).trans (((cell_far (p := ⟨gb266, _, none⟩) NB248_266.out _).trans (((cell_far (p := ⟨gb266, _, none⟩) NB248_266.out _).trans (hHeld.2.2.2.2.1)))))), ((cell_far (p := ⟨gb266, _, none⟩) NB248_266.out _).trans (((cell_far (p := ⟨gb266, _, none⟩) NB248_266.out _).trans (((cell_far (p := ⟨gb266, _, none⟩) NB248_266.out _).trans (hHeld.2.2.2.2.2.1)))))), ((cell_far (p := ⟨gb266, _, none⟩) NB248_266.out _).trans (((cell_far (p := ⟨gb266, _, none⟩) NB248_266.out _).trans (((cell_far (p := ⟨gb266, _, none⟩) NB248_266.out _).trans (hHeld.2.2.2.2.2.2.1)))))), ((cell_far (p := ⟨gb266, _, none⟩) NB248_266.out _).trans (((cell_far (p := ⟨gb266, _, none⟩) NB248_266.out _).trans (((cell_far (p := ⟨gb266, _, none⟩) NB248_266.out _).trans (hHeld.2.2.2.2.2.2.2))))))⟩ (fun hHeld => ?_)
 clear hK K
 refine zpu 10 (some 7) (zq 11 2047) HT_ ?_
 refine done_ (done_of HT_.out (by kernel_rfl)) ?_
 have hnb55 := NB247_266.out
 have hnc55 := NB266_247.out
 obtain ⟨z56_0, z56_1, z56_2, y56_0, y56_1, y56_2⟩ := zB3 BK247
 try go_wp2_with (first | ((with_reducible refine gate_callee (f := 42) rfl ?_); refine goesL_ (some 30) rfl rfl Try.func42 (by kernel_rfl) rfl #[.agg #[.int .i8 a0_0, .int .i8 a0_1, .slice A0_2 l0_2.length c0_2]] rfl (by (try simp only [List.map_toArray, List.map_cons, List.map_nil]); first | done | rfl | (simp only [List.length_drop, List.length_take]; rfl)) ?_; (with_reducible refine (laws_toBoard.calls k a0_0 a0_1 _ _ l0_2 t267 t268 t269 _ ?side1 ?side2 A13.out).mono ?_); (case side1 => exact Kd.C_below HR0_2.out (by repeat (first | (with_reducible first | exact HB.out | apply below_alloc | apply pw_below_drewN | apply below_drew1 | refine below_set ?_ GE247.out | refine below_set ?_ GE248.out | refine below_set ?_ GE266.out) | exact HB.out))); (case side2 => exact HC0_2.out); rintro e w57 ⟨v270, rfl, ho0, hb⟩; refine ⟨_, rfl, ?_⟩; have n_ : _ ∧ _ ∧ _ ∧ _ ∧ _ ∧ _ ∧ _ := ⟨Aside0.mk (Kd.R_elder' (zs HO254 BK266).out (Kd.R_base ho0) hb), Aside0.mk (Kd.R_elder' (zs HO264 BK266).out (Kd.R_base ho0) hb), Aside0.mk (Kd.R_lower (Kd.R_new' (Kd.R_new' ho0 (Kd.R_lt (zs HO254 BK266).out)) (Kd.R_lt (zs HO264 BK266).out)) (zz HB)), zfb BK247 NB247_266 hb, zfb BK248 NB248_266 hb, Aside0.mk (blk_below (g := gb266) (o := .cells #[.int .i8 t260, .int .i8 t261, .slice Ao53 t262.length co53] 37 (0, 0)) (by (with_reducible repeat (first | refine blk_drewN ?_ _ | refine blk_drew ?_ | refine blk_alloc ?_ _)); refine blk_put (cs := #[.int .i8 t260, .int .i8 t261, .slice none 0 0]) ?_ 2 _ rfl; (with_reducible repeat (first | refine blk_drewN ?_ _ | refine blk_drew ?_ | refine blk_alloc ?_ _)); refine blk_put (cs := #[.int .i8 t260, .int .i8 0, .slice none 0 0]) ?_ 1 _ rfl; (with_reducible repeat (first | refine blk_drewN ?_ _ | refine blk_drew ?_ | refine blk_alloc ?_ _)); refine blk_put (cs := #[.int .i8 0, .int .i8 0, .slice none 0 0]) ?_ 0 _ rfl; (with_reducible repeat (first | refine blk_drewN ?_ _ | refine blk_drew ?_ | refine blk_alloc ?_ _)); exact BK266.out) hb), zbs hb⟩; clear HO254 HO264 BK247 BK248 BK266 HB; obtain ⟨HO254, HO264, HO271, BK247, BK248, BK266, HB⟩ := n_; (try clear hb); (try clear hb2); (try clear hk); (try clear hi); (try clear ho0)) | ((with_reducible refine gate_dst (N := 8) rfl ?_); refine box_event ?hg (N := 8) ?hd (cs := #[.int .i8 0, .int .i8 0, .slice none 0 0]) (t := 37) ?hr ?_; (case hd => rfl); (case hg => rfl); (case hr => first | (go_simp; done) | (go_simp; rfl)); intro gb272 hg w58 hbox hb; have n_ : _ ∧ _ ∧ _ ∧ _ ∧ _ ∧ _ ∧ _ ∧ _ ∧ _ ∧ _ ∧ _ ∧ _ ∧ _ ∧ _ ∧ _ ∧ _ := ⟨zr HO254 hb, zr HO264 hb, zr HO271 hb, zk BK247 hb, zk BK248 hb, zk BK266 hb, zbs hb, Aside0.mk (hbox), zg HB hg, zg HB hg, zn1 BK247 hg, zn2 BK247 hg, zn1 BK248 hg, zn2 BK248 hg, zn1 BK266 hg, zn2 BK266 hg⟩; clear HO254 HO264 HO271 BK247 BK248 BK266 HB; obtain ⟨HO254, HO264, HO271, BK247, BK248, BK266, HB, BK272, GW272, GE272, NB247_272, NB272_247, NB248_272, NB272_248, NB266_272, NB272_266⟩ := n_; clear hb hbox hg; have hnb59 := NB272_247.out; have hnc59 := NB247_272.out; have hnb60 := NB272_248.out; have hnc60 := NB248_272.out; have hnb61 := NB272_266.out; have hnc61 := NB266_272.out; obtain ⟨z62_0, z62_1, z62_2, y62_0, y62_1, y62_2⟩ := zB3 BK272; obtain ⟨Ao63, co63, eo63⟩ := Kd.R_slice HO271.out; subst eo63))
 have n0_ : Aside0 (Kd.R k91 91 (((w58.setCell ⟨gb272, 0, none⟩ (.int .i8 t267)).setCell ⟨gb272, 1, none⟩ (.int .i8 t268)).setCell ⟨gb272, 2, none⟩ (.slice Ao63 t269.length co63)) w.heap.size (fun k_ => some k_ ≠ (.slice Ao53 t262.length co53 : Value).ownBlock ∧ some k_ ≠ (.slice Ao63 t269.length co63 : Value).ownBlock) v253 t252) := ⟨by (with_reducible repeat (first | apply Kd.R_alloc | apply Kd.R_drewN | apply Kd.R_drew)); exact Kd.R_mono (Kd.R_far (p := ⟨gb272, 2, none⟩) (Kd.R_far (p := ⟨gb272, 1, none⟩) (Kd.R_far (p := ⟨gb272, 0, none⟩) (Kd.R_types HO254.out BK272.out (by decide)) (fun _ hk => hk.2) (.int .i8 t267)) (fun _ hk => hk.2) (.int .i8 t268)) (fun _ hk => hk.2) (.slice Ao63 t269.length co63)) (fun _ hk => ⟨hk.1.1, hk.1.2⟩)⟩
 have n1_ : Aside0 (Kd.R k91 91 (((w58.setCell ⟨gb272, 0, none⟩ (.int .i8 t267)).setCell ⟨gb272, 1, none⟩ (.int .i8 t268)).setCell ⟨gb272, 2, none⟩ (.slice Ao63 t269.length co63)) w.heap.size (fun k_ => some k_ ≠ (v253 : Value).ownBlock ∧ some k_ ≠ (.slice Ao63 t269.length co63 : Value).ownBlock) (.slice Ao53 t262.length co53) t262) := ⟨by (with_reducible repeat (first | apply Kd.R_alloc | apply Kd.R_drewN | apply Kd.R_drew)); exact Kd.R_mono (Kd.R_far (p := ⟨gb272, 2, none⟩) (Kd.R_far (p := ⟨gb272, 1, none⟩) (Kd.R_far (p := ⟨gb272, 0, none⟩) (Kd.R_types HO264.out BK272.out (by decide)) (fun _ hk => hk.2) (.int .i8 t267)) (fun _ hk => hk.2) (.int .i8 t268)) (fun _ hk => hk.2) (.slice Ao63 t269.length co63)) (fun _ hk => ⟨hk.1.1, hk.1.2⟩)⟩
 have n2_ : Aside0 (Kd.R k91 91 (((w58.setCell ⟨gb272, 0, none⟩ (.int .i8 t267)).setCell ⟨gb272, 1, none⟩ (.int .i8 t268)).setCell ⟨gb272, 2, none⟩ (.slice Ao63 t269.length co63)) w.heap.size (fun k_ => some k_ ≠ (v253 : Value).ownBlock ∧ some k_ ≠ (.slice Ao53 t262.length co53 : Value).ownBlock) (.slice Ao63 t269.length co63) t269) := ⟨by (with_reducible repeat (first | apply Kd.R_alloc | apply Kd.R_drewN | apply Kd.R_drew)); exact Kd.R_mono (Kd.R_far (p := ⟨gb272, 2, none⟩) (Kd.R_far (p := ⟨gb272, 1, none⟩) (Kd.R_far (p := ⟨gb272, 0, none⟩) (Kd.R_types HO271.out BK272.out (by decide)) (fun _ hk => hk.2) (.int .i8 t267)) (fun _ hk => hk.2) (.int .i8 t268)) (fun _ hk => hk.2) (.slice Ao63 t269.length co63)) (fun _ hk => ⟨hk.1.1.2, hk.1.2⟩)⟩
 have n3_ : Aside0 ((((w58.setCell ⟨gb272, 0, none⟩ (.int .i8 t267)).setCell ⟨gb272, 1, none⟩ (.int .i8 t268)).setCell ⟨gb272, 2, none⟩ (.slice Ao63 t269.length co63)).heap[gb247]? = some (.cells #[.int .i8 a0_0, .int .i8 a0_1, .slice A0_2 l0_2.length c0_2] 25 (0, 0))) := zf BK247 NB247_272
 have n4_ : Aside0 ((((w58.setCell ⟨gb272, 0, none⟩ (.int .i8 t267)).setCell ⟨gb272, 1, none⟩ (.int .i8 t268)).setCell ⟨gb272, 2, none⟩ (.slice Ao63 t269.length co63)).heap[gb248]? = some (.cells #[.int .i8 a1_0, .int .i8 a1_1, .int .i8 a1_2, .int .i8 a1_3, .int .i8 a1_4] 88 (0, 0))) := zf BK248 NB248_272
 have n5_ : Aside0 ((((w58.setCell ⟨gb272, 0, none⟩ (.int .i8 t267)).setCell ⟨gb272, 1, none⟩ (.int .i8 t268)).setCell ⟨gb272, 2, none⟩ (.slice Ao63 t269.length co63)).heap[gb266]? = some (.cells #[.int .i8 t260, .int .i8 t261, .slice Ao53 t262.length co53] 37 (0, 0))) := zf BK266 NB266_272
 have n6_ : Aside0 ((((w58.setCell ⟨gb272, 0, none⟩ (.int .i8 t267)).setCell ⟨gb272, 1, none⟩ (.int .i8 t268)).setCell ⟨gb272, 2, none⟩ (.slice Ao63 t269.length co63)).heap[gb272]? = some (.cells #[.int .i8 t267, .int .i8 t268, .slice Ao63 t269.length co63] 37 (0, 0))) := ⟨by (with_reducible repeat (first | refine blk_drewN ?_ _ | refine blk_drew ?_ | refine blk_alloc ?_ _)); refine blk_put (cs := #[.int .i8 t267, .int .i8 t268, .slice none 0 0]) ?_ 2 _ rfl; (with_reducible repeat (first | refine blk_drewN ?_ _ | refine blk_drew ?_ | refine blk_alloc ?_ _)); refine blk_put (cs := #[.int .i8 t267, .int .i8 0, .slice none 0 0]) ?_ 1 _ rfl; (with_reducible repeat (first | refine blk_drewN ?_ _ | refine blk_drew ?_ | refine blk_alloc ?_ _)); refine blk_put (cs := #[.int .i8 0, .int .i8 0, .slice none 0 0]) ?_ 0 _ rfl; (with_reducible repeat (first | refine blk_drewN ?_ _ | refine blk_drew ?_ | refine blk_alloc ?_ _)); exact BK272.out⟩
 have n7_ : Aside0 (Below w.heap.size w (((w58.setCell ⟨gb272, 0, none⟩ (.int .i8 t267)).setCell ⟨gb272, 1, none⟩ (.int .i8 t268)).setCell ⟨gb272, 2, none⟩ (.slice Ao63 t269.length co63))) := zba
 (try clear HO254)
 (try clear HO264)
 (try clear HO271)
 (try clear BK247)
 (try clear BK248)
 (try clear BK266)
 (try clear BK272)
 (try clear HB)
 generalize (((w58.setCell ⟨gb272, 0, none⟩ (.int .i8 t267)).setCell ⟨gb272, 1, none⟩ (.int .i8 t268)).setCell ⟨gb272, 2, none⟩ (.slice Ao63 t269.length co63)) = w64 at n0_ n1_ n2_ n3_ n4_ n5_ n6_ n7_ ⊢
 have HO254 := n0_
 have HO264 := n1_
 have HO271 := n2_
 have BK247 := n3_
 have BK248 := n4_
 have BK266 := n5_
 have BK272 := n6_
 have HB := n7_
 clear n0_ n1_ n2_ n3_ n4_ n5_ n6_ n7_
 have n0_ := Aside0.mk (Kd.R_drew HO254.out)
 have n1_ := Aside0.mk (Kd.R_drew HO264.out)
 have n2_ := Aside0.mk (Kd.R_drew HO271.out)
 have n3_ := Aside0.mk (blk_drew BK247.out)
 have n4_ := Aside0.mk (blk_drew BK248.out)
 have n5_ := Aside0.mk (blk_drew BK266.out)
 have n6_ := Aside0.mk (blk_drew BK272.out)
 have n7_ := Aside0.mk (below_drew1 HB.out)
 clear HO254
 clear HO264
 clear HO271
 clear BK247
 clear BK248
 clear BK266
 clear BK272
 clear HB
 have HO254 := n0_
 have HO264 := n1_
 have HO271 := n2_
 have BK247 := n3_
 have BK248 := n4_
 have BK266 := n5_
 have BK272 := n6_
 have HB := n7_
 clear n0_ n1_ n2_ n3_ n4_ n5_ n6_ n7_
 refine start_ (n := 10) (S := fun w' => w'.cell? ⟨gb272, 0, none⟩ = some (.int .i8 t267) ∧ w'.cell? ⟨gb272, 1, none⟩ = some (.int .i8 t268) ∧ w'.cell? ⟨gb272, 2, none⟩ = some (.slice Ao63 t269.length co63) ∧ w'.cell? ⟨gb248, 0, none⟩ = some (.int .i8 a1_0) ∧ w'.cell? ⟨gb248, 1, none⟩ = some (.int .i8 a1_1) ∧ w'.cell? ⟨gb248, 2, none⟩ = some (.int .i8 a1_2) ∧ w'.cell? ⟨gb248, 3, none⟩ = some (.int .i8 a1_3) ∧ w'.cell? ⟨gb248, 4, none⟩ = some (.int .i8 a1_4)) (ds := []) (zq 10 0) (by kernel_rfl) rfl rfl ⟨(blk_cell BK272.out 0).trans rfl, (blk_cell BK272.out 1).trans rfl, (blk_cell BK272.out 2).trans rfl, (blk_cell BK248.out 0).trans rfl, (blk_cell BK248.out 1).trans rfl, (blk_cell BK248.out 2).trans rfl, (blk_cell BK248.out 3).trans rfl, (blk_cell BK248.out 4).trans rfl⟩ (fun hHeld => ?_); refine with_tabW laws_FnExactPutPiece.tab7 laws_FnExactPutPiece.bits7 (fun HT_ HW_ => ?_)
 generalize w64.drew = w65 at HO254 HO264 HO271 BK247 BK248 BK266 BK272 HB hHeld ⊢
 refine ztk 0 (some 32) (zq 10 1) HT_ HW_ rfl hHeld (Or.inl ⟨by rfl, by (rintro w' ⟨s0, s1, s2, s3, s4, s5, s6, s7⟩; go_simp; with_reducible rfl)⟩) ?_
 refine ztk 1 (some 33) (zq 10 3) HT_ HW_ rfl hHeld (Or.inl ⟨by rfl, by (rintro w' ⟨s0, s1, s2, s3, s4, s5, s6, s7⟩; go_simp; with_reducible rfl)⟩) ?_
 refine join_ (σ := Value × Nat) 2 (zq 10 255) (fun s_ => [(34, .agg #[.int .i8 t273, .int .i8 t274, .int .i8 t275, .int .i8 t276, .int .i8 t277]), (35, .tuple #[.agg #[.int .i8 t278, .int .i8 t279, s_.1], .int .i64 t283]), (9, .pointer (some ⟨s_.2, 0, none⟩)), (31, .tuple #[.agg #[.int .i8 t278, .int .i8 t279, s_.1], .int .i64 t283]), (36, .agg #[.int .i8 t278, .int .i8 t279, s_.1]), (37, .int .i64 t283)]) (fun s_ w' => (w'.cell? ⟨gb272, 0, none⟩ = some (.int .i8 t267) ∧ w'.cell? ⟨gb272, 1, none⟩ = some (.int .i8 t268) ∧ w'.cell? ⟨gb272, 2, none⟩ = some (.slice Ao63 t269.length co63) ∧ w'.cell? ⟨gb248, 0, none⟩ = some (.int .i8 a1_0) ∧ w'.cell? ⟨gb248, 1, none⟩ = some (.int .i8 a1_1) ∧ w'.cell? ⟨gb248, 2, none⟩ = some (.int .i8 a1_2) ∧ w'.cell? ⟨gb248, 3, none⟩ = some (.int .i8 a1_3) ∧ w'.cell? ⟨gb248, 4, none⟩ = some (.int .i8 a1_4)) ∧ (Kd.R k91 91 w' w.heap.size (fun k_ => some k_ ≠ (.slice Ao53 t262.length co53 : Value).ownBlock ∧ some k_ ≠ (.slice Ao63 t269.length co63 : Value).ownBlock ∧ some k_ ≠ (s_.1 : Value).ownBlock) v253 t252) ∧ (Kd.R k91 91 w' w.heap.size (fun k_ => some k_ ≠ (v253 : Value).ownBlock ∧ some k_ ≠ (.slice Ao63 t269.length co63 : Value).ownBlock ∧ some k_ ≠ (s_.1 : Value).ownBlock) (.slice Ao53 t262.length co53) t262) ∧ (Kd.R k91 91 w' w.heap.size (fun k_ => some k_ ≠ (v253 : Value).ownBlock ∧ some k_ ≠ (.slice Ao53 t262.length co53 : Value).ownBlock ∧ some k_ ≠ (s_.1 : Value).ownBlock) (.slice Ao63 t269.length co63) t269) ∧ (Kd.R k91 91 w' w.heap.size (fun k_ => some k_ ≠ (v253 : Value).ownBlock ∧ some k_ ≠ (.slice Ao53 t262.length co53 : Value).ownBlock ∧ some k_ ≠ (.slice Ao63 t269.length co63 : Value).ownBlock) s_.1 t280) ∧ (w'.heap[gb247]? = some (.cells #[.int .i8 a0_0, .int .i8 a0_1, .slice A0_2 l0_2.length c0_2] 25 (0, 0))) ∧ (w'.heap[gb248]? = some (.cells #[.int .i8 a1_0, .int .i8 a1_1, .int .i8 a1_2, .int .i8 a1_3, .int .i8 a1_4] 88 (0, 0))) ∧ (w'.heap[gb266]? = some (.cells #[.int .i8 t260, .int .i8 t261, .slice Ao53 t262.length co53] 37 (0, 0))) ∧ (w'.heap[gb272]? = some (.cells #[.int .i8 t267, .int .i8 t268, .slice Ao63 t269.length co63] 37 (0, 0))) ∧ (w'.heap[s_.2]? = some (.cells #[.int .i8 0, .int .i8 0, .slice none 0 0] 37 (0, 0))) ∧ (w.heap.size ≤ s_.2) ∧ (w.heap.size ≤ s_.2) ∧ (gb247 ≠ s_.2) ∧ (s_.2 ≠ gb247) ∧ (gb248 ≠ s_.2) ∧ (s_.2 ≠ gb248) ∧ (gb266 ≠ s_.2) ∧ (s_.2 ≠ gb266) ∧ (gb272 ≠ s_.2) ∧ (s_.2 ≠ gb272) ∧ (Below w.heap.size w w')) ?_ ?_
 rotate_left
 ·intro hCont
  refine two_ (i := 2) (j := 7) (Ni := some 34) (Nj := some 9) (zq 10 7) (zq 10 131) rfl rfl rfl rfl (two_of HT_.out (by kernel_rfl)) (by decide) (by decide) (fun K hK => ?_) (fun K hK => ?_)
  rotate_left
  ·skip
   refine box_step ?hg (N := 9) ?hd (cs := #[.int .i8 0, .int .i8 0, .slice none 0 0]) (t := 37) ?hr ?_; (case hd => rfl); (case hg => rfl); (case hr => first | (go_simp; done) | (go_simp; rfl))
   intro gb284 hg w66 hbox hb
   have n0_ := zr HO254 hb
   have n1_ := zr HO264 hb
   have n2_ := zr HO271 hb
   have n3_ := zk BK247 hb
   have n4_ := zk BK248 hb
   have n5_ := zk BK266 hb
   have n6_ := zk BK272 hb
   have n7_ := zbs hb
   have n8_ := Aside0.mk (hbox)
   have n9_ := zg HB hg
   have n10_ := zg HB hg
   have n11_ := zn1 BK247 hg
   have n12_ := zn2 BK247 hg
   have n13_ := zn1 BK248 hg
   have n14_ := zn2 BK248 hg
   have n15_ := zn1 BK266 hg
   have n16_ := zn2 BK266 hg
   have n17_ := zn1 BK272 hg
   have n18_ := zn2 BK272 hg
   clear HO254
   clear HO264
   clear HO271
   clear BK247
   clear BK248
   clear BK266
   clear BK272
   clear HB
   have HO254 := n0_
   have HO264 := n1_
   have HO271 := n2_
   have BK247 := n3_
   have BK248 := n4_
   have BK266 := n5_
   have BK272 := n6_
   have HB := n7_
   have BK284 := n8_
   have GW284 := n9_
   have GE284 := n10_
   have NB247_284 := n11_
   have NB284_247 := n12_
   have NB248_284 := n13_
   have NB284_248 := n14_
   have NB266_284 := n15_
   have NB284_266 := n16_
   have NB272_284 := n17_
   have NB284_272 := n18_
   clear n0_ n1_ n2_ n3_ n4_ n5_ n6_ n7_ n8_ n9_ n10_ n11_ n12_ n13_ n14_ n15_ n16_ n17_ n18_
   clear hb hbox hg
   refine hK.out _ _ ⟨(blk_cell BK272.out 0).trans rfl, (blk_cell BK272.out 1).trans rfl, (blk_cell BK272.out 2).trans rfl, (blk_cell BK248.out 0).trans rfl, (blk_cell BK248.out 1).trans rfl, (blk_cell BK248.out 2).trans rfl, (blk_cell BK248.out 3).trans rfl, (blk_cell BK248.out 4).trans rfl⟩ (fun hHeld => ?_)
   clear hK K
   refine norm_ (a' := ?_) ?_ ?_
   rotate_left
   ·show Act.put _ (some 9) _ = _
    simp only [Act.put, List.setIfInBounds_toArray, List.set_cons_zero, List.set_cons_succ, i64_w, i32_w]
    rfl
   refine one_ (i := 2) (N := some 34) (zq 10 135) rfl rfl (one_of HT_.out (by kernel_rfl)) (by decide) (fun K hK => ?_)
   refine goes_ Try.func65 (by kernel_rfl) rfl #[.agg #[.int .i8 a1_0, .int .i8 a1_1, .int .i8 a1_2, .int .i8 a1_3, .int .i8 a1_4]] (by rfl) rfl rfl (by (try simp only [List.map_toArray, List.map_cons, List.map_nil]); first | done | rfl | (simp only [List.length_drop, List.length_take]; rfl)) ?_
   with_reducible refine (laws_toPiece.calls k a1_0 a1_1 a1_2 a1_3 a1_4 t273 t274 t275 t276 t277 _ A14.out).mono ?_
   rintro e w67 ⟨rfl, hb⟩
   refine ⟨_, rfl, ?_⟩
   have n0_ := zr HO254 hb
   have n1_ := zr HO264 hb
   have n2_ := zr HO271 hb
   have n3_ := zk BK247 hb
   have n4_ := zk BK248 hb
   have n5_ := zk BK266 hb
   have n6_ := zk BK272 hb
   have n7_ := zk BK284 hb
   have n8_ := zbs hb
   clear HO254
   clear HO264
   clear HO271
   clear BK247
   clear BK248
   clear BK266
   clear BK272
   clear BK284
   clear HB
   have HO254 := n0_
   have HO264 := n1_
   have HO271 := n2_
   have BK247 := n3_
   have BK248 := n4_
   have BK266 := n5_
   have BK272 := n6_
   have BK284 := n7_
   have HB := n8_
   clear n0_ n1_ n2_ n3_ n4_ n5_ n6_ n7_ n8_
   (try clear hb)
   (try clear hb2)
   (try clear hk)
   (try clear hi)
   refine hK.out _ _ ⟨(blk_cell BK272.out 0).trans rfl, (blk_cell BK272.out 1).trans rfl, (blk_cell BK272.out 2).trans rfl, (blk_cell BK248.out 0).trans rfl, (blk_cell BK248.out 1).trans rfl, (blk_cell BK248.out 2).trans rfl, (blk_cell BK248.out 3).trans rfl, (blk_cell BK248.out 4).trans rfl⟩ (fun hHeld => ?_)
   clear hK K
   refine norm_ (a' := ?_) ?_ ?_
   rotate_left
   ·show Act.put _ (some 34) _ = _
    simp only [Act.put, List.setIfInBounds_toArray, List.set_cons_zero, List.set_cons_succ, i64_w, i32_w]
    rfl
   refine one_ (i := 3) (N := some 35) (zq 10 143) rfl rfl (one_of HT_.out (by kernel_rfl)) (by decide) (fun K hK => ?_)
   refine goes_ Try.func66 (by kernel_rfl) rfl #[.agg #[.int .i8 t267, .int .i8 t268, .slice Ao63 t269.length co63], .agg #[.int .i8 t273, .int .i8 t274, .int .i8 t275, .int .i8 t276, .int .i8 t277]] (by rfl) rfl rfl (by (try simp only [List.map_toArray, List.map_cons, List.map_nil]); first | done | rfl | (simp only [List.length_drop, List.length_take]; rfl)) ?_
   with_reducible refine (impl_PutPiece.calls k t267 t268 _ _ t269 t273 t274 t275 t276 t277 t278 t279 t280 t283 _ ?side1 ?side2 A15.out).mono ?_
   (case side1 => exact zrc HO271)
   (case side2 => exact (Kd.R_reads' HO271.out).2.1)
   rintro e w68 ⟨v281, rfl, ho0, hb⟩
   refine ⟨_, rfl, ?_⟩
   have n0_ := Aside0.mk (Kd.R_elder' (ze HO254).out (Kd.R_base ho0) hb)
   have n1_ := Aside0.mk (Kd.R_elder' (ze HO264).out (Kd.R_base ho0) hb)
   have n2_ := Aside0.mk (Kd.R_elder' (ze HO271).out (Kd.R_base ho0) hb)
   have n3_ := Aside0.mk (Kd.R_lower (Kd.R_new' (Kd.R_new' (Kd.R_new' ho0 (Kd.R_lt (ze HO254).out)) (Kd.R_lt (ze HO264).out)) (Kd.R_lt (ze HO271).out)) (zz HB))
   have n4_ := zk BK247 hb
   have n5_ := zk BK248 hb
   have n6_ := zk BK266 hb
   have n7_ := zk BK272 hb
   have n8_ := zk BK284 hb
   have n9_ := zbs hb
   clear HO254
   clear HO264
   clear HO271
   clear BK247
   clear BK248
   clear BK266
   clear BK272
   clear BK284
   clear HB
   have HO254 := n0_
   have HO264 := n1_
   have HO271 := n2_
   have HO282 := n3_
   have BK247 := n4_
   have BK248 := n5_
   have BK266 := n6_
   have BK272 := n7_
   have BK284 := n8_
   have HB := n9_
   clear n0_ n1_ n2_ n3_ n4_ n5_ n6_ n7_ n8_ n9_
   (try clear hb)
   (try clear hb2)
   (try clear hk)
   (try clear hi)
   (try clear ho0)
   refine hK.out _ _ ⟨(blk_cell BK272.out 0).trans rfl, (blk_cell BK272.out 1).trans rfl, (blk_cell BK272.out 2).trans rfl, (blk_cell BK248.out 0).trans rfl, (blk_cell BK248.out 1).trans rfl, (blk_cell BK248.out 2).trans rfl, (blk_cell BK248.out 3).trans rfl, (blk_cell BK248.out 4).trans rfl⟩ (fun hHeld => ?_)
   clear hK K
   refine norm_ (a' := ?_) ?_ ?_
   rotate_left
   ·show Act.put _ (some 35) _ = _
    simp only [Act.put, List.setIfInBounds_toArray, List.set_cons_zero, List.set_cons_succ, i64_w, i32_w]
    rfl
   refine zpu 4 (some 31) (zq 10 159) HT_ ?_
   refine zpu 5 (some 36) (zq 10 191) HT_ ?_
   refine zpu 6 (some 37) (zq 10 255) HT_ ?_
   exact norm_ (by simp only [putAll, Act.put, List.setIfInBounds_toArray, List.set_cons_zero, List.set_cons_succ]) (hCont (v281, gb284) _ ⟨hHeld, (by (with_reducible repeat (first | apply Kd.R_alloc | apply Kd.R_drewN | apply Kd.R_drew)); exact Kd.R_mono HO254.out (fun _ hk => ⟨hk.1.1, ⟨hk.1.2, hk.2⟩⟩)), (by (with_reducible repeat (first | apply Kd.R_alloc | apply Kd.R_drewN | apply Kd.R_drew)); exact Kd.R_mono HO264.out (fun _ hk => ⟨hk.1.1, ⟨hk.1.2, hk.2⟩⟩)), (by (with_reducible repeat (first | apply Kd.R_alloc | apply Kd.R_drewN | apply Kd.R_drew)); exact Kd.R_mono HO271.out (fun _ hk => ⟨hk.1.1, ⟨hk.1.2, hk.2⟩⟩)), (by (with_reducible repeat (first | apply Kd.R_alloc | apply Kd.R_drewN | apply Kd.R_drew)); exact Kd.R_mono HO282.out (fun _ hk => ⟨hk.1.1.2, ⟨hk.1.2, hk.2⟩⟩)), (zh BK247).out, (zh BK248).out, (zh BK266).out, (zh BK272).out, (zh BK284).out, GW284.out, GE284.out, NB247_284.out, NB284_247.out, NB248_284.out, NB284_248.out, NB266_284.out, NB284_266.out, NB272_284.out, NB284_272.out, (by repeat (first | (with_reducible first | exact HB.out | apply below_alloc | apply pw_below_drewN | apply below_drew1 | refine below_set ?_ GE247.out | refine below_set ?_ GE248.out | refine below_set ?_ GE266.out | refine below_set ?_ GE272.out | refine below_set ?_ GE284.out) | exact HB.out))⟩)
  skip
  refine goes_ Try.func65 (by kernel_rfl) rfl #[.agg #[.int .i8 a1_0, .int .i8 a1_1, .int .i8 a1_2, .int .i8 a1_3, .int .i8 a1_4]] (by rfl) rfl rfl (by (try simp only [List.map_toArray, List.map_cons, List.map_nil]); first | done | rfl | (simp only [List.length_drop, List.length_take]; rfl)) ?_
  with_reducible refine (laws_toPiece.calls k a1_0 a1_1 a1_2 a1_3 a1_4 t273 t274 t275 t276 t277 _ A14.out).mono ?_
  rintro e w66 ⟨rfl, hb⟩
  refine ⟨_, rfl, ?_⟩
  have n0_ := zr HO254 hb
  have n1_ := zr HO264 hb
  have n2_ := zr HO271 hb
  have n3_ := zk BK247 hb
  have n4_ := zk BK248 hb
  have n5_ := zk BK266 hb
  have n6_ := zk BK272 hb
  have n7_ := zbs hb
  clear HO254
  clear HO264
  clear HO271
  clear BK247
  clear BK248
  clear BK266
  clear BK272
  clear HB
  have HO254 := n0_
  have HO264 := n1_
  have HO271 := n2_
  have BK247 := n3_
  have BK248 := n4_
  have BK266 := n5_
  have BK272 := n6_
  have HB := n7_
  clear n0_ n1_ n2_ n3_ n4_ n5_ n6_ n7_
  (try clear hb)
  (try clear hb2)
  (try clear hk)
  (try clear hi)
  refine hK.out _ _ ⟨(blk_cell BK272.out 0).trans rfl, (blk_cell BK272.out 1).trans rfl, (blk_cell BK272.out 2).trans rfl, (blk_cell BK248.out 0).trans rfl, (blk_cell BK248.out 1).trans rfl, (blk_cell BK248.out 2).trans rfl, (blk_cell BK248.out 3).trans rfl, (blk_cell BK248.out 4).trans rfl⟩ (fun hHeld => ?_)
  clear hK K
  refine norm_ (a' := ?_) ?_ ?_
  rotate_left
  ·show Act.put _ (some 34) _ = _
   simp only [Act.put, List.setIfInBounds_toArray, List.set_cons_zero, List.set_cons_succ, i64_w, i32_w]
   rfl
  refine two_ (i := 3) (j := 7) (Ni := some 35) (Nj := some 9) (zq 10 15) (zq 10 135) rfl rfl rfl rfl (two_of HT_.out (by kernel_rfl)) (by decide) (by decide) (fun K hK => ?_) (fun K hK => ?_)
  rotate_left
  ·skip
   refine box_step ?hg (N := 9) ?hd (cs := #[.int .i8 0, .int .i8 0, .slice none 0 0]) (t := 37) ?hr ?_; (case hd => rfl); (case hg => rfl); (case hr => first | (go_simp; done) | (go_simp; rfl))
   intro gb284 hg w67 hbox hb
   have n0_ := zr HO254 hb
   have n1_ := zr HO264 hb
   have n2_ := zr HO271 hb
   have n3_ := zk BK247 hb
   have n4_ := zk BK248 hb
   have n5_ := zk BK266 hb
   have n6_ := zk BK272 hb
   have n7_ := zbs hb
   have n8_ := Aside0.mk (hbox)
   have n9_ := zg HB hg
   have n10_ := zg HB hg
   have n11_ := zn1 BK247 hg
   have n12_ := zn2 BK247 hg
   have n13_ := zn1 BK248 hg
   have n14_ := zn2 BK248 hg
   have n15_ := zn1 BK266 hg
   have n16_ := zn2 BK266 hg
   have n17_ := zn1 BK272 hg
   have n18_ := zn2 BK272 hg
   clear HO254
   clear HO264
   clear HO271
   clear BK247
   clear BK248
   clear BK266
   clear BK272
   clear HB
   have HO254 := n0_
   have HO264 := n1_
   have HO271 := n2_
   have BK247 := n3_
   have BK248 := n4_
   have BK266 := n5_
   have BK272 := n6_
   have HB := n7_
   have BK284 := n8_
   have GW284 := n9_
   have GE284 := n10_
   have NB247_284 := n11_
   have NB284_247 := n12_
   have NB248_284 := n13_
   have NB284_248 := n14_
   have NB266_284 := n15_
   have NB284_266 := n16_
   have NB272_284 := n17_
   have NB284_272 := n18_
   clear n0_ n1_ n2_ n3_ n4_ n5_ n6_ n7_ n8_ n9_ n10_ n11_ n12_ n13_ n14_ n15_ n16_ n17_ n18_
   clear hb hbox hg
   refine hK.out _ _ ⟨(blk_cell BK272.out 0).trans rfl, (blk_cell BK272.out 1).trans rfl, (blk_cell BK272.out 2).trans rfl, (blk_cell BK248.out 0).trans rfl, (blk_cell BK248.out 1).trans rfl, (blk_cell BK248.out 2).trans rfl, (blk_cell BK248.out 3).trans rfl, (blk_cell BK248.out 4).trans rfl⟩ (fun hHeld => ?_)
   clear hK K
   refine norm_ (a' := ?_) ?_ ?_
   rotate_left
   ·show Act.put _ (some 9) _ = _
    simp only [Act.put, List.setIfInBounds_toArray, List.set_cons_zero, List.set_cons_succ, i64_w, i32_w]
    rfl
   refine one_ (i := 3) (N := some 35) (zq 10 143) rfl rfl (one_of HT_.out (by kernel_rfl)) (by decide) (fun K hK => ?_)
   refine goes_ Try.func66 (by kernel_rfl) rfl #[.agg #[.int .i8 t267, .int .i8 t268, .slice Ao63 t269.length co63], .agg #[.int .i8 t273, .int .i8 t274, .int .i8 t275, .int .i8 t276, .int .i8 t277]] (by rfl) rfl rfl (by (try simp only [List.map_toArray, List.map_cons, List.map_nil]); first | done | rfl | (simp only [List.length_drop, List.length_take]; rfl)) ?_
   with_reducible refine (impl_PutPiece.calls k t267 t268 _ _ t269 t273 t274 t275 t276 t277 t278 t279 t280 t283 _ ?side1 ?side2 A15.out).mono ?_
   (case side1 => exact zrc HO271)
   (case side2 => exact (Kd.R_reads' HO271.out).2.1)
   rintro e w68 ⟨v281, rfl, ho0, hb⟩
   refine ⟨_, rfl, ?_⟩
   have n0_ := Aside0.mk (Kd.R_elder' (ze HO254).out (Kd.R_base ho0) hb)
   have n1_ := Aside0.mk (Kd.R_elder' (ze HO264).out (Kd.R_base ho0) hb)
   have n2_ := Aside0.mk (Kd.R_elder' (ze HO271).out (Kd.R_base ho0) hb)
   have n3_ := Aside0.mk (Kd.R_lower (Kd.R_new' (Kd.R_new' (Kd.R_new' ho0 (Kd.R_lt (ze HO254).out)) (Kd.R_lt (ze HO264).out)) (Kd.R_lt (ze HO271).out)) (zz HB))
   have n4_ := zk BK247 hb
   have n5_ := zk BK248 hb
   have n6_ := zk BK266 hb
   have n7_ := zk BK272 hb
   have n8_ := zk BK284 hb
   have n9_ := zbs hb
   clear HO254
   clear HO264
   clear HO271
   clear BK247
   clear BK248
   clear BK266
   clear BK272
   clear BK284
   clear HB
   have HO254 := n0_
   have HO264 := n1_
   have HO271 := n2_
   have HO282 := n3_
   have BK247 := n4_
   have BK248 := n5_
   have BK266 := n6_
   have BK272 := n7_
   have BK284 := n8_
   have HB := n9_
   clear n0_ n1_ n2_ n3_ n4_ n5_ n6_ n7_ n8_ n9_
   (try clear hb)
   (try clear hb2)
   (try clear hk)
   (try clear hi)
   (try clear ho0)
   refine hK.out _ _ ⟨(blk_cell BK272.out 0).trans rfl, (blk_cell BK272.out 1).trans rfl, (blk_cell BK272.out 2).trans rfl, (blk_cell BK248.out 0).trans rfl, (blk_cell BK248.out 1).trans rfl, (blk_cell BK248.out 2).trans rfl, (blk_cell BK248.out 3).trans rfl, (blk_cell BK248.out 4).trans rfl⟩ (fun hHeld => ?_)
   clear hK K
   refine norm_ (a' := ?_) ?_ ?_
   rotate_left
   ·show Act.put _ (some 35) _ = _
    simp only [Act.put, List.setIfInBounds_toArray, List.set_cons_zero, List.set_cons_succ, i64_w, i32_w]
    rfl
   refine zpu 4 (some 31) (zq 10 159) HT_ ?_
   refine zpu 5 (some 36) (zq 10 191) HT_ ?_
   refine zpu 6 (some 37) (zq 10 255) HT_ ?_
   exact norm_ (by simp only [putAll, Act.put, List.setIfInBounds_toArray, List.set_cons_zero, List.set_cons_succ]) (hCont (v281, gb284) _ ⟨hHeld, (by (with_reducible repeat (first | apply Kd.R_alloc | apply Kd.R_drewN | apply Kd.R_drew)); exact Kd.R_mono HO254.out (fun _ hk => ⟨hk.1.1, ⟨hk.1.2, hk.2⟩⟩)), (by (with_reducible repeat (first | apply Kd.R_alloc | apply Kd.R_drewN | apply Kd.R_drew)); exact Kd.R_mono HO264.out (fun _ hk => ⟨hk.1.1, ⟨hk.1.2, hk.2⟩⟩)), (by (with_reducible repeat (first | apply Kd.R_alloc | apply Kd.R_drewN | apply Kd.R_drew)); exact Kd.R_mono HO271.out (fun _ hk => ⟨hk.1.1, ⟨hk.1.2, hk.2⟩⟩)), (by (with_reducible repeat (first | apply Kd.R_alloc | apply Kd.R_drewN | apply Kd.R_drew)); exact Kd.R_mono HO282.out (fun _ hk => ⟨hk.1.1.2, ⟨hk.1.2, hk.2⟩⟩)), (zh BK247).out, (zh BK248).out, (zh BK266).out, (zh BK272).out, (zh BK284).out, GW284.out, GE284.out, NB247_284.out, NB284_247.out, NB248_284.out, NB284_248.out, NB266_284.out, NB284_266.out, NB272_284.out, NB284_272.out, (by repeat (first | (with_reducible first | exact HB.out | apply below_alloc | apply pw_below_drewN | apply below_drew1 | refine below_set ?_ GE247.out | refine below_set ?_ GE248.out | refine below_set ?_ GE266.out | refine below_set ?_ GE272.out | refine below_set ?_ GE284.out) | exact HB.out))⟩)
  skip
  refine goes_ Try.func66 (by kernel_rfl) rfl #[.agg #[.int .i8 t267, .int .i8 t268, .slice Ao63 t269.length co63], .agg #[.int .i8 t273, .int .i8 t274, .int .i8 t275, .int .i8 t276, .int .i8 t277]] (by rfl) rfl rfl (by (try simp only [List.map_toArray, List.map_cons, List.map_nil]); first | done | rfl | (simp only [List.length_drop, List.length_take]; rfl)) ?_
  with_reducible refine (impl_PutPiece.calls k t267 t268 _ _ t269 t273 t274 t275 t276 t277 t278 t279 t280 t283 _ ?side1 ?side2 A15.out).mono ?_
  (case side1 => exact zrc HO271)
  (case side2 => exact (Kd.R_reads' HO271.out).2.1)
  rintro e w67 ⟨v281, rfl, ho0, hb⟩
  refine ⟨_, rfl, ?_⟩
  have n0_ := Aside0.mk (Kd.R_elder' (ze HO254).out (Kd.R_base ho0) hb)
  have n1_ := Aside0.mk (Kd.R_elder' (ze HO264).out (Kd.R_base ho0) hb)
  have n2_ := Aside0.mk (Kd.R_elder' (ze HO271).out (Kd.R_base ho0) hb)
  have n3_ := Aside0.mk (Kd.R_lower (Kd.R_new' (Kd.R_new' (Kd.R_new' ho0 (Kd.R_lt (ze HO254).out)) (Kd.R_lt (ze HO264).out)) (Kd.R_lt (ze HO271).out)) (zz HB))
  have n4_ := zk BK247 hb
  have n5_ := zk BK248 hb
  have n6_ := zk BK266 hb
  have n7_ := zk BK272 hb
  have n8_ := zbs hb
  clear HO254
  clear HO264
  clear HO271
  clear BK247
  clear BK248
  clear BK266
  clear BK272
  clear HB
  have HO254 := n0_
  have HO264 := n1_
  have HO271 := n2_
  have HO282 := n3_
  have BK247 := n4_
  have BK248 := n5_
  have BK266 := n6_
  have BK272 := n7_
  have HB := n8_
  clear n0_ n1_ n2_ n3_ n4_ n5_ n6_ n7_ n8_
  (try clear hb)
  (try clear hb2)
  (try clear hk)
  (try clear hi)
  (try clear ho0)
  refine hK.out _ _ ⟨(blk_cell BK272.out 0).trans rfl, (blk_cell BK272.out 1).trans rfl, (blk_cell BK272.out 2).trans rfl, (blk_cell BK248.out 0).trans rfl, (blk_cell BK248.out 1).trans rfl, (blk_cell BK248.out 2).trans rfl, (blk_cell BK248.out 3).trans rfl, (blk_cell BK248.out 4).trans rfl⟩ (fun hHeld => ?_)
  clear hK K
  refine norm_ (a' := ?_) ?_ ?_
  rotate_left
  ·show Act.put _ (some 35) _ = _
   simp only [Act.put, List.setIfInBounds_toArray, List.set_cons_zero, List.set_cons_succ, i64_w, i32_w]
   rfl
  refine zpu 4 (some 31) (zq 10 31) HT_ ?_
  refine zpu 5 (some 36) (zq 10 63) HT_ ?_
  refine zpu 6 (some 37) (zq 10 127) HT_ ?_
  refine one_ (i := 7) (N := some 9) (zq 10 255) rfl rfl (one_of HT_.out (by kernel_rfl)) (by decide) (fun K hK => ?_)
  refine box_step ?hg (N := 9) ?hd (cs := #[.int .i8 0, .int .i8 0, .slice none 0 0]) (t := 37) ?hr ?_; (case hd => rfl); (case hg => rfl); (case hr => first | (go_simp; done) | (go_simp; rfl))
  intro gb284 hg w68 hbox hb
  have n0_ := zr HO254 hb
  have n1_ := zr HO264 hb
  have n2_ := zr HO271 hb
  have n3_ := zr HO282 hb
  have n4_ := zk BK247 hb
  have n5_ := zk BK248 hb
  have n6_ := zk BK266 hb
  have n7_ := zk BK272 hb
  have n8_ := zbs hb
  have n9_ := Aside0.mk (hbox)
  have n10_ := zg HB hg
  have n11_ := zg HB hg
  have n12_ := zn1 BK247 hg
  have n13_ := zn2 BK247 hg
  have n14_ := zn1 BK248 hg
  have n15_ := zn2 BK248 hg
  have n16_ := zn1 BK266 hg
  have n17_ := zn2 BK266 hg
  have n18_ := zn1 BK272 hg
  have n19_ := zn2 BK272 hg
  clear HO254
  clear HO264
  clear HO271
  clear HO282
  clear BK247
  clear BK248
  clear BK266
  clear BK272
  clear HB
  have HO254 := n0_
  have HO264 := n1_
  have HO271 := n2_
  have HO282 := n3_
  have BK247 := n4_
  have BK248 := n5_
  have BK266 := n6_
  have BK272 := n7_
  have HB := n8_
  have BK284 := n9_
  have GW284 := n10_
  have GE284 := n11_
  have NB247_284 := n12_
  have NB284_247 := n13_
  have NB248_284 := n14_
  have NB284_248 := n15_
  have NB266_284 := n16_
  have NB284_266 := n17_
  have NB272_284 := n18_
  have NB284_272 := n19_
  clear n0_ n1_ n2_ n3_ n4_ n5_ n6_ n7_ n8_ n9_ n10_ n11_ n12_ n13_ n14_ n15_ n16_ n17_ n18_ n19_
  clear hb hbox hg
  refine hK.out _ _ ⟨(blk_cell BK272.out 0).trans rfl, (blk_cell BK272.out 1).trans rfl, (blk_cell BK272.out 2).trans rfl, (blk_cell BK248.out 0).trans rfl, (blk_cell BK248.out 1).trans rfl, (blk_cell BK248.out 2).trans rfl, (blk_cell BK248.out 3).trans rfl, (blk_cell BK248.out 4).trans rfl⟩ (fun hHeld => ?_)
  clear hK K
  refine norm_ (a' := ?_) ?_ ?_
  rotate_left
  ·show Act.put _ (some 9) _ = _
   simp only [Act.put, List.setIfInBounds_toArray, List.set_cons_zero, List.set_cons_succ, i64_w, i32_w]
   rfl
  exact norm_ (by simp only [putAll, Act.put, List.setIfInBounds_toArray, List.set_cons_zero, List.set_cons_succ]) (hCont (v281, gb284) _ ⟨hHeld, (by (with_reducible repeat (first | apply Kd.R_alloc | apply Kd.R_drewN | apply Kd.R_drew)); exact Kd.R_mono HO254.out (fun _ hk => ⟨hk.1.1, ⟨hk.1.2, hk.2⟩⟩)), (by (with_reducible repeat (first | apply Kd.R_alloc | apply Kd.R_drewN | apply Kd.R_drew)); exact Kd.R_mono HO264.out (fun _ hk => ⟨hk.1.1, ⟨hk.1.2, hk.2⟩⟩)), (by (with_reducible repeat (first | apply Kd.R_alloc | apply Kd.R_drewN | apply Kd.R_drew)); exact Kd.R_mono HO271.out (fun _ hk => ⟨hk.1.1, ⟨hk.1.2, hk.2⟩⟩)), (by (with_reducible repeat (first | apply Kd.R_alloc | apply Kd.R_drewN | apply Kd.R_drew)); exact Kd.R_mono HO282.out (fun _ hk => ⟨hk.1.1.2, ⟨hk.1.2, hk.2⟩⟩)), (zh BK247).out, (zh BK248).out, (zh BK266).out, (zh BK272).out, (zh BK284).out, GW284.out, GE284.out, NB247_284.out, NB284_247.out, NB248_284.out, NB284_248.out, NB266_284.out, NB284_266.out, NB272_284.out, NB284_272.out, (by repeat (first | (with_reducible first | exact HB.out | apply below_alloc | apply pw_below_drewN | apply below_drew1 | refine below_set ?_ GE247.out | refine below_set ?_ GE248.out | refine below_set ?_ GE266.out | refine below_set ?_ GE272.out | refine below_set ?_ GE284.out) | exact HB.out))⟩)
 rintro ⟨v281, gb284⟩ w69 ⟨hS_, h0_, h1_, h2_, h3_, h4_, h5_, h6_, h7_, h8_, h9_, h10_, h11_, h12_, h13_, h14_, h15_, h16_, h17_, h18_, h19_⟩
 have n0_ : Aside0 (Kd.R k91 91 w69 w.heap.size (fun k_ => some k_ ≠ (.slice Ao53 t262.length co53 : Value).ownBlock ∧ some k_ ≠ (.slice Ao63 t269.length co63 : Value).ownBlock ∧ some k_ ≠ (v281 : Value).ownBlock) v253 t252) := ⟨h0_⟩
 have n1_ : Aside0 (Kd.R k91 91 w69 w.heap.size (fun k_ => some k_ ≠ (v253 : Value).ownBlock ∧ some k_ ≠ (.slice Ao63 t269.length co63 : Value).ownBlock ∧ some k_ ≠ (v281 : Value).ownBlock) (.slice Ao53 t262.length co53) t262) := ⟨h1_⟩
 have n2_ : Aside0 (Kd.R k91 91 w69 w.heap.size (fun k_ => some k_ ≠ (v253 : Value).ownBlock ∧ some k_ ≠ (.slice Ao53 t262.length co53 : Value).ownBlock ∧ some k_ ≠ (v281 : Value).ownBlock) (.slice Ao63 t269.length co63) t269) := ⟨h2_⟩
 have n3_ : Aside0 (Kd.R k91 91 w69 w.heap.size (fun k_ => some k_ ≠ (v253 : Value).ownBlock ∧ some k_ ≠ (.slice Ao53 t262.length co53 : Value).ownBlock ∧ some k_ ≠ (.slice Ao63 t269.length co63 : Value).ownBlock) v281 t280) := ⟨h3_⟩
 have n4_ : Aside0 (w69.heap[gb247]? = some (.cells #[.int .i8 a0_0, .int .i8 a0_1, .slice A0_2 l0_2.length c0_2] 25 (0, 0))) := ⟨h4_⟩
 have n5_ : Aside0 (w69.heap[gb248]? = some (.cells #[.int .i8 a1_0, .int .i8 a1_1, .int .i8 a1_2, .int .i8 a1_3, .int .i8 a1_4] 88 (0, 0))) := ⟨h5_⟩
 have n6_ : Aside0 (w69.heap[gb266]? = some (.cells #[.int .i8 t260, .int .i8 t261, .slice Ao53 t262.length co53] 37 (0, 0))) := ⟨h6_⟩
 have n7_ : Aside0 (w69.heap[gb272]? = some (.cells #[.int .i8 t267, .int .i8 t268, .slice Ao63 t269.length co63] 37 (0, 0))) := ⟨h7_⟩
 have n8_ : Aside0 (w69.heap[gb284]? = some (.cells #[.int .i8 0, .int .i8 0, .slice none 0 0] 37 (0, 0))) := ⟨h8_⟩
 have n9_ : Aside0 (w.heap.size ≤ gb284) := ⟨h9_⟩
 have n10_ : Aside0 (w.heap.size ≤ gb284) := ⟨h10_⟩
 have n11_ : Aside0 (gb247 ≠ gb284) := ⟨h11_⟩
 have n12_ : Aside0 (gb284 ≠ gb247) := ⟨h12_⟩
 have n13_ : Aside0 (gb248 ≠ gb284) := ⟨h13_⟩
 have n14_ : Aside0 (gb284 ≠ gb248) := ⟨h14_⟩
 have n15_ : Aside0 (gb266 ≠ gb284) := ⟨h15_⟩
 have n16_ : Aside0 (gb284 ≠ gb266) := ⟨h16_⟩
 have n17_ : Aside0 (gb272 ≠ gb284) := ⟨h17_⟩
 have n18_ : Aside0 (gb284 ≠ gb272) := ⟨h18_⟩
 have n19_ : Aside0 (Below w.heap.size w w69) := ⟨h19_⟩
 clear HO254
 clear HO264
 clear HO271
 clear BK247
 clear BK248
 clear BK266
 clear BK272
 clear HB
 clear h0_ h1_ h2_ h3_ h4_ h5_ h6_ h7_ h8_ h9_ h10_ h11_ h12_ h13_ h14_ h15_ h16_ h17_ h18_ h19_
 have HO254 := n0_
 have HO264 := n1_
 have HO271 := n2_
 have HO282 := n3_
 have BK247 := n4_
 have BK248 := n5_
 have BK266 := n6_
 have BK272 := n7_
 have BK284 := n8_
 have GW284 := n9_
 have GE284 := n10_
 have NB247_284 := n11_
 have NB284_247 := n12_
 have NB248_284 := n13_
 have NB284_248 := n14_
 have NB266_284 := n15_
 have NB284_266 := n16_
 have NB272_284 := n17_
 have NB284_272 := n18_
 have HB := n19_
 clear n0_ n1_ n2_ n3_ n4_ n5_ n6_ n7_ n8_ n9_ n10_ n11_ n12_ n13_ n14_ n15_ n16_ n17_ n18_ n19_
 have hHeld : w69.cell? ⟨gb272, 0, none⟩ = some (.int .i8 t267) ∧ w69.cell? ⟨gb272, 1, none⟩ = some (.int .i8 t268) ∧ w69.cell? ⟨gb272, 2, none⟩ = some (.slice Ao63 t269.length co63) ∧ w69.cell? ⟨gb248, 0, none⟩ = some (.int .i8 a1_0) ∧ w69.cell? ⟨gb248, 1, none⟩ = some (.int .i8 a1_1) ∧ w69.cell? ⟨gb248, 2, none⟩ = some (.int .i8 a1_2) ∧ w69.cell? ⟨gb248, 3, none⟩ = some (.int .i8 a1_3) ∧ w69.cell? ⟨gb248, 4, none⟩ = some (.int .i8 a1_4) := hS_
 obtain ⟨Ao72, co72, eo72⟩ := Kd.R_slice HO282.out
 (first | subst eo72 | (injection eo72 with f1_ f2_ f3_; have f4_ := f1_.symm; have f5_ := f3_.symm; clear f1_ f2_ f3_; subst f4_; subst f5_))
 refine norm_ (a' := ?_) ?_ ?_
 rotate_left
 ·simp only [putAll, Act.put, List.setIfInBounds_toArray, List.set_cons_zero, List.set_cons_succ]
  rfl
 refine one_ (i := 8) (N := none) (zq 10 511) rfl rfl (one_of HT_.out (by kernel_rfl)) (by decide) (fun K hK => ?_)
 have hs70 : w69.cell? ⟨gb284, 0, none⟩ = some (.int .i8 0) := (blk_cell BK284.out 0).trans rfl
 have hfs70 := blk_frozen BK284.out 0
 have hns70_0 := NB247_284.out
 have hns70_1 := NB248_284.out
 have hns70_2 := NB266_284.out
 have hns70_3 := NB272_284.out
 have hms70_0 := NB284_247.out
 have hms70_1 := NB284_248.out
 have hms70_2 := NB284_266.out
 have hms70_3 := NB284_272.out
 have hs71 : w69.cell? ⟨gb284, 1, none⟩ = some (.int .i8 0) := (blk_cell BK284.out 1).trans rfl
 have hfs71 := blk_frozen BK284.out 1
 have hns71_0 := NB247_284.out
 have hns71_1 := NB248_284.out
 have hns71_2 := NB266_284.out
 have hns71_3 := NB272_284.out
 have hms71_0 := NB284_247.out
 have hms71_1 := NB284_248.out
 have hms71_2 := NB284_266.out
 have hms71_3 := NB284_272.out
 have hs73 : w69.cell? ⟨gb284, 2, none⟩ = some (.slice none 0 0) := (blk_cell BK284.out 2).trans rfl
 have hfs73 := blk_frozen BK284.out 2
 have hns73_0 := NB247_284.out
 have hns73_1 := NB248_284.out
 have hns73_2 := NB266_284.out
 have hns73_3 := NB272_284.out
 have hms73_0 := NB284_247.out
 have hms73_1 := NB284_248.out
 have hms73_2 := NB284_266.out
 have hms73_3 := NB284_272.out
 refine skip_ (w1 := ?_) (by rfl) rfl ?_ ?_
 rotate_left
 ·go_simp
  rfl
 refine hK.out _ _ ⟨((cell_far (p := ⟨gb284, _, none⟩) NB272_284.out _).trans (((cell_far (p := ⟨gb284, _, none⟩) NB272_284.out _).trans (((cell_far (p := ⟨gb284, _, none⟩) NB272_284.out _).trans (hHeld.1)))))), ((cell_far (p := ⟨gb284, _, none⟩) NB272_284.out _).trans (((cell_far (p := ⟨gb284, _, none⟩) NB272_284.out _).trans (((cell_far (p := ⟨gb284, _, none⟩) NB272_284.out _).trans (hHeld.2.1)))))), ((cell_far (p := ⟨gb284, _, none⟩) NB272_284.out _).trans (((cell_far (p := ⟨gb284, _, none⟩) NB272_284.out _).trans (((cell_far (p := ⟨gb284, _, none⟩) NB272_284.out _).trans (hHeld.2.2.1)))))), ((cell_far (p := ⟨gb284, _, none⟩) NB248_284.out _).trans (((cell_far (p := ⟨gb284, _, none⟩) NB248_284.out _).trans (((cell_far (p := ⟨gb284, _, none⟩) NB248_284.out _).trans (hHeld.2.2.2.1)))))), ((cell_far (p := ⟨gb284, _, none⟩) NB248_284.out _).trans (((cell_far (p := ⟨gb284, _, none⟩) NB248_284.out _).trans (((cell_far (p := ⟨gb284, _, none⟩) NB248_284.out _).trans (hHeld.2.2.2.2.1)))))), ((cell_far (p := ⟨gb284, _, none⟩) NB248_284.out _).trans (((cell_far (p := ⟨gb284, _, none⟩) NB248_284.out _).trans (((cell_far (p := ⟨gb284, _, none⟩) NB248_284.out _).trans (hHeld.2.2.2.2.2.1)))))), ((cell_far (p := ⟨gb284, _, none⟩) NB248_284.out _).trans (((cell_far (p := ⟨gb284, _, none⟩) NB248_284.out _).trans (((cell_far (p := ⟨gb284, _, none⟩) NB248_284.out _).trans (hHeld.2.2.2.2.2.2.1)))))), ((cell_far (p := ⟨gb284, _, none⟩) NB248_284.out _).trans (((cell_far (p := ⟨gb284, _, none⟩) NB248_284.out _).trans (((cell_far (p := ⟨gb284, _, none⟩) NB248_284.out _).trans (hHeld.2.2.2.2.2.2.2))))))⟩ (fun hHeld => ?_)
 clear hK K
 refine zpu 9 (some 10) (zq 10 1023) HT_ ?_
 refine done_ (done_of HT_.out (by kernel_rfl)) ?_
 have hnb74 := NB284_247.out
 have hnc74 := NB247_284.out
 have hnb75 := NB284_248.out
 have hnc75 := NB248_284.out
 have hnb76 := NB284_266.out
 have hnc76 := NB266_284.out
 have hnb77 := NB284_272.out
 have hnc77 := NB272_284.out
 obtain ⟨z78_0, z78_1, z78_2, y78_0, y78_1, y78_2⟩ := zB3 BK284
 have hnb79 := NB266_248.out
 have hnc79 := NB248_266.out
 obtain ⟨z80_0, z80_1, z80_2, y80_0, y80_1, y80_2⟩ := zB3 BK266
 try go_wp2_with (first | ((with_reducible refine gate_callee (f := 44) rfl ?_); refine goesL_ (some 40) rfl rfl Try.func44 (by kernel_rfl) rfl #[.agg #[.int .i8 t278, .int .i8 t279, .slice Ao72 t280.length co72], .agg #[.int .i8 t260, .int .i8 t261, .slice Ao53 t262.length co53]] rfl (by (try simp only [List.map_toArray, List.map_cons, List.map_nil]); first | done | rfl | (simp only [List.length_drop, List.length_take]; rfl)) ?_; (with_reducible refine (laws_eqBoard.calls k t278 t279 _ _ t280 t260 t261 _ _ t262 true _ ?side1 ?side2 ?side3 ?side4 A16.out).mono ?_); (case side1 => exact (Kd.R_reads' (zs HO282 BK284).out).2.2); (case side2 => exact (Kd.R_reads' HO282.out).2.1); (case side3 => exact (Kd.R_reads' (zs HO264 BK284).out).2.2); (case side4 => exact (Kd.R_reads' HO264.out).2.1); rintro e w81 ⟨rfl, hb⟩; refine ⟨_, rfl, ?_⟩; have n_ : _ ∧ _ ∧ _ ∧ _ ∧ _ ∧ _ ∧ _ ∧ _ ∧ _ ∧ _ := ⟨zsb HO254 BK284 hb, zsb HO264 BK284 hb, zsb HO271 BK284 hb, zsb HO282 BK284 hb, zfb BK247 NB247_284 hb, zfb BK248 NB248_284 hb, zfb BK266 NB266_284 hb, zfb BK272 NB272_284 hb, Aside0.mk (blk_below (g := gb284) (o := .cells #[.int .i8 t278, .int .i8 t279, .slice Ao72 t280.length co72] 37 (0, 0)) (by (with_reducible repeat (first | refine blk_drewN ?_ _ | refine blk_drew ?_ | refine blk_alloc ?_ _)); refine blk_put (cs := #[.int .i8 t278, .int .i8 t279, .slice none 0 0]) ?_ 2 _ rfl; (with_reducible repeat (first | refine blk_drewN ?_ _ | refine blk_drew ?_ | refine blk_alloc ?_ _)); refine blk_put (cs := #[.int .i8 t278, .int .i8 0, .slice none 0 0]) ?_ 1 _ rfl; (with_reducible repeat (first | refine blk_drewN ?_ _ | refine blk_drew ?_ | refine blk_alloc ?_ _)); refine blk_put (cs := #[.int .i8 0, .int .i8 0, .slice none 0 0]) ?_ 0 _ rfl; (with_reducible repeat (first | refine blk_drewN ?_ _ | refine blk_drew ?_ | refine blk_alloc ?_ _)); exact BK284.out) hb), zbs hb⟩; clear HO254 HO264 HO271 HO282 BK247 BK248 BK266 BK272 BK284 HB; obtain ⟨HO254, HO264, HO271, HO282, BK247, BK248, BK266, BK272, BK284, HB⟩ := n_; (try clear hb); (try clear hb2); (try clear hk); (try clear hi)))
 have n0_ := Aside0.mk (Kd.R_drew HO254.out)
 have n1_ := Aside0.mk (Kd.R_drew HO264.out)
 have n2_ := Aside0.mk (Kd.R_drew HO271.out)
 have n3_ := Aside0.mk (Kd.R_drew HO282.out)
 have n4_ := Aside0.mk (blk_drew BK247.out)
 have n5_ := Aside0.mk (blk_drew BK248.out)
 have n6_ := Aside0.mk (blk_drew BK266.out)
 have n7_ := Aside0.mk (blk_drew BK272.out)
 have n8_ := Aside0.mk (blk_drew BK284.out)
 have n9_ := Aside0.mk (below_drew1 HB.out)
 clear HO254
 clear HO264
 clear HO271
 clear HO282
 clear BK247
 clear BK248
 clear BK266
 clear BK272
 clear BK284
 clear HB
 have HO254 := n0_
 have HO264 := n1_
 have HO271 := n2_
 have HO282 := n3_
 have BK247 := n4_
 have BK248 := n5_
 have BK266 := n6_
 have BK272 := n7_
 have BK284 := n8_
 have HB := n9_
 clear n0_ n1_ n2_ n3_ n4_ n5_ n6_ n7_ n8_ n9_
 refine start_ (n := 5) (S := fun w' => w'.cell? ⟨gb272, 0, none⟩ = some (.int .i8 t267) ∧ w'.cell? ⟨gb272, 1, none⟩ = some (.int .i8 t268) ∧ w'.cell? ⟨gb272, 2, none⟩ = some (.slice Ao63 t269.length co63) ∧ w'.cell? ⟨gb247, 0, none⟩ = some (.int .i8 a0_0) ∧ w'.cell? ⟨gb247, 1, none⟩ = some (.int .i8 a0_1) ∧ w'.cell? ⟨gb247, 2, none⟩ = some (.slice A0_2 l0_2.length c0_2)) (ds := []) #[false, false, false, false, false] (by kernel_rfl) rfl rfl ⟨(blk_cell BK272.out 0).trans rfl, (blk_cell BK272.out 1).trans rfl, (blk_cell BK272.out 2).trans rfl, (blk_cell BK247.out 0).trans rfl, (blk_cell BK247.out 1).trans rfl, (blk_cell BK247.out 2).trans rfl⟩ (fun hHeld => ?_)
 generalize w81.drew = w82 at HO254 HO264 HO271 HO282 BK247 BK248 BK266 BK272 BK284 HB hHeld ⊢
 refine take_ (i := 0) (N := some 47) (v := ?_) (a' := ?_) #[true, false, false, false, false] rfl rfl (by kernel_rfl) (fun _ _ _ h => h) (Or.inl ⟨by rfl, ?_⟩) hHeld ?_ ?_
 rotate_left
 ·rintro w' ⟨s0, s1, s2, s3, s4, s5⟩
  go_simp
  with_reducible rfl
 rotate_left
 ·simp only [Act.put, List.setIfInBounds_toArray, List.set_cons_zero, List.set_cons_succ, i64_w, i32_w]
  rfl
 refine take_ (i := 1) (N := some 48) (v := ?_) (a' := ?_) #[true, true, false, false, false] rfl rfl (by kernel_rfl) (fun _ _ _ h => h) (Or.inl ⟨by rfl, ?_⟩) hHeld ?_ ?_
 rotate_left
 ·rintro w' ⟨s0, s1, s2, s3, s4, s5⟩
  go_simp
  with_reducible rfl
 rotate_left
 ·simp only [Act.put, List.setIfInBounds_toArray, List.set_cons_zero, List.set_cons_succ, i64_w, i32_w]
  rfl
 refine one_ (i := 2) (N := some 49) #[true, true, true, false, false] rfl rfl (by kernel_rfl) (by decide) (fun K hK => ?_)
 refine goes_ Try.func42 (by kernel_rfl) rfl #[.agg #[.int .i8 a0_0, .int .i8 a0_1, .slice A0_2 l0_2.length c0_2]] (by rfl) rfl rfl (by (try simp only [List.map_toArray, List.map_cons, List.map_nil]); first | done | rfl | (simp only [List.length_drop, List.length_take]; rfl)) ?_
 with_reducible refine (laws_toBoard.calls k a0_0 a0_1 _ _ l0_2 t286 t287 t288 _ ?side1 ?side2 A19.out).mono ?_
 (case side1 => exact zcc HB HR0_2.out)
 (case side2 => exact HC0_2.out)
 rintro e w83 ⟨v289, rfl, ho0, hb⟩
 refine ⟨_, rfl, ?_⟩
 have n0_ := Aside0.mk (Kd.R_elder' (ze HO254).out (Kd.R_base ho0) hb)
 have n1_ := Aside0.mk (Kd.R_elder' (ze HO264).out (Kd.R_base ho0) hb)
 have n2_ := Aside0.mk (Kd.R_elder' (ze HO271).out (Kd.R_base ho0) hb)
 have n3_ := Aside0.mk (Kd.R_elder' (ze HO282).out (Kd.R_base ho0) hb)
 have n4_ := Aside0.mk (Kd.R_lower (Kd.R_new' (Kd.R_new' (Kd.R_new' (Kd.R_new' ho0 (Kd.R_lt (ze HO254).out)) (Kd.R_lt (ze HO264).out)) (Kd.R_lt (ze HO271).out)) (Kd.R_lt (ze HO282).out)) (zz HB))
 have n5_ := zk BK247 hb
 have n6_ := zk BK248 hb
 have n7_ := zk BK266 hb
 have n8_ := zk BK272 hb
 have n9_ := zk BK284 hb
 have n10_ := zbs hb
 clear HO254
 clear HO264
 clear HO271
 clear HO282
 clear BK247
 clear BK248
 clear BK266
 clear BK272
 clear BK284
 clear HB
 have HO254 := n0_
 have HO264 := n1_
 have HO271 := n2_
 have HO282 := n3_
 have HO290 := n4_
 have BK247 := n5_
 have BK248 := n6_
 have BK266 := n7_
 have BK272 := n8_
 have BK284 := n9_
 have HB := n10_
 clear n0_ n1_ n2_ n3_ n4_ n5_ n6_ n7_ n8_ n9_ n10_
 (try clear hb)
 (try clear hb2)
 (try clear hk)
 (try clear hi)
 (try clear ho0)
 obtain ⟨Ao84, co84, eo84⟩ := Kd.R_slice HO290.out
 (first | subst eo84 | (injection eo84 with f1_ f2_ f3_; have f4_ := f1_.symm; have f5_ := f3_.symm; clear f1_ f2_ f3_; subst f4_; subst f5_))
 refine hK.out _ _ ⟨(blk_cell BK272.out 0).trans rfl, (blk_cell BK272.out 1).trans rfl, (blk_cell BK272.out 2).trans rfl, (blk_cell BK247.out 0).trans rfl, (blk_cell BK247.out 1).trans rfl, (blk_cell BK247.out 2).trans rfl⟩ (fun hHeld => ?_)
 clear hK K
 refine norm_ (a' := ?_) ?_ ?_
 rotate_left
 ·show Act.put _ (some 49) _ = _
  simp only [Act.put, List.setIfInBounds_toArray, List.set_cons_zero, List.set_cons_succ, i64_w, i32_w]
  rfl
 refine one_ (i := 3) (N := some 50) #[true, true, true, true, false] rfl rfl (by kernel_rfl) (by decide) (fun K hK => ?_)
 refine goes_ Try.func44 (by kernel_rfl) rfl #[.agg #[.int .i8 t267, .int .i8 t268, .slice Ao63 t269.length co63], .agg #[.int .i8 t286, .int .i8 t287, .slice Ao84 t288.length co84]] (by rfl) rfl rfl (by (try simp only [List.map_toArray, List.map_cons, List.map_nil]); first | done | rfl | (simp only [List.length_drop, List.length_take]; rfl)) ?_
 with_reducible refine (laws_eqBoard.calls k t267 t268 _ _ t269 t286 t287 _ _ t288 true _ ?side1 ?side2 ?side3 ?side4 A20.out).mono ?_
 (case side1 => exact zrc HO271)
 (case side2 => exact (Kd.R_reads' HO271.out).2.1)
 (case side3 => exact zrc HO290)
 (case side4 => exact (Kd.R_reads' HO290.out).2.1)
 rintro e w85 ⟨rfl, hb⟩
 refine ⟨_, rfl, ?_⟩
 have n0_ := zr HO254 hb
 have n1_ := zr HO264 hb
 have n2_ := zr HO271 hb
 have n3_ := zr HO282 hb
 have n4_ := zr HO290 hb
 have n5_ := zk BK247 hb
 have n6_ := zk BK248 hb
 have n7_ := zk BK266 hb
 have n8_ := zk BK272 hb
 have n9_ := zk BK284 hb
 have n10_ := zbs hb
 clear HO254
 clear HO264
 clear HO271
 clear HO282
 clear HO290
 clear BK247
 clear BK248
 clear BK266
 clear BK272
 clear BK284
 clear HB
 have HO254 := n0_
 have HO264 := n1_
 have HO271 := n2_
 have HO282 := n3_
 have HO290 := n4_
 have BK247 := n5_
 have BK248 := n6_
 have BK266 := n7_
 have BK272 := n8_
 have BK284 := n9_
 have HB := n10_
 clear n0_ n1_ n2_ n3_ n4_ n5_ n6_ n7_ n8_ n9_ n10_
 (try clear hb)
 (try clear hb2)
 (try clear hk)
 (try clear hi)
 refine hK.out _ _ ⟨(blk_cell BK272.out 0).trans rfl, (blk_cell BK272.out 1).trans rfl, (blk_cell BK272.out 2).trans rfl, (blk_cell BK247.out 0).trans rfl, (blk_cell BK247.out 1).trans rfl, (blk_cell BK247.out 2).trans rfl⟩ (fun hHeld => ?_)
 clear hK K
 refine norm_ (a' := ?_) ?_ ?_
 rotate_left
 ·show Act.put _ (some 50) _ = _
  simp only [Act.put, List.setIfInBounds_toArray, List.set_cons_zero, List.set_cons_succ, i64_w, i32_w]
  rfl
 refine pure_ (i := 4) (N := some 51) (v := ?_) (a' := ?_) #[true, true, true, true, true] rfl rfl (by kernel_rfl) (fun _ _ _ h => h) (Or.inl ⟨by rfl, ?_⟩) ?_ ?_
 rotate_left
 ·intro w'
  go_simp
  with_reducible rfl
 rotate_left
 ·simp only [Act.put, List.setIfInBounds_toArray, List.set_cons_zero, List.set_cons_succ, i64_w, i32_w]
  rfl
 refine done_ (by kernel_rfl) ?_
 obtain ⟨z86_0, z86_1, z86_2, y86_0, y86_1, y86_2⟩ := zB3 BK272
 try go_wp2_with (first | ((with_reducible refine gate_callee (f := 50) rfl ?_); refine goesL_ (some 54) rfl rfl Try.func50 (by kernel_rfl) rfl #[.agg #[.int .i8 t267, .int .i8 t268, .slice Ao63 t269.length co63], .int .i64 1] rfl (by (try simp only [List.map_toArray, List.map_cons, List.map_nil]); first | done | rfl | (simp only [List.length_drop, List.length_take]; rfl)) ?_; (with_reducible refine (laws_markBoard.calls k t267 t268 (fun k_ => some k_ = (.slice Ao63 t269.length co63 : Value).ownBlock) (.slice Ao63 t269.length co63) t269 1 t292 t293 w _ ?side1 ?side2 A22.out).mono ?_); (case side1 => exact zbo); (case side2 => exact Kd.R_tight rfl HO271.out); rintro e w87 ⟨rfl, hy0, hb, hkp⟩; refine ⟨_, rfl, ?_⟩; have n_ : _ ∧ _ ∧ _ ∧ _ ∧ _ ∧ _ ∧ _ ∧ _ ∧ _ ∧ _ ∧ _ := ⟨zkr BK247 hkp (fun hs_ => (fun e_ => (Kd.R_ne HO271.out BK247.out (by decide)) e_) hs_), zkr BK248 hkp (fun hs_ => (fun e_ => (Kd.R_ne HO271.out BK248.out (by decide)) e_) hs_), Aside0.mk (Kd.R_mono (ok' := fun k_ => some k_ ≠ (.slice Ao53 t262.length co53 : Value).ownBlock ∧ some k_ ≠ (.slice Ao63 t269.length co63 : Value).ownBlock ∧ some k_ ≠ (.slice Ao72 t280.length co72 : Value).ownBlock ∧ some k_ ≠ (.slice Ao84 t288.length co84 : Value).ownBlock) (Kd.R_keptB (HO254.out) hkp (fun k_ hk_ hs_ => (hk_.1.2.1) hs_)) (fun k_ hk_ => ⟨hk_.1.1.1, hk_.1.1.2.1, hk_.1.1.2.2, hk_.1.2⟩)), Aside0.mk (Kd.R_mono (ok' := fun k_ => some k_ ≠ (v253 : Value).ownBlock ∧ some k_ ≠ (.slice Ao63 t269.length co63 : Value).ownBlock ∧ some k_ ≠ (.slice Ao72 t280.length co72 : Value).ownBlock ∧ some k_ ≠ (.slice Ao84 t288.length co84 : Value).ownBlock) (Kd.R_keptB (HO264.out) hkp (fun k_ hk_ hs_ => (hk_.1.2.1) hs_)) (fun k_ hk_ => ⟨hk_.1.1.1, hk_.1.1.2.1, hk_.1.1.2.2, hk_.1.2⟩)), zkr BK266 hkp (fun hs_ => (fun e_ => (Kd.R_ne HO271.out BK266.out (by decide)) e_) hs_), Aside0.mk (Kd.R_reok rfl hy0 (fun k_ e_ => HO271.out.1 k_ e_)), zkr BK272 hkp (fun hs_ => (fun e_ => (Kd.R_ne HO271.out BK272.out (by decide)) e_) hs_), Aside0.mk (Kd.R_mono (ok' := fun k_ => some k_ ≠ (v253 : Value).ownBlock ∧ some k_ ≠ (.slice Ao53 t262.length co53 : Value).ownBlock ∧ some k_ ≠ (.slice Ao63 t269.length co63 : Value).ownBlock ∧ some k_ ≠ (.slice Ao84 t288.length co84 : Value).ownBlock) (Kd.R_keptB (HO282.out) hkp (fun k_ hk_ hs_ => (hk_.1.2.2) hs_)) (fun k_ hk_ => ⟨hk_.1.1.1, hk_.1.1.2.1, hk_.1.1.2.2, hk_.1.2⟩)), zkr BK284 hkp (fun hs_ => (fun e_ => (Kd.R_ne HO271.out BK284.out (by decide)) e_) hs_), Aside0.mk (Kd.R_mono (ok' := fun k_ => some k_ ≠ (v253 : Value).ownBlock ∧ some k_ ≠ (.slice Ao53 t262.length co53 : Value).ownBlock ∧ some k_ ≠ (.slice Ao63 t269.length co63 : Value).ownBlock ∧ some k_ ≠ (.slice Ao72 t280.length co72 : Value).ownBlock) (Kd.R_keptB (HO290.out) hkp (fun k_ hk_ hs_ => (hk_.1.2) hs_)) (fun k_ hk_ => ⟨hk_.1.1.1.1.2, hk_.1.1.1.2, hk_.1.1.2, hk_.1.2⟩)), Aside0.mk (hb)⟩; clear BK247 BK248 HO254 HO264 BK266 HO271 BK272 HO282 BK284 HO290 HB; obtain ⟨BK247, BK248, HO254, HO264, BK266, HO271, BK272, HO282, BK284, HO290, HB⟩ := n_; (try clear hb); (try clear hkp); (try clear hy0); obtain ⟨z88_0, z88_1, z88_2, y88_0, y88_1, y88_2⟩ := zB3 BK284; obtain ⟨z89_0, z89_1, z89_2, y89_0, y89_1, y89_2⟩ := zB3 BK266) | (go_at_call 44; (with_reducible refine (laws_eqBoard.calls k t278 t279 _ _ t280 t260 t261 _ _ t262 true _ ?side1 ?side2 ?side3 ?side4 A24.out).mono ?_); (case side1 => exact zrc HO282); (case side2 => exact (Kd.R_reads' HO282.out).2.1); (case side3 => exact zrc HO264); (case side4 => exact (Kd.R_reads' HO264.out).2.1); rintro e w90 ⟨rfl, hb⟩; have n_ : _ ∧ _ ∧ _ ∧ _ ∧ _ ∧ _ ∧ _ ∧ _ ∧ _ ∧ _ ∧ _ := ⟨zr HO254 hb, zr HO264 hb, zr HO271 hb, zr HO282 hb, zr HO290 hb, zk BK247 hb, zk BK248 hb, zk BK266 hb, zk BK272 hb, zk BK284 hb, zbs hb⟩; clear HO254 HO264 HO271 HO282 HO290 BK247 BK248 BK266 BK272 BK284 HB; obtain ⟨HO254, HO264, HO271, HO282, HO290, BK247, BK248, BK266, BK272, BK284, HB⟩ := n_; (try clear hb); (try clear hb2); (try clear hk); (try clear hi); obtain ⟨z91_0, z91_1, z91_2, y91_0, y91_1, y91_2⟩ := zB3 BK284) | ((with_reducible refine gate_callee (f := 50) rfl ?_); refine goesL_ (some 70) rfl rfl Try.func50 (by kernel_rfl) rfl #[.agg #[.int .i8 t278, .int .i8 t279, .slice Ao72 t280.length co72], .int .i64 1] rfl (by (try simp only [List.map_toArray, List.map_cons, List.map_nil]); first | done | rfl | (simp only [List.length_drop, List.length_take]; rfl)) ?_; (with_reducible refine (laws_markBoard.calls k t278 t279 (fun k_ => some k_ = (.slice Ao72 t280.length co72 : Value).ownBlock) (.slice Ao72 t280.length co72) t280 1 t295 t296 w _ ?side1 ?side2 A26.out).mono ?_); (case side1 => exact zbo); (case side2 => exact Kd.R_tight rfl HO282.out); rintro e w92 ⟨rfl, hy0, hb, hkp⟩; refine ⟨_, rfl, ?_⟩; have n_ : _ ∧ _ ∧ _ ∧ _ ∧ _ ∧ _ ∧ _ ∧ _ ∧ _ ∧ _ ∧ _ := ⟨zkr BK247 hkp (fun hs_ => (fun e_ => (Kd.R_ne HO282.out BK247.out (by decide)) e_) hs_), zkr BK248 hkp (fun hs_ => (fun e_ => (Kd.R_ne HO282.out BK248.out (by decide)) e_) hs_), Aside0.mk (Kd.R_mono (ok' := fun k_ => some k_ ≠ (.slice Ao53 t262.length co53 : Value).ownBlock ∧ some k_ ≠ (.slice Ao63 t269.length co63 : Value).ownBlock ∧ some k_ ≠ (.slice Ao72 t280.length co72 : Value).ownBlock ∧ some k_ ≠ (.slice Ao84 t288.length co84 : Value).ownBlock) (Kd.R_keptB (HO254.out) hkp (fun k_ hk_ hs_ => (hk_.2.2.1) hs_)) (fun k_ hk_ => ⟨hk_.1.1, hk_.1.2.1, hk_.1.2.2.1, hk_.1.2.2.2⟩)), Aside0.mk (Kd.R_mono (ok' := fun k_ => some k_ ≠ (v253 : Value).ownBlock ∧ some k_ ≠ (.slice Ao63 t269.length co63 : Value).ownBlock ∧ some k_ ≠ (.slice Ao72 t280.length co72 : Value).ownBlock ∧ some k_ ≠ (.slice Ao84 t288.length co84 : Value).ownBlock) (Kd.R_keptB (HO264.out) hkp (fun k_ hk_ hs_ => (hk_.2.2.1) hs_)) (fun k_ hk_ => ⟨hk_.1.1, hk_.1.2.1, hk_.1.2.2.1, hk_.1.2.2.2⟩)), zkr BK266 hkp (fun hs_ => (fun e_ => (Kd.R_ne HO282.out BK266.out (by decide)) e_) hs_), Aside0.mk (Kd.R_mono (ok' := fun k_ => some k_ ≠ (v253 : Value).ownBlock ∧ some k_ ≠ (.slice Ao53 t262.length co53 : Value).ownBlock ∧ some k_ ≠ (.slice Ao72 t280.length co72 : Value).ownBlock ∧ some k_ ≠ (.slice Ao84 t288.length co84 : Value).ownBlock) (Kd.R_keptB (HO271.out) hkp (fun k_ hk_ hs_ => (hk_.1.2.2) hs_)) (fun k_ hk_ => ⟨hk_.1.1.1, hk_.1.1.2.1, hk_.1.1.2.2, hk_.1.2⟩)), zkr BK272 hkp (fun hs_ => (fun e_ => (Kd.R_ne HO282.out BK272.out (by decide)) e_) hs_), Aside0.mk (Kd.R_reok rfl hy0 (fun k_ e_ => HO282.out.1 k_ e_)), zkr BK284 hkp (fun hs_ => (fun e_ => (Kd.R_ne HO282.out BK284.out (by decide)) e_) hs_), Aside0.mk (Kd.R_mono (ok' := fun k_ => some k_ ≠ (v253 : Value).ownBlock ∧ some k_ ≠ (.slice Ao53 t262.length co53 : Value).ownBlock ∧ some k_ ≠ (.slice Ao63 t269.length co63 : Value).ownBlock ∧ some k_ ≠ (.slice Ao72 t280.length co72 : Value).ownBlock) (Kd.R_keptB (HO290.out) hkp (fun k_ hk_ hs_ => (hk_.2.2.2) hs_)) (fun k_ hk_ => ⟨hk_.1.1, hk_.1.2.1, hk_.1.2.2.1, hk_.1.2.2.2⟩)), Aside0.mk (hb)⟩; clear BK247 BK248 HO254 HO264 BK266 HO271 BK272 HO282 BK284 HO290 HB; obtain ⟨BK247, BK248, HO254, HO264, BK266, HO271, BK272, HO282, BK284, HO290, HB⟩ := n_; (try clear hb); (try clear hkp); (try clear hy0); obtain ⟨z93_0, z93_1, z93_2, y93_0, y93_1, y93_2⟩ := zB3 BK284) | ((with_reducible refine gate_callee (f := 51) rfl ?_); refine goesL_ (some 73) rfl rfl Try.func51 (by kernel_rfl) rfl #[.agg #[.int .i8 t278, .int .i8 t279, .slice Ao72 t296.length co72], .int .i64 1] rfl (by (try simp only [List.map_toArray, List.map_cons, List.map_nil]); first | done | (rw [show t296.length = t280.length from (Kd.R_reads' HO282.out).1.symm] <;> rfl) | rfl | (simp only [List.length_drop, List.length_take]; rfl)) ?_; (with_reducible refine (laws_heldBoard.calls k t278 t279 _ _ t296 1 t297 _ ?side1 ?side2 A27.out).mono ?_); (case side1 => exact zrc HO282); (case side2 => rw [show t296.length = t280.length from (Kd.R_reads' HO282.out).1.symm]; exact (Kd.R_reads' HO282.out).2.1); rintro e w94 ⟨rfl, hb⟩; refine ⟨_, rfl, ?_⟩; have n_ : _ ∧ _ ∧ _ ∧ _ ∧ _ ∧ _ ∧ _ ∧ _ ∧ _ ∧ _ ∧ _ := ⟨zr HO254 hb, zr HO264 hb, zr HO271 hb, zr HO282 hb, zr HO290 hb, zk BK247 hb, zk BK248 hb, zk BK266 hb, zk BK272 hb, zk BK284 hb, zbs hb⟩; clear HO254 HO264 HO271 HO282 HO290 BK247 BK248 BK266 BK272 BK284 HB; obtain ⟨HO254, HO264, HO271, HO282, HO290, BK247, BK248, BK266, BK272, BK284, HB⟩ := n_; (try clear hb); (try clear hb2); (try clear hk); (try clear hi)))
 have n0_ := Aside0.mk (Kd.R_drew HO254.out)
 have n1_ := Aside0.mk (Kd.R_drew HO264.out)
 have n2_ := Aside0.mk (Kd.R_drew HO271.out)
 have n3_ := Aside0.mk (Kd.R_drew HO282.out)
 have n4_ := Aside0.mk (Kd.R_drew HO290.out)
 have n5_ := Aside0.mk (blk_drew BK247.out)
 have n6_ := Aside0.mk (blk_drew BK248.out)
 have n7_ := Aside0.mk (blk_drew BK266.out)
 have n8_ := Aside0.mk (blk_drew BK272.out)
 have n9_ := Aside0.mk (blk_drew BK284.out)
 have n10_ := Aside0.mk (below_drew1 HB.out)
 clear HO254
 clear HO264
 clear HO271
 clear HO282
 clear HO290
 clear BK247
 clear BK248
 clear BK266
 clear BK272
 clear BK284
 clear HB
 have HO254 := n0_
 have HO264 := n1_
 have HO271 := n2_
 have HO282 := n3_
 have HO290 := n4_
 have BK247 := n5_
 have BK248 := n6_
 have BK266 := n7_
 have BK272 := n8_
 have BK284 := n9_
 have HB := n10_
 clear n0_ n1_ n2_ n3_ n4_ n5_ n6_ n7_ n8_ n9_ n10_
 refine start_ (n := 11) (S := fun w' => w'.cell? ⟨gb247, 0, none⟩ = some (.int .i8 a0_0) ∧ w'.cell? ⟨gb247, 1, none⟩ = some (.int .i8 a0_1) ∧ w'.cell? ⟨gb247, 2, none⟩ = some (.slice A0_2 l0_2.length c0_2) ∧ w'.cell? ⟨gb248, 0, none⟩ = some (.int .i8 a1_0) ∧ w'.cell? ⟨gb248, 1, none⟩ = some (.int .i8 a1_1) ∧ w'.cell? ⟨gb248, 2, none⟩ = some (.int .i8 a1_2) ∧ w'.cell? ⟨gb248, 3, none⟩ = some (.int .i8 a1_3) ∧ w'.cell? ⟨gb248, 4, none⟩ = some (.int .i8 a1_4)) (ds := []) (zq 11 0) (by kernel_rfl) rfl rfl ⟨(blk_cell BK247.out 0).trans rfl, (blk_cell BK247.out 1).trans rfl, (blk_cell BK247.out 2).trans rfl, (blk_cell BK248.out 0).trans rfl, (blk_cell BK248.out 1).trans rfl, (blk_cell BK248.out 2).trans rfl, (blk_cell BK248.out 3).trans rfl, (blk_cell BK248.out 4).trans rfl⟩ (fun hHeld => ?_); refine with_tabW laws_FnExactPutPiece.tab24 laws_FnExactPutPiece.bits24 (fun HT_ HW_ => ?_)
 generalize w94.drew = w95 at HO254 HO264 HO271 HO282 HO290 BK247 BK248 BK266 BK272 BK284 HB hHeld ⊢
 refine ztk 0 (some 80) (zq 11 1) HT_ HW_ rfl hHeld (Or.inl ⟨by rfl, by (rintro w' ⟨s0, s1, s2, s3, s4, s5, s6, s7⟩; go_simp; with_reducible rfl)⟩) ?_
 refine ztk 2 (some 82) (zq 11 5) HT_ HW_ rfl hHeld (Or.inl ⟨by rfl, by (rintro w' ⟨s0, s1, s2, s3, s4, s5, s6, s7⟩; go_simp; with_reducible rfl)⟩) ?_
 refine join_ (σ := Value × Value × Nat) 2 (zq 11 511) (fun s_ => [(81, .agg #[.int .i8 t298, .int .i8 t299, s_.1]), (83, .agg #[.int .i8 t303, .int .i8 t304, .int .i8 t305, .int .i8 t306, .int .i8 t307]), (84, .tuple #[.agg #[.int .i8 t308, .int .i8 t309, s_.2.1], .int .i64 t313]), (14, .pointer (some ⟨s_.2.2, 0, none⟩)), (79, .tuple #[.agg #[.int .i8 t308, .int .i8 t309, s_.2.1], .int .i64 t313]), (85, .agg #[.int .i8 t308, .int .i8 t309, s_.2.1]), (86, .int .i64 t313)]) (fun s_ w' => (w'.cell? ⟨gb247, 0, none⟩ = some (.int .i8 a0_0) ∧ w'.cell? ⟨gb247, 1, none⟩ = some (.int .i8 a0_1) ∧ w'.cell? ⟨gb247, 2, none⟩ = some (.slice A0_2 l0_2.length c0_2) ∧ w'.cell? ⟨gb248, 0, none⟩ = some (.int .i8 a1_0) ∧ w'.cell? ⟨gb248, 1, none⟩ = some (.int .i8 a1_1) ∧ w'.cell? ⟨gb248, 2, none⟩ = some (.int .i8 a1_2) ∧ w'.cell? ⟨gb248, 3, none⟩ = some (.int .i8 a1_3) ∧ w'.cell? ⟨gb248, 4, none⟩ = some (.int .i8 a1_4)) ∧ (Kd.R k91 91 w' w.heap.size (fun k_ => some k_ ≠ (.slice Ao53 t262.length co53 : Value).ownBlock ∧ some k_ ≠ (.slice Ao63 t269.length co63 : Value).ownBlock ∧ some k_ ≠ (.slice Ao72 t280.length co72 : Value).ownBlock ∧ some k_ ≠ (.slice Ao84 t288.length co84 : Value).ownBlock ∧ some k_ ≠ (s_.1 : Value).ownBlock ∧ some k_ ≠ (s_.2.1 : Value).ownBlock) v253 t252) ∧ (Kd.R k91 91 w' w.heap.size (fun k_ => some k_ ≠ (v253 : Value).ownBlock ∧ some k_ ≠ (.slice Ao63 t269.length co63 : Value).ownBlock ∧ some k_ ≠ (.slice Ao72 t280.length co72 : Value).ownBlock ∧ some k_ ≠ (.slice Ao84 t288.length co84 : Value).ownBlock ∧ some k_ ≠ (s_.1 : Value).ownBlock ∧ some k_ ≠ (s_.2.1 : Value).ownBlock) (.slice Ao53 t262.length co53) t262) ∧ (Kd.R k91 91 w' w.heap.size (fun k_ => some k_ ≠ (v253 : Value).ownBlock ∧ some k_ ≠ (.slice Ao53 t262.length co53 : Value).ownBlock ∧ some k_ ≠ (.slice Ao72 t280.length co72 : Value).ownBlock ∧ some k_ ≠ (.slice Ao84 t288.length co84 : Value).ownBlock ∧ some k_ ≠ (s_.1 : Value).ownBlock ∧ some k_ ≠ (s_.2.1 : Value).ownBlock) (.slice Ao63 t269.length co63) t293) ∧ (Kd.R k91 91 w' w.heap.size (fun k_ => some k_ ≠ (v253 : Value).ownBlock ∧ some k_ ≠ (.slice Ao53 t262.length co53 : Value).ownBlock ∧ some k_ ≠ (.slice Ao63 t269.length co63 : Value).ownBlock ∧ some k_ ≠ (.slice Ao84 t288.length co84 : Value).ownBlock ∧ some k_ ≠ (s_.1 : Value).ownBlock ∧ some k_ ≠ (s_.2.1 : Value).ownBlock) (.slice Ao72 t280.length co72) t296) ∧ (Kd.R k91 91 w' w.heap.size (fun k_ => some k_ ≠ (v253 : Value).ownBlock ∧ some k_ ≠ (.slice Ao53 t262.length co53 : Value).ownBlock ∧ some k_ ≠ (.slice Ao63 t269.length co63 : Value).ownBlock ∧ some k_ ≠ (.slice Ao72 t280.length co72 : Value).ownBlock ∧ some k_ ≠ (s_.1 : Value).ownBlock ∧ some k_ ≠ (s_.2.1 : Value).ownBlock) (.slice Ao84 t288.length co84) t288) ∧ (Kd.R k91 91 w' w.heap.size (fun k_ => some k_ ≠ (v253 : Value).ownBlock ∧ some k_ ≠ (.slice Ao53 t262.length co53 : Value).ownBlock ∧ some k_ ≠ (.slice Ao63 t269.length co63 : Value).ownBlock ∧ some k_ ≠ (.slice Ao72 t280.length co72 : Value).ownBlock ∧ some k_ ≠ (.slice Ao84 t288.length co84 : Value).ownBlock ∧ some k_ ≠ (s_.2.1 : Value).ownBlock) s_.1 t300) ∧ (Kd.R k91 91 w' w.heap.size (fun k_ => some k_ ≠ (v253 : Value).ownBlock ∧ some k_ ≠ (.slice Ao53 t262.length co53 : Value).ownBlock ∧ some k_ ≠ (.slice Ao63 t269.length co63 : Value).ownBlock ∧ some k_ ≠ (.slice Ao72 t280.length co72 : Value).ownBlock ∧ some k_ ≠ (.slice Ao84 t288.length co84 : Value).ownBlock ∧ some k_ ≠ (s_.1 : Value).ownBlock) s_.2.1 t310) ∧ (w'.heap[gb247]? = some (.cells #[.int .i8 a0_0, .int .i8 a0_1, .slice A0_2 l0_2.length c0_2] 25 (0, 0))) ∧ (w'.heap[gb248]? = some (.cells #[.int .i8 a1_0, .int .i8 a1_1, .int .i8 a1_2, .int .i8 a1_3, .int .i8 a1_4] 88 (0, 0))) ∧ (w'.heap[gb266]? = some (.cells #[.int .i8 t260, .int .i8 t261, .slice Ao53 t262.length co53] 37 (0, 0))) ∧ (w'.heap[gb272]? = some (.cells #[.int .i8 t267, .int .i8 t268, .slice Ao63 t269.length co63] 37 (0, 0))) ∧ (w'.heap[gb284]? = some (.cells #[.int .i8 t278, .int .i8 t279, .slice Ao72 t280.length co72] 37 (0, 0))) ∧ (w'.heap[s_.2.2]? = some (.cells #[.int .i8 0, .int .i8 0, .slice none 0 0] 37 (0, 0))) ∧ (w.heap.size ≤ s_.2.2) ∧ (w.heap.size ≤ s_.2.2) ∧ (gb247 ≠ s_.2.2) ∧ (s_.2.2 ≠ gb247) ∧ (gb248 ≠ s_.2.2) ∧ (s_.2.2 ≠ gb248) ∧ (gb266 ≠ s_.2.2) ∧ (s_.2.2 ≠ gb266) ∧ (gb272 ≠ s_.2.2) ∧ (s_.2.2 ≠ gb272) ∧ (gb284 ≠ s_.2.2) ∧ (s_.2.2 ≠ gb284) ∧ (Below w.heap.size w w')) ?_ ?_
 rotate_left
 ·intro hCont
  refine two_ (i := 1) (j := 8) (Ni := some 81) (Nj := some 14) (zq 11 7) (zq 11 261) rfl rfl rfl rfl (two_of HT_.out (by kernel_rfl)) (by decide) (by decide) (fun K hK => ?_) (fun K hK => ?_)
  rotate_left
  ·skip
   refine box_step ?hg (N := 14) ?hd (cs := #[.int .i8 0, .int .i8 0, .slice none 0 0]) (t := 37) ?hr ?_; (case hd => rfl); (case hg => rfl); (case hr => first | (go_simp; done) | (go_simp; rfl))
   intro gb314 hg w96 hbox hb
   have n0_ := zr HO254 hb
   have n1_ := zr HO264 hb
   have n2_ := zr HO271 hb
   have n3_ := zr HO282 hb
   have n4_ := zr HO290 hb
   have n5_ := zk BK247 hb
   have n6_ := zk BK248 hb
   have n7_ := zk BK266 hb
   have n8_ := zk BK272 hb
   have n9_ := zk BK284 hb
   have n10_ := zbs hb
   have n11_ := Aside0.mk (hbox)
   have n12_ := zg HB hg
   have n13_ := zg HB hg
   have n14_ := zn1 BK247 hg
   have n15_ := zn2 BK247 hg
   have n16_ := zn1 BK248 hg
   have n17_ := zn2 BK248 hg
   have n18_ := zn1 BK266 hg
   have n19_ := zn2 BK266 hg
   have n20_ := zn1 BK272 hg
   have n21_ := zn2 BK272 hg
   have n22_ := zn1 BK284 hg
   have n23_ := zn2 BK284 hg
   clear HO254
   clear HO264
   clear HO271
   clear HO282
   clear HO290
   clear BK247
   clear BK248
   clear BK266
   clear BK272
   clear BK284
   clear HB
   have HO254 := n0_
   have HO264 := n1_
   have HO271 := n2_
   have HO282 := n3_
   have HO290 := n4_
   have BK247 := n5_
   have BK248 := n6_
   have BK266 := n7_
   have BK272 := n8_
   have BK284 := n9_
   have HB := n10_
   have BK314 := n11_
   have GW314 := n12_
   have GE314 := n13_
   have NB247_314 := n14_
   have NB314_247 := n15_
   have NB248_314 := n16_
   have NB314_248 := n17_
   have NB266_314 := n18_
   have NB314_266 := n19_
   have NB272_314 := n20_
   have NB314_272 := n21_
   have NB284_314 := n22_
   have NB314_284 := n23_
   clear n0_ n1_ n2_ n3_ n4_ n5_ n6_ n7_ n8_ n9_ n10_ n11_ n12_ n13_ n14_ n15_ n16_ n17_ n18_ n19_ n20_ n21_ n22_ n23_
   clear hb hbox hg
   refine hK.out _ _ ⟨(blk_cell BK247.out 0).trans rfl, (blk_cell BK247.out 1).trans rfl, (blk_cell BK247.out 2).trans rfl, (blk_cell BK248.out 0).trans rfl, (blk_cell BK248.out 1).trans rfl, (blk_cell BK248.out 2).trans rfl, (blk_cell BK248.out 3).trans rfl, (blk_cell BK248.out 4).trans rfl⟩ (fun hHeld => ?_)
   clear hK K
   refine norm_ (a' := ?_) ?_ ?_
   rotate_left
   ·show Act.put _ (some 14) _ = _
    simp only [Act.put, List.setIfInBounds_toArray, List.set_cons_zero, List.set_cons_succ, i64_w, i32_w]
    rfl
   refine one_ (i := 1) (N := some 81) (zq 11 263) rfl rfl (one_of HT_.out (by kernel_rfl)) (by decide) (fun K hK => ?_)
   refine goes_ Try.func42 (by kernel_rfl) rfl #[.agg #[.int .i8 a0_0, .int .i8 a0_1, .slice A0_2 l0_2.length c0_2]] (by rfl) rfl rfl (by (try simp only [List.map_toArray, List.map_cons, List.map_nil]); first | done | rfl | (simp only [List.length_drop, List.length_take]; rfl)) ?_
   with_reducible refine (laws_toBoard.calls k a0_0 a0_1 _ _ l0_2 t298 t299 t300 _ ?side1 ?side2 A30.out).mono ?_
   (case side1 => exact zcc HB HR0_2.out)
   (case side2 => exact HC0_2.out)
   rintro e w97 ⟨v301, rfl, ho0, hb⟩
   refine ⟨_, rfl, ?_⟩
   have n0_ := Aside0.mk (Kd.R_elder' (ze HO254).out (Kd.R_base ho0) hb)
   have n1_ := Aside0.mk (Kd.R_elder' (ze HO264).out (Kd.R_base ho0) hb)
   have n2_ := Aside0.mk (Kd.R_elder' (ze HO271).out (Kd.R_base ho0) hb)
   have n3_ := Aside0.mk (Kd.R_elder' (ze HO282).out (Kd.R_base ho0) hb)
   have n4_ := Aside0.mk (Kd.R_elder' (ze HO290).out (Kd.R_base ho0) hb)
   have n5_ := Aside0.mk (Kd.R_lower (Kd.R_new' (Kd.R_new' (Kd.R_new' (Kd.R_new' (Kd.R_new' ho0 (Kd.R_lt (ze HO254).out)) (Kd.R_lt (ze HO264).out)) (Kd.R_lt (ze HO271).out)) (Kd.R_lt (ze HO282).out)) (Kd.R_lt (ze HO290).out)) (zz HB))
   have n6_ := zk BK247 hb
   have n7_ := zk BK248 hb
   have n8_ := zk BK266 hb
   have n9_ := zk BK272 hb
   have n10_ := zk BK284 hb
   have n11_ := zk BK314 hb
   have n12_ := zbs hb
   clear HO254
   clear HO264
   clear HO271
   clear HO282
   clear HO290
   clear BK247
   clear BK248
   clear BK266
   clear BK272
   clear BK284
   clear BK314
   clear HB
   have HO254 := n0_
   have HO264 := n1_
   have HO271 := n2_
   have HO282 := n3_
   have HO290 := n4_
   have HO302 := n5_
   have BK247 := n6_
   have BK248 := n7_
   have BK266 := n8_
   have BK272 := n9_
   have BK284 := n10_
   have BK314 := n11_
   have HB := n12_
   clear n0_ n1_ n2_ n3_ n4_ n5_ n6_ n7_ n8_ n9_ n10_ n11_ n12_
   (try clear hb)
   (try clear hb2)
   (try clear hk)
   (try clear hi)
   (try clear ho0)
   refine hK.out _ _ ⟨(blk_cell BK247.out 0).trans rfl, (blk_cell BK247.out 1).trans rfl, (blk_cell BK247.out 2).trans rfl, (blk_cell BK248.out 0).trans rfl, (blk_cell BK248.out 1).trans rfl, (blk_cell BK248.out 2).trans rfl, (blk_cell BK248.out 3).trans rfl, (blk_cell BK248.out 4).trans rfl⟩ (fun hHeld => ?_)
   clear hK K
   refine norm_ (a' := ?_) ?_ ?_
   rotate_left
   ·show Act.put _ (some 81) _ = _
    simp only [Act.put, List.setIfInBounds_toArray, List.set_cons_zero, List.set_cons_succ, i64_w, i32_w]
    rfl
   refine one_ (i := 3) (N := some 83) (zq 11 271) rfl rfl (one_of HT_.out (by kernel_rfl)) (by decide) (fun K hK => ?_)
   refine goes_ Try.func65 (by kernel_rfl) rfl #[.agg #[.int .i8 a1_0, .int .i8 a1_1, .int .i8 a1_2, .int .i8 a1_3, .int .i8 a1_4]] (by rfl) rfl rfl (by (try simp only [List.map_toArray, List.map_cons, List.map_nil]); first | done | rfl | (simp only [List.length_drop, List.length_take]; rfl)) ?_
   with_reducible refine (laws_toPiece.calls k a1_0 a1_1 a1_2 a1_3 a1_4 t303 t304 t305 t306 t307 _ A31.out).mono ?_
   rintro e w98 ⟨rfl, hb⟩
   refine ⟨_, rfl, ?_⟩
   have n0_ := zr HO254 hb
   have n1_ := zr HO264 hb
   have n2_ := zr HO271 hb
   have n3_ := zr HO282 hb
   have n4_ := zr HO290 hb
   have n5_ := zr HO302 hb
   have n6_ := zk BK247 hb
   have n7_ := zk BK248 hb
   have n8_ := zk BK266 hb
   have n9_ := zk BK272 hb
   have n10_ := zk BK284 hb
   have n11_ := zk BK314 hb
   have n12_ := zbs hb
   clear HO254
   clear HO264
   clear HO271
   clear HO282
   clear HO290
   clear HO302
   clear BK247
   clear BK248
   clear BK266
   clear BK272
   clear BK284
   clear BK314
   clear HB
   have HO254 := n0_
   have HO264 := n1_
   have HO271 := n2_
   have HO282 := n3_
   have HO290 := n4_
   have HO302 := n5_
   have BK247 := n6_
   have BK248 := n7_
   have BK266 := n8_
   have BK272 := n9_
   have BK284 := n10_
   have BK314 := n11_
   have HB := n12_
   clear n0_ n1_ n2_ n3_ n4_ n5_ n6_ n7_ n8_ n9_ n10_ n11_ n12_
   (try clear hb)
   (try clear hb2)
   (try clear hk)
   (try clear hi)
   obtain ⟨Ao99, co99, eo99⟩ := Kd.R_slice HO302.out
   (first | subst eo99 | (injection eo99 with f1_ f2_ f3_; have f4_ := f1_.symm; have f5_ := f3_.symm; clear f1_ f2_ f3_; subst f4_; subst f5_))
   refine hK.out _ _ ⟨(blk_cell BK247.out 0).trans rfl, (blk_cell BK247.out 1).trans rfl, (blk_cell BK247.out 2).trans rfl, (blk_cell BK248.out 0).trans rfl, (blk_cell BK248.out 1).trans rfl, (blk_cell BK248.out 2).trans rfl, (blk_cell BK248.out 3).trans rfl, (blk_cell BK248.out 4).trans rfl⟩ (fun hHeld => ?_)
   clear hK K
   refine norm_ (a' := ?_) ?_ ?_
   rotate_left
   ·show Act.put _ (some 83) _ = _
    simp only [Act.put, List.setIfInBounds_toArray, List.set_cons_zero, List.set_cons_succ, i64_w, i32_w]
    rfl
   refine one_ (i := 4) (N := some 84) (zq 11 287) rfl rfl (one_of HT_.out (by kernel_rfl)) (by decide) (fun K hK => ?_)
   refine goes_ Try.func66 (by kernel_rfl) rfl #[.agg #[.int .i8 t298, .int .i8 t299, .slice Ao99 t300.length co99], .agg #[.int .i8 t303, .int .i8 t304, .int .i8 t305, .int .i8 t306, .int .i8 t307]] (by rfl) rfl rfl (by (try simp only [List.map_toArray, List.map_cons, List.map_nil]); first | done | rfl | (simp only [List.length_drop, List.length_take]; rfl)) ?_
   with_reducible refine (impl_PutPiece.calls k t298 t299 _ _ t300 t303 t304 t305 t306 t307 t308 t309 t310 t313 _ ?side1 ?side2 A32.out).mono ?_
   (case side1 => exact zrc HO302)
   (case side2 => exact (Kd.R_reads' HO302.out).2.1)
   rintro e w100 ⟨v311, rfl, ho0, hb⟩
   refine ⟨_, rfl, ?_⟩
   have n0_ := Aside0.mk (Kd.R_elder' (ze HO254).out (Kd.R_base ho0) hb)
   have n1_ := Aside0.mk (Kd.R_elder' (ze HO264).out (Kd.R_base ho0) hb)
   have n2_ := Aside0.mk (Kd.R_elder' (ze HO271).out (Kd.R_base ho0) hb)
   have n3_ := Aside0.mk (Kd.R_elder' (ze HO282).out (Kd.R_base ho0) hb)
   have n4_ := Aside0.mk (Kd.R_elder' (ze HO290).out (Kd.R_base ho0) hb)
   have n5_ := Aside0.mk (Kd.R_elder' (ze HO302).out (Kd.R_base ho0) hb)
   have n6_ := Aside0.mk (Kd.R_lower (Kd.R_new' (Kd.R_new' (Kd.R_new' (Kd.R_new' (Kd.R_new' (Kd.R_new' ho0 (Kd.R_lt (ze HO254).out)) (Kd.R_lt (ze HO264).out)) (Kd.R_lt (ze HO271).out)) (Kd.R_lt (ze HO282).out)) (Kd.R_lt (ze HO290).out)) (Kd.R_lt (ze HO302).out)) (zz HB))
   have n7_ := zk BK247 hb
   have n8_ := zk BK248 hb
   have n9_ := zk BK266 hb
   have n10_ := zk BK272 hb
   have n11_ := zk BK284 hb
   have n12_ := zk BK314 hb
   have n13_ := zbs hb
   clear HO254
   clear HO264
   clear HO271
   clear HO282
   clear HO290
   clear HO302
   clear BK247
   clear BK248
   clear BK266
   clear BK272
   clear BK284
   clear BK314
   clear HB
   have HO254 := n0_
   have HO264 := n1_
   have HO271 := n2_
   have HO282 := n3_
   have HO290 := n4_
   have HO302 := n5_
   have HO312 := n6_
   have BK247 := n7_
   have BK248 := n8_
   have BK266 := n9_
   have BK272 := n10_
   have BK284 := n11_
   have BK314 := n12_
   have HB := n13_
   clear n0_ n1_ n2_ n3_ n4_ n5_ n6_ n7_ n8_ n9_ n10_ n11_ n12_ n13_
   (try clear hb)
   (try clear hb2)
   (try clear hk)
   (try clear hi)
   (try clear ho0)
   refine hK.out _ _ ⟨(blk_cell BK247.out 0).trans rfl, (blk_cell BK247.out 1).trans rfl, (blk_cell BK247.out 2).trans rfl, (blk_cell BK248.out 0).trans rfl, (blk_cell BK248.out 1).trans rfl, (blk_cell BK248.out 2).trans rfl, (blk_cell BK248.out 3).trans rfl, (blk_cell BK248.out 4).trans rfl⟩ (fun hHeld => ?_)
   clear hK K
   refine norm_ (a' := ?_) ?_ ?_
   rotate_left
   ·show Act.put _ (some 84) _ = _
    simp only [Act.put, List.setIfInBounds_toArray, List.set_cons_zero, List.set_cons_succ, i64_w, i32_w]
    rfl
   refine zpu 5 (some 79) (zq 11 319) HT_ ?_
   refine zpu 6 (some 85) (zq 11 383) HT_ ?_
   refine zpu 7 (some 86) (zq 11 511) HT_ ?_
   exact norm_ (by simp only [putAll, Act.put, List.setIfInBounds_toArray, List.set_cons_zero, List.set_cons_succ]) (hCont (.slice Ao99 t300.length co99, v311, gb314) _ ⟨hHeld, (by (with_reducible repeat (first | apply Kd.R_alloc | apply Kd.R_drewN | apply Kd.R_drew)); exact Kd.R_mono HO254.out (fun _ hk => ⟨hk.1.1.1, ⟨hk.1.1.2.1, ⟨hk.1.1.2.2.1, ⟨hk.1.1.2.2.2, ⟨hk.1.2, hk.2⟩⟩⟩⟩⟩)), (by (with_reducible repeat (first | apply Kd.R_alloc | apply Kd.R_drewN | apply Kd.R_drew)); exact Kd.R_mono HO264.out (fun _ hk => ⟨hk.1.1.1, ⟨hk.1.1.2.1, ⟨hk.1.1.2.2.1, ⟨hk.1.1.2.2.2, ⟨hk.1.2, hk.2⟩⟩⟩⟩⟩)), (by (with_reducible repeat (first | apply Kd.R_alloc | apply Kd.R_drewN | apply Kd.R_drew)); exact Kd.R_mono HO271.out (fun _ hk => ⟨hk.1.1.1, ⟨hk.1.1.2.1, ⟨hk.1.1.2.2.1, ⟨hk.1.1.2.2.2, ⟨hk.1.2, hk.2⟩⟩⟩⟩⟩)), (by (with_reducible repeat (first | apply Kd.R_alloc | apply Kd.R_drewN | apply Kd.R_drew)); exact Kd.R_mono HO282.out (fun _ hk => ⟨hk.1.1.1, ⟨hk.1.1.2.1, ⟨hk.1.1.2.2.1, ⟨hk.1.1.2.2.2, ⟨hk.1.2, hk.2⟩⟩⟩⟩⟩)), (by (with_reducible repeat (first | apply Kd.R_alloc | apply Kd.R_drewN | apply Kd.R_drew)); exact Kd.R_mono HO290.out (fun _ hk => ⟨hk.1.1.1, ⟨hk.1.1.2.1, ⟨hk.1.1.2.2.1, ⟨hk.1.1.2.2.2, ⟨hk.1.2, hk.2⟩⟩⟩⟩⟩)), (by (with_reducible repeat (first | apply Kd.R_alloc | apply Kd.R_drewN | apply Kd.R_drew)); exact Kd.R_mono HO302.out (fun _ hk => ⟨hk.1.1.1.1.1.2, ⟨hk.1.1.1.1.2, ⟨hk.1.1.1.2, ⟨hk.1.1.2, ⟨hk.1.2, hk.2⟩⟩⟩⟩⟩)), (by (with_reducible repeat (first | apply Kd.R_alloc | apply Kd.R_drewN | apply Kd.R_drew)); exact Kd.R_mono HO312.out (fun _ hk => ⟨hk.1.1.1.1.1.2, ⟨hk.1.1.1.1.2, ⟨hk.1.1.1.2, ⟨hk.1.1.2, ⟨hk.1.2, hk.2⟩⟩⟩⟩⟩)), (zh BK247).out, (zh BK248).out, (zh BK266).out, (zh BK272).out, (zh BK284).out, (zh BK314).out, GW314.out, GE314.out, NB247_314.out, NB314_247.out, NB248_314.out, NB314_248.out, NB266_314.out, NB314_266.out, NB272_314.out, NB314_272.out, NB284_314.out, NB314_284.out, (by repeat (first | (with_reducible first | exact HB.out | apply below_alloc | apply pw_below_drewN | apply below_drew1 | refine below_set ?_ GE247.out | refine below_set ?_ GE248.out | refine below_set ?_ GE266.out | refine below_set ?_ GE272.out | refine below_set ?_ GE284.out | refine below_set ?_ GE314.out) | exact HB.out))⟩)
  skip
  refine goes_ Try.func42 (by kernel_rfl) rfl #[.agg #[.int .i8 a0_0, .int .i8 a0_1, .slice A0_2 l0_2.length c0_2]] (by rfl) rfl rfl (by (try simp only [List.map_toArray, List.map_cons, List.map_nil]); first | done | rfl | (simp only [List.length_drop, List.length_take]; rfl)) ?_
  with_reducible refine (laws_toBoard.calls k a0_0 a0_1 _ _ l0_2 t298 t299 t300 _ ?side1 ?side2 A30.out).mono ?_
  (case side1 => exact zcc HB HR0_2.out)
  (case side2 => exact HC0_2.out)
  rintro e w96 ⟨v301, rfl, ho0, hb⟩
  refine ⟨_, rfl, ?_⟩
  have n0_ := Aside0.mk (Kd.R_elder' (ze HO254).out (Kd.R_base ho0) hb)
  have n1_ := Aside0.mk (Kd.R_elder' (ze HO264).out (Kd.R_base ho0) hb)
  have n2_ := Aside0.mk (Kd.R_elder' (ze HO271).out (Kd.R_base ho0) hb)
  have n3_ := Aside0.mk (Kd.R_elder' (ze HO282).out (Kd.R_base ho0) hb)
  have n4_ := Aside0.mk (Kd.R_elder' (ze HO290).out (Kd.R_base ho0) hb)
  have n5_ := Aside0.mk (Kd.R_lower (Kd.R_new' (Kd.R_new' (Kd.R_new' (Kd.R_new' (Kd.R_new' ho0 (Kd.R_lt (ze HO254).out)) (Kd.R_lt (ze HO264).out)) (Kd.R_lt (ze HO271).out)) (Kd.R_lt (ze HO282).out)) (Kd.R_lt (ze HO290).out)) (zz HB))
  have n6_ := zk BK247 hb
  have n7_ := zk BK248 hb
  have n8_ := zk BK266 hb
  have n9_ := zk BK272 hb
  have n10_ := zk BK284 hb
  have n11_ := zbs hb
  clear HO254
  clear HO264
  clear HO271
  clear HO282
  clear HO290
  clear BK247
  clear BK248
  clear BK266
  clear BK272
  clear BK284
  clear HB
  have HO254 := n0_
  have HO264 := n1_
  have HO271 := n2_
  have HO282 := n3_
  have HO290 := n4_
  have HO302 := n5_
  have BK247 := n6_
  have BK248 := n7_
  have BK266 := n8_
  have BK272 := n9_
  have BK284 := n10_
  have HB := n11_
  clear n0_ n1_ n2_ n3_ n4_ n5_ n6_ n7_ n8_ n9_ n10_ n11_
  (try clear hb)
  (try clear hb2)
  (try clear hk)
  (try clear hi)
  (try clear ho0)
  refine hK.out _ _ ⟨(blk_cell BK247.out 0).trans rfl, (blk_cell BK247.out 1).trans rfl, (blk_cell BK247.out 2).trans rfl, (blk_cell BK248.out 0).trans rfl, (blk_cell BK248.out 1).trans rfl, (blk_cell BK248.out 2).trans rfl, (blk_cell BK248.out 3).trans rfl, (blk_cell BK248.out 4).trans rfl⟩ (fun hHeld => ?_)
  clear hK K
  refine norm_ (a' := ?_) ?_ ?_
  rotate_left
  ·show Act.put _ (some 81) _ = _
   simp only [Act.put, List.setIfInBounds_toArray, List.set_cons_zero, List.set_cons_succ, i64_w, i32_w]
   rfl
  refine two_ (i := 3) (j := 8) (Ni := some 83) (Nj := some 14) (zq 11 15) (zq 11 263) rfl rfl rfl rfl (two_of HT_.out (by kernel_rfl)) (by decide) (by decide) (fun K hK => ?_) (fun K hK => ?_)
  rotate_left
  ·skip
   refine box_step ?hg (N := 14) ?hd (cs := #[.int .i8 0, .int .i8 0, .slice none 0 0]) (t := 37) ?hr ?_; (case hd => rfl); (case hg => rfl); (case hr => first | (go_simp; done) | (go_simp; rfl))
   intro gb314 hg w97 hbox hb
   have n0_ := zr HO254 hb
   have n1_ := zr HO264 hb
   have n2_ := zr HO271 hb
   have n3_ := zr HO282 hb
   have n4_ := zr HO290 hb
   have n5_ := zr HO302 hb
   have n6_ := zk BK247 hb
   have n7_ := zk BK248 hb
   have n8_ := zk BK266 hb
   have n9_ := zk BK272 hb
   have n10_ := zk BK284 hb
   have n11_ := zbs hb
   have n12_ := Aside0.mk (hbox)
   have n13_ := zg HB hg
   have n14_ := zg HB hg
   have n15_ := zn1 BK247 hg
   have n16_ := zn2 BK247 hg
   have n17_ := zn1 BK248 hg
   have n18_ := zn2 BK248 hg
   have n19_ := zn1 BK266 hg
   have n20_ := zn2 BK266 hg
   have n21_ := zn1 BK272 hg
   have n22_ := zn2 BK272 hg
   have n23_ := zn1 BK284 hg
   have n24_ := zn2 BK284 hg
   clear HO254
   clear HO264
   clear HO271
   clear HO282
   clear HO290
   clear HO302
   clear BK247
   clear BK248
   clear BK266
   clear BK272
   clear BK284
   clear HB
   have HO254 := n0_
   have HO264 := n1_
   have HO271 := n2_
   have HO282 := n3_
   have HO290 := n4_
   have HO302 := n5_
   have BK247 := n6_
   have BK248 := n7_
   have BK266 := n8_
   have BK272 := n9_
   have BK284 := n10_
   have HB := n11_
   have BK314 := n12_
   have GW314 := n13_
   have GE314 := n14_
   have NB247_314 := n15_
   have NB314_247 := n16_
   have NB248_314 := n17_
   have NB314_248 := n18_
   have NB266_314 := n19_
   have NB314_266 := n20_
   have NB272_314 := n21_
   have NB314_272 := n22_
   have NB284_314 := n23_
   have NB314_284 := n24_
   clear n0_ n1_ n2_ n3_ n4_ n5_ n6_ n7_ n8_ n9_ n10_ n11_ n12_ n13_ n14_ n15_ n16_ n17_ n18_ n19_ n20_ n21_ n22_ n23_ n24_
   clear hb hbox hg
   refine hK.out _ _ ⟨(blk_cell BK247.out 0).trans rfl, (blk_cell BK247.out 1).trans rfl, (blk_cell BK247.out 2).trans rfl, (blk_cell BK248.out 0).trans rfl, (blk_cell BK248.out 1).trans rfl, (blk_cell BK248.out 2).trans rfl, (blk_cell BK248.out 3).trans rfl, (blk_cell BK248.out 4).trans rfl⟩ (fun hHeld => ?_)
   clear hK K
   refine norm_ (a' := ?_) ?_ ?_
   rotate_left
   ·show Act.put _ (some 14) _ = _
    simp only [Act.put, List.setIfInBounds_toArray, List.set_cons_zero, List.set_cons_succ, i64_w, i32_w]
    rfl
   refine one_ (i := 3) (N := some 83) (zq 11 271) rfl rfl (one_of HT_.out (by kernel_rfl)) (by decide) (fun K hK => ?_)
   refine goes_ Try.func65 (by kernel_rfl) rfl #[.agg #[.int .i8 a1_0, .int .i8 a1_1, .int .i8 a1_2, .int .i8 a1_3, .int .i8 a1_4]] (by rfl) rfl rfl (by (try simp only [List.map_toArray, List.map_cons, List.map_nil]); first | done | rfl | (simp only [List.length_drop, List.length_take]; rfl)) ?_
   with_reducible refine (laws_toPiece.calls k a1_0 a1_1 a1_2 a1_3 a1_4 t303 t304 t305 t306 t307 _ A31.out).mono ?_
   rintro e w98 ⟨rfl, hb⟩
   refine ⟨_, rfl, ?_⟩
   have n0_ := zr HO254 hb
   have n1_ := zr HO264 hb
   have n2_ := zr HO271 hb
   have n3_ := zr HO282 hb
   have n4_ := zr HO290 hb
   have n5_ := zr HO302 hb
   have n6_ := zk BK247 hb
   have n7_ := zk BK248 hb
   have n8_ := zk BK266 hb
   have n9_ := zk BK272 hb
   have n10_ := zk BK284 hb
   have n11_ := zk BK314 hb
   have n12_ := zbs hb
   clear HO254
   clear HO264
   clear HO271
   clear HO282
   clear HO290
   clear HO302
   clear BK247
   clear BK248
   clear BK266
   clear BK272
   clear BK284
   clear BK314
   clear HB
   have HO254 := n0_
   have HO264 := n1_
   have HO271 := n2_
   have HO282 := n3_
   have HO290 := n4_
   have HO302 := n5_
   have BK247 := n6_
   have BK248 := n7_
   have BK266 := n8_
   have BK272 := n9_
   have BK284 := n10_
   have BK314 := n11_
   have HB := n12_
   clear n0_ n1_ n2_ n3_ n4_ n5_ n6_ n7_ n8_ n9_ n10_ n11_ n12_
   (try clear hb)
   (try clear hb2)
   (try clear hk)
   (try clear hi)
   obtain ⟨Ao99, co99, eo99⟩ := Kd.R_slice HO302.out
   (first | subst eo99 | (injection eo99 with f1_ f2_ f3_; have f4_ := f1_.symm; have f5_ := f3_.symm; clear f1_ f2_ f3_; subst f4_; subst f5_))
   refine hK.out _ _ ⟨(blk_cell BK247.out 0).trans rfl, (blk_cell BK247.out 1).trans rfl, (blk_cell BK247.out 2).trans rfl, (blk_cell BK248.out 0).trans rfl, (blk_cell BK248.out 1).trans rfl, (blk_cell BK248.out 2).trans rfl, (blk_cell BK248.out 3).trans rfl, (blk_cell BK248.out 4).trans rfl⟩ (fun hHeld => ?_)
   clear hK K
   refine norm_ (a' := ?_) ?_ ?_
   rotate_left
   ·show Act.put _ (some 83) _ = _
    simp only [Act.put, List.setIfInBounds_toArray, List.set_cons_zero, List.set_cons_succ, i64_w, i32_w]
    rfl
   refine one_ (i := 4) (N := some 84) (zq 11 287) rfl rfl (one_of HT_.out (by kernel_rfl)) (by decide) (fun K hK => ?_)
   refine goes_ Try.func66 (by kernel_rfl) rfl #[.agg #[.int .i8 t298, .int .i8 t299, .slice Ao99 t300.length co99], .agg #[.int .i8 t303, .int .i8 t304, .int .i8 t305, .int .i8 t306, .int .i8 t307]] (by rfl) rfl rfl (by (try simp only [List.map_toArray, List.map_cons, List.map_nil]); first | done | rfl | (simp only [List.length_drop, List.length_take]; rfl)) ?_
   with_reducible refine (impl_PutPiece.calls k t298 t299 _ _ t300 t303 t304 t305 t306 t307 t308 t309 t310 t313 _ ?side1 ?side2 A32.out).mono ?_
   (case side1 => exact zrc HO302)
   (case side2 => exact (Kd.R_reads' HO302.out).2.1)
   rintro e w100 ⟨v311, rfl, ho0, hb⟩
   refine ⟨_, rfl, ?_⟩
   have n0_ := Aside0.mk (Kd.R_elder' (ze HO254).out (Kd.R_base ho0) hb)
   have n1_ := Aside0.mk (Kd.R_elder' (ze HO264).out (Kd.R_base ho0) hb)
   have n2_ := Aside0.mk (Kd.R_elder' (ze HO271).out (Kd.R_base ho0) hb)
   have n3_ := Aside0.mk (Kd.R_elder' (ze HO282).out (Kd.R_base ho0) hb)
   have n4_ := Aside0.mk (Kd.R_elder' (ze HO290).out (Kd.R_base ho0) hb)
   have n5_ := Aside0.mk (Kd.R_elder' (ze HO302).out (Kd.R_base ho0) hb)
   have n6_ := Aside0.mk (Kd.R_lower (Kd.R_new' (Kd.R_new' (Kd.R_new' (Kd.R_new' (Kd.R_new' (Kd.R_new' ho0 (Kd.R_lt (ze HO254).out)) (Kd.R_lt (ze HO264).out)) (Kd.R_lt (ze HO271).out)) (Kd.R_lt (ze HO282).out)) (Kd.R_lt (ze HO290).out)) (Kd.R_lt (ze HO302).out)) (zz HB))
   have n7_ := zk BK247 hb
   have n8_ := zk BK248 hb
   have n9_ := zk BK266 hb
   have n10_ := zk BK272 hb
   have n11_ := zk BK284 hb
   have n12_ := zk BK314 hb
   have n13_ := zbs hb
   clear HO254
   clear HO264
   clear HO271
   clear HO282
   clear HO290
   clear HO302
   clear BK247
   clear BK248
   clear BK266
   clear BK272
   clear BK284
   clear BK314
   clear HB
   have HO254 := n0_
   have HO264 := n1_
   have HO271 := n2_
   have HO282 := n3_
   have HO290 := n4_
   have HO302 := n5_
   have HO312 := n6_
   have BK247 := n7_
   have BK248 := n8_
   have BK266 := n9_
   have BK272 := n10_
   have BK284 := n11_
   have BK314 := n12_
   have HB := n13_
   clear n0_ n1_ n2_ n3_ n4_ n5_ n6_ n7_ n8_ n9_ n10_ n11_ n12_ n13_
   (try clear hb)
   (try clear hb2)
   (try clear hk)
   (try clear hi)
   (try clear ho0)
   refine hK.out _ _ ⟨(blk_cell BK247.out 0).trans rfl, (blk_cell BK247.out 1).trans rfl, (blk_cell BK247.out 2).trans rfl, (blk_cell BK248.out 0).trans rfl, (blk_cell BK248.out 1).trans rfl, (blk_cell BK248.out 2).trans rfl, (blk_cell BK248.out 3).trans rfl, (blk_cell BK248.out 4).trans rfl⟩ (fun hHeld => ?_)
   clear hK K
   refine norm_ (a' := ?_) ?_ ?_
   rotate_left
   ·show Act.put _ (some 84) _ = _
    simp only [Act.put, List.setIfInBounds_toArray, List.set_cons_zero, List.set_cons_succ, i64_w, i32_w]
    rfl
   refine zpu 5 (some 79) (zq 11 319) HT_ ?_
   refine zpu 6 (some 85) (zq 11 383) HT_ ?_
   refine zpu 7 (some 86) (zq 11 511) HT_ ?_
   exact norm_ (by simp only [putAll, Act.put, List.setIfInBounds_toArray, List.set_cons_zero, List.set_cons_succ]) (hCont (.slice Ao99 t300.length co99, v311, gb314) _ ⟨hHeld, (by (with_reducible repeat (first | apply Kd.R_alloc | apply Kd.R_drewN | apply Kd.R_drew)); exact Kd.R_mono HO254.out (fun _ hk => ⟨hk.1.1.1, ⟨hk.1.1.2.1, ⟨hk.1.1.2.2.1, ⟨hk.1.1.2.2.2, ⟨hk.1.2, hk.2⟩⟩⟩⟩⟩)), (by (with_reducible repeat (first | apply Kd.R_alloc | apply Kd.R_drewN | apply Kd.R_drew)); exact Kd.R_mono HO264.out (fun _ hk => ⟨hk.1.1.1, ⟨hk.1.1.2.1, ⟨hk.1.1.2.2.1, ⟨hk.1.1.2.2.2, ⟨hk.1.2, hk.2⟩⟩⟩⟩⟩)), (by (with_reducible repeat (first | apply Kd.R_alloc | apply Kd.R_drewN | apply Kd.R_drew)); exact Kd.R_mono HO271.out (fun _ hk => ⟨hk.1.1.1, ⟨hk.1.1.2.1, ⟨hk.1.1.2.2.1, ⟨hk.1.1.2.2.2, ⟨hk.1.2, hk.2⟩⟩⟩⟩⟩)), (by (with_reducible repeat (first | apply Kd.R_alloc | apply Kd.R_drewN | apply Kd.R_drew)); exact Kd.R_mono HO282.out (fun _ hk => ⟨hk.1.1.1, ⟨hk.1.1.2.1, ⟨hk.1.1.2.2.1, ⟨hk.1.1.2.2.2, ⟨hk.1.2, hk.2⟩⟩⟩⟩⟩)), (by (with_reducible repeat (first | apply Kd.R_alloc | apply Kd.R_drewN | apply Kd.R_drew)); exact Kd.R_mono HO290.out (fun _ hk => ⟨hk.1.1.1, ⟨hk.1.1.2.1, ⟨hk.1.1.2.2.1, ⟨hk.1.1.2.2.2, ⟨hk.1.2, hk.2⟩⟩⟩⟩⟩)), (by (with_reducible repeat (first | apply Kd.R_alloc | apply Kd.R_drewN | apply Kd.R_drew)); exact Kd.R_mono HO302.out (fun _ hk => ⟨hk.1.1.1.1.1.2, ⟨hk.1.1.1.1.2, ⟨hk.1.1.1.2, ⟨hk.1.1.2, ⟨hk.1.2, hk.2⟩⟩⟩⟩⟩)), (by (with_reducible repeat (first | apply Kd.R_alloc | apply Kd.R_drewN | apply Kd.R_drew)); exact Kd.R_mono HO312.out (fun _ hk => ⟨hk.1.1.1.1.1.2, ⟨hk.1.1.1.1.2, ⟨hk.1.1.1.2, ⟨hk.1.1.2, ⟨hk.1.2, hk.2⟩⟩⟩⟩⟩)), (zh BK247).out, (zh BK248).out, (zh BK266).out, (zh BK272).out, (zh BK284).out, (zh BK314).out, GW314.out, GE314.out, NB247_314.out, NB314_247.out, NB248_314.out, NB314_248.out, NB266_314.out, NB314_266.out, NB272_314.out, NB314_272.out, NB284_314.out, NB314_284.out, (by repeat (first | (with_reducible first | exact HB.out | apply below_alloc | apply pw_below_drewN | apply below_drew1 | refine below_set ?_ GE247.out | refine below_set ?_ GE248.out | refine below_set ?_ GE266.out | refine below_set ?_ GE272.out | refine below_set ?_ GE284.out | refine below_set ?_ GE314.out) | exact HB.out))⟩)
  skip
  refine goes_ Try.func65 (by kernel_rfl) rfl #[.agg #[.int .i8 a1_0, .int .i8 a1_1, .int .i8 a1_2, .int .i8 a1_3, .int .i8 a1_4]] (by rfl) rfl rfl (by (try simp only [List.map_toArray, List.map_cons, List.map_nil]); first | done | rfl | (simp only [List.length_drop, List.length_take]; rfl)) ?_
  with_reducible refine (laws_toPiece.calls k a1_0 a1_1 a1_2 a1_3 a1_4 t303 t304 t305 t306 t307 _ A31.out).mono ?_
  rintro e w97 ⟨rfl, hb⟩
  refine ⟨_, rfl, ?_⟩
  have n0_ := zr HO254 hb
  have n1_ := zr HO264 hb
  have n2_ := zr HO271 hb
  have n3_ := zr HO282 hb
  have n4_ := zr HO290 hb
  have n5_ := zr HO302 hb
  have n6_ := zk BK247 hb
  have n7_ := zk BK248 hb
  have n8_ := zk BK266 hb
  have n9_ := zk BK272 hb
  have n10_ := zk BK284 hb
  have n11_ := zbs hb
  clear HO254
  clear HO264
  clear HO271
  clear HO282
  clear HO290
  clear HO302
  clear BK247
  clear BK248
  clear BK266
  clear BK272
  clear BK284
  clear HB
  have HO254 := n0_
  have HO264 := n1_
  have HO271 := n2_
  have HO282 := n3_
  have HO290 := n4_
  have HO302 := n5_
  have BK247 := n6_
  have BK248 := n7_
  have BK266 := n8_
  have BK272 := n9_
  have BK284 := n10_
  have HB := n11_
  clear n0_ n1_ n2_ n3_ n4_ n5_ n6_ n7_ n8_ n9_ n10_ n11_
  (try clear hb)
  (try clear hb2)
  (try clear hk)
  (try clear hi)
  obtain ⟨Ao98, co98, eo98⟩ := Kd.R_slice HO302.out
  (first | subst eo98 | (injection eo98 with f1_ f2_ f3_; have f4_ := f1_.symm; have f5_ := f3_.symm; clear f1_ f2_ f3_; subst f4_; subst f5_))
  refine hK.out _ _ ⟨(blk_cell BK247.out 0).trans rfl, (blk_cell BK247.out 1).trans rfl, (blk_cell BK247.out 2).trans rfl, (blk_cell BK248.out 0).trans rfl, (blk_cell BK248.out 1).trans rfl, (blk_cell BK248.out 2).trans rfl, (blk_cell BK248.out 3).trans rfl, (blk_cell BK248.out 4).trans rfl⟩ (fun hHeld => ?_)
  clear hK K
  refine norm_ (a' := ?_) ?_ ?_
  rotate_left
  ·show Act.put _ (some 83) _ = _
   simp only [Act.put, List.setIfInBounds_toArray, List.set_cons_zero, List.set_cons_succ, i64_w, i32_w]
   rfl
  refine two_ (i := 4) (j := 8) (Ni := some 84) (Nj := some 14) (zq 11 31) (zq 11 271) rfl rfl rfl rfl (two_of HT_.out (by kernel_rfl)) (by decide) (by decide) (fun K hK => ?_) (fun K hK => ?_)
  ·skip
   refine goes_ Try.func66 (by kernel_rfl) rfl #[.agg #[.int .i8 t298, .int .i8 t299, .slice Ao98 t300.length co98], .agg #[.int .i8 t303, .int .i8 t304, .int .i8 t305, .int .i8 t306, .int .i8 t307]] (by rfl) rfl rfl (by (try simp only [List.map_toArray, List.map_cons, List.map_nil]); first | done | rfl | (simp only [List.length_drop, List.length_take]; rfl)) ?_
   with_reducible refine (impl_PutPiece.calls k t298 t299 _ _ t300 t303 t304 t305 t306 t307 t308 t309 t310 t313 _ ?side1 ?side2 A32.out).mono ?_
   (case side1 => exact zrc HO302)
   (case side2 => exact (Kd.R_reads' HO302.out).2.1)
   rintro e w99 ⟨v311, rfl, ho0, hb⟩
   refine ⟨_, rfl, ?_⟩
   have n0_ := Aside0.mk (Kd.R_elder' (ze HO254).out (Kd.R_base ho0) hb)
   have n1_ := Aside0.mk (Kd.R_elder' (ze HO264).out (Kd.R_base ho0) hb)
   have n2_ := Aside0.mk (Kd.R_elder' (ze HO271).out (Kd.R_base ho0) hb)
   have n3_ := Aside0.mk (Kd.R_elder' (ze HO282).out (Kd.R_base ho0) hb)
   have n4_ := Aside0.mk (Kd.R_elder' (ze HO290).out (Kd.R_base ho0) hb)
   have n5_ := Aside0.mk (Kd.R_elder' (ze HO302).out (Kd.R_base ho0) hb)
   have n6_ := Aside0.mk (Kd.R_lower (Kd.R_new' (Kd.R_new' (Kd.R_new' (Kd.R_new' (Kd.R_new' (Kd.R_new' ho0 (Kd.R_lt (ze HO254).out)) (Kd.R_lt (ze HO264).out)) (Kd.R_lt (ze HO271).out)) (Kd.R_lt (ze HO282).out)) (Kd.R_lt (ze HO290).out)) (Kd.R_lt (ze HO302).out)) (zz HB))
   have n7_ := zk BK247 hb
   have n8_ := zk BK248 hb
   have n9_ := zk BK266 hb
   have n10_ := zk BK272 hb
   have n11_ := zk BK284 hb
   have n12_ := zbs hb
   clear HO254
   clear HO264
   clear HO271
   clear HO282
   clear HO290
   clear HO302
   clear BK247
   clear BK248
   clear BK266
   clear BK272
   clear BK284
   clear HB
   have HO254 := n0_
   have HO264 := n1_
   have HO271 := n2_
   have HO282 := n3_
   have HO290 := n4_
   have HO302 := n5_
   have HO312 := n6_
   have BK247 := n7_
   have BK248 := n8_
   have BK266 := n9_
   have BK272 := n10_
   have BK284 := n11_
   have HB := n12_
   clear n0_ n1_ n2_ n3_ n4_ n5_ n6_ n7_ n8_ n9_ n10_ n11_ n12_
   (try clear hb)
   (try clear hb2)
   (try clear hk)
   (try clear hi)
   (try clear ho0)
   refine hK.out _ _ ⟨(blk_cell BK247.out 0).trans rfl, (blk_cell BK247.out 1).trans rfl, (blk_cell BK247.out 2).trans rfl, (blk_cell BK248.out 0).trans rfl, (blk_cell BK248.out 1).trans rfl, (blk_cell BK248.out 2).trans rfl, (blk_cell BK248.out 3).trans rfl, (blk_cell BK248.out 4).trans rfl⟩ (fun hHeld => ?_)
   clear hK K
   refine norm_ (a' := ?_) ?_ ?_
   rotate_left
   ·show Act.put _ (some 84) _ = _
    simp only [Act.put, List.setIfInBounds_toArray, List.set_cons_zero, List.set_cons_succ, i64_w, i32_w]
    rfl
   refine zpu 5 (some 79) (zq 11 63) HT_ ?_
   refine zpu 6 (some 85) (zq 11 127) HT_ ?_
   refine zpu 7 (some 86) (zq 11 255) HT_ ?_
   refine one_ (i := 8) (N := some 14) (zq 11 511) rfl rfl (one_of HT_.out (by kernel_rfl)) (by decide) (fun K hK => ?_)
   refine box_step ?hg (N := 14) ?hd (cs := #[.int .i8 0, .int .i8 0, .slice none 0 0]) (t := 37) ?hr ?_; (case hd => rfl); (case hg => rfl); (case hr => first | (go_simp; done) | (go_simp; rfl))
   intro gb314 hg w100 hbox hb
   have n0_ := zr HO254 hb
   have n1_ := zr HO264 hb
   have n2_ := zr HO271 hb
   have n3_ := zr HO282 hb
   have n4_ := zr HO290 hb
   have n5_ := zr HO302 hb
   have n6_ := zr HO312 hb
   have n7_ := zk BK247 hb
   have n8_ := zk BK248 hb
   have n9_ := zk BK266 hb
   have n10_ := zk BK272 hb
   have n11_ := zk BK284 hb
   have n12_ := zbs hb
   have n13_ := Aside0.mk (hbox)
   have n14_ := zg HB hg
   have n15_ := zg HB hg
   have n16_ := zn1 BK247 hg
   have n17_ := zn2 BK247 hg
   have n18_ := zn1 BK248 hg
   have n19_ := zn2 BK248 hg
   have n20_ := zn1 BK266 hg
   have n21_ := zn2 BK266 hg
   have n22_ := zn1 BK272 hg
   have n23_ := zn2 BK272 hg
   have n24_ := zn1 BK284 hg
   have n25_ := zn2 BK284 hg
   clear HO254
   clear HO264
   clear HO271
   clear HO282
   clear HO290
   clear HO302
   clear HO312
   clear BK247
   clear BK248
   clear BK266
   clear BK272
   clear BK284
   clear HB
   have HO254 := n0_
   have HO264 := n1_
   have HO271 := n2_
   have HO282 := n3_
   have HO290 := n4_
   have HO302 := n5_
   have HO312 := n6_
   have BK247 := n7_
   have BK248 := n8_
   have BK266 := n9_
   have BK272 := n10_
   have BK284 := n11_
   have HB := n12_
   have BK314 := n13_
   have GW314 := n14_
   have GE314 := n15_
   have NB247_314 := n16_
   have NB314_247 := n17_
   have NB248_314 := n18_
   have NB314_248 := n19_
   have NB266_314 := n20_
   have NB314_266 := n21_
   have NB272_314 := n22_
   have NB314_272 := n23_
   have NB284_314 := n24_
   have NB314_284 := n25_
   clear n0_ n1_ n2_ n3_ n4_ n5_ n6_ n7_ n8_ n9_ n10_ n11_ n12_ n13_ n14_ n15_ n16_ n17_ n18_ n19_ n20_ n21_ n22_ n23_ n24_ n25_
   clear hb hbox hg
   refine hK.out _ _ ⟨(blk_cell BK247.out 0).trans rfl, (blk_cell BK247.out 1).trans rfl, (blk_cell BK247.out 2).trans rfl, (blk_cell BK248.out 0).trans rfl, (blk_cell BK248.out 1).trans rfl, (blk_cell BK248.out 2).trans rfl, (blk_cell BK248.out 3).trans rfl, (blk_cell BK248.out 4).trans rfl⟩ (fun hHeld => ?_)
   clear hK K
   refine norm_ (a' := ?_) ?_ ?_
   rotate_left
   ·show Act.put _ (some 14) _ = _
    simp only [Act.put, List.setIfInBounds_toArray, List.set_cons_zero, List.set_cons_succ, i64_w, i32_w]
    rfl
   exact norm_ (by simp only [putAll, Act.put, List.setIfInBounds_toArray, List.set_cons_zero, List.set_cons_succ]) (hCont (.slice Ao98 t300.length co98, v311, gb314) _ ⟨hHeld, (by (with_reducible repeat (first | apply Kd.R_alloc | apply Kd.R_drewN | apply Kd.R_drew)); exact Kd.R_mono HO254.out (fun _ hk => ⟨hk.1.1.1, ⟨hk.1.1.2.1, ⟨hk.1.1.2.2.1, ⟨hk.1.1.2.2.2, ⟨hk.1.2, hk.2⟩⟩⟩⟩⟩)), (by (with_reducible repeat (first | apply Kd.R_alloc | apply Kd.R_drewN | apply Kd.R_drew)); exact Kd.R_mono HO264.out (fun _ hk => ⟨hk.1.1.1, ⟨hk.1.1.2.1, ⟨hk.1.1.2.2.1, ⟨hk.1.1.2.2.2, ⟨hk.1.2, hk.2⟩⟩⟩⟩⟩)), (by (with_reducible repeat (first | apply Kd.R_alloc | apply Kd.R_drewN | apply Kd.R_drew)); exact Kd.R_mono HO271.out (fun _ hk => ⟨hk.1.1.1, ⟨hk.1.1.2.1, ⟨hk.1.1.2.2.1, ⟨hk.1.1.2.2.2, ⟨hk.1.2, hk.2⟩⟩⟩⟩⟩)), (by (with_reducible repeat (first | apply Kd.R_alloc | apply Kd.R_drewN | apply Kd.R_drew)); exact Kd.R_mono HO282.out (fun _ hk => ⟨hk.1.1.1, ⟨hk.1.1.2.1, ⟨hk.1.1.2.2.1, ⟨hk.1.1.2.2.2, ⟨hk.1.2, hk.2⟩⟩⟩⟩⟩)), (by (with_reducible repeat (first | apply Kd.R_alloc | apply Kd.R_drewN | apply Kd.R_drew)); exact Kd.R_mono HO290.out (fun _ hk => ⟨hk.1.1.1, ⟨hk.1.1.2.1, ⟨hk.1.1.2.2.1, ⟨hk.1.1.2.2.2, ⟨hk.1.2, hk.2⟩⟩⟩⟩⟩)), (by (with_reducible repeat (first | apply Kd.R_alloc | apply Kd.R_drewN | apply Kd.R_drew)); exact Kd.R_mono HO302.out (fun _ hk => ⟨hk.1.1.1.1.1.2, ⟨hk.1.1.1.1.2, ⟨hk.1.1.1.2, ⟨hk.1.1.2, ⟨hk.1.2, hk.2⟩⟩⟩⟩⟩)), (by (with_reducible repeat (first | apply Kd.R_alloc | apply Kd.R_drewN | apply Kd.R_drew)); exact Kd.R_mono HO312.out (fun _ hk => ⟨hk.1.1.1.1.1.2, ⟨hk.1.1.1.1.2, ⟨hk.1.1.1.2, ⟨hk.1.1.2, ⟨hk.1.2, hk.2⟩⟩⟩⟩⟩)), (zh BK247).out, (zh BK248).out, (zh BK266).out, (zh BK272).out, (zh BK284).out, (zh BK314).out, GW314.out, GE314.out, NB247_314.out, NB314_247.out, NB248_314.out, NB314_248.out, NB266_314.out, NB314_266.out, NB272_314.out, NB314_272.out, NB284_314.out, NB314_284.out, (by repeat (first | (with_reducible first | exact HB.out | apply below_alloc | apply pw_below_drewN | apply below_drew1 | refine below_set ?_ GE247.out | refine below_set ?_ GE248.out | refine below_set ?_ GE266.out | refine below_set ?_ GE272.out | refine below_set ?_ GE284.out | refine below_set ?_ GE314.out) | exact HB.out))⟩)
  skip
  refine box_step ?hg (N := 14) ?hd (cs := #[.int .i8 0, .int .i8 0, .slice none 0 0]) (t := 37) ?hr ?_; (case hd => rfl); (case hg => rfl); (case hr => first | (go_simp; done) | (go_simp; rfl))
  intro gb314 hg w98 hbox hb
  have n0_ := zr HO254 hb
  have n1_ := zr HO264 hb
  have n2_ := zr HO271 hb
  have n3_ := zr HO282 hb
  have n4_ := zr HO290 hb
  have n5_ := zr HO302 hb
  have n6_ := zk BK247 hb
  have n7_ := zk BK248 hb
  have n8_ := zk BK266 hb
  have n9_ := zk BK272 hb
  have n10_ := zk BK284 hb
  have n11_ := zbs hb
  have n12_ := Aside0.mk (hbox)
  have n13_ := zg HB hg
  have n14_ := zg HB hg
  have n15_ := zn1 BK247 hg
  have n16_ := zn2 BK247 hg
  have n17_ := zn1 BK248 hg
  have n18_ := zn2 BK248 hg
  have n19_ := zn1 BK266 hg
  have n20_ := zn2 BK266 hg
  have n21_ := zn1 BK272 hg
  have n22_ := zn2 BK272 hg
  have n23_ := zn1 BK284 hg
  have n24_ := zn2 BK284 hg
  clear HO254
  clear HO264
  clear HO271
  clear HO282
  clear HO290
  clear HO302
  clear BK247
  clear BK248
  clear BK266
  clear BK272
  clear BK284
  clear HB
  have HO254 := n0_
  have HO264 := n1_
  have HO271 := n2_
  have HO282 := n3_
  have HO290 := n4_
  have HO302 := n5_
  have BK247 := n6_
  have BK248 := n7_
  have BK266 := n8_
  have BK272 := n9_
  have BK284 := n10_
  have HB := n11_
  have BK314 := n12_
  have GW314 := n13_
  have GE314 := n14_
  have NB247_314 := n15_
  have NB314_247 := n16_
  have NB248_314 := n17_
  have NB314_248 := n18_
  have NB266_314 := n19_
  have NB314_266 := n20_
  have NB272_314 := n21_
  have NB314_272 := n22_
  have NB284_314 := n23_
  have NB314_284 := n24_
  clear n0_ n1_ n2_ n3_ n4_ n5_ n6_ n7_ n8_ n9_ n10_ n11_ n12_ n13_ n14_ n15_ n16_ n17_ n18_ n19_ n20_ n21_ n22_ n23_ n24_
  clear hb hbox hg
  obtain ⟨Ao99, co99, eo99⟩ := Kd.R_slice HO302.out
  (first | subst eo99 | (injection eo99 with f1_ f2_ f3_; have f4_ := f1_.symm; have f5_ := f3_.symm; clear f1_ f2_ f3_; subst f4_; subst f5_))
  refine hK.out _ _ ⟨(blk_cell BK247.out 0).trans rfl, (blk_cell BK247.out 1).trans rfl, (blk_cell BK247.out 2).trans rfl, (blk_cell BK248.out 0).trans rfl, (blk_cell BK248.out 1).trans rfl, (blk_cell BK248.out 2).trans rfl, (blk_cell BK248.out 3).trans rfl, (blk_cell BK248.out 4).trans rfl⟩ (fun hHeld => ?_)
  clear hK K
  refine norm_ (a' := ?_) ?_ ?_
  rotate_left
  ·show Act.put _ (some 14) _ = _
   simp only [Act.put, List.setIfInBounds_toArray, List.set_cons_zero, List.set_cons_succ, i64_w, i32_w]
   rfl
  refine one_ (i := 4) (N := some 84) (zq 11 287) rfl rfl (one_of HT_.out (by kernel_rfl)) (by decide) (fun K hK => ?_)
  refine goes_ Try.func66 (by kernel_rfl) rfl #[.agg #[.int .i8 t298, .int .i8 t299, .slice Ao99 t300.length co99], .agg #[.int .i8 t303, .int .i8 t304, .int .i8 t305, .int .i8 t306, .int .i8 t307]] (by rfl) rfl rfl (by (try simp only [List.map_toArray, List.map_cons, List.map_nil]); first | done | rfl | (simp only [List.length_drop, List.length_take]; rfl)) ?_
  with_reducible refine (impl_PutPiece.calls k t298 t299 _ _ t300 t303 t304 t305 t306 t307 t308 t309 t310 t313 _ ?side1 ?side2 A32.out).mono ?_
  (case side1 => exact zrc HO302)
  (case side2 => exact (Kd.R_reads' HO302.out).2.1)
  rintro e w100 ⟨v311, rfl, ho0, hb⟩
  refine ⟨_, rfl, ?_⟩
  have n0_ := Aside0.mk (Kd.R_elder' (ze HO254).out (Kd.R_base ho0) hb)
  have n1_ := Aside0.mk (Kd.R_elder' (ze HO264).out (Kd.R_base ho0) hb)
  have n2_ := Aside0.mk (Kd.R_elder' (ze HO271).out (Kd.R_base ho0) hb)
  have n3_ := Aside0.mk (Kd.R_elder' (ze HO282).out (Kd.R_base ho0) hb)
  have n4_ := Aside0.mk (Kd.R_elder' (ze HO290).out (Kd.R_base ho0) hb)
  have n5_ := Aside0.mk (Kd.R_elder' (ze HO302).out (Kd.R_base ho0) hb)
  have n6_ := Aside0.mk (Kd.R_lower (Kd.R_new' (Kd.R_new' (Kd.R_new' (Kd.R_new' (Kd.R_new' (Kd.R_new' ho0 (Kd.R_lt (ze HO254).out)) (Kd.R_lt (ze HO264).out)) (Kd.R_lt (ze HO271).out)) (Kd.R_lt (ze HO282).out)) (Kd.R_lt (ze HO290).out)) (Kd.R_lt (ze HO302).out)) (zz HB))
  have n7_ := zk BK247 hb
  have n8_ := zk BK248 hb
  have n9_ := zk BK266 hb
  have n10_ := zk BK272 hb
  have n11_ := zk BK284 hb
  have n12_ := zk BK314 hb
  have n13_ := zbs hb
  clear HO254
  clear HO264
  clear HO271
  clear HO282
  clear HO290
  clear HO302
  clear BK247
  clear BK248
  clear BK266
  clear BK272
  clear BK284
  clear BK314
  clear HB
  have HO254 := n0_
  have HO264 := n1_
  have HO271 := n2_
  have HO282 := n3_
  have HO290 := n4_
  have HO302 := n5_
  have HO312 := n6_
  have BK247 := n7_
  have BK248 := n8_
  have BK266 := n9_
  have BK272 := n10_
  have BK284 := n11_
  have BK314 := n12_
  have HB := n13_
  clear n0_ n1_ n2_ n3_ n4_ n5_ n6_ n7_ n8_ n9_ n10_ n11_ n12_ n13_
  (try clear hb)
  (try clear hb2)
  (try clear hk)
  (try clear hi)
  (try clear ho0)
  refine hK.out _ _ ⟨(blk_cell BK247.out 0).trans rfl, (blk_cell BK247.out 1).trans rfl, (blk_cell BK247.out 2).trans rfl, (blk_cell BK248.out 0).trans rfl, (blk_cell BK248.out 1).trans rfl, (blk_cell BK248.out 2).trans rfl, (blk_cell BK248.out 3).trans rfl, (blk_cell BK248.out 4).trans rfl⟩ (fun hHeld => ?_)
  clear hK K
  refine norm_ (a' := ?_) ?_ ?_
  rotate_left
  ·show Act.put _ (some 84) _ = _
   simp only [Act.put, List.setIfInBounds_toArray, List.set_cons_zero, List.set_cons_succ, i64_w, i32_w]
   rfl
  refine zpu 5 (some 79) (zq 11 319) HT_ ?_
  refine zpu 6 (some 85) (zq 11 383) HT_ ?_
  refine zpu 7 (some 86) (zq 11 511) HT_ ?_
  exact norm_ (by simp only [putAll, Act.put, List.setIfInBounds_toArray, List.set_cons_zero, List.set_cons_succ]) (hCont (.slice Ao99 t300.length co99, v311, gb314) _ ⟨hHeld, (by (with_reducible repeat (first | apply Kd.R_alloc | apply Kd.R_drewN | apply Kd.R_drew)); exact Kd.R_mono HO254.out (fun _ hk => ⟨hk.1.1.1, ⟨hk.1.1.2.1, ⟨hk.1.1.2.2.1, ⟨hk.1.1.2.2.2, ⟨hk.1.2, hk.2⟩⟩⟩⟩⟩)), (by (with_reducible repeat (first | apply Kd.R_alloc | apply Kd.R_drewN | apply Kd.R_drew)); exact Kd.R_mono HO264.out (fun _ hk => ⟨hk.1.1.1, ⟨hk.1.1.2.1, ⟨hk.1.1.2.2.1, ⟨hk.1.1.2.2.2, ⟨hk.1.2, hk.2⟩⟩⟩⟩⟩)), (by (with_reducible repeat (first | apply Kd.R_alloc | apply Kd.R_drewN | apply Kd.R_drew)); exact Kd.R_mono HO271.out (fun _ hk => ⟨hk.1.1.1, ⟨hk.1.1.2.1, ⟨hk.1.1.2.2.1, ⟨hk.1.1.2.2.2, ⟨hk.1.2, hk.2⟩⟩⟩⟩⟩)), (by (with_reducible repeat (first | apply Kd.R_alloc | apply Kd.R_drewN | apply Kd.R_drew)); exact Kd.R_mono HO282.out (fun _ hk => ⟨hk.1.1.1, ⟨hk.1.1.2.1, ⟨hk.1.1.2.2.1, ⟨hk.1.1.2.2.2, ⟨hk.1.2, hk.2⟩⟩⟩⟩⟩)), (by (with_reducible repeat (first | apply Kd.R_alloc | apply Kd.R_drewN | apply Kd.R_drew)); exact Kd.R_mono HO290.out (fun _ hk => ⟨hk.1.1.1, ⟨hk.1.1.2.1, ⟨hk.1.1.2.2.1, ⟨hk.1.1.2.2.2, ⟨hk.1.2, hk.2⟩⟩⟩⟩⟩)), (by (with_reducible repeat (first | apply Kd.R_alloc | apply Kd.R_drewN | apply Kd.R_drew)); exact Kd.R_mono HO302.out (fun _ hk => ⟨hk.1.1.1.1.1.2, ⟨hk.1.1.1.1.2, ⟨hk.1.1.1.2, ⟨hk.1.1.2, ⟨hk.1.2, hk.2⟩⟩⟩⟩⟩)), (by (with_reducible repeat (first | apply Kd.R_alloc | apply Kd.R_drewN | apply Kd.R_drew)); exact Kd.R_mono HO312.out (fun _ hk => ⟨hk.1.1.1.1.1.2, ⟨hk.1.1.1.1.2, ⟨hk.1.1.1.2, ⟨hk.1.1.2, ⟨hk.1.2, hk.2⟩⟩⟩⟩⟩)), (zh BK247).out, (zh BK248).out, (zh BK266).out, (zh BK272).out, (zh BK284).out, (zh BK314).out, GW314.out, GE314.out, NB247_314.out, NB314_247.out, NB248_314.out, NB314_248.out, NB266_314.out, NB314_266.out, NB272_314.out, NB314_272.out, NB284_314.out, NB314_284.out, (by repeat (first | (with_reducible first | exact HB.out | apply below_alloc | apply pw_below_drewN | apply below_drew1 | refine below_set ?_ GE247.out | refine below_set ?_ GE248.out | refine below_set ?_ GE266.out | refine below_set ?_ GE272.out | refine below_set ?_ GE284.out | refine below_set ?_ GE314.out) | exact HB.out))⟩)
 rintro ⟨v301, v311, gb314⟩ w101 ⟨hS_, h0_, h1_, h2_, h3_, h4_, h5_, h6_, h7_, h8_, h9_, h10_, h11_, h12_, h13_, h14_, h15_, h16_, h17_, h18_, h19_, h20_, h21_, h22_, h23_, h24_, h25_⟩
 have n0_ : Aside0 (Kd.R k91 91 w101 w.heap.size (fun k_ => some k_ ≠ (.slice Ao53 t262.length co53 : Value).ownBlock ∧ some k_ ≠ (.slice Ao63 t269.length co63 : Value).ownBlock ∧ some k_ ≠ (.slice Ao72 t280.length co72 : Value).ownBlock ∧ some k_ ≠ (.slice Ao84 t288.length co84 : Value).ownBlock ∧ some k_ ≠ (v301 : Value).ownBlock ∧ some k_ ≠ (v311 : Value).ownBlock) v253 t252) := ⟨h0_⟩
 have n1_ : Aside0 (Kd.R k91 91 w101 w.heap.size (fun k_ => some k_ ≠ (v253 : Value).ownBlock ∧ some k_ ≠ (.slice Ao63 t269.length co63 : Value).ownBlock ∧ some k_ ≠ (.slice Ao72 t280.length co72 : Value).ownBlock ∧ some k_ ≠ (.slice Ao84 t288.length co84 : Value).ownBlock ∧ some k_ ≠ (v301 : Value).ownBlock ∧ some k_ ≠ (v311 : Value).ownBlock) (.slice Ao53 t262.length co53) t262) := ⟨h1_⟩
 have n2_ : Aside0 (Kd.R k91 91 w101 w.heap.size (fun k_ => some k_ ≠ (v253 : Value).ownBlock ∧ some k_ ≠ (.slice Ao53 t262.length co53 : Value).ownBlock ∧ some k_ ≠ (.slice Ao72 t280.length co72 : Value).ownBlock ∧ some k_ ≠ (.slice Ao84 t288.length co84 : Value).ownBlock ∧ some k_ ≠ (v301 : Value).ownBlock ∧ some k_ ≠ (v311 : Value).ownBlock) (.slice Ao63 t269.length co63) t293) := ⟨h2_⟩
 have n3_ : Aside0 (Kd.R k91 91 w101 w.heap.size (fun k_ => some k_ ≠ (v253 : Value).ownBlock ∧ some k_ ≠ (.slice Ao53 t262.length co53 : Value).ownBlock ∧ some k_ ≠ (.slice Ao63 t269.length co63 : Value).ownBlock ∧ some k_ ≠ (.slice Ao84 t288.length co84 : Value).ownBlock ∧ some k_ ≠ (v301 : Value).ownBlock ∧ some k_ ≠ (v311 : Value).ownBlock) (.slice Ao72 t280.length co72) t296) := ⟨h3_⟩
 have n4_ : Aside0 (Kd.R k91 91 w101 w.heap.size (fun k_ => some k_ ≠ (v253 : Value).ownBlock ∧ some k_ ≠ (.slice Ao53 t262.length co53 : Value).ownBlock ∧ some k_ ≠ (.slice Ao63 t269.length co63 : Value).ownBlock ∧ some k_ ≠ (.slice Ao72 t280.length co72 : Value).ownBlock ∧ some k_ ≠ (v301 : Value).ownBlock ∧ some k_ ≠ (v311 : Value).ownBlock) (.slice Ao84 t288.length co84) t288) := ⟨h4_⟩
 have n5_ : Aside0 (Kd.R k91 91 w101 w.heap.size (fun k_ => some k_ ≠ (v253 : Value).ownBlock ∧ some k_ ≠ (.slice Ao53 t262.length co53 : Value).ownBlock ∧ some k_ ≠ (.slice Ao63 t269.length co63 : Value).ownBlock ∧ some k_ ≠ (.slice Ao72 t280.length co72 : Value).ownBlock ∧ some k_ ≠ (.slice Ao84 t288.length co84 : Value).ownBlock ∧ some k_ ≠ (v311 : Value).ownBlock) v301 t300) := ⟨h5_⟩
 have n6_ : Aside0 (Kd.R k91 91 w101 w.heap.size (fun k_ => some k_ ≠ (v253 : Value).ownBlock ∧ some k_ ≠ (.slice Ao53 t262.length co53 : Value).ownBlock ∧ some k_ ≠ (.slice Ao63 t269.length co63 : Value).ownBlock ∧ some k_ ≠ (.slice Ao72 t280.length co72 : Value).ownBlock ∧ some k_ ≠ (.slice Ao84 t288.length co84 : Value).ownBlock ∧ some k_ ≠ (v301 : Value).ownBlock) v311 t310) := ⟨h6_⟩
 have n7_ : Aside0 (w101.heap[gb247]? = some (.cells #[.int .i8 a0_0, .int .i8 a0_1, .slice A0_2 l0_2.length c0_2] 25 (0, 0))) := ⟨h7_⟩
 have n8_ : Aside0 (w101.heap[gb248]? = some (.cells #[.int .i8 a1_0, .int .i8 a1_1, .int .i8 a1_2, .int .i8 a1_3, .int .i8 a1_4] 88 (0, 0))) := ⟨h8_⟩
 have n9_ : Aside0 (w101.heap[gb266]? = some (.cells #[.int .i8 t260, .int .i8 t261, .slice Ao53 t262.length co53] 37 (0, 0))) := ⟨h9_⟩
 have n10_ : Aside0 (w101.heap[gb272]? = some (.cells #[.int .i8 t267, .int .i8 t268, .slice Ao63 t269.length co63] 37 (0, 0))) := ⟨h10_⟩
 have n11_ : Aside0 (w101.heap[gb284]? = some (.cells #[.int .i8 t278, .int .i8 t279, .slice Ao72 t280.length co72] 37 (0, 0))) := ⟨h11_⟩
 have n12_ : Aside0 (w101.heap[gb314]? = some (.cells #[.int .i8 0, .int .i8 0, .slice none 0 0] 37 (0, 0))) := ⟨h12_⟩
 have n13_ : Aside0 (w.heap.size ≤ gb314) := ⟨h13_⟩
 have n14_ : Aside0 (w.heap.size ≤ gb314) := ⟨h14_⟩
 have n15_ : Aside0 (gb247 ≠ gb314) := ⟨h15_⟩
 have n16_ : Aside0 (gb314 ≠ gb247) := ⟨h16_⟩
 have n17_ : Aside0 (gb248 ≠ gb314) := ⟨h17_⟩
 have n18_ : Aside0 (gb314 ≠ gb248) := ⟨h18_⟩
 have n19_ : Aside0 (gb266 ≠ gb314) := ⟨h19_⟩
 have n20_ : Aside0 (gb314 ≠ gb266) := ⟨h20_⟩
 have n21_ : Aside0 (gb272 ≠ gb314) := ⟨h21_⟩
 have n22_ : Aside0 (gb314 ≠ gb272) := ⟨h22_⟩
 have n23_ : Aside0 (gb284 ≠ gb314) := ⟨h23_⟩
 have n24_ : Aside0 (gb314 ≠ gb284) := ⟨h24_⟩
 have n25_ : Aside0 (Below w.heap.size w w101) := ⟨h25_⟩
 clear HO254
 clear HO264
 clear HO271
 clear HO282
 clear HO290
 clear BK247
 clear BK248
 clear BK266
 clear BK272
 clear BK284
 clear HB
 clear h0_ h1_ h2_ h3_ h4_ h5_ h6_ h7_ h8_ h9_ h10_ h11_ h12_ h13_ h14_ h15_ h16_ h17_ h18_ h19_ h20_ h21_ h22_ h23_ h24_ h25_
 have HO254 := n0_
 have HO264 := n1_
 have HO271 := n2_
 have HO282 := n3_
 have HO290 := n4_
 have HO302 := n5_
 have HO312 := n6_
 have BK247 := n7_
 have BK248 := n8_
 have BK266 := n9_
 have BK272 := n10_
 have BK284 := n11_
 have BK314 := n12_
 have GW314 := n13_
 have GE314 := n14_
 have NB247_314 := n15_
 have NB314_247 := n16_
 have NB248_314 := n17_
 have NB314_248 := n18_
 have NB266_314 := n19_
 have NB314_266 := n20_
 have NB272_314 := n21_
 have NB314_272 := n22_
 have NB284_314 := n23_
 have NB314_284 := n24_
 have HB := n25_
 clear n0_ n1_ n2_ n3_ n4_ n5_ n6_ n7_ n8_ n9_ n10_ n11_ n12_ n13_ n14_ n15_ n16_ n17_ n18_ n19_ n20_ n21_ n22_ n23_ n24_ n25_
 have hHeld : w101.cell? ⟨gb247, 0, none⟩ = some (.int .i8 a0_0) ∧ w101.cell? ⟨gb247, 1, none⟩ = some (.int .i8 a0_1) ∧ w101.cell? ⟨gb247, 2, none⟩ = some (.slice A0_2 l0_2.length c0_2) ∧ w101.cell? ⟨gb248, 0, none⟩ = some (.int .i8 a1_0) ∧ w101.cell? ⟨gb248, 1, none⟩ = some (.int .i8 a1_1) ∧ w101.cell? ⟨gb248, 2, none⟩ = some (.int .i8 a1_2) ∧ w101.cell? ⟨gb248, 3, none⟩ = some (.int .i8 a1_3) ∧ w101.cell? ⟨gb248, 4, none⟩ = some (.int .i8 a1_4) := hS_
 obtain ⟨Ao104, co104, eo104⟩ := Kd.R_slice HO312.out
 (first | subst eo104 | (injection eo104 with f1_ f2_ f3_; have f4_ := f1_.symm; have f5_ := f3_.symm; clear f1_ f2_ f3_; subst f4_; subst f5_))
 refine norm_ (a' := ?_) ?_ ?_
 rotate_left
 ·simp only [putAll, Act.put, List.setIfInBounds_toArray, List.set_cons_zero, List.set_cons_succ]
  rfl
 refine one_ (i := 9) (N := none) (zq 11 1023) rfl rfl (one_of HT_.out (by kernel_rfl)) (by decide) (fun K hK => ?_)
 have hs102 : w101.cell? ⟨gb314, 0, none⟩ = some (.int .i8 0) := (blk_cell BK314.out 0).trans rfl
 have hfs102 := blk_frozen BK314.out 0
 have hns102_0 := NB247_314.out
 have hns102_1 := NB248_314.out
 have hns102_2 := NB266_314.out
 have hns102_3 := NB272_314.out
 have hns102_4 := NB284_314.out
 have hms102_0 := NB314_247.out
 have hms102_1 := NB314_248.out
 have hms102_2 := NB314_266.out
 have hms102_3 := NB314_272.out
 have hms102_4 := NB314_284.out
 have hs103 : w101.cell? ⟨gb314, 1, none⟩ = some (.int .i8 0) := (blk_cell BK314.out 1).trans rfl
 have hfs103 := blk_frozen BK314.out 1
 have hns103_0 := NB247_314.out
 have hns103_1 := NB248_314.out
 have hns103_2 := NB266_314.out
 have hns103_3 := NB272_314.out
 have hns103_4 := NB284_314.out
 have hms103_0 := NB314_247.out
 have hms103_1 := NB314_248.out
 have hms103_2 := NB314_266.out
 have hms103_3 := NB314_272.out
 have hms103_4 := NB314_284.out
 have hs105 : w101.cell? ⟨gb314, 2, none⟩ = some (.slice none 0 0) := (blk_cell BK314.out 2).trans rfl
 have hfs105 := blk_frozen BK314.out 2
 have hns105_0 := NB247_314.out
 have hns105_1 := NB248_314.out
 have hns105_2 := NB266_314.out
 have hns105_3 := NB272_314.out
 have hns105_4 := NB284_314.out
 have hms105_0 := NB314_247.out
 have hms105_1 := NB314_248.out
 have hms105_2 := NB314_266.out
 have hms105_3 := NB314_272.out
 have hms105_4 := NB314_284.out
 refine skip_ (w1 := ?_) (by rfl) rfl ?_ ?_
 rotate_left
 ·go_simp
  rfl
 refine hK.out _ _ ⟨((cell_far (p := ⟨gb314, _, none⟩) NB247_314.out _).trans (((cell_far (p := ⟨gb314, _, none⟩) NB247_314.out _).trans (((cell_far (p := ⟨gb314, _, none⟩) NB247_314.out _).trans (hHeld.1)))))), ((cell_far (p := ⟨gb314, _, none⟩) NB247_314.out _).trans (((cell_far (p := ⟨gb314, _, none⟩) NB247_314.out _).trans (((cell_far (p := ⟨gb314, _, none⟩) NB247_314.out _).trans (hHeld.2.1)))))), ((cell_far (p := ⟨gb314, _, none⟩) NB247_314.out _).trans (((cell_far (p := ⟨gb314, _, none⟩) NB247_314.out _).trans (((cell_far (p := ⟨gb314, _, none⟩) NB247_314.out _).trans (hHeld.2.2.1)))))), ((cell_far (p := ⟨gb314, _, none⟩) NB248_314.out _).trans (((cell_far (p := ⟨gb314, _, none⟩) NB248_314.out _).trans (((cell_far (p := ⟨gb314, _, none⟩) NB248_314.out _).trans (hHeld.2.2.2.1)))))), ((cell_far (p := ⟨gb314, _, none⟩) NB248_314.out _).trans (((cell_far (p := ⟨gb314, _, none⟩) NB248_314.out _).trans (((cell_far (p := ⟨gb314, _, none⟩) NB248_314.out _).trans (hHeld.2.2.2.2.1)))))), ((cell_far (p := ⟨gb314, _, none⟩) NB248_314.out _).trans (((cell_far (p := ⟨gb314, _, none⟩) NB248_314.out _).trans (((cell_far (p := ⟨gb314, _, none⟩) NB248_314.out _).trans (hHeld.2.2.2.2.2.1)))))), ((cell_far (p := ⟨gb314, _, none⟩) NB248_314.out _).trans (((cell_far (p := ⟨gb314, _, none⟩) NB248_314.out _).trans (((cell_far (p := ⟨gb314, _, none⟩) NB248_314.out _).trans (hHeld.2.2.2.2.2.2.1)))))), ((cell_far (p := ⟨gb314, _, none⟩) NB248_314.out _).trans (((cell_far (p := ⟨gb314, _, none⟩) NB248_314.out _).trans (((cell_far (p := ⟨gb314, _, none⟩) NB248_314.out _).trans (hHeld.2.2.2.2.2.2.2))))))⟩ (fun hHeld => ?_)
 clear hK K
 refine zpu 10 (some 15) (zq 11 2047) HT_ ?_
 refine done_ (done_of HT_.out (by kernel_rfl)) ?_
 have hnb106 := NB314_247.out
 have hnc106 := NB247_314.out
 have hnb107 := NB314_248.out
 have hnc107 := NB248_314.out
 have hnb108 := NB314_266.out
 have hnc108 := NB266_314.out
 have hnb109 := NB314_272.out
 have hnc109 := NB272_314.out
 have hnb110 := NB314_284.out
 have hnc110 := NB284_314.out
 obtain ⟨z111_0, z111_1, z111_2, y111_0, y111_1, y111_2⟩ := zB3 BK314
 obtain ⟨z112_0, z112_1, z112_2, y112_0, y112_1, y112_2⟩ := zB3 BK266
 try go_wp2_with (first | ((with_reducible refine gate_callee (f := 44) rfl ?_); refine goesL_ (some 89) rfl rfl Try.func44 (by kernel_rfl) rfl #[.agg #[.int .i8 t308, .int .i8 t309, .slice Ao104 t310.length co104], .agg #[.int .i8 t260, .int .i8 t261, .slice Ao53 t262.length co53]] rfl (by (try simp only [List.map_toArray, List.map_cons, List.map_nil]); first | done | rfl | (simp only [List.length_drop, List.length_take]; rfl)) ?_; (with_reducible refine (laws_eqBoard.calls k t308 t309 _ _ t310 t260 t261 _ _ t262 true _ ?side1 ?side2 ?side3 ?side4 A33.out).mono ?_); (case side1 => exact (Kd.R_reads' (zs HO312 BK314).out).2.2); (case side2 => exact (Kd.R_reads' HO312.out).2.1); (case side3 => exact (Kd.R_reads' (zs HO264 BK314).out).2.2); (case side4 => exact (Kd.R_reads' HO264.out).2.1); rintro e w113 ⟨rfl, hb⟩; refine ⟨_, rfl, ?_⟩; have n_ : _ ∧ _ ∧ _ ∧ _ ∧ _ ∧ _ ∧ _ ∧ _ ∧ _ ∧ _ ∧ _ ∧ _ ∧ _ ∧ _ := ⟨zsb HO254 BK314 hb, zsb HO264 BK314 hb, zsb HO271 BK314 hb, zsb HO282 BK314 hb, zsb HO290 BK314 hb, zsb HO302 BK314 hb, zsb HO312 BK314 hb, zfb BK247 NB247_314 hb, zfb BK248 NB248_314 hb, zfb BK266 NB266_314 hb, zfb BK272 NB272_314 hb, zfb BK284 NB284_314 hb, Aside0.mk (blk_below (g := gb314) (o := .cells #[.int .i8 t308, .int .i8 t309, .slice Ao104 t310.length co104] 37 (0, 0)) (by (with_reducible repeat (first | refine blk_drewN ?_ _ | refine blk_drew ?_ | refine blk_alloc ?_ _)); refine blk_put (cs := #[.int .i8 t308, .int .i8 t309, .slice none 0 0]) ?_ 2 _ rfl; (with_reducible repeat (first | refine blk_drewN ?_ _ | refine blk_drew ?_ | refine blk_alloc ?_ _)); refine blk_put (cs := #[.int .i8 t308, .int .i8 0, .slice none 0 0]) ?_ 1 _ rfl; (with_reducible repeat (first | refine blk_drewN ?_ _ | refine blk_drew ?_ | refine blk_alloc ?_ _)); refine blk_put (cs := #[.int .i8 0, .int .i8 0, .slice none 0 0]) ?_ 0 _ rfl; (with_reducible repeat (first | refine blk_drewN ?_ _ | refine blk_drew ?_ | refine blk_alloc ?_ _)); exact BK314.out) hb), zbs hb⟩; clear HO254 HO264 HO271 HO282 HO290 HO302 HO312 BK247 BK248 BK266 BK272 BK284 BK314 HB; obtain ⟨HO254, HO264, HO271, HO282, HO290, HO302, HO312, BK247, BK248, BK266, BK272, BK284, BK314, HB⟩ := n_; (try clear hb); (try clear hb2); (try clear hk); (try clear hi); obtain ⟨z114_0, z114_1, z114_2, y114_0, y114_1, y114_2⟩ := zB3 BK284) | ((with_reducible refine gate_callee (f := 51) rfl ?_); refine goesL_ (some 98) rfl rfl Try.func51 (by kernel_rfl) rfl #[.agg #[.int .i8 t278, .int .i8 t279, .slice Ao72 t296.length co72], .int .i64 1] rfl (by (try simp only [List.map_toArray, List.map_cons, List.map_nil]); first | done | (rw [show t296.length = t280.length from (Kd.R_reads' HO282.out).1.symm] <;> rfl) | rfl | (simp only [List.length_drop, List.length_take]; rfl)) ?_; (with_reducible refine (laws_heldBoard.calls k t278 t279 _ _ t296 1 t316 _ ?side1 ?side2 A36.out).mono ?_); (case side1 => exact zrc HO282); (case side2 => rw [show t296.length = t280.length from (Kd.R_reads' HO282.out).1.symm]; exact (Kd.R_reads' HO282.out).2.1); rintro e w115 ⟨rfl, hb⟩; refine ⟨_, rfl, ?_⟩; have n_ : _ ∧ _ ∧ _ ∧ _ ∧ _ ∧ _ ∧ _ ∧ _ ∧ _ ∧ _ ∧ _ ∧ _ ∧ _ ∧ _ := ⟨zr HO254 hb, zr HO264 hb, zr HO271 hb, zr HO282 hb, zr HO290 hb, zr HO302 hb, zr HO312 hb, zk BK247 hb, zk BK248 hb, zk BK266 hb, zk BK272 hb, zk BK284 hb, zk BK314 hb, zbs hb⟩; clear HO254 HO264 HO271 HO282 HO290 HO302 HO312 BK247 BK248 BK266 BK272 BK284 BK314 HB; obtain ⟨HO254, HO264, HO271, HO282, HO290, HO302, HO312, BK247, BK248, BK266, BK272, BK284, BK314, HB⟩ := n_; (try clear hb); (try clear hb2); (try clear hk); (try clear hi)))
 go_ret
 exact ⟨by first | rfl | (simp [errW_none, errW_some] <;> rfl) | (simp [*, errW_none, errW_some] <;> rfl), by repeat (first | (with_reducible first | exact HB.out | apply below_alloc | apply pw_below_drewN | apply below_drew1 | refine below_set ?_ GE247.out | refine below_set ?_ GE248.out | refine below_set ?_ GE266.out | refine below_set ?_ GE272.out | refine below_set ?_ GE284.out | refine below_set ?_ GE314.out) | exact HB.out)⟩
end Go.Proofs.Ytffnfpnajkgnaaa.PFnExactPutPiece
