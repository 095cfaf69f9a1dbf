-- WRITTEN by xprint.py, a program of this session's. Not trusted: Lean checks it.
-- packed by pack.py
import Derived.Test.YtffnfpnajkgnaaaPFnExactMoveBoardx0
import Derived.Test.YtffnfpnajkgnaaaPFnExactMoveBoardx2
import Derived.Test.YtffnfpnajkgnaaaPFnExactMoveBoardx3
import Derived.Test.YtffnfpnajkgnaaaPFnExactMoveBoardx4
import Derived.Test.YtffnfpnajkgnaaaPFnExactMoveBoardx7
import Derived.Test.YtffnfpnajkgnaaaPFnExactMoveBoardx8
import Derived.Test.YtffnfpnajkgnaaaTFnExactMoveBoarda
namespace Go.Proofs.Ytffnfpnajkgnaaa.PFnExactMoveBoard
open Go.RowKit Go.Proofs.YtffnfpnajkgnaaaW.PrintWords Go.Proofs.YtffnfpnajkgnaaaW.PrintLast Go.Proofs.YtffnfpnajkgnaaaW.PrintMore Go.Proofs.YtffnfpnajkgnaaaX
attribute [local go_sem] max2_int min2_int max_two min_two max_three min_three max_four min_four   -- for this text's walks alone
set_option linter.unusedVariables false
set_option linter.unusedSimpArgs false

/-! ### laws_FnExactMoveBoard: function 13 -/
def laws_FnExactMoveBoard.f (k : Nat) (a0_0 : Int) (a0_1 : Int) (l0_2 : List (S88)) (a1 : Int) (a2 : Int) : Option (Bool) := (laws_szBoard.f a0_0 a0_1 l0_2 1048576).bind fun t244 => (if t244 < 0 then (some true) else ((laws_toBoard.f k a0_0 a0_1 l0_2).bind fun bt245 => ((spec_MoveBoard.f k bt245.1 bt245.2.1 bt245.2.2 a1 a2).bind fun bt250 => ((laws_toBoard.f k a0_0 a0_1 l0_2).bind fun bt257 => ((impl_MoveBoard.f k bt257.1 bt257.2.1 bt257.2.2 a1 a2).bind fun bt263 => ((laws_eqBoard.f k bt263.1 bt263.2.1 bt263.2.2.1 bt250.1 bt250.2.1 bt250.2.2.1).bind fun t270 => (if t270 = true then (if bt263.2.2.2 = bt250.2.2.2 then ((laws_toBoard.f k a0_0 a0_1 l0_2).bind fun bt271 => ((laws_eqBoard.f k bt257.1 bt257.2.1 bt257.2.2 bt271.1 bt271.2.1 bt271.2.2).bind fun t276 => (if t276 = true then ((laws_markBoard.f k bt257.1 bt257.2.1 bt257.2.2 1).bind fun bt277 => (if bt277.1 < 0 then (none) else ((laws_eqBoard.f k bt263.1 bt263.2.1 bt263.2.2.1 bt250.1 bt250.2.1 bt250.2.2.1).bind fun t279 => (if t279 = true then ((laws_markBoard.f k bt263.1 bt263.2.1 bt263.2.2.1 1).bind fun bt280 => ((laws_heldBoard.f k bt263.1 bt263.2.1 bt280.2 1).bind fun t282 => (if t282 < 0 then (none) else (if t282 = bt280.1 then ((laws_toBoard.f k a0_0 a0_1 l0_2).bind fun bt283 => ((impl_MoveBoard.f k bt283.1 bt283.2.1 bt283.2.2 a1 a2).bind fun bt288 => ((laws_eqBoard.f k bt288.1 bt288.2.1 bt288.2.2.1 bt250.1 bt250.2.1 bt250.2.2.1).bind fun t295 => (if t295 = true then (if bt288.2.2.2 = bt250.2.2.2 then ((laws_heldBoard.f k bt263.1 bt263.2.1 bt280.2 1).bind fun t296 => (if t296 < 0 then (none) else (if t296 = bt280.1 then (some true) else (none)))) else (none)) else (none))))) else (none))))) else (none))))) else (none)))) else (none)) else (none))))))))
theorem laws_FnExactMoveBoard.mono : ∀ a0 a1 a2 a3 a4 k, LeO (laws_FnExactMoveBoard.f k a0 a1 a2 a3 a4) (laws_FnExactMoveBoard.f (k + 1) a0 a1 a2 a3 a4) := by
 intro a0 a1 a2 a3 a4 k
 unfold laws_FnExactMoveBoard.f
 repeat' first | (with_reducible first | apply impl_MoveBoard.mono | apply laws_eqBoard.mono | apply laws_heldBoard.mono | apply laws_markBoard.mono | apply laws_toBoard.mono | apply spec_MoveBoard.mono | exact LeO.refl _ | exact LeO.none _ | refine LeO.ite ?_ ?_ | refine LeO.bind ?_ (fun _ => ?_)) | apply impl_MoveBoard.mono | apply laws_eqBoard.mono | apply laws_heldBoard.mono | apply laws_markBoard.mono | apply laws_toBoard.mono | apply spec_MoveBoard.mono | exact LeO.none _ | refine LeO.ite ?_ ?_ | refine LeO.bind ?_ (fun _ => ?_)
set_option maxHeartbeats 8000000 in
set_option maxRecDepth 100000 in
theorem laws_FnExactMoveBoard.calls (k : Nat) (a0_0 : Int) (a0_1 : Int) (A0_2 : Option Addr) (c0_2 : Nat) (l0_2 : List (S88)) (a1 : Int) (a2 : Int) (r : Bool) (w : World) (hr0_2 : Kd.C k88 w A0_2 l0_2.length l0_2) (hc0_2 : l0_2.length ≤ c0_2) (h : laws_FnExactMoveBoard.f k a0_0 a0_1 l0_2 a1 a2 = some r) :
    Calls Try.prog 13 #[.agg #[.int .i8 a0_0, .int .i8 a0_1, .slice A0_2 l0_2.length c0_2], .int .i64 a1, .int .i64 a2] w fun e w' => e = .returned (.bool r) ∧ Below w.heap.size w w' := by
 have hu25 := Try.underlying25
 have hu37 := Try.underlying37
 have HR0_2 := Aside0.mk hr0_2
 have HC0_2 := Aside0.mk hc0_2
 clear hr0_2 hc0_2
 have HB := Aside0.mk (Below.refl w.heap.size w)
 have H : ((laws_szBoard.f a0_0 a0_1 l0_2 1048576).bind fun t244 => (if t244 < 0 then (some true) else ((laws_toBoard.f k a0_0 a0_1 l0_2).bind fun bt245 => ((spec_MoveBoard.f k bt245.1 bt245.2.1 bt245.2.2 a1 a2).bind fun bt250 => ((laws_toBoard.f k a0_0 a0_1 l0_2).bind fun bt257 => ((impl_MoveBoard.f k bt257.1 bt257.2.1 bt257.2.2 a1 a2).bind fun bt263 => ((laws_eqBoard.f k bt263.1 bt263.2.1 bt263.2.2.1 bt250.1 bt250.2.1 bt250.2.2.1).bind fun t270 => (if t270 = true then (if bt263.2.2.2 = bt250.2.2.2 then ((laws_toBoard.f k a0_0 a0_1 l0_2).bind fun bt271 => ((laws_eqBoard.f k bt257.1 bt257.2.1 bt257.2.2 bt271.1 bt271.2.1 bt271.2.2).bind fun t276 => (if t276 = true then ((laws_markBoard.f k bt257.1 bt257.2.1 bt257.2.2 1).bind fun bt277 => (if bt277.1 < 0 then (none) else ((laws_eqBoard.f k bt263.1 bt263.2.1 bt263.2.2.1 bt250.1 bt250.2.1 bt250.2.2.1).bind fun t279 => (if t279 = true then ((laws_markBoard.f k bt263.1 bt263.2.1 bt263.2.2.1 1).bind fun bt280 => ((laws_heldBoard.f k bt263.1 bt263.2.1 bt280.2 1).bind fun t282 => (if t282 < 0 then (none) else (if t282 = bt280.1 then ((laws_toBoard.f k a0_0 a0_1 l0_2).bind fun bt283 => ((impl_MoveBoard.f k bt283.1 bt283.2.1 bt283.2.2 a1 a2).bind fun bt288 => ((laws_eqBoard.f k bt288.1 bt288.2.1 bt288.2.2.1 bt250.1 bt250.2.1 bt250.2.2.1).bind fun t295 => (if t295 = true then (if bt288.2.2.2 = bt250.2.2.2 then ((laws_heldBoard.f k bt263.1 bt263.2.1 bt280.2 1).bind fun t296 => (if t296 < 0 then (none) else (if t296 = bt280.1 then (some true) else (none)))) else (none)) else (none))))) else (none))))) else (none))))) else (none)))) else (none)) else (none))))))))) = some r := h
 clear h
 replace H := Option.bind_eq_some_iff.mp H
 obtain ⟨t244, A40, H⟩ := H
 replace H : (if t244 < 0 then (some true) else ((laws_toBoard.f k a0_0 a0_1 l0_2).bind fun bt245 => ((spec_MoveBoard.f k bt245.1 bt245.2.1 bt245.2.2 a1 a2).bind fun bt250 => ((laws_toBoard.f k a0_0 a0_1 l0_2).bind fun bt257 => ((impl_MoveBoard.f k bt257.1 bt257.2.1 bt257.2.2 a1 a2).bind fun bt263 => ((laws_eqBoard.f k bt263.1 bt263.2.1 bt263.2.2.1 bt250.1 bt250.2.1 bt250.2.2.1).bind fun t270 => (if t270 = true then (if bt263.2.2.2 = bt250.2.2.2 then ((laws_toBoard.f k a0_0 a0_1 l0_2).bind fun bt271 => ((laws_eqBoard.f k bt257.1 bt257.2.1 bt257.2.2 bt271.1 bt271.2.1 bt271.2.2).bind fun t276 => (if t276 = true then ((laws_markBoard.f k bt257.1 bt257.2.1 bt257.2.2 1).bind fun bt277 => (if bt277.1 < 0 then (none) else ((laws_eqBoard.f k bt263.1 bt263.2.1 bt263.2.2.1 bt250.1 bt250.2.1 bt250.2.2.1).bind fun t279 => (if t279 = true then ((laws_markBoard.f k bt263.1 bt263.2.1 bt263.2.2.1 1).bind fun bt280 => ((laws_heldBoard.f k bt263.1 bt263.2.1 bt280.2 1).bind fun t282 => (if t282 < 0 then (none) else (if t282 = bt280.1 then ((laws_toBoard.f k a0_0 a0_1 l0_2).bind fun bt283 => ((impl_MoveBoard.f k bt283.1 bt283.2.1 bt283.2.2 a1 a2).bind fun bt288 => ((laws_eqBoard.f k bt288.1 bt288.2.1 bt288.2.2.1 bt250.1 bt250.2.1 bt250.2.2.1).bind fun t295 => (if t295 = true then (if bt288.2.2.2 = bt250.2.2.2 then ((laws_heldBoard.f k bt263.1 bt263.2.1 bt280.2 1).bind fun t296 => (if t296 < 0 then (none) else (if t296 = bt280.1 then (some true) else (none)))) else (none)) else (none))))) else (none))))) else (none))))) else (none)))) else (none)) else (none)))))))) = some r := H
 have A4 := Aside0.mk A40
 clear A40
 by_cases c5 : t244 < 0
 ·rw [if_pos c5] at H
  have c5b0 : decide (t244 < 0) = true := decide_eq_true c5
  clear c5
  obtain rfl := Option.some.inj H
  go_enter Try.func13, Try.ntmps13
  go_wp2_with (first | ((with_reducible refine gate_dst (N := 3) rfl ?_); refine box_event ?hg (N := 3) ?hd (cs := #[.int .i8 a0_0, .int .i8 a0_1, .slice A0_2 l0_2.length c0_2]) (t := 25) ?hr ?_; (case hd => rfl); (case hg => rfl); (case hr => first | (go_simp; done) | (go_simp; rfl)); intro gb243 hg w6 hbox hb; have n_ : _ ∧ _ ∧ _ ∧ _ := ⟨zb HB hb, Aside0.mk (hbox), zg HB hg, zg HB hg⟩; clear HB; obtain ⟨HB, BK243, GW243, GE243⟩ := n_; clear hb hbox hg; obtain ⟨z7_0, z7_1, z7_2, y7_0, y7_1, y7_2⟩ := zB3 BK243) | ((with_reducible refine gate_callee (f := 40) rfl ?_); refine goesL_ (some 20) rfl rfl Try.func40 (by kernel_rfl) rfl #[.agg #[.int .i8 a0_0, .int .i8 a0_1, .slice A0_2 l0_2.length c0_2], .int .i64 1048576] rfl (by (try simp only [List.map_toArray, List.map_cons, List.map_nil]); first | done | rfl | (simp only [List.length_drop, List.length_take]; rfl)) ?_; (with_reducible refine (laws_szBoard.calls a0_0 a0_1 _ _ l0_2 1048576 t244 _ ?side1 ?side2 A4.out).mono ?_); (case side1 => exact zcc HB HR0_2.out); (case side2 => exact HC0_2.out); rintro e w8 ⟨rfl, hb⟩; refine ⟨_, rfl, ?_⟩; have n_ : _ ∧ _ := ⟨zk BK243 hb, zbs hb⟩; clear BK243 HB; obtain ⟨BK243, HB⟩ := n_; (try clear hb); (try clear hb2); (try clear hk); (try clear hi)))
  go_ret
  exact ⟨by first | rfl | (simp [errW_none, errW_some] <;> rfl) | (simp [*, errW_none, errW_some] <;> rfl), by repeat (first | (with_reducible first | exact HB.out | apply below_alloc | apply pw_below_drewN | apply below_drew1 | refine below_set ?_ GE243.out) | exact HB.out)⟩
 rw [if_neg c5] at H
 have c5b0 : decide (t244 < 0) = false := decide_eq_false c5
 clear c5
 replace H := Option.bind_eq_some_iff.mp H
 obtain ⟨⟨t245, t246, t247⟩, A90, H⟩ := H
 replace H : ((spec_MoveBoard.f k t245 t246 t247 a1 a2).bind fun bt250 => ((laws_toBoard.f k a0_0 a0_1 l0_2).bind fun bt257 => ((impl_MoveBoard.f k bt257.1 bt257.2.1 bt257.2.2 a1 a2).bind fun bt263 => ((laws_eqBoard.f k bt263.1 bt263.2.1 bt263.2.2.1 bt250.1 bt250.2.1 bt250.2.2.1).bind fun t270 => (if t270 = true then (if bt263.2.2.2 = bt250.2.2.2 then ((laws_toBoard.f k a0_0 a0_1 l0_2).bind fun bt271 => ((laws_eqBoard.f k bt257.1 bt257.2.1 bt257.2.2 bt271.1 bt271.2.1 bt271.2.2).bind fun t276 => (if t276 = true then ((laws_markBoard.f k bt257.1 bt257.2.1 bt257.2.2 1).bind fun bt277 => (if bt277.1 < 0 then (none) else ((laws_eqBoard.f k bt263.1 bt263.2.1 bt263.2.2.1 bt250.1 bt250.2.1 bt250.2.2.1).bind fun t279 => (if t279 = true then ((laws_markBoard.f k bt263.1 bt263.2.1 bt263.2.2.1 1).bind fun bt280 => ((laws_heldBoard.f k bt263.1 bt263.2.1 bt280.2 1).bind fun t282 => (if t282 < 0 then (none) else (if t282 = bt280.1 then ((laws_toBoard.f k a0_0 a0_1 l0_2).bind fun bt283 => ((impl_MoveBoard.f k bt283.1 bt283.2.1 bt283.2.2 a1 a2).bind fun bt288 => ((laws_eqBoard.f k bt288.1 bt288.2.1 bt288.2.2.1 bt250.1 bt250.2.1 bt250.2.2.1).bind fun t295 => (if t295 = true then (if bt288.2.2.2 = bt250.2.2.2 then ((laws_heldBoard.f k bt263.1 bt263.2.1 bt280.2 1).bind fun t296 => (if t296 < 0 then (none) else (if t296 = bt280.1 then (some true) else (none)))) else (none)) else (none))))) else (none))))) else (none))))) else (none)))) else (none)) else (none)))))) = some r := H
 have A9 := Aside0.mk A90
 clear A90
 replace H := Option.bind_eq_some_iff.mp H
 obtain ⟨⟨t250, t251, t252, t255⟩, A100, H⟩ := H
 replace H : ((laws_toBoard.f k a0_0 a0_1 l0_2).bind fun bt257 => ((impl_MoveBoard.f k bt257.1 bt257.2.1 bt257.2.2 a1 a2).bind fun bt263 => ((laws_eqBoard.f k bt263.1 bt263.2.1 bt263.2.2.1 t250 t251 t252).bind fun t270 => (if t270 = true then (if bt263.2.2.2 = t255 then ((laws_toBoard.f k a0_0 a0_1 l0_2).bind fun bt271 => ((laws_eqBoard.f k bt257.1 bt257.2.1 bt257.2.2 bt271.1 bt271.2.1 bt271.2.2).bind fun t276 => (if t276 = true then ((laws_markBoard.f k bt257.1 bt257.2.1 bt257.2.2 1).bind fun bt277 => (if bt277.1 < 0 then (none) else ((laws_eqBoard.f k bt263.1 bt263.2.1 bt263.2.2.1 t250 t251 t252).bind fun t279 => (if t279 = true then ((laws_markBoard.f k bt263.1 bt263.2.1 bt263.2.2.1 1).bind fun bt280 => ((laws_heldBoard.f k bt263.1 bt263.2.1 bt280.2 1).bind fun t282 => (if t282 < 0 then (none) else (if t282 = bt280.1 then ((laws_toBoard.f k a0_0 a0_1 l0_2).bind fun bt283 => ((impl_MoveBoard.f k bt283.1 bt283.2.1 bt283.2.2 a1 a2).bind fun bt288 => ((laws_eqBoard.f k bt288.1 bt288.2.1 bt288.2.2.1 t250 t251 t252).bind fun t295 => (if t295 = true then (if bt288.2.2.2 = t255 then ((laws_heldBoard.f k bt263.1 bt263.2.1 bt280.2 1).bind fun t296 => (if t296 < 0 then (none) else (if t296 = bt280.1 then (some true) else (none)))) else (none)) else (none))))) else (none))))) else (none))))) else (none)))) else (none)) else (none))))) = some r := H
 have A10 := Aside0.mk A100
 clear A100
 replace H := Option.bind_eq_some_iff.mp H
 obtain ⟨⟨t257, t258, t259⟩, A110, H⟩ := H
 replace H : ((impl_MoveBoard.f k t257 t258 t259 a1 a2).bind fun bt263 => ((laws_eqBoard.f k bt263.1 bt263.2.1 bt263.2.2.1 t250 t251 t252).bind fun t270 => (if t270 = true then (if bt263.2.2.2 = t255 then ((laws_toBoard.f k a0_0 a0_1 l0_2).bind fun bt271 => ((laws_eqBoard.f k t257 t258 t259 bt271.1 bt271.2.1 bt271.2.2).bind fun t276 => (if t276 = true then ((laws_markBoard.f k t257 t258 t259 1).bind fun bt277 => (if bt277.1 < 0 then (none) else ((laws_eqBoard.f k bt263.1 bt263.2.1 bt263.2.2.1 t250 t251 t252).bind fun t279 => (if t279 = true then ((laws_markBoard.f k bt263.1 bt263.2.1 bt263.2.2.1 1).bind fun bt280 => ((laws_heldBoard.f k bt263.1 bt263.2.1 bt280.2 1).bind fun t282 => (if t282 < 0 then (none) else (if t282 = bt280.1 then ((laws_toBoard.f k a0_0 a0_1 l0_2).bind fun bt283 => ((impl_MoveBoard.f k bt283.1 bt283.2.1 bt283.2.2 a1 a2).bind fun bt288 => ((laws_eqBoard.f k bt288.1 bt288.2.1 bt288.2.2.1 t250 t251 t252).bind fun t295 => (if t295 = true then (if bt288.2.2.2 = t255 then ((laws_heldBoard.f k bt263.1 bt263.2.1 bt280.2 1).bind fun t296 => (if t296 < 0 then (none) else (if t296 = bt280.1 then (some true) else (none)))) else (none)) else (none))))) else (none))))) else (none))))) else (none)))) else (none)) else (none)))) = some r := H
 have A11 := Aside0.mk A110
 clear A110
 replace H := Option.bind_eq_some_iff.mp H
 obtain ⟨⟨t263, t264, t265, t268⟩, A120, H⟩ := H
 replace H : ((laws_eqBoard.f k t263 t264 t265 t250 t251 t252).bind fun t270 => (if t270 = true then (if t268 = t255 then ((laws_toBoard.f k a0_0 a0_1 l0_2).bind fun bt271 => ((laws_eqBoard.f k t257 t258 t259 bt271.1 bt271.2.1 bt271.2.2).bind fun t276 => (if t276 = true then ((laws_markBoard.f k t257 t258 t259 1).bind fun bt277 => (if bt277.1 < 0 then (none) else ((laws_eqBoard.f k t263 t264 t265 t250 t251 t252).bind fun t279 => (if t279 = true then ((laws_markBoard.f k t263 t264 t265 1).bind fun bt280 => ((laws_heldBoard.f k t263 t264 bt280.2 1).bind fun t282 => (if t282 < 0 then (none) else (if t282 = bt280.1 then ((laws_toBoard.f k a0_0 a0_1 l0_2).bind fun bt283 => ((impl_MoveBoard.f k bt283.1 bt283.2.1 bt283.2.2 a1 a2).bind fun bt288 => ((laws_eqBoard.f k bt288.1 bt288.2.1 bt288.2.2.1 t250 t251 t252).bind fun t295 => (if t295 = true then (if bt288.2.2.2 = t255 then ((laws_heldBoard.f k t263 t264 bt280.2 1).bind fun t296 => (if t296 < 0 then (none) else (if t296 = bt280.1 then (some true) else (none)))) else (none)) else (none))))) else (none))))) else (none))))) else (none)))) else (none)) else (none))) = some r := H
 have A12 := Aside0.mk A120
 clear A120
 replace H := Option.bind_eq_some_iff.mp H
 obtain ⟨t270, A130, H⟩ := H
 replace H : (if t270 = true then (if t268 = t255 then ((laws_toBoard.f k a0_0 a0_1 l0_2).bind fun bt271 => ((laws_eqBoard.f k t257 t258 t259 bt271.1 bt271.2.1 bt271.2.2).bind fun t276 => (if t276 = true then ((laws_markBoard.f k t257 t258 t259 1).bind fun bt277 => (if bt277.1 < 0 then (none) else ((laws_eqBoard.f k t263 t264 t265 t250 t251 t252).bind fun t279 => (if t279 = true then ((laws_markBoard.f k t263 t264 t265 1).bind fun bt280 => ((laws_heldBoard.f k t263 t264 bt280.2 1).bind fun t282 => (if t282 < 0 then (none) else (if t282 = bt280.1 then ((laws_toBoard.f k a0_0 a0_1 l0_2).bind fun bt283 => ((impl_MoveBoard.f k bt283.1 bt283.2.1 bt283.2.2 a1 a2).bind fun bt288 => ((laws_eqBoard.f k bt288.1 bt288.2.1 bt288.2.2.1 t250 t251 t252).bind fun t295 => (if t295 = true then (if bt288.2.2.2 = t255 then ((laws_heldBoard.f k t263 t264 bt280.2 1).bind fun t296 => (if t296 < 0 then (none) else (if t296 = bt280.1 then (some true) else (none)))) else (none)) else (none))))) else (none))))) else (none))))) else (none)))) else (none)) else (none)) = some r := H
 have A13 := Aside0.mk A130
 clear A130
 by_cases c14 : t270 = true
 rotate_left
 ·replace c14 := Bool.eq_false_iff.mpr c14
  subst c14
  have H1 : (none) = some r := by rw [if_neg (show ¬ (false = true) by decide)] at H; exact H
  clear H
  have H := H1
  clear H1
  exact absurd H (by simp)
 subst c14
 have H1 : (if t268 = t255 then ((laws_toBoard.f k a0_0 a0_1 l0_2).bind fun bt271 => ((laws_eqBoard.f k t257 t258 t259 bt271.1 bt271.2.1 bt271.2.2).bind fun t276 => (if t276 = true then ((laws_markBoard.f k t257 t258 t259 1).bind fun bt277 => (if bt277.1 < 0 then (none) else ((laws_eqBoard.f k t263 t264 t265 t250 t251 t252).bind fun t279 => (if t279 = true then ((laws_markBoard.f k t263 t264 t265 1).bind fun bt280 => ((laws_heldBoard.f k t263 t264 bt280.2 1).bind fun t282 => (if t282 < 0 then (none) else (if t282 = bt280.1 then ((laws_toBoard.f k a0_0 a0_1 l0_2).bind fun bt283 => ((impl_MoveBoard.f k bt283.1 bt283.2.1 bt283.2.2 a1 a2).bind fun bt288 => ((laws_eqBoard.f k bt288.1 bt288.2.1 bt288.2.2.1 t250 t251 t252).bind fun t295 => (if t295 = true then (if bt288.2.2.2 = t255 then ((laws_heldBoard.f k t263 t264 bt280.2 1).bind fun t296 => (if t296 < 0 then (none) else (if t296 = bt280.1 then (some true) else (none)))) else (none)) else (none))))) else (none))))) else (none))))) else (none)))) else (none)) = some r := by rw [if_pos rfl] at H; exact H
 clear H
 have H := H1
 clear H1
 by_cases c15 : t268 = t255
 rotate_left
 ·rw [if_neg c15] at H
  exact absurd H (by simp)
 rw [if_pos c15] at H
 have c15b0 : (t268 == t255) = true := beq_iff_eq.mpr c15
 have c15b1 : (t268 != t255) = false := bne_eq_false_iff_eq.mpr c15
 clear c15
 replace H := Option.bind_eq_some_iff.mp H
 obtain ⟨⟨t271, t272, t273⟩, A160, H⟩ := H
 replace H : ((laws_eqBoard.f k t257 t258 t259 t271 t272 t273).bind fun t276 => (if t276 = true then ((laws_markBoard.f k t257 t258 t259 1).bind fun bt277 => (if bt277.1 < 0 then (none) else ((laws_eqBoard.f k t263 t264 t265 t250 t251 t252).bind fun t279 => (if t279 = true then ((laws_markBoard.f k t263 t264 t265 1).bind fun bt280 => ((laws_heldBoard.f k t263 t264 bt280.2 1).bind fun t282 => (if t282 < 0 then (none) else (if t282 = bt280.1 then ((laws_toBoard.f k a0_0 a0_1 l0_2).bind fun bt283 => ((impl_MoveBoard.f k bt283.1 bt283.2.1 bt283.2.2 a1 a2).bind fun bt288 => ((laws_eqBoard.f k bt288.1 bt288.2.1 bt288.2.2.1 t250 t251 t252).bind fun t295 => (if t295 = true then (if bt288.2.2.2 = t255 then ((laws_heldBoard.f k t263 t264 bt280.2 1).bind fun t296 => (if t296 < 0 then (none) else (if t296 = bt280.1 then (some true) else (none)))) else (none)) else (none))))) else (none))))) else (none))))) else (none))) = some r := H
 have A16 := Aside0.mk A160
 clear A160
 replace H := Option.bind_eq_some_iff.mp H
 obtain ⟨t276, A170, H⟩ := H
 replace H : (if t276 = true then ((laws_markBoard.f k t257 t258 t259 1).bind fun bt277 => (if bt277.1 < 0 then (none) else ((laws_eqBoard.f k t263 t264 t265 t250 t251 t252).bind fun t279 => (if t279 = true then ((laws_markBoard.f k t263 t264 t265 1).bind fun bt280 => ((laws_heldBoard.f k t263 t264 bt280.2 1).bind fun t282 => (if t282 < 0 then (none) else (if t282 = bt280.1 then ((laws_toBoard.f k a0_0 a0_1 l0_2).bind fun bt283 => ((impl_MoveBoard.f k bt283.1 bt283.2.1 bt283.2.2 a1 a2).bind fun bt288 => ((laws_eqBoard.f k bt288.1 bt288.2.1 bt288.2.2.1 t250 t251 t252).bind fun t295 => (if t295 = true then (if bt288.2.2.2 = t255 then ((laws_heldBoard.f k t263 t264 bt280.2 1).bind fun t296 => (if t296 < 0 then (none) else (if t296 = bt280.1 then (some true) else (none)))) else (none)) else (none))))) else (none))))) else (none))))) else (none)) = some r := H
 have A17 := Aside0.mk A170
 clear A170
 by_cases c18 : t276 = true
 rotate_left
 ·replace c18 := Bool.eq_false_iff.mpr c18
  subst c18
  have H1 : (none) = some r := by rw [if_neg (show ¬ (false = true) by decide)] at H; exact H
  clear H
  have H := H1
  clear H1
  exact absurd H (by simp)
 subst c18
 have H1 : ((laws_markBoard.f k t257 t258 t259 1).bind fun bt277 => (if bt277.1 < 0 then (none) else ((laws_eqBoard.f k t263 t264 t265 t250 t251 t252).bind fun t279 => (if t279 = true then ((laws_markBoard.f k t263 t264 t265 1).bind fun bt280 => ((laws_heldBoard.f k t263 t264 bt280.2 1).bind fun t282 => (if t282 < 0 then (none) else (if t282 = bt280.1 then ((laws_toBoard.f k a0_0 a0_1 l0_2).bind fun bt283 => ((impl_MoveBoard.f k bt283.1 bt283.2.1 bt283.2.2 a1 a2).bind fun bt288 => ((laws_eqBoard.f k bt288.1 bt288.2.1 bt288.2.2.1 t250 t251 t252).bind fun t295 => (if t295 = true then (if bt288.2.2.2 = t255 then ((laws_heldBoard.f k t263 t264 bt280.2 1).bind fun t296 => (if t296 < 0 then (none) else (if t296 = bt280.1 then (some true) else (none)))) else (none)) else (none))))) else (none))))) else (none))))) = some r := by rw [if_pos rfl] at H; exact H
 clear H
 have H := H1
 clear H1
 replace H := Option.bind_eq_some_iff.mp H
 obtain ⟨⟨t277, t278⟩, A190, H⟩ := H
 replace H : (if t277 < 0 then (none) else ((laws_eqBoard.f k t263 t264 t265 t250 t251 t252).bind fun t279 => (if t279 = true then ((laws_markBoard.f k t263 t264 t265 1).bind fun bt280 => ((laws_heldBoard.f k t263 t264 bt280.2 1).bind fun t282 => (if t282 < 0 then (none) else (if t282 = bt280.1 then ((laws_toBoard.f k a0_0 a0_1 l0_2).bind fun bt283 => ((impl_MoveBoard.f k bt283.1 bt283.2.1 bt283.2.2 a1 a2).bind fun bt288 => ((laws_eqBoard.f k bt288.1 bt288.2.1 bt288.2.2.1 t250 t251 t252).bind fun t295 => (if t295 = true then (if bt288.2.2.2 = t255 then ((laws_heldBoard.f k t263 t264 bt280.2 1).bind fun t296 => (if t296 < 0 then (none) else (if t296 = bt280.1 then (some true) else (none)))) else (none)) else (none))))) else (none))))) else (none)))) = some r := H
 have A19 := Aside0.mk A190
 clear A190
 by_cases c20 : t277 < 0
 ·rw [if_pos c20] at H
  exact absurd H (by simp)
 rw [if_neg c20] at H
 have c20b0 : decide (t277 < 0) = false := decide_eq_false c20
 clear c20
 replace H := Option.bind_eq_some_iff.mp H
 obtain ⟨t279, A210, H⟩ := H
 replace H : (if t279 = true then ((laws_markBoard.f k t263 t264 t265 1).bind fun bt280 => ((laws_heldBoard.f k t263 t264 bt280.2 1).bind fun t282 => (if t282 < 0 then (none) else (if t282 = bt280.1 then ((laws_toBoard.f k a0_0 a0_1 l0_2).bind fun bt283 => ((impl_MoveBoard.f k bt283.1 bt283.2.1 bt283.2.2 a1 a2).bind fun bt288 => ((laws_eqBoard.f k bt288.1 bt288.2.1 bt288.2.2.1 t250 t251 t252).bind fun t295 => (if t295 = true then (if bt288.2.2.2 = t255 then ((laws_heldBoard.f k t263 t264 bt280.2 1).bind fun t296 => (if t296 < 0 then (none) else (if t296 = bt280.1 then (some true) else (none)))) else (none)) else (none))))) else (none))))) else (none)) = some r := H
 have A21 := Aside0.mk A210
 clear A210
 by_cases c22 : t279 = true
 rotate_left
 ·replace c22 := Bool.eq_false_iff.mpr c22
  subst c22
  have H1 : (none) = some r := by rw [if_neg (show ¬ (false = true) by decide)] at H; exact H
  clear H
  have H := H1
  clear H1
  exact absurd H (by simp)
 subst c22
 have H1 : ((laws_markBoard.f k t263 t264 t265 1).bind fun bt280 => ((laws_heldBoard.f k t263 t264 bt280.2 1).bind fun t282 => (if t282 < 0 then (none) else (if t282 = bt280.1 then ((laws_toBoard.f k a0_0 a0_1 l0_2).bind fun bt283 => ((impl_MoveBoard.f k bt283.1 bt283.2.1 bt283.2.2 a1 a2).bind fun bt288 => ((laws_eqBoard.f k bt288.1 bt288.2.1 bt288.2.2.1 t250 t251 t252).bind fun t295 => (if t295 = true then (if bt288.2.2.2 = t255 then ((laws_heldBoard.f k t263 t264 bt280.2 1).bind fun t296 => (if t296 < 0 then (none) else (if t296 = bt280.1 then (some true) else (none)))) else (none)) else (none))))) else (none))))) = some r := by rw [if_pos rfl] at H; exact H
 clear H
 have H := H1
 clear H1
 replace H := Option.bind_eq_some_iff.mp H
 obtain ⟨⟨t280, t281⟩, A230, H⟩ := H
 replace H : ((laws_heldBoard.f k t263 t264 t281 1).bind fun t282 => (if t282 < 0 then (none) else (if t282 = t280 then ((laws_toBoard.f k a0_0 a0_1 l0_2).bind fun bt283 => ((impl_MoveBoard.f k bt283.1 bt283.2.1 bt283.2.2 a1 a2).bind fun bt288 => ((laws_eqBoard.f k bt288.1 bt288.2.1 bt288.2.2.1 t250 t251 t252).bind fun t295 => (if t295 = true then (if bt288.2.2.2 = t255 then ((laws_heldBoard.f k t263 t264 t281 1).bind fun t296 => (if t296 < 0 then (none) else (if t296 = t280 then (some true) else (none)))) else (none)) else (none))))) else (none)))) = some r := H
 have A23 := Aside0.mk A230
 clear A230
 replace H := Option.bind_eq_some_iff.mp H
 obtain ⟨t282, A240, H⟩ := H
 replace H : (if t282 < 0 then (none) else (if t282 = t280 then ((laws_toBoard.f k a0_0 a0_1 l0_2).bind fun bt283 => ((impl_MoveBoard.f k bt283.1 bt283.2.1 bt283.2.2 a1 a2).bind fun bt288 => ((laws_eqBoard.f k bt288.1 bt288.2.1 bt288.2.2.1 t250 t251 t252).bind fun t295 => (if t295 = true then (if bt288.2.2.2 = t255 then ((laws_heldBoard.f k t263 t264 t281 1).bind fun t296 => (if t296 < 0 then (none) else (if t296 = t280 then (some true) else (none)))) else (none)) else (none))))) else (none))) = some r := H
 have A24 := Aside0.mk A240
 clear A240
 by_cases c25 : t282 < 0
 ·rw [if_pos c25] at H
  exact absurd H (by simp)
 rw [if_neg c25] at H
 have c25b0 : decide (t282 < 0) = false := decide_eq_false c25
 clear c25
 by_cases c26 : t282 = t280
 rotate_left
 ·rw [if_neg c26] at H
  exact absurd H (by simp)
 rw [if_pos c26] at H
 have c26b0 : (t282 == t280) = true := beq_iff_eq.mpr c26
 have c26b1 : (t282 != t280) = false := bne_eq_false_iff_eq.mpr c26
 clear c26
 replace H := Option.bind_eq_some_iff.mp H
 obtain ⟨⟨t283, t284, t285⟩, A270, H⟩ := H
 replace H : ((impl_MoveBoard.f k t283 t284 t285 a1 a2).bind fun bt288 => ((laws_eqBoard.f k bt288.1 bt288.2.1 bt288.2.2.1 t250 t251 t252).bind fun t295 => (if t295 = true then (if bt288.2.2.2 = t255 then ((laws_heldBoard.f k t263 t264 t281 1).bind fun t296 => (if t296 < 0 then (none) else (if t296 = t280 then (some true) else (none)))) else (none)) else (none)))) = some r := H
 have A27 := Aside0.mk A270
 clear A270
 replace H := Option.bind_eq_some_iff.mp H
 obtain ⟨⟨t288, t289, t290, t293⟩, A280, H⟩ := H
 replace H : ((laws_eqBoard.f k t288 t289 t290 t250 t251 t252).bind fun t295 => (if t295 = true then (if t293 = t255 then ((laws_heldBoard.f k t263 t264 t281 1).bind fun t296 => (if t296 < 0 then (none) else (if t296 = t280 then (some true) else (none)))) else (none)) else (none))) = some r := H
 have A28 := Aside0.mk A280
 clear A280
 replace H := Option.bind_eq_some_iff.mp H
 obtain ⟨t295, A290, H⟩ := H
 replace H : (if t295 = true then (if t293 = t255 then ((laws_heldBoard.f k t263 t264 t281 1).bind fun t296 => (if t296 < 0 then (none) else (if t296 = t280 then (some true) else (none)))) else (none)) else (none)) = some r := H
 have A29 := Aside0.mk A290
 clear A290
 by_cases c30 : t295 = true
 rotate_left
 ·replace c30 := Bool.eq_false_iff.mpr c30
  subst c30
  have H1 : (none) = some r := by rw [if_neg (show ¬ (false = true) by decide)] at H; exact H
  clear H
  have H := H1
  clear H1
  exact absurd H (by simp)
 subst c30
 have H1 : (if t293 = t255 then ((laws_heldBoard.f k t263 t264 t281 1).bind fun t296 => (if t296 < 0 then (none) else (if t296 = t280 then (some true) else (none)))) else (none)) = some r := by rw [if_pos rfl] at H; exact H
 clear H
 have H := H1
 clear H1
 by_cases c31 : t293 = t255
 rotate_left
 ·rw [if_neg c31] at H
  exact absurd H (by simp)
 rw [if_pos c31] at H
 have c31b0 : (t293 == t255) = true := beq_iff_eq.mpr c31
 have c31b1 : (t293 != t255) = false := bne_eq_false_iff_eq.mpr c31
 clear c31
 replace H := Option.bind_eq_some_iff.mp H
 obtain ⟨t296, A320, H⟩ := H
 replace H : (if t296 < 0 then (none) else (if t296 = t280 then (some true) else (none))) = some r := H
 have A32 := Aside0.mk A320
 clear A320
 by_cases c33 : t296 < 0
 ·rw [if_pos c33] at H
  exact absurd H (by simp)
 rw [if_neg c33] at H
 have c33b0 : decide (t296 < 0) = false := decide_eq_false c33
 clear c33
 by_cases c34 : t296 = t280
 rotate_left
 ·rw [if_neg c34] at H
  exact absurd H (by simp)
 rw [if_pos c34] at H
 have c34b0 : (t296 == t280) = true := beq_iff_eq.mpr c34
 have c34b1 : (t296 != t280) = false := bne_eq_false_iff_eq.mpr c34
 clear c34
 obtain rfl := Option.some.inj H
 go_enter Try.func13, Try.ntmps13
 try go_wp2_with (first | ((with_reducible refine gate_dst (N := 3) rfl ?_); refine box_event ?hg (N := 3) ?hd (cs := #[.int .i8 a0_0, .int .i8 a0_1, .slice A0_2 l0_2.length c0_2]) (t := 25) ?hr ?_; (case hd => rfl); (case hg => rfl); (case hr => first | (go_simp; done) | (go_simp; rfl)); intro gb243 hg w35 hbox hb; have n_ : _ ∧ _ ∧ _ ∧ _ := ⟨zb HB hb, Aside0.mk (hbox), zg HB hg, zg HB hg⟩; clear HB; obtain ⟨HB, BK243, GW243, GE243⟩ := n_; clear hb hbox hg; obtain ⟨z36_0, z36_1, z36_2, y36_0, y36_1, y36_2⟩ := zB3 BK243) | ((with_reducible refine gate_callee (f := 40) rfl ?_); refine goesL_ (some 20) rfl rfl Try.func40 (by kernel_rfl) rfl #[.agg #[.int .i8 a0_0, .int .i8 a0_1, .slice A0_2 l0_2.length c0_2], .int .i64 1048576] rfl (by (try simp only [List.map_toArray, List.map_cons, List.map_nil]); first | done | rfl | (simp only [List.length_drop, List.length_take]; rfl)) ?_; (with_reducible refine (laws_szBoard.calls a0_0 a0_1 _ _ l0_2 1048576 t244 _ ?side1 ?side2 A4.out).mono ?_); (case side1 => exact zcc HB HR0_2.out); (case side2 => exact HC0_2.out); rintro e w37 ⟨rfl, hb⟩; refine ⟨_, rfl, ?_⟩; have n_ : _ ∧ _ := ⟨zk BK243 hb, zbs hb⟩; clear BK243 HB; obtain ⟨BK243, HB⟩ := n_; (try clear hb); (try clear hb2); (try clear hk); (try clear hi); obtain ⟨z38_0, z38_1, z38_2, y38_0, y38_1, y38_2⟩ := zB3 BK243) | ((with_reducible refine gate_callee (f := 42) rfl ?_); refine goesL_ (some 25) rfl rfl Try.func42 (by kernel_rfl) rfl #[.agg #[.int .i8 a0_0, .int .i8 a0_1, .slice A0_2 l0_2.length c0_2]] rfl (by (try simp only [List.map_toArray, List.map_cons, List.map_nil]); first | done | rfl | (simp only [List.length_drop, List.length_take]; rfl)) ?_; (with_reducible refine (laws_toBoard.calls k a0_0 a0_1 _ _ l0_2 t245 t246 t247 _ ?side1 ?side2 A9.out).mono ?_); (case side1 => exact zcc HB HR0_2.out); (case side2 => exact HC0_2.out); rintro e w39 ⟨v248, rfl, ho0, hb⟩; refine ⟨_, rfl, ?_⟩; have n_ : _ ∧ _ ∧ _ := ⟨Aside0.mk (Kd.R_lower ho0 (zz HB)), zk BK243 hb, zbs hb⟩; clear BK243 HB; obtain ⟨HO249, BK243, HB⟩ := n_; (try clear hb); (try clear hb2); (try clear hk); (try clear hi); (try clear ho0); obtain ⟨Ao40, co40, eo40⟩ := Kd.R_slice HO249.out; subst eo40) | ((with_reducible refine gate_callee (f := 62) rfl ?_); refine goesL_ (some 28) rfl rfl Try.func62 (by kernel_rfl) rfl #[.agg #[.int .i8 t245, .int .i8 t246, .slice Ao40 t247.length co40], .int .i64 a1, .int .i64 a2] rfl (by (try simp only [List.map_toArray, List.map_cons, List.map_nil]); first | done | rfl | (simp only [List.length_drop, List.length_take]; rfl)) ?_; (with_reducible refine (spec_MoveBoard.calls k t245 t246 _ _ t247 a1 a2 t250 t251 t252 t255 _ ?side1 ?side2 A10.out).mono ?_); (case side1 => exact zrc HO249); (case side2 => exact (Kd.R_reads' HO249.out).2.1); rintro e w41 ⟨v253, rfl, ho0, hb⟩; refine ⟨_, rfl, ?_⟩; have n_ : _ ∧ _ ∧ _ ∧ _ := ⟨Aside0.mk (Kd.R_elder' (ze HO249).out (Kd.R_base ho0) hb), Aside0.mk (Kd.R_lower (Kd.R_new' ho0 (Kd.R_lt (ze HO249).out)) (zz HB)), zk BK243 hb, zbs hb⟩; clear HO249 BK243 HB; obtain ⟨HO249, HO254, BK243, HB⟩ := n_; (try clear hb); (try clear hb2); (try clear hk); (try clear hi); (try clear ho0)) | ((with_reducible refine gate_dst (N := 8) rfl ?_); refine box_event ?hg (N := 8) ?hd (cs := #[.int .i8 0, .int .i8 0, .slice none 0 0]) (t := 37) ?hr ?_; (case hd => rfl); (case hg => rfl); (case hr => first | (go_simp; done) | (go_simp; rfl)); intro gb256 hg w42 hbox hb; have n_ : _ ∧ _ ∧ _ ∧ _ ∧ _ ∧ _ ∧ _ ∧ _ ∧ _ := ⟨zr HO249 hb, zr HO254 hb, zk BK243 hb, zbs hb, Aside0.mk (hbox), zg HB hg, zg HB hg, zn1 BK243 hg, zn2 BK243 hg⟩; clear HO249 HO254 BK243 HB; obtain ⟨HO249, HO254, BK243, HB, BK256, GW256, GE256, NB243_256, NB256_243⟩ := n_; clear hb hbox hg; have hnb43 := NB256_243.out; have hnc43 := NB243_256.out; obtain ⟨z44_0, z44_1, z44_2, y44_0, y44_1, y44_2⟩ := zB3 BK256; obtain ⟨Ao45, co45, eo45⟩ := Kd.R_slice HO254.out; subst eo45; obtain ⟨z46_0, z46_1, z46_2, y46_0, y46_1, y46_2⟩ := zB3 BK243) | ((with_reducible refine gate_callee (f := 42) rfl ?_); refine goesL_ (some 32) rfl rfl Try.func42 (by kernel_rfl) rfl #[.agg #[.int .i8 a0_0, .int .i8 a0_1, .slice A0_2 l0_2.length c0_2]] rfl (by (try simp only [List.map_toArray, List.map_cons, List.map_nil]); first | done | rfl | (simp only [List.length_drop, List.length_take]; rfl)) ?_; (with_reducible refine (laws_toBoard.calls k a0_0 a0_1 _ _ l0_2 t257 t258 t259 _ ?side1 ?side2 A11.out).mono ?_); (case side1 => exact Kd.C_below HR0_2.out (by repeat (first | (with_reducible first | exact HB.out | apply below_alloc | apply pw_below_drewN | apply below_drew1 | refine below_set ?_ GE243.out | refine below_set ?_ GE256.out) | exact HB.out))); (case side2 => exact HC0_2.out); rintro e w47 ⟨v260, rfl, ho0, hb⟩; refine ⟨_, rfl, ?_⟩; have n_ : _ ∧ _ ∧ _ ∧ _ ∧ _ ∧ _ := ⟨Aside0.mk (Kd.R_elder' (zs HO249 BK256).out (Kd.R_base ho0) hb), Aside0.mk (Kd.R_elder' (zs HO254 BK256).out (Kd.R_base ho0) hb), Aside0.mk (Kd.R_lower (Kd.R_new' (Kd.R_new' ho0 (Kd.R_lt (zs HO249 BK256).out)) (Kd.R_lt (zs HO254 BK256).out)) (zz HB)), zfb BK243 NB243_256 hb, Aside0.mk (blk_below (g := gb256) (o := .cells #[.int .i8 t250, .int .i8 t251, .slice Ao45 t252.length co45] 37 (0, 0)) (by (with_reducible repeat (first | refine blk_drewN ?_ _ | refine blk_drew ?_ | refine blk_alloc ?_ _)); refine blk_put (cs := #[.int .i8 t250, .int .i8 t251, .slice none 0 0]) ?_ 2 _ rfl; (with_reducible repeat (first | refine blk_drewN ?_ _ | refine blk_drew ?_ | refine blk_alloc ?_ _)); refine blk_put (cs := #[.int .i8 t250, .int .i8 0, .slice none 0 0]) ?_ 1 _ rfl; (with_reducible repeat (first | refine blk_drewN ?_ _ | refine blk_drew ?_ | refine blk_alloc ?_ _)); refine blk_put (cs := #[.int .i8 0, .int .i8 0, .slice none 0 0]) ?_ 0 _ rfl; (with_reducible repeat (first | refine blk_drewN ?_ _ | refine blk_drew ?_ | refine blk_alloc ?_ _)); exact BK256.out) hb), zbs hb⟩; clear HO249 HO254 BK243 BK256 HB; obtain ⟨HO249, HO254, HO261, BK243, BK256, HB⟩ := n_; (try clear hb); (try clear hb2); (try clear hk); (try clear hi); (try clear ho0)) | ((with_reducible refine gate_dst (N := 10) rfl ?_); refine box_event ?hg (N := 10) ?hd (cs := #[.int .i8 0, .int .i8 0, .slice none 0 0]) (t := 37) ?hr ?_; (case hd => rfl); (case hg => rfl); (case hr => first | (go_simp; done) | (go_simp; rfl)); intro gb262 hg w48 hbox hb; have n_ : _ ∧ _ ∧ _ ∧ _ ∧ _ ∧ _ ∧ _ ∧ _ ∧ _ ∧ _ ∧ _ ∧ _ ∧ _ := ⟨zr HO249 hb, zr HO254 hb, zr HO261 hb, zk BK243 hb, zk BK256 hb, zbs hb, Aside0.mk (hbox), zg HB hg, zg HB hg, zn1 BK243 hg, zn2 BK243 hg, zn1 BK256 hg, zn2 BK256 hg⟩; clear HO249 HO254 HO261 BK243 BK256 HB; obtain ⟨HO249, HO254, HO261, BK243, BK256, HB, BK262, GW262, GE262, NB243_262, NB262_243, NB256_262, NB262_256⟩ := n_; clear hb hbox hg; have hnb49 := NB262_243.out; have hnc49 := NB243_262.out; have hnb50 := NB262_256.out; have hnc50 := NB256_262.out; obtain ⟨z51_0, z51_1, z51_2, y51_0, y51_1, y51_2⟩ := zB3 BK262; obtain ⟨Ao52, co52, eo52⟩ := Kd.R_slice HO261.out; subst eo52) | ((with_reducible refine gate_callee (f := 63) rfl ?_); refine goesL_ (some 37) rfl rfl Try.func63 (by kernel_rfl) rfl #[.agg #[.int .i8 t257, .int .i8 t258, .slice Ao52 t259.length co52], .int .i64 a1, .int .i64 a2] rfl (by (try simp only [List.map_toArray, List.map_cons, List.map_nil]); first | done | rfl | (simp only [List.length_drop, List.length_take]; rfl)) ?_; (with_reducible refine (impl_MoveBoard.calls k t257 t258 _ _ t259 a1 a2 t263 t264 t265 t268 _ ?side1 ?side2 A12.out).mono ?_); (case side1 => exact (Kd.R_reads' (zs HO261 BK262).out).2.2); (case side2 => exact (Kd.R_reads' HO261.out).2.1); rintro e w53 ⟨v266, rfl, ho0, hb⟩; refine ⟨_, rfl, ?_⟩; have n_ : _ ∧ _ ∧ _ ∧ _ ∧ _ ∧ _ ∧ _ ∧ _ := ⟨Aside0.mk (Kd.R_elder' (zs HO249 BK262).out (Kd.R_base ho0) hb), Aside0.mk (Kd.R_elder' (zs HO254 BK262).out (Kd.R_base ho0) hb), Aside0.mk (Kd.R_elder' (zs HO261 BK262).out (Kd.R_base ho0) hb), Aside0.mk (Kd.R_lower (Kd.R_new' (Kd.R_new' (Kd.R_new' ho0 (Kd.R_lt (zs HO249 BK262).out)) (Kd.R_lt (zs HO254 BK262).out)) (Kd.R_lt (zs HO261 BK262).out)) (zz HB)), zfb BK243 NB243_262 hb, zfb BK256 NB256_262 hb, Aside0.mk (blk_below (g := gb262) (o := .cells #[.int .i8 t257, .int .i8 t258, .slice Ao52 t259.length co52] 37 (0, 0)) (by (with_reducible repeat (first | refine blk_drewN ?_ _ | refine blk_drew ?_ | refine blk_alloc ?_ _)); refine blk_put (cs := #[.int .i8 t257, .int .i8 t258, .slice none 0 0]) ?_ 2 _ rfl; (with_reducible repeat (first | refine blk_drewN ?_ _ | refine blk_drew ?_ | refine blk_alloc ?_ _)); refine blk_put (cs := #[.int .i8 t257, .int .i8 0, .slice none 0 0]) ?_ 1 _ rfl; (with_reducible repeat (first | refine blk_drewN ?_ _ | refine blk_drew ?_ | refine blk_alloc ?_ _)); refine blk_put (cs := #[.int .i8 0, .int .i8 0, .slice none 0 0]) ?_ 0 _ rfl; (with_reducible repeat (first | refine blk_drewN ?_ _ | refine blk_drew ?_ | refine blk_alloc ?_ _)); exact BK262.out) hb), zbs hb⟩; clear HO249 HO254 HO261 BK243 BK256 BK262 HB; obtain ⟨HO249, HO254, HO261, HO267, BK243, BK256, BK262, HB⟩ := n_; (try clear hb); (try clear hb2); (try clear hk); (try clear hi); (try clear ho0)) | ((with_reducible refine gate_dst (N := 11) rfl ?_); refine box_event ?hg (N := 11) ?hd (cs := #[.int .i8 0, .int .i8 0, .slice none 0 0]) (t := 37) ?hr ?_; (case hd => rfl); (case hg => rfl); (case hr => first | (go_simp; done) | (go_simp; rfl)); intro gb269 hg w54 hbox hb; have n_ : _ ∧ _ ∧ _ ∧ _ ∧ _ ∧ _ ∧ _ ∧ _ ∧ _ ∧ _ ∧ _ ∧ _ ∧ _ ∧ _ ∧ _ ∧ _ ∧ _ := ⟨zr HO249 hb, zr HO254 hb, zr HO261 hb, zr HO267 hb, zk BK243 hb, zk BK256 hb, zk BK262 hb, zbs hb, Aside0.mk (hbox), zg HB hg, zg HB hg, zn1 BK243 hg, zn2 BK243 hg, zn1 BK256 hg, zn2 BK256 hg, zn1 BK262 hg, zn2 BK262 hg⟩; clear HO249 HO254 HO261 HO267 BK243 BK256 BK262 HB; obtain ⟨HO249, HO254, HO261, HO267, BK243, BK256, BK262, HB, BK269, GW269, GE269, NB243_269, NB269_243, NB256_269, NB269_256, NB262_269, NB269_262⟩ := n_; clear hb hbox hg; have hnb55 := NB269_243.out; have hnc55 := NB243_269.out; have hnb56 := NB269_256.out; have hnc56 := NB256_269.out; have hnb57 := NB269_262.out; have hnc57 := NB262_269.out; obtain ⟨z58_0, z58_1, z58_2, y58_0, y58_1, y58_2⟩ := zB3 BK269; obtain ⟨Ao59, co59, eo59⟩ := Kd.R_slice HO267.out; subst eo59; obtain ⟨z60_0, z60_1, z60_2, y60_0, y60_1, y60_2⟩ := zB3 BK256) | ((with_reducible refine gate_callee (f := 44) rfl ?_); refine goesL_ (some 42) rfl rfl Try.func44 (by kernel_rfl) rfl #[.agg #[.int .i8 t263, .int .i8 t264, .slice Ao59 t265.length co59], .agg #[.int .i8 t250, .int .i8 t251, .slice Ao45 t252.length co45]] rfl (by (try simp only [List.map_toArray, List.map_cons, List.map_nil]); first | done | rfl | (simp only [List.length_drop, List.length_take]; rfl)) ?_; (with_reducible refine (laws_eqBoard.calls k t263 t264 _ _ t265 t250 t251 _ _ t252 true _ ?side1 ?side2 ?side3 ?side4 A13.out).mono ?_); (case side1 => exact (Kd.R_reads' (zs HO267 BK269).out).2.2); (case side2 => exact (Kd.R_reads' HO267.out).2.1); (case side3 => exact (Kd.R_reads' (zs HO254 BK269).out).2.2); (case side4 => exact (Kd.R_reads' HO254.out).2.1); rintro e w61 ⟨rfl, hb⟩; refine ⟨_, rfl, ?_⟩; have n_ : _ ∧ _ ∧ _ ∧ _ ∧ _ ∧ _ ∧ _ ∧ _ ∧ _ := ⟨zsb HO249 BK269 hb, zsb HO254 BK269 hb, zsb HO261 BK269 hb, zsb HO267 BK269 hb, zfb BK243 NB243_269 hb, zfb BK256 NB256_269 hb, zfb BK262 NB262_269 hb, Aside0.mk (blk_below (g := gb269) (o := .cells #[.int .i8 t263, .int .i8 t264, .slice Ao59 t265.length co59] 37 (0, 0)) (by (with_reducible repeat (first | refine blk_drewN ?_ _ | refine blk_drew ?_ | refine blk_alloc ?_ _)); refine blk_put (cs := #[.int .i8 t263, .int .i8 t264, .slice none 0 0]) ?_ 2 _ rfl; (with_reducible repeat (first | refine blk_drewN ?_ _ | refine blk_drew ?_ | refine blk_alloc ?_ _)); refine blk_put (cs := #[.int .i8 t263, .int .i8 0, .slice none 0 0]) ?_ 1 _ rfl; (with_reducible repeat (first | refine blk_drewN ?_ _ | refine blk_drew ?_ | refine blk_alloc ?_ _)); refine blk_put (cs := #[.int .i8 0, .int .i8 0, .slice none 0 0]) ?_ 0 _ rfl; (with_reducible repeat (first | refine blk_drewN ?_ _ | refine blk_drew ?_ | refine blk_alloc ?_ _)); exact BK269.out) hb), zbs hb⟩; clear HO249 HO254 HO261 HO267 BK243 BK256 BK262 BK269 HB; obtain ⟨HO249, HO254, HO261, HO267, BK243, BK256, BK262, BK269, HB⟩ := n_; (try clear hb); (try clear hb2); (try clear hk); (try clear hi)))
 have n0_ := Aside0.mk (Kd.R_drew HO249.out)
 have n1_ := Aside0.mk (Kd.R_drew HO254.out)
 have n2_ := Aside0.mk (Kd.R_drew HO261.out)
 have n3_ := Aside0.mk (Kd.R_drew HO267.out)
 have n4_ := Aside0.mk (blk_drew BK243.out)
 have n5_ := Aside0.mk (blk_drew BK256.out)
 have n6_ := Aside0.mk (blk_drew BK262.out)
 have n7_ := Aside0.mk (blk_drew BK269.out)
 have n8_ := Aside0.mk (below_drew1 HB.out)
 clear HO249
 clear HO254
 clear HO261
 clear HO267
 clear BK243
 clear BK256
 clear BK262
 clear BK269
 clear HB
 have HO249 := n0_
 have HO254 := n1_
 have HO261 := n2_
 have HO267 := n3_
 have BK243 := n4_
 have BK256 := n5_
 have BK262 := n6_
 have BK269 := n7_
 have HB := n8_
 clear n0_ n1_ n2_ n3_ n4_ n5_ n6_ n7_ n8_
 refine start_ (n := 5) (S := fun w' => w'.cell? ⟨gb262, 0, none⟩ = some (.int .i8 t257) ∧ w'.cell? ⟨gb262, 1, none⟩ = some (.int .i8 t258) ∧ w'.cell? ⟨gb262, 2, none⟩ = some (.slice Ao52 t259.length co52) ∧ w'.cell? ⟨gb243, 0, none⟩ = some (.int .i8 a0_0) ∧ w'.cell? ⟨gb243, 1, none⟩ = some (.int .i8 a0_1) ∧ w'.cell? ⟨gb243, 2, none⟩ = some (.slice A0_2 l0_2.length c0_2)) (ds := []) #[false, false, false, false, false] (by kernel_rfl) rfl rfl ⟨(blk_cell BK262.out 0).trans rfl, (blk_cell BK262.out 1).trans rfl, (blk_cell BK262.out 2).trans rfl, (blk_cell BK243.out 0).trans rfl, (blk_cell BK243.out 1).trans rfl, (blk_cell BK243.out 2).trans rfl⟩ (fun hHeld => ?_)
 generalize w61.drew = w62 at HO249 HO254 HO261 HO267 BK243 BK256 BK262 BK269 HB hHeld ⊢
 refine take_ (i := 0) (N := some 49) (v := ?_) (a' := ?_) #[true, false, false, false, false] rfl rfl (by kernel_rfl) (fun _ _ _ h => h) (Or.inl ⟨by rfl, ?_⟩) hHeld ?_ ?_
 rotate_left
 ·rintro w' ⟨s0, s1, s2, s3, s4, s5⟩
  go_simp
  with_reducible rfl
 rotate_left
 ·simp only [Act.put, List.setIfInBounds_toArray, List.set_cons_zero, List.set_cons_succ, i64_w, i32_w]
  rfl
 refine take_ (i := 1) (N := some 50) (v := ?_) (a' := ?_) #[true, true, false, false, false] rfl rfl (by kernel_rfl) (fun _ _ _ h => h) (Or.inl ⟨by rfl, ?_⟩) hHeld ?_ ?_
 rotate_left
 ·rintro w' ⟨s0, s1, s2, s3, s4, s5⟩
  go_simp
  with_reducible rfl
 rotate_left
 ·simp only [Act.put, List.setIfInBounds_toArray, List.set_cons_zero, List.set_cons_succ, i64_w, i32_w]
  rfl
 refine one_ (i := 2) (N := some 51) #[true, true, true, false, false] rfl rfl (by kernel_rfl) (by decide) (fun K hK => ?_)
 refine goes_ Try.func42 (by kernel_rfl) rfl #[.agg #[.int .i8 a0_0, .int .i8 a0_1, .slice A0_2 l0_2.length c0_2]] (by rfl) rfl rfl (by (try simp only [List.map_toArray, List.map_cons, List.map_nil]); first | done | rfl | (simp only [List.length_drop, List.length_take]; rfl)) ?_
 with_reducible refine (laws_toBoard.calls k a0_0 a0_1 _ _ l0_2 t271 t272 t273 _ ?side1 ?side2 A16.out).mono ?_
 (case side1 => exact zcc HB HR0_2.out)
 (case side2 => exact HC0_2.out)
 rintro e w63 ⟨v274, rfl, ho0, hb⟩
 refine ⟨_, rfl, ?_⟩
 have n0_ := Aside0.mk (Kd.R_elder' (ze HO249).out (Kd.R_base ho0) hb)
 have n1_ := Aside0.mk (Kd.R_elder' (ze HO254).out (Kd.R_base ho0) hb)
 have n2_ := Aside0.mk (Kd.R_elder' (ze HO261).out (Kd.R_base ho0) hb)
 have n3_ := Aside0.mk (Kd.R_elder' (ze HO267).out (Kd.R_base ho0) hb)
 have n4_ := Aside0.mk (Kd.R_lower (Kd.R_new' (Kd.R_new' (Kd.R_new' (Kd.R_new' ho0 (Kd.R_lt (ze HO249).out)) (Kd.R_lt (ze HO254).out)) (Kd.R_lt (ze HO261).out)) (Kd.R_lt (ze HO267).out)) (zz HB))
 have n5_ := zk BK243 hb
 have n6_ := zk BK256 hb
 have n7_ := zk BK262 hb
 have n8_ := zk BK269 hb
 have n9_ := zbs hb
 clear HO249
 clear HO254
 clear HO261
 clear HO267
 clear BK243
 clear BK256
 clear BK262
 clear BK269
 clear HB
 have HO249 := n0_
 have HO254 := n1_
 have HO261 := n2_
 have HO267 := n3_
 have HO275 := n4_
 have BK243 := n5_
 have BK256 := n6_
 have BK262 := n7_
 have BK269 := n8_
 have HB := n9_
 clear n0_ n1_ n2_ n3_ n4_ n5_ n6_ n7_ n8_ n9_
 (try clear hb)
 (try clear hb2)
 (try clear hk)
 (try clear hi)
 (try clear ho0)
 obtain ⟨Ao64, co64, eo64⟩ := Kd.R_slice HO275.out
 (first | subst eo64 | (injection eo64 with f1_ f2_ f3_; have f4_ := f1_.symm; have f5_ := f3_.symm; clear f1_ f2_ f3_; subst f4_; subst f5_))
 refine hK.out _ _ ⟨(blk_cell BK262.out 0).trans rfl, (blk_cell BK262.out 1).trans rfl, (blk_cell BK262.out 2).trans rfl, (blk_cell BK243.out 0).trans rfl, (blk_cell BK243.out 1).trans rfl, (blk_cell BK243.out 2).trans rfl⟩ (fun hHeld => ?_)
 clear hK K
 refine norm_ (a' := ?_) ?_ ?_
 rotate_left
 ·show Act.put _ (some 51) _ = _
  simp only [Act.put, List.setIfInBounds_toArray, List.set_cons_zero, List.set_cons_succ, i64_w, i32_w]
  rfl
 refine one_ (i := 3) (N := some 52) #[true, true, true, true, false] rfl rfl (by kernel_rfl) (by decide) (fun K hK => ?_)
 refine goes_ Try.func44 (by kernel_rfl) rfl #[.agg #[.int .i8 t257, .int .i8 t258, .slice Ao52 t259.length co52], .agg #[.int .i8 t271, .int .i8 t272, .slice Ao64 t273.length co64]] (by rfl) rfl rfl (by (try simp only [List.map_toArray, List.map_cons, List.map_nil]); first | done | rfl | (simp only [List.length_drop, List.length_take]; rfl)) ?_
 with_reducible refine (laws_eqBoard.calls k t257 t258 _ _ t259 t271 t272 _ _ t273 true _ ?side1 ?side2 ?side3 ?side4 A17.out).mono ?_
 (case side1 => exact zrc HO261)
 (case side2 => exact (Kd.R_reads' HO261.out).2.1)
 (case side3 => exact zrc HO275)
 (case side4 => exact (Kd.R_reads' HO275.out).2.1)
 rintro e w65 ⟨rfl, hb⟩
 refine ⟨_, rfl, ?_⟩
 have n0_ := zr HO249 hb
 have n1_ := zr HO254 hb
 have n2_ := zr HO261 hb
 have n3_ := zr HO267 hb
 have n4_ := zr HO275 hb
 have n5_ := zk BK243 hb
 have n6_ := zk BK256 hb
 have n7_ := zk BK262 hb
 have n8_ := zk BK269 hb
 have n9_ := zbs hb
 clear HO249
 clear HO254
 clear HO261
 clear HO267
 clear HO275
 clear BK243
 clear BK256
 clear BK262
 clear BK269
 clear HB
 have HO249 := n0_
 have HO254 := n1_
 have HO261 := n2_
 have HO267 := n3_
 have HO275 := n4_
 have BK243 := n5_
 have BK256 := n6_
 have BK262 := n7_
 have BK269 := n8_
 have HB := n9_
 clear n0_ n1_ n2_ n3_ n4_ n5_ n6_ n7_ n8_ n9_
 (try clear hb)
 (try clear hb2)
 (try clear hk)
 (try clear hi)
 refine hK.out _ _ ⟨(blk_cell BK262.out 0).trans rfl, (blk_cell BK262.out 1).trans rfl, (blk_cell BK262.out 2).trans rfl, (blk_cell BK243.out 0).trans rfl, (blk_cell BK243.out 1).trans rfl, (blk_cell BK243.out 2).trans rfl⟩ (fun hHeld => ?_)
 clear hK K
 refine norm_ (a' := ?_) ?_ ?_
 rotate_left
 ·show Act.put _ (some 52) _ = _
  simp only [Act.put, List.setIfInBounds_toArray, List.set_cons_zero, List.set_cons_succ, i64_w, i32_w]
  rfl
 refine pure_ (i := 4) (N := some 53) (v := ?_) (a' := ?_) #[true, true, true, true, true] rfl rfl (by kernel_rfl) (fun _ _ _ h => h) (Or.inl ⟨by rfl, ?_⟩) ?_ ?_
 rotate_left
 ·intro w'
  go_simp
  with_reducible rfl
 rotate_left
 ·simp only [Act.put, List.setIfInBounds_toArray, List.set_cons_zero, List.set_cons_succ, i64_w, i32_w]
  rfl
 refine done_ (by kernel_rfl) ?_
 obtain ⟨z66_0, z66_1, z66_2, y66_0, y66_1, y66_2⟩ := zB3 BK262
 try go_wp2_with (first | ((with_reducible refine gate_callee (f := 50) rfl ?_); refine goesL_ (some 56) rfl rfl Try.func50 (by kernel_rfl) rfl #[.agg #[.int .i8 t257, .int .i8 t258, .slice Ao52 t259.length co52], .int .i64 1] rfl (by (try simp only [List.map_toArray, List.map_cons, List.map_nil]); first | done | rfl | (simp only [List.length_drop, List.length_take]; rfl)) ?_; (with_reducible refine (laws_markBoard.calls k t257 t258 (fun k_ => some k_ = (.slice Ao52 t259.length co52 : Value).ownBlock) (.slice Ao52 t259.length co52) t259 1 t277 t278 w _ ?side1 ?side2 A19.out).mono ?_); (case side1 => exact zbo); (case side2 => exact Kd.R_tight rfl HO261.out); rintro e w67 ⟨rfl, hy0, hb, hkp⟩; refine ⟨_, rfl, ?_⟩; have n_ : _ ∧ _ ∧ _ ∧ _ ∧ _ ∧ _ ∧ _ ∧ _ ∧ _ ∧ _ := ⟨zkr BK243 hkp (fun hs_ => (fun e_ => (Kd.R_ne HO261.out BK243.out (by decide)) e_) hs_), Aside0.mk (Kd.R_mono (ok' := fun k_ => some k_ ≠ (.slice Ao45 t252.length co45 : Value).ownBlock ∧ some k_ ≠ (.slice Ao52 t259.length co52 : Value).ownBlock ∧ some k_ ≠ (.slice Ao59 t265.length co59 : Value).ownBlock ∧ some k_ ≠ (.slice Ao64 t273.length co64 : Value).ownBlock) (Kd.R_keptB (HO249.out) hkp (fun k_ hk_ hs_ => (hk_.1.1.2) hs_)) (fun k_ hk_ => ⟨hk_.1.1.1.1.2, hk_.1.1.1.2, hk_.1.1.2, hk_.1.2⟩)), Aside0.mk (Kd.R_mono (ok' := fun k_ => some k_ ≠ (.slice Ao40 t247.length co40 : Value).ownBlock ∧ some k_ ≠ (.slice Ao52 t259.length co52 : Value).ownBlock ∧ some k_ ≠ (.slice Ao59 t265.length co59 : Value).ownBlock ∧ some k_ ≠ (.slice Ao64 t273.length co64 : Value).ownBlock) (Kd.R_keptB (HO254.out) hkp (fun k_ hk_ hs_ => (hk_.1.1.2) hs_)) (fun k_ hk_ => ⟨hk_.1.1.1.1.2, hk_.1.1.1.2, hk_.1.1.2, hk_.1.2⟩)), zkr BK256 hkp (fun hs_ => (fun e_ => (Kd.R_ne HO261.out BK256.out (by decide)) e_) hs_), Aside0.mk (Kd.R_reok rfl hy0 (fun k_ e_ => HO261.out.1 k_ e_)), zkr BK262 hkp (fun hs_ => (fun e_ => (Kd.R_ne HO261.out BK262.out (by decide)) e_) hs_), Aside0.mk (Kd.R_mono (ok' := fun k_ => some k_ ≠ (.slice Ao40 t247.length co40 : Value).ownBlock ∧ some k_ ≠ (.slice Ao45 t252.length co45 : Value).ownBlock ∧ some k_ ≠ (.slice Ao52 t259.length co52 : Value).ownBlock ∧ some k_ ≠ (.slice Ao64 t273.length co64 : Value).ownBlock) (Kd.R_keptB (HO267.out) hkp (fun k_ hk_ hs_ => (hk_.1.2) hs_)) (fun k_ hk_ => ⟨hk_.1.1.1.1.2, hk_.1.1.1.2, hk_.1.1.2, hk_.1.2⟩)), zkr BK269 hkp (fun hs_ => (fun e_ => (Kd.R_ne HO261.out BK269.out (by decide)) e_) hs_), Aside0.mk (Kd.R_mono (ok' := fun k_ => some k_ ≠ (.slice Ao40 t247.length co40 : Value).ownBlock ∧ some k_ ≠ (.slice Ao45 t252.length co45 : Value).ownBlock ∧ some k_ ≠ (.slice Ao52 t259.length co52 : Value).ownBlock ∧ some k_ ≠ (.slice Ao59 t265.length co59 : Value).ownBlock) (Kd.R_keptB (HO275.out) hkp (fun k_ hk_ hs_ => (hk_.1.2) hs_)) (fun k_ hk_ => ⟨hk_.1.1.1.1.2, hk_.1.1.1.2, hk_.1.1.2, hk_.1.2⟩)), Aside0.mk (hb)⟩; clear BK243 HO249 HO254 BK256 HO261 BK262 HO267 BK269 HO275 HB; obtain ⟨BK243, HO249, HO254, BK256, HO261, BK262, HO267, BK269, HO275, HB⟩ := n_; (try clear hb); (try clear hkp); (try clear hy0); obtain ⟨z68_0, z68_1, z68_2, y68_0, y68_1, y68_2⟩ := zB3 BK269; obtain ⟨z69_0, z69_1, z69_2, y69_0, y69_1, y69_2⟩ := zB3 BK256) | (go_at_call 44; (with_reducible refine (laws_eqBoard.calls k t263 t264 _ _ t265 t250 t251 _ _ t252 true _ ?side1 ?side2 ?side3 ?side4 A21.out).mono ?_); (case side1 => exact zrc HO267); (case side2 => exact (Kd.R_reads' HO267.out).2.1); (case side3 => exact zrc HO254); (case side4 => exact (Kd.R_reads' HO254.out).2.1); rintro e w70 ⟨rfl, hb⟩; have n_ : _ ∧ _ ∧ _ ∧ _ ∧ _ ∧ _ ∧ _ ∧ _ ∧ _ ∧ _ := ⟨zr HO249 hb, zr HO254 hb, zr HO261 hb, zr HO267 hb, zr HO275 hb, zk BK243 hb, zk BK256 hb, zk BK262 hb, zk BK269 hb, zbs hb⟩; clear HO249 HO254 HO261 HO267 HO275 BK243 BK256 BK262 BK269 HB; obtain ⟨HO249, HO254, HO261, HO267, HO275, BK243, BK256, BK262, BK269, HB⟩ := n_; (try clear hb); (try clear hb2); (try clear hk); (try clear hi); obtain ⟨z71_0, z71_1, z71_2, y71_0, y71_1, y71_2⟩ := zB3 BK269) | ((with_reducible refine gate_callee (f := 50) rfl ?_); refine goesL_ (some 72) rfl rfl Try.func50 (by kernel_rfl) rfl #[.agg #[.int .i8 t263, .int .i8 t264, .slice Ao59 t265.length co59], .int .i64 1] rfl (by (try simp only [List.map_toArray, List.map_cons, List.map_nil]); first | done | rfl | (simp only [List.length_drop, List.length_take]; rfl)) ?_; (with_reducible refine (laws_markBoard.calls k t263 t264 (fun k_ => some k_ = (.slice Ao59 t265.length co59 : Value).ownBlock) (.slice Ao59 t265.length co59) t265 1 t280 t281 w _ ?side1 ?side2 A23.out).mono ?_); (case side1 => exact zbo); (case side2 => exact Kd.R_tight rfl HO267.out); rintro e w72 ⟨rfl, hy0, hb, hkp⟩; refine ⟨_, rfl, ?_⟩; have n_ : _ ∧ _ ∧ _ ∧ _ ∧ _ ∧ _ ∧ _ ∧ _ ∧ _ ∧ _ := ⟨zkr BK243 hkp (fun hs_ => (fun e_ => (Kd.R_ne HO267.out BK243.out (by decide)) e_) hs_), Aside0.mk (Kd.R_mono (ok' := fun k_ => some k_ ≠ (.slice Ao45 t252.length co45 : Value).ownBlock ∧ some k_ ≠ (.slice Ao52 t259.length co52 : Value).ownBlock ∧ some k_ ≠ (.slice Ao59 t265.length co59 : Value).ownBlock ∧ some k_ ≠ (.slice Ao64 t273.length co64 : Value).ownBlock) (Kd.R_keptB (HO249.out) hkp (fun k_ hk_ hs_ => (hk_.2.2.1) hs_)) (fun k_ hk_ => ⟨hk_.1.1, hk_.1.2.1, hk_.1.2.2.1, hk_.1.2.2.2⟩)), Aside0.mk (Kd.R_mono (ok' := fun k_ => some k_ ≠ (.slice Ao40 t247.length co40 : Value).ownBlock ∧ some k_ ≠ (.slice Ao52 t259.length co52 : Value).ownBlock ∧ some k_ ≠ (.slice Ao59 t265.length co59 : Value).ownBlock ∧ some k_ ≠ (.slice Ao64 t273.length co64 : Value).ownBlock) (Kd.R_keptB (HO254.out) hkp (fun k_ hk_ hs_ => (hk_.2.2.1) hs_)) (fun k_ hk_ => ⟨hk_.1.1, hk_.1.2.1, hk_.1.2.2.1, hk_.1.2.2.2⟩)), zkr BK256 hkp (fun hs_ => (fun e_ => (Kd.R_ne HO267.out BK256.out (by decide)) e_) hs_), Aside0.mk (Kd.R_mono (ok' := fun k_ => some k_ ≠ (.slice Ao40 t247.length co40 : Value).ownBlock ∧ some k_ ≠ (.slice Ao45 t252.length co45 : Value).ownBlock ∧ some k_ ≠ (.slice Ao59 t265.length co59 : Value).ownBlock ∧ some k_ ≠ (.slice Ao64 t273.length co64 : Value).ownBlock) (Kd.R_keptB (HO261.out) hkp (fun k_ hk_ hs_ => (hk_.1.2) hs_)) (fun k_ hk_ => ⟨hk_.1.1.1.1.2, hk_.1.1.1.2, hk_.1.1.2, hk_.1.2⟩)), zkr BK262 hkp (fun hs_ => (fun e_ => (Kd.R_ne HO267.out BK262.out (by decide)) e_) hs_), Aside0.mk (Kd.R_reok rfl hy0 (fun k_ e_ => HO267.out.1 k_ e_)), zkr BK269 hkp (fun hs_ => (fun e_ => (Kd.R_ne HO267.out BK269.out (by decide)) e_) hs_), Aside0.mk (Kd.R_mono (ok' := fun k_ => some k_ ≠ (.slice Ao40 t247.length co40 : Value).ownBlock ∧ some k_ ≠ (.slice Ao45 t252.length co45 : Value).ownBlock ∧ some k_ ≠ (.slice Ao52 t259.length co52 : Value).ownBlock ∧ some k_ ≠ (.slice Ao59 t265.length co59 : Value).ownBlock) (Kd.R_keptB (HO275.out) hkp (fun k_ hk_ hs_ => (hk_.2.2.2) hs_)) (fun k_ hk_ => ⟨hk_.1.1, hk_.1.2.1, hk_.1.2.2.1, hk_.1.2.2.2⟩)), Aside0.mk (hb)⟩; clear BK243 HO249 HO254 BK256 HO261 BK262 HO267 BK269 HO275 HB; obtain ⟨BK243, HO249, HO254, BK256, HO261, BK262, HO267, BK269, HO275, HB⟩ := n_; (try clear hb); (try clear hkp); (try clear hy0); obtain ⟨z73_0, z73_1, z73_2, y73_0, y73_1, y73_2⟩ := zB3 BK269) | ((with_reducible refine gate_callee (f := 51) rfl ?_); refine goesL_ (some 75) rfl rfl Try.func51 (by kernel_rfl) rfl #[.agg #[.int .i8 t263, .int .i8 t264, .slice Ao59 t281.length co59], .int .i64 1] rfl (by (try simp only [List.map_toArray, List.map_cons, List.map_nil]); first | done | (rw [show t281.length = t265.length from (Kd.R_reads' HO267.out).1.symm] <;> rfl) | rfl | (simp only [List.length_drop, List.length_take]; rfl)) ?_; (with_reducible refine (laws_heldBoard.calls k t263 t264 _ _ t281 1 t282 _ ?side1 ?side2 A24.out).mono ?_); (case side1 => exact zrc HO267); (case side2 => rw [show t281.length = t265.length from (Kd.R_reads' HO267.out).1.symm]; exact (Kd.R_reads' HO267.out).2.1); rintro e w74 ⟨rfl, hb⟩; refine ⟨_, rfl, ?_⟩; have n_ : _ ∧ _ ∧ _ ∧ _ ∧ _ ∧ _ ∧ _ ∧ _ ∧ _ ∧ _ := ⟨zr HO249 hb, zr HO254 hb, zr HO261 hb, zr HO267 hb, zr HO275 hb, zk BK243 hb, zk BK256 hb, zk BK262 hb, zk BK269 hb, zbs hb⟩; clear HO249 HO254 HO261 HO267 HO275 BK243 BK256 BK262 BK269 HB; obtain ⟨HO249, HO254, HO261, HO267, HO275, BK243, BK256, BK262, BK269, HB⟩ := n_; (try clear hb); (try clear hb2); (try clear hk); (try clear hi); obtain ⟨z75_0, z75_1, z75_2, y75_0, y75_1, y75_2⟩ := zB3 BK243) | ((with_reducible refine gate_callee (f := 42) rfl ?_); refine goesL_ (some 83) rfl rfl Try.func42 (by kernel_rfl) rfl #[.agg #[.int .i8 a0_0, .int .i8 a0_1, .slice A0_2 l0_2.length c0_2]] rfl (by (try simp only [List.map_toArray, List.map_cons, List.map_nil]); first | done | rfl | (simp only [List.length_drop, List.length_take]; rfl)) ?_; (with_reducible refine (laws_toBoard.calls k a0_0 a0_1 _ _ l0_2 t283 t284 t285 _ ?side1 ?side2 A27.out).mono ?_); (case side1 => exact zcc HB HR0_2.out); (case side2 => exact HC0_2.out); rintro e w76 ⟨v286, rfl, ho0, hb⟩; refine ⟨_, rfl, ?_⟩; have n_ : _ ∧ _ ∧ _ ∧ _ ∧ _ ∧ _ ∧ _ ∧ _ ∧ _ ∧ _ ∧ _ := ⟨Aside0.mk (Kd.R_elder' (ze HO249).out (Kd.R_base ho0) hb), Aside0.mk (Kd.R_elder' (ze HO254).out (Kd.R_base ho0) hb), Aside0.mk (Kd.R_elder' (ze HO261).out (Kd.R_base ho0) hb), Aside0.mk (Kd.R_elder' (ze HO267).out (Kd.R_base ho0) hb), Aside0.mk (Kd.R_elder' (ze HO275).out (Kd.R_base ho0) hb), Aside0.mk (Kd.R_lower (Kd.R_new' (Kd.R_new' (Kd.R_new' (Kd.R_new' (Kd.R_new' ho0 (Kd.R_lt (ze HO249).out)) (Kd.R_lt (ze HO254).out)) (Kd.R_lt (ze HO261).out)) (Kd.R_lt (ze HO267).out)) (Kd.R_lt (ze HO275).out)) (zz HB)), zk BK243 hb, zk BK256 hb, zk BK262 hb, zk BK269 hb, zbs hb⟩; clear HO249 HO254 HO261 HO267 HO275 BK243 BK256 BK262 BK269 HB; obtain ⟨HO249, HO254, HO261, HO267, HO275, HO287, BK243, BK256, BK262, BK269, HB⟩ := n_; (try clear hb); (try clear hb2); (try clear hk); (try clear hi); (try clear ho0); obtain ⟨Ao77, co77, eo77⟩ := Kd.R_slice HO287.out; subst eo77) | ((with_reducible refine gate_callee (f := 63) rfl ?_); refine goesL_ (some 86) rfl rfl Try.func63 (by kernel_rfl) rfl #[.agg #[.int .i8 t283, .int .i8 t284, .slice Ao77 t285.length co77], .int .i64 a1, .int .i64 a2] rfl (by (try simp only [List.map_toArray, List.map_cons, List.map_nil]); first | done | rfl | (simp only [List.length_drop, List.length_take]; rfl)) ?_; (with_reducible refine (impl_MoveBoard.calls k t283 t284 _ _ t285 a1 a2 t288 t289 t290 t293 _ ?side1 ?side2 A28.out).mono ?_); (case side1 => exact zrc HO287); (case side2 => exact (Kd.R_reads' HO287.out).2.1); rintro e w78 ⟨v291, rfl, ho0, hb⟩; refine ⟨_, rfl, ?_⟩; have n_ : _ ∧ _ ∧ _ ∧ _ ∧ _ ∧ _ ∧ _ ∧ _ ∧ _ ∧ _ ∧ _ ∧ _ := ⟨Aside0.mk (Kd.R_elder' (ze HO249).out (Kd.R_base ho0) hb), Aside0.mk (Kd.R_elder' (ze HO254).out (Kd.R_base ho0) hb), Aside0.mk (Kd.R_elder' (ze HO261).out (Kd.R_base ho0) hb), Aside0.mk (Kd.R_elder' (ze HO267).out (Kd.R_base ho0) hb), Aside0.mk (Kd.R_elder' (ze HO275).out (Kd.R_base ho0) hb), Aside0.mk (Kd.R_elder' (ze HO287).out (Kd.R_base ho0) hb), Aside0.mk (Kd.R_lower (Kd.R_new' (Kd.R_new' (Kd.R_new' (Kd.R_new' (Kd.R_new' (Kd.R_new' ho0 (Kd.R_lt (ze HO249).out)) (Kd.R_lt (ze HO254).out)) (Kd.R_lt (ze HO261).out)) (Kd.R_lt (ze HO267).out)) (Kd.R_lt (ze HO275).out)) (Kd.R_lt (ze HO287).out)) (zz HB)), zk BK243 hb, zk BK256 hb, zk BK262 hb, zk BK269 hb, zbs hb⟩; clear HO249 HO254 HO261 HO267 HO275 HO287 BK243 BK256 BK262 BK269 HB; obtain ⟨HO249, HO254, HO261, HO267, HO275, HO287, HO292, BK243, BK256, BK262, BK269, HB⟩ := n_; (try clear hb); (try clear hb2); (try clear hk); (try clear hi); (try clear ho0)) | ((with_reducible refine gate_dst (N := 16) rfl ?_); refine box_event ?hg (N := 16) ?hd (cs := #[.int .i8 0, .int .i8 0, .slice none 0 0]) (t := 37) ?hr ?_; (case hd => rfl); (case hg => rfl); (case hr => first | (go_simp; done) | (go_simp; rfl)); intro gb294 hg w79 hbox hb; have n_ : _ ∧ _ ∧ _ ∧ _ ∧ _ ∧ _ ∧ _ ∧ _ ∧ _ ∧ _ ∧ _ ∧ _ ∧ _ ∧ _ ∧ _ ∧ _ ∧ _ ∧ _ ∧ _ ∧ _ ∧ _ ∧ _ ∧ _ := ⟨zr HO249 hb, zr HO254 hb, zr HO261 hb, zr HO267 hb, zr HO275 hb, zr HO287 hb, zr HO292 hb, zk BK243 hb, zk BK256 hb, zk BK262 hb, zk BK269 hb, zbs hb, Aside0.mk (hbox), zg HB hg, zg HB hg, zn1 BK243 hg, zn2 BK243 hg, zn1 BK256 hg, zn2 BK256 hg, zn1 BK262 hg, zn2 BK262 hg, zn1 BK269 hg, zn2 BK269 hg⟩; clear HO249 HO254 HO261 HO267 HO275 HO287 HO292 BK243 BK256 BK262 BK269 HB; obtain ⟨HO249, HO254, HO261, HO267, HO275, HO287, HO292, BK243, BK256, BK262, BK269, HB, BK294, GW294, GE294, NB243_294, NB294_243, NB256_294, NB294_256, NB262_294, NB294_262, NB269_294, NB294_269⟩ := n_; clear hb hbox hg; have hnb80 := NB294_243.out; have hnc80 := NB243_294.out; have hnb81 := NB294_256.out; have hnc81 := NB256_294.out; have hnb82 := NB294_262.out; have hnc82 := NB262_294.out; have hnb83 := NB294_269.out; have hnc83 := NB269_294.out; obtain ⟨z84_0, z84_1, z84_2, y84_0, y84_1, y84_2⟩ := zB3 BK294; obtain ⟨Ao85, co85, eo85⟩ := Kd.R_slice HO292.out; subst eo85; obtain ⟨z86_0, z86_1, z86_2, y86_0, y86_1, y86_2⟩ := zB3 BK256) | ((with_reducible refine gate_callee (f := 44) rfl ?_); refine goesL_ (some 91) rfl rfl Try.func44 (by kernel_rfl) rfl #[.agg #[.int .i8 t288, .int .i8 t289, .slice Ao85 t290.length co85], .agg #[.int .i8 t250, .int .i8 t251, .slice Ao45 t252.length co45]] rfl (by (try simp only [List.map_toArray, List.map_cons, List.map_nil]); first | done | rfl | (simp only [List.length_drop, List.length_take]; rfl)) ?_; (with_reducible refine (laws_eqBoard.calls k t288 t289 _ _ t290 t250 t251 _ _ t252 true _ ?side1 ?side2 ?side3 ?side4 A29.out).mono ?_); (case side1 => exact (Kd.R_reads' (zs HO292 BK294).out).2.2); (case side2 => exact (Kd.R_reads' HO292.out).2.1); (case side3 => exact (Kd.R_reads' (zs HO254 BK294).out).2.2); (case side4 => exact (Kd.R_reads' HO254.out).2.1); rintro e w87 ⟨rfl, hb⟩; refine ⟨_, rfl, ?_⟩; have n_ : _ ∧ _ ∧ _ ∧ _ ∧ _ ∧ _ ∧ _ ∧ _ ∧ _ ∧ _ ∧ _ ∧ _ ∧ _ := ⟨zsb HO249 BK294 hb, zsb HO254 BK294 hb, zsb HO261 BK294 hb, zsb HO267 BK294 hb, zsb HO275 BK294 hb, zsb HO287 BK294 hb, zsb HO292 BK294 hb, zfb BK243 NB243_294 hb, zfb BK256 NB256_294 hb, zfb BK262 NB262_294 hb, zfb BK269 NB269_294 hb, Aside0.mk (blk_below (g := gb294) (o := .cells #[.int .i8 t288, .int .i8 t289, .slice Ao85 t290.length co85] 37 (0, 0)) (by (with_reducible repeat (first | refine blk_drewN ?_ _ | refine blk_drew ?_ | refine blk_alloc ?_ _)); refine blk_put (cs := #[.int .i8 t288, .int .i8 t289, .slice none 0 0]) ?_ 2 _ rfl; (with_reducible repeat (first | refine blk_drewN ?_ _ | refine blk_drew ?_ | refine blk_alloc ?_ _)); refine blk_put (cs := #[.int .i8 t288, .int .i8 0, .slice none 0 0]) ?_ 1 _ rfl; (with_reducible repeat (first | refine blk_drewN ?_ _ | refine blk_drew ?_ | refine blk_alloc ?_ _)); refine blk_put (cs := #[.int .i8 0, .int .i8 0, .slice none 0 0]) ?_ 0 _ rfl; (with_reducible repeat (first | refine blk_drewN ?_ _ | refine blk_drew ?_ | refine blk_alloc ?_ _)); exact BK294.out) hb), zbs hb⟩; clear HO249 HO254 HO261 HO267 HO275 HO287 HO292 BK243 BK256 BK262 BK269 BK294 HB; obtain ⟨HO249, HO254, HO261, HO267, HO275, HO287, HO292, BK243, BK256, BK262, BK269, BK294, HB⟩ := n_; (try clear hb); (try clear hb2); (try clear hk); (try clear hi); obtain ⟨z88_0, z88_1, z88_2, y88_0, y88_1, y88_2⟩ := zB3 BK269) | ((with_reducible refine gate_callee (f := 51) rfl ?_); refine goesL_ (some 100) rfl rfl Try.func51 (by kernel_rfl) rfl #[.agg #[.int .i8 t263, .int .i8 t264, .slice Ao59 t281.length co59], .int .i64 1] rfl (by (try simp only [List.map_toArray, List.map_cons, List.map_nil]); first | done | (rw [show t281.length = t265.length from (Kd.R_reads' HO267.out).1.symm] <;> rfl) | rfl | (simp only [List.length_drop, List.length_take]; rfl)) ?_; (with_reducible refine (laws_heldBoard.calls k t263 t264 _ _ t281 1 t296 _ ?side1 ?side2 A32.out).mono ?_); (case side1 => exact zrc HO267); (case side2 => rw [show t281.length = t265.length from (Kd.R_reads' HO267.out).1.symm]; exact (Kd.R_reads' HO267.out).2.1); rintro e w89 ⟨rfl, hb⟩; refine ⟨_, rfl, ?_⟩; have n_ : _ ∧ _ ∧ _ ∧ _ ∧ _ ∧ _ ∧ _ ∧ _ ∧ _ ∧ _ ∧ _ ∧ _ ∧ _ := ⟨zr HO249 hb, zr HO254 hb, zr HO261 hb, zr HO267 hb, zr HO275 hb, zr HO287 hb, zr HO292 hb, zk BK243 hb, zk BK256 hb, zk BK262 hb, zk BK269 hb, zk BK294 hb, zbs hb⟩; clear HO249 HO254 HO261 HO267 HO275 HO287 HO292 BK243 BK256 BK262 BK269 BK294 HB; obtain ⟨HO249, HO254, HO261, HO267, HO275, HO287, HO292, BK243, BK256, BK262, BK269, BK294, HB⟩ := n_; (try clear hb); (try clear hb2); (try clear hk); (try clear hi)))
 go_ret
 exact ⟨by first | rfl | (simp [errW_none, errW_some] <;> rfl) | (simp [*, errW_none, errW_some] <;> rfl), by repeat (first | (with_reducible first | exact HB.out | apply below_alloc | apply pw_below_drewN | apply below_drew1 | refine below_set ?_ GE243.out | refine below_set ?_ GE256.out | refine below_set ?_ GE262.out | refine below_set ?_ GE269.out | refine below_set ?_ GE294.out) | exact HB.out)⟩
end Go.Proofs.Ytffnfpnajkgnaaa.PFnExactMoveBoard
