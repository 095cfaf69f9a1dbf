-- WRITTEN by xprint.py, a program of this session's. Not trusted: Lean checks it.
-- packed by pack.py
import Derived.Test.YtffnfpnajkgnaaaPFnExactTurnBoardx0
import Derived.Test.YtffnfpnajkgnaaaPFnExactTurnBoardx2
import Derived.Test.YtffnfpnajkgnaaaPFnExactTurnBoardx3
import Derived.Test.YtffnfpnajkgnaaaPFnExactTurnBoardx4
import Derived.Test.YtffnfpnajkgnaaaPFnExactTurnBoardx7
import Derived.Test.YtffnfpnajkgnaaaPFnExactTurnBoardx9
import Derived.Test.YtffnfpnajkgnaaaTFnExactTurnBoarda
namespace Go.Proofs.Ytffnfpnajkgnaaa.PFnExactTurnBoard
open Go.RowKit Go.Proofs.YtffnfpnajkgnaaaW.PrintWords Go.Proofs.YtffnfpnajkgnaaaW.PrintLast Go.Proofs.YtffnfpnajkgnaaaW.PrintMore Go.Proofs.YtffnfpnajkgnaaaX
attribute [local go_sem] max2_int min2_int max_two min_two max_three min_three max_four min_four   -- for this text's walks alone
set_option linter.unusedVariables false
set_option linter.unusedSimpArgs false

/-! ### laws_FnExactTurnBoard: function 16 -/
def laws_FnExactTurnBoard.f (k : Nat) (a0_0 : Int) (a0_1 : Int) (l0_2 : List (S88)) (a1 : Int) : Option (Bool) := (laws_szBoard.f a0_0 a0_1 l0_2 1048576).bind fun t247 => (if t247 < 0 then (some true) else ((laws_toBoard.f k a0_0 a0_1 l0_2).bind fun bt248 => ((spec_TurnBoard.f k bt248.1 bt248.2.1 bt248.2.2 a1).bind fun bt253 => ((laws_toBoard.f k a0_0 a0_1 l0_2).bind fun bt260 => ((impl_TurnBoard.f k bt260.1 bt260.2.1 bt260.2.2 a1).bind fun bt266 => ((laws_eqBoard.f k bt266.1 bt266.2.1 bt266.2.2.1 bt253.1 bt253.2.1 bt253.2.2.1).bind fun t273 => (if t273 = true then (if bt266.2.2.2 = bt253.2.2.2 then ((laws_toBoard.f k a0_0 a0_1 l0_2).bind fun bt274 => ((laws_eqBoard.f k bt260.1 bt260.2.1 bt260.2.2 bt274.1 bt274.2.1 bt274.2.2).bind fun t279 => (if t279 = true then ((laws_markBoard.f k bt260.1 bt260.2.1 bt260.2.2 1).bind fun bt280 => (if bt280.1 < 0 then (none) else ((laws_eqBoard.f k bt266.1 bt266.2.1 bt266.2.2.1 bt253.1 bt253.2.1 bt253.2.2.1).bind fun t282 => (if t282 = true then ((laws_markBoard.f k bt266.1 bt266.2.1 bt266.2.2.1 1).bind fun bt283 => ((laws_heldBoard.f k bt266.1 bt266.2.1 bt283.2 1).bind fun t285 => (if t285 < 0 then (none) else (if t285 = bt283.1 then ((laws_toBoard.f k a0_0 a0_1 l0_2).bind fun bt286 => ((impl_TurnBoard.f k bt286.1 bt286.2.1 bt286.2.2 a1).bind fun bt291 => ((laws_eqBoard.f k bt291.1 bt291.2.1 bt291.2.2.1 bt253.1 bt253.2.1 bt253.2.2.1).bind fun t298 => (if t298 = true then (if bt291.2.2.2 = bt253.2.2.2 then ((laws_heldBoard.f k bt266.1 bt266.2.1 bt283.2 1).bind fun t299 => (if t299 < 0 then (none) else (if t299 = bt283.1 then (some true) else (none)))) else (none)) else (none))))) else (none))))) else (none))))) else (none)))) else (none)) else (none))))))))
theorem laws_FnExactTurnBoard.mono : ∀ a0 a1 a2 a3 k, LeO (laws_FnExactTurnBoard.f k a0 a1 a2 a3) (laws_FnExactTurnBoard.f (k + 1) a0 a1 a2 a3) := by
 intro a0 a1 a2 a3 k
 unfold laws_FnExactTurnBoard.f
 repeat' first | (with_reducible first | apply impl_TurnBoard.mono | apply laws_eqBoard.mono | apply laws_heldBoard.mono | apply laws_markBoard.mono | apply laws_toBoard.mono | apply spec_TurnBoard.mono | exact LeO.refl _ | exact LeO.none _ | refine LeO.ite ?_ ?_ | refine LeO.bind ?_ (fun _ => ?_)) | apply impl_TurnBoard.mono | apply laws_eqBoard.mono | apply laws_heldBoard.mono | apply laws_markBoard.mono | apply laws_toBoard.mono | apply spec_TurnBoard.mono | exact LeO.none _ | refine LeO.ite ?_ ?_ | refine LeO.bind ?_ (fun _ => ?_)
set_option maxHeartbeats 8000000 in
set_option maxRecDepth 100000 in
theorem laws_FnExactTurnBoard.calls (k : Nat) (a0_0 : Int) (a0_1 : Int) (A0_2 : Option Addr) (c0_2 : Nat) (l0_2 : List (S88)) (a1 : Int) (r : Bool) (w : World) (hr0_2 : Kd.C k88 w A0_2 l0_2.length l0_2) (hc0_2 : l0_2.length ≤ c0_2) (h : laws_FnExactTurnBoard.f k a0_0 a0_1 l0_2 a1 = some r) :
    Calls Try.prog 16 #[.agg #[.int .i8 a0_0, .int .i8 a0_1, .slice A0_2 l0_2.length c0_2], .int .i64 a1] w fun e w' => e = .returned (.bool r) ∧ Below w.heap.size w w' := by
 have hu25 := Try.underlying25
 have hu37 := Try.underlying37
 have HR0_2 := Aside0.mk hr0_2
 have HC0_2 := Aside0.mk hc0_2
 clear hr0_2 hc0_2
 have HB := Aside0.mk (Below.refl w.heap.size w)
 have H : ((laws_szBoard.f a0_0 a0_1 l0_2 1048576).bind fun t247 => (if t247 < 0 then (some true) else ((laws_toBoard.f k a0_0 a0_1 l0_2).bind fun bt248 => ((spec_TurnBoard.f k bt248.1 bt248.2.1 bt248.2.2 a1).bind fun bt253 => ((laws_toBoard.f k a0_0 a0_1 l0_2).bind fun bt260 => ((impl_TurnBoard.f k bt260.1 bt260.2.1 bt260.2.2 a1).bind fun bt266 => ((laws_eqBoard.f k bt266.1 bt266.2.1 bt266.2.2.1 bt253.1 bt253.2.1 bt253.2.2.1).bind fun t273 => (if t273 = true then (if bt266.2.2.2 = bt253.2.2.2 then ((laws_toBoard.f k a0_0 a0_1 l0_2).bind fun bt274 => ((laws_eqBoard.f k bt260.1 bt260.2.1 bt260.2.2 bt274.1 bt274.2.1 bt274.2.2).bind fun t279 => (if t279 = true then ((laws_markBoard.f k bt260.1 bt260.2.1 bt260.2.2 1).bind fun bt280 => (if bt280.1 < 0 then (none) else ((laws_eqBoard.f k bt266.1 bt266.2.1 bt266.2.2.1 bt253.1 bt253.2.1 bt253.2.2.1).bind fun t282 => (if t282 = true then ((laws_markBoard.f k bt266.1 bt266.2.1 bt266.2.2.1 1).bind fun bt283 => ((laws_heldBoard.f k bt266.1 bt266.2.1 bt283.2 1).bind fun t285 => (if t285 < 0 then (none) else (if t285 = bt283.1 then ((laws_toBoard.f k a0_0 a0_1 l0_2).bind fun bt286 => ((impl_TurnBoard.f k bt286.1 bt286.2.1 bt286.2.2 a1).bind fun bt291 => ((laws_eqBoard.f k bt291.1 bt291.2.1 bt291.2.2.1 bt253.1 bt253.2.1 bt253.2.2.1).bind fun t298 => (if t298 = true then (if bt291.2.2.2 = bt253.2.2.2 then ((laws_heldBoard.f k bt266.1 bt266.2.1 bt283.2 1).bind fun t299 => (if t299 < 0 then (none) else (if t299 = bt283.1 then (some true) else (none)))) else (none)) else (none))))) else (none))))) else (none))))) else (none)))) else (none)) else (none))))))))) = some r := h
 clear h
 replace H := Option.bind_eq_some_iff.mp H
 obtain ⟨t247, A30, H⟩ := H
 replace H : (if t247 < 0 then (some true) else ((laws_toBoard.f k a0_0 a0_1 l0_2).bind fun bt248 => ((spec_TurnBoard.f k bt248.1 bt248.2.1 bt248.2.2 a1).bind fun bt253 => ((laws_toBoard.f k a0_0 a0_1 l0_2).bind fun bt260 => ((impl_TurnBoard.f k bt260.1 bt260.2.1 bt260.2.2 a1).bind fun bt266 => ((laws_eqBoard.f k bt266.1 bt266.2.1 bt266.2.2.1 bt253.1 bt253.2.1 bt253.2.2.1).bind fun t273 => (if t273 = true then (if bt266.2.2.2 = bt253.2.2.2 then ((laws_toBoard.f k a0_0 a0_1 l0_2).bind fun bt274 => ((laws_eqBoard.f k bt260.1 bt260.2.1 bt260.2.2 bt274.1 bt274.2.1 bt274.2.2).bind fun t279 => (if t279 = true then ((laws_markBoard.f k bt260.1 bt260.2.1 bt260.2.2 1).bind fun bt280 => (if bt280.1 < 0 then (none) else ((laws_eqBoard.f k bt266.1 bt266.2.1 bt266.2.2.1 bt253.1 bt253.2.1 bt253.2.2.1).bind fun t282 => (if t282 = true then ((laws_markBoard.f k bt266.1 bt266.2.1 bt266.2.2.1 1).bind fun bt283 => ((laws_heldBoard.f k bt266.1 bt266.2.1 bt283.2 1).bind fun t285 => (if t285 < 0 then (none) else (if t285 = bt283.1 then ((laws_toBoard.f k a0_0 a0_1 l0_2).bind fun bt286 => ((impl_TurnBoard.f k bt286.1 bt286.2.1 bt286.2.2 a1).bind fun bt291 => ((laws_eqBoard.f k bt291.1 bt291.2.1 bt291.2.2.1 bt253.1 bt253.2.1 bt253.2.2.1).bind fun t298 => (if t298 = true then (if bt291.2.2.2 = bt253.2.2.2 then ((laws_heldBoard.f k bt266.1 bt266.2.1 bt283.2 1).bind fun t299 => (if t299 < 0 then (none) else (if t299 = bt283.1 then (some true) else (none)))) else (none)) else (none))))) else (none))))) else (none))))) else (none)))) else (none)) else (none)))))))) = some r := H
 have A3 := Aside0.mk A30
 clear A30
 by_cases c4 : t247 < 0
 ·rw [if_pos c4] at H
  have c4b0 : decide (t247 < 0) = true := decide_eq_true c4
  clear c4
  obtain rfl := Option.some.inj H
  go_enter Try.func16, Try.ntmps16
  go_wp2_with (first | ((with_reducible refine gate_dst (N := 2) rfl ?_); refine box_event ?hg (N := 2) ?hd (cs := #[.int .i8 a0_0, .int .i8 a0_1, .slice A0_2 l0_2.length c0_2]) (t := 25) ?hr ?_; (case hd => rfl); (case hg => rfl); (case hr => first | (go_simp; done) | (go_simp; rfl)); intro gb246 hg w5 hbox hb; have n_ : _ ∧ _ ∧ _ ∧ _ := ⟨zb HB hb, Aside0.mk (hbox), zg HB hg, zg HB hg⟩; clear HB; obtain ⟨HB, BK246, GW246, GE246⟩ := n_; clear hb hbox hg; obtain ⟨z6_0, z6_1, z6_2, y6_0, y6_1, y6_2⟩ := zB3 BK246) | ((with_reducible refine gate_callee (f := 40) rfl ?_); refine goesL_ (some 18) rfl rfl Try.func40 (by kernel_rfl) rfl #[.agg #[.int .i8 a0_0, .int .i8 a0_1, .slice A0_2 l0_2.length c0_2], .int .i64 1048576] rfl (by (try simp only [List.map_toArray, List.map_cons, List.map_nil]); first | done | rfl | (simp only [List.length_drop, List.length_take]; rfl)) ?_; (with_reducible refine (laws_szBoard.calls a0_0 a0_1 _ _ l0_2 1048576 t247 _ ?side1 ?side2 A3.out).mono ?_); (case side1 => exact zcc HB HR0_2.out); (case side2 => exact HC0_2.out); rintro e w7 ⟨rfl, hb⟩; refine ⟨_, rfl, ?_⟩; have n_ : _ ∧ _ := ⟨zk BK246 hb, zbs hb⟩; clear BK246 HB; obtain ⟨BK246, HB⟩ := n_; (try clear hb); (try clear hb2); (try clear hk); (try clear hi)))
  go_ret
  exact ⟨by first | rfl | (simp [errW_none, errW_some] <;> rfl) | (simp [*, errW_none, errW_some] <;> rfl), by repeat (first | (with_reducible first | exact HB.out | apply below_alloc | apply pw_below_drewN | apply below_drew1 | refine below_set ?_ GE246.out) | exact HB.out)⟩
 rw [if_neg c4] at H
 have c4b0 : decide (t247 < 0) = false := decide_eq_false c4
 clear c4
 replace H := Option.bind_eq_some_iff.mp H
 obtain ⟨⟨t248, t249, t250⟩, A80, H⟩ := H
 replace H : ((spec_TurnBoard.f k t248 t249 t250 a1).bind fun bt253 => ((laws_toBoard.f k a0_0 a0_1 l0_2).bind fun bt260 => ((impl_TurnBoard.f k bt260.1 bt260.2.1 bt260.2.2 a1).bind fun bt266 => ((laws_eqBoard.f k bt266.1 bt266.2.1 bt266.2.2.1 bt253.1 bt253.2.1 bt253.2.2.1).bind fun t273 => (if t273 = true then (if bt266.2.2.2 = bt253.2.2.2 then ((laws_toBoard.f k a0_0 a0_1 l0_2).bind fun bt274 => ((laws_eqBoard.f k bt260.1 bt260.2.1 bt260.2.2 bt274.1 bt274.2.1 bt274.2.2).bind fun t279 => (if t279 = true then ((laws_markBoard.f k bt260.1 bt260.2.1 bt260.2.2 1).bind fun bt280 => (if bt280.1 < 0 then (none) else ((laws_eqBoard.f k bt266.1 bt266.2.1 bt266.2.2.1 bt253.1 bt253.2.1 bt253.2.2.1).bind fun t282 => (if t282 = true then ((laws_markBoard.f k bt266.1 bt266.2.1 bt266.2.2.1 1).bind fun bt283 => ((laws_heldBoard.f k bt266.1 bt266.2.1 bt283.2 1).bind fun t285 => (if t285 < 0 then (none) else (if t285 = bt283.1 then ((laws_toBoard.f k a0_0 a0_1 l0_2).bind fun bt286 => ((impl_TurnBoard.f k bt286.1 bt286.2.1 bt286.2.2 a1).bind fun bt291 => ((laws_eqBoard.f k bt291.1 bt291.2.1 bt291.2.2.1 bt253.1 bt253.2.1 bt253.2.2.1).bind fun t298 => (if t298 = true then (if bt291.2.2.2 = bt253.2.2.2 then ((laws_heldBoard.f k bt266.1 bt266.2.1 bt283.2 1).bind fun t299 => (if t299 < 0 then (none) else (if t299 = bt283.1 then (some true) else (none)))) else (none)) else (none))))) else (none))))) else (none))))) else (none)))) else (none)) else (none)))))) = some r := H
 have A8 := Aside0.mk A80
 clear A80
 replace H := Option.bind_eq_some_iff.mp H
 obtain ⟨⟨t253, t254, t255, t258⟩, A90, H⟩ := H
 replace H : ((laws_toBoard.f k a0_0 a0_1 l0_2).bind fun bt260 => ((impl_TurnBoard.f k bt260.1 bt260.2.1 bt260.2.2 a1).bind fun bt266 => ((laws_eqBoard.f k bt266.1 bt266.2.1 bt266.2.2.1 t253 t254 t255).bind fun t273 => (if t273 = true then (if bt266.2.2.2 = t258 then ((laws_toBoard.f k a0_0 a0_1 l0_2).bind fun bt274 => ((laws_eqBoard.f k bt260.1 bt260.2.1 bt260.2.2 bt274.1 bt274.2.1 bt274.2.2).bind fun t279 => (if t279 = true then ((laws_markBoard.f k bt260.1 bt260.2.1 bt260.2.2 1).bind fun bt280 => (if bt280.1 < 0 then (none) else ((laws_eqBoard.f k bt266.1 bt266.2.1 bt266.2.2.1 t253 t254 t255).bind fun t282 => (if t282 = true then ((laws_markBoard.f k bt266.1 bt266.2.1 bt266.2.2.1 1).bind fun bt283 => ((laws_heldBoard.f k bt266.1 bt266.2.1 bt283.2 1).bind fun t285 => (if t285 < 0 then (none) else (if t285 = bt283.1 then ((laws_toBoard.f k a0_0 a0_1 l0_2).bind fun bt286 => ((impl_TurnBoard.f k bt286.1 bt286.2.1 bt286.2.2 a1).bind fun bt291 => ((laws_eqBoard.f k bt291.1 bt291.2.1 bt291.2.2.1 t253 t254 t255).bind fun t298 => (if t298 = true then (if bt291.2.2.2 = t258 then ((laws_heldBoard.f k bt266.1 bt266.2.1 bt283.2 1).bind fun t299 => (if t299 < 0 then (none) else (if t299 = bt283.1 then (some true) else (none)))) else (none)) else (none))))) else (none))))) else (none))))) else (none)))) else (none)) else (none))))) = some r := H
 have A9 := Aside0.mk A90
 clear A90
 replace H := Option.bind_eq_some_iff.mp H
 obtain ⟨⟨t260, t261, t262⟩, A100, H⟩ := H
 replace H : ((impl_TurnBoard.f k t260 t261 t262 a1).bind fun bt266 => ((laws_eqBoard.f k bt266.1 bt266.2.1 bt266.2.2.1 t253 t254 t255).bind fun t273 => (if t273 = true then (if bt266.2.2.2 = t258 then ((laws_toBoard.f k a0_0 a0_1 l0_2).bind fun bt274 => ((laws_eqBoard.f k t260 t261 t262 bt274.1 bt274.2.1 bt274.2.2).bind fun t279 => (if t279 = true then ((laws_markBoard.f k t260 t261 t262 1).bind fun bt280 => (if bt280.1 < 0 then (none) else ((laws_eqBoard.f k bt266.1 bt266.2.1 bt266.2.2.1 t253 t254 t255).bind fun t282 => (if t282 = true then ((laws_markBoard.f k bt266.1 bt266.2.1 bt266.2.2.1 1).bind fun bt283 => ((laws_heldBoard.f k bt266.1 bt266.2.1 bt283.2 1).bind fun t285 => (if t285 < 0 then (none) else (if t285 = bt283.1 then ((laws_toBoard.f k a0_0 a0_1 l0_2).bind fun bt286 => ((impl_TurnBoard.f k bt286.1 bt286.2.1 bt286.2.2 a1).bind fun bt291 => ((laws_eqBoard.f k bt291.1 bt291.2.1 bt291.2.2.1 t253 t254 t255).bind fun t298 => (if t298 = true then (if bt291.2.2.2 = t258 then ((laws_heldBoard.f k bt266.1 bt266.2.1 bt283.2 1).bind fun t299 => (if t299 < 0 then (none) else (if t299 = bt283.1 then (some true) else (none)))) else (none)) else (none))))) else (none))))) else (none))))) else (none)))) else (none)) else (none)))) = some r := H
 have A10 := Aside0.mk A100
 clear A100
 replace H := Option.bind_eq_some_iff.mp H
 obtain ⟨⟨t266, t267, t268, t271⟩, A110, H⟩ := H
 replace H : ((laws_eqBoard.f k t266 t267 t268 t253 t254 t255).bind fun t273 => (if t273 = true then (if t271 = t258 then ((laws_toBoard.f k a0_0 a0_1 l0_2).bind fun bt274 => ((laws_eqBoard.f k t260 t261 t262 bt274.1 bt274.2.1 bt274.2.2).bind fun t279 => (if t279 = true then ((laws_markBoard.f k t260 t261 t262 1).bind fun bt280 => (if bt280.1 < 0 then (none) else ((laws_eqBoard.f k t266 t267 t268 t253 t254 t255).bind fun t282 => (if t282 = true then ((laws_markBoard.f k t266 t267 t268 1).bind fun bt283 => ((laws_heldBoard.f k t266 t267 bt283.2 1).bind fun t285 => (if t285 < 0 then (none) else (if t285 = bt283.1 then ((laws_toBoard.f k a0_0 a0_1 l0_2).bind fun bt286 => ((impl_TurnBoard.f k bt286.1 bt286.2.1 bt286.2.2 a1).bind fun bt291 => ((laws_eqBoard.f k bt291.1 bt291.2.1 bt291.2.2.1 t253 t254 t255).bind fun t298 => (if t298 = true then (if bt291.2.2.2 = t258 then ((laws_heldBoard.f k t266 t267 bt283.2 1).bind fun t299 => (if t299 < 0 then (none) else (if t299 = bt283.1 then (some true) else (none)))) else (none)) else (none))))) else (none))))) else (none))))) else (none)))) else (none)) else (none))) = some r := H
 have A11 := Aside0.mk A110
 clear A110
 replace H := Option.bind_eq_some_iff.mp H
 obtain ⟨t273, A120, H⟩ := H
 replace H : (if t273 = true then (if t271 = t258 then ((laws_toBoard.f k a0_0 a0_1 l0_2).bind fun bt274 => ((laws_eqBoard.f k t260 t261 t262 bt274.1 bt274.2.1 bt274.2.2).bind fun t279 => (if t279 = true then ((laws_markBoard.f k t260 t261 t262 1).bind fun bt280 => (if bt280.1 < 0 then (none) else ((laws_eqBoard.f k t266 t267 t268 t253 t254 t255).bind fun t282 => (if t282 = true then ((laws_markBoard.f k t266 t267 t268 1).bind fun bt283 => ((laws_heldBoard.f k t266 t267 bt283.2 1).bind fun t285 => (if t285 < 0 then (none) else (if t285 = bt283.1 then ((laws_toBoard.f k a0_0 a0_1 l0_2).bind fun bt286 => ((impl_TurnBoard.f k bt286.1 bt286.2.1 bt286.2.2 a1).bind fun bt291 => ((laws_eqBoard.f k bt291.1 bt291.2.1 bt291.2.2.1 t253 t254 t255).bind fun t298 => (if t298 = true then (if bt291.2.2.2 = t258 then ((laws_heldBoard.f k t266 t267 bt283.2 1).bind fun t299 => (if t299 < 0 then (none) else (if t299 = bt283.1 then (some true) else (none)))) else (none)) else (none))))) else (none))))) else (none))))) else (none)))) else (none)) else (none)) = some r := H
 have A12 := Aside0.mk A120
 clear A120
 by_cases c13 : t273 = true
 rotate_left
 ·replace c13 := Bool.eq_false_iff.mpr c13
  subst c13
  have H1 : (none) = some r := by rw [if_neg (show ¬ (false = true) by decide)] at H; exact H
  clear H
  have H := H1
  clear H1
  exact absurd H (by simp)
 subst c13
 have H1 : (if t271 = t258 then ((laws_toBoard.f k a0_0 a0_1 l0_2).bind fun bt274 => ((laws_eqBoard.f k t260 t261 t262 bt274.1 bt274.2.1 bt274.2.2).bind fun t279 => (if t279 = true then ((laws_markBoard.f k t260 t261 t262 1).bind fun bt280 => (if bt280.1 < 0 then (none) else ((laws_eqBoard.f k t266 t267 t268 t253 t254 t255).bind fun t282 => (if t282 = true then ((laws_markBoard.f k t266 t267 t268 1).bind fun bt283 => ((laws_heldBoard.f k t266 t267 bt283.2 1).bind fun t285 => (if t285 < 0 then (none) else (if t285 = bt283.1 then ((laws_toBoard.f k a0_0 a0_1 l0_2).bind fun bt286 => ((impl_TurnBoard.f k bt286.1 bt286.2.1 bt286.2.2 a1).bind fun bt291 => ((laws_eqBoard.f k bt291.1 bt291.2.1 bt291.2.2.1 t253 t254 t255).bind fun t298 => (if t298 = true then (if bt291.2.2.2 = t258 then ((laws_heldBoard.f k t266 t267 bt283.2 1).bind fun t299 => (if t299 < 0 then (none) else (if t299 = bt283.1 then (some true) else (none)))) else (none)) else (none))))) else (none))))) else (none))))) else (none)))) else (none)) = some r := by rw [if_pos rfl] at H; exact H
 clear H
 have H := H1
 clear H1
 by_cases c14 : t271 = t258
 rotate_left
 ·rw [if_neg c14] at H
  exact absurd H (by simp)
 rw [if_pos c14] at H
 have c14b0 : (t271 == t258) = true := beq_iff_eq.mpr c14
 have c14b1 : (t271 != t258) = false := bne_eq_false_iff_eq.mpr c14
 clear c14
 replace H := Option.bind_eq_some_iff.mp H
 obtain ⟨⟨t274, t275, t276⟩, A150, H⟩ := H
 replace H : ((laws_eqBoard.f k t260 t261 t262 t274 t275 t276).bind fun t279 => (if t279 = true then ((laws_markBoard.f k t260 t261 t262 1).bind fun bt280 => (if bt280.1 < 0 then (none) else ((laws_eqBoard.f k t266 t267 t268 t253 t254 t255).bind fun t282 => (if t282 = true then ((laws_markBoard.f k t266 t267 t268 1).bind fun bt283 => ((laws_heldBoard.f k t266 t267 bt283.2 1).bind fun t285 => (if t285 < 0 then (none) else (if t285 = bt283.1 then ((laws_toBoard.f k a0_0 a0_1 l0_2).bind fun bt286 => ((impl_TurnBoard.f k bt286.1 bt286.2.1 bt286.2.2 a1).bind fun bt291 => ((laws_eqBoard.f k bt291.1 bt291.2.1 bt291.2.2.1 t253 t254 t255).bind fun t298 => (if t298 = true then (if bt291.2.2.2 = t258 then ((laws_heldBoard.f k t266 t267 bt283.2 1).bind fun t299 => (if t299 < 0 then (none) else (if t299 = bt283.1 then (some true) else (none)))) else (none)) else (none))))) else (none))))) else (none))))) else (none))) = some r := H
 have A15 := Aside0.mk A150
 clear A150
 replace H := Option.bind_eq_some_iff.mp H
 obtain ⟨t279, A160, H⟩ := H
 replace H : (if t279 = true then ((laws_markBoard.f k t260 t261 t262 1).bind fun bt280 => (if bt280.1 < 0 then (none) else ((laws_eqBoard.f k t266 t267 t268 t253 t254 t255).bind fun t282 => (if t282 = true then ((laws_markBoard.f k t266 t267 t268 1).bind fun bt283 => ((laws_heldBoard.f k t266 t267 bt283.2 1).bind fun t285 => (if t285 < 0 then (none) else (if t285 = bt283.1 then ((laws_toBoard.f k a0_0 a0_1 l0_2).bind fun bt286 => ((impl_TurnBoard.f k bt286.1 bt286.2.1 bt286.2.2 a1).bind fun bt291 => ((laws_eqBoard.f k bt291.1 bt291.2.1 bt291.2.2.1 t253 t254 t255).bind fun t298 => (if t298 = true then (if bt291.2.2.2 = t258 then ((laws_heldBoard.f k t266 t267 bt283.2 1).bind fun t299 => (if t299 < 0 then (none) else (if t299 = bt283.1 then (some true) else (none)))) else (none)) else (none))))) else (none))))) else (none))))) else (none)) = some r := H
 have A16 := Aside0.mk A160
 clear A160
 by_cases c17 : t279 = true
 rotate_left
 ·replace c17 := Bool.eq_false_iff.mpr c17
  subst c17
  have H1 : (none) = some r := by rw [if_neg (show ¬ (false = true) by decide)] at H; exact H
  clear H
  have H := H1
  clear H1
  exact absurd H (by simp)
 subst c17
 have H1 : ((laws_markBoard.f k t260 t261 t262 1).bind fun bt280 => (if bt280.1 < 0 then (none) else ((laws_eqBoard.f k t266 t267 t268 t253 t254 t255).bind fun t282 => (if t282 = true then ((laws_markBoard.f k t266 t267 t268 1).bind fun bt283 => ((laws_heldBoard.f k t266 t267 bt283.2 1).bind fun t285 => (if t285 < 0 then (none) else (if t285 = bt283.1 then ((laws_toBoard.f k a0_0 a0_1 l0_2).bind fun bt286 => ((impl_TurnBoard.f k bt286.1 bt286.2.1 bt286.2.2 a1).bind fun bt291 => ((laws_eqBoard.f k bt291.1 bt291.2.1 bt291.2.2.1 t253 t254 t255).bind fun t298 => (if t298 = true then (if bt291.2.2.2 = t258 then ((laws_heldBoard.f k t266 t267 bt283.2 1).bind fun t299 => (if t299 < 0 then (none) else (if t299 = bt283.1 then (some true) else (none)))) else (none)) else (none))))) else (none))))) else (none))))) = some r := by rw [if_pos rfl] at H; exact H
 clear H
 have H := H1
 clear H1
 replace H := Option.bind_eq_some_iff.mp H
 obtain ⟨⟨t280, t281⟩, A180, H⟩ := H
 replace H : (if t280 < 0 then (none) else ((laws_eqBoard.f k t266 t267 t268 t253 t254 t255).bind fun t282 => (if t282 = true then ((laws_markBoard.f k t266 t267 t268 1).bind fun bt283 => ((laws_heldBoard.f k t266 t267 bt283.2 1).bind fun t285 => (if t285 < 0 then (none) else (if t285 = bt283.1 then ((laws_toBoard.f k a0_0 a0_1 l0_2).bind fun bt286 => ((impl_TurnBoard.f k bt286.1 bt286.2.1 bt286.2.2 a1).bind fun bt291 => ((laws_eqBoard.f k bt291.1 bt291.2.1 bt291.2.2.1 t253 t254 t255).bind fun t298 => (if t298 = true then (if bt291.2.2.2 = t258 then ((laws_heldBoard.f k t266 t267 bt283.2 1).bind fun t299 => (if t299 < 0 then (none) else (if t299 = bt283.1 then (some true) else (none)))) else (none)) else (none))))) else (none))))) else (none)))) = some r := H
 have A18 := Aside0.mk A180
 clear A180
 by_cases c19 : t280 < 0
 ·rw [if_pos c19] at H
  exact absurd H (by simp)
 rw [if_neg c19] at H
 have c19b0 : decide (t280 < 0) = false := decide_eq_false c19
 clear c19
 replace H := Option.bind_eq_some_iff.mp H
 obtain ⟨t282, A200, H⟩ := H
 replace H : (if t282 = true then ((laws_markBoard.f k t266 t267 t268 1).bind fun bt283 => ((laws_heldBoard.f k t266 t267 bt283.2 1).bind fun t285 => (if t285 < 0 then (none) else (if t285 = bt283.1 then ((laws_toBoard.f k a0_0 a0_1 l0_2).bind fun bt286 => ((impl_TurnBoard.f k bt286.1 bt286.2.1 bt286.2.2 a1).bind fun bt291 => ((laws_eqBoard.f k bt291.1 bt291.2.1 bt291.2.2.1 t253 t254 t255).bind fun t298 => (if t298 = true then (if bt291.2.2.2 = t258 then ((laws_heldBoard.f k t266 t267 bt283.2 1).bind fun t299 => (if t299 < 0 then (none) else (if t299 = bt283.1 then (some true) else (none)))) else (none)) else (none))))) else (none))))) else (none)) = some r := H
 have A20 := Aside0.mk A200
 clear A200
 by_cases c21 : t282 = true
 rotate_left
 ·replace c21 := Bool.eq_false_iff.mpr c21
  subst c21
  have H1 : (none) = some r := by rw [if_neg (show ¬ (false = true) by decide)] at H; exact H
  clear H
  have H := H1
  clear H1
  exact absurd H (by simp)
 subst c21
 have H1 : ((laws_markBoard.f k t266 t267 t268 1).bind fun bt283 => ((laws_heldBoard.f k t266 t267 bt283.2 1).bind fun t285 => (if t285 < 0 then (none) else (if t285 = bt283.1 then ((laws_toBoard.f k a0_0 a0_1 l0_2).bind fun bt286 => ((impl_TurnBoard.f k bt286.1 bt286.2.1 bt286.2.2 a1).bind fun bt291 => ((laws_eqBoard.f k bt291.1 bt291.2.1 bt291.2.2.1 t253 t254 t255).bind fun t298 => (if t298 = true then (if bt291.2.2.2 = t258 then ((laws_heldBoard.f k t266 t267 bt283.2 1).bind fun t299 => (if t299 < 0 then (none) else (if t299 = bt283.1 then (some true) else (none)))) else (none)) else (none))))) else (none))))) = some r := by rw [if_pos rfl] at H; exact H
 clear H
 have H := H1
 clear H1
 replace H := Option.bind_eq_some_iff.mp H
 obtain ⟨⟨t283, t284⟩, A220, H⟩ := H
 replace H : ((laws_heldBoard.f k t266 t267 t284 1).bind fun t285 => (if t285 < 0 then (none) else (if t285 = t283 then ((laws_toBoard.f k a0_0 a0_1 l0_2).bind fun bt286 => ((impl_TurnBoard.f k bt286.1 bt286.2.1 bt286.2.2 a1).bind fun bt291 => ((laws_eqBoard.f k bt291.1 bt291.2.1 bt291.2.2.1 t253 t254 t255).bind fun t298 => (if t298 = true then (if bt291.2.2.2 = t258 then ((laws_heldBoard.f k t266 t267 t284 1).bind fun t299 => (if t299 < 0 then (none) else (if t299 = t283 then (some true) else (none)))) else (none)) else (none))))) else (none)))) = some r := H
 have A22 := Aside0.mk A220
 clear A220
 replace H := Option.bind_eq_some_iff.mp H
 obtain ⟨t285, A230, H⟩ := H
 replace H : (if t285 < 0 then (none) else (if t285 = t283 then ((laws_toBoard.f k a0_0 a0_1 l0_2).bind fun bt286 => ((impl_TurnBoard.f k bt286.1 bt286.2.1 bt286.2.2 a1).bind fun bt291 => ((laws_eqBoard.f k bt291.1 bt291.2.1 bt291.2.2.1 t253 t254 t255).bind fun t298 => (if t298 = true then (if bt291.2.2.2 = t258 then ((laws_heldBoard.f k t266 t267 t284 1).bind fun t299 => (if t299 < 0 then (none) else (if t299 = t283 then (some true) else (none)))) else (none)) else (none))))) else (none))) = some r := H
 have A23 := Aside0.mk A230
 clear A230
 by_cases c24 : t285 < 0
 ·rw [if_pos c24] at H
  exact absurd H (by simp)
 rw [if_neg c24] at H
 have c24b0 : decide (t285 < 0) = false := decide_eq_false c24
 clear c24
 by_cases c25 : t285 = t283
 rotate_left
 ·rw [if_neg c25] at H
  exact absurd H (by simp)
 rw [if_pos c25] at H
 have c25b0 : (t285 == t283) = true := beq_iff_eq.mpr c25
 have c25b1 : (t285 != t283) = false := bne_eq_false_iff_eq.mpr c25
 clear c25
 replace H := Option.bind_eq_some_iff.mp H
 obtain ⟨⟨t286, t287, t288⟩, A260, H⟩ := H
 replace H : ((impl_TurnBoard.f k t286 t287 t288 a1).bind fun bt291 => ((laws_eqBoard.f k bt291.1 bt291.2.1 bt291.2.2.1 t253 t254 t255).bind fun t298 => (if t298 = true then (if bt291.2.2.2 = t258 then ((laws_heldBoard.f k t266 t267 t284 1).bind fun t299 => (if t299 < 0 then (none) else (if t299 = t283 then (some true) else (none)))) else (none)) else (none)))) = some r := H
 have A26 := Aside0.mk A260
 clear A260
 replace H := Option.bind_eq_some_iff.mp H
 obtain ⟨⟨t291, t292, t293, t296⟩, A270, H⟩ := H
 replace H : ((laws_eqBoard.f k t291 t292 t293 t253 t254 t255).bind fun t298 => (if t298 = true then (if t296 = t258 then ((laws_heldBoard.f k t266 t267 t284 1).bind fun t299 => (if t299 < 0 then (none) else (if t299 = t283 then (some true) else (none)))) else (none)) else (none))) = some r := H
 have A27 := Aside0.mk A270
 clear A270
 replace H := Option.bind_eq_some_iff.mp H
 obtain ⟨t298, A280, H⟩ := H
 replace H : (if t298 = true then (if t296 = t258 then ((laws_heldBoard.f k t266 t267 t284 1).bind fun t299 => (if t299 < 0 then (none) else (if t299 = t283 then (some true) else (none)))) else (none)) else (none)) = some r := H
 have A28 := Aside0.mk A280
 clear A280
 by_cases c29 : t298 = true
 rotate_left
 ·replace c29 := Bool.eq_false_iff.mpr c29
  subst c29
  have H1 : (none) = some r := by rw [if_neg (show ¬ (false = true) by decide)] at H; exact H
  clear H
  have H := H1
  clear H1
  exact absurd H (by simp)
 subst c29
 have H1 : (if t296 = t258 then ((laws_heldBoard.f k t266 t267 t284 1).bind fun t299 => (if t299 < 0 then (none) else (if t299 = t283 then (some true) else (none)))) else (none)) = some r := by rw [if_pos rfl] at H; exact H
 clear H
 have H := H1
 clear H1
 by_cases c30 : t296 = t258
 rotate_left
 ·rw [if_neg c30] at H
  exact absurd H (by simp)
 rw [if_pos c30] at H
 have c30b0 : (t296 == t258) = true := beq_iff_eq.mpr c30
 have c30b1 : (t296 != t258) = false := bne_eq_false_iff_eq.mpr c30
 clear c30
 replace H := Option.bind_eq_some_iff.mp H
 obtain ⟨t299, A310, H⟩ := H
 replace H : (if t299 < 0 then (none) else (if t299 = t283 then (some true) else (none))) = some r := H
 have A31 := Aside0.mk A310
 clear A310
 by_cases c32 : t299 < 0
 ·rw [if_pos c32] at H
  exact absurd H (by simp)
 rw [if_neg c32] at H
 have c32b0 : decide (t299 < 0) = false := decide_eq_false c32
 clear c32
 by_cases c33 : t299 = t283
 rotate_left
 ·rw [if_neg c33] at H
  exact absurd H (by simp)
 rw [if_pos c33] at H
 have c33b0 : (t299 == t283) = true := beq_iff_eq.mpr c33
 have c33b1 : (t299 != t283) = false := bne_eq_false_iff_eq.mpr c33
 clear c33
 obtain rfl := Option.some.inj H
 go_enter Try.func16, Try.ntmps16
 try go_wp2_with (first | ((with_reducible refine gate_dst (N := 2) rfl ?_); refine box_event ?hg (N := 2) ?hd (cs := #[.int .i8 a0_0, .int .i8 a0_1, .slice A0_2 l0_2.length c0_2]) (t := 25) ?hr ?_; (case hd => rfl); (case hg => rfl); (case hr => first | (go_simp; done) | (go_simp; rfl)); intro gb246 hg w34 hbox hb; have n_ : _ ∧ _ ∧ _ ∧ _ := ⟨zb HB hb, Aside0.mk (hbox), zg HB hg, zg HB hg⟩; clear HB; obtain ⟨HB, BK246, GW246, GE246⟩ := n_; clear hb hbox hg; obtain ⟨z35_0, z35_1, z35_2, y35_0, y35_1, y35_2⟩ := zB3 BK246) | ((with_reducible refine gate_callee (f := 40) rfl ?_); refine goesL_ (some 18) rfl rfl Try.func40 (by kernel_rfl) rfl #[.agg #[.int .i8 a0_0, .int .i8 a0_1, .slice A0_2 l0_2.length c0_2], .int .i64 1048576] rfl (by (try simp only [List.map_toArray, List.map_cons, List.map_nil]); first | done | rfl | (simp only [List.length_drop, List.length_take]; rfl)) ?_; (with_reducible refine (laws_szBoard.calls a0_0 a0_1 _ _ l0_2 1048576 t247 _ ?side1 ?side2 A3.out).mono ?_); (case side1 => exact zcc HB HR0_2.out); (case side2 => exact HC0_2.out); rintro e w36 ⟨rfl, hb⟩; refine ⟨_, rfl, ?_⟩; have n_ : _ ∧ _ := ⟨zk BK246 hb, zbs hb⟩; clear BK246 HB; obtain ⟨BK246, HB⟩ := n_; (try clear hb); (try clear hb2); (try clear hk); (try clear hi); obtain ⟨z37_0, z37_1, z37_2, y37_0, y37_1, y37_2⟩ := zB3 BK246) | ((with_reducible refine gate_callee (f := 42) rfl ?_); refine goesL_ (some 23) rfl rfl Try.func42 (by kernel_rfl) rfl #[.agg #[.int .i8 a0_0, .int .i8 a0_1, .slice A0_2 l0_2.length c0_2]] rfl (by (try simp only [List.map_toArray, List.map_cons, List.map_nil]); first | done | rfl | (simp only [List.length_drop, List.length_take]; rfl)) ?_; (with_reducible refine (laws_toBoard.calls k a0_0 a0_1 _ _ l0_2 t248 t249 t250 _ ?side1 ?side2 A8.out).mono ?_); (case side1 => exact zcc HB HR0_2.out); (case side2 => exact HC0_2.out); rintro e w38 ⟨v251, rfl, ho0, hb⟩; refine ⟨_, rfl, ?_⟩; have n_ : _ ∧ _ ∧ _ := ⟨Aside0.mk (Kd.R_lower ho0 (zz HB)), zk BK246 hb, zbs hb⟩; clear BK246 HB; obtain ⟨HO252, BK246, HB⟩ := n_; (try clear hb); (try clear hb2); (try clear hk); (try clear hi); (try clear ho0); obtain ⟨Ao39, co39, eo39⟩ := Kd.R_slice HO252.out; subst eo39) | ((with_reducible refine gate_callee (f := 69) rfl ?_); refine goesL_ (some 25) rfl rfl Try.func69 (by kernel_rfl) rfl #[.agg #[.int .i8 t248, .int .i8 t249, .slice Ao39 t250.length co39], .int .i64 a1] rfl (by (try simp only [List.map_toArray, List.map_cons, List.map_nil]); first | done | rfl | (simp only [List.length_drop, List.length_take]; rfl)) ?_; (with_reducible refine (spec_TurnBoard.calls k t248 t249 _ _ t250 a1 t253 t254 t255 t258 _ ?side1 ?side2 A9.out).mono ?_); (case side1 => exact zrc HO252); (case side2 => exact (Kd.R_reads' HO252.out).2.1); rintro e w40 ⟨v256, rfl, ho0, hb⟩; refine ⟨_, rfl, ?_⟩; have n_ : _ ∧ _ ∧ _ ∧ _ := ⟨Aside0.mk (Kd.R_elder' (ze HO252).out (Kd.R_base ho0) hb), Aside0.mk (Kd.R_lower (Kd.R_new' ho0 (Kd.R_lt (ze HO252).out)) (zz HB)), zk BK246 hb, zbs hb⟩; clear HO252 BK246 HB; obtain ⟨HO252, HO257, BK246, HB⟩ := n_; (try clear hb); (try clear hb2); (try clear hk); (try clear hi); (try clear ho0)) | ((with_reducible refine gate_dst (N := 6) rfl ?_); refine box_event ?hg (N := 6) ?hd (cs := #[.int .i8 0, .int .i8 0, .slice none 0 0]) (t := 37) ?hr ?_; (case hd => rfl); (case hg => rfl); (case hr => first | (go_simp; done) | (go_simp; rfl)); intro gb259 hg w41 hbox hb; have n_ : _ ∧ _ ∧ _ ∧ _ ∧ _ ∧ _ ∧ _ ∧ _ ∧ _ := ⟨zr HO252 hb, zr HO257 hb, zk BK246 hb, zbs hb, Aside0.mk (hbox), zg HB hg, zg HB hg, zn1 BK246 hg, zn2 BK246 hg⟩; clear HO252 HO257 BK246 HB; obtain ⟨HO252, HO257, BK246, HB, BK259, GW259, GE259, NB246_259, NB259_246⟩ := n_; clear hb hbox hg; have hnb42 := NB259_246.out; have hnc42 := NB246_259.out; obtain ⟨z43_0, z43_1, z43_2, y43_0, y43_1, y43_2⟩ := zB3 BK259; obtain ⟨Ao44, co44, eo44⟩ := Kd.R_slice HO257.out; subst eo44; obtain ⟨z45_0, z45_1, z45_2, y45_0, y45_1, y45_2⟩ := zB3 BK246) | ((with_reducible refine gate_callee (f := 42) rfl ?_); refine goesL_ (some 29) rfl rfl Try.func42 (by kernel_rfl) rfl #[.agg #[.int .i8 a0_0, .int .i8 a0_1, .slice A0_2 l0_2.length c0_2]] rfl (by (try simp only [List.map_toArray, List.map_cons, List.map_nil]); first | done | rfl | (simp only [List.length_drop, List.length_take]; rfl)) ?_; (with_reducible refine (laws_toBoard.calls k a0_0 a0_1 _ _ l0_2 t260 t261 t262 _ ?side1 ?side2 A10.out).mono ?_); (case side1 => exact Kd.C_below HR0_2.out (by repeat (first | (with_reducible first | exact HB.out | apply below_alloc | apply pw_below_drewN | apply below_drew1 | refine below_set ?_ GE246.out | refine below_set ?_ GE259.out) | exact HB.out))); (case side2 => exact HC0_2.out); rintro e w46 ⟨v263, rfl, ho0, hb⟩; refine ⟨_, rfl, ?_⟩; have n_ : _ ∧ _ ∧ _ ∧ _ ∧ _ ∧ _ := ⟨Aside0.mk (Kd.R_elder' (zs HO252 BK259).out (Kd.R_base ho0) hb), Aside0.mk (Kd.R_elder' (zs HO257 BK259).out (Kd.R_base ho0) hb), Aside0.mk (Kd.R_lower (Kd.R_new' (Kd.R_new' ho0 (Kd.R_lt (zs HO252 BK259).out)) (Kd.R_lt (zs HO257 BK259).out)) (zz HB)), zfb BK246 NB246_259 hb, Aside0.mk (blk_below (g := gb259) (o := .cells #[.int .i8 t253, .int .i8 t254, .slice Ao44 t255.length co44] 37 (0, 0)) (by (with_reducible repeat (first | refine blk_drewN ?_ _ | refine blk_drew ?_ | refine blk_alloc ?_ _)); refine blk_put (cs := #[.int .i8 t253, .int .i8 t254, .slice none 0 0]) ?_ 2 _ rfl; (with_reducible repeat (first | refine blk_drewN ?_ _ | refine blk_drew ?_ | refine blk_alloc ?_ _)); refine blk_put (cs := #[.int .i8 t253, .int .i8 0, .slice none 0 0]) ?_ 1 _ rfl; (with_reducible repeat (first | refine blk_drewN ?_ _ | refine blk_drew ?_ | refine blk_alloc ?_ _)); refine blk_put (cs := #[.int .i8 0, .int .i8 0, .slice none 0 0]) ?_ 0 _ rfl; (with_reducible repeat (first | refine blk_drewN ?_ _ | refine blk_drew ?_ | refine blk_alloc ?_ _)); exact BK259.out) hb), zbs hb⟩; clear HO252 HO257 BK246 BK259 HB; obtain ⟨HO252, HO257, HO264, BK246, BK259, HB⟩ := n_; (try clear hb); (try clear hb2); (try clear hk); (try clear hi); (try clear ho0)) | ((with_reducible refine gate_dst (N := 8) rfl ?_); refine box_event ?hg (N := 8) ?hd (cs := #[.int .i8 0, .int .i8 0, .slice none 0 0]) (t := 37) ?hr ?_; (case hd => rfl); (case hg => rfl); (case hr => first | (go_simp; done) | (go_simp; rfl)); intro gb265 hg w47 hbox hb; have n_ : _ ∧ _ ∧ _ ∧ _ ∧ _ ∧ _ ∧ _ ∧ _ ∧ _ ∧ _ ∧ _ ∧ _ ∧ _ := ⟨zr HO252 hb, zr HO257 hb, zr HO264 hb, zk BK246 hb, zk BK259 hb, zbs hb, Aside0.mk (hbox), zg HB hg, zg HB hg, zn1 BK246 hg, zn2 BK246 hg, zn1 BK259 hg, zn2 BK259 hg⟩; clear HO252 HO257 HO264 BK246 BK259 HB; obtain ⟨HO252, HO257, HO264, BK246, BK259, HB, BK265, GW265, GE265, NB246_265, NB265_246, NB259_265, NB265_259⟩ := n_; clear hb hbox hg; have hnb48 := NB265_246.out; have hnc48 := NB246_265.out; have hnb49 := NB265_259.out; have hnc49 := NB259_265.out; obtain ⟨z50_0, z50_1, z50_2, y50_0, y50_1, y50_2⟩ := zB3 BK265; obtain ⟨Ao51, co51, eo51⟩ := Kd.R_slice HO264.out; subst eo51) | ((with_reducible refine gate_callee (f := 70) rfl ?_); refine goesL_ (some 33) rfl rfl Try.func70 (by kernel_rfl) rfl #[.agg #[.int .i8 t260, .int .i8 t261, .slice Ao51 t262.length co51], .int .i64 a1] rfl (by (try simp only [List.map_toArray, List.map_cons, List.map_nil]); first | done | rfl | (simp only [List.length_drop, List.length_take]; rfl)) ?_; (with_reducible refine (impl_TurnBoard.calls k t260 t261 _ _ t262 a1 t266 t267 t268 t271 _ ?side1 ?side2 A11.out).mono ?_); (case side1 => exact (Kd.R_reads' (zs HO264 BK265).out).2.2); (case side2 => exact (Kd.R_reads' HO264.out).2.1); rintro e w52 ⟨v269, rfl, ho0, hb⟩; refine ⟨_, rfl, ?_⟩; have n_ : _ ∧ _ ∧ _ ∧ _ ∧ _ ∧ _ ∧ _ ∧ _ := ⟨Aside0.mk (Kd.R_elder' (zs HO252 BK265).out (Kd.R_base ho0) hb), Aside0.mk (Kd.R_elder' (zs HO257 BK265).out (Kd.R_base ho0) hb), Aside0.mk (Kd.R_elder' (zs HO264 BK265).out (Kd.R_base ho0) hb), Aside0.mk (Kd.R_lower (Kd.R_new' (Kd.R_new' (Kd.R_new' ho0 (Kd.R_lt (zs HO252 BK265).out)) (Kd.R_lt (zs HO257 BK265).out)) (Kd.R_lt (zs HO264 BK265).out)) (zz HB)), zfb BK246 NB246_265 hb, zfb BK259 NB259_265 hb, Aside0.mk (blk_below (g := gb265) (o := .cells #[.int .i8 t260, .int .i8 t261, .slice Ao51 t262.length co51] 37 (0, 0)) (by (with_reducible repeat (first | refine blk_drewN ?_ _ | refine blk_drew ?_ | refine blk_alloc ?_ _)); refine blk_put (cs := #[.int .i8 t260, .int .i8 t261, .slice none 0 0]) ?_ 2 _ rfl; (with_reducible repeat (first | refine blk_drewN ?_ _ | refine blk_drew ?_ | refine blk_alloc ?_ _)); refine blk_put (cs := #[.int .i8 t260, .int .i8 0, .slice none 0 0]) ?_ 1 _ rfl; (with_reducible repeat (first | refine blk_drewN ?_ _ | refine blk_drew ?_ | refine blk_alloc ?_ _)); refine blk_put (cs := #[.int .i8 0, .int .i8 0, .slice none 0 0]) ?_ 0 _ rfl; (with_reducible repeat (first | refine blk_drewN ?_ _ | refine blk_drew ?_ | refine blk_alloc ?_ _)); exact BK265.out) hb), zbs hb⟩; clear HO252 HO257 HO264 BK246 BK259 BK265 HB; obtain ⟨HO252, HO257, HO264, HO270, BK246, BK259, BK265, HB⟩ := n_; (try clear hb); (try clear hb2); (try clear hk); (try clear hi); (try clear ho0)) | ((with_reducible refine gate_dst (N := 9) rfl ?_); refine box_event ?hg (N := 9) ?hd (cs := #[.int .i8 0, .int .i8 0, .slice none 0 0]) (t := 37) ?hr ?_; (case hd => rfl); (case hg => rfl); (case hr => first | (go_simp; done) | (go_simp; rfl)); intro gb272 hg w53 hbox hb; have n_ : _ ∧ _ ∧ _ ∧ _ ∧ _ ∧ _ ∧ _ ∧ _ ∧ _ ∧ _ ∧ _ ∧ _ ∧ _ ∧ _ ∧ _ ∧ _ ∧ _ := ⟨zr HO252 hb, zr HO257 hb, zr HO264 hb, zr HO270 hb, zk BK246 hb, zk BK259 hb, zk BK265 hb, zbs hb, Aside0.mk (hbox), zg HB hg, zg HB hg, zn1 BK246 hg, zn2 BK246 hg, zn1 BK259 hg, zn2 BK259 hg, zn1 BK265 hg, zn2 BK265 hg⟩; clear HO252 HO257 HO264 HO270 BK246 BK259 BK265 HB; obtain ⟨HO252, HO257, HO264, HO270, BK246, BK259, BK265, HB, BK272, GW272, GE272, NB246_272, NB272_246, NB259_272, NB272_259, NB265_272, NB272_265⟩ := n_; clear hb hbox hg; have hnb54 := NB272_246.out; have hnc54 := NB246_272.out; have hnb55 := NB272_259.out; have hnc55 := NB259_272.out; have hnb56 := NB272_265.out; have hnc56 := NB265_272.out; obtain ⟨z57_0, z57_1, z57_2, y57_0, y57_1, y57_2⟩ := zB3 BK272; obtain ⟨Ao58, co58, eo58⟩ := Kd.R_slice HO270.out; subst eo58; obtain ⟨z59_0, z59_1, z59_2, y59_0, y59_1, y59_2⟩ := zB3 BK259) | ((with_reducible refine gate_callee (f := 44) rfl ?_); refine goesL_ (some 38) rfl rfl Try.func44 (by kernel_rfl) rfl #[.agg #[.int .i8 t266, .int .i8 t267, .slice Ao58 t268.length co58], .agg #[.int .i8 t253, .int .i8 t254, .slice Ao44 t255.length co44]] rfl (by (try simp only [List.map_toArray, List.map_cons, List.map_nil]); first | done | rfl | (simp only [List.length_drop, List.length_take]; rfl)) ?_; (with_reducible refine (laws_eqBoard.calls k t266 t267 _ _ t268 t253 t254 _ _ t255 true _ ?side1 ?side2 ?side3 ?side4 A12.out).mono ?_); (case side1 => exact (Kd.R_reads' (zs HO270 BK272).out).2.2); (case side2 => exact (Kd.R_reads' HO270.out).2.1); (case side3 => exact (Kd.R_reads' (zs HO257 BK272).out).2.2); (case side4 => exact (Kd.R_reads' HO257.out).2.1); rintro e w60 ⟨rfl, hb⟩; refine ⟨_, rfl, ?_⟩; have n_ : _ ∧ _ ∧ _ ∧ _ ∧ _ ∧ _ ∧ _ ∧ _ ∧ _ := ⟨zsb HO252 BK272 hb, zsb HO257 BK272 hb, zsb HO264 BK272 hb, zsb HO270 BK272 hb, zfb BK246 NB246_272 hb, zfb BK259 NB259_272 hb, zfb BK265 NB265_272 hb, Aside0.mk (blk_below (g := gb272) (o := .cells #[.int .i8 t266, .int .i8 t267, .slice Ao58 t268.length co58] 37 (0, 0)) (by (with_reducible repeat (first | refine blk_drewN ?_ _ | refine blk_drew ?_ | refine blk_alloc ?_ _)); refine blk_put (cs := #[.int .i8 t266, .int .i8 t267, .slice none 0 0]) ?_ 2 _ rfl; (with_reducible repeat (first | refine blk_drewN ?_ _ | refine blk_drew ?_ | refine blk_alloc ?_ _)); refine blk_put (cs := #[.int .i8 t266, .int .i8 0, .slice none 0 0]) ?_ 1 _ rfl; (with_reducible repeat (first | refine blk_drewN ?_ _ | refine blk_drew ?_ | refine blk_alloc ?_ _)); refine blk_put (cs := #[.int .i8 0, .int .i8 0, .slice none 0 0]) ?_ 0 _ rfl; (with_reducible repeat (first | refine blk_drewN ?_ _ | refine blk_drew ?_ | refine blk_alloc ?_ _)); exact BK272.out) hb), zbs hb⟩; clear HO252 HO257 HO264 HO270 BK246 BK259 BK265 BK272 HB; obtain ⟨HO252, HO257, HO264, HO270, BK246, BK259, BK265, BK272, HB⟩ := n_; (try clear hb); (try clear hb2); (try clear hk); (try clear hi)))
 have n0_ := Aside0.mk (Kd.R_drew HO252.out)
 have n1_ := Aside0.mk (Kd.R_drew HO257.out)
 have n2_ := Aside0.mk (Kd.R_drew HO264.out)
 have n3_ := Aside0.mk (Kd.R_drew HO270.out)
 have n4_ := Aside0.mk (blk_drew BK246.out)
 have n5_ := Aside0.mk (blk_drew BK259.out)
 have n6_ := Aside0.mk (blk_drew BK265.out)
 have n7_ := Aside0.mk (blk_drew BK272.out)
 have n8_ := Aside0.mk (below_drew1 HB.out)
 clear HO252
 clear HO257
 clear HO264
 clear HO270
 clear BK246
 clear BK259
 clear BK265
 clear BK272
 clear HB
 have HO252 := n0_
 have HO257 := n1_
 have HO264 := n2_
 have HO270 := n3_
 have BK246 := n4_
 have BK259 := n5_
 have BK265 := n6_
 have BK272 := n7_
 have HB := n8_
 clear n0_ n1_ n2_ n3_ n4_ n5_ n6_ n7_ n8_
 refine start_ (n := 5) (S := fun w' => w'.cell? ⟨gb265, 0, none⟩ = some (.int .i8 t260) ∧ w'.cell? ⟨gb265, 1, none⟩ = some (.int .i8 t261) ∧ w'.cell? ⟨gb265, 2, none⟩ = some (.slice Ao51 t262.length co51) ∧ w'.cell? ⟨gb246, 0, none⟩ = some (.int .i8 a0_0) ∧ w'.cell? ⟨gb246, 1, none⟩ = some (.int .i8 a0_1) ∧ w'.cell? ⟨gb246, 2, none⟩ = some (.slice A0_2 l0_2.length c0_2)) (ds := []) #[false, false, false, false, false] (by kernel_rfl) rfl rfl ⟨(blk_cell BK265.out 0).trans rfl, (blk_cell BK265.out 1).trans rfl, (blk_cell BK265.out 2).trans rfl, (blk_cell BK246.out 0).trans rfl, (blk_cell BK246.out 1).trans rfl, (blk_cell BK246.out 2).trans rfl⟩ (fun hHeld => ?_)
 generalize w60.drew = w61 at HO252 HO257 HO264 HO270 BK246 BK259 BK265 BK272 HB hHeld ⊢
 refine take_ (i := 0) (N := some 45) (v := ?_) (a' := ?_) #[true, false, false, false, false] rfl rfl (by kernel_rfl) (fun _ _ _ h => h) (Or.inl ⟨by rfl, ?_⟩) hHeld ?_ ?_
 rotate_left
 ·rintro w' ⟨s0, s1, s2, s3, s4, s5⟩
  go_simp
  with_reducible rfl
 rotate_left
 ·simp only [Act.put, List.setIfInBounds_toArray, List.set_cons_zero, List.set_cons_succ, i64_w, i32_w]
  rfl
 refine take_ (i := 1) (N := some 46) (v := ?_) (a' := ?_) #[true, true, false, false, false] rfl rfl (by kernel_rfl) (fun _ _ _ h => h) (Or.inl ⟨by rfl, ?_⟩) hHeld ?_ ?_
 rotate_left
 ·rintro w' ⟨s0, s1, s2, s3, s4, s5⟩
  go_simp
  with_reducible rfl
 rotate_left
 ·simp only [Act.put, List.setIfInBounds_toArray, List.set_cons_zero, List.set_cons_succ, i64_w, i32_w]
  rfl
 refine one_ (i := 2) (N := some 47) #[true, true, true, false, false] rfl rfl (by kernel_rfl) (by decide) (fun K hK => ?_)
 refine goes_ Try.func42 (by kernel_rfl) rfl #[.agg #[.int .i8 a0_0, .int .i8 a0_1, .slice A0_2 l0_2.length c0_2]] (by rfl) rfl rfl (by (try simp only [List.map_toArray, List.map_cons, List.map_nil]); first | done | rfl | (simp only [List.length_drop, List.length_take]; rfl)) ?_
 with_reducible refine (laws_toBoard.calls k a0_0 a0_1 _ _ l0_2 t274 t275 t276 _ ?side1 ?side2 A15.out).mono ?_
 (case side1 => exact zcc HB HR0_2.out)
 (case side2 => exact HC0_2.out)
 rintro e w62 ⟨v277, rfl, ho0, hb⟩
 refine ⟨_, rfl, ?_⟩
 have n0_ := Aside0.mk (Kd.R_elder' (ze HO252).out (Kd.R_base ho0) hb)
 have n1_ := Aside0.mk (Kd.R_elder' (ze HO257).out (Kd.R_base ho0) hb)
 have n2_ := Aside0.mk (Kd.R_elder' (ze HO264).out (Kd.R_base ho0) hb)
 have n3_ := Aside0.mk (Kd.R_elder' (ze HO270).out (Kd.R_base ho0) hb)
 have n4_ := Aside0.mk (Kd.R_lower (Kd.R_new' (Kd.R_new' (Kd.R_new' (Kd.R_new' ho0 (Kd.R_lt (ze HO252).out)) (Kd.R_lt (ze HO257).out)) (Kd.R_lt (ze HO264).out)) (Kd.R_lt (ze HO270).out)) (zz HB))
 have n5_ := zk BK246 hb
 have n6_ := zk BK259 hb
 have n7_ := zk BK265 hb
 have n8_ := zk BK272 hb
 have n9_ := zbs hb
 clear HO252
 clear HO257
 clear HO264
 clear HO270
 clear BK246
 clear BK259
 clear BK265
 clear BK272
 clear HB
 have HO252 := n0_
 have HO257 := n1_
 have HO264 := n2_
 have HO270 := n3_
 have HO278 := n4_
 have BK246 := n5_
 have BK259 := n6_
 have BK265 := n7_
 have BK272 := n8_
 have HB := n9_
 clear n0_ n1_ n2_ n3_ n4_ n5_ n6_ n7_ n8_ n9_
 (try clear hb)
 (try clear hb2)
 (try clear hk)
 (try clear hi)
 (try clear ho0)
 obtain ⟨Ao63, co63, eo63⟩ := Kd.R_slice HO278.out
 (first | subst eo63 | (injection eo63 with f1_ f2_ f3_; have f4_ := f1_.symm; have f5_ := f3_.symm; clear f1_ f2_ f3_; subst f4_; subst f5_))
 refine hK.out _ _ ⟨(blk_cell BK265.out 0).trans rfl, (blk_cell BK265.out 1).trans rfl, (blk_cell BK265.out 2).trans rfl, (blk_cell BK246.out 0).trans rfl, (blk_cell BK246.out 1).trans rfl, (blk_cell BK246.out 2).trans rfl⟩ (fun hHeld => ?_)
 clear hK K
 refine norm_ (a' := ?_) ?_ ?_
 rotate_left
 ·show Act.put _ (some 47) _ = _
  simp only [Act.put, List.setIfInBounds_toArray, List.set_cons_zero, List.set_cons_succ, i64_w, i32_w]
  rfl
 refine one_ (i := 3) (N := some 48) #[true, true, true, true, false] rfl rfl (by kernel_rfl) (by decide) (fun K hK => ?_)
 refine goes_ Try.func44 (by kernel_rfl) rfl #[.agg #[.int .i8 t260, .int .i8 t261, .slice Ao51 t262.length co51], .agg #[.int .i8 t274, .int .i8 t275, .slice Ao63 t276.length co63]] (by rfl) rfl rfl (by (try simp only [List.map_toArray, List.map_cons, List.map_nil]); first | done | rfl | (simp only [List.length_drop, List.length_take]; rfl)) ?_
 with_reducible refine (laws_eqBoard.calls k t260 t261 _ _ t262 t274 t275 _ _ t276 true _ ?side1 ?side2 ?side3 ?side4 A16.out).mono ?_
 (case side1 => exact zrc HO264)
 (case side2 => exact (Kd.R_reads' HO264.out).2.1)
 (case side3 => exact zrc HO278)
 (case side4 => exact (Kd.R_reads' HO278.out).2.1)
 rintro e w64 ⟨rfl, hb⟩
 refine ⟨_, rfl, ?_⟩
 have n0_ := zr HO252 hb
 have n1_ := zr HO257 hb
 have n2_ := zr HO264 hb
 have n3_ := zr HO270 hb
 have n4_ := zr HO278 hb
 have n5_ := zk BK246 hb
 have n6_ := zk BK259 hb
 have n7_ := zk BK265 hb
 have n8_ := zk BK272 hb
 have n9_ := zbs hb
 clear HO252
 clear HO257
 clear HO264
 clear HO270
 clear HO278
 clear BK246
 clear BK259
 clear BK265
 clear BK272
 clear HB
 have HO252 := n0_
 have HO257 := n1_
 have HO264 := n2_
 have HO270 := n3_
 have HO278 := n4_
 have BK246 := n5_
 have BK259 := n6_
 have BK265 := n7_
 have BK272 := n8_
 have HB := n9_
 clear n0_ n1_ n2_ n3_ n4_ n5_ n6_ n7_ n8_ n9_
 (try clear hb)
 (try clear hb2)
 (try clear hk)
 (try clear hi)
 refine hK.out _ _ ⟨(blk_cell BK265.out 0).trans rfl, (blk_cell BK265.out 1).trans rfl, (blk_cell BK265.out 2).trans rfl, (blk_cell BK246.out 0).trans rfl, (blk_cell BK246.out 1).trans rfl, (blk_cell BK246.out 2).trans rfl⟩ (fun hHeld => ?_)
 clear hK K
 refine norm_ (a' := ?_) ?_ ?_
 rotate_left
 ·show Act.put _ (some 48) _ = _
  simp only [Act.put, List.setIfInBounds_toArray, List.set_cons_zero, List.set_cons_succ, i64_w, i32_w]
  rfl
 refine pure_ (i := 4) (N := some 49) (v := ?_) (a' := ?_) #[true, true, true, true, true] rfl rfl (by kernel_rfl) (fun _ _ _ h => h) (Or.inl ⟨by rfl, ?_⟩) ?_ ?_
 rotate_left
 ·intro w'
  go_simp
  with_reducible rfl
 rotate_left
 ·simp only [Act.put, List.setIfInBounds_toArray, List.set_cons_zero, List.set_cons_succ, i64_w, i32_w]
  rfl
 refine done_ (by kernel_rfl) ?_
 obtain ⟨z65_0, z65_1, z65_2, y65_0, y65_1, y65_2⟩ := zB3 BK265
 try go_wp2_with (first | ((with_reducible refine gate_callee (f := 50) rfl ?_); refine goesL_ (some 52) rfl rfl Try.func50 (by kernel_rfl) rfl #[.agg #[.int .i8 t260, .int .i8 t261, .slice Ao51 t262.length co51], .int .i64 1] rfl (by (try simp only [List.map_toArray, List.map_cons, List.map_nil]); first | done | rfl | (simp only [List.length_drop, List.length_take]; rfl)) ?_; (with_reducible refine (laws_markBoard.calls k t260 t261 (fun k_ => some k_ = (.slice Ao51 t262.length co51 : Value).ownBlock) (.slice Ao51 t262.length co51) t262 1 t280 t281 w _ ?side1 ?side2 A18.out).mono ?_); (case side1 => exact zbo); (case side2 => exact Kd.R_tight rfl HO264.out); rintro e w66 ⟨rfl, hy0, hb, hkp⟩; refine ⟨_, rfl, ?_⟩; have n_ : _ ∧ _ ∧ _ ∧ _ ∧ _ ∧ _ ∧ _ ∧ _ ∧ _ ∧ _ := ⟨zkr BK246 hkp (fun hs_ => (fun e_ => (Kd.R_ne HO264.out BK246.out (by decide)) e_) hs_), Aside0.mk (Kd.R_mono (ok' := fun k_ => some k_ ≠ (.slice Ao44 t255.length co44 : Value).ownBlock ∧ some k_ ≠ (.slice Ao51 t262.length co51 : Value).ownBlock ∧ some k_ ≠ (.slice Ao58 t268.length co58 : Value).ownBlock ∧ some k_ ≠ (.slice Ao63 t276.length co63 : Value).ownBlock) (Kd.R_keptB (HO252.out) hkp (fun k_ hk_ hs_ => (hk_.1.1.2) hs_)) (fun k_ hk_ => ⟨hk_.1.1.1.1.2, hk_.1.1.1.2, hk_.1.1.2, hk_.1.2⟩)), Aside0.mk (Kd.R_mono (ok' := fun k_ => some k_ ≠ (.slice Ao39 t250.length co39 : Value).ownBlock ∧ some k_ ≠ (.slice Ao51 t262.length co51 : Value).ownBlock ∧ some k_ ≠ (.slice Ao58 t268.length co58 : Value).ownBlock ∧ some k_ ≠ (.slice Ao63 t276.length co63 : Value).ownBlock) (Kd.R_keptB (HO257.out) hkp (fun k_ hk_ hs_ => (hk_.1.1.2) hs_)) (fun k_ hk_ => ⟨hk_.1.1.1.1.2, hk_.1.1.1.2, hk_.1.1.2, hk_.1.2⟩)), zkr BK259 hkp (fun hs_ => (fun e_ => (Kd.R_ne HO264.out BK259.out (by decide)) e_) hs_), Aside0.mk (Kd.R_reok rfl hy0 (fun k_ e_ => HO264.out.1 k_ e_)), zkr BK265 hkp (fun hs_ => (fun e_ => (Kd.R_ne HO264.out BK265.out (by decide)) e_) hs_), Aside0.mk (Kd.R_mono (ok' := fun k_ => some k_ ≠ (.slice Ao39 t250.length co39 : Value).ownBlock ∧ some k_ ≠ (.slice Ao44 t255.length co44 : Value).ownBlock ∧ some k_ ≠ (.slice Ao51 t262.length co51 : Value).ownBlock ∧ some k_ ≠ (.slice Ao63 t276.length co63 : Value).ownBlock) (Kd.R_keptB (HO270.out) hkp (fun k_ hk_ hs_ => (hk_.1.2) hs_)) (fun k_ hk_ => ⟨hk_.1.1.1.1.2, hk_.1.1.1.2, hk_.1.1.2, hk_.1.2⟩)), zkr BK272 hkp (fun hs_ => (fun e_ => (Kd.R_ne HO264.out BK272.out (by decide)) e_) hs_), Aside0.mk (Kd.R_mono (ok' := fun k_ => some k_ ≠ (.slice Ao39 t250.length co39 : Value).ownBlock ∧ some k_ ≠ (.slice Ao44 t255.length co44 : Value).ownBlock ∧ some k_ ≠ (.slice Ao51 t262.length co51 : Value).ownBlock ∧ some k_ ≠ (.slice Ao58 t268.length co58 : Value).ownBlock) (Kd.R_keptB (HO278.out) hkp (fun k_ hk_ hs_ => (hk_.1.2) hs_)) (fun k_ hk_ => ⟨hk_.1.1.1.1.2, hk_.1.1.1.2, hk_.1.1.2, hk_.1.2⟩)), Aside0.mk (hb)⟩; clear BK246 HO252 HO257 BK259 HO264 BK265 HO270 BK272 HO278 HB; obtain ⟨BK246, HO252, HO257, BK259, HO264, BK265, HO270, BK272, HO278, HB⟩ := n_; (try clear hb); (try clear hkp); (try clear hy0); obtain ⟨z67_0, z67_1, z67_2, y67_0, y67_1, y67_2⟩ := zB3 BK272; obtain ⟨z68_0, z68_1, z68_2, y68_0, y68_1, y68_2⟩ := zB3 BK259) | (go_at_call 44; (with_reducible refine (laws_eqBoard.calls k t266 t267 _ _ t268 t253 t254 _ _ t255 true _ ?side1 ?side2 ?side3 ?side4 A20.out).mono ?_); (case side1 => exact zrc HO270); (case side2 => exact (Kd.R_reads' HO270.out).2.1); (case side3 => exact zrc HO257); (case side4 => exact (Kd.R_reads' HO257.out).2.1); rintro e w69 ⟨rfl, hb⟩; have n_ : _ ∧ _ ∧ _ ∧ _ ∧ _ ∧ _ ∧ _ ∧ _ ∧ _ ∧ _ := ⟨zr HO252 hb, zr HO257 hb, zr HO264 hb, zr HO270 hb, zr HO278 hb, zk BK246 hb, zk BK259 hb, zk BK265 hb, zk BK272 hb, zbs hb⟩; clear HO252 HO257 HO264 HO270 HO278 BK246 BK259 BK265 BK272 HB; obtain ⟨HO252, HO257, HO264, HO270, HO278, BK246, BK259, BK265, BK272, HB⟩ := n_; (try clear hb); (try clear hb2); (try clear hk); (try clear hi); obtain ⟨z70_0, z70_1, z70_2, y70_0, y70_1, y70_2⟩ := zB3 BK272) | ((with_reducible refine gate_callee (f := 50) rfl ?_); refine goesL_ (some 68) rfl rfl Try.func50 (by kernel_rfl) rfl #[.agg #[.int .i8 t266, .int .i8 t267, .slice Ao58 t268.length co58], .int .i64 1] rfl (by (try simp only [List.map_toArray, List.map_cons, List.map_nil]); first | done | rfl | (simp only [List.length_drop, List.length_take]; rfl)) ?_; (with_reducible refine (laws_markBoard.calls k t266 t267 (fun k_ => some k_ = (.slice Ao58 t268.length co58 : Value).ownBlock) (.slice Ao58 t268.length co58) t268 1 t283 t284 w _ ?side1 ?side2 A22.out).mono ?_); (case side1 => exact zbo); (case side2 => exact Kd.R_tight rfl HO270.out); rintro e w71 ⟨rfl, hy0, hb, hkp⟩; refine ⟨_, rfl, ?_⟩; have n_ : _ ∧ _ ∧ _ ∧ _ ∧ _ ∧ _ ∧ _ ∧ _ ∧ _ ∧ _ := ⟨zkr BK246 hkp (fun hs_ => (fun e_ => (Kd.R_ne HO270.out BK246.out (by decide)) e_) hs_), Aside0.mk (Kd.R_mono (ok' := fun k_ => some k_ ≠ (.slice Ao44 t255.length co44 : Value).ownBlock ∧ some k_ ≠ (.slice Ao51 t262.length co51 : Value).ownBlock ∧ some k_ ≠ (.slice Ao58 t268.length co58 : Value).ownBlock ∧ some k_ ≠ (.slice Ao63 t276.length co63 : Value).ownBlock) (Kd.R_keptB (HO252.out) hkp (fun k_ hk_ hs_ => (hk_.2.2.1) hs_)) (fun k_ hk_ => ⟨hk_.1.1, hk_.1.2.1, hk_.1.2.2.1, hk_.1.2.2.2⟩)), Aside0.mk (Kd.R_mono (ok' := fun k_ => some k_ ≠ (.slice Ao39 t250.length co39 : Value).ownBlock ∧ some k_ ≠ (.slice Ao51 t262.length co51 : Value).ownBlock ∧ some k_ ≠ (.slice Ao58 t268.length co58 : Value).ownBlock ∧ some k_ ≠ (.slice Ao63 t276.length co63 : Value).ownBlock) (Kd.R_keptB (HO257.out) hkp (fun k_ hk_ hs_ => (hk_.2.2.1) hs_)) (fun k_ hk_ => ⟨hk_.1.1, hk_.1.2.1, hk_.1.2.2.1, hk_.1.2.2.2⟩)), zkr BK259 hkp (fun hs_ => (fun e_ => (Kd.R_ne HO270.out BK259.out (by decide)) e_) hs_), Aside0.mk (Kd.R_mono (ok' := fun k_ => some k_ ≠ (.slice Ao39 t250.length co39 : Value).ownBlock ∧ some k_ ≠ (.slice Ao44 t255.length co44 : Value).ownBlock ∧ some k_ ≠ (.slice Ao58 t268.length co58 : Value).ownBlock ∧ some k_ ≠ (.slice Ao63 t276.length co63 : Value).ownBlock) (Kd.R_keptB (HO264.out) hkp (fun k_ hk_ hs_ => (hk_.1.2) hs_)) (fun k_ hk_ => ⟨hk_.1.1.1.1.2, hk_.1.1.1.2, hk_.1.1.2, hk_.1.2⟩)), zkr BK265 hkp (fun hs_ => (fun e_ => (Kd.R_ne HO270.out BK265.out (by decide)) e_) hs_), Aside0.mk (Kd.R_reok rfl hy0 (fun k_ e_ => HO270.out.1 k_ e_)), zkr BK272 hkp (fun hs_ => (fun e_ => (Kd.R_ne HO270.out BK272.out (by decide)) e_) hs_), Aside0.mk (Kd.R_mono (ok' := fun k_ => some k_ ≠ (.slice Ao39 t250.length co39 : Value).ownBlock ∧ some k_ ≠ (.slice Ao44 t255.length co44 : Value).ownBlock ∧ some k_ ≠ (.slice Ao51 t262.length co51 : Value).ownBlock ∧ some k_ ≠ (.slice Ao58 t268.length co58 : Value).ownBlock) (Kd.R_keptB (HO278.out) hkp (fun k_ hk_ hs_ => (hk_.2.2.2) hs_)) (fun k_ hk_ => ⟨hk_.1.1, hk_.1.2.1, hk_.1.2.2.1, hk_.1.2.2.2⟩)), Aside0.mk (hb)⟩; clear BK246 HO252 HO257 BK259 HO264 BK265 HO270 BK272 HO278 HB; obtain ⟨BK246, HO252, HO257, BK259, HO264, BK265, HO270, BK272, HO278, HB⟩ := n_; (try clear hb); (try clear hkp); (try clear hy0); obtain ⟨z72_0, z72_1, z72_2, y72_0, y72_1, y72_2⟩ := zB3 BK272) | ((with_reducible refine gate_callee (f := 51) rfl ?_); refine goesL_ (some 71) rfl rfl Try.func51 (by kernel_rfl) rfl #[.agg #[.int .i8 t266, .int .i8 t267, .slice Ao58 t284.length co58], .int .i64 1] rfl (by (try simp only [List.map_toArray, List.map_cons, List.map_nil]); first | done | (rw [show t284.length = t268.length from (Kd.R_reads' HO270.out).1.symm] <;> rfl) | rfl | (simp only [List.length_drop, List.length_take]; rfl)) ?_; (with_reducible refine (laws_heldBoard.calls k t266 t267 _ _ t284 1 t285 _ ?side1 ?side2 A23.out).mono ?_); (case side1 => exact zrc HO270); (case side2 => rw [show t284.length = t268.length from (Kd.R_reads' HO270.out).1.symm]; exact (Kd.R_reads' HO270.out).2.1); rintro e w73 ⟨rfl, hb⟩; refine ⟨_, rfl, ?_⟩; have n_ : _ ∧ _ ∧ _ ∧ _ ∧ _ ∧ _ ∧ _ ∧ _ ∧ _ ∧ _ := ⟨zr HO252 hb, zr HO257 hb, zr HO264 hb, zr HO270 hb, zr HO278 hb, zk BK246 hb, zk BK259 hb, zk BK265 hb, zk BK272 hb, zbs hb⟩; clear HO252 HO257 HO264 HO270 HO278 BK246 BK259 BK265 BK272 HB; obtain ⟨HO252, HO257, HO264, HO270, HO278, BK246, BK259, BK265, BK272, HB⟩ := n_; (try clear hb); (try clear hb2); (try clear hk); (try clear hi); obtain ⟨z74_0, z74_1, z74_2, y74_0, y74_1, y74_2⟩ := zB3 BK246) | ((with_reducible refine gate_callee (f := 42) rfl ?_); refine goesL_ (some 79) rfl rfl Try.func42 (by kernel_rfl) rfl #[.agg #[.int .i8 a0_0, .int .i8 a0_1, .slice A0_2 l0_2.length c0_2]] rfl (by (try simp only [List.map_toArray, List.map_cons, List.map_nil]); first | done | rfl | (simp only [List.length_drop, List.length_take]; rfl)) ?_; (with_reducible refine (laws_toBoard.calls k a0_0 a0_1 _ _ l0_2 t286 t287 t288 _ ?side1 ?side2 A26.out).mono ?_); (case side1 => exact zcc HB HR0_2.out); (case side2 => exact HC0_2.out); rintro e w75 ⟨v289, rfl, ho0, hb⟩; refine ⟨_, rfl, ?_⟩; have n_ : _ ∧ _ ∧ _ ∧ _ ∧ _ ∧ _ ∧ _ ∧ _ ∧ _ ∧ _ ∧ _ := ⟨Aside0.mk (Kd.R_elder' (ze HO252).out (Kd.R_base ho0) hb), Aside0.mk (Kd.R_elder' (ze HO257).out (Kd.R_base ho0) hb), Aside0.mk (Kd.R_elder' (ze HO264).out (Kd.R_base ho0) hb), Aside0.mk (Kd.R_elder' (ze HO270).out (Kd.R_base ho0) hb), Aside0.mk (Kd.R_elder' (ze HO278).out (Kd.R_base ho0) hb), Aside0.mk (Kd.R_lower (Kd.R_new' (Kd.R_new' (Kd.R_new' (Kd.R_new' (Kd.R_new' ho0 (Kd.R_lt (ze HO252).out)) (Kd.R_lt (ze HO257).out)) (Kd.R_lt (ze HO264).out)) (Kd.R_lt (ze HO270).out)) (Kd.R_lt (ze HO278).out)) (zz HB)), zk BK246 hb, zk BK259 hb, zk BK265 hb, zk BK272 hb, zbs hb⟩; clear HO252 HO257 HO264 HO270 HO278 BK246 BK259 BK265 BK272 HB; obtain ⟨HO252, HO257, HO264, HO270, HO278, HO290, BK246, BK259, BK265, BK272, HB⟩ := n_; (try clear hb); (try clear hb2); (try clear hk); (try clear hi); (try clear ho0); obtain ⟨Ao76, co76, eo76⟩ := Kd.R_slice HO290.out; subst eo76) | ((with_reducible refine gate_callee (f := 70) rfl ?_); refine goesL_ (some 81) rfl rfl Try.func70 (by kernel_rfl) rfl #[.agg #[.int .i8 t286, .int .i8 t287, .slice Ao76 t288.length co76], .int .i64 a1] rfl (by (try simp only [List.map_toArray, List.map_cons, List.map_nil]); first | done | rfl | (simp only [List.length_drop, List.length_take]; rfl)) ?_; (with_reducible refine (impl_TurnBoard.calls k t286 t287 _ _ t288 a1 t291 t292 t293 t296 _ ?side1 ?side2 A27.out).mono ?_); (case side1 => exact zrc HO290); (case side2 => exact (Kd.R_reads' HO290.out).2.1); rintro e w77 ⟨v294, rfl, ho0, hb⟩; refine ⟨_, rfl, ?_⟩; have n_ : _ ∧ _ ∧ _ ∧ _ ∧ _ ∧ _ ∧ _ ∧ _ ∧ _ ∧ _ ∧ _ ∧ _ := ⟨Aside0.mk (Kd.R_elder' (ze HO252).out (Kd.R_base ho0) hb), Aside0.mk (Kd.R_elder' (ze HO257).out (Kd.R_base ho0) hb), Aside0.mk (Kd.R_elder' (ze HO264).out (Kd.R_base ho0) hb), Aside0.mk (Kd.R_elder' (ze HO270).out (Kd.R_base ho0) hb), Aside0.mk (Kd.R_elder' (ze HO278).out (Kd.R_base ho0) hb), Aside0.mk (Kd.R_elder' (ze HO290).out (Kd.R_base ho0) hb), Aside0.mk (Kd.R_lower (Kd.R_new' (Kd.R_new' (Kd.R_new' (Kd.R_new' (Kd.R_new' (Kd.R_new' ho0 (Kd.R_lt (ze HO252).out)) (Kd.R_lt (ze HO257).out)) (Kd.R_lt (ze HO264).out)) (Kd.R_lt (ze HO270).out)) (Kd.R_lt (ze HO278).out)) (Kd.R_lt (ze HO290).out)) (zz HB)), zk BK246 hb, zk BK259 hb, zk BK265 hb, zk BK272 hb, zbs hb⟩; clear HO252 HO257 HO264 HO270 HO278 HO290 BK246 BK259 BK265 BK272 HB; obtain ⟨HO252, HO257, HO264, HO270, HO278, HO290, HO295, BK246, BK259, BK265, BK272, HB⟩ := n_; (try clear hb); (try clear hb2); (try clear hk); (try clear hi); (try clear ho0)) | ((with_reducible refine gate_dst (N := 14) rfl ?_); refine box_event ?hg (N := 14) ?hd (cs := #[.int .i8 0, .int .i8 0, .slice none 0 0]) (t := 37) ?hr ?_; (case hd => rfl); (case hg => rfl); (case hr => first | (go_simp; done) | (go_simp; rfl)); intro gb297 hg w78 hbox hb; have n_ : _ ∧ _ ∧ _ ∧ _ ∧ _ ∧ _ ∧ _ ∧ _ ∧ _ ∧ _ ∧ _ ∧ _ ∧ _ ∧ _ ∧ _ ∧ _ ∧ _ ∧ _ ∧ _ ∧ _ ∧ _ ∧ _ ∧ _ := ⟨zr HO252 hb, zr HO257 hb, zr HO264 hb, zr HO270 hb, zr HO278 hb, zr HO290 hb, zr HO295 hb, zk BK246 hb, zk BK259 hb, zk BK265 hb, zk BK272 hb, zbs hb, Aside0.mk (hbox), zg HB hg, zg HB hg, zn1 BK246 hg, zn2 BK246 hg, zn1 BK259 hg, zn2 BK259 hg, zn1 BK265 hg, zn2 BK265 hg, zn1 BK272 hg, zn2 BK272 hg⟩; clear HO252 HO257 HO264 HO270 HO278 HO290 HO295 BK246 BK259 BK265 BK272 HB; obtain ⟨HO252, HO257, HO264, HO270, HO278, HO290, HO295, BK246, BK259, BK265, BK272, HB, BK297, GW297, GE297, NB246_297, NB297_246, NB259_297, NB297_259, NB265_297, NB297_265, NB272_297, NB297_272⟩ := n_; clear hb hbox hg; have hnb79 := NB297_246.out; have hnc79 := NB246_297.out; have hnb80 := NB297_259.out; have hnc80 := NB259_297.out; have hnb81 := NB297_265.out; have hnc81 := NB265_297.out; have hnb82 := NB297_272.out; have hnc82 := NB272_297.out; obtain ⟨z83_0, z83_1, z83_2, y83_0, y83_1, y83_2⟩ := zB3 BK297; obtain ⟨Ao84, co84, eo84⟩ := Kd.R_slice HO295.out; subst eo84; obtain ⟨z85_0, z85_1, z85_2, y85_0, y85_1, y85_2⟩ := zB3 BK259) | ((with_reducible refine gate_callee (f := 44) rfl ?_); refine goesL_ (some 86) rfl rfl Try.func44 (by kernel_rfl) rfl #[.agg #[.int .i8 t291, .int .i8 t292, .slice Ao84 t293.length co84], .agg #[.int .i8 t253, .int .i8 t254, .slice Ao44 t255.length co44]] rfl (by (try simp only [List.map_toArray, List.map_cons, List.map_nil]); first | done | rfl | (simp only [List.length_drop, List.length_take]; rfl)) ?_; (with_reducible refine (laws_eqBoard.calls k t291 t292 _ _ t293 t253 t254 _ _ t255 true _ ?side1 ?side2 ?side3 ?side4 A28.out).mono ?_); (case side1 => exact (Kd.R_reads' (zs HO295 BK297).out).2.2); (case side2 => exact (Kd.R_reads' HO295.out).2.1); (case side3 => exact (Kd.R_reads' (zs HO257 BK297).out).2.2); (case side4 => exact (Kd.R_reads' HO257.out).2.1); rintro e w86 ⟨rfl, hb⟩; refine ⟨_, rfl, ?_⟩; have n_ : _ ∧ _ ∧ _ ∧ _ ∧ _ ∧ _ ∧ _ ∧ _ ∧ _ ∧ _ ∧ _ ∧ _ ∧ _ := ⟨zsb HO252 BK297 hb, zsb HO257 BK297 hb, zsb HO264 BK297 hb, zsb HO270 BK297 hb, zsb HO278 BK297 hb, zsb HO290 BK297 hb, zsb HO295 BK297 hb, zfb BK246 NB246_297 hb, zfb BK259 NB259_297 hb, zfb BK265 NB265_297 hb, zfb BK272 NB272_297 hb, Aside0.mk (blk_below (g := gb297) (o := .cells #[.int .i8 t291, .int .i8 t292, .slice Ao84 t293.length co84] 37 (0, 0)) (by (with_reducible repeat (first | refine blk_drewN ?_ _ | refine blk_drew ?_ | refine blk_alloc ?_ _)); refine blk_put (cs := #[.int .i8 t291, .int .i8 t292, .slice none 0 0]) ?_ 2 _ rfl; (with_reducible repeat (first | refine blk_drewN ?_ _ | refine blk_drew ?_ | refine blk_alloc ?_ _)); refine blk_put (cs := #[.int .i8 t291, .int .i8 0, .slice none 0 0]) ?_ 1 _ rfl; (with_reducible repeat (first | refine blk_drewN ?_ _ | refine blk_drew ?_ | refine blk_alloc ?_ _)); refine blk_put (cs := #[.int .i8 0, .int .i8 0, .slice none 0 0]) ?_ 0 _ rfl; (with_reducible repeat (first | refine blk_drewN ?_ _ | refine blk_drew ?_ | refine blk_alloc ?_ _)); exact BK297.out) hb), zbs hb⟩; clear HO252 HO257 HO264 HO270 HO278 HO290 HO295 BK246 BK259 BK265 BK272 BK297 HB; obtain ⟨HO252, HO257, HO264, HO270, HO278, HO290, HO295, BK246, BK259, BK265, BK272, BK297, HB⟩ := n_; (try clear hb); (try clear hb2); (try clear hk); (try clear hi); obtain ⟨z87_0, z87_1, z87_2, y87_0, y87_1, y87_2⟩ := zB3 BK272) | ((with_reducible refine gate_callee (f := 51) rfl ?_); refine goesL_ (some 95) rfl rfl Try.func51 (by kernel_rfl) rfl #[.agg #[.int .i8 t266, .int .i8 t267, .slice Ao58 t284.length co58], .int .i64 1] rfl (by (try simp only [List.map_toArray, List.map_cons, List.map_nil]); first | done | (rw [show t284.length = t268.length from (Kd.R_reads' HO270.out).1.symm] <;> rfl) | rfl | (simp only [List.length_drop, List.length_take]; rfl)) ?_; (with_reducible refine (laws_heldBoard.calls k t266 t267 _ _ t284 1 t299 _ ?side1 ?side2 A31.out).mono ?_); (case side1 => exact zrc HO270); (case side2 => rw [show t284.length = t268.length from (Kd.R_reads' HO270.out).1.symm]; exact (Kd.R_reads' HO270.out).2.1); rintro e w88 ⟨rfl, hb⟩; refine ⟨_, rfl, ?_⟩; have n_ : _ ∧ _ ∧ _ ∧ _ ∧ _ ∧ _ ∧ _ ∧ _ ∧ _ ∧ _ ∧ _ ∧ _ ∧ _ := ⟨zr HO252 hb, zr HO257 hb, zr HO264 hb, zr HO270 hb, zr HO278 hb, zr HO290 hb, zr HO295 hb, zk BK246 hb, zk BK259 hb, zk BK265 hb, zk BK272 hb, zk BK297 hb, zbs hb⟩; clear HO252 HO257 HO264 HO270 HO278 HO290 HO295 BK246 BK259 BK265 BK272 BK297 HB; obtain ⟨HO252, HO257, HO264, HO270, HO278, HO290, HO295, BK246, BK259, BK265, BK272, BK297, HB⟩ := n_; (try clear hb); (try clear hb2); (try clear hk); (try clear hi)))
 go_ret
 exact ⟨by first | rfl | (simp [errW_none, errW_some] <;> rfl) | (simp [*, errW_none, errW_some] <;> rfl), by repeat (first | (with_reducible first | exact HB.out | apply below_alloc | apply pw_below_drewN | apply below_drew1 | refine below_set ?_ GE246.out | refine below_set ?_ GE259.out | refine below_set ?_ GE265.out | refine below_set ?_ GE272.out | refine below_set ?_ GE297.out) | exact HB.out)⟩
end Go.Proofs.Ytffnfpnajkgnaaa.PFnExactTurnBoard
