-- squeezed
-- WRITTEN by xprint.py, a program of this session's. Not trusted: Lean checks it.
import Derived.Test.YtffnfpnajkgnaaaPFnExactSameMachinex0
import Derived.Test.YtffnfpnajkgnaaaPFnExactSameMachinex4
import Derived.Test.YtffnfpnajkgnaaaPFnExactSameMachinex5
import Derived.Test.YtffnfpnajkgnaaaPFnExactSameMachinex6
import Derived.Test.YtffnfpnajkgnaaaPFnExactSameMachinex8
import Derived.Test.YtffnfpnajkgnaaaPFnExactSameMachinex9
namespace Go.Proofs.Ytffnfpnajkgnaaa.PFnExactSameMachine
open Go.RowKit Go.Proofs.YtffnfpnajkgnaaaW.PrintWords Go.Proofs.YtffnfpnajkgnaaaW.PrintLast Go.Proofs.YtffnfpnajkgnaaaW.PrintMore Go.Proofs.YtffnfpnajkgnaaaX
attribute [local go_sem] max2_int min2_int max_two min_two max_three min_three max_four min_four   -- for this text's walks alone
set_option linter.unusedVariables false
set_option linter.unusedSimpArgs false

/-! ### laws_FnExactSameMachine: function 12 -/
mutual
def laws_FnExactSameMachine.j0 : Nat → Int → Int → Int → List (S88) → List (S182) → List (S71) → Int → Int → List (S88) → List (S182) → List (S71) → Option (Bool)
 | 0, _, _, _, _, _, _, _, _, _, _, _ => none
 | k + 1, x5, x223000, x223001, x223002, x223003, x223004, x224000, x224001, x224002, x224003, x224004 => (laws_szMachine.f x224000 x224001 x224002 x224003 x224004 x5).bind fun t225 => (if t225 < 0 then (some true) else (laws_FnExactSameMachine.j1 k x223000 x223001 x223002 x223003 x223004 x224000 x224001 x224002 x224003 x224004))
def laws_FnExactSameMachine.j1 : Nat → Int → Int → List (S88) → List (S182) → List (S71) → Int → Int → List (S88) → List (S182) → List (S71) → Option (Bool)
 | 0, _, _, _, _, _, _, _, _, _, _ => none
 | k + 1, x223000, x223001, x223002, x223003, x223004, x224000, x224001, x224002, x224003, x224004 => (laws_toMachine.f k x223000 x223001 x223002 x223003 x223004).bind fun bt226 => ((laws_toMachine.f k x224000 x224001 x224002 x224003 x224004).bind fun bt237 => ((spec_SameMachine.f k bt226.1 bt226.2.1 bt226.2.2.1 bt226.2.2.2.1 bt226.2.2.2.2 bt237.1 bt237.2.1 bt237.2.2.1 bt237.2.2.2.1 bt237.2.2.2.2).bind fun t248 => ((laws_toMachine.f k x223000 x223001 x223002 x223003 x223004).bind fun bt249 => ((laws_toMachine.f k x224000 x224001 x224002 x224003 x224004).bind fun bt261 => ((impl_SameMachine.f k bt249.1 bt249.2.1 bt249.2.2.1 bt249.2.2.2.1 bt249.2.2.2.2 bt261.1 bt261.2.1 bt261.2.2.1 bt261.2.2.2.1 bt261.2.2.2.2).bind fun t273 => (if (t273 != t248) = true then (some false) else (laws_FnExactSameMachine.j2 k x223000 x223001 x223002 x223003 x223004 x224000 x224001 x224002 x224003 x224004 bt249.1 bt249.2.1 bt249.2.2.1 bt249.2.2.2.1 bt249.2.2.2.2 bt261.1 bt261.2.1 bt261.2.2.1 bt261.2.2.2.1 bt261.2.2.2.2)))))))
def laws_FnExactSameMachine.j2 : Nat → Int → Int → List (S88) → List (S182) → List (S71) → Int → Int → List (S88) → List (S182) → List (S71) → Int → Int → List (S91) → List (S116) → List (S74) → Int → Int → List (S91) → List (S116) → List (S74) → Option (Bool)
 | 0, _, _, _, _, _, _, _, _, _, _, _, _, _, _, _, _, _, _, _, _ => none
 | k + 1, x223000, x223001, x223002, x223003, x223004, x224000, x224001, x224002, x224003, x224004, x261000, x261001, x261002, x261003, x261004, x273000, x273001, x273002, x273003, x273004 => (laws_toMachine.f k x223000 x223001 x223002 x223003 x223004).bind fun bt274 => ((laws_eqMachine.f k x261000 x261001 x261002 x261003 x261004 bt274.1 bt274.2.1 bt274.2.2.1 bt274.2.2.2.1 bt274.2.2.2.2).bind fun t285 => (if t285 = true then (laws_FnExactSameMachine.j3 k x224000 x224001 x224002 x224003 x224004 x273000 x273001 x273002 x273003 x273004) else (some false)))
def laws_FnExactSameMachine.j3 : Nat → Int → Int → List (S88) → List (S182) → List (S71) → Int → Int → List (S91) → List (S116) → List (S74) → Option (Bool)
 | 0, _, _, _, _, _, _, _, _, _, _ => none
 | k + 1, x224000, x224001, x224002, x224003, x224004, x273000, x273001, x273002, x273003, x273004 => (laws_toMachine.f k x224000 x224001 x224002 x224003 x224004).bind fun bt286 => ((laws_eqMachine.f k x273000 x273001 x273002 x273003 x273004 bt286.1 bt286.2.1 bt286.2.2.1 bt286.2.2.2.1 bt286.2.2.2.2).bind fun t297 => (if t297 = true then (some true) else (some false)))
end
def laws_FnExactSameMachine.f (k : Nat) (a0_0 : Int) (a0_1 : Int) (l0_2 : List (S88)) (l0_3 : List (S182)) (l0_4 : List (S71)) (a1_0 : Int) (a1_1 : Int) (l1_2 : List (S88)) (l1_3 : List (S182)) (l1_4 : List (S71)) : Option (Bool) := (laws_szMachine.f a0_0 a0_1 l0_2 l0_3 l0_4 1048576).bind fun t224 => (if t224 < 0 then (some true) else (laws_FnExactSameMachine.j0 k t224 a0_0 a0_1 l0_2 l0_3 l0_4 a1_0 a1_1 l1_2 l1_3 l1_4))
theorem laws_FnExactSameMachine.mono_l : ∀ k, (∀ y0 y1 y2 y3 y4 y5 y6 y7 y8 y9 y10, LeO (laws_FnExactSameMachine.j0 k y0 y1 y2 y3 y4 y5 y6 y7 y8 y9 y10) (laws_FnExactSameMachine.j0 (k + 1) y0 y1 y2 y3 y4 y5 y6 y7 y8 y9 y10)) ∧ (∀ y0 y1 y2 y3 y4 y5 y6 y7 y8 y9, LeO (laws_FnExactSameMachine.j1 k y0 y1 y2 y3 y4 y5 y6 y7 y8 y9) (laws_FnExactSameMachine.j1 (k + 1) y0 y1 y2 y3 y4 y5 y6 y7 y8 y9)) ∧ (∀ y0 y1 y2 y3 y4 y5 y6 y7 y8 y9 y10 y11 y12 y13 y14 y15 y16 y17 y18 y19, LeO (laws_FnExactSameMachine.j2 k y0 y1 y2 y3 y4 y5 y6 y7 y8 y9 y10 y11 y12 y13 y14 y15 y16 y17 y18 y19) (laws_FnExactSameMachine.j2 (k + 1) y0 y1 y2 y3 y4 y5 y6 y7 y8 y9 y10 y11 y12 y13 y14 y15 y16 y17 y18 y19)) ∧ (∀ y0 y1 y2 y3 y4 y5 y6 y7 y8 y9, LeO (laws_FnExactSameMachine.j3 k y0 y1 y2 y3 y4 y5 y6 y7 y8 y9) (laws_FnExactSameMachine.j3 (k + 1) y0 y1 y2 y3 y4 y5 y6 y7 y8 y9))
 | 0 => ⟨fun _ _ _ _ _ _ _ _ _ _ _ r h => by simp [laws_FnExactSameMachine.j0] at h, fun _ _ _ _ _ _ _ _ _ _ r h => by simp [laws_FnExactSameMachine.j1] at h, fun _ _ _ _ _ _ _ _ _ _ _ _ _ _ _ _ _ _ _ _ r h => by simp [laws_FnExactSameMachine.j2] at h, fun _ _ _ _ _ _ _ _ _ _ r h => by simp [laws_FnExactSameMachine.j3] at h⟩
 | k + 1 => by
  obtain ⟨ih0, ih1, ih2, ih3⟩ := laws_FnExactSameMachine.mono_l k
  refine ⟨?_, ?_, ?_, ?_⟩
  ·intro y0 y1 y2 y3 y4 y5 y6 y7 y8 y9 y10
   unfold laws_FnExactSameMachine.j0
   repeat' first
   | (with_reducible exact ih0 _ _ _ _ _ _ _ _ _ _ _)
   | (with_reducible exact ih1 _ _ _ _ _ _ _ _ _ _)
   | (with_reducible exact ih2 _ _ _ _ _ _ _ _ _ _ _ _ _ _ _ _ _ _ _ _)
   | (with_reducible exact ih3 _ _ _ _ _ _ _ _ _ _)
   | (with_reducible exact impl_SameMachine.mono _ _ _ _ _ _ _ _ _ _ _)
   | (with_reducible exact laws_eqMachine.mono _ _ _ _ _ _ _ _ _ _ _)
   | (with_reducible exact laws_toMachine.mono _ _ _ _ _ _)
   | (with_reducible exact spec_SameMachine.mono _ _ _ _ _ _ _ _ _ _ _)
   | (with_reducible exact LeO.refl _)
   | (with_reducible exact LeO.none _)
   | (with_reducible refine LeO.ite ?_ ?_)
   | (with_reducible refine LeO.bind ?_ (fun _ => ?_))
   | exact ih0 _ _ _ _ _ _ _ _ _ _ _
   | exact ih1 _ _ _ _ _ _ _ _ _ _
   | exact ih2 _ _ _ _ _ _ _ _ _ _ _ _ _ _ _ _ _ _ _ _
   | exact ih3 _ _ _ _ _ _ _ _ _ _
   | exact impl_SameMachine.mono _ _ _ _ _ _ _ _ _ _ _
   | exact laws_eqMachine.mono _ _ _ _ _ _ _ _ _ _ _
   | exact laws_toMachine.mono _ _ _ _ _ _
   | exact spec_SameMachine.mono _ _ _ _ _ _ _ _ _ _ _
   | exact LeO.none _
   | refine LeO.ite ?_ ?_
   | refine LeO.bind ?_ (fun _ => ?_)
  ·intro y0 y1 y2 y3 y4 y5 y6 y7 y8 y9
   unfold laws_FnExactSameMachine.j1
   repeat' first
   | (with_reducible exact ih0 _ _ _ _ _ _ _ _ _ _ _)
   | (with_reducible exact ih1 _ _ _ _ _ _ _ _ _ _)
   | (with_reducible exact ih2 _ _ _ _ _ _ _ _ _ _ _ _ _ _ _ _ _ _ _ _)
   | (with_reducible exact ih3 _ _ _ _ _ _ _ _ _ _)
   | (with_reducible exact impl_SameMachine.mono _ _ _ _ _ _ _ _ _ _ _)
   | (with_reducible exact laws_eqMachine.mono _ _ _ _ _ _ _ _ _ _ _)
   | (with_reducible exact laws_toMachine.mono _ _ _ _ _ _)
   | (with_reducible exact spec_SameMachine.mono _ _ _ _ _ _ _ _ _ _ _)
   | (with_reducible exact LeO.refl _)
   | (with_reducible exact LeO.none _)
   | (with_reducible refine LeO.ite ?_ ?_)
   | (with_reducible refine LeO.bind ?_ (fun _ => ?_))
   | exact ih0 _ _ _ _ _ _ _ _ _ _ _
   | exact ih1 _ _ _ _ _ _ _ _ _ _
   | exact ih2 _ _ _ _ _ _ _ _ _ _ _ _ _ _ _ _ _ _ _ _
   | exact ih3 _ _ _ _ _ _ _ _ _ _
   | exact impl_SameMachine.mono _ _ _ _ _ _ _ _ _ _ _
   | exact laws_eqMachine.mono _ _ _ _ _ _ _ _ _ _ _
   | exact laws_toMachine.mono _ _ _ _ _ _
   | exact spec_SameMachine.mono _ _ _ _ _ _ _ _ _ _ _
   | exact LeO.none _
   | refine LeO.ite ?_ ?_
   | refine LeO.bind ?_ (fun _ => ?_)
  ·intro y0 y1 y2 y3 y4 y5 y6 y7 y8 y9 y10 y11 y12 y13 y14 y15 y16 y17 y18 y19
   unfold laws_FnExactSameMachine.j2
   repeat' first
   | (with_reducible exact ih0 _ _ _ _ _ _ _ _ _ _ _)
   | (with_reducible exact ih1 _ _ _ _ _ _ _ _ _ _)
   | (with_reducible exact ih2 _ _ _ _ _ _ _ _ _ _ _ _ _ _ _ _ _ _ _ _)
   | (with_reducible exact ih3 _ _ _ _ _ _ _ _ _ _)
   | (with_reducible exact impl_SameMachine.mono _ _ _ _ _ _ _ _ _ _ _)
   | (with_reducible exact laws_eqMachine.mono _ _ _ _ _ _ _ _ _ _ _)
   | (with_reducible exact laws_toMachine.mono _ _ _ _ _ _)
   | (with_reducible exact spec_SameMachine.mono _ _ _ _ _ _ _ _ _ _ _)
   | (with_reducible exact LeO.refl _)
   | (with_reducible exact LeO.none _)
   | (with_reducible refine LeO.ite ?_ ?_)
   | (with_reducible refine LeO.bind ?_ (fun _ => ?_))
   | exact ih0 _ _ _ _ _ _ _ _ _ _ _
   | exact ih1 _ _ _ _ _ _ _ _ _ _
   | exact ih2 _ _ _ _ _ _ _ _ _ _ _ _ _ _ _ _ _ _ _ _
   | exact ih3 _ _ _ _ _ _ _ _ _ _
   | exact impl_SameMachine.mono _ _ _ _ _ _ _ _ _ _ _
   | exact laws_eqMachine.mono _ _ _ _ _ _ _ _ _ _ _
   | exact laws_toMachine.mono _ _ _ _ _ _
   | exact spec_SameMachine.mono _ _ _ _ _ _ _ _ _ _ _
   | exact LeO.none _
   | refine LeO.ite ?_ ?_
   | refine LeO.bind ?_ (fun _ => ?_)
  ·intro y0 y1 y2 y3 y4 y5 y6 y7 y8 y9
   unfold laws_FnExactSameMachine.j3
   repeat' first
   | (with_reducible exact ih0 _ _ _ _ _ _ _ _ _ _ _)
   | (with_reducible exact ih1 _ _ _ _ _ _ _ _ _ _)
   | (with_reducible exact ih2 _ _ _ _ _ _ _ _ _ _ _ _ _ _ _ _ _ _ _ _)
   | (with_reducible exact ih3 _ _ _ _ _ _ _ _ _ _)
   | (with_reducible exact impl_SameMachine.mono _ _ _ _ _ _ _ _ _ _ _)
   | (with_reducible exact laws_eqMachine.mono _ _ _ _ _ _ _ _ _ _ _)
   | (with_reducible exact laws_toMachine.mono _ _ _ _ _ _)
   | (with_reducible exact spec_SameMachine.mono _ _ _ _ _ _ _ _ _ _ _)
   | (with_reducible exact LeO.refl _)
   | (with_reducible exact LeO.none _)
   | (with_reducible refine LeO.ite ?_ ?_)
   | (with_reducible refine LeO.bind ?_ (fun _ => ?_))
   | exact ih0 _ _ _ _ _ _ _ _ _ _ _
   | exact ih1 _ _ _ _ _ _ _ _ _ _
   | exact ih2 _ _ _ _ _ _ _ _ _ _ _ _ _ _ _ _ _ _ _ _
   | exact ih3 _ _ _ _ _ _ _ _ _ _
   | exact impl_SameMachine.mono _ _ _ _ _ _ _ _ _ _ _
   | exact laws_eqMachine.mono _ _ _ _ _ _ _ _ _ _ _
   | exact laws_toMachine.mono _ _ _ _ _ _
   | exact spec_SameMachine.mono _ _ _ _ _ _ _ _ _ _ _
   | exact LeO.none _
   | refine LeO.ite ?_ ?_
   | refine LeO.bind ?_ (fun _ => ?_)
theorem laws_FnExactSameMachine.mono : ∀ a0 a1 a2 a3 a4 a5 a6 a7 a8 a9 k, LeO (laws_FnExactSameMachine.f k a0 a1 a2 a3 a4 a5 a6 a7 a8 a9) (laws_FnExactSameMachine.f (k + 1) a0 a1 a2 a3 a4 a5 a6 a7 a8 a9) := by
 intro a0 a1 a2 a3 a4 a5 a6 a7 a8 a9 k
 obtain ⟨ih0, ih1, ih2, ih3⟩ := laws_FnExactSameMachine.mono_l k
 unfold laws_FnExactSameMachine.f
 repeat' first
   | (with_reducible exact ih0 _ _ _ _ _ _ _ _ _ _ _)
   | (with_reducible exact ih1 _ _ _ _ _ _ _ _ _ _)
   | (with_reducible exact ih2 _ _ _ _ _ _ _ _ _ _ _ _ _ _ _ _ _ _ _ _)
   | (with_reducible exact ih3 _ _ _ _ _ _ _ _ _ _)
   | (with_reducible exact impl_SameMachine.mono _ _ _ _ _ _ _ _ _ _ _)
   | (with_reducible exact laws_eqMachine.mono _ _ _ _ _ _ _ _ _ _ _)
   | (with_reducible exact laws_toMachine.mono _ _ _ _ _ _)
   | (with_reducible exact spec_SameMachine.mono _ _ _ _ _ _ _ _ _ _ _)
   | (with_reducible exact LeO.refl _)
   | (with_reducible exact LeO.none _)
   | (with_reducible refine LeO.ite ?_ ?_)
   | (with_reducible refine LeO.bind ?_ (fun _ => ?_))
   | exact ih0 _ _ _ _ _ _ _ _ _ _ _
   | exact ih1 _ _ _ _ _ _ _ _ _ _
   | exact ih2 _ _ _ _ _ _ _ _ _ _ _ _ _ _ _ _ _ _ _ _
   | exact ih3 _ _ _ _ _ _ _ _ _ _
   | exact impl_SameMachine.mono _ _ _ _ _ _ _ _ _ _ _
   | exact laws_eqMachine.mono _ _ _ _ _ _ _ _ _ _ _
   | exact laws_toMachine.mono _ _ _ _ _ _
   | exact spec_SameMachine.mono _ _ _ _ _ _ _ _ _ _ _
   | exact LeO.none _
   | refine LeO.ite ?_ ?_
   | refine LeO.bind ?_ (fun _ => ?_)
set_option maxHeartbeats 8000000 in
set_option maxRecDepth 100000 in
theorem laws_FnExactSameMachine.calls (k : Nat) (a0_0 : Int) (a0_1 : Int) (A0_2 : Option Addr) (c0_2 : Nat) (l0_2 : List (S88)) (A0_3 : Option Addr) (c0_3 : Nat) (l0_3 : List (S182)) (A0_4 : Option Addr) (c0_4 : Nat) (l0_4 : List (S71)) (a1_0 : Int) (a1_1 : Int) (A1_2 : Option Addr) (c1_2 : Nat) (l1_2 : List (S88)) (A1_3 : Option Addr) (c1_3 : Nat) (l1_3 : List (S182)) (A1_4 : Option Addr) (c1_4 : Nat) (l1_4 : List (S71)) (r : Bool) (w : World) (hr0_2 : Kd.C k88 w A0_2 l0_2.length l0_2) (hc0_2 : l0_2.length ≤ c0_2) (hr0_3 : Kd.C k182 w A0_3 l0_3.length l0_3) (hc0_3 : l0_3.length ≤ c0_3) (hr0_4 : Kd.C k71 w A0_4 l0_4.length l0_4) (hc0_4 : l0_4.length ≤ c0_4) (hr1_2 : Kd.C k88 w A1_2 l1_2.length l1_2) (hc1_2 : l1_2.length ≤ c1_2) (hr1_3 : Kd.C k182 w A1_3 l1_3.length l1_3) (hc1_3 : l1_3.length ≤ c1_3) (hr1_4 : Kd.C k71 w A1_4 l1_4.length l1_4) (hc1_4 : l1_4.length ≤ c1_4) (h : laws_FnExactSameMachine.f k a0_0 a0_1 l0_2 l0_3 l0_4 a1_0 a1_1 l1_2 l1_3 l1_4 = some r) :
  Calls Try.prog 12 #[.agg #[.int .i8 a0_0, .int .i8 a0_1, .slice A0_2 l0_2.length c0_2, .slice A0_3 l0_3.length c0_3, .slice A0_4 l0_4.length c0_4], .agg #[.int .i8 a1_0, .int .i8 a1_1, .slice A1_2 l1_2.length c1_2, .slice A1_3 l1_3.length c1_3, .slice A1_4 l1_4.length c1_4]] w fun e w' => e = .returned (.bool r) ∧ Below w.heap.size w w' := by
 have hu29 := Try.underlying29
 have hu41 := Try.underlying41
 have HR0_2 := Aside0.mk hr0_2
 have HC0_2 := Aside0.mk hc0_2
 clear hr0_2 hc0_2
 have HR0_3 := Aside0.mk hr0_3
 have HC0_3 := Aside0.mk hc0_3
 clear hr0_3 hc0_3
 have HR0_4 := Aside0.mk hr0_4
 have HC0_4 := Aside0.mk hc0_4
 clear hr0_4 hc0_4
 have HR1_2 := Aside0.mk hr1_2
 have HC1_2 := Aside0.mk hc1_2
 clear hr1_2 hc1_2
 have HR1_3 := Aside0.mk hr1_3
 have HC1_3 := Aside0.mk hc1_3
 clear hr1_3 hc1_3
 have HR1_4 := Aside0.mk hr1_4
 have HC1_4 := Aside0.mk hc1_4
 clear hr1_4 hc1_4
 have HB := Aside0.mk (Below.refl w.heap.size w)
 have H : ((laws_szMachine.f a0_0 a0_1 l0_2 l0_3 l0_4 1048576).bind fun t224 => (if t224 < 0 then (some true) else (laws_FnExactSameMachine.j0 k t224 a0_0 a0_1 l0_2 l0_3 l0_4 a1_0 a1_1 l1_2 l1_3 l1_4))) = some r := h
 clear h
 replace H := Option.bind_eq_some_iff.mp H
 obtain ⟨t224, A30, H⟩ := H
 replace H : (if t224 < 0 then (some true) else (laws_FnExactSameMachine.j0 k t224 a0_0 a0_1 l0_2 l0_3 l0_4 a1_0 a1_1 l1_2 l1_3 l1_4)) = some r := H
 have A3 := Aside0.mk A30
 clear A30
 have HC4 := Aside0.mk H
 clear H
 go_enter Try.func12, Try.ntmps12
 go_upto_if 14 with (first | ((with_reducible refine gate_dst (N := 2) rfl ?_); refine box_event ?hg (N := 2) ?hd (cs := #[.int .i8 a0_0, .int .i8 a0_1, .slice A0_2 l0_2.length c0_2, .slice A0_3 l0_3.length c0_3, .slice A0_4 l0_4.length c0_4]) (t := 29) ?hr ?_; (case hd => rfl); (case hg => rfl); (case hr => first | (go_simp; done) | (go_simp; rfl)); intro gb222 hg w5 hbox hb; have n0_ := Aside0.mk (below_step (by repeat (first | (with_reducible first | exact HB.out | apply below_alloc | apply pw_below_drewN | apply below_drew1) | exact HB.out)) hb); have n1_ := Aside0.mk (hbox); have n2_ := Aside0.mk ((by rw [hg]; exact (below_size (by repeat (first | (with_reducible first | exact HB.out | apply below_alloc | apply pw_below_drewN | apply below_drew1) | exact HB.out))) : w.heap.size ≤ gb222)); have n3_ := Aside0.mk ((by rw [hg]; exact (below_size (by repeat (first | (with_reducible first | exact HB.out | apply below_alloc | apply pw_below_drewN | apply below_drew1) | exact HB.out))) : w.heap.size ≤ gb222)); clear HB; have HB := n0_; have BK222 := n1_; have GW222 := n2_; have GE222 := n3_; clear n0_ n1_ n2_ n3_; clear hb hbox hg) | ((with_reducible refine gate_dst (N := 3) rfl ?_); refine box_event ?hg (N := 3) ?hd (cs := #[.int .i8 a1_0, .int .i8 a1_1, .slice A1_2 l1_2.length c1_2, .slice A1_3 l1_3.length c1_3, .slice A1_4 l1_4.length c1_4]) (t := 29) ?hr ?_; (case hd => rfl); (case hg => rfl); (case hr => first | (go_simp; done) | (go_simp; rfl)); intro gb223 hg w6 hbox hb; have n0_ := Aside0.mk (blk_below (g := gb222) (o := .cells #[.int .i8 a0_0, .int .i8 a0_1, .slice A0_2 l0_2.length c0_2, .slice A0_3 l0_3.length c0_3, .slice A0_4 l0_4.length c0_4] 29 (0, 0)) (by (with_reducible repeat (first | refine blk_drewN ?_ _ | refine blk_drew ?_ | refine blk_alloc ?_ _)); exact BK222.out) hb); have n1_ := Aside0.mk (below_step (by repeat (first | (with_reducible first | exact HB.out | apply below_alloc | apply pw_below_drewN | apply below_drew1 | refine below_set ?_ GE222.out) | exact HB.out)) hb); have n2_ := Aside0.mk (hbox); have n3_ := Aside0.mk ((by rw [hg]; exact (below_size (by repeat (first | (with_reducible first | exact HB.out | apply below_alloc | apply pw_below_drewN | apply below_drew1 | refine below_set ?_ GE222.out) | exact HB.out))) : w.heap.size ≤ gb223)); have n4_ := Aside0.mk ((by rw [hg]; exact (below_size (by repeat (first | (with_reducible first | exact HB.out | apply below_alloc | apply pw_below_drewN | apply below_drew1 | refine below_set ?_ GE222.out) | exact HB.out))) : w.heap.size ≤ gb223)); have n5_ := Aside0.mk ((by rw [hg]; exact Nat.ne_of_lt (blk_lt (g := gb222) (o := .cells #[.int .i8 a0_0, .int .i8 a0_1, .slice A0_2 l0_2.length c0_2, .slice A0_3 l0_3.length c0_3, .slice A0_4 l0_4.length c0_4] 29 (0, 0)) (by (with_reducible repeat (first | refine blk_drewN ?_ _ | refine blk_drew ?_ | refine blk_alloc ?_ _)); exact BK222.out)) : gb222 ≠ gb223)); have n6_ := Aside0.mk ((by rw [hg]; exact Nat.ne_of_gt (blk_lt (g := gb222) (o := .cells #[.int .i8 a0_0, .int .i8 a0_1, .slice A0_2 l0_2.length c0_2, .slice A0_3 l0_3.length c0_3, .slice A0_4 l0_4.length c0_4] 29 (0, 0)) (by (with_reducible repeat (first | refine blk_drewN ?_ _ | refine blk_drew ?_ | refine blk_alloc ?_ _)); exact BK222.out)) : gb223 ≠ gb222)); clear BK222; clear HB; have BK222 := n0_; have HB := n1_; have BK223 := n2_; have GW223 := n3_; have GE223 := n4_; have NB222_223 := n5_; have NB223_222 := n6_; clear n0_ n1_ n2_ n3_ n4_ n5_ n6_; clear hb hbox hg; have hnb7 := NB222_223.out; have hnc7 := NB223_222.out; have hcz8_0 : w6.cell? ⟨gb222, 0, none⟩ = some (.int .i8 a0_0) := (blk_cell BK222.out 0).trans rfl; have hcz8_1 : w6.cell? ⟨gb222, 1, none⟩ = some (.int .i8 a0_1) := (blk_cell BK222.out 1).trans rfl; have hcz8_2 : w6.cell? ⟨gb222, 2, none⟩ = some (.slice A0_2 l0_2.length c0_2) := (blk_cell BK222.out 2).trans rfl; have hcz8_3 : w6.cell? ⟨gb222, 3, none⟩ = some (.slice A0_3 l0_3.length c0_3) := (blk_cell BK222.out 3).trans rfl; have hcz8_4 : w6.cell? ⟨gb222, 4, none⟩ = some (.slice A0_4 l0_4.length c0_4) := (blk_cell BK222.out 4).trans rfl; have hfz8_0 := blk_frozen BK222.out 0; have hfz8_1 := blk_frozen BK222.out 1; have hfz8_2 := blk_frozen BK222.out 2; have hfz8_3 := blk_frozen BK222.out 3; have hfz8_4 := blk_frozen BK222.out 4) | ((with_reducible refine gate_callee (f := 21) rfl ?_); refine goesL_ (some 12) rfl rfl Try.func21 (by kernel_rfl) rfl #[.agg #[.int .i8 a0_0, .int .i8 a0_1, .slice A0_2 l0_2.length c0_2, .slice A0_3 l0_3.length c0_3, .slice A0_4 l0_4.length c0_4], .int .i64 1048576] rfl (by (try simp only [List.map_toArray, List.map_cons, List.map_nil]); first | done | rfl | (simp only [List.length_drop, List.length_take]; rfl)) ?_; (with_reducible refine (laws_szMachine.calls a0_0 a0_1 _ _ l0_2 _ _ l0_3 _ _ l0_4 1048576 t224 _ ?side1 ?side2 ?side3 ?side4 ?side5 ?side6 A3.out).mono ?_); (case side1 => repeat (first | exact (Kd.C_below HR0_2.out HB.out) | (with_reducible refine Kd.C_alloc ?_ _) | (with_reducible refine Kd.C_drewN ?_ _) | (with_reducible refine Kd.C_drew ?_))); (case side2 => exact HC0_2.out); (case side3 => repeat (first | exact (Kd.C_below HR0_3.out HB.out) | (with_reducible refine Kd.C_alloc ?_ _) | (with_reducible refine Kd.C_drewN ?_ _) | (with_reducible refine Kd.C_drew ?_))); (case side4 => exact HC0_3.out); (case side5 => repeat (first | exact (Kd.C_below HR0_4.out HB.out) | (with_reducible refine Kd.C_alloc ?_ _) | (with_reducible refine Kd.C_drewN ?_ _) | (with_reducible refine Kd.C_drew ?_))); (case side6 => exact HC0_4.out); rintro e w9 ⟨rfl, hb⟩; refine ⟨_, rfl, ?_⟩; have n0_ := Aside0.mk (blk_below (g := gb222) (o := .cells #[.int .i8 a0_0, .int .i8 a0_1, .slice A0_2 l0_2.length c0_2, .slice A0_3 l0_3.length c0_3, .slice A0_4 l0_4.length c0_4] 29 (0, 0)) (by (with_reducible repeat (first | refine blk_drewN ?_ _ | refine blk_drew ?_ | refine blk_alloc ?_ _)); exact BK222.out) hb); have n1_ := Aside0.mk (blk_below (g := gb223) (o := .cells #[.int .i8 a1_0, .int .i8 a1_1, .slice A1_2 l1_2.length c1_2, .slice A1_3 l1_3.length c1_3, .slice A1_4 l1_4.length c1_4] 29 (0, 0)) (by (with_reducible repeat (first | refine blk_drewN ?_ _ | refine blk_drew ?_ | refine blk_alloc ?_ _)); exact BK223.out) hb); have n2_ := Aside0.mk (below_step (by repeat (first | (with_reducible first | exact HB.out | apply below_alloc | apply pw_below_drewN | apply below_drew1 | refine below_set ?_ GE222.out | refine below_set ?_ GE223.out) | exact HB.out)) hb); clear BK222; clear BK223; clear HB; have BK222 := n0_; have BK223 := n1_; have HB := n2_; clear n0_ n1_ n2_; (try clear hb); (try clear hb2); (try clear hk); (try clear hi)))
 (try simp only [Act.put, List.setIfInBounds_toArray, List.set_cons_zero, List.set_cons_succ])
 go_cut [] (fun wc => ∃ (kq : Nat), Aside0 (laws_FnExactSameMachine.j0 kq t224 a0_0 a0_1 l0_2 l0_3 l0_4 a1_0 a1_1 l1_2 l1_3 l1_4 = some r) ∧ Aside0 (kq ≤ k) ∧ Aside0 (wc.heap[gb222]? = some (.cells #[.int .i8 a0_0, .int .i8 a0_1, (.slice A0_2 l0_2.length c0_2), (.slice A0_3 l0_3.length c0_3), (.slice A0_4 l0_4.length c0_4)] 29 (0, 0))) ∧ Aside0 (wc.heap[gb223]? = some (.cells #[.int .i8 a1_0, .int .i8 a1_1, (.slice A1_2 l1_2.length c1_2), (.slice A1_3 l1_3.length c1_3), (.slice A1_4 l1_4.length c1_4)] 29 (0, 0))) ∧ Aside0 (Below w.heap.size w wc))
 case first =>
  have H := HC4.out
  clear HC4
  by_cases c10 : t224 < 0
  ·rw [if_pos c10] at H
   have c10b0 : decide (t224 < 0) = true := decide_eq_true c10
   clear c10
   (first | rw [c10b0] | (simp only [i64_w, i32_w]; rw [c10b0]) | (have h_ := c10b0; simp only [bne] at h_; rw [h_]) | skip)
   obtain rfl := Option.some.inj H
   go_wp2
   go_ret
   exact ⟨by first | rfl | (simp [errW_none, errW_some] <;> rfl) | (simp [*, errW_none, errW_some] <;> rfl), by repeat (first | (with_reducible first | exact HB.out | apply below_alloc | apply pw_below_drewN | apply below_drew1 | refine below_set ?_ GE222.out | refine below_set ?_ GE223.out) | exact HB.out)⟩
  ·rw [if_neg c10] at H
   have c10b0 : decide (t224 < 0) = false := decide_eq_false c10
   clear c10
   (first | rw [c10b0] | (simp only [i64_w, i32_w]; rw [c10b0]) | (have h_ := c10b0; simp only [bne] at h_; rw [h_]) | skip)
   have H' := Aside0.mk H
   clear H
   go_wp2
   go_meet
   case rel => exact ⟨_, H', ⟨by first | omega | exact Nat.le_refl _⟩, ⟨by (with_reducible repeat (first | refine blk_drewN ?_ _ | refine blk_drew ?_ | refine blk_alloc ?_ _)); exact BK222.out⟩, ⟨by (with_reducible repeat (first | refine blk_drewN ?_ _ | refine blk_drew ?_ | refine blk_alloc ?_ _)); exact BK223.out⟩, ⟨by repeat (first | (with_reducible first | exact HB.out | apply below_alloc | apply pw_below_drewN | apply below_drew1 | refine below_set ?_ GE222.out | refine below_set ?_ GE223.out) | exact HB.out)⟩⟩
 case rest =>
  clear HC4
  try clear c1
  try clear c2
  try clear p2
  try clear c7
  try clear c10
  try clear c10b0
  try clear hcz8_0
  try clear hcz8_1
  try clear hcz8_2
  try clear hcz8_3
  try clear hcz8_4
  try clear hfz8_0
  try clear hfz8_1
  try clear hfz8_2
  try clear hfz8_3
  try clear hfz8_4
  obtain ⟨kq, HA, HJ3, BK222, BK223, HB⟩ := hcut
  cases kq with
  | zero => exact absurd HA.out (by simp [laws_FnExactSameMachine.j0])
  | succ kj3 =>
   have H := HA.out
   clear HA
   simp only [laws_FnExactSameMachine.j0] at H
   replace H := Option.bind_eq_some_iff.mp H
   obtain ⟨t225, A110, H⟩ := H
   replace H : (if t225 < 0 then (some true) else (laws_FnExactSameMachine.j1 kj3 a0_0 a0_1 l0_2 l0_3 l0_4 a1_0 a1_1 l1_2 l1_3 l1_4)) = some r := H
   have A11 := Aside0.mk A110
   clear A110
   have HC12 := Aside0.mk H
   clear H
   have hnb13 := NB223_222.out
   have hnc13 := NB222_223.out
   have hcz14_0 : wc.cell? ⟨gb223, 0, none⟩ = some (.int .i8 a1_0) := (blk_cell BK223.out 0).trans rfl
   have hcz14_1 : wc.cell? ⟨gb223, 1, none⟩ = some (.int .i8 a1_1) := (blk_cell BK223.out 1).trans rfl
   have hcz14_2 : wc.cell? ⟨gb223, 2, none⟩ = some (.slice A1_2 l1_2.length c1_2) := (blk_cell BK223.out 2).trans rfl
   have hcz14_3 : wc.cell? ⟨gb223, 3, none⟩ = some (.slice A1_3 l1_3.length c1_3) := (blk_cell BK223.out 3).trans rfl
   have hcz14_4 : wc.cell? ⟨gb223, 4, none⟩ = some (.slice A1_4 l1_4.length c1_4) := (blk_cell BK223.out 4).trans rfl
   have hfz14_0 := blk_frozen BK223.out 0
   have hfz14_1 := blk_frozen BK223.out 1
   have hfz14_2 := blk_frozen BK223.out 2
   have hfz14_3 := blk_frozen BK223.out 3
   have hfz14_4 := blk_frozen BK223.out 4
   go_upto_if 19 with (first | ((with_reducible refine gate_callee (f := 21) rfl ?_); refine goesL_ (some 17) rfl rfl Try.func21 (by kernel_rfl) rfl #[.agg #[.int .i8 a1_0, .int .i8 a1_1, .slice A1_2 l1_2.length c1_2, .slice A1_3 l1_3.length c1_3, .slice A1_4 l1_4.length c1_4], .int .i64 t224] rfl (by (try simp only [List.map_toArray, List.map_cons, List.map_nil]); first | done | rfl | (simp only [List.length_drop, List.length_take]; rfl)) ?_; (with_reducible refine (laws_szMachine.calls a1_0 a1_1 _ _ l1_2 _ _ l1_3 _ _ l1_4 t224 t225 _ ?side1 ?side2 ?side3 ?side4 ?side5 ?side6 A11.out).mono ?_); (case side1 => repeat (first | exact (Kd.C_below HR1_2.out HB.out) | (with_reducible refine Kd.C_alloc ?_ _) | (with_reducible refine Kd.C_drewN ?_ _) | (with_reducible refine Kd.C_drew ?_))); (case side2 => exact HC1_2.out); (case side3 => repeat (first | exact (Kd.C_below HR1_3.out HB.out) | (with_reducible refine Kd.C_alloc ?_ _) | (with_reducible refine Kd.C_drewN ?_ _) | (with_reducible refine Kd.C_drew ?_))); (case side4 => exact HC1_3.out); (case side5 => repeat (first | exact (Kd.C_below HR1_4.out HB.out) | (with_reducible refine Kd.C_alloc ?_ _) | (with_reducible refine Kd.C_drewN ?_ _) | (with_reducible refine Kd.C_drew ?_))); (case side6 => exact HC1_4.out); rintro e w15 ⟨rfl, hb⟩; refine ⟨_, rfl, ?_⟩; have n0_ := Aside0.mk (blk_below (g := gb222) (o := .cells #[.int .i8 a0_0, .int .i8 a0_1, .slice A0_2 l0_2.length c0_2, .slice A0_3 l0_3.length c0_3, .slice A0_4 l0_4.length c0_4] 29 (0, 0)) (by (with_reducible repeat (first | refine blk_drewN ?_ _ | refine blk_drew ?_ | refine blk_alloc ?_ _)); exact BK222.out) hb); have n1_ := Aside0.mk (blk_below (g := gb223) (o := .cells #[.int .i8 a1_0, .int .i8 a1_1, .slice A1_2 l1_2.length c1_2, .slice A1_3 l1_3.length c1_3, .slice A1_4 l1_4.length c1_4] 29 (0, 0)) (by (with_reducible repeat (first | refine blk_drewN ?_ _ | refine blk_drew ?_ | refine blk_alloc ?_ _)); exact BK223.out) hb); have n2_ := Aside0.mk (below_step (by repeat (first | (with_reducible first | exact HB.out | apply below_alloc | apply pw_below_drewN | apply below_drew1 | refine below_set ?_ GE222.out | refine below_set ?_ GE223.out) | exact HB.out)) hb); clear BK222; clear BK223; clear HB; have BK222 := n0_; have BK223 := n1_; have HB := n2_; clear n0_ n1_ n2_; (try clear hb); (try clear hb2); (try clear hk); (try clear hi)))
   (try simp only [Act.put, List.setIfInBounds_toArray, List.set_cons_zero, List.set_cons_succ])
   go_cut [] (fun wc => ∃ (kq : Nat), Aside0 (laws_FnExactSameMachine.j1 kq a0_0 a0_1 l0_2 l0_3 l0_4 a1_0 a1_1 l1_2 l1_3 l1_4 = some r) ∧ Aside0 (kq ≤ kj3) ∧ Aside0 (wc.heap[gb222]? = some (.cells #[.int .i8 a0_0, .int .i8 a0_1, (.slice A0_2 l0_2.length c0_2), (.slice A0_3 l0_3.length c0_3), (.slice A0_4 l0_4.length c0_4)] 29 (0, 0))) ∧ Aside0 (wc.heap[gb223]? = some (.cells #[.int .i8 a1_0, .int .i8 a1_1, (.slice A1_2 l1_2.length c1_2), (.slice A1_3 l1_3.length c1_3), (.slice A1_4 l1_4.length c1_4)] 29 (0, 0))) ∧ Aside0 (Below w.heap.size w wc))
   case first =>
    have H := HC12.out
    clear HC12
    by_cases c16 : t225 < 0
    ·rw [if_pos c16] at H
     have c16b0 : decide (t225 < 0) = true := decide_eq_true c16
     clear c16
     (first | rw [c16b0] | (simp only [i64_w, i32_w]; rw [c16b0]) | (have h_ := c16b0; simp only [bne] at h_; rw [h_]) | skip)
     obtain rfl := Option.some.inj H
     go_wp2
     go_ret
     exact ⟨by first | rfl | (simp [errW_none, errW_some] <;> rfl) | (simp [*, errW_none, errW_some] <;> rfl), by repeat (first | (with_reducible first | exact HB.out | apply below_alloc | apply pw_below_drewN | apply below_drew1 | refine below_set ?_ GE222.out | refine below_set ?_ GE223.out) | exact HB.out)⟩
    ·rw [if_neg c16] at H
     have c16b0 : decide (t225 < 0) = false := decide_eq_false c16
     clear c16
     (first | rw [c16b0] | (simp only [i64_w, i32_w]; rw [c16b0]) | (have h_ := c16b0; simp only [bne] at h_; rw [h_]) | skip)
     have H' := Aside0.mk H
     clear H
     go_wp2
     go_meet
     case rel => exact ⟨_, H', ⟨by have := HJ3.out; first | omega | exact Nat.le_refl _⟩, ⟨by (with_reducible repeat (first | refine blk_drewN ?_ _ | refine blk_drew ?_ | refine blk_alloc ?_ _)); exact BK222.out⟩, ⟨by (with_reducible repeat (first | refine blk_drewN ?_ _ | refine blk_drew ?_ | refine blk_alloc ?_ _)); exact BK223.out⟩, ⟨by repeat (first | (with_reducible first | exact HB.out | apply below_alloc | apply pw_below_drewN | apply below_drew1 | refine below_set ?_ GE222.out | refine below_set ?_ GE223.out) | exact HB.out)⟩⟩
   case rest =>
    clear HC12
    try clear c1
    try clear c2
    try clear p2
    try clear c7
    try clear c10
    try clear c10b0
    try clear c12
    try clear c13
    try clear c16
    try clear c16b0
    try clear hcz14_0
    try clear hcz14_1
    try clear hcz14_2
    try clear hcz14_3
    try clear hcz14_4
    try clear hcz8_0
    try clear hcz8_1
    try clear hcz8_2
    try clear hcz8_3
    try clear hcz8_4
    try clear hfz14_0
    try clear hfz14_1
    try clear hfz14_2
    try clear hfz14_3
    try clear hfz14_4
    try clear hfz8_0
    try clear hfz8_1
    try clear hfz8_2
    try clear hfz8_3
    try clear hfz8_4
    try clear p2
    obtain ⟨kq, HA, HJ11, BK222, BK223, HB⟩ := hcut
    cases kq with
    | zero => exact absurd HA.out (by simp [laws_FnExactSameMachine.j1])
    | succ kj11 =>
     have H := HA.out
     clear HA
     simp only [laws_FnExactSameMachine.j1] at H
     replace H := Option.bind_eq_some_iff.mp H
     obtain ⟨⟨t226, t227, t228, t231, t234⟩, A170, H⟩ := H
     replace H : ((laws_toMachine.f kj11 a1_0 a1_1 l1_2 l1_3 l1_4).bind fun bt237 => ((spec_SameMachine.f kj11 t226 t227 t228 t231 t234 bt237.1 bt237.2.1 bt237.2.2.1 bt237.2.2.2.1 bt237.2.2.2.2).bind fun t248 => ((laws_toMachine.f kj11 a0_0 a0_1 l0_2 l0_3 l0_4).bind fun bt249 => ((laws_toMachine.f kj11 a1_0 a1_1 l1_2 l1_3 l1_4).bind fun bt261 => ((impl_SameMachine.f kj11 bt249.1 bt249.2.1 bt249.2.2.1 bt249.2.2.2.1 bt249.2.2.2.2 bt261.1 bt261.2.1 bt261.2.2.1 bt261.2.2.2.1 bt261.2.2.2.2).bind fun t273 => (if (t273 != t248) = true then (some false) else (laws_FnExactSameMachine.j2 kj11 a0_0 a0_1 l0_2 l0_3 l0_4 a1_0 a1_1 l1_2 l1_3 l1_4 bt249.1 bt249.2.1 bt249.2.2.1 bt249.2.2.2.1 bt249.2.2.2.2 bt261.1 bt261.2.1 bt261.2.2.1 bt261.2.2.2.1 bt261.2.2.2.2))))))) = some r := H
     have A17 := Aside0.mk A170
     clear A170
     replace H := Option.bind_eq_some_iff.mp H
     obtain ⟨⟨t237, t238, t239, t242, t245⟩, A180, H⟩ := H
     replace H : ((spec_SameMachine.f kj11 t226 t227 t228 t231 t234 t237 t238 t239 t242 t245).bind fun t248 => ((laws_toMachine.f kj11 a0_0 a0_1 l0_2 l0_3 l0_4).bind fun bt249 => ((laws_toMachine.f kj11 a1_0 a1_1 l1_2 l1_3 l1_4).bind fun bt261 => ((impl_SameMachine.f kj11 bt249.1 bt249.2.1 bt249.2.2.1 bt249.2.2.2.1 bt249.2.2.2.2 bt261.1 bt261.2.1 bt261.2.2.1 bt261.2.2.2.1 bt261.2.2.2.2).bind fun t273 => (if (t273 != t248) = true then (some false) else (laws_FnExactSameMachine.j2 kj11 a0_0 a0_1 l0_2 l0_3 l0_4 a1_0 a1_1 l1_2 l1_3 l1_4 bt249.1 bt249.2.1 bt249.2.2.1 bt249.2.2.2.1 bt249.2.2.2.2 bt261.1 bt261.2.1 bt261.2.2.1 bt261.2.2.2.1 bt261.2.2.2.2)))))) = some r := H
     have A18 := Aside0.mk A180
     clear A180
     replace H := Option.bind_eq_some_iff.mp H
     obtain ⟨t248, A190, H⟩ := H
     replace H : ((laws_toMachine.f kj11 a0_0 a0_1 l0_2 l0_3 l0_4).bind fun bt249 => ((laws_toMachine.f kj11 a1_0 a1_1 l1_2 l1_3 l1_4).bind fun bt261 => ((impl_SameMachine.f kj11 bt249.1 bt249.2.1 bt249.2.2.1 bt249.2.2.2.1 bt249.2.2.2.2 bt261.1 bt261.2.1 bt261.2.2.1 bt261.2.2.2.1 bt261.2.2.2.2).bind fun t273 => (if (t273 != t248) = true then (some false) else (laws_FnExactSameMachine.j2 kj11 a0_0 a0_1 l0_2 l0_3 l0_4 a1_0 a1_1 l1_2 l1_3 l1_4 bt249.1 bt249.2.1 bt249.2.2.1 bt249.2.2.2.1 bt249.2.2.2.2 bt261.1 bt261.2.1 bt261.2.2.1 bt261.2.2.2.1 bt261.2.2.2.2))))) = some r := H
     have A19 := Aside0.mk A190
     clear A190
     replace H := Option.bind_eq_some_iff.mp H
     obtain ⟨⟨t249, t250, t251, t254, t257⟩, A200, H⟩ := H
     replace H : ((laws_toMachine.f kj11 a1_0 a1_1 l1_2 l1_3 l1_4).bind fun bt261 => ((impl_SameMachine.f kj11 t249 t250 t251 t254 t257 bt261.1 bt261.2.1 bt261.2.2.1 bt261.2.2.2.1 bt261.2.2.2.2).bind fun t273 => (if (t273 != t248) = true then (some false) else (laws_FnExactSameMachine.j2 kj11 a0_0 a0_1 l0_2 l0_3 l0_4 a1_0 a1_1 l1_2 l1_3 l1_4 t249 t250 t251 t254 t257 bt261.1 bt261.2.1 bt261.2.2.1 bt261.2.2.2.1 bt261.2.2.2.2)))) = some r := H
     have A20 := Aside0.mk A200
     clear A200
     replace H := Option.bind_eq_some_iff.mp H
     obtain ⟨⟨t261, t262, t263, t266, t269⟩, A210, H⟩ := H
     replace H : ((impl_SameMachine.f kj11 t249 t250 t251 t254 t257 t261 t262 t263 t266 t269).bind fun t273 => (if (t273 != t248) = true then (some false) else (laws_FnExactSameMachine.j2 kj11 a0_0 a0_1 l0_2 l0_3 l0_4 a1_0 a1_1 l1_2 l1_3 l1_4 t249 t250 t251 t254 t257 t261 t262 t263 t266 t269))) = some r := H
     have A21 := Aside0.mk A210
     clear A210
     replace H := Option.bind_eq_some_iff.mp H
     obtain ⟨t273, A220, H⟩ := H
     replace H : (if (t273 != t248) = true then (some false) else (laws_FnExactSameMachine.j2 kj11 a0_0 a0_1 l0_2 l0_3 l0_4 a1_0 a1_1 l1_2 l1_3 l1_4 t249 t250 t251 t254 t257 t261 t262 t263 t266 t269)) = some r := H
     have A22 := Aside0.mk A220
     clear A220
     have HC23 := Aside0.mk H
     clear H
     try go_wp2
     have n0_ := Aside0.mk (blk_drew BK222.out)
     have n1_ := Aside0.mk (blk_drew BK223.out)
     have n2_ := Aside0.mk (below_drew1 HB.out)
     clear BK222
     clear BK223
     clear HB
     have BK222 := n0_
     have BK223 := n1_
     have HB := n2_
     clear n0_ n1_ n2_
     refine start_ (n := 6) (S := fun w' => w'.cell? ⟨gb222, 0, none⟩ = some (.int .i8 a0_0) ∧ w'.cell? ⟨gb222, 1, none⟩ = some (.int .i8 a0_1) ∧ w'.cell? ⟨gb222, 2, none⟩ = some (.slice A0_2 l0_2.length c0_2) ∧ w'.cell? ⟨gb222, 3, none⟩ = some (.slice A0_3 l0_3.length c0_3) ∧ w'.cell? ⟨gb222, 4, none⟩ = some (.slice A0_4 l0_4.length c0_4) ∧ w'.cell? ⟨gb223, 0, none⟩ = some (.int .i8 a1_0) ∧ w'.cell? ⟨gb223, 1, none⟩ = some (.int .i8 a1_1) ∧ w'.cell? ⟨gb223, 2, none⟩ = some (.slice A1_2 l1_2.length c1_2) ∧ w'.cell? ⟨gb223, 3, none⟩ = some (.slice A1_3 l1_3.length c1_3) ∧ w'.cell? ⟨gb223, 4, none⟩ = some (.slice A1_4 l1_4.length c1_4)) (ds := []) #[false, false, false, false, false, false] (by kernel_rfl) rfl rfl ⟨(blk_cell BK222.out 0).trans rfl, (blk_cell BK222.out 1).trans rfl, (blk_cell BK222.out 2).trans rfl, (blk_cell BK222.out 3).trans rfl, (blk_cell BK222.out 4).trans rfl, (blk_cell BK223.out 0).trans rfl, (blk_cell BK223.out 1).trans rfl, (blk_cell BK223.out 2).trans rfl, (blk_cell BK223.out 3).trans rfl, (blk_cell BK223.out 4).trans rfl⟩ (fun hHeld => ?_)
     generalize wc.drew = w24 at BK222 BK223 HB hHeld ⊢
     refine take_ (i := 0) (N := some 20) (v := ?_) (a' := ?_) #[true, false, false, false, false, false] rfl rfl (by kernel_rfl) (fun _ _ _ h => h) (Or.inl ⟨by rfl, ?_⟩) hHeld ?_ ?_
     rotate_left
     ·rintro w' ⟨s0, s1, s2, s3, s4, s5, s6, s7, s8, s9⟩
      go_simp
      with_reducible rfl
     rotate_left
     ·simp only [Act.put, List.setIfInBounds_toArray, List.set_cons_zero, List.set_cons_succ, i64_w, i32_w]
      rfl
     refine take_ (i := 2) (N := some 22) (v := ?_) (a' := ?_) #[true, false, true, false, false, false] rfl rfl (by kernel_rfl) (fun _ _ _ h => h) (Or.inl ⟨by rfl, ?_⟩) hHeld ?_ ?_
     rotate_left
     ·rintro w' ⟨s0, s1, s2, s3, s4, s5, s6, s7, s8, s9⟩
      go_simp
      with_reducible rfl
     rotate_left
     ·simp only [Act.put, List.setIfInBounds_toArray, List.set_cons_zero, List.set_cons_succ, i64_w, i32_w]
      rfl
     refine one_ (i := 1) (N := some 21) #[true, true, true, false, false, false] rfl rfl (by kernel_rfl) (by decide) (fun K hK => ?_)
     refine goes_ Try.func23 (by kernel_rfl) rfl #[.agg #[.int .i8 a0_0, .int .i8 a0_1, .slice A0_2 l0_2.length c0_2, .slice A0_3 l0_3.length c0_3, .slice A0_4 l0_4.length c0_4]] (by rfl) rfl rfl (by (try simp only [List.map_toArray, List.map_cons, List.map_nil]); first | done | rfl | (simp only [List.length_drop, List.length_take]; rfl)) ?_
     with_reducible refine (laws_toMachine.calls kj11 a0_0 a0_1 _ _ l0_2 _ _ l0_3 _ _ l0_4 t226 t227 t228 t231 t234 _ ?side1 ?side2 ?side3 ?side4 ?side5 ?side6 A17.out).mono ?_
     (case side1 => repeat (first | exact (Kd.C_below HR0_2.out HB.out) | (with_reducible refine Kd.C_alloc ?_ _) | (with_reducible refine Kd.C_drewN ?_ _) | (with_reducible refine Kd.C_drew ?_)))
     (case side2 => exact HC0_2.out)
     (case side3 => repeat (first | exact (Kd.C_below HR0_3.out HB.out) | (with_reducible refine Kd.C_alloc ?_ _) | (with_reducible refine Kd.C_drewN ?_ _) | (with_reducible refine Kd.C_drew ?_)))
     (case side4 => exact HC0_3.out)
     (case side5 => repeat (first | exact (Kd.C_below HR0_4.out HB.out) | (with_reducible refine Kd.C_alloc ?_ _) | (with_reducible refine Kd.C_drewN ?_ _) | (with_reducible refine Kd.C_drew ?_)))
     (case side6 => exact HC0_4.out)
     rintro e w25 ⟨v229, v232, v235, rfl, ho0, ho1, ho2, hb⟩
     refine ⟨_, rfl, ?_⟩
     have n0_ := Aside0.mk (Kd.R_lower ho0 (below_size (by repeat (first | (with_reducible first | exact HB.out | apply below_alloc | apply pw_below_drewN | apply below_drew1 | refine below_set ?_ GE222.out | refine below_set ?_ GE223.out) | exact HB.out))))
     have n1_ := Aside0.mk (Kd.R_lower ho1 (below_size (by repeat (first | (with_reducible first | exact HB.out | apply below_alloc | apply pw_below_drewN | apply below_drew1 | refine below_set ?_ GE222.out | refine below_set ?_ GE223.out) | exact HB.out))))
     have n2_ := Aside0.mk (Kd.R_lower ho2 (below_size (by repeat (first | (with_reducible first | exact HB.out | apply below_alloc | apply pw_below_drewN | apply below_drew1 | refine below_set ?_ GE222.out | refine below_set ?_ GE223.out) | exact HB.out))))
     have n3_ := Aside0.mk (blk_below (g := gb222) (o := .cells #[.int .i8 a0_0, .int .i8 a0_1, .slice A0_2 l0_2.length c0_2, .slice A0_3 l0_3.length c0_3, .slice A0_4 l0_4.length c0_4] 29 (0, 0)) (by (with_reducible repeat (first | refine blk_drewN ?_ _ | refine blk_drew ?_ | refine blk_alloc ?_ _)); exact BK222.out) hb)
     have n4_ := Aside0.mk (blk_below (g := gb223) (o := .cells #[.int .i8 a1_0, .int .i8 a1_1, .slice A1_2 l1_2.length c1_2, .slice A1_3 l1_3.length c1_3, .slice A1_4 l1_4.length c1_4] 29 (0, 0)) (by (with_reducible repeat (first | refine blk_drewN ?_ _ | refine blk_drew ?_ | refine blk_alloc ?_ _)); exact BK223.out) hb)
     have n5_ := Aside0.mk (below_step (by repeat (first | (with_reducible first | exact HB.out | apply below_alloc | apply pw_below_drewN | apply below_drew1 | refine below_set ?_ GE222.out | refine below_set ?_ GE223.out) | exact HB.out)) hb)
     clear BK222
     clear BK223
     clear HB
     have HO230 := n0_
     have HO233 := n1_
     have HO236 := n2_
     have BK222 := n3_
     have BK223 := n4_
     have HB := n5_
     clear n0_ n1_ n2_ n3_ n4_ n5_
     (try clear hb)
     (try clear hb2)
     (try clear hk)
     (try clear hi)
     (try clear ho0)
     (try clear ho1)
     (try clear ho2)
     refine hK.out _ _ ⟨(blk_cell BK222.out 0).trans rfl, (blk_cell BK222.out 1).trans rfl, (blk_cell BK222.out 2).trans rfl, (blk_cell BK222.out 3).trans rfl, (blk_cell BK222.out 4).trans rfl, (blk_cell BK223.out 0).trans rfl, (blk_cell BK223.out 1).trans rfl, (blk_cell BK223.out 2).trans rfl, (blk_cell BK223.out 3).trans rfl, (blk_cell BK223.out 4).trans rfl⟩ (fun hHeld => ?_)
     clear hK K
     refine norm_ (a' := ?_) ?_ ?_
     rotate_left
     ·show Act.put _ (some 21) _ = _
      simp only [Act.put, List.setIfInBounds_toArray, List.set_cons_zero, List.set_cons_succ, i64_w, i32_w]
      rfl
     refine one_ (i := 3) (N := some 23) #[true, true, true, true, false, false] rfl rfl (by kernel_rfl) (by decide) (fun K hK => ?_)
     refine goes_ Try.func23 (by kernel_rfl) rfl #[.agg #[.int .i8 a1_0, .int .i8 a1_1, .slice A1_2 l1_2.length c1_2, .slice A1_3 l1_3.length c1_3, .slice A1_4 l1_4.length c1_4]] (by rfl) rfl rfl (by (try simp only [List.map_toArray, List.map_cons, List.map_nil]); first | done | rfl | (simp only [List.length_drop, List.length_take]; rfl)) ?_
     with_reducible refine (laws_toMachine.calls kj11 a1_0 a1_1 _ _ l1_2 _ _ l1_3 _ _ l1_4 t237 t238 t239 t242 t245 _ ?side1 ?side2 ?side3 ?side4 ?side5 ?side6 A18.out).mono ?_
     (case side1 => repeat (first | exact (Kd.C_below HR1_2.out HB.out) | (with_reducible refine Kd.C_alloc ?_ _) | (with_reducible refine Kd.C_drewN ?_ _) | (with_reducible refine Kd.C_drew ?_)))
     (case side2 => exact HC1_2.out)
     (case side3 => repeat (first | exact (Kd.C_below HR1_3.out HB.out) | (with_reducible refine Kd.C_alloc ?_ _) | (with_reducible refine Kd.C_drewN ?_ _) | (with_reducible refine Kd.C_drew ?_)))
     (case side4 => exact HC1_3.out)
     (case side5 => repeat (first | exact (Kd.C_below HR1_4.out HB.out) | (with_reducible refine Kd.C_alloc ?_ _) | (with_reducible refine Kd.C_drewN ?_ _) | (with_reducible refine Kd.C_drew ?_)))
     (case side6 => exact HC1_4.out)
     rintro e w26 ⟨v240, v243, v246, rfl, ho0, ho1, ho2, hb⟩
     refine ⟨_, rfl, ?_⟩
     have n0_ := Aside0.mk (Kd.R_elder' (by (with_reducible repeat (first | apply Kd.R_alloc | apply Kd.R_drewN | apply Kd.R_drew)); exact HO230.out) (Kd.R_base ho0) hb)
     have n1_ := Aside0.mk (Kd.R_elder' (by (with_reducible repeat (first | apply Kd.R_alloc | apply Kd.R_drewN | apply Kd.R_drew)); exact HO233.out) (Kd.R_base ho1) hb)
     have n2_ := Aside0.mk (Kd.R_elder' (by (with_reducible repeat (first | apply Kd.R_alloc | apply Kd.R_drewN | apply Kd.R_drew)); exact HO236.out) (Kd.R_base ho2) hb)
     have n3_ := Aside0.mk (Kd.R_lower (Kd.R_new' ho0 (Kd.R_lt (by (with_reducible repeat (first | apply Kd.R_alloc | apply Kd.R_drewN | apply Kd.R_drew)); exact HO230.out))) (below_size (by repeat (first | (with_reducible first | exact HB.out | apply below_alloc | apply pw_below_drewN | apply below_drew1 | refine below_set ?_ GE222.out | refine below_set ?_ GE223.out) | exact HB.out))))
     have n4_ := Aside0.mk (Kd.R_lower (Kd.R_new' ho1 (Kd.R_lt (by (with_reducible repeat (first | apply Kd.R_alloc | apply Kd.R_drewN | apply Kd.R_drew)); exact HO233.out))) (below_size (by repeat (first | (with_reducible first | exact HB.out | apply below_alloc | apply pw_below_drewN | apply below_drew1 | refine below_set ?_ GE222.out | refine below_set ?_ GE223.out) | exact HB.out))))
     have n5_ := Aside0.mk (Kd.R_lower (Kd.R_new' ho2 (Kd.R_lt (by (with_reducible repeat (first | apply Kd.R_alloc | apply Kd.R_drewN | apply Kd.R_drew)); exact HO236.out))) (below_size (by repeat (first | (with_reducible first | exact HB.out | apply below_alloc | apply pw_below_drewN | apply below_drew1 | refine below_set ?_ GE222.out | refine below_set ?_ GE223.out) | exact HB.out))))
     have n6_ := Aside0.mk (blk_below (g := gb222) (o := .cells #[.int .i8 a0_0, .int .i8 a0_1, .slice A0_2 l0_2.length c0_2, .slice A0_3 l0_3.length c0_3, .slice A0_4 l0_4.length c0_4] 29 (0, 0)) (by (with_reducible repeat (first | refine blk_drewN ?_ _ | refine blk_drew ?_ | refine blk_alloc ?_ _)); exact BK222.out) hb)
     have n7_ := Aside0.mk (blk_below (g := gb223) (o := .cells #[.int .i8 a1_0, .int .i8 a1_1, .slice A1_2 l1_2.length c1_2, .slice A1_3 l1_3.length c1_3, .slice A1_4 l1_4.length c1_4] 29 (0, 0)) (by (with_reducible repeat (first | refine blk_drewN ?_ _ | refine blk_drew ?_ | refine blk_alloc ?_ _)); exact BK223.out) hb)
     have n8_ := Aside0.mk (below_step (by repeat (first | (with_reducible first | exact HB.out | apply below_alloc | apply pw_below_drewN | apply below_drew1 | refine below_set ?_ GE222.out | refine below_set ?_ GE223.out) | exact HB.out)) hb)
     clear HO230
     clear HO233
     clear HO236
     clear BK222
     clear BK223
     clear HB
     have HO230 := n0_
     have HO233 := n1_
     have HO236 := n2_
     have HO241 := n3_
     have HO244 := n4_
     have HO247 := n5_
     have BK222 := n6_
     have BK223 := n7_
     have HB := n8_
     clear n0_ n1_ n2_ n3_ n4_ n5_ n6_ n7_ n8_
     (try clear hb)
     (try clear hb2)
     (try clear hk)
     (try clear hi)
     (try clear ho0)
     (try clear ho1)
     (try clear ho2)
     obtain ⟨Ao27, co27, eo27⟩ := Kd.R_slice HO230.out
     (first | subst eo27 | (injection eo27 with f1_ f2_ f3_; have f4_ := f1_.symm; have f5_ := f3_.symm; clear f1_ f2_ f3_; subst f4_; subst f5_))
     obtain ⟨Ao28, co28, eo28⟩ := Kd.R_slice HO233.out
     (first | subst eo28 | (injection eo28 with f1_ f2_ f3_; have f4_ := f1_.symm; have f5_ := f3_.symm; clear f1_ f2_ f3_; subst f4_; subst f5_))
     obtain ⟨Ao29, co29, eo29⟩ := Kd.R_slice HO236.out
     (first | subst eo29 | (injection eo29 with f1_ f2_ f3_; have f4_ := f1_.symm; have f5_ := f3_.symm; clear f1_ f2_ f3_; subst f4_; subst f5_))
     obtain ⟨Ao30, co30, eo30⟩ := Kd.R_slice HO241.out
     (first | subst eo30 | (injection eo30 with f1_ f2_ f3_; have f4_ := f1_.symm; have f5_ := f3_.symm; clear f1_ f2_ f3_; subst f4_; subst f5_))
     obtain ⟨Ao31, co31, eo31⟩ := Kd.R_slice HO244.out
     (first | subst eo31 | (injection eo31 with f1_ f2_ f3_; have f4_ := f1_.symm; have f5_ := f3_.symm; clear f1_ f2_ f3_; subst f4_; subst f5_))
     obtain ⟨Ao32, co32, eo32⟩ := Kd.R_slice HO247.out
     (first | subst eo32 | (injection eo32 with f1_ f2_ f3_; have f4_ := f1_.symm; have f5_ := f3_.symm; clear f1_ f2_ f3_; subst f4_; subst f5_))
     refine hK.out _ _ ⟨(blk_cell BK222.out 0).trans rfl, (blk_cell BK222.out 1).trans rfl, (blk_cell BK222.out 2).trans rfl, (blk_cell BK222.out 3).trans rfl, (blk_cell BK222.out 4).trans rfl, (blk_cell BK223.out 0).trans rfl, (blk_cell BK223.out 1).trans rfl, (blk_cell BK223.out 2).trans rfl, (blk_cell BK223.out 3).trans rfl, (blk_cell BK223.out 4).trans rfl⟩ (fun hHeld => ?_)
     clear hK K
     refine norm_ (a' := ?_) ?_ ?_
     rotate_left
     ·show Act.put _ (some 23) _ = _
      simp only [Act.put, List.setIfInBounds_toArray, List.set_cons_zero, List.set_cons_succ, i64_w, i32_w]
      rfl
     refine one_ (i := 4) (N := some 24) #[true, true, true, true, true, false] rfl rfl (by kernel_rfl) (by decide) (fun K hK => ?_)
     refine goes_ Try.func60 (by kernel_rfl) rfl #[.agg #[.int .i8 t226, .int .i8 t227, .slice Ao27 t228.length co27, .slice Ao28 t231.length co28, .slice Ao29 t234.length co29], .agg #[.int .i8 t237, .int .i8 t238, .slice Ao30 t239.length co30, .slice Ao31 t242.length co31, .slice Ao32 t245.length co32]] (by rfl) rfl rfl (by (try simp only [List.map_toArray, List.map_cons, List.map_nil]); first | done | rfl | (simp only [List.length_drop, List.length_take]; rfl)) ?_
     with_reducible refine (spec_SameMachine.calls kj11 t226 t227 _ _ t228 _ _ t231 _ _ t234 t237 t238 _ _ t239 _ _ t242 _ _ t245 t248 _ ?side1 ?side2 ?side3 ?side4 ?side5 ?side6 ?side7 ?side8 ?side9 ?side10 ?side11 ?side12 A19.out).mono ?_
     (case side1 => repeat (first | exact (Kd.R_reads' HO230.out).2.2 | (with_reducible refine Kd.C_alloc ?_ _) | (with_reducible refine Kd.C_drewN ?_ _) | (with_reducible refine Kd.C_drew ?_)))
     (case side2 => exact (Kd.R_reads' HO230.out).2.1)
     (case side3 => repeat (first | exact (Kd.R_reads' HO233.out).2.2 | (with_reducible refine Kd.C_alloc ?_ _) | (with_reducible refine Kd.C_drewN ?_ _) | (with_reducible refine Kd.C_drew ?_)))
     (case side4 => exact (Kd.R_reads' HO233.out).2.1)
     (case side5 => repeat (first | exact (Kd.R_reads' HO236.out).2.2 | (with_reducible refine Kd.C_alloc ?_ _) | (with_reducible refine Kd.C_drewN ?_ _) | (with_reducible refine Kd.C_drew ?_)))
     (case side6 => exact (Kd.R_reads' HO236.out).2.1)
     (case side7 => repeat (first | exact (Kd.R_reads' HO241.out).2.2 | (with_reducible refine Kd.C_alloc ?_ _) | (with_reducible refine Kd.C_drewN ?_ _) | (with_reducible refine Kd.C_drew ?_)))
     (case side8 => exact (Kd.R_reads' HO241.out).2.1)
     (case side9 => repeat (first | exact (Kd.R_reads' HO244.out).2.2 | (with_reducible refine Kd.C_alloc ?_ _) | (with_reducible refine Kd.C_drewN ?_ _) | (with_reducible refine Kd.C_drew ?_)))
     (case side10 => exact (Kd.R_reads' HO244.out).2.1)
     (case side11 => repeat (first | exact (Kd.R_reads' HO247.out).2.2 | (with_reducible refine Kd.C_alloc ?_ _) | (with_reducible refine Kd.C_drewN ?_ _) | (with_reducible refine Kd.C_drew ?_)))
     (case side12 => exact (Kd.R_reads' HO247.out).2.1)
     rintro e w33 ⟨rfl, hb⟩
     refine ⟨_, rfl, ?_⟩
     have n0_ := Aside0.mk (Kd.R_below (by (with_reducible repeat (first | apply Kd.R_alloc | apply Kd.R_drewN | apply Kd.R_drew)); exact HO230.out) hb)
     have n1_ := Aside0.mk (Kd.R_below (by (with_reducible repeat (first | apply Kd.R_alloc | apply Kd.R_drewN | apply Kd.R_drew)); exact HO233.out) hb)
     have n2_ := Aside0.mk (Kd.R_below (by (with_reducible repeat (first | apply Kd.R_alloc | apply Kd.R_drewN | apply Kd.R_drew)); exact HO236.out) hb)
     have n3_ := Aside0.mk (Kd.R_below (by (with_reducible repeat (first | apply Kd.R_alloc | apply Kd.R_drewN | apply Kd.R_drew)); exact HO241.out) hb)
     have n4_ := Aside0.mk (Kd.R_below (by (with_reducible repeat (first | apply Kd.R_alloc | apply Kd.R_drewN | apply Kd.R_drew)); exact HO244.out) hb)
     have n5_ := Aside0.mk (Kd.R_below (by (with_reducible repeat (first | apply Kd.R_alloc | apply Kd.R_drewN | apply Kd.R_drew)); exact HO247.out) hb)
     have n6_ := Aside0.mk (blk_below (g := gb222) (o := .cells #[.int .i8 a0_0, .int .i8 a0_1, .slice A0_2 l0_2.length c0_2, .slice A0_3 l0_3.length c0_3, .slice A0_4 l0_4.length c0_4] 29 (0, 0)) (by (with_reducible repeat (first | refine blk_drewN ?_ _ | refine blk_drew ?_ | refine blk_alloc ?_ _)); exact BK222.out) hb)
     have n7_ := Aside0.mk (blk_below (g := gb223) (o := .cells #[.int .i8 a1_0, .int .i8 a1_1, .slice A1_2 l1_2.length c1_2, .slice A1_3 l1_3.length c1_3, .slice A1_4 l1_4.length c1_4] 29 (0, 0)) (by (with_reducible repeat (first | refine blk_drewN ?_ _ | refine blk_drew ?_ | refine blk_alloc ?_ _)); exact BK223.out) hb)
     have n8_ := Aside0.mk (below_step (by repeat (first | (with_reducible first | exact HB.out | apply below_alloc | apply pw_below_drewN | apply below_drew1 | refine below_set ?_ GE222.out | refine below_set ?_ GE223.out) | exact HB.out)) hb)
     clear HO230
     clear HO233
     clear HO236
     clear HO241
     clear HO244
     clear HO247
     clear BK222
     clear BK223
     clear HB
     have HO230 := n0_
     have HO233 := n1_
     have HO236 := n2_
     have HO241 := n3_
     have HO244 := n4_
     have HO247 := n5_
     have BK222 := n6_
     have BK223 := n7_
     have HB := n8_
     clear n0_ n1_ n2_ n3_ n4_ n5_ n6_ n7_ n8_
     (try clear hb)
     (try clear hb2)
     (try clear hk)
     (try clear hi)
     refine hK.out _ _ ⟨(blk_cell BK222.out 0).trans rfl, (blk_cell BK222.out 1).trans rfl, (blk_cell BK222.out 2).trans rfl, (blk_cell BK222.out 3).trans rfl, (blk_cell BK222.out 4).trans rfl, (blk_cell BK223.out 0).trans rfl, (blk_cell BK223.out 1).trans rfl, (blk_cell BK223.out 2).trans rfl, (blk_cell BK223.out 3).trans rfl, (blk_cell BK223.out 4).trans rfl⟩ (fun hHeld => ?_)
     clear hK K
     refine norm_ (a' := ?_) ?_ ?_
     rotate_left
     ·show Act.put _ (some 24) _ = _
      simp only [Act.put, List.setIfInBounds_toArray, List.set_cons_zero, List.set_cons_succ, i64_w, i32_w]
      rfl
     refine pure_ (i := 5) (N := some 6) (v := ?_) (a' := ?_) #[true, true, true, true, true, true] rfl rfl (by kernel_rfl) (fun _ _ _ h => h) (Or.inl ⟨by rfl, ?_⟩) ?_ ?_
     rotate_left
     ·intro w'
      go_simp
      with_reducible rfl
     rotate_left
     ·simp only [Act.put, List.setIfInBounds_toArray, List.set_cons_zero, List.set_cons_succ, i64_w, i32_w]
      rfl
     refine done_ (by kernel_rfl) ?_
     have hnb34 := NB222_223.out
     have hnc34 := NB223_222.out
     have hcz35_0 : w33.cell? ⟨gb222, 0, none⟩ = some (.int .i8 a0_0) := (blk_cell BK222.out 0).trans rfl
     have hcz35_1 : w33.cell? ⟨gb222, 1, none⟩ = some (.int .i8 a0_1) := (blk_cell BK222.out 1).trans rfl
     have hcz35_2 : w33.cell? ⟨gb222, 2, none⟩ = some (.slice A0_2 l0_2.length c0_2) := (blk_cell BK222.out 2).trans rfl
     have hcz35_3 : w33.cell? ⟨gb222, 3, none⟩ = some (.slice A0_3 l0_3.length c0_3) := (blk_cell BK222.out 3).trans rfl
     have hcz35_4 : w33.cell? ⟨gb222, 4, none⟩ = some (.slice A0_4 l0_4.length c0_4) := (blk_cell BK222.out 4).trans rfl
     have hfz35_0 := blk_frozen BK222.out 0
     have hfz35_1 := blk_frozen BK222.out 1
     have hfz35_2 := blk_frozen BK222.out 2
     have hfz35_3 := blk_frozen BK222.out 3
     have hfz35_4 := blk_frozen BK222.out 4
     go_upto_if 34 with (first | ((with_reducible refine gate_callee (f := 23) rfl ?_); refine goesL_ (some 26) rfl rfl Try.func23 (by kernel_rfl) rfl #[.agg #[.int .i8 a0_0, .int .i8 a0_1, .slice A0_2 l0_2.length c0_2, .slice A0_3 l0_3.length c0_3, .slice A0_4 l0_4.length c0_4]] rfl (by (try simp only [List.map_toArray, List.map_cons, List.map_nil]); first | done | rfl | (simp only [List.length_drop, List.length_take]; rfl)) ?_; (with_reducible refine (laws_toMachine.calls kj11 a0_0 a0_1 _ _ l0_2 _ _ l0_3 _ _ l0_4 t249 t250 t251 t254 t257 _ ?side1 ?side2 ?side3 ?side4 ?side5 ?side6 A20.out).mono ?_); (case side1 => repeat (first | exact (Kd.C_below HR0_2.out HB.out) | (with_reducible refine Kd.C_alloc ?_ _) | (with_reducible refine Kd.C_drewN ?_ _) | (with_reducible refine Kd.C_drew ?_))); (case side2 => exact HC0_2.out); (case side3 => repeat (first | exact (Kd.C_below HR0_3.out HB.out) | (with_reducible refine Kd.C_alloc ?_ _) | (with_reducible refine Kd.C_drewN ?_ _) | (with_reducible refine Kd.C_drew ?_))); (case side4 => exact HC0_3.out); (case side5 => repeat (first | exact (Kd.C_below HR0_4.out HB.out) | (with_reducible refine Kd.C_alloc ?_ _) | (with_reducible refine Kd.C_drewN ?_ _) | (with_reducible refine Kd.C_drew ?_))); (case side6 => exact HC0_4.out); rintro e w36 ⟨v252, v255, v258, rfl, ho0, ho1, ho2, hb⟩; refine ⟨_, rfl, ?_⟩; have n0_ := Aside0.mk (Kd.R_elder' (by (with_reducible repeat (first | apply Kd.R_alloc | apply Kd.R_drewN | apply Kd.R_drew)); exact HO230.out) (Kd.R_base ho0) hb); have n1_ := Aside0.mk (Kd.R_elder' (by (with_reducible repeat (first | apply Kd.R_alloc | apply Kd.R_drewN | apply Kd.R_drew)); exact HO233.out) (Kd.R_base ho1) hb); have n2_ := Aside0.mk (Kd.R_elder' (by (with_reducible repeat (first | apply Kd.R_alloc | apply Kd.R_drewN | apply Kd.R_drew)); exact HO236.out) (Kd.R_base ho2) hb); have n3_ := Aside0.mk (Kd.R_elder' (by (with_reducible repeat (first | apply Kd.R_alloc | apply Kd.R_drewN | apply Kd.R_drew)); exact HO241.out) (Kd.R_base ho0) hb); have n4_ := Aside0.mk (Kd.R_elder' (by (with_reducible repeat (first | apply Kd.R_alloc | apply Kd.R_drewN | apply Kd.R_drew)); exact HO244.out) (Kd.R_base ho1) hb); have n5_ := Aside0.mk (Kd.R_elder' (by (with_reducible repeat (first | apply Kd.R_alloc | apply Kd.R_drewN | apply Kd.R_drew)); exact HO247.out) (Kd.R_base ho2) hb); have n6_ := Aside0.mk (Kd.R_lower (Kd.R_new' (Kd.R_new' ho0 (Kd.R_lt (by (with_reducible repeat (first | apply Kd.R_alloc | apply Kd.R_drewN | apply Kd.R_drew)); exact HO230.out))) (Kd.R_lt (by (with_reducible repeat (first | apply Kd.R_alloc | apply Kd.R_drewN | apply Kd.R_drew)); exact HO241.out))) (below_size (by repeat (first | (with_reducible first | exact HB.out | apply below_alloc | apply pw_below_drewN | apply below_drew1 | refine below_set ?_ GE222.out | refine below_set ?_ GE223.out) | exact HB.out)))); have n7_ := Aside0.mk (Kd.R_lower (Kd.R_new' (Kd.R_new' ho1 (Kd.R_lt (by (with_reducible repeat (first | apply Kd.R_alloc | apply Kd.R_drewN | apply Kd.R_drew)); exact HO233.out))) (Kd.R_lt (by (with_reducible repeat (first | apply Kd.R_alloc | apply Kd.R_drewN | apply Kd.R_drew)); exact HO244.out))) (below_size (by repeat (first | (with_reducible first | exact HB.out | apply below_alloc | apply pw_below_drewN | apply below_drew1 | refine below_set ?_ GE222.out | refine below_set ?_ GE223.out) | exact HB.out)))); have n8_ := Aside0.mk (Kd.R_lower (Kd.R_new' (Kd.R_new' ho2 (Kd.R_lt (by (with_reducible repeat (first | apply Kd.R_alloc | apply Kd.R_drewN | apply Kd.R_drew)); exact HO236.out))) (Kd.R_lt (by (with_reducible repeat (first | apply Kd.R_alloc | apply Kd.R_drewN | apply Kd.R_drew)); exact HO247.out))) (below_size (by repeat (first | (with_reducible first | exact HB.out | apply below_alloc | apply pw_below_drewN | apply below_drew1 | refine below_set ?_ GE222.out | refine below_set ?_ GE223.out) | exact HB.out)))); have n9_ := Aside0.mk (blk_below (g := gb222) (o := .cells #[.int .i8 a0_0, .int .i8 a0_1, .slice A0_2 l0_2.length c0_2, .slice A0_3 l0_3.length c0_3, .slice A0_4 l0_4.length c0_4] 29 (0, 0)) (by (with_reducible repeat (first | refine blk_drewN ?_ _ | refine blk_drew ?_ | refine blk_alloc ?_ _)); exact BK222.out) hb); have n10_ := Aside0.mk (blk_below (g := gb223) (o := .cells #[.int .i8 a1_0, .int .i8 a1_1, .slice A1_2 l1_2.length c1_2, .slice A1_3 l1_3.length c1_3, .slice A1_4 l1_4.length c1_4] 29 (0, 0)) (by (with_reducible repeat (first | refine blk_drewN ?_ _ | refine blk_drew ?_ | refine blk_alloc ?_ _)); exact BK223.out) hb); have n11_ := Aside0.mk (below_step (by repeat (first | (with_reducible first | exact HB.out | apply below_alloc | apply pw_below_drewN | apply below_drew1 | refine below_set ?_ GE222.out | refine below_set ?_ GE223.out) | exact HB.out)) hb); clear HO230; clear HO233; clear HO236; clear HO241; clear HO244; clear HO247; clear BK222; clear BK223; clear HB; have HO230 := n0_; have HO233 := n1_; have HO236 := n2_; have HO241 := n3_; have HO244 := n4_; have HO247 := n5_; have HO253 := n6_; have HO256 := n7_; have HO259 := n8_; have BK222 := n9_; have BK223 := n10_; have HB := n11_; clear n0_ n1_ n2_ n3_ n4_ n5_ n6_ n7_ n8_ n9_ n10_ n11_; (try clear hb); (try clear hb2); (try clear hk); (try clear hi); (try clear ho0); (try clear ho1); (try clear ho2)) | ((with_reducible refine gate_dst (N := 7) rfl ?_); refine box_event ?hg (N := 7) ?hd (cs := #[.int .i8 0, .int .i8 0, .slice none 0 0, .slice none 0 0, .slice none 0 0]) (t := 41) ?hr ?_; (case hd => rfl); (case hg => rfl); (case hr => first | (go_simp; done) | (go_simp; rfl)); intro gb260 hg w37 hbox hb; have n0_ := Aside0.mk (Kd.R_below (by (with_reducible repeat (first | apply Kd.R_alloc | apply Kd.R_drewN | apply Kd.R_drew)); exact HO230.out) hb); have n1_ := Aside0.mk (Kd.R_below (by (with_reducible repeat (first | apply Kd.R_alloc | apply Kd.R_drewN | apply Kd.R_drew)); exact HO233.out) hb); have n2_ := Aside0.mk (Kd.R_below (by (with_reducible repeat (first | apply Kd.R_alloc | apply Kd.R_drewN | apply Kd.R_drew)); exact HO236.out) hb); have n3_ := Aside0.mk (Kd.R_below (by (with_reducible repeat (first | apply Kd.R_alloc | apply Kd.R_drewN | apply Kd.R_drew)); exact HO241.out) hb); have n4_ := Aside0.mk (Kd.R_below (by (with_reducible repeat (first | apply Kd.R_alloc | apply Kd.R_drewN | apply Kd.R_drew)); exact HO244.out) hb); have n5_ := Aside0.mk (Kd.R_below (by (with_reducible repeat (first | apply Kd.R_alloc | apply Kd.R_drewN | apply Kd.R_drew)); exact HO247.out) hb); have n6_ := Aside0.mk (Kd.R_below (by (with_reducible repeat (first | apply Kd.R_alloc | apply Kd.R_drewN | apply Kd.R_drew)); exact HO253.out) hb); have n7_ := Aside0.mk (Kd.R_below (by (with_reducible repeat (first | apply Kd.R_alloc | apply Kd.R_drewN | apply Kd.R_drew)); exact HO256.out) hb); have n8_ := Aside0.mk (Kd.R_below (by (with_reducible repeat (first | apply Kd.R_alloc | apply Kd.R_drewN | apply Kd.R_drew)); exact HO259.out) hb); have n9_ := Aside0.mk (blk_below (g := gb222) (o := .cells #[.int .i8 a0_0, .int .i8 a0_1, .slice A0_2 l0_2.length c0_2, .slice A0_3 l0_3.length c0_3, .slice A0_4 l0_4.length c0_4] 29 (0, 0)) (by (with_reducible repeat (first | refine blk_drewN ?_ _ | refine blk_drew ?_ | refine blk_alloc ?_ _)); exact BK222.out) hb); have n10_ := Aside0.mk (blk_below (g := gb223) (o := .cells #[.int .i8 a1_0, .int .i8 a1_1, .slice A1_2 l1_2.length c1_2, .slice A1_3 l1_3.length c1_3, .slice A1_4 l1_4.length c1_4] 29 (0, 0)) (by (with_reducible repeat (first | refine blk_drewN ?_ _ | refine blk_drew ?_ | refine blk_alloc ?_ _)); exact BK223.out) hb); have n11_ := Aside0.mk (below_step (by repeat (first | (with_reducible first | exact HB.out | apply below_alloc | apply pw_below_drewN | apply below_drew1 | refine below_set ?_ GE222.out | refine below_set ?_ GE223.out) | exact HB.out)) hb); have n12_ := Aside0.mk (hbox); have n13_ := Aside0.mk ((by rw [hg]; exact (below_size (by repeat (first | (with_reducible first | exact HB.out | apply below_alloc | apply pw_below_drewN | apply below_drew1 | refine below_set ?_ GE222.out | refine below_set ?_ GE223.out) | exact HB.out))) : w.heap.size ≤ gb260)); have n14_ := Aside0.mk ((by rw [hg]; exact (below_size (by repeat (first | (with_reducible first | exact HB.out | apply below_alloc | apply pw_below_drewN | apply below_drew1 | refine below_set ?_ GE222.out | refine below_set ?_ GE223.out) | exact HB.out))) : w.heap.size ≤ gb260)); have n15_ := Aside0.mk ((by rw [hg]; exact Nat.ne_of_lt (blk_lt (g := gb222) (o := .cells #[.int .i8 a0_0, .int .i8 a0_1, .slice A0_2 l0_2.length c0_2, .slice A0_3 l0_3.length c0_3, .slice A0_4 l0_4.length c0_4] 29 (0, 0)) (by (with_reducible repeat (first | refine blk_drewN ?_ _ | refine blk_drew ?_ | refine blk_alloc ?_ _)); exact BK222.out)) : gb222 ≠ gb260)); have n16_ := Aside0.mk ((by rw [hg]; exact Nat.ne_of_gt (blk_lt (g := gb222) (o := .cells #[.int .i8 a0_0, .int .i8 a0_1, .slice A0_2 l0_2.length c0_2, .slice A0_3 l0_3.length c0_3, .slice A0_4 l0_4.length c0_4] 29 (0, 0)) (by (with_reducible repeat (first | refine blk_drewN ?_ _ | refine blk_drew ?_ | refine blk_alloc ?_ _)); exact BK222.out)) : gb260 ≠ gb222)); have n17_ := Aside0.mk ((by rw [hg]; exact Nat.ne_of_lt (blk_lt (g := gb223) (o := .cells #[.int .i8 a1_0, .int .i8 a1_1, .slice A1_2 l1_2.length c1_2, .slice A1_3 l1_3.length c1_3, .slice A1_4 l1_4.length c1_4] 29 (0, 0)) (by (with_reducible repeat (first | refine blk_drewN ?_ _ | refine blk_drew ?_ | refine blk_alloc ?_ _)); exact BK223.out)) : gb223 ≠ gb260)); have n18_ := Aside0.mk ((by rw [hg]; exact Nat.ne_of_gt (blk_lt (g := gb223) (o := .cells #[.int .i8 a1_0, .int .i8 a1_1, .slice A1_2 l1_2.length c1_2, .slice A1_3 l1_3.length c1_3, .slice A1_4 l1_4.length c1_4] 29 (0, 0)) (by (with_reducible repeat (first | refine blk_drewN ?_ _ | refine blk_drew ?_ | refine blk_alloc ?_ _)); exact BK223.out)) : gb260 ≠ gb223)); clear HO230; clear HO233; clear HO236; clear HO241; clear HO244; clear HO247; clear HO253; clear HO256; clear HO259; clear BK222; clear BK223; clear HB; have HO230 := n0_; have HO233 := n1_; have HO236 := n2_; have HO241 := n3_; have HO244 := n4_; have HO247 := n5_; have HO253 := n6_; have HO256 := n7_; have HO259 := n8_; have BK222 := n9_; have BK223 := n10_; have HB := n11_; have BK260 := n12_; have GW260 := n13_; have GE260 := n14_; have NB222_260 := n15_; have NB260_222 := n16_; have NB223_260 := n17_; have NB260_223 := n18_; clear n0_ n1_ n2_ n3_ n4_ n5_ n6_ n7_ n8_ n9_ n10_ n11_ n12_ n13_ n14_ n15_ n16_ n17_ n18_; clear hb hbox hg; have hnb38 := NB260_222.out; have hnc38 := NB222_260.out; have hnb39 := NB260_223.out; have hnc39 := NB223_260.out; have hcz40_0 : w37.cell? ⟨gb260, 0, none⟩ = some (.int .i8 0) := (blk_cell BK260.out 0).trans rfl; have hcz40_1 : w37.cell? ⟨gb260, 1, none⟩ = some (.int .i8 0) := (blk_cell BK260.out 1).trans rfl; have hcz40_2 : w37.cell? ⟨gb260, 2, none⟩ = some (.slice none 0 0) := (blk_cell BK260.out 2).trans rfl; have hcz40_3 : w37.cell? ⟨gb260, 3, none⟩ = some (.slice none 0 0) := (blk_cell BK260.out 3).trans rfl; have hcz40_4 : w37.cell? ⟨gb260, 4, none⟩ = some (.slice none 0 0) := (blk_cell BK260.out 4).trans rfl; have hfz40_0 := blk_frozen BK260.out 0; have hfz40_1 := blk_frozen BK260.out 1; have hfz40_2 := blk_frozen BK260.out 2; have hfz40_3 := blk_frozen BK260.out 3; have hfz40_4 := blk_frozen BK260.out 4; obtain ⟨Ao41, co41, eo41⟩ := Kd.R_slice HO253.out; subst eo41; obtain ⟨Ao42, co42, eo42⟩ := Kd.R_slice HO256.out; subst eo42; obtain ⟨Ao43, co43, eo43⟩ := Kd.R_slice HO259.out; subst eo43; have hcz44_0 : w37.cell? ⟨gb223, 0, none⟩ = some (.int .i8 a1_0) := (blk_cell BK223.out 0).trans rfl; have hcz44_1 : w37.cell? ⟨gb223, 1, none⟩ = some (.int .i8 a1_1) := (blk_cell BK223.out 1).trans rfl; have hcz44_2 : w37.cell? ⟨gb223, 2, none⟩ = some (.slice A1_2 l1_2.length c1_2) := (blk_cell BK223.out 2).trans rfl; have hcz44_3 : w37.cell? ⟨gb223, 3, none⟩ = some (.slice A1_3 l1_3.length c1_3) := (blk_cell BK223.out 3).trans rfl; have hcz44_4 : w37.cell? ⟨gb223, 4, none⟩ = some (.slice A1_4 l1_4.length c1_4) := (blk_cell BK223.out 4).trans rfl; have hfz44_0 := blk_frozen BK223.out 0; have hfz44_1 := blk_frozen BK223.out 1; have hfz44_2 := blk_frozen BK223.out 2; have hfz44_3 := blk_frozen BK223.out 3; have hfz44_4 := blk_frozen BK223.out 4) | ((with_reducible refine gate_callee (f := 23) rfl ?_); refine goesL_ (some 28) rfl rfl Try.func23 (by kernel_rfl) rfl #[.agg #[.int .i8 a1_0, .int .i8 a1_1, .slice A1_2 l1_2.length c1_2, .slice A1_3 l1_3.length c1_3, .slice A1_4 l1_4.length c1_4]] rfl (by (try simp only [List.map_toArray, List.map_cons, List.map_nil]); first | done | rfl | (simp only [List.length_drop, List.length_take]; rfl)) ?_; (with_reducible refine (laws_toMachine.calls kj11 a1_0 a1_1 _ _ l1_2 _ _ l1_3 _ _ l1_4 t261 t262 t263 t266 t269 _ ?side1 ?side2 ?side3 ?side4 ?side5 ?side6 A21.out).mono ?_); (case side1 => exact Kd.C_below HR1_2.out (by repeat (first | (with_reducible first | exact HB.out | apply below_alloc | apply pw_below_drewN | apply below_drew1 | refine below_set ?_ GE222.out | refine below_set ?_ GE223.out | refine below_set ?_ GE260.out) | exact HB.out))); (case side2 => exact HC1_2.out); (case side3 => exact Kd.C_below HR1_3.out (by repeat (first | (with_reducible first | exact HB.out | apply below_alloc | apply pw_below_drewN | apply below_drew1 | refine below_set ?_ GE222.out | refine below_set ?_ GE223.out | refine below_set ?_ GE260.out) | exact HB.out))); (case side4 => exact HC1_3.out); (case side5 => exact Kd.C_below HR1_4.out (by repeat (first | (with_reducible first | exact HB.out | apply below_alloc | apply pw_below_drewN | apply below_drew1 | refine below_set ?_ GE222.out | refine below_set ?_ GE223.out | refine below_set ?_ GE260.out) | exact HB.out))); (case side6 => exact HC1_4.out); rintro e w45 ⟨v264, v267, v270, rfl, ho0, ho1, ho2, hb⟩; refine ⟨_, rfl, ?_⟩; have n0_ := Aside0.mk (Kd.R_elder' (by (with_reducible repeat (first | apply Kd.R_alloc | apply Kd.R_drewN | apply Kd.R_drew)); exact (Kd.R_mono (Kd.R_far (p := ⟨gb260, 4, none⟩) (Kd.R_far (p := ⟨gb260, 3, none⟩) (Kd.R_far (p := ⟨gb260, 2, none⟩) (Kd.R_far (p := ⟨gb260, 1, none⟩) (Kd.R_far (p := ⟨gb260, 0, none⟩) (Kd.R_types HO230.out BK260.out (by decide)) (fun _ hk => hk.2) (.int .i8 t249)) (fun _ hk => hk.2) (.int .i8 t250)) (fun _ hk => hk.2) (.slice Ao41 t251.length co41)) (fun _ hk => hk.2) (.slice Ao42 t254.length co42)) (fun _ hk => hk.2) (.slice Ao43 t257.length co43)) (fun _ h_ => h_.1))) (Kd.R_base ho0) hb); have n1_ := Aside0.mk (Kd.R_elder' (by (with_reducible repeat (first | apply Kd.R_alloc | apply Kd.R_drewN | apply Kd.R_drew)); exact (Kd.R_mono (Kd.R_far (p := ⟨gb260, 4, none⟩) (Kd.R_far (p := ⟨gb260, 3, none⟩) (Kd.R_far (p := ⟨gb260, 2, none⟩) (Kd.R_far (p := ⟨gb260, 1, none⟩) (Kd.R_far (p := ⟨gb260, 0, none⟩) (Kd.R_types HO233.out BK260.out (by decide)) (fun _ hk => hk.2) (.int .i8 t249)) (fun _ hk => hk.2) (.int .i8 t250)) (fun _ hk => hk.2) (.slice Ao41 t251.length co41)) (fun _ hk => hk.2) (.slice Ao42 t254.length co42)) (fun _ hk => hk.2) (.slice Ao43 t257.length co43)) (fun _ h_ => h_.1))) (Kd.R_base ho1) hb); have n2_ := Aside0.mk (Kd.R_elder' (by (with_reducible repeat (first | apply Kd.R_alloc | apply Kd.R_drewN | apply Kd.R_drew)); exact (Kd.R_mono (Kd.R_far (p := ⟨gb260, 4, none⟩) (Kd.R_far (p := ⟨gb260, 3, none⟩) (Kd.R_far (p := ⟨gb260, 2, none⟩) (Kd.R_far (p := ⟨gb260, 1, none⟩) (Kd.R_far (p := ⟨gb260, 0, none⟩) (Kd.R_types HO236.out BK260.out (by decide)) (fun _ hk => hk.2) (.int .i8 t249)) (fun _ hk => hk.2) (.int .i8 t250)) (fun _ hk => hk.2) (.slice Ao41 t251.length co41)) (fun _ hk => hk.2) (.slice Ao42 t254.length co42)) (fun _ hk => hk.2) (.slice Ao43 t257.length co43)) (fun _ h_ => h_.1))) (Kd.R_base ho2) hb); have n3_ := Aside0.mk (Kd.R_elder' (by (with_reducible repeat (first | apply Kd.R_alloc | apply Kd.R_drewN | apply Kd.R_drew)); exact (Kd.R_mono (Kd.R_far (p := ⟨gb260, 4, none⟩) (Kd.R_far (p := ⟨gb260, 3, none⟩) (Kd.R_far (p := ⟨gb260, 2, none⟩) (Kd.R_far (p := ⟨gb260, 1, none⟩) (Kd.R_far (p := ⟨gb260, 0, none⟩) (Kd.R_types HO241.out BK260.out (by decide)) (fun _ hk => hk.2) (.int .i8 t249)) (fun _ hk => hk.2) (.int .i8 t250)) (fun _ hk => hk.2) (.slice Ao41 t251.length co41)) (fun _ hk => hk.2) (.slice Ao42 t254.length co42)) (fun _ hk => hk.2) (.slice Ao43 t257.length co43)) (fun _ h_ => h_.1))) (Kd.R_base ho0) hb); have n4_ := Aside0.mk (Kd.R_elder' (by (with_reducible repeat (first | apply Kd.R_alloc | apply Kd.R_drewN | apply Kd.R_drew)); exact (Kd.R_mono (Kd.R_far (p := ⟨gb260, 4, none⟩) (Kd.R_far (p := ⟨gb260, 3, none⟩) (Kd.R_far (p := ⟨gb260, 2, none⟩) (Kd.R_far (p := ⟨gb260, 1, none⟩) (Kd.R_far (p := ⟨gb260, 0, none⟩) (Kd.R_types HO244.out BK260.out (by decide)) (fun _ hk => hk.2) (.int .i8 t249)) (fun _ hk => hk.2) (.int .i8 t250)) (fun _ hk => hk.2) (.slice Ao41 t251.length co41)) (fun _ hk => hk.2) (.slice Ao42 t254.length co42)) (fun _ hk => hk.2) (.slice Ao43 t257.length co43)) (fun _ h_ => h_.1))) (Kd.R_base ho1) hb); have n5_ := Aside0.mk (Kd.R_elder' (by (with_reducible repeat (first | apply Kd.R_alloc | apply Kd.R_drewN | apply Kd.R_drew)); exact (Kd.R_mono (Kd.R_far (p := ⟨gb260, 4, none⟩) (Kd.R_far (p := ⟨gb260, 3, none⟩) (Kd.R_far (p := ⟨gb260, 2, none⟩) (Kd.R_far (p := ⟨gb260, 1, none⟩) (Kd.R_far (p := ⟨gb260, 0, none⟩) (Kd.R_types HO247.out BK260.out (by decide)) (fun _ hk => hk.2) (.int .i8 t249)) (fun _ hk => hk.2) (.int .i8 t250)) (fun _ hk => hk.2) (.slice Ao41 t251.length co41)) (fun _ hk => hk.2) (.slice Ao42 t254.length co42)) (fun _ hk => hk.2) (.slice Ao43 t257.length co43)) (fun _ h_ => h_.1))) (Kd.R_base ho2) hb); have n6_ := Aside0.mk (Kd.R_elder' (by (with_reducible repeat (first | apply Kd.R_alloc | apply Kd.R_drewN | apply Kd.R_drew)); exact (Kd.R_mono (Kd.R_far (p := ⟨gb260, 4, none⟩) (Kd.R_far (p := ⟨gb260, 3, none⟩) (Kd.R_far (p := ⟨gb260, 2, none⟩) (Kd.R_far (p := ⟨gb260, 1, none⟩) (Kd.R_far (p := ⟨gb260, 0, none⟩) (Kd.R_types HO253.out BK260.out (by decide)) (fun _ hk => hk.2) (.int .i8 t249)) (fun _ hk => hk.2) (.int .i8 t250)) (fun _ hk => hk.2) (.slice Ao41 t251.length co41)) (fun _ hk => hk.2) (.slice Ao42 t254.length co42)) (fun _ hk => hk.2) (.slice Ao43 t257.length co43)) (fun _ h_ => h_.1))) (Kd.R_base ho0) hb); have n7_ := Aside0.mk (Kd.R_elder' (by (with_reducible repeat (first | apply Kd.R_alloc | apply Kd.R_drewN | apply Kd.R_drew)); exact (Kd.R_mono (Kd.R_far (p := ⟨gb260, 4, none⟩) (Kd.R_far (p := ⟨gb260, 3, none⟩) (Kd.R_far (p := ⟨gb260, 2, none⟩) (Kd.R_far (p := ⟨gb260, 1, none⟩) (Kd.R_far (p := ⟨gb260, 0, none⟩) (Kd.R_types HO256.out BK260.out (by decide)) (fun _ hk => hk.2) (.int .i8 t249)) (fun _ hk => hk.2) (.int .i8 t250)) (fun _ hk => hk.2) (.slice Ao41 t251.length co41)) (fun _ hk => hk.2) (.slice Ao42 t254.length co42)) (fun _ hk => hk.2) (.slice Ao43 t257.length co43)) (fun _ h_ => h_.1))) (Kd.R_base ho1) hb); have n8_ := Aside0.mk (Kd.R_elder' (by (with_reducible repeat (first | apply Kd.R_alloc | apply Kd.R_drewN | apply Kd.R_drew)); exact (Kd.R_mono (Kd.R_far (p := ⟨gb260, 4, none⟩) (Kd.R_far (p := ⟨gb260, 3, none⟩) (Kd.R_far (p := ⟨gb260, 2, none⟩) (Kd.R_far (p := ⟨gb260, 1, none⟩) (Kd.R_far (p := ⟨gb260, 0, none⟩) (Kd.R_types HO259.out BK260.out (by decide)) (fun _ hk => hk.2) (.int .i8 t249)) (fun _ hk => hk.2) (.int .i8 t250)) (fun _ hk => hk.2) (.slice Ao41 t251.length co41)) (fun _ hk => hk.2) (.slice Ao42 t254.length co42)) (fun _ hk => hk.2) (.slice Ao43 t257.length co43)) (fun _ h_ => h_.1))) (Kd.R_base ho2) hb); have n9_ := Aside0.mk (Kd.R_lower (Kd.R_new' (Kd.R_new' (Kd.R_new' ho0 (Kd.R_lt (by (with_reducible repeat (first | apply Kd.R_alloc | apply Kd.R_drewN | apply Kd.R_drew)); exact (Kd.R_mono (Kd.R_far (p := ⟨gb260, 4, none⟩) (Kd.R_far (p := ⟨gb260, 3, none⟩) (Kd.R_far (p := ⟨gb260, 2, none⟩) (Kd.R_far (p := ⟨gb260, 1, none⟩) (Kd.R_far (p := ⟨gb260, 0, none⟩) (Kd.R_types HO230.out BK260.out (by decide)) (fun _ hk => hk.2) (.int .i8 t249)) (fun _ hk => hk.2) (.int .i8 t250)) (fun _ hk => hk.2) (.slice Ao41 t251.length co41)) (fun _ hk => hk.2) (.slice Ao42 t254.length co42)) (fun _ hk => hk.2) (.slice Ao43 t257.length co43)) (fun _ h_ => h_.1))))) (Kd.R_lt (by (with_reducible repeat (first | apply Kd.R_alloc | apply Kd.R_drewN | apply Kd.R_drew)); exact (Kd.R_mono (Kd.R_far (p := ⟨gb260, 4, none⟩) (Kd.R_far (p := ⟨gb260, 3, none⟩) (Kd.R_far (p := ⟨gb260, 2, none⟩) (Kd.R_far (p := ⟨gb260, 1, none⟩) (Kd.R_far (p := ⟨gb260, 0, none⟩) (Kd.R_types HO241.out BK260.out (by decide)) (fun _ hk => hk.2) (.int .i8 t249)) (fun _ hk => hk.2) (.int .i8 t250)) (fun _ hk => hk.2) (.slice Ao41 t251.length co41)) (fun _ hk => hk.2) (.slice Ao42 t254.length co42)) (fun _ hk => hk.2) (.slice Ao43 t257.length co43)) (fun _ h_ => h_.1))))) (Kd.R_lt (by (with_reducible repeat (first | apply Kd.R_alloc | apply Kd.R_drewN | apply Kd.R_drew)); exact (Kd.R_mono (Kd.R_far (p := ⟨gb260, 4, none⟩) (Kd.R_far (p := ⟨gb260, 3, none⟩) (Kd.R_far (p := ⟨gb260, 2, none⟩) (Kd.R_far (p := ⟨gb260, 1, none⟩) (Kd.R_far (p := ⟨gb260, 0, none⟩) (Kd.R_types HO253.out BK260.out (by decide)) (fun _ hk => hk.2) (.int .i8 t249)) (fun _ hk => hk.2) (.int .i8 t250)) (fun _ hk => hk.2) (.slice Ao41 t251.length co41)) (fun _ hk => hk.2) (.slice Ao42 t254.length co42)) (fun _ hk => hk.2) (.slice Ao43 t257.length co43)) (fun _ h_ => h_.1))))) (below_size (by repeat (first | (with_reducible first | exact HB.out | apply below_alloc | apply pw_below_drewN | apply below_drew1 | refine below_set ?_ GE222.out | refine below_set ?_ GE223.out | refine below_set ?_ GE260.out) | exact HB.out)))); have n10_ := Aside0.mk (Kd.R_lower (Kd.R_new' (Kd.R_new' (Kd.R_new' ho1 (Kd.R_lt (by (with_reducible repeat (first | apply Kd.R_alloc | apply Kd.R_drewN | apply Kd.R_drew)); exact (Kd.R_mono (Kd.R_far (p := ⟨gb260, 4, none⟩) (Kd.R_far (p := ⟨gb260, 3, none⟩) (Kd.R_far (p := ⟨gb260, 2, none⟩) (Kd.R_far (p := ⟨gb260, 1, none⟩) (Kd.R_far (p := ⟨gb260, 0, none⟩) (Kd.R_types HO233.out BK260.out (by decide)) (fun _ hk => hk.2) (.int .i8 t249)) (fun _ hk => hk.2) (.int .i8 t250)) (fun _ hk => hk.2) (.slice Ao41 t251.length co41)) (fun _ hk => hk.2) (.slice Ao42 t254.length co42)) (fun _ hk => hk.2) (.slice Ao43 t257.length co43)) (fun _ h_ => h_.1))))) (Kd.R_lt (by (with_reducible repeat (first | apply Kd.R_alloc | apply Kd.R_drewN | apply Kd.R_drew)); exact (Kd.R_mono (Kd.R_far (p := ⟨gb260, 4, none⟩) (Kd.R_far (p := ⟨gb260, 3, none⟩) (Kd.R_far (p := ⟨gb260, 2, none⟩) (Kd.R_far (p := ⟨gb260, 1, none⟩) (Kd.R_far (p := ⟨gb260, 0, none⟩) (Kd.R_types HO244.out BK260.out (by decide)) (fun _ hk => hk.2) (.int .i8 t249)) (fun _ hk => hk.2) (.int .i8 t250)) (fun _ hk => hk.2) (.slice Ao41 t251.length co41)) (fun _ hk => hk.2) (.slice Ao42 t254.length co42)) (fun _ hk => hk.2) (.slice Ao43 t257.length co43)) (fun _ h_ => h_.1))))) (Kd.R_lt (by (with_reducible repeat (first | apply Kd.R_alloc | apply Kd.R_drewN | apply Kd.R_drew)); exact (Kd.R_mono (Kd.R_far (p := ⟨gb260, 4, none⟩) (Kd.R_far (p := ⟨gb260, 3, none⟩) (Kd.R_far (p := ⟨gb260, 2, none⟩) (Kd.R_far (p := ⟨gb260, 1, none⟩) (Kd.R_far (p := ⟨gb260, 0, none⟩) (Kd.R_types HO256.out BK260.out (by decide)) (fun _ hk => hk.2) (.int .i8 t249)) (fun _ hk => hk.2) (.int .i8 t250)) (fun _ hk => hk.2) (.slice Ao41 t251.length co41)) (fun _ hk => hk.2) (.slice Ao42 t254.length co42)) (fun _ hk => hk.2) (.slice Ao43 t257.length co43)) (fun _ h_ => h_.1))))) (below_size (by repeat (first | (with_reducible first | exact HB.out | apply below_alloc | apply pw_below_drewN | apply below_drew1 | refine below_set ?_ GE222.out | refine below_set ?_ GE223.out | refine below_set ?_ GE260.out) | exact HB.out)))); have n11_ := Aside0.mk (Kd.R_lower (Kd.R_new' (Kd.R_new' (Kd.R_new' ho2 (Kd.R_lt (by (with_reducible repeat (first | apply Kd.R_alloc | apply Kd.R_drewN | apply Kd.R_drew)); exact (Kd.R_mono (Kd.R_far (p := ⟨gb260, 4, none⟩) (Kd.R_far (p := ⟨gb260, 3, none⟩) (Kd.R_far (p := ⟨gb260, 2, none⟩) (Kd.R_far (p := ⟨gb260, 1, none⟩) (Kd.R_far (p := ⟨gb260, 0, none⟩) (Kd.R_types HO236.out BK260.out (by decide)) (fun _ hk => hk.2) (.int .i8 t249)) (fun _ hk => hk.2) (.int .i8 t250)) (fun _ hk => hk.2) (.slice Ao41 t251.length co41)) (fun _ hk => hk.2) (.slice Ao42 t254.length co42)) (fun _ hk => hk.2) (.slice Ao43 t257.length co43)) (fun _ h_ => h_.1))))) (Kd.R_lt (by (with_reducible repeat (first | apply Kd.R_alloc | apply Kd.R_drewN | apply Kd.R_drew)); exact (Kd.R_mono (Kd.R_far (p := ⟨gb260, 4, none⟩) (Kd.R_far (p := ⟨gb260, 3, none⟩) (Kd.R_far (p := ⟨gb260, 2, none⟩) (Kd.R_far (p := ⟨gb260, 1, none⟩) (Kd.R_far (p := ⟨gb260, 0, none⟩) (Kd.R_types HO247.out BK260.out (by decide)) (fun _ hk => hk.2) (.int .i8 t249)) (fun _ hk => hk.2) (.int .i8 t250)) (fun _ hk => hk.2) (.slice Ao41 t251.length co41)) (fun _ hk => hk.2) (.slice Ao42 t254.length co42)) (fun _ hk => hk.2) (.slice Ao43 t257.length co43)) (fun _ h_ => h_.1))))) (Kd.R_lt (by (with_reducible repeat (first | apply Kd.R_alloc | apply Kd.R_drewN | apply Kd.R_drew)); exact (Kd.R_mono (Kd.R_far (p := ⟨gb260, 4, none⟩) (Kd.R_far (p := ⟨gb260, 3, none⟩) (Kd.R_far (p := ⟨gb260, 2, none⟩) (Kd.R_far (p := ⟨gb260, 1, none⟩) (Kd.R_far (p := ⟨gb260, 0, none⟩) (Kd.R_types HO259.out BK260.out (by decide)) (fun _ hk => hk.2) (.int .i8 t249)) (fun _ hk => hk.2) (.int .i8 t250)) (fun _ hk => hk.2) (.slice Ao41 t251.length co41)) (fun _ hk => hk.2) (.slice Ao42 t254.length co42)) (fun _ hk => hk.2) (.slice Ao43 t257.length co43)) (fun _ h_ => h_.1))))) (below_size (by repeat (first | (with_reducible first | exact HB.out | apply below_alloc | apply pw_below_drewN | apply below_drew1 | refine below_set ?_ GE222.out | refine below_set ?_ GE223.out | refine below_set ?_ GE260.out) | exact HB.out)))); have n12_ := Aside0.mk (blk_below (g := gb222) (o := .cells #[.int .i8 a0_0, .int .i8 a0_1, .slice A0_2 l0_2.length c0_2, .slice A0_3 l0_3.length c0_3, .slice A0_4 l0_4.length c0_4] 29 (0, 0)) (by (with_reducible repeat (first | refine blk_drewN ?_ _ | refine blk_drew ?_ | refine blk_alloc ?_ _)); refine blk_far ?_ NB222_260.out _; (with_reducible repeat (first | refine blk_drewN ?_ _ | refine blk_drew ?_ | refine blk_alloc ?_ _)); refine blk_far ?_ NB222_260.out _; (with_reducible repeat (first | refine blk_drewN ?_ _ | refine blk_drew ?_ | refine blk_alloc ?_ _)); refine blk_far ?_ NB222_260.out _; (with_reducible repeat (first | refine blk_drewN ?_ _ | refine blk_drew ?_ | refine blk_alloc ?_ _)); refine blk_far ?_ NB222_260.out _; (with_reducible repeat (first | refine blk_drewN ?_ _ | refine blk_drew ?_ | refine blk_alloc ?_ _)); refine blk_far ?_ NB222_260.out _; (with_reducible repeat (first | refine blk_drewN ?_ _ | refine blk_drew ?_ | refine blk_alloc ?_ _)); exact BK222.out) hb); have n13_ := Aside0.mk (blk_below (g := gb223) (o := .cells #[.int .i8 a1_0, .int .i8 a1_1, .slice A1_2 l1_2.length c1_2, .slice A1_3 l1_3.length c1_3, .slice A1_4 l1_4.length c1_4] 29 (0, 0)) (by (with_reducible repeat (first | refine blk_drewN ?_ _ | refine blk_drew ?_ | refine blk_alloc ?_ _)); refine blk_far ?_ NB223_260.out _; (with_reducible repeat (first | refine blk_drewN ?_ _ | refine blk_drew ?_ | refine blk_alloc ?_ _)); refine blk_far ?_ NB223_260.out _; (with_reducible repeat (first | refine blk_drewN ?_ _ | refine blk_drew ?_ | refine blk_alloc ?_ _)); refine blk_far ?_ NB223_260.out _; (with_reducible repeat (first | refine blk_drewN ?_ _ | refine blk_drew ?_ | refine blk_alloc ?_ _)); refine blk_far ?_ NB223_260.out _; (with_reducible repeat (first | refine blk_drewN ?_ _ | refine blk_drew ?_ | refine blk_alloc ?_ _)); refine blk_far ?_ NB223_260.out _; (with_reducible repeat (first | refine blk_drewN ?_ _ | refine blk_drew ?_ | refine blk_alloc ?_ _)); exact BK223.out) hb); have n14_ := Aside0.mk (blk_below (g := gb260) (o := .cells #[.int .i8 t249, .int .i8 t250, .slice Ao41 t251.length co41, .slice Ao42 t254.length co42, .slice Ao43 t257.length co43] 41 (0, 0)) (by (with_reducible repeat (first | refine blk_drewN ?_ _ | refine blk_drew ?_ | refine blk_alloc ?_ _)); refine blk_put (cs := #[.int .i8 t249, .int .i8 t250, .slice Ao41 t251.length co41, .slice Ao42 t254.length co42, .slice none 0 0]) ?_ 4 _ rfl; (with_reducible repeat (first | refine blk_drewN ?_ _ | refine blk_drew ?_ | refine blk_alloc ?_ _)); refine blk_put (cs := #[.int .i8 t249, .int .i8 t250, .slice Ao41 t251.length co41, .slice none 0 0, .slice none 0 0]) ?_ 3 _ rfl; (with_reducible repeat (first | refine blk_drewN ?_ _ | refine blk_drew ?_ | refine blk_alloc ?_ _)); refine blk_put (cs := #[.int .i8 t249, .int .i8 t250, .slice none 0 0, .slice none 0 0, .slice none 0 0]) ?_ 2 _ rfl; (with_reducible repeat (first | refine blk_drewN ?_ _ | refine blk_drew ?_ | refine blk_alloc ?_ _)); refine blk_put (cs := #[.int .i8 t249, .int .i8 0, .slice none 0 0, .slice none 0 0, .slice none 0 0]) ?_ 1 _ rfl; (with_reducible repeat (first | refine blk_drewN ?_ _ | refine blk_drew ?_ | refine blk_alloc ?_ _)); refine blk_put (cs := #[.int .i8 0, .int .i8 0, .slice none 0 0, .slice none 0 0, .slice none 0 0]) ?_ 0 _ rfl; (with_reducible repeat (first | refine blk_drewN ?_ _ | refine blk_drew ?_ | refine blk_alloc ?_ _)); exact BK260.out) hb); have n15_ := Aside0.mk (below_step (by repeat (first | (with_reducible first | exact HB.out | apply below_alloc | apply pw_below_drewN | apply below_drew1 | refine below_set ?_ GE222.out | refine below_set ?_ GE223.out | refine below_set ?_ GE260.out) | exact HB.out)) hb); clear HO230; clear HO233; clear HO236; clear HO241; clear HO244; clear HO247; clear HO253; clear HO256; clear HO259; clear BK222; clear BK223; clear BK260; clear HB; have HO230 := n0_; have HO233 := n1_; have HO236 := n2_; have HO241 := n3_; have HO244 := n4_; have HO247 := n5_; have HO253 := n6_; have HO256 := n7_; have HO259 := n8_; have HO265 := n9_; have HO268 := n10_; have HO271 := n11_; have BK222 := n12_; have BK223 := n13_; have BK260 := n14_; have HB := n15_; clear n0_ n1_ n2_ n3_ n4_ n5_ n6_ n7_ n8_ n9_ n10_ n11_ n12_ n13_ n14_ n15_; (try clear hb); (try clear hb2); (try clear hk); (try clear hi); (try clear ho0); (try clear ho1); (try clear ho2)) | ((with_reducible refine gate_dst (N := 8) rfl ?_); refine box_event ?hg (N := 8) ?hd (cs := #[.int .i8 0, .int .i8 0, .slice none 0 0, .slice none 0 0, .slice none 0 0]) (t := 41) ?hr ?_; (case hd => rfl); (case hg => rfl); (case hr => first | (go_simp; done) | (go_simp; rfl)); intro gb272 hg w46 hbox hb; have n0_ := Aside0.mk (Kd.R_below (by (with_reducible repeat (first | apply Kd.R_alloc | apply Kd.R_drewN | apply Kd.R_drew)); exact HO230.out) hb); have n1_ := Aside0.mk (Kd.R_below (by (with_reducible repeat (first | apply Kd.R_alloc | apply Kd.R_drewN | apply Kd.R_drew)); exact HO233.out) hb); have n2_ := Aside0.mk (Kd.R_below (by (with_reducible repeat (first | apply Kd.R_alloc | apply Kd.R_drewN | apply Kd.R_drew)); exact HO236.out) hb); have n3_ := Aside0.mk (Kd.R_below (by (with_reducible repeat (first | apply Kd.R_alloc | apply Kd.R_drewN | apply Kd.R_drew)); exact HO241.out) hb); have n4_ := Aside0.mk (Kd.R_below (by (with_reducible repeat (first | apply Kd.R_alloc | apply Kd.R_drewN | apply Kd.R_drew)); exact HO244.out) hb); have n5_ := Aside0.mk (Kd.R_below (by (with_reducible repeat (first | apply Kd.R_alloc | apply Kd.R_drewN | apply Kd.R_drew)); exact HO247.out) hb); have n6_ := Aside0.mk (Kd.R_below (by (with_reducible repeat (first | apply Kd.R_alloc | apply Kd.R_drewN | apply Kd.R_drew)); exact HO253.out) hb); have n7_ := Aside0.mk (Kd.R_below (by (with_reducible repeat (first | apply Kd.R_alloc | apply Kd.R_drewN | apply Kd.R_drew)); exact HO256.out) hb); have n8_ := Aside0.mk (Kd.R_below (by (with_reducible repeat (first | apply Kd.R_alloc | apply Kd.R_drewN | apply Kd.R_drew)); exact HO259.out) hb); have n9_ := Aside0.mk (Kd.R_below (by (with_reducible repeat (first | apply Kd.R_alloc | apply Kd.R_drewN | apply Kd.R_drew)); exact HO265.out) hb); have n10_ := Aside0.mk (Kd.R_below (by (with_reducible repeat (first | apply Kd.R_alloc | apply Kd.R_drewN | apply Kd.R_drew)); exact HO268.out) hb); have n11_ := Aside0.mk (Kd.R_below (by (with_reducible repeat (first | apply Kd.R_alloc | apply Kd.R_drewN | apply Kd.R_drew)); exact HO271.out) hb); have n12_ := Aside0.mk (blk_below (g := gb222) (o := .cells #[.int .i8 a0_0, .int .i8 a0_1, .slice A0_2 l0_2.length c0_2, .slice A0_3 l0_3.length c0_3, .slice A0_4 l0_4.length c0_4] 29 (0, 0)) (by (with_reducible repeat (first | refine blk_drewN ?_ _ | refine blk_drew ?_ | refine blk_alloc ?_ _)); exact BK222.out) hb); have n13_ := Aside0.mk (blk_below (g := gb223) (o := .cells #[.int .i8 a1_0, .int .i8 a1_1, .slice A1_2 l1_2.length c1_2, .slice A1_3 l1_3.length c1_3, .slice A1_4 l1_4.length c1_4] 29 (0, 0)) (by (with_reducible repeat (first | refine blk_drewN ?_ _ | refine blk_drew ?_ | refine blk_alloc ?_ _)); exact BK223.out) hb); have n14_ := Aside0.mk (blk_below (g := gb260) (o := .cells #[.int .i8 t249, .int .i8 t250, .slice Ao41 t251.length co41, .slice Ao42 t254.length co42, .slice Ao43 t257.length co43] 41 (0, 0)) (by (with_reducible repeat (first | refine blk_drewN ?_ _ | refine blk_drew ?_ | refine blk_alloc ?_ _)); exact BK260.out) hb); have n15_ := Aside0.mk (below_step (by repeat (first | (with_reducible first | exact HB.out | apply below_alloc | apply pw_below_drewN | apply below_drew1 | refine below_set ?_ GE222.out | refine below_set ?_ GE223.out | refine below_set ?_ GE260.out) | exact HB.out)) hb); have n16_ := Aside0.mk (hbox); have n17_ := Aside0.mk ((by rw [hg]; exact (below_size (by repeat (first | (with_reducible first | exact HB.out | apply below_alloc | apply pw_below_drewN | apply below_drew1 | refine below_set ?_ GE222.out | refine below_set ?_ GE223.out | refine below_set ?_ GE260.out) | exact HB.out))) : w.heap.size ≤ gb272)); have n18_ := Aside0.mk ((by rw [hg]; exact (below_size (by repeat (first | (with_reducible first | exact HB.out | apply below_alloc | apply pw_below_drewN | apply below_drew1 | refine below_set ?_ GE222.out | refine below_set ?_ GE223.out | refine below_set ?_ GE260.out) | exact HB.out))) : w.heap.size ≤ gb272)); have n19_ := Aside0.mk ((by rw [hg]; exact Nat.ne_of_lt (blk_lt (g := gb222) (o := .cells #[.int .i8 a0_0, .int .i8 a0_1, .slice A0_2 l0_2.length c0_2, .slice A0_3 l0_3.length c0_3, .slice A0_4 l0_4.length c0_4] 29 (0, 0)) (by (with_reducible repeat (first | refine blk_drewN ?_ _ | refine blk_drew ?_ | refine blk_alloc ?_ _)); exact BK222.out)) : gb222 ≠ gb272)); have n20_ := Aside0.mk ((by rw [hg]; exact Nat.ne_of_gt (blk_lt (g := gb222) (o := .cells #[.int .i8 a0_0, .int .i8 a0_1, .slice A0_2 l0_2.length c0_2, .slice A0_3 l0_3.length c0_3, .slice A0_4 l0_4.length c0_4] 29 (0, 0)) (by (with_reducible repeat (first | refine blk_drewN ?_ _ | refine blk_drew ?_ | refine blk_alloc ?_ _)); exact BK222.out)) : gb272 ≠ gb222)); have n21_ := Aside0.mk ((by rw [hg]; exact Nat.ne_of_lt (blk_lt (g := gb223) (o := .cells #[.int .i8 a1_0, .int .i8 a1_1, .slice A1_2 l1_2.length c1_2, .slice A1_3 l1_3.length c1_3, .slice A1_4 l1_4.length c1_4] 29 (0, 0)) (by (with_reducible repeat (first | refine blk_drewN ?_ _ | refine blk_drew ?_ | refine blk_alloc ?_ _)); exact BK223.out)) : gb223 ≠ gb272)); have n22_ := Aside0.mk ((by rw [hg]; exact Nat.ne_of_gt (blk_lt (g := gb223) (o := .cells #[.int .i8 a1_0, .int .i8 a1_1, .slice A1_2 l1_2.length c1_2, .slice A1_3 l1_3.length c1_3, .slice A1_4 l1_4.length c1_4] 29 (0, 0)) (by (with_reducible repeat (first | refine blk_drewN ?_ _ | refine blk_drew ?_ | refine blk_alloc ?_ _)); exact BK223.out)) : gb272 ≠ gb223)); have n23_ := Aside0.mk ((by rw [hg]; exact Nat.ne_of_lt (blk_lt (g := gb260) (o := .cells #[.int .i8 t249, .int .i8 t250, .slice Ao41 t251.length co41, .slice Ao42 t254.length co42, .slice Ao43 t257.length co43] 41 (0, 0)) (by (with_reducible repeat (first | refine blk_drewN ?_ _ | refine blk_drew ?_ | refine blk_alloc ?_ _)); exact BK260.out)) : gb260 ≠ gb272)); have n24_ := Aside0.mk ((by rw [hg]; exact Nat.ne_of_gt (blk_lt (g := gb260) (o := .cells #[.int .i8 t249, .int .i8 t250, .slice Ao41 t251.length co41, .slice Ao42 t254.length co42, .slice Ao43 t257.length co43] 41 (0, 0)) (by (with_reducible repeat (first | refine blk_drewN ?_ _ | refine blk_drew ?_ | refine blk_alloc ?_ _)); exact BK260.out)) : gb272 ≠ gb260)); clear HO230; clear HO233; clear HO236; clear HO241; clear HO244; clear HO247; clear HO253; clear HO256; clear HO259; clear HO265; clear HO268; clear HO271; clear BK222; clear BK223; clear BK260; clear HB; have HO230 := n0_; have HO233 := n1_; have HO236 := n2_; have HO241 := n3_; have HO244 := n4_; have HO247 := n5_; have HO253 := n6_; have HO256 := n7_; have HO259 := n8_; have HO265 := n9_; have HO268 := n10_; have HO271 := n11_; have BK222 := n12_; have BK223 := n13_; have BK260 := n14_; have HB := n15_; have BK272 := n16_; have GW272 := n17_; have GE272 := n18_; have NB222_272 := n19_; have NB272_222 := n20_; have NB223_272 := n21_; have NB272_223 := n22_; have NB260_272 := n23_; have NB272_260 := n24_; clear n0_ n1_ n2_ n3_ n4_ n5_ n6_ n7_ n8_ n9_ n10_ n11_ n12_ n13_ n14_ n15_ n16_ n17_ n18_ n19_ n20_ n21_ n22_ n23_ n24_; clear hb hbox hg; have hnb47 := NB272_222.out; have hnc47 := NB222_272.out; have hnb48 := NB272_223.out; have hnc48 := NB223_272.out; have hnb49 := NB272_260.out; have hnc49 := NB260_272.out; have hcz50_0 : w46.cell? ⟨gb272, 0, none⟩ = some (.int .i8 0) := (blk_cell BK272.out 0).trans rfl; have hcz50_1 : w46.cell? ⟨gb272, 1, none⟩ = some (.int .i8 0) := (blk_cell BK272.out 1).trans rfl; have hcz50_2 : w46.cell? ⟨gb272, 2, none⟩ = some (.slice none 0 0) := (blk_cell BK272.out 2).trans rfl; have hcz50_3 : w46.cell? ⟨gb272, 3, none⟩ = some (.slice none 0 0) := (blk_cell BK272.out 3).trans rfl; have hcz50_4 : w46.cell? ⟨gb272, 4, none⟩ = some (.slice none 0 0) := (blk_cell BK272.out 4).trans rfl; have hfz50_0 := blk_frozen BK272.out 0; have hfz50_1 := blk_frozen BK272.out 1; have hfz50_2 := blk_frozen BK272.out 2; have hfz50_3 := blk_frozen BK272.out 3; have hfz50_4 := blk_frozen BK272.out 4; obtain ⟨Ao51, co51, eo51⟩ := Kd.R_slice HO265.out; subst eo51; obtain ⟨Ao52, co52, eo52⟩ := Kd.R_slice HO268.out; subst eo52; obtain ⟨Ao53, co53, eo53⟩ := Kd.R_slice HO271.out; subst eo53; have hcz54_0 : w46.cell? ⟨gb260, 0, none⟩ = some (.int .i8 t249) := (blk_cell BK260.out 0).trans rfl; have hcz54_1 : w46.cell? ⟨gb260, 1, none⟩ = some (.int .i8 t250) := (blk_cell BK260.out 1).trans rfl; have hcz54_2 : w46.cell? ⟨gb260, 2, none⟩ = some (.slice Ao41 t251.length co41) := (blk_cell BK260.out 2).trans rfl; have hcz54_3 : w46.cell? ⟨gb260, 3, none⟩ = some (.slice Ao42 t254.length co42) := (blk_cell BK260.out 3).trans rfl; have hcz54_4 : w46.cell? ⟨gb260, 4, none⟩ = some (.slice Ao43 t257.length co43) := (blk_cell BK260.out 4).trans rfl; have hfz54_0 := blk_frozen BK260.out 0; have hfz54_1 := blk_frozen BK260.out 1; have hfz54_2 := blk_frozen BK260.out 2; have hfz54_3 := blk_frozen BK260.out 3; have hfz54_4 := blk_frozen BK260.out 4) | ((with_reducible refine gate_callee (f := 61) rfl ?_); refine goesL_ (some 31) rfl rfl Try.func61 (by kernel_rfl) rfl #[.agg #[.int .i8 t249, .int .i8 t250, .slice Ao41 t251.length co41, .slice Ao42 t254.length co42, .slice Ao43 t257.length co43], .agg #[.int .i8 t261, .int .i8 t262, .slice Ao51 t263.length co51, .slice Ao52 t266.length co52, .slice Ao53 t269.length co53]] rfl (by (try simp only [List.map_toArray, List.map_cons, List.map_nil]); first | done | rfl | (simp only [List.length_drop, List.length_take]; rfl)) ?_; (with_reducible refine (impl_SameMachine.calls kj11 t249 t250 _ _ t251 _ _ t254 _ _ t257 t261 t262 _ _ t263 _ _ t266 _ _ t269 t273 _ ?side1 ?side2 ?side3 ?side4 ?side5 ?side6 ?side7 ?side8 ?side9 ?side10 ?side11 ?side12 A22.out).mono ?_); (case side1 => refine (Kd.R_reads' (e := 91) (base := w.heap.size) (ok := fun k_ => (((True ∧ some k_ ≠ (.slice Ao27 t228.length co27 : Value).ownBlock) ∧ some k_ ≠ (.slice Ao30 t239.length co30 : Value).ownBlock) ∧ some k_ ≠ (.slice Ao51 t263.length co51 : Value).ownBlock)) (n := t251.length) (c := co41) ?_).2.2; exact (by (with_reducible repeat (first | apply Kd.R_alloc | apply Kd.R_drewN | apply Kd.R_drew)); exact (Kd.R_mono (Kd.R_far (p := ⟨gb272, 4, none⟩) (Kd.R_far (p := ⟨gb272, 3, none⟩) (Kd.R_far (p := ⟨gb272, 2, none⟩) (Kd.R_far (p := ⟨gb272, 1, none⟩) (Kd.R_far (p := ⟨gb272, 0, none⟩) (Kd.R_types HO253.out BK272.out (by decide)) (fun _ hk => hk.2) (.int .i8 t261)) (fun _ hk => hk.2) (.int .i8 t262)) (fun _ hk => hk.2) (.slice Ao51 t263.length co51)) (fun _ hk => hk.2) (.slice Ao52 t266.length co52)) (fun _ hk => hk.2) (.slice Ao53 t269.length co53)) (fun _ h_ => h_.1)))); (case side2 => exact (Kd.R_reads' HO253.out).2.1); (case side3 => refine (Kd.R_reads' (e := 116) (base := w.heap.size) (ok := fun k_ => (((True ∧ some k_ ≠ (.slice Ao28 t231.length co28 : Value).ownBlock) ∧ some k_ ≠ (.slice Ao31 t242.length co31 : Value).ownBlock) ∧ some k_ ≠ (.slice Ao52 t266.length co52 : Value).ownBlock)) (n := t254.length) (c := co42) ?_).2.2; exact (by (with_reducible repeat (first | apply Kd.R_alloc | apply Kd.R_drewN | apply Kd.R_drew)); exact (Kd.R_mono (Kd.R_far (p := ⟨gb272, 4, none⟩) (Kd.R_far (p := ⟨gb272, 3, none⟩) (Kd.R_far (p := ⟨gb272, 2, none⟩) (Kd.R_far (p := ⟨gb272, 1, none⟩) (Kd.R_far (p := ⟨gb272, 0, none⟩) (Kd.R_types HO256.out BK272.out (by decide)) (fun _ hk => hk.2) (.int .i8 t261)) (fun _ hk => hk.2) (.int .i8 t262)) (fun _ hk => hk.2) (.slice Ao51 t263.length co51)) (fun _ hk => hk.2) (.slice Ao52 t266.length co52)) (fun _ hk => hk.2) (.slice Ao53 t269.length co53)) (fun _ h_ => h_.1)))); (case side4 => exact (Kd.R_reads' HO256.out).2.1); (case side5 => refine (Kd.R_reads' (e := 74) (base := w.heap.size) (ok := fun k_ => (((True ∧ some k_ ≠ (.slice Ao29 t234.length co29 : Value).ownBlock) ∧ some k_ ≠ (.slice Ao32 t245.length co32 : Value).ownBlock) ∧ some k_ ≠ (.slice Ao53 t269.length co53 : Value).ownBlock)) (n := t257.length) (c := co43) ?_).2.2; exact (by (with_reducible repeat (first | apply Kd.R_alloc | apply Kd.R_drewN | apply Kd.R_drew)); exact (Kd.R_mono (Kd.R_far (p := ⟨gb272, 4, none⟩) (Kd.R_far (p := ⟨gb272, 3, none⟩) (Kd.R_far (p := ⟨gb272, 2, none⟩) (Kd.R_far (p := ⟨gb272, 1, none⟩) (Kd.R_far (p := ⟨gb272, 0, none⟩) (Kd.R_types HO259.out BK272.out (by decide)) (fun _ hk => hk.2) (.int .i8 t261)) (fun _ hk => hk.2) (.int .i8 t262)) (fun _ hk => hk.2) (.slice Ao51 t263.length co51)) (fun _ hk => hk.2) (.slice Ao52 t266.length co52)) (fun _ hk => hk.2) (.slice Ao53 t269.length co53)) (fun _ h_ => h_.1)))); (case side6 => exact (Kd.R_reads' HO259.out).2.1); (case side7 => refine (Kd.R_reads' (e := 91) (base := w.heap.size) (ok := fun k_ => (((True ∧ some k_ ≠ (.slice Ao27 t228.length co27 : Value).ownBlock) ∧ some k_ ≠ (.slice Ao30 t239.length co30 : Value).ownBlock) ∧ some k_ ≠ (.slice Ao41 t251.length co41 : Value).ownBlock)) (n := t263.length) (c := co51) ?_).2.2; exact (by (with_reducible repeat (first | apply Kd.R_alloc | apply Kd.R_drewN | apply Kd.R_drew)); exact (Kd.R_mono (Kd.R_far (p := ⟨gb272, 4, none⟩) (Kd.R_far (p := ⟨gb272, 3, none⟩) (Kd.R_far (p := ⟨gb272, 2, none⟩) (Kd.R_far (p := ⟨gb272, 1, none⟩) (Kd.R_far (p := ⟨gb272, 0, none⟩) (Kd.R_types HO265.out BK272.out (by decide)) (fun _ hk => hk.2) (.int .i8 t261)) (fun _ hk => hk.2) (.int .i8 t262)) (fun _ hk => hk.2) (.slice Ao51 t263.length co51)) (fun _ hk => hk.2) (.slice Ao52 t266.length co52)) (fun _ hk => hk.2) (.slice Ao53 t269.length co53)) (fun _ h_ => h_.1)))); (case side8 => exact (Kd.R_reads' HO265.out).2.1); (case side9 => refine (Kd.R_reads' (e := 116) (base := w.heap.size) (ok := fun k_ => (((True ∧ some k_ ≠ (.slice Ao28 t231.length co28 : Value).ownBlock) ∧ some k_ ≠ (.slice Ao31 t242.length co31 : Value).ownBlock) ∧ some k_ ≠ (.slice Ao42 t254.length co42 : Value).ownBlock)) (n := t266.length) (c := co52) ?_).2.2; exact (by (with_reducible repeat (first | apply Kd.R_alloc | apply Kd.R_drewN | apply Kd.R_drew)); exact (Kd.R_mono (Kd.R_far (p := ⟨gb272, 4, none⟩) (Kd.R_far (p := ⟨gb272, 3, none⟩) (Kd.R_far (p := ⟨gb272, 2, none⟩) (Kd.R_far (p := ⟨gb272, 1, none⟩) (Kd.R_far (p := ⟨gb272, 0, none⟩) (Kd.R_types HO268.out BK272.out (by decide)) (fun _ hk => hk.2) (.int .i8 t261)) (fun _ hk => hk.2) (.int .i8 t262)) (fun _ hk => hk.2) (.slice Ao51 t263.length co51)) (fun _ hk => hk.2) (.slice Ao52 t266.length co52)) (fun _ hk => hk.2) (.slice Ao53 t269.length co53)) (fun _ h_ => h_.1)))); (case side10 => exact (Kd.R_reads' HO268.out).2.1); (case side11 => refine (Kd.R_reads' (e := 74) (base := w.heap.size) (ok := fun k_ => (((True ∧ some k_ ≠ (.slice Ao29 t234.length co29 : Value).ownBlock) ∧ some k_ ≠ (.slice Ao32 t245.length co32 : Value).ownBlock) ∧ some k_ ≠ (.slice Ao43 t257.length co43 : Value).ownBlock)) (n := t269.length) (c := co53) ?_).2.2; exact (by (with_reducible repeat (first | apply Kd.R_alloc | apply Kd.R_drewN | apply Kd.R_drew)); exact (Kd.R_mono (Kd.R_far (p := ⟨gb272, 4, none⟩) (Kd.R_far (p := ⟨gb272, 3, none⟩) (Kd.R_far (p := ⟨gb272, 2, none⟩) (Kd.R_far (p := ⟨gb272, 1, none⟩) (Kd.R_far (p := ⟨gb272, 0, none⟩) (Kd.R_types HO271.out BK272.out (by decide)) (fun _ hk => hk.2) (.int .i8 t261)) (fun _ hk => hk.2) (.int .i8 t262)) (fun _ hk => hk.2) (.slice Ao51 t263.length co51)) (fun _ hk => hk.2) (.slice Ao52 t266.length co52)) (fun _ hk => hk.2) (.slice Ao53 t269.length co53)) (fun _ h_ => h_.1)))); (case side12 => exact (Kd.R_reads' HO271.out).2.1); rintro e w55 ⟨rfl, hb⟩; refine ⟨_, rfl, ?_⟩; have n0_ := Aside0.mk (Kd.R_below (by (with_reducible repeat (first | apply Kd.R_alloc | apply Kd.R_drewN | apply Kd.R_drew)); exact (Kd.R_mono (Kd.R_far (p := ⟨gb272, 4, none⟩) (Kd.R_far (p := ⟨gb272, 3, none⟩) (Kd.R_far (p := ⟨gb272, 2, none⟩) (Kd.R_far (p := ⟨gb272, 1, none⟩) (Kd.R_far (p := ⟨gb272, 0, none⟩) (Kd.R_types HO230.out BK272.out (by decide)) (fun _ hk => hk.2) (.int .i8 t261)) (fun _ hk => hk.2) (.int .i8 t262)) (fun _ hk => hk.2) (.slice Ao51 t263.length co51)) (fun _ hk => hk.2) (.slice Ao52 t266.length co52)) (fun _ hk => hk.2) (.slice Ao53 t269.length co53)) (fun _ h_ => h_.1))) hb); have n1_ := Aside0.mk (Kd.R_below (by (with_reducible repeat (first | apply Kd.R_alloc | apply Kd.R_drewN | apply Kd.R_drew)); exact (Kd.R_mono (Kd.R_far (p := ⟨gb272, 4, none⟩) (Kd.R_far (p := ⟨gb272, 3, none⟩) (Kd.R_far (p := ⟨gb272, 2, none⟩) (Kd.R_far (p := ⟨gb272, 1, none⟩) (Kd.R_far (p := ⟨gb272, 0, none⟩) (Kd.R_types HO233.out BK272.out (by decide)) (fun _ hk => hk.2) (.int .i8 t261)) (fun _ hk => hk.2) (.int .i8 t262)) (fun _ hk => hk.2) (.slice Ao51 t263.length co51)) (fun _ hk => hk.2) (.slice Ao52 t266.length co52)) (fun _ hk => hk.2) (.slice Ao53 t269.length co53)) (fun _ h_ => h_.1))) hb); have n2_ := Aside0.mk (Kd.R_below (by (with_reducible repeat (first | apply Kd.R_alloc | apply Kd.R_drewN | apply Kd.R_drew)); exact (Kd.R_mono (Kd.R_far (p := ⟨gb272, 4, none⟩) (Kd.R_far (p := ⟨gb272, 3, none⟩) (Kd.R_far (p := ⟨gb272, 2, none⟩) (Kd.R_far (p := ⟨gb272, 1, none⟩) (Kd.R_far (p := ⟨gb272, 0, none⟩) (Kd.R_types HO236.out BK272.out (by decide)) (fun _ hk => hk.2) (.int .i8 t261)) (fun _ hk => hk.2) (.int .i8 t262)) (fun _ hk => hk.2) (.slice Ao51 t263.length co51)) (fun _ hk => hk.2) (.slice Ao52 t266.length co52)) (fun _ hk => hk.2) (.slice Ao53 t269.length co53)) (fun _ h_ => h_.1))) hb); have n3_ := Aside0.mk (Kd.R_below (by (with_reducible repeat (first | apply Kd.R_alloc | apply Kd.R_drewN | apply Kd.R_drew)); exact (Kd.R_mono (Kd.R_far (p := ⟨gb272, 4, none⟩) (Kd.R_far (p := ⟨gb272, 3, none⟩) (Kd.R_far (p := ⟨gb272, 2, none⟩) (Kd.R_far (p := ⟨gb272, 1, none⟩) (Kd.R_far (p := ⟨gb272, 0, none⟩) (Kd.R_types HO241.out BK272.out (by decide)) (fun _ hk => hk.2) (.int .i8 t261)) (fun _ hk => hk.2) (.int .i8 t262)) (fun _ hk => hk.2) (.slice Ao51 t263.length co51)) (fun _ hk => hk.2) (.slice Ao52 t266.length co52)) (fun _ hk => hk.2) (.slice Ao53 t269.length co53)) (fun _ h_ => h_.1))) hb); have n4_ := Aside0.mk (Kd.R_below (by (with_reducible repeat (first | apply Kd.R_alloc | apply Kd.R_drewN | apply Kd.R_drew)); exact (Kd.R_mono (Kd.R_far (p := ⟨gb272, 4, none⟩) (Kd.R_far (p := ⟨gb272, 3, none⟩) (Kd.R_far (p := ⟨gb272, 2, none⟩) (Kd.R_far (p := ⟨gb272, 1, none⟩) (Kd.R_far (p := ⟨gb272, 0, none⟩) (Kd.R_types HO244.out BK272.out (by decide)) (fun _ hk => hk.2) (.int .i8 t261)) (fun _ hk => hk.2) (.int .i8 t262)) (fun _ hk => hk.2) (.slice Ao51 t263.length co51)) (fun _ hk => hk.2) (.slice Ao52 t266.length co52)) (fun _ hk => hk.2) (.slice Ao53 t269.length co53)) (fun _ h_ => h_.1))) hb); have n5_ := Aside0.mk (Kd.R_below (by (with_reducible repeat (first | apply Kd.R_alloc | apply Kd.R_drewN | apply Kd.R_drew)); exact (Kd.R_mono (Kd.R_far (p := ⟨gb272, 4, none⟩) (Kd.R_far (p := ⟨gb272, 3, none⟩) (Kd.R_far (p := ⟨gb272, 2, none⟩) (Kd.R_far (p := ⟨gb272, 1, none⟩) (Kd.R_far (p := ⟨gb272, 0, none⟩) (Kd.R_types HO247.out BK272.out (by decide)) (fun _ hk => hk.2) (.int .i8 t261)) (fun _ hk => hk.2) (.int .i8 t262)) (fun _ hk => hk.2) (.slice Ao51 t263.length co51)) (fun _ hk => hk.2) (.slice Ao52 t266.length co52)) (fun _ hk => hk.2) (.slice Ao53 t269.length co53)) (fun _ h_ => h_.1))) hb); have n6_ := Aside0.mk (Kd.R_below (by (with_reducible repeat (first | apply Kd.R_alloc | apply Kd.R_drewN | apply Kd.R_drew)); exact (Kd.R_mono (Kd.R_far (p := ⟨gb272, 4, none⟩) (Kd.R_far (p := ⟨gb272, 3, none⟩) (Kd.R_far (p := ⟨gb272, 2, none⟩) (Kd.R_far (p := ⟨gb272, 1, none⟩) (Kd.R_far (p := ⟨gb272, 0, none⟩) (Kd.R_types HO253.out BK272.out (by decide)) (fun _ hk => hk.2) (.int .i8 t261)) (fun _ hk => hk.2) (.int .i8 t262)) (fun _ hk => hk.2) (.slice Ao51 t263.length co51)) (fun _ hk => hk.2) (.slice Ao52 t266.length co52)) (fun _ hk => hk.2) (.slice Ao53 t269.length co53)) (fun _ h_ => h_.1))) hb); have n7_ := Aside0.mk (Kd.R_below (by (with_reducible repeat (first | apply Kd.R_alloc | apply Kd.R_drewN | apply Kd.R_drew)); exact (Kd.R_mono (Kd.R_far (p := ⟨gb272, 4, none⟩) (Kd.R_far (p := ⟨gb272, 3, none⟩) (Kd.R_far (p := ⟨gb272, 2, none⟩) (Kd.R_far (p := ⟨gb272, 1, none⟩) (Kd.R_far (p := ⟨gb272, 0, none⟩) (Kd.R_types HO256.out BK272.out (by decide)) (fun _ hk => hk.2) (.int .i8 t261)) (fun _ hk => hk.2) (.int .i8 t262)) (fun _ hk => hk.2) (.slice Ao51 t263.length co51)) (fun _ hk => hk.2) (.slice Ao52 t266.length co52)) (fun _ hk => hk.2) (.slice Ao53 t269.length co53)) (fun _ h_ => h_.1))) hb); have n8_ := Aside0.mk (Kd.R_below (by (with_reducible repeat (first | apply Kd.R_alloc | apply Kd.R_drewN | apply Kd.R_drew)); exact (Kd.R_mono (Kd.R_far (p := ⟨gb272, 4, none⟩) (Kd.R_far (p := ⟨gb272, 3, none⟩) (Kd.R_far (p := ⟨gb272, 2, none⟩) (Kd.R_far (p := ⟨gb272, 1, none⟩) (Kd.R_far (p := ⟨gb272, 0, none⟩) (Kd.R_types HO259.out BK272.out (by decide)) (fun _ hk => hk.2) (.int .i8 t261)) (fun _ hk => hk.2) (.int .i8 t262)) (fun _ hk => hk.2) (.slice Ao51 t263.length co51)) (fun _ hk => hk.2) (.slice Ao52 t266.length co52)) (fun _ hk => hk.2) (.slice Ao53 t269.length co53)) (fun _ h_ => h_.1))) hb); have n9_ := Aside0.mk (Kd.R_below (by (with_reducible repeat (first | apply Kd.R_alloc | apply Kd.R_drewN | apply Kd.R_drew)); exact (Kd.R_mono (Kd.R_far (p := ⟨gb272, 4, none⟩) (Kd.R_far (p := ⟨gb272, 3, none⟩) (Kd.R_far (p := ⟨gb272, 2, none⟩) (Kd.R_far (p := ⟨gb272, 1, none⟩) (Kd.R_far (p := ⟨gb272, 0, none⟩) (Kd.R_types HO265.out BK272.out (by decide)) (fun _ hk => hk.2) (.int .i8 t261)) (fun _ hk => hk.2) (.int .i8 t262)) (fun _ hk => hk.2) (.slice Ao51 t263.length co51)) (fun _ hk => hk.2) (.slice Ao52 t266.length co52)) (fun _ hk => hk.2) (.slice Ao53 t269.length co53)) (fun _ h_ => h_.1))) hb); have n10_ := Aside0.mk (Kd.R_below (by (with_reducible repeat (first | apply Kd.R_alloc | apply Kd.R_drewN | apply Kd.R_drew)); exact (Kd.R_mono (Kd.R_far (p := ⟨gb272, 4, none⟩) (Kd.R_far (p := ⟨gb272, 3, none⟩) (Kd.R_far (p := ⟨gb272, 2, none⟩) (Kd.R_far (p := ⟨gb272, 1, none⟩) (Kd.R_far (p := ⟨gb272, 0, none⟩) (Kd.R_types HO268.out BK272.out (by decide)) (fun _ hk => hk.2) (.int .i8 t261)) (fun _ hk => hk.2) (.int .i8 t262)) (fun _ hk => hk.2) (.slice Ao51 t263.length co51)) (fun _ hk => hk.2) (.slice Ao52 t266.length co52)) (fun _ hk => hk.2) (.slice Ao53 t269.length co53)) (fun _ h_ => h_.1))) hb); have n11_ := Aside0.mk (Kd.R_below (by (with_reducible repeat (first | apply Kd.R_alloc | apply Kd.R_drewN | apply Kd.R_drew)); exact (Kd.R_mono (Kd.R_far (p := ⟨gb272, 4, none⟩) (Kd.R_far (p := ⟨gb272, 3, none⟩) (Kd.R_far (p := ⟨gb272, 2, none⟩) (Kd.R_far (p := ⟨gb272, 1, none⟩) (Kd.R_far (p := ⟨gb272, 0, none⟩) (Kd.R_types HO271.out BK272.out (by decide)) (fun _ hk => hk.2) (.int .i8 t261)) (fun _ hk => hk.2) (.int .i8 t262)) (fun _ hk => hk.2) (.slice Ao51 t263.length co51)) (fun _ hk => hk.2) (.slice Ao52 t266.length co52)) (fun _ hk => hk.2) (.slice Ao53 t269.length co53)) (fun _ h_ => h_.1))) hb); have n12_ := Aside0.mk (blk_below (g := gb222) (o := .cells #[.int .i8 a0_0, .int .i8 a0_1, .slice A0_2 l0_2.length c0_2, .slice A0_3 l0_3.length c0_3, .slice A0_4 l0_4.length c0_4] 29 (0, 0)) (by (with_reducible repeat (first | refine blk_drewN ?_ _ | refine blk_drew ?_ | refine blk_alloc ?_ _)); refine blk_far ?_ NB222_272.out _; (with_reducible repeat (first | refine blk_drewN ?_ _ | refine blk_drew ?_ | refine blk_alloc ?_ _)); refine blk_far ?_ NB222_272.out _; (with_reducible repeat (first | refine blk_drewN ?_ _ | refine blk_drew ?_ | refine blk_alloc ?_ _)); refine blk_far ?_ NB222_272.out _; (with_reducible repeat (first | refine blk_drewN ?_ _ | refine blk_drew ?_ | refine blk_alloc ?_ _)); refine blk_far ?_ NB222_272.out _; (with_reducible repeat (first | refine blk_drewN ?_ _ | refine blk_drew ?_ | refine blk_alloc ?_ _)); refine blk_far ?_ NB222_272.out _; (with_reducible repeat (first | refine blk_drewN ?_ _ | refine blk_drew ?_ | refine blk_alloc ?_ _)); exact BK222.out) hb); have n13_ := Aside0.mk (blk_below (g := gb223) (o := .cells #[.int .i8 a1_0, .int .i8 a1_1, .slice A1_2 l1_2.length c1_2, .slice A1_3 l1_3.length c1_3, .slice A1_4 l1_4.length c1_4] 29 (0, 0)) (by (with_reducible repeat (first | refine blk_drewN ?_ _ | refine blk_drew ?_ | refine blk_alloc ?_ _)); refine blk_far ?_ NB223_272.out _; (with_reducible repeat (first | refine blk_drewN ?_ _ | refine blk_drew ?_ | refine blk_alloc ?_ _)); refine blk_far ?_ NB223_272.out _; (with_reducible repeat (first | refine blk_drewN ?_ _ | refine blk_drew ?_ | refine blk_alloc ?_ _)); refine blk_far ?_ NB223_272.out _; (with_reducible repeat (first | refine blk_drewN ?_ _ | refine blk_drew ?_ | refine blk_alloc ?_ _)); refine blk_far ?_ NB223_272.out _; (with_reducible repeat (first | refine blk_drewN ?_ _ | refine blk_drew ?_ | refine blk_alloc ?_ _)); refine blk_far ?_ NB223_272.out _; (with_reducible repeat (first | refine blk_drewN ?_ _ | refine blk_drew ?_ | refine blk_alloc ?_ _)); exact BK223.out) hb); have n14_ := Aside0.mk (blk_below (g := gb260) (o := .cells #[.int .i8 t249, .int .i8 t250, .slice Ao41 t251.length co41, .slice Ao42 t254.length co42, .slice Ao43 t257.length co43] 41 (0, 0)) (by (with_reducible repeat (first | refine blk_drewN ?_ _ | refine blk_drew ?_ | refine blk_alloc ?_ _)); refine blk_far ?_ NB260_272.out _; (with_reducible repeat (first | refine blk_drewN ?_ _ | refine blk_drew ?_ | refine blk_alloc ?_ _)); refine blk_far ?_ NB260_272.out _; (with_reducible repeat (first | refine blk_drewN ?_ _ | refine blk_drew ?_ | refine blk_alloc ?_ _)); refine blk_far ?_ NB260_272.out _; (with_reducible repeat (first | refine blk_drewN ?_ _ | refine blk_drew ?_ | refine blk_alloc ?_ _)); refine blk_far ?_ NB260_272.out _; (with_reducible repeat (first | refine blk_drewN ?_ _ | refine blk_drew ?_ | refine blk_alloc ?_ _)); refine blk_far ?_ NB260_272.out _; (with_reducible repeat (first | refine blk_drewN ?_ _ | refine blk_drew ?_ | refine blk_alloc ?_ _)); exact BK260.out) hb); have n15_ := Aside0.mk (blk_below (g := gb272) (o := .cells #[.int .i8 t261, .int .i8 t262, .slice Ao51 t263.length co51, .slice Ao52 t266.length co52, .slice Ao53 t269.length co53] 41 (0, 0)) (by (with_reducible repeat (first | refine blk_drewN ?_ _ | refine blk_drew ?_ | refine blk_alloc ?_ _)); refine blk_put (cs := #[.int .i8 t261, .int .i8 t262, .slice Ao51 t263.length co51, .slice Ao52 t266.length co52, .slice none 0 0]) ?_ 4 _ rfl; (with_reducible repeat (first | refine blk_drewN ?_ _ | refine blk_drew ?_ | refine blk_alloc ?_ _)); refine blk_put (cs := #[.int .i8 t261, .int .i8 t262, .slice Ao51 t263.length co51, .slice none 0 0, .slice none 0 0]) ?_ 3 _ rfl; (with_reducible repeat (first | refine blk_drewN ?_ _ | refine blk_drew ?_ | refine blk_alloc ?_ _)); refine blk_put (cs := #[.int .i8 t261, .int .i8 t262, .slice none 0 0, .slice none 0 0, .slice none 0 0]) ?_ 2 _ rfl; (with_reducible repeat (first | refine blk_drewN ?_ _ | refine blk_drew ?_ | refine blk_alloc ?_ _)); refine blk_put (cs := #[.int .i8 t261, .int .i8 0, .slice none 0 0, .slice none 0 0, .slice none 0 0]) ?_ 1 _ rfl; (with_reducible repeat (first | refine blk_drewN ?_ _ | refine blk_drew ?_ | refine blk_alloc ?_ _)); refine blk_put (cs := #[.int .i8 0, .int .i8 0, .slice none 0 0, .slice none 0 0, .slice none 0 0]) ?_ 0 _ rfl; (with_reducible repeat (first | refine blk_drewN ?_ _ | refine blk_drew ?_ | refine blk_alloc ?_ _)); exact BK272.out) hb); have n16_ := Aside0.mk (below_step (by repeat (first | (with_reducible first | exact HB.out | apply below_alloc | apply pw_below_drewN | apply below_drew1 | refine below_set ?_ GE222.out | refine below_set ?_ GE223.out | refine below_set ?_ GE260.out | refine below_set ?_ GE272.out) | exact HB.out)) hb); clear HO230; clear HO233; clear HO236; clear HO241; clear HO244; clear HO247; clear HO253; clear HO256; clear HO259; clear HO265; clear HO268; clear HO271; clear BK222; clear BK223; clear BK260; clear BK272; clear HB; have HO230 := n0_; have HO233 := n1_; have HO236 := n2_; have HO241 := n3_; have HO244 := n4_; have HO247 := n5_; have HO253 := n6_; have HO256 := n7_; have HO259 := n8_; have HO265 := n9_; have HO268 := n10_; have HO271 := n11_; have BK222 := n12_; have BK223 := n13_; have BK260 := n14_; have BK272 := n15_; have HB := n16_; clear n0_ n1_ n2_ n3_ n4_ n5_ n6_ n7_ n8_ n9_ n10_ n11_ n12_ n13_ n14_ n15_ n16_; (try clear hb); (try clear hb2); (try clear hk); (try clear hi)))
     (try simp only [Act.put, List.setIfInBounds_toArray, List.set_cons_zero, List.set_cons_succ])
     go_cut [] (fun wc => ∃ (kq : Nat), Aside0 (laws_FnExactSameMachine.j2 kq a0_0 a0_1 l0_2 l0_3 l0_4 a1_0 a1_1 l1_2 l1_3 l1_4 t249 t250 t251 t254 t257 t261 t262 t263 t266 t269 = some r) ∧ Aside0 (kq ≤ kj11) ∧ Aside0 (Kd.R k91 91 wc w.heap.size (fun k_ => some k_ ≠ ((.slice Ao51 t263.length co51) : Value).ownBlock) (.slice Ao41 t251.length co41) t251) ∧ Aside0 (Kd.R k116 116 wc w.heap.size (fun k_ => some k_ ≠ ((.slice Ao52 t266.length co52) : Value).ownBlock) (.slice Ao42 t254.length co42) t254) ∧ Aside0 (Kd.R k74 74 wc w.heap.size (fun k_ => some k_ ≠ ((.slice Ao53 t269.length co53) : Value).ownBlock) (.slice Ao43 t257.length co43) t257) ∧ Aside0 (Kd.R k91 91 wc w.heap.size (fun k_ => some k_ ≠ ((.slice Ao41 t251.length co41) : Value).ownBlock) (.slice Ao51 t263.length co51) t263) ∧ Aside0 (Kd.R k116 116 wc w.heap.size (fun k_ => some k_ ≠ ((.slice Ao42 t254.length co42) : Value).ownBlock) (.slice Ao52 t266.length co52) t266) ∧ Aside0 (Kd.R k74 74 wc w.heap.size (fun k_ => some k_ ≠ ((.slice Ao43 t257.length co43) : Value).ownBlock) (.slice Ao53 t269.length co53) t269) ∧ Aside0 (wc.heap[gb222]? = some (.cells #[.int .i8 a0_0, .int .i8 a0_1, (.slice A0_2 l0_2.length c0_2), (.slice A0_3 l0_3.length c0_3), (.slice A0_4 l0_4.length c0_4)] 29 (0, 0))) ∧ Aside0 (wc.heap[gb223]? = some (.cells #[.int .i8 a1_0, .int .i8 a1_1, (.slice A1_2 l1_2.length c1_2), (.slice A1_3 l1_3.length c1_3), (.slice A1_4 l1_4.length c1_4)] 29 (0, 0))) ∧ Aside0 (wc.heap[gb260]? = some (.cells #[.int .i8 t249, .int .i8 t250, (.slice Ao41 t251.length co41), (.slice Ao42 t254.length co42), (.slice Ao43 t257.length co43)] 41 (0, 0))) ∧ Aside0 (wc.heap[gb272]? = some (.cells #[.int .i8 t261, .int .i8 t262, (.slice Ao51 t263.length co51), (.slice Ao52 t266.length co52), (.slice Ao53 t269.length co53)] 41 (0, 0))) ∧ Aside0 (Below w.heap.size w wc))
     case first =>
      have H := HC23.out
      clear HC23
      by_cases c56 : (t273 != t248) = true
      ·rw [if_pos c56] at H
       have c56b0 : (t273 != t248) = true := c56
       (try (have c56b1 : decide (t273 = t248) = false := by first | (simpa using c56) | (have h_ := c56; revert h_; cases t273 <;> cases t248 <;> decide)))
       (try (have c56b2 : (t273 == t248) = false := by first | (simpa using c56) | (have h_ := c56; revert h_; cases t273 <;> cases t248 <;> decide)))
       (try (have c56b3 : ¬ (t273 = t248) := by simpa using c56))
       clear c56
       (first | rw [c56b0] | (simp only [i64_w, i32_w]; rw [c56b0]) | (have h_ := c56b0; simp only [bne] at h_; rw [h_]) | skip)
       obtain rfl := Option.some.inj H
       go_wp2
       go_ret
       exact ⟨by first | rfl | (simp [errW_none, errW_some] <;> rfl) | (simp [*, errW_none, errW_some] <;> rfl), by repeat (first | (with_reducible first | exact HB.out | apply below_alloc | apply pw_below_drewN | apply below_drew1 | refine below_set ?_ GE222.out | refine below_set ?_ GE223.out | refine below_set ?_ GE260.out | refine below_set ?_ GE272.out) | exact HB.out)⟩
      ·rw [if_neg c56] at H
       have c56b0 : (t273 != t248) = false := by simpa using c56
       (try (have c56b1 : decide (t273 = t248) = true := by first | (simpa using c56) | (have h_ := c56; revert h_; cases t273 <;> cases t248 <;> decide)))
       (try (have c56b2 : (t273 == t248) = true := by first | (simpa using c56) | (have h_ := c56; revert h_; cases t273 <;> cases t248 <;> decide)))
       clear c56
       (first | rw [c56b0] | (simp only [i64_w, i32_w]; rw [c56b0]) | (have h_ := c56b0; simp only [bne] at h_; rw [h_]) | skip)
       have H' := Aside0.mk H
       clear H
       go_wp2
       go_meet
       case rel => exact ⟨_, H', ⟨by have := HJ3.out; have := HJ11.out; first | omega | exact Nat.le_refl _⟩, ⟨by (with_reducible repeat (first | apply Kd.R_alloc | apply Kd.R_drewN | apply Kd.R_drew)); exact Kd.R_mono HO253.out (fun _ hk => hk.2)⟩, ⟨by (with_reducible repeat (first | apply Kd.R_alloc | apply Kd.R_drewN | apply Kd.R_drew)); exact Kd.R_mono HO256.out (fun _ hk => hk.2)⟩, ⟨by (with_reducible repeat (first | apply Kd.R_alloc | apply Kd.R_drewN | apply Kd.R_drew)); exact Kd.R_mono HO259.out (fun _ hk => hk.2)⟩, ⟨by (with_reducible repeat (first | apply Kd.R_alloc | apply Kd.R_drewN | apply Kd.R_drew)); exact Kd.R_mono HO265.out (fun _ hk => hk.2)⟩, ⟨by (with_reducible repeat (first | apply Kd.R_alloc | apply Kd.R_drewN | apply Kd.R_drew)); exact Kd.R_mono HO268.out (fun _ hk => hk.2)⟩, ⟨by (with_reducible repeat (first | apply Kd.R_alloc | apply Kd.R_drewN | apply Kd.R_drew)); exact Kd.R_mono HO271.out (fun _ hk => hk.2)⟩, ⟨by (with_reducible repeat (first | refine blk_drewN ?_ _ | refine blk_drew ?_ | refine blk_alloc ?_ _)); exact BK222.out⟩, ⟨by (with_reducible repeat (first | refine blk_drewN ?_ _ | refine blk_drew ?_ | refine blk_alloc ?_ _)); exact BK223.out⟩, ⟨by (with_reducible repeat (first | refine blk_drewN ?_ _ | refine blk_drew ?_ | refine blk_alloc ?_ _)); exact BK260.out⟩, ⟨by (with_reducible repeat (first | refine blk_drewN ?_ _ | refine blk_drew ?_ | refine blk_alloc ?_ _)); exact BK272.out⟩, ⟨by repeat (first | (with_reducible first | exact HB.out | apply below_alloc | apply pw_below_drewN | apply below_drew1 | refine below_set ?_ GE222.out | refine below_set ?_ GE223.out | refine below_set ?_ GE260.out | refine below_set ?_ GE272.out) | exact HB.out)⟩⟩
     case rest =>
      clear HC23
      try clear c1
      try clear c2
      try clear p2
      try clear c3
      try clear c4
      try clear c5
      try clear c6
      try clear c7
      try clear c10
      try clear c10b0
      try clear c12
      try clear c13
      try clear c16
      try clear c16b0
      try clear c21
      try clear c23
      try clear c34
      try clear c38
      try clear c39
      try clear c47
      try clear c48
      try clear c49
      try clear c56
      try clear c56b0
      try clear c56b1
      try clear c56b2
      try clear hcz14_0
      try clear hcz14_1
      try clear hcz14_2
      try clear hcz14_3
      try clear hcz14_4
      try clear hcz35_0
      try clear hcz35_1
      try clear hcz35_2
      try clear hcz35_3
      try clear hcz35_4
      try clear hcz40_0
      try clear hcz40_1
      try clear hcz40_2
      try clear hcz40_3
      try clear hcz40_4
      try clear hcz44_0
      try clear hcz44_1
      try clear hcz44_2
      try clear hcz44_3
      try clear hcz44_4
      try clear hcz50_0
      try clear hcz50_1
      try clear hcz50_2
      try clear hcz50_3
      try clear hcz50_4
      try clear hcz54_0
      try clear hcz54_1
      try clear hcz54_2
      try clear hcz54_3
      try clear hcz54_4
      try clear hcz8_0
      try clear hcz8_1
      try clear hcz8_2
      try clear hcz8_3
      try clear hcz8_4
      try clear hfz14_0
      try clear hfz14_1
      try clear hfz14_2
      try clear hfz14_3
      try clear hfz14_4
      try clear hfz35_0
      try clear hfz35_1
      try clear hfz35_2
      try clear hfz35_3
      try clear hfz35_4
      try clear hfz40_0
      try clear hfz40_1
      try clear hfz40_2
      try clear hfz40_3
      try clear hfz40_4
      try clear hfz44_0
      try clear hfz44_1
      try clear hfz44_2
      try clear hfz44_3
      try clear hfz44_4
      try clear hfz50_0
      try clear hfz50_1
      try clear hfz50_2
      try clear hfz50_3
      try clear hfz50_4
      try clear hfz54_0
      try clear hfz54_1
      try clear hfz54_2
      try clear hfz54_3
      try clear hfz54_4
      try clear hfz8_0
      try clear hfz8_1
      try clear hfz8_2
      try clear hfz8_3
      try clear hfz8_4
      try clear p2
      obtain ⟨kq, HA, HJ22, HO_261002, HO_261003, HO_261004, HO_273002, HO_273003, HO_273004, BK222, BK223, BK260, BK272, HB⟩ := hcut
      cases kq with
      | zero => exact absurd HA.out (by simp [laws_FnExactSameMachine.j2])
      | succ kj22 =>
       have H := HA.out
       clear HA
       simp only [laws_FnExactSameMachine.j2] at H
       replace H := Option.bind_eq_some_iff.mp H
       obtain ⟨⟨t274, t275, t276, t279, t282⟩, A570, H⟩ := H
       replace H : ((laws_eqMachine.f kj22 t249 t250 t251 t254 t257 t274 t275 t276 t279 t282).bind fun t285 => (if t285 = true then (laws_FnExactSameMachine.j3 kj22 a1_0 a1_1 l1_2 l1_3 l1_4 t261 t262 t263 t266 t269) else (some false))) = some r := H
       have A57 := Aside0.mk A570
       clear A570
       replace H := Option.bind_eq_some_iff.mp H
       obtain ⟨t285, A580, H⟩ := H
       replace H : (if t285 = true then (laws_FnExactSameMachine.j3 kj22 a1_0 a1_1 l1_2 l1_3 l1_4 t261 t262 t263 t266 t269) else (some false)) = some r := H
       have A58 := Aside0.mk A580
       clear A580
       have HC59 := Aside0.mk H
       clear H
       try go_wp2
       have n0_ := Aside0.mk (Kd.R_drew HO_261002.out)
       have n1_ := Aside0.mk (Kd.R_drew HO_261003.out)
       have n2_ := Aside0.mk (Kd.R_drew HO_261004.out)
       have n3_ := Aside0.mk (Kd.R_drew HO_273002.out)
       have n4_ := Aside0.mk (Kd.R_drew HO_273003.out)
       have n5_ := Aside0.mk (Kd.R_drew HO_273004.out)
       have n6_ := Aside0.mk (blk_drew BK222.out)
       have n7_ := Aside0.mk (blk_drew BK223.out)
       have n8_ := Aside0.mk (blk_drew BK260.out)
       have n9_ := Aside0.mk (blk_drew BK272.out)
       have n10_ := Aside0.mk (below_drew1 HB.out)
       clear HO_261002
       clear HO_261003
       clear HO_261004
       clear HO_273002
       clear HO_273003
       clear HO_273004
       clear BK222
       clear BK223
       clear BK260
       clear BK272
       clear HB
       have HO_261002 := n0_
       have HO_261003 := n1_
       have HO_261004 := n2_
       have HO_273002 := n3_
       have HO_273003 := n4_
       have HO_273004 := n5_
       have BK222 := n6_
       have BK223 := n7_
       have BK260 := n8_
       have BK272 := n9_
       have HB := n10_
       clear n0_ n1_ n2_ n3_ n4_ n5_ n6_ n7_ n8_ n9_ n10_
       refine start_ (n := 5) (S := fun w' => w'.cell? ⟨gb260, 0, none⟩ = some (.int .i8 t249) ∧ w'.cell? ⟨gb260, 1, none⟩ = some (.int .i8 t250) ∧ w'.cell? ⟨gb260, 2, none⟩ = some (.slice Ao41 t251.length co41) ∧ w'.cell? ⟨gb260, 3, none⟩ = some (.slice Ao42 t254.length co42) ∧ w'.cell? ⟨gb260, 4, none⟩ = some (.slice Ao43 t257.length co43) ∧ w'.cell? ⟨gb222, 0, none⟩ = some (.int .i8 a0_0) ∧ w'.cell? ⟨gb222, 1, none⟩ = some (.int .i8 a0_1) ∧ w'.cell? ⟨gb222, 2, none⟩ = some (.slice A0_2 l0_2.length c0_2) ∧ w'.cell? ⟨gb222, 3, none⟩ = some (.slice A0_3 l0_3.length c0_3) ∧ w'.cell? ⟨gb222, 4, none⟩ = some (.slice A0_4 l0_4.length c0_4)) (ds := []) #[false, false, false, false, false] (by kernel_rfl) rfl rfl ⟨(blk_cell BK260.out 0).trans rfl, (blk_cell BK260.out 1).trans rfl, (blk_cell BK260.out 2).trans rfl, (blk_cell BK260.out 3).trans rfl, (blk_cell BK260.out 4).trans rfl, (blk_cell BK222.out 0).trans rfl, (blk_cell BK222.out 1).trans rfl, (blk_cell BK222.out 2).trans rfl, (blk_cell BK222.out 3).trans rfl, (blk_cell BK222.out 4).trans rfl⟩ (fun hHeld => ?_)
       generalize wc.drew = w60 at HO_261002 HO_261003 HO_261004 HO_273002 HO_273003 HO_273004 BK222 BK223 BK260 BK272 HB hHeld ⊢
       refine take_ (i := 0) (N := some 35) (v := ?_) (a' := ?_) #[true, false, false, false, false] rfl rfl (by kernel_rfl) (fun _ _ _ h => h) (Or.inl ⟨by rfl, ?_⟩) hHeld ?_ ?_
       rotate_left
       ·rintro w' ⟨s0, s1, s2, s3, s4, s5, s6, s7, s8, s9⟩
        go_simp
        with_reducible rfl
       rotate_left
       ·simp only [Act.put, List.setIfInBounds_toArray, List.set_cons_zero, List.set_cons_succ, i64_w, i32_w]
        rfl
       refine take_ (i := 1) (N := some 36) (v := ?_) (a' := ?_) #[true, true, false, false, false] rfl rfl (by kernel_rfl) (fun _ _ _ h => h) (Or.inl ⟨by rfl, ?_⟩) hHeld ?_ ?_
       rotate_left
       ·rintro w' ⟨s0, s1, s2, s3, s4, s5, s6, s7, s8, s9⟩
        go_simp
        with_reducible rfl
       rotate_left
       ·simp only [Act.put, List.setIfInBounds_toArray, List.set_cons_zero, List.set_cons_succ, i64_w, i32_w]
        rfl
       refine one_ (i := 2) (N := some 37) #[true, true, true, false, false] rfl rfl (by kernel_rfl) (by decide) (fun K hK => ?_)
       refine goes_ Try.func23 (by kernel_rfl) rfl #[.agg #[.int .i8 a0_0, .int .i8 a0_1, .slice A0_2 l0_2.length c0_2, .slice A0_3 l0_3.length c0_3, .slice A0_4 l0_4.length c0_4]] (by rfl) rfl rfl (by (try simp only [List.map_toArray, List.map_cons, List.map_nil]); first | done | rfl | (simp only [List.length_drop, List.length_take]; rfl)) ?_
       with_reducible refine (laws_toMachine.calls kj22 a0_0 a0_1 _ _ l0_2 _ _ l0_3 _ _ l0_4 t274 t275 t276 t279 t282 _ ?side1 ?side2 ?side3 ?side4 ?side5 ?side6 A57.out).mono ?_
       (case side1 => repeat (first | exact (Kd.C_below HR0_2.out HB.out) | (with_reducible refine Kd.C_alloc ?_ _) | (with_reducible refine Kd.C_drewN ?_ _) | (with_reducible refine Kd.C_drew ?_)))
       (case side2 => exact HC0_2.out)
       (case side3 => repeat (first | exact (Kd.C_below HR0_3.out HB.out) | (with_reducible refine Kd.C_alloc ?_ _) | (with_reducible refine Kd.C_drewN ?_ _) | (with_reducible refine Kd.C_drew ?_)))
       (case side4 => exact HC0_3.out)
       (case side5 => repeat (first | exact (Kd.C_below HR0_4.out HB.out) | (with_reducible refine Kd.C_alloc ?_ _) | (with_reducible refine Kd.C_drewN ?_ _) | (with_reducible refine Kd.C_drew ?_)))
       (case side6 => exact HC0_4.out)
       rintro e w61 ⟨v277, v280, v283, rfl, ho0, ho1, ho2, hb⟩
       refine ⟨_, rfl, ?_⟩
       have n0_ := Aside0.mk (Kd.R_elder' (by (with_reducible repeat (first | apply Kd.R_alloc | apply Kd.R_drewN | apply Kd.R_drew)); exact HO_261002.out) (Kd.R_base ho0) hb)
       have n1_ := Aside0.mk (Kd.R_elder' (by (with_reducible repeat (first | apply Kd.R_alloc | apply Kd.R_drewN | apply Kd.R_drew)); exact HO_261003.out) (Kd.R_base ho1) hb)
       have n2_ := Aside0.mk (Kd.R_elder' (by (with_reducible repeat (first | apply Kd.R_alloc | apply Kd.R_drewN | apply Kd.R_drew)); exact HO_261004.out) (Kd.R_base ho2) hb)
       have n3_ := Aside0.mk (Kd.R_elder' (by (with_reducible repeat (first | apply Kd.R_alloc | apply Kd.R_drewN | apply Kd.R_drew)); exact HO_273002.out) (Kd.R_base ho0) hb)
       have n4_ := Aside0.mk (Kd.R_elder' (by (with_reducible repeat (first | apply Kd.R_alloc | apply Kd.R_drewN | apply Kd.R_drew)); exact HO_273003.out) (Kd.R_base ho1) hb)
       have n5_ := Aside0.mk (Kd.R_elder' (by (with_reducible repeat (first | apply Kd.R_alloc | apply Kd.R_drewN | apply Kd.R_drew)); exact HO_273004.out) (Kd.R_base ho2) hb)
       have n6_ := Aside0.mk (Kd.R_lower (Kd.R_new' (Kd.R_new' ho0 (Kd.R_lt (by (with_reducible repeat (first | apply Kd.R_alloc | apply Kd.R_drewN | apply Kd.R_drew)); exact HO_261002.out))) (Kd.R_lt (by (with_reducible repeat (first | apply Kd.R_alloc | apply Kd.R_drewN | apply Kd.R_drew)); exact HO_273002.out))) (below_size (by repeat (first | (with_reducible first | exact HB.out | apply below_alloc | apply pw_below_drewN | apply below_drew1 | refine below_set ?_ GE222.out | refine below_set ?_ GE223.out | refine below_set ?_ GE260.out | refine below_set ?_ GE272.out) | exact HB.out))))
       have n7_ := Aside0.mk (Kd.R_lower (Kd.R_new' (Kd.R_new' ho1 (Kd.R_lt (by (with_reducible repeat (first | apply Kd.R_alloc | apply Kd.R_drewN | apply Kd.R_drew)); exact HO_261003.out))) (Kd.R_lt (by (with_reducible repeat (first | apply Kd.R_alloc | apply Kd.R_drewN | apply Kd.R_drew)); exact HO_273003.out))) (below_size (by repeat (first | (with_reducible first | exact HB.out | apply below_alloc | apply pw_below_drewN | apply below_drew1 | refine below_set ?_ GE222.out | refine below_set ?_ GE223.out | refine below_set ?_ GE260.out | refine below_set ?_ GE272.out) | exact HB.out))))
       have n8_ := Aside0.mk (Kd.R_lower (Kd.R_new' (Kd.R_new' ho2 (Kd.R_lt (by (with_reducible repeat (first | apply Kd.R_alloc | apply Kd.R_drewN | apply Kd.R_drew)); exact HO_261004.out))) (Kd.R_lt (by (with_reducible repeat (first | apply Kd.R_alloc | apply Kd.R_drewN | apply Kd.R_drew)); exact HO_273004.out))) (below_size (by repeat (first | (with_reducible first | exact HB.out | apply below_alloc | apply pw_below_drewN | apply below_drew1 | refine below_set ?_ GE222.out | refine below_set ?_ GE223.out | refine below_set ?_ GE260.out | refine below_set ?_ GE272.out) | exact HB.out))))
       have n9_ := Aside0.mk (blk_below (g := gb222) (o := .cells #[.int .i8 a0_0, .int .i8 a0_1, .slice A0_2 l0_2.length c0_2, .slice A0_3 l0_3.length c0_3, .slice A0_4 l0_4.length c0_4] 29 (0, 0)) (by (with_reducible repeat (first | refine blk_drewN ?_ _ | refine blk_drew ?_ | refine blk_alloc ?_ _)); exact BK222.out) hb)
       have n10_ := Aside0.mk (blk_below (g := gb223) (o := .cells #[.int .i8 a1_0, .int .i8 a1_1, .slice A1_2 l1_2.length c1_2, .slice A1_3 l1_3.length c1_3, .slice A1_4 l1_4.length c1_4] 29 (0, 0)) (by (with_reducible repeat (first | refine blk_drewN ?_ _ | refine blk_drew ?_ | refine blk_alloc ?_ _)); exact BK223.out) hb)
       have n11_ := Aside0.mk (blk_below (g := gb260) (o := .cells #[.int .i8 t249, .int .i8 t250, .slice Ao41 t251.length co41, .slice Ao42 t254.length co42, .slice Ao43 t257.length co43] 41 (0, 0)) (by (with_reducible repeat (first | refine blk_drewN ?_ _ | refine blk_drew ?_ | refine blk_alloc ?_ _)); exact BK260.out) hb)
       have n12_ := Aside0.mk (blk_below (g := gb272) (o := .cells #[.int .i8 t261, .int .i8 t262, .slice Ao51 t263.length co51, .slice Ao52 t266.length co52, .slice Ao53 t269.length co53] 41 (0, 0)) (by (with_reducible repeat (first | refine blk_drewN ?_ _ | refine blk_drew ?_ | refine blk_alloc ?_ _)); exact BK272.out) hb)
       have n13_ := Aside0.mk (below_step (by repeat (first | (with_reducible first | exact HB.out | apply below_alloc | apply pw_below_drewN | apply below_drew1 | refine below_set ?_ GE222.out | refine below_set ?_ GE223.out | refine below_set ?_ GE260.out | refine below_set ?_ GE272.out) | exact HB.out)) hb)
       clear HO_261002
       clear HO_261003
       clear HO_261004
       clear HO_273002
       clear HO_273003
       clear HO_273004
       clear BK222
       clear BK223
       clear BK260
       clear BK272
       clear HB
       have HO_261002 := n0_
       have HO_261003 := n1_
       have HO_261004 := n2_
       have HO_273002 := n3_
       have HO_273003 := n4_
       have HO_273004 := n5_
       have HO278 := n6_
       have HO281 := n7_
       have HO284 := n8_
       have BK222 := n9_
       have BK223 := n10_
       have BK260 := n11_
       have BK272 := n12_
       have HB := n13_
       clear n0_ n1_ n2_ n3_ n4_ n5_ n6_ n7_ n8_ n9_ n10_ n11_ n12_ n13_
       (try clear hb)
       (try clear hb2)
       (try clear hk)
       (try clear hi)
       (try clear ho0)
       (try clear ho1)
       (try clear ho2)
       obtain ⟨Ao62, co62, eo62⟩ := Kd.R_slice HO278.out
       (first | subst eo62 | (injection eo62 with f1_ f2_ f3_; have f4_ := f1_.symm; have f5_ := f3_.symm; clear f1_ f2_ f3_; subst f4_; subst f5_))
       obtain ⟨Ao63, co63, eo63⟩ := Kd.R_slice HO281.out
       (first | subst eo63 | (injection eo63 with f1_ f2_ f3_; have f4_ := f1_.symm; have f5_ := f3_.symm; clear f1_ f2_ f3_; subst f4_; subst f5_))
       obtain ⟨Ao64, co64, eo64⟩ := Kd.R_slice HO284.out
       (first | subst eo64 | (injection eo64 with f1_ f2_ f3_; have f4_ := f1_.symm; have f5_ := f3_.symm; clear f1_ f2_ f3_; subst f4_; subst f5_))
       refine hK.out _ _ ⟨(blk_cell BK260.out 0).trans rfl, (blk_cell BK260.out 1).trans rfl, (blk_cell BK260.out 2).trans rfl, (blk_cell BK260.out 3).trans rfl, (blk_cell BK260.out 4).trans rfl, (blk_cell BK222.out 0).trans rfl, (blk_cell BK222.out 1).trans rfl, (blk_cell BK222.out 2).trans rfl, (blk_cell BK222.out 3).trans rfl, (blk_cell BK222.out 4).trans rfl⟩ (fun hHeld => ?_)
       clear hK K
       refine norm_ (a' := ?_) ?_ ?_
       rotate_left
       ·show Act.put _ (some 37) _ = _
        simp only [Act.put, List.setIfInBounds_toArray, List.set_cons_zero, List.set_cons_succ, i64_w, i32_w]
        rfl
       refine one_ (i := 3) (N := some 38) #[true, true, true, true, false] rfl rfl (by kernel_rfl) (by decide) (fun K hK => ?_)
       refine goes_ Try.func27 (by kernel_rfl) rfl #[.agg #[.int .i8 t249, .int .i8 t250, .slice Ao41 t251.length co41, .slice Ao42 t254.length co42, .slice Ao43 t257.length co43], .agg #[.int .i8 t274, .int .i8 t275, .slice Ao62 t276.length co62, .slice Ao63 t279.length co63, .slice Ao64 t282.length co64]] (by rfl) rfl rfl (by (try simp only [List.map_toArray, List.map_cons, List.map_nil]); first | done | rfl | (simp only [List.length_drop, List.length_take]; rfl)) ?_
       with_reducible refine (laws_eqMachine.calls kj22 t249 t250 _ _ t251 _ _ t254 _ _ t257 t274 t275 _ _ t276 _ _ t279 _ _ t282 t285 _ ?side1 ?side2 ?side3 ?side4 ?side5 ?side6 ?side7 ?side8 ?side9 ?side10 ?side11 ?side12 A58.out).mono ?_
       (case side1 => repeat (first | exact (Kd.R_reads' HO_261002.out).2.2 | (with_reducible refine Kd.C_alloc ?_ _) | (with_reducible refine Kd.C_drewN ?_ _) | (with_reducible refine Kd.C_drew ?_)))
       (case side2 => exact (Kd.R_reads' HO_261002.out).2.1)
       (case side3 => repeat (first | exact (Kd.R_reads' HO_261003.out).2.2 | (with_reducible refine Kd.C_alloc ?_ _) | (with_reducible refine Kd.C_drewN ?_ _) | (with_reducible refine Kd.C_drew ?_)))
       (case side4 => exact (Kd.R_reads' HO_261003.out).2.1)
       (case side5 => repeat (first | exact (Kd.R_reads' HO_261004.out).2.2 | (with_reducible refine Kd.C_alloc ?_ _) | (with_reducible refine Kd.C_drewN ?_ _) | (with_reducible refine Kd.C_drew ?_)))
       (case side6 => exact (Kd.R_reads' HO_261004.out).2.1)
       (case side7 => repeat (first | exact (Kd.R_reads' HO278.out).2.2 | (with_reducible refine Kd.C_alloc ?_ _) | (with_reducible refine Kd.C_drewN ?_ _) | (with_reducible refine Kd.C_drew ?_)))
       (case side8 => exact (Kd.R_reads' HO278.out).2.1)
       (case side9 => repeat (first | exact (Kd.R_reads' HO281.out).2.2 | (with_reducible refine Kd.C_alloc ?_ _) | (with_reducible refine Kd.C_drewN ?_ _) | (with_reducible refine Kd.C_drew ?_)))
       (case side10 => exact (Kd.R_reads' HO281.out).2.1)
       (case side11 => repeat (first | exact (Kd.R_reads' HO284.out).2.2 | (with_reducible refine Kd.C_alloc ?_ _) | (with_reducible refine Kd.C_drewN ?_ _) | (with_reducible refine Kd.C_drew ?_)))
       (case side12 => exact (Kd.R_reads' HO284.out).2.1)
       rintro e w65 ⟨rfl, hb⟩
       refine ⟨_, rfl, ?_⟩
       have n0_ := Aside0.mk (Kd.R_below (by (with_reducible repeat (first | apply Kd.R_alloc | apply Kd.R_drewN | apply Kd.R_drew)); exact HO_261002.out) hb)
       have n1_ := Aside0.mk (Kd.R_below (by (with_reducible repeat (first | apply Kd.R_alloc | apply Kd.R_drewN | apply Kd.R_drew)); exact HO_261003.out) hb)
       have n2_ := Aside0.mk (Kd.R_below (by (with_reducible repeat (first | apply Kd.R_alloc | apply Kd.R_drewN | apply Kd.R_drew)); exact HO_261004.out) hb)
       have n3_ := Aside0.mk (Kd.R_below (by (with_reducible repeat (first | apply Kd.R_alloc | apply Kd.R_drewN | apply Kd.R_drew)); exact HO_273002.out) hb)
       have n4_ := Aside0.mk (Kd.R_below (by (with_reducible repeat (first | apply Kd.R_alloc | apply Kd.R_drewN | apply Kd.R_drew)); exact HO_273003.out) hb)
       have n5_ := Aside0.mk (Kd.R_below (by (with_reducible repeat (first | apply Kd.R_alloc | apply Kd.R_drewN | apply Kd.R_drew)); exact HO_273004.out) hb)
       have n6_ := Aside0.mk (Kd.R_below (by (with_reducible repeat (first | apply Kd.R_alloc | apply Kd.R_drewN | apply Kd.R_drew)); exact HO278.out) hb)
       have n7_ := Aside0.mk (Kd.R_below (by (with_reducible repeat (first | apply Kd.R_alloc | apply Kd.R_drewN | apply Kd.R_drew)); exact HO281.out) hb)
       have n8_ := Aside0.mk (Kd.R_below (by (with_reducible repeat (first | apply Kd.R_alloc | apply Kd.R_drewN | apply Kd.R_drew)); exact HO284.out) hb)
       have n9_ := Aside0.mk (blk_below (g := gb222) (o := .cells #[.int .i8 a0_0, .int .i8 a0_1, .slice A0_2 l0_2.length c0_2, .slice A0_3 l0_3.length c0_3, .slice A0_4 l0_4.length c0_4] 29 (0, 0)) (by (with_reducible repeat (first | refine blk_drewN ?_ _ | refine blk_drew ?_ | refine blk_alloc ?_ _)); exact BK222.out) hb)
       have n10_ := Aside0.mk (blk_below (g := gb223) (o := .cells #[.int .i8 a1_0, .int .i8 a1_1, .slice A1_2 l1_2.length c1_2, .slice A1_3 l1_3.length c1_3, .slice A1_4 l1_4.length c1_4] 29 (0, 0)) (by (with_reducible repeat (first | refine blk_drewN ?_ _ | refine blk_drew ?_ | refine blk_alloc ?_ _)); exact BK223.out) hb)
       have n11_ := Aside0.mk (blk_below (g := gb260) (o := .cells #[.int .i8 t249, .int .i8 t250, .slice Ao41 t251.length co41, .slice Ao42 t254.length co42, .slice Ao43 t257.length co43] 41 (0, 0)) (by (with_reducible repeat (first | refine blk_drewN ?_ _ | refine blk_drew ?_ | refine blk_alloc ?_ _)); exact BK260.out) hb)
       have n12_ := Aside0.mk (blk_below (g := gb272) (o := .cells #[.int .i8 t261, .int .i8 t262, .slice Ao51 t263.length co51, .slice Ao52 t266.length co52, .slice Ao53 t269.length co53] 41 (0, 0)) (by (with_reducible repeat (first | refine blk_drewN ?_ _ | refine blk_drew ?_ | refine blk_alloc ?_ _)); exact BK272.out) hb)
       have n13_ := Aside0.mk (below_step (by repeat (first | (with_reducible first | exact HB.out | apply below_alloc | apply pw_below_drewN | apply below_drew1 | refine below_set ?_ GE222.out | refine below_set ?_ GE223.out | refine below_set ?_ GE260.out | refine below_set ?_ GE272.out) | exact HB.out)) hb)
       clear HO_261002
       clear HO_261003
       clear HO_261004
       clear HO_273002
       clear HO_273003
       clear HO_273004
       clear HO278
       clear HO281
       clear HO284
       clear BK222
       clear BK223
       clear BK260
       clear BK272
       clear HB
       have HO_261002 := n0_
       have HO_261003 := n1_
       have HO_261004 := n2_
       have HO_273002 := n3_
       have HO_273003 := n4_
       have HO_273004 := n5_
       have HO278 := n6_
       have HO281 := n7_
       have HO284 := n8_
       have BK222 := n9_
       have BK223 := n10_
       have BK260 := n11_
       have BK272 := n12_
       have HB := n13_
       clear n0_ n1_ n2_ n3_ n4_ n5_ n6_ n7_ n8_ n9_ n10_ n11_ n12_ n13_
       (try clear hb)
       (try clear hb2)
       (try clear hk)
       (try clear hi)
       refine hK.out _ _ ⟨(blk_cell BK260.out 0).trans rfl, (blk_cell BK260.out 1).trans rfl, (blk_cell BK260.out 2).trans rfl, (blk_cell BK260.out 3).trans rfl, (blk_cell BK260.out 4).trans rfl, (blk_cell BK222.out 0).trans rfl, (blk_cell BK222.out 1).trans rfl, (blk_cell BK222.out 2).trans rfl, (blk_cell BK222.out 3).trans rfl, (blk_cell BK222.out 4).trans rfl⟩ (fun hHeld => ?_)
       clear hK K
       refine norm_ (a' := ?_) ?_ ?_
       rotate_left
       ·show Act.put _ (some 38) _ = _
        simp only [Act.put, List.setIfInBounds_toArray, List.set_cons_zero, List.set_cons_succ, i64_w, i32_w]
        rfl
       refine pure_ (i := 4) (N := some 39) (v := ?_) (a' := ?_) #[true, true, true, true, true] rfl rfl (by kernel_rfl) (fun _ _ _ h => h) (Or.inl ⟨by rfl, ?_⟩) ?_ ?_
       rotate_left
       ·intro w'
        go_simp
        with_reducible rfl
       rotate_left
       ·simp only [Act.put, List.setIfInBounds_toArray, List.set_cons_zero, List.set_cons_succ, i64_w, i32_w]
        rfl
       refine done_ (by kernel_rfl) ?_
       go_upto_if 39 with (fail)
       go_cut [] (fun wc => ∃ (kq : Nat), Aside0 (laws_FnExactSameMachine.j3 kq a1_0 a1_1 l1_2 l1_3 l1_4 t261 t262 t263 t266 t269 = some r) ∧ Aside0 (kq ≤ kj22) ∧ Aside0 (Kd.R k91 91 wc w.heap.size (fun k_ => some k_ ≠ ((.slice Ao51 t263.length co51) : Value).ownBlock) (.slice Ao41 t251.length co41) t251) ∧ Aside0 (Kd.R k116 116 wc w.heap.size (fun k_ => some k_ ≠ ((.slice Ao52 t266.length co52) : Value).ownBlock) (.slice Ao42 t254.length co42) t254) ∧ Aside0 (Kd.R k74 74 wc w.heap.size (fun k_ => some k_ ≠ ((.slice Ao53 t269.length co53) : Value).ownBlock) (.slice Ao43 t257.length co43) t257) ∧ Aside0 (Kd.R k91 91 wc w.heap.size (fun k_ => some k_ ≠ ((.slice Ao41 t251.length co41) : Value).ownBlock) (.slice Ao51 t263.length co51) t263) ∧ Aside0 (Kd.R k116 116 wc w.heap.size (fun k_ => some k_ ≠ ((.slice Ao42 t254.length co42) : Value).ownBlock) (.slice Ao52 t266.length co52) t266) ∧ Aside0 (Kd.R k74 74 wc w.heap.size (fun k_ => some k_ ≠ ((.slice Ao43 t257.length co43) : Value).ownBlock) (.slice Ao53 t269.length co53) t269) ∧ Aside0 (wc.heap[gb222]? = some (.cells #[.int .i8 a0_0, .int .i8 a0_1, (.slice A0_2 l0_2.length c0_2), (.slice A0_3 l0_3.length c0_3), (.slice A0_4 l0_4.length c0_4)] 29 (0, 0))) ∧ Aside0 (wc.heap[gb223]? = some (.cells #[.int .i8 a1_0, .int .i8 a1_1, (.slice A1_2 l1_2.length c1_2), (.slice A1_3 l1_3.length c1_3), (.slice A1_4 l1_4.length c1_4)] 29 (0, 0))) ∧ Aside0 (wc.heap[gb260]? = some (.cells #[.int .i8 t249, .int .i8 t250, (.slice Ao41 t251.length co41), (.slice Ao42 t254.length co42), (.slice Ao43 t257.length co43)] 41 (0, 0))) ∧ Aside0 (wc.heap[gb272]? = some (.cells #[.int .i8 t261, .int .i8 t262, (.slice Ao51 t263.length co51), (.slice Ao52 t266.length co52), (.slice Ao53 t269.length co53)] 41 (0, 0))) ∧ Aside0 (Below w.heap.size w wc))
       case first =>
        have H := HC59.out
        clear HC59
        by_cases c66 : t285 = true
        ·subst c66
         have H1 : (laws_FnExactSameMachine.j3 kj22 a1_0 a1_1 l1_2 l1_3 l1_4 t261 t262 t263 t266 t269) = some r := by rw [if_pos rfl] at H; exact H
         clear H
         have H := H1
         clear H1
         have H' := Aside0.mk H
         clear H
         go_wp2
         go_meet
         case rel => exact ⟨_, H', ⟨by have := HJ3.out; have := HJ11.out; have := HJ22.out; first | omega | exact Nat.le_refl _⟩, ⟨by (with_reducible repeat (first | apply Kd.R_alloc | apply Kd.R_drewN | apply Kd.R_drew)); exact Kd.R_mono HO_261002.out (fun _ hk => hk.1)⟩, ⟨by (with_reducible repeat (first | apply Kd.R_alloc | apply Kd.R_drewN | apply Kd.R_drew)); exact Kd.R_mono HO_261003.out (fun _ hk => hk.1)⟩, ⟨by (with_reducible repeat (first | apply Kd.R_alloc | apply Kd.R_drewN | apply Kd.R_drew)); exact Kd.R_mono HO_261004.out (fun _ hk => hk.1)⟩, ⟨by (with_reducible repeat (first | apply Kd.R_alloc | apply Kd.R_drewN | apply Kd.R_drew)); exact Kd.R_mono HO_273002.out (fun _ hk => hk.1)⟩, ⟨by (with_reducible repeat (first | apply Kd.R_alloc | apply Kd.R_drewN | apply Kd.R_drew)); exact Kd.R_mono HO_273003.out (fun _ hk => hk.1)⟩, ⟨by (with_reducible repeat (first | apply Kd.R_alloc | apply Kd.R_drewN | apply Kd.R_drew)); exact Kd.R_mono HO_273004.out (fun _ hk => hk.1)⟩, ⟨by (with_reducible repeat (first | refine blk_drewN ?_ _ | refine blk_drew ?_ | refine blk_alloc ?_ _)); exact BK222.out⟩, ⟨by (with_reducible repeat (first | refine blk_drewN ?_ _ | refine blk_drew ?_ | refine blk_alloc ?_ _)); exact BK223.out⟩, ⟨by (with_reducible repeat (first | refine blk_drewN ?_ _ | refine blk_drew ?_ | refine blk_alloc ?_ _)); exact BK260.out⟩, ⟨by (with_reducible repeat (first | refine blk_drewN ?_ _ | refine blk_drew ?_ | refine blk_alloc ?_ _)); exact BK272.out⟩, ⟨by repeat (first | (with_reducible first | exact HB.out | apply below_alloc | apply pw_below_drewN | apply below_drew1 | refine below_set ?_ GE222.out | refine below_set ?_ GE223.out | refine below_set ?_ GE260.out | refine below_set ?_ GE272.out) | exact HB.out)⟩⟩
        ·replace c66 := Bool.eq_false_iff.mpr c66
         subst c66
         have H1 : (some false) = some r := by rw [if_neg (show ¬ (false = true) by decide)] at H; exact H
         clear H
         have H := H1
         clear H1
         obtain rfl := Option.some.inj H
         go_wp2
         go_ret
         exact ⟨by first | rfl | (simp [errW_none, errW_some] <;> rfl) | (simp [*, errW_none, errW_some] <;> rfl), by repeat (first | (with_reducible first | exact HB.out | apply below_alloc | apply pw_below_drewN | apply below_drew1 | refine below_set ?_ GE222.out | refine below_set ?_ GE223.out | refine below_set ?_ GE260.out | refine below_set ?_ GE272.out) | exact HB.out)⟩
       case rest =>
        clear HC59
        try clear c1
        try clear c2
        try clear p2
        try clear c3
        try clear c4
        try clear c5
        try clear c6
        try clear c7
        try clear c10
        try clear c10b0
        try clear c12
        try clear c13
        try clear c16
        try clear c16b0
        try clear c21
        try clear c23
        try clear c27
        try clear c34
        try clear c38
        try clear c39
        try clear c47
        try clear c48
        try clear c49
        try clear c56
        try clear c56b0
        try clear c56b1
        try clear c56b2
        try clear c60
        try clear c61
        try clear c66
        try clear hcz14_0
        try clear hcz14_1
        try clear hcz14_2
        try clear hcz14_3
        try clear hcz14_4
        try clear hcz35_0
        try clear hcz35_1
        try clear hcz35_2
        try clear hcz35_3
        try clear hcz35_4
        try clear hcz40_0
        try clear hcz40_1
        try clear hcz40_2
        try clear hcz40_3
        try clear hcz40_4
        try clear hcz44_0
        try clear hcz44_1
        try clear hcz44_2
        try clear hcz44_3
        try clear hcz44_4
        try clear hcz50_0
        try clear hcz50_1
        try clear hcz50_2
        try clear hcz50_3
        try clear hcz50_4
        try clear hcz54_0
        try clear hcz54_1
        try clear hcz54_2
        try clear hcz54_3
        try clear hcz54_4
        try clear hcz8_0
        try clear hcz8_1
        try clear hcz8_2
        try clear hcz8_3
        try clear hcz8_4
        try clear hfz14_0
        try clear hfz14_1
        try clear hfz14_2
        try clear hfz14_3
        try clear hfz14_4
        try clear hfz35_0
        try clear hfz35_1
        try clear hfz35_2
        try clear hfz35_3
        try clear hfz35_4
        try clear hfz40_0
        try clear hfz40_1
        try clear hfz40_2
        try clear hfz40_3
        try clear hfz40_4
        try clear hfz44_0
        try clear hfz44_1
        try clear hfz44_2
        try clear hfz44_3
        try clear hfz44_4
        try clear hfz50_0
        try clear hfz50_1
        try clear hfz50_2
        try clear hfz50_3
        try clear hfz50_4
        try clear hfz54_0
        try clear hfz54_1
        try clear hfz54_2
        try clear hfz54_3
        try clear hfz54_4
        try clear hfz8_0
        try clear hfz8_1
        try clear hfz8_2
        try clear hfz8_3
        try clear hfz8_4
        try clear p2
        obtain ⟨kq, HA, HJ58, HO_261002, HO_261003, HO_261004, HO_273002, HO_273003, HO_273004, BK222, BK223, BK260, BK272, HB⟩ := hcut
        cases kq with
        | zero => exact absurd HA.out (by simp [laws_FnExactSameMachine.j3])
        | succ kj58 =>
         have H := HA.out
         clear HA
         simp only [laws_FnExactSameMachine.j3] at H
         replace H := Option.bind_eq_some_iff.mp H
         obtain ⟨⟨t286, t287, t288, t291, t294⟩, A670, H⟩ := H
         replace H : ((laws_eqMachine.f kj58 t261 t262 t263 t266 t269 t286 t287 t288 t291 t294).bind fun t297 => (if t297 = true then (some true) else (some false))) = some r := H
         have A67 := Aside0.mk A670
         clear A670
         replace H := Option.bind_eq_some_iff.mp H
         obtain ⟨t297, A680, H⟩ := H
         replace H : (if t297 = true then (some true) else (some false)) = some r := H
         have A68 := Aside0.mk A680
         clear A680
         by_cases c69 : t297 = true
         ·subst c69
          have H1 : (some true) = some r := by rw [if_pos rfl] at H; exact H
          clear H
          have H := H1
          clear H1
          obtain rfl := Option.some.inj H
          try go_wp2
          have n0_ := Aside0.mk (Kd.R_drew HO_261002.out)
          have n1_ := Aside0.mk (Kd.R_drew HO_261003.out)
          have n2_ := Aside0.mk (Kd.R_drew HO_261004.out)
          have n3_ := Aside0.mk (Kd.R_drew HO_273002.out)
          have n4_ := Aside0.mk (Kd.R_drew HO_273003.out)
          have n5_ := Aside0.mk (Kd.R_drew HO_273004.out)
          have n6_ := Aside0.mk (blk_drew BK222.out)
          have n7_ := Aside0.mk (blk_drew BK223.out)
          have n8_ := Aside0.mk (blk_drew BK260.out)
          have n9_ := Aside0.mk (blk_drew BK272.out)
          have n10_ := Aside0.mk (below_drew1 HB.out)
          clear HO_261002
          clear HO_261003
          clear HO_261004
          clear HO_273002
          clear HO_273003
          clear HO_273004
          clear BK222
          clear BK223
          clear BK260
          clear BK272
          clear HB
          have HO_261002 := n0_
          have HO_261003 := n1_
          have HO_261004 := n2_
          have HO_273002 := n3_
          have HO_273003 := n4_
          have HO_273004 := n5_
          have BK222 := n6_
          have BK223 := n7_
          have BK260 := n8_
          have BK272 := n9_
          have HB := n10_
          clear n0_ n1_ n2_ n3_ n4_ n5_ n6_ n7_ n8_ n9_ n10_
          refine start_ (n := 5) (S := fun w' => w'.cell? ⟨gb272, 0, none⟩ = some (.int .i8 t261) ∧ w'.cell? ⟨gb272, 1, none⟩ = some (.int .i8 t262) ∧ w'.cell? ⟨gb272, 2, none⟩ = some (.slice Ao51 t263.length co51) ∧ w'.cell? ⟨gb272, 3, none⟩ = some (.slice Ao52 t266.length co52) ∧ w'.cell? ⟨gb272, 4, none⟩ = some (.slice Ao53 t269.length co53) ∧ w'.cell? ⟨gb223, 0, none⟩ = some (.int .i8 a1_0) ∧ w'.cell? ⟨gb223, 1, none⟩ = some (.int .i8 a1_1) ∧ w'.cell? ⟨gb223, 2, none⟩ = some (.slice A1_2 l1_2.length c1_2) ∧ w'.cell? ⟨gb223, 3, none⟩ = some (.slice A1_3 l1_3.length c1_3) ∧ w'.cell? ⟨gb223, 4, none⟩ = some (.slice A1_4 l1_4.length c1_4)) (ds := []) #[false, false, false, false, false] (by kernel_rfl) rfl rfl ⟨(blk_cell BK272.out 0).trans rfl, (blk_cell BK272.out 1).trans rfl, (blk_cell BK272.out 2).trans rfl, (blk_cell BK272.out 3).trans rfl, (blk_cell BK272.out 4).trans rfl, (blk_cell BK223.out 0).trans rfl, (blk_cell BK223.out 1).trans rfl, (blk_cell BK223.out 2).trans rfl, (blk_cell BK223.out 3).trans rfl, (blk_cell BK223.out 4).trans rfl⟩ (fun hHeld => ?_)
          generalize wc.drew = w70 at HO_261002 HO_261003 HO_261004 HO_273002 HO_273003 HO_273004 BK222 BK223 BK260 BK272 HB hHeld ⊢
          refine take_ (i := 0) (N := some 40) (v := ?_) (a' := ?_) #[true, false, false, false, false] rfl rfl (by kernel_rfl) (fun _ _ _ h => h) (Or.inl ⟨by rfl, ?_⟩) hHeld ?_ ?_
          rotate_left
          ·rintro w' ⟨s0, s1, s2, s3, s4, s5, s6, s7, s8, s9⟩
           go_simp
           with_reducible rfl
          rotate_left
          ·simp only [Act.put, List.setIfInBounds_toArray, List.set_cons_zero, List.set_cons_succ, i64_w, i32_w]
           rfl
          refine take_ (i := 1) (N := some 41) (v := ?_) (a' := ?_) #[true, true, false, false, false] rfl rfl (by kernel_rfl) (fun _ _ _ h => h) (Or.inl ⟨by rfl, ?_⟩) hHeld ?_ ?_
          rotate_left
          ·rintro w' ⟨s0, s1, s2, s3, s4, s5, s6, s7, s8, s9⟩
           go_simp
           with_reducible rfl
          rotate_left
          ·simp only [Act.put, List.setIfInBounds_toArray, List.set_cons_zero, List.set_cons_succ, i64_w, i32_w]
           rfl
          refine one_ (i := 2) (N := some 42) #[true, true, true, false, false] rfl rfl (by kernel_rfl) (by decide) (fun K hK => ?_)
          refine goes_ Try.func23 (by kernel_rfl) rfl #[.agg #[.int .i8 a1_0, .int .i8 a1_1, .slice A1_2 l1_2.length c1_2, .slice A1_3 l1_3.length c1_3, .slice A1_4 l1_4.length c1_4]] (by rfl) rfl rfl (by (try simp only [List.map_toArray, List.map_cons, List.map_nil]); first | done | rfl | (simp only [List.length_drop, List.length_take]; rfl)) ?_
          with_reducible refine (laws_toMachine.calls kj58 a1_0 a1_1 _ _ l1_2 _ _ l1_3 _ _ l1_4 t286 t287 t288 t291 t294 _ ?side1 ?side2 ?side3 ?side4 ?side5 ?side6 A67.out).mono ?_
          (case side1 => repeat (first | exact (Kd.C_below HR1_2.out HB.out) | (with_reducible refine Kd.C_alloc ?_ _) | (with_reducible refine Kd.C_drewN ?_ _) | (with_reducible refine Kd.C_drew ?_)))
          (case side2 => exact HC1_2.out)
          (case side3 => repeat (first | exact (Kd.C_below HR1_3.out HB.out) | (with_reducible refine Kd.C_alloc ?_ _) | (with_reducible refine Kd.C_drewN ?_ _) | (with_reducible refine Kd.C_drew ?_)))
          (case side4 => exact HC1_3.out)
          (case side5 => repeat (first | exact (Kd.C_below HR1_4.out HB.out) | (with_reducible refine Kd.C_alloc ?_ _) | (with_reducible refine Kd.C_drewN ?_ _) | (with_reducible refine Kd.C_drew ?_)))
          (case side6 => exact HC1_4.out)
          rintro e w71 ⟨v289, v292, v295, rfl, ho0, ho1, ho2, hb⟩
          refine ⟨_, rfl, ?_⟩
          have n0_ := Aside0.mk (Kd.R_elder' (by (with_reducible repeat (first | apply Kd.R_alloc | apply Kd.R_drewN | apply Kd.R_drew)); exact HO_261002.out) (Kd.R_base ho0) hb)
          have n1_ := Aside0.mk (Kd.R_elder' (by (with_reducible repeat (first | apply Kd.R_alloc | apply Kd.R_drewN | apply Kd.R_drew)); exact HO_261003.out) (Kd.R_base ho1) hb)
          have n2_ := Aside0.mk (Kd.R_elder' (by (with_reducible repeat (first | apply Kd.R_alloc | apply Kd.R_drewN | apply Kd.R_drew)); exact HO_261004.out) (Kd.R_base ho2) hb)
          have n3_ := Aside0.mk (Kd.R_elder' (by (with_reducible repeat (first | apply Kd.R_alloc | apply Kd.R_drewN | apply Kd.R_drew)); exact HO_273002.out) (Kd.R_base ho0) hb)
          have n4_ := Aside0.mk (Kd.R_elder' (by (with_reducible repeat (first | apply Kd.R_alloc | apply Kd.R_drewN | apply Kd.R_drew)); exact HO_273003.out) (Kd.R_base ho1) hb)
          have n5_ := Aside0.mk (Kd.R_elder' (by (with_reducible repeat (first | apply Kd.R_alloc | apply Kd.R_drewN | apply Kd.R_drew)); exact HO_273004.out) (Kd.R_base ho2) hb)
          have n6_ := Aside0.mk (Kd.R_lower (Kd.R_new' (Kd.R_new' ho0 (Kd.R_lt (by (with_reducible repeat (first | apply Kd.R_alloc | apply Kd.R_drewN | apply Kd.R_drew)); exact HO_261002.out))) (Kd.R_lt (by (with_reducible repeat (first | apply Kd.R_alloc | apply Kd.R_drewN | apply Kd.R_drew)); exact HO_273002.out))) (below_size (by repeat (first | (with_reducible first | exact HB.out | apply below_alloc | apply pw_below_drewN | apply below_drew1 | refine below_set ?_ GE222.out | refine below_set ?_ GE223.out | refine below_set ?_ GE260.out | refine below_set ?_ GE272.out) | exact HB.out))))
          have n7_ := Aside0.mk (Kd.R_lower (Kd.R_new' (Kd.R_new' ho1 (Kd.R_lt (by (with_reducible repeat (first | apply Kd.R_alloc | apply Kd.R_drewN | apply Kd.R_drew)); exact HO_261003.out))) (Kd.R_lt (by (with_reducible repeat (first | apply Kd.R_alloc | apply Kd.R_drewN | apply Kd.R_drew)); exact HO_273003.out))) (below_size (by repeat (first | (with_reducible first | exact HB.out | apply below_alloc | apply pw_below_drewN | apply below_drew1 | refine below_set ?_ GE222.out | refine below_set ?_ GE223.out | refine below_set ?_ GE260.out | refine below_set ?_ GE272.out) | exact HB.out))))
          have n8_ := Aside0.mk (Kd.R_lower (Kd.R_new' (Kd.R_new' ho2 (Kd.R_lt (by (with_reducible repeat (first | apply Kd.R_alloc | apply Kd.R_drewN | apply Kd.R_drew)); exact HO_261004.out))) (Kd.R_lt (by (with_reducible repeat (first | apply Kd.R_alloc | apply Kd.R_drewN | apply Kd.R_drew)); exact HO_273004.out))) (below_size (by repeat (first | (with_reducible first | exact HB.out | apply below_alloc | apply pw_below_drewN | apply below_drew1 | refine below_set ?_ GE222.out | refine below_set ?_ GE223.out | refine below_set ?_ GE260.out | refine below_set ?_ GE272.out) | exact HB.out))))
          have n9_ := Aside0.mk (blk_below (g := gb222) (o := .cells #[.int .i8 a0_0, .int .i8 a0_1, .slice A0_2 l0_2.length c0_2, .slice A0_3 l0_3.length c0_3, .slice A0_4 l0_4.length c0_4] 29 (0, 0)) (by (with_reducible repeat (first | refine blk_drewN ?_ _ | refine blk_drew ?_ | refine blk_alloc ?_ _)); exact BK222.out) hb)
          have n10_ := Aside0.mk (blk_below (g := gb223) (o := .cells #[.int .i8 a1_0, .int .i8 a1_1, .slice A1_2 l1_2.length c1_2, .slice A1_3 l1_3.length c1_3, .slice A1_4 l1_4.length c1_4] 29 (0, 0)) (by (with_reducible repeat (first | refine blk_drewN ?_ _ | refine blk_drew ?_ | refine blk_alloc ?_ _)); exact BK223.out) hb)
          have n11_ := Aside0.mk (blk_below (g := gb260) (o := .cells #[.int .i8 t249, .int .i8 t250, .slice Ao41 t251.length co41, .slice Ao42 t254.length co42, .slice Ao43 t257.length co43] 41 (0, 0)) (by (with_reducible repeat (first | refine blk_drewN ?_ _ | refine blk_drew ?_ | refine blk_alloc ?_ _)); exact BK260.out) hb)
          have n12_ := Aside0.mk (blk_below (g := gb272) (o := .cells #[.int .i8 t261, .int .i8 t262, .slice Ao51 t263.length co51, .slice Ao52 t266.length co52, .slice Ao53 t269.length co53] 41 (0, 0)) (by (with_reducible repeat (first | refine blk_drewN ?_ _ | refine blk_drew ?_ | refine blk_alloc ?_ _)); exact BK272.out) hb)
          have n13_ := Aside0.mk (below_step (by repeat (first | (with_reducible first | exact HB.out | apply below_alloc | apply pw_below_drewN | apply below_drew1 | refine below_set ?_ GE222.out | refine below_set ?_ GE223.out | refine below_set ?_ GE260.out | refine below_set ?_ GE272.out) | exact HB.out)) hb)
          clear HO_261002
          clear HO_261003
          clear HO_261004
          clear HO_273002
          clear HO_273003
          clear HO_273004
          clear BK222
          clear BK223
          clear BK260
          clear BK272
          clear HB
          have HO_261002 := n0_
          have HO_261003 := n1_
          have HO_261004 := n2_
          have HO_273002 := n3_
          have HO_273003 := n4_
          have HO_273004 := n5_
          have HO290 := n6_
          have HO293 := n7_
          have HO296 := n8_
          have BK222 := n9_
          have BK223 := n10_
          have BK260 := n11_
          have BK272 := n12_
          have HB := n13_
          clear n0_ n1_ n2_ n3_ n4_ n5_ n6_ n7_ n8_ n9_ n10_ n11_ n12_ n13_
          (try clear hb)
          (try clear hb2)
          (try clear hk)
          (try clear hi)
          (try clear ho0)
          (try clear ho1)
          (try clear ho2)
          obtain ⟨Ao72, co72, eo72⟩ := Kd.R_slice HO290.out
          (first | subst eo72 | (injection eo72 with f1_ f2_ f3_; have f4_ := f1_.symm; have f5_ := f3_.symm; clear f1_ f2_ f3_; subst f4_; subst f5_))
          obtain ⟨Ao73, co73, eo73⟩ := Kd.R_slice HO293.out
          (first | subst eo73 | (injection eo73 with f1_ f2_ f3_; have f4_ := f1_.symm; have f5_ := f3_.symm; clear f1_ f2_ f3_; subst f4_; subst f5_))
          obtain ⟨Ao74, co74, eo74⟩ := Kd.R_slice HO296.out
          (first | subst eo74 | (injection eo74 with f1_ f2_ f3_; have f4_ := f1_.symm; have f5_ := f3_.symm; clear f1_ f2_ f3_; subst f4_; subst f5_))
          refine hK.out _ _ ⟨(blk_cell BK272.out 0).trans rfl, (blk_cell BK272.out 1).trans rfl, (blk_cell BK272.out 2).trans rfl, (blk_cell BK272.out 3).trans rfl, (blk_cell BK272.out 4).trans rfl, (blk_cell BK223.out 0).trans rfl, (blk_cell BK223.out 1).trans rfl, (blk_cell BK223.out 2).trans rfl, (blk_cell BK223.out 3).trans rfl, (blk_cell BK223.out 4).trans rfl⟩ (fun hHeld => ?_)
          clear hK K
          refine norm_ (a' := ?_) ?_ ?_
          rotate_left
          ·show Act.put _ (some 42) _ = _
           simp only [Act.put, List.setIfInBounds_toArray, List.set_cons_zero, List.set_cons_succ, i64_w, i32_w]
           rfl
          refine one_ (i := 3) (N := some 43) #[true, true, true, true, false] rfl rfl (by kernel_rfl) (by decide) (fun K hK => ?_)
          refine goes_ Try.func27 (by kernel_rfl) rfl #[.agg #[.int .i8 t261, .int .i8 t262, .slice Ao51 t263.length co51, .slice Ao52 t266.length co52, .slice Ao53 t269.length co53], .agg #[.int .i8 t286, .int .i8 t287, .slice Ao72 t288.length co72, .slice Ao73 t291.length co73, .slice Ao74 t294.length co74]] (by rfl) rfl rfl (by (try simp only [List.map_toArray, List.map_cons, List.map_nil]); first | done | rfl | (simp only [List.length_drop, List.length_take]; rfl)) ?_
          with_reducible refine (laws_eqMachine.calls kj58 t261 t262 _ _ t263 _ _ t266 _ _ t269 t286 t287 _ _ t288 _ _ t291 _ _ t294 true _ ?side1 ?side2 ?side3 ?side4 ?side5 ?side6 ?side7 ?side8 ?side9 ?side10 ?side11 ?side12 A68.out).mono ?_
          (case side1 => repeat (first | exact (Kd.R_reads' HO_273002.out).2.2 | (with_reducible refine Kd.C_alloc ?_ _) | (with_reducible refine Kd.C_drewN ?_ _) | (with_reducible refine Kd.C_drew ?_)))
          (case side2 => exact (Kd.R_reads' HO_273002.out).2.1)
          (case side3 => repeat (first | exact (Kd.R_reads' HO_273003.out).2.2 | (with_reducible refine Kd.C_alloc ?_ _) | (with_reducible refine Kd.C_drewN ?_ _) | (with_reducible refine Kd.C_drew ?_)))
          (case side4 => exact (Kd.R_reads' HO_273003.out).2.1)
          (case side5 => repeat (first | exact (Kd.R_reads' HO_273004.out).2.2 | (with_reducible refine Kd.C_alloc ?_ _) | (with_reducible refine Kd.C_drewN ?_ _) | (with_reducible refine Kd.C_drew ?_)))
          (case side6 => exact (Kd.R_reads' HO_273004.out).2.1)
          (case side7 => repeat (first | exact (Kd.R_reads' HO290.out).2.2 | (with_reducible refine Kd.C_alloc ?_ _) | (with_reducible refine Kd.C_drewN ?_ _) | (with_reducible refine Kd.C_drew ?_)))
          (case side8 => exact (Kd.R_reads' HO290.out).2.1)
          (case side9 => repeat (first | exact (Kd.R_reads' HO293.out).2.2 | (with_reducible refine Kd.C_alloc ?_ _) | (with_reducible refine Kd.C_drewN ?_ _) | (with_reducible refine Kd.C_drew ?_)))
          (case side10 => exact (Kd.R_reads' HO293.out).2.1)
          (case side11 => repeat (first | exact (Kd.R_reads' HO296.out).2.2 | (with_reducible refine Kd.C_alloc ?_ _) | (with_reducible refine Kd.C_drewN ?_ _) | (with_reducible refine Kd.C_drew ?_)))
          (case side12 => exact (Kd.R_reads' HO296.out).2.1)
          rintro e w75 ⟨rfl, hb⟩
          refine ⟨_, rfl, ?_⟩
          have n0_ := Aside0.mk (Kd.R_below (by (with_reducible repeat (first | apply Kd.R_alloc | apply Kd.R_drewN | apply Kd.R_drew)); exact HO_261002.out) hb)
          have n1_ := Aside0.mk (Kd.R_below (by (with_reducible repeat (first | apply Kd.R_alloc | apply Kd.R_drewN | apply Kd.R_drew)); exact HO_261003.out) hb)
          have n2_ := Aside0.mk (Kd.R_below (by (with_reducible repeat (first | apply Kd.R_alloc | apply Kd.R_drewN | apply Kd.R_drew)); exact HO_261004.out) hb)
          have n3_ := Aside0.mk (Kd.R_below (by (with_reducible repeat (first | apply Kd.R_alloc | apply Kd.R_drewN | apply Kd.R_drew)); exact HO_273002.out) hb)
          have n4_ := Aside0.mk (Kd.R_below (by (with_reducible repeat (first | apply Kd.R_alloc | apply Kd.R_drewN | apply Kd.R_drew)); exact HO_273003.out) hb)
          have n5_ := Aside0.mk (Kd.R_below (by (with_reducible repeat (first | apply Kd.R_alloc | apply Kd.R_drewN | apply Kd.R_drew)); exact HO_273004.out) hb)
          have n6_ := Aside0.mk (Kd.R_below (by (with_reducible repeat (first | apply Kd.R_alloc | apply Kd.R_drewN | apply Kd.R_drew)); exact HO290.out) hb)
          have n7_ := Aside0.mk (Kd.R_below (by (with_reducible repeat (first | apply Kd.R_alloc | apply Kd.R_drewN | apply Kd.R_drew)); exact HO293.out) hb)
          have n8_ := Aside0.mk (Kd.R_below (by (with_reducible repeat (first | apply Kd.R_alloc | apply Kd.R_drewN | apply Kd.R_drew)); exact HO296.out) hb)
          have n9_ := Aside0.mk (blk_below (g := gb222) (o := .cells #[.int .i8 a0_0, .int .i8 a0_1, .slice A0_2 l0_2.length c0_2, .slice A0_3 l0_3.length c0_3, .slice A0_4 l0_4.length c0_4] 29 (0, 0)) (by (with_reducible repeat (first | refine blk_drewN ?_ _ | refine blk_drew ?_ | refine blk_alloc ?_ _)); exact BK222.out) hb)
          have n10_ := Aside0.mk (blk_below (g := gb223) (o := .cells #[.int .i8 a1_0, .int .i8 a1_1, .slice A1_2 l1_2.length c1_2, .slice A1_3 l1_3.length c1_3, .slice A1_4 l1_4.length c1_4] 29 (0, 0)) (by (with_reducible repeat (first | refine blk_drewN ?_ _ | refine blk_drew ?_ | refine blk_alloc ?_ _)); exact BK223.out) hb)
          have n11_ := Aside0.mk (blk_below (g := gb260) (o := .cells #[.int .i8 t249, .int .i8 t250, .slice Ao41 t251.length co41, .slice Ao42 t254.length co42, .slice Ao43 t257.length co43] 41 (0, 0)) (by (with_reducible repeat (first | refine blk_drewN ?_ _ | refine blk_drew ?_ | refine blk_alloc ?_ _)); exact BK260.out) hb)
          have n12_ := Aside0.mk (blk_below (g := gb272) (o := .cells #[.int .i8 t261, .int .i8 t262, .slice Ao51 t263.length co51, .slice Ao52 t266.length co52, .slice Ao53 t269.length co53] 41 (0, 0)) (by (with_reducible repeat (first | refine blk_drewN ?_ _ | refine blk_drew ?_ | refine blk_alloc ?_ _)); exact BK272.out) hb)
          have n13_ := Aside0.mk (below_step (by repeat (first | (with_reducible first | exact HB.out | apply below_alloc | apply pw_below_drewN | apply below_drew1 | refine below_set ?_ GE222.out | refine below_set ?_ GE223.out | refine below_set ?_ GE260.out | refine below_set ?_ GE272.out) | exact HB.out)) hb)
          clear HO_261002
          clear HO_261003
          clear HO_261004
          clear HO_273002
          clear HO_273003
          clear HO_273004
          clear HO290
          clear HO293
          clear HO296
          clear BK222
          clear BK223
          clear BK260
          clear BK272
          clear HB
          have HO_261002 := n0_
          have HO_261003 := n1_
          have HO_261004 := n2_
          have HO_273002 := n3_
          have HO_273003 := n4_
          have HO_273004 := n5_
          have HO290 := n6_
          have HO293 := n7_
          have HO296 := n8_
          have BK222 := n9_
          have BK223 := n10_
          have BK260 := n11_
          have BK272 := n12_
          have HB := n13_
          clear n0_ n1_ n2_ n3_ n4_ n5_ n6_ n7_ n8_ n9_ n10_ n11_ n12_ n13_
          (try clear hb)
          (try clear hb2)
          (try clear hk)
          (try clear hi)
          refine hK.out _ _ ⟨(blk_cell BK272.out 0).trans rfl, (blk_cell BK272.out 1).trans rfl, (blk_cell BK272.out 2).trans rfl, (blk_cell BK272.out 3).trans rfl, (blk_cell BK272.out 4).trans rfl, (blk_cell BK223.out 0).trans rfl, (blk_cell BK223.out 1).trans rfl, (blk_cell BK223.out 2).trans rfl, (blk_cell BK223.out 3).trans rfl, (blk_cell BK223.out 4).trans rfl⟩ (fun hHeld => ?_)
          clear hK K
          refine norm_ (a' := ?_) ?_ ?_
          rotate_left
          ·show Act.put _ (some 43) _ = _
           simp only [Act.put, List.setIfInBounds_toArray, List.set_cons_zero, List.set_cons_succ, i64_w, i32_w]
           rfl
          refine pure_ (i := 4) (N := some 44) (v := ?_) (a' := ?_) #[true, true, true, true, true] rfl rfl (by kernel_rfl) (fun _ _ _ h => h) (Or.inl ⟨by rfl, ?_⟩) ?_ ?_
          rotate_left
          ·intro w'
           go_simp
           with_reducible rfl
          rotate_left
          ·simp only [Act.put, List.setIfInBounds_toArray, List.set_cons_zero, List.set_cons_succ, i64_w, i32_w]
           rfl
          refine done_ (by kernel_rfl) ?_
          try go_wp2
          go_ret
          exact ⟨by first | rfl | (simp [errW_none, errW_some] <;> rfl) | (simp [*, errW_none, errW_some] <;> rfl), by repeat (first | (with_reducible first | exact HB.out | apply below_alloc | apply pw_below_drewN | apply below_drew1 | refine below_set ?_ GE222.out | refine below_set ?_ GE223.out | refine below_set ?_ GE260.out | refine below_set ?_ GE272.out) | exact HB.out)⟩
         ·replace c69 := Bool.eq_false_iff.mpr c69
          subst c69
          have H1 : (some false) = some r := by rw [if_neg (show ¬ (false = true) by decide)] at H; exact H
          clear H
          have H := H1
          clear H1
          obtain rfl := Option.some.inj H
          try go_wp2
          have n0_ := Aside0.mk (Kd.R_drew HO_261002.out)
          have n1_ := Aside0.mk (Kd.R_drew HO_261003.out)
          have n2_ := Aside0.mk (Kd.R_drew HO_261004.out)
          have n3_ := Aside0.mk (Kd.R_drew HO_273002.out)
          have n4_ := Aside0.mk (Kd.R_drew HO_273003.out)
          have n5_ := Aside0.mk (Kd.R_drew HO_273004.out)
          have n6_ := Aside0.mk (blk_drew BK222.out)
          have n7_ := Aside0.mk (blk_drew BK223.out)
          have n8_ := Aside0.mk (blk_drew BK260.out)
          have n9_ := Aside0.mk (blk_drew BK272.out)
          have n10_ := Aside0.mk (below_drew1 HB.out)
          clear HO_261002
          clear HO_261003
          clear HO_261004
          clear HO_273002
          clear HO_273003
          clear HO_273004
          clear BK222
          clear BK223
          clear BK260
          clear BK272
          clear HB
          have HO_261002 := n0_
          have HO_261003 := n1_
          have HO_261004 := n2_
          have HO_273002 := n3_
          have HO_273003 := n4_
          have HO_273004 := n5_
          have BK222 := n6_
          have BK223 := n7_
          have BK260 := n8_
          have BK272 := n9_
          have HB := n10_
          clear n0_ n1_ n2_ n3_ n4_ n5_ n6_ n7_ n8_ n9_ n10_
          refine start_ (n := 5) (S := fun w' => w'.cell? ⟨gb272, 0, none⟩ = some (.int .i8 t261) ∧ w'.cell? ⟨gb272, 1, none⟩ = some (.int .i8 t262) ∧ w'.cell? ⟨gb272, 2, none⟩ = some (.slice Ao51 t263.length co51) ∧ w'.cell? ⟨gb272, 3, none⟩ = some (.slice Ao52 t266.length co52) ∧ w'.cell? ⟨gb272, 4, none⟩ = some (.slice Ao53 t269.length co53) ∧ w'.cell? ⟨gb223, 0, none⟩ = some (.int .i8 a1_0) ∧ w'.cell? ⟨gb223, 1, none⟩ = some (.int .i8 a1_1) ∧ w'.cell? ⟨gb223, 2, none⟩ = some (.slice A1_2 l1_2.length c1_2) ∧ w'.cell? ⟨gb223, 3, none⟩ = some (.slice A1_3 l1_3.length c1_3) ∧ w'.cell? ⟨gb223, 4, none⟩ = some (.slice A1_4 l1_4.length c1_4)) (ds := []) #[false, false, false, false, false] (by kernel_rfl) rfl rfl ⟨(blk_cell BK272.out 0).trans rfl, (blk_cell BK272.out 1).trans rfl, (blk_cell BK272.out 2).trans rfl, (blk_cell BK272.out 3).trans rfl, (blk_cell BK272.out 4).trans rfl, (blk_cell BK223.out 0).trans rfl, (blk_cell BK223.out 1).trans rfl, (blk_cell BK223.out 2).trans rfl, (blk_cell BK223.out 3).trans rfl, (blk_cell BK223.out 4).trans rfl⟩ (fun hHeld => ?_)
          generalize wc.drew = w76 at HO_261002 HO_261003 HO_261004 HO_273002 HO_273003 HO_273004 BK222 BK223 BK260 BK272 HB hHeld ⊢
          refine take_ (i := 0) (N := some 40) (v := ?_) (a' := ?_) #[true, false, false, false, false] rfl rfl (by kernel_rfl) (fun _ _ _ h => h) (Or.inl ⟨by rfl, ?_⟩) hHeld ?_ ?_
          rotate_left
          ·rintro w' ⟨s0, s1, s2, s3, s4, s5, s6, s7, s8, s9⟩
           go_simp
           with_reducible rfl
          rotate_left
          ·simp only [Act.put, List.setIfInBounds_toArray, List.set_cons_zero, List.set_cons_succ, i64_w, i32_w]
           rfl
          refine take_ (i := 1) (N := some 41) (v := ?_) (a' := ?_) #[true, true, false, false, false] rfl rfl (by kernel_rfl) (fun _ _ _ h => h) (Or.inl ⟨by rfl, ?_⟩) hHeld ?_ ?_
          rotate_left
          ·rintro w' ⟨s0, s1, s2, s3, s4, s5, s6, s7, s8, s9⟩
           go_simp
           with_reducible rfl
          rotate_left
          ·simp only [Act.put, List.setIfInBounds_toArray, List.set_cons_zero, List.set_cons_succ, i64_w, i32_w]
           rfl
          refine one_ (i := 2) (N := some 42) #[true, true, true, false, false] rfl rfl (by kernel_rfl) (by decide) (fun K hK => ?_)
          refine goes_ Try.func23 (by kernel_rfl) rfl #[.agg #[.int .i8 a1_0, .int .i8 a1_1, .slice A1_2 l1_2.length c1_2, .slice A1_3 l1_3.length c1_3, .slice A1_4 l1_4.length c1_4]] (by rfl) rfl rfl (by (try simp only [List.map_toArray, List.map_cons, List.map_nil]); first | done | rfl | (simp only [List.length_drop, List.length_take]; rfl)) ?_
          with_reducible refine (laws_toMachine.calls kj58 a1_0 a1_1 _ _ l1_2 _ _ l1_3 _ _ l1_4 t286 t287 t288 t291 t294 _ ?side1 ?side2 ?side3 ?side4 ?side5 ?side6 A67.out).mono ?_
          (case side1 => repeat (first | exact (Kd.C_below HR1_2.out HB.out) | (with_reducible refine Kd.C_alloc ?_ _) | (with_reducible refine Kd.C_drewN ?_ _) | (with_reducible refine Kd.C_drew ?_)))
          (case side2 => exact HC1_2.out)
          (case side3 => repeat (first | exact (Kd.C_below HR1_3.out HB.out) | (with_reducible refine Kd.C_alloc ?_ _) | (with_reducible refine Kd.C_drewN ?_ _) | (with_reducible refine Kd.C_drew ?_)))
          (case side4 => exact HC1_3.out)
          (case side5 => repeat (first | exact (Kd.C_below HR1_4.out HB.out) | (with_reducible refine Kd.C_alloc ?_ _) | (with_reducible refine Kd.C_drewN ?_ _) | (with_reducible refine Kd.C_drew ?_)))
          (case side6 => exact HC1_4.out)
          rintro e w77 ⟨v289, v292, v295, rfl, ho0, ho1, ho2, hb⟩
          refine ⟨_, rfl, ?_⟩
          have n0_ := Aside0.mk (Kd.R_elder' (by (with_reducible repeat (first | apply Kd.R_alloc | apply Kd.R_drewN | apply Kd.R_drew)); exact HO_261002.out) (Kd.R_base ho0) hb)
          have n1_ := Aside0.mk (Kd.R_elder' (by (with_reducible repeat (first | apply Kd.R_alloc | apply Kd.R_drewN | apply Kd.R_drew)); exact HO_261003.out) (Kd.R_base ho1) hb)
          have n2_ := Aside0.mk (Kd.R_elder' (by (with_reducible repeat (first | apply Kd.R_alloc | apply Kd.R_drewN | apply Kd.R_drew)); exact HO_261004.out) (Kd.R_base ho2) hb)
          have n3_ := Aside0.mk (Kd.R_elder' (by (with_reducible repeat (first | apply Kd.R_alloc | apply Kd.R_drewN | apply Kd.R_drew)); exact HO_273002.out) (Kd.R_base ho0) hb)
          have n4_ := Aside0.mk (Kd.R_elder' (by (with_reducible repeat (first | apply Kd.R_alloc | apply Kd.R_drewN | apply Kd.R_drew)); exact HO_273003.out) (Kd.R_base ho1) hb)
          have n5_ := Aside0.mk (Kd.R_elder' (by (with_reducible repeat (first | apply Kd.R_alloc | apply Kd.R_drewN | apply Kd.R_drew)); exact HO_273004.out) (Kd.R_base ho2) hb)
          have n6_ := Aside0.mk (Kd.R_lower (Kd.R_new' (Kd.R_new' ho0 (Kd.R_lt (by (with_reducible repeat (first | apply Kd.R_alloc | apply Kd.R_drewN | apply Kd.R_drew)); exact HO_261002.out))) (Kd.R_lt (by (with_reducible repeat (first | apply Kd.R_alloc | apply Kd.R_drewN | apply Kd.R_drew)); exact HO_273002.out))) (below_size (by repeat (first | (with_reducible first | exact HB.out | apply below_alloc | apply pw_below_drewN | apply below_drew1 | refine below_set ?_ GE222.out | refine below_set ?_ GE223.out | refine below_set ?_ GE260.out | refine below_set ?_ GE272.out) | exact HB.out))))
          have n7_ := Aside0.mk (Kd.R_lower (Kd.R_new' (Kd.R_new' ho1 (Kd.R_lt (by (with_reducible repeat (first | apply Kd.R_alloc | apply Kd.R_drewN | apply Kd.R_drew)); exact HO_261003.out))) (Kd.R_lt (by (with_reducible repeat (first | apply Kd.R_alloc | apply Kd.R_drewN | apply Kd.R_drew)); exact HO_273003.out))) (below_size (by repeat (first | (with_reducible first | exact HB.out | apply below_alloc | apply pw_below_drewN | apply below_drew1 | refine below_set ?_ GE222.out | refine below_set ?_ GE223.out | refine below_set ?_ GE260.out | refine below_set ?_ GE272.out) | exact HB.out))))
          have n8_ := Aside0.mk (Kd.R_lower (Kd.R_new' (Kd.R_new' ho2 (Kd.R_lt (by (with_reducible repeat (first | apply Kd.R_alloc | apply Kd.R_drewN | apply Kd.R_drew)); exact HO_261004.out))) (Kd.R_lt (by (with_reducible repeat (first | apply Kd.R_alloc | apply Kd.R_drewN | apply Kd.R_drew)); exact HO_273004.out))) (below_size (by repeat (first | (with_reducible first | exact HB.out | apply below_alloc | apply pw_below_drewN | apply below_drew1 | refine below_set ?_ GE222.out | refine below_set ?_ GE223.out | refine below_set ?_ GE260.out | refine below_set ?_ GE272.out) | exact HB.out))))
          have n9_ := Aside0.mk (blk_below (g := gb222) (o := .cells #[.int .i8 a0_0, .int .i8 a0_1, .slice A0_2 l0_2.length c0_2, .slice A0_3 l0_3.length c0_3, .slice A0_4 l0_4.length c0_4] 29 (0, 0)) (by (with_reducible repeat (first | refine blk_drewN ?_ _ | refine blk_drew ?_ | refine blk_alloc ?_ _)); exact BK222.out) hb)
          have n10_ := Aside0.mk (blk_below (g := gb223) (o := .cells #[.int .i8 a1_0, .int .i8 a1_1, .slice A1_2 l1_2.length c1_2, .slice A1_3 l1_3.length c1_3, .slice A1_4 l1_4.length c1_4] 29 (0, 0)) (by (with_reducible repeat (first | refine blk_drewN ?_ _ | refine blk_drew ?_ | refine blk_alloc ?_ _)); exact BK223.out) hb)
          have n11_ := Aside0.mk (blk_below (g := gb260) (o := .cells #[.int .i8 t249, .int .i8 t250, .slice Ao41 t251.length co41, .slice Ao42 t254.length co42, .slice Ao43 t257.length co43] 41 (0, 0)) (by (with_reducible repeat (first | refine blk_drewN ?_ _ | refine blk_drew ?_ | refine blk_alloc ?_ _)); exact BK260.out) hb)
          have n12_ := Aside0.mk (blk_below (g := gb272) (o := .cells #[.int .i8 t261, .int .i8 t262, .slice Ao51 t263.length co51, .slice Ao52 t266.length co52, .slice Ao53 t269.length co53] 41 (0, 0)) (by (with_reducible repeat (first | refine blk_drewN ?_ _ | refine blk_drew ?_ | refine blk_alloc ?_ _)); exact BK272.out) hb)
          have n13_ := Aside0.mk (below_step (by repeat (first | (with_reducible first | exact HB.out | apply below_alloc | apply pw_below_drewN | apply below_drew1 | refine below_set ?_ GE222.out | refine below_set ?_ GE223.out | refine below_set ?_ GE260.out | refine below_set ?_ GE272.out) | exact HB.out)) hb)
          clear HO_261002
          clear HO_261003
          clear HO_261004
          clear HO_273002
          clear HO_273003
          clear HO_273004
          clear BK222
          clear BK223
          clear BK260
          clear BK272
          clear HB
          have HO_261002 := n0_
          have HO_261003 := n1_
          have HO_261004 := n2_
          have HO_273002 := n3_
          have HO_273003 := n4_
          have HO_273004 := n5_
          have HO290 := n6_
          have HO293 := n7_
          have HO296 := n8_
          have BK222 := n9_
          have BK223 := n10_
          have BK260 := n11_
          have BK272 := n12_
          have HB := n13_
          clear n0_ n1_ n2_ n3_ n4_ n5_ n6_ n7_ n8_ n9_ n10_ n11_ n12_ n13_
          (try clear hb)
          (try clear hb2)
          (try clear hk)
          (try clear hi)
          (try clear ho0)
          (try clear ho1)
          (try clear ho2)
          obtain ⟨Ao78, co78, eo78⟩ := Kd.R_slice HO290.out
          (first | subst eo78 | (injection eo78 with f1_ f2_ f3_; have f4_ := f1_.symm; have f5_ := f3_.symm; clear f1_ f2_ f3_; subst f4_; subst f5_))
          obtain ⟨Ao79, co79, eo79⟩ := Kd.R_slice HO293.out
          (first | subst eo79 | (injection eo79 with f1_ f2_ f3_; have f4_ := f1_.symm; have f5_ := f3_.symm; clear f1_ f2_ f3_; subst f4_; subst f5_))
          obtain ⟨Ao80, co80, eo80⟩ := Kd.R_slice HO296.out
          (first | subst eo80 | (injection eo80 with f1_ f2_ f3_; have f4_ := f1_.symm; have f5_ := f3_.symm; clear f1_ f2_ f3_; subst f4_; subst f5_))
          refine hK.out _ _ ⟨(blk_cell BK272.out 0).trans rfl, (blk_cell BK272.out 1).trans rfl, (blk_cell BK272.out 2).trans rfl, (blk_cell BK272.out 3).trans rfl, (blk_cell BK272.out 4).trans rfl, (blk_cell BK223.out 0).trans rfl, (blk_cell BK223.out 1).trans rfl, (blk_cell BK223.out 2).trans rfl, (blk_cell BK223.out 3).trans rfl, (blk_cell BK223.out 4).trans rfl⟩ (fun hHeld => ?_)
          clear hK K
          refine norm_ (a' := ?_) ?_ ?_
          rotate_left
          ·show Act.put _ (some 42) _ = _
           simp only [Act.put, List.setIfInBounds_toArray, List.set_cons_zero, List.set_cons_succ, i64_w, i32_w]
           rfl
          refine one_ (i := 3) (N := some 43) #[true, true, true, true, false] rfl rfl (by kernel_rfl) (by decide) (fun K hK => ?_)
          refine goes_ Try.func27 (by kernel_rfl) rfl #[.agg #[.int .i8 t261, .int .i8 t262, .slice Ao51 t263.length co51, .slice Ao52 t266.length co52, .slice Ao53 t269.length co53], .agg #[.int .i8 t286, .int .i8 t287, .slice Ao78 t288.length co78, .slice Ao79 t291.length co79, .slice Ao80 t294.length co80]] (by rfl) rfl rfl (by (try simp only [List.map_toArray, List.map_cons, List.map_nil]); first | done | rfl | (simp only [List.length_drop, List.length_take]; rfl)) ?_
          with_reducible refine (laws_eqMachine.calls kj58 t261 t262 _ _ t263 _ _ t266 _ _ t269 t286 t287 _ _ t288 _ _ t291 _ _ t294 false _ ?side1 ?side2 ?side3 ?side4 ?side5 ?side6 ?side7 ?side8 ?side9 ?side10 ?side11 ?side12 A68.out).mono ?_
          (case side1 => repeat (first | exact (Kd.R_reads' HO_273002.out).2.2 | (with_reducible refine Kd.C_alloc ?_ _) | (with_reducible refine Kd.C_drewN ?_ _) | (with_reducible refine Kd.C_drew ?_)))
          (case side2 => exact (Kd.R_reads' HO_273002.out).2.1)
          (case side3 => repeat (first | exact (Kd.R_reads' HO_273003.out).2.2 | (with_reducible refine Kd.C_alloc ?_ _) | (with_reducible refine Kd.C_drewN ?_ _) | (with_reducible refine Kd.C_drew ?_)))
          (case side4 => exact (Kd.R_reads' HO_273003.out).2.1)
          (case side5 => repeat (first | exact (Kd.R_reads' HO_273004.out).2.2 | (with_reducible refine Kd.C_alloc ?_ _) | (with_reducible refine Kd.C_drewN ?_ _) | (with_reducible refine Kd.C_drew ?_)))
          (case side6 => exact (Kd.R_reads' HO_273004.out).2.1)
          (case side7 => repeat (first | exact (Kd.R_reads' HO290.out).2.2 | (with_reducible refine Kd.C_alloc ?_ _) | (with_reducible refine Kd.C_drewN ?_ _) | (with_reducible refine Kd.C_drew ?_)))
          (case side8 => exact (Kd.R_reads' HO290.out).2.1)
          (case side9 => repeat (first | exact (Kd.R_reads' HO293.out).2.2 | (with_reducible refine Kd.C_alloc ?_ _) | (with_reducible refine Kd.C_drewN ?_ _) | (with_reducible refine Kd.C_drew ?_)))
          (case side10 => exact (Kd.R_reads' HO293.out).2.1)
          (case side11 => repeat (first | exact (Kd.R_reads' HO296.out).2.2 | (with_reducible refine Kd.C_alloc ?_ _) | (with_reducible refine Kd.C_drewN ?_ _) | (with_reducible refine Kd.C_drew ?_)))
          (case side12 => exact (Kd.R_reads' HO296.out).2.1)
          rintro e w81 ⟨rfl, hb⟩
          refine ⟨_, rfl, ?_⟩
          have n0_ := Aside0.mk (Kd.R_below (by (with_reducible repeat (first | apply Kd.R_alloc | apply Kd.R_drewN | apply Kd.R_drew)); exact HO_261002.out) hb)
          have n1_ := Aside0.mk (Kd.R_below (by (with_reducible repeat (first | apply Kd.R_alloc | apply Kd.R_drewN | apply Kd.R_drew)); exact HO_261003.out) hb)
          have n2_ := Aside0.mk (Kd.R_below (by (with_reducible repeat (first | apply Kd.R_alloc | apply Kd.R_drewN | apply Kd.R_drew)); exact HO_261004.out) hb)
          have n3_ := Aside0.mk (Kd.R_below (by (with_reducible repeat (first | apply Kd.R_alloc | apply Kd.R_drewN | apply Kd.R_drew)); exact HO_273002.out) hb)
          have n4_ := Aside0.mk (Kd.R_below (by (with_reducible repeat (first | apply Kd.R_alloc | apply Kd.R_drewN | apply Kd.R_drew)); exact HO_273003.out) hb)
          have n5_ := Aside0.mk (Kd.R_below (by (with_reducible repeat (first | apply Kd.R_alloc | apply Kd.R_drewN | apply Kd.R_drew)); exact HO_273004.out) hb)
          have n6_ := Aside0.mk (Kd.R_below (by (with_reducible repeat (first | apply Kd.R_alloc | apply Kd.R_drewN | apply Kd.R_drew)); exact HO290.out) hb)
          have n7_ := Aside0.mk (Kd.R_below (by (with_reducible repeat (first | apply Kd.R_alloc | apply Kd.R_drewN | apply Kd.R_drew)); exact HO293.out) hb)
          have n8_ := Aside0.mk (Kd.R_below (by (with_reducible repeat (first | apply Kd.R_alloc | apply Kd.R_drewN | apply Kd.R_drew)); exact HO296.out) hb)
          have n9_ := Aside0.mk (blk_below (g := gb222) (o := .cells #[.int .i8 a0_0, .int .i8 a0_1, .slice A0_2 l0_2.length c0_2, .slice A0_3 l0_3.length c0_3, .slice A0_4 l0_4.length c0_4] 29 (0, 0)) (by (with_reducible repeat (first | refine blk_drewN ?_ _ | refine blk_drew ?_ | refine blk_alloc ?_ _)); exact BK222.out) hb)
          have n10_ := Aside0.mk (blk_below (g := gb223) (o := .cells #[.int .i8 a1_0, .int .i8 a1_1, .slice A1_2 l1_2.length c1_2, .slice A1_3 l1_3.length c1_3, .slice A1_4 l1_4.length c1_4] 29 (0, 0)) (by (with_reducible repeat (first | refine blk_drewN ?_ _ | refine blk_drew ?_ | refine blk_alloc ?_ _)); exact BK223.out) hb)
          have n11_ := Aside0.mk (blk_below (g := gb260) (o := .cells #[.int .i8 t249, .int .i8 t250, .slice Ao41 t251.length co41, .slice Ao42 t254.length co42, .slice Ao43 t257.length co43] 41 (0, 0)) (by (with_reducible repeat (first | refine blk_drewN ?_ _ | refine blk_drew ?_ | refine blk_alloc ?_ _)); exact BK260.out) hb)
          have n12_ := Aside0.mk (blk_below (g := gb272) (o := .cells #[.int .i8 t261, .int .i8 t262, .slice Ao51 t263.length co51, .slice Ao52 t266.length co52, .slice Ao53 t269.length co53] 41 (0, 0)) (by (with_reducible repeat (first | refine blk_drewN ?_ _ | refine blk_drew ?_ | refine blk_alloc ?_ _)); exact BK272.out) hb)
          have n13_ := Aside0.mk (below_step (by repeat (first | (with_reducible first | exact HB.out | apply below_alloc | apply pw_below_drewN | apply below_drew1 | refine below_set ?_ GE222.out | refine below_set ?_ GE223.out | refine below_set ?_ GE260.out | refine below_set ?_ GE272.out) | exact HB.out)) hb)
          clear HO_261002
          clear HO_261003
          clear HO_261004
          clear HO_273002
          clear HO_273003
          clear HO_273004
          clear HO290
          clear HO293
          clear HO296
          clear BK222
          clear BK223
          clear BK260
          clear BK272
          clear HB
          have HO_261002 := n0_
          have HO_261003 := n1_
          have HO_261004 := n2_
          have HO_273002 := n3_
          have HO_273003 := n4_
          have HO_273004 := n5_
          have HO290 := n6_
          have HO293 := n7_
          have HO296 := n8_
          have BK222 := n9_
          have BK223 := n10_
          have BK260 := n11_
          have BK272 := n12_
          have HB := n13_
          clear n0_ n1_ n2_ n3_ n4_ n5_ n6_ n7_ n8_ n9_ n10_ n11_ n12_ n13_
          (try clear hb)
          (try clear hb2)
          (try clear hk)
          (try clear hi)
          refine hK.out _ _ ⟨(blk_cell BK272.out 0).trans rfl, (blk_cell BK272.out 1).trans rfl, (blk_cell BK272.out 2).trans rfl, (blk_cell BK272.out 3).trans rfl, (blk_cell BK272.out 4).trans rfl, (blk_cell BK223.out 0).trans rfl, (blk_cell BK223.out 1).trans rfl, (blk_cell BK223.out 2).trans rfl, (blk_cell BK223.out 3).trans rfl, (blk_cell BK223.out 4).trans rfl⟩ (fun hHeld => ?_)
          clear hK K
          refine norm_ (a' := ?_) ?_ ?_
          rotate_left
          ·show Act.put _ (some 43) _ = _
           simp only [Act.put, List.setIfInBounds_toArray, List.set_cons_zero, List.set_cons_succ, i64_w, i32_w]
           rfl
          refine pure_ (i := 4) (N := some 44) (v := ?_) (a' := ?_) #[true, true, true, true, true] rfl rfl (by kernel_rfl) (fun _ _ _ h => h) (Or.inl ⟨by rfl, ?_⟩) ?_ ?_
          rotate_left
          ·intro w'
           go_simp
           with_reducible rfl
          rotate_left
          ·simp only [Act.put, List.setIfInBounds_toArray, List.set_cons_zero, List.set_cons_succ, i64_w, i32_w]
           rfl
          refine done_ (by kernel_rfl) ?_
          try go_wp2
          go_ret
          exact ⟨by first | rfl | (simp [errW_none, errW_some] <;> rfl) | (simp [*, errW_none, errW_some] <;> rfl), by repeat (first | (with_reducible first | exact HB.out | apply below_alloc | apply pw_below_drewN | apply below_drew1 | refine below_set ?_ GE222.out | refine below_set ?_ GE223.out | refine below_set ?_ GE260.out | refine below_set ?_ GE272.out) | exact HB.out)⟩

end Go.Proofs.Ytffnfpnajkgnaaa.PFnExactSameMachine
