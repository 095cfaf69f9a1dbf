-- squeezed
-- WRITTEN by xprint.py, a program of this session's. Not trusted: Lean checks it.
import Derived.Test.YtmpmanfoiocfgaaPFnExactNeedsOfx0
import Derived.Test.YtmpmanfoiocfgaaPFnExactNeedsOfx1
import Derived.Test.YtmpmanfoiocfgaaPFnExactNeedsOfx2
import Derived.Test.YtmpmanfoiocfgaaPFnExactNeedsOfx6
import Derived.Test.YtmpmanfoiocfgaaPFnExactNeedsOfx11
import Derived.Test.YtmpmanfoiocfgaaPFnExactNeedsOfx12
namespace Go.Proofs.Ytmpmanfoiocfgaa.PFnExactNeedsOf
open Go.RowKit Go.Proofs.YtmpmanfoiocfgaaW.PrintWords Go.Proofs.YtmpmanfoiocfgaaW.PrintLast Go.Proofs.YtmpmanfoiocfgaaW.PrintMore Go.Proofs.YtmpmanfoiocfgaaX
attribute [local go_sem] max2_int min2_int max_two min_two max_three min_three max_four min_four   -- for this text's walks alone
set_option linter.unusedVariables false
set_option linter.unusedSimpArgs false

/-! ### laws_FnExactNeedsOf: function 16 -/
mutual
def laws_FnExactNeedsOf.j0 : Nat → Int → List (S131) → List Int → Option (Bool)
 | 0, _, _, _ => none
 | k + 1, x313000, x313001, x313002 => (laws_toNetwork.f k x313000 x313001 x313002).bind fun bt314 => ((spec_NeedsOf.f k bt314.1 bt314.2.1 bt314.2.2).bind fun bt321 => ((laws_toNetwork.f k x313000 x313001 x313002).bind fun bt325 => ((impl_NeedsOf.f k bt325.1 bt325.2.1 bt325.2.2).bind fun bt333 => ((laws_eqBoolS.f k bt333.1 bt321.1).bind fun t337 => (if t337 = true then (laws_FnExactNeedsOf.j1 k bt321.1 bt321.2 bt333.1 bt333.2 (bt333.2 != bt321.2) x313000 x313001 x313002 bt325.1 bt325.2.1 bt325.2.2) else (laws_FnExactNeedsOf.j1 k bt321.1 bt321.2 bt333.1 bt333.2 true x313000 x313001 x313002 bt325.1 bt325.2.1 bt325.2.2))))))
def laws_FnExactNeedsOf.j1 : Nat → List Bool → Int → List Bool → Int → Bool → Int → List (S131) → List Int → Int → List (S81) → List Int → Option (Bool)
 | 0, _, _, _, _, _, _, _, _, _, _, _ => none
 | k + 1, x4, x5, x7, x8, x40, x313000, x313001, x313002, x333000, x333001, x333002 => if x40 = true then (some false) else (laws_FnExactNeedsOf.j2 k x4 x5 x7 x8 x313000 x313001 x313002 x333000 x333001 x333002)
def laws_FnExactNeedsOf.j2 : Nat → List Bool → Int → List Bool → Int → Int → List (S131) → List Int → Int → List (S81) → List Int → Option (Bool)
 | 0, _, _, _, _, _, _, _, _, _, _ => none
 | k + 1, x4, x5, x7, x8, x313000, x313001, x313002, x333000, x333001, x333002 => (laws_toNetwork.f k x313000 x313001 x313002).bind fun bt338 => ((laws_eqNetwork.f k x333000 x333001 x333002 bt338.1 bt338.2.1 bt338.2.2).bind fun t345 => (if t345 = true then (laws_FnExactNeedsOf.j3 k x4 x5 x7 x8 x313000 x313001 x313002 x333000 x333001 x333002) else (some false)))
def laws_FnExactNeedsOf.j3 : Nat → List Bool → Int → List Bool → Int → Int → List (S131) → List Int → Int → List (S81) → List Int → Option (Bool)
 | 0, _, _, _, _, _, _, _, _, _, _ => none
 | k + 1, x4, x5, x7, x8, x313000, x313001, x313002, x333000, x333001, x333002 => (laws_markNetwork.f k x333000 x333001 x333002 1).bind fun bt346 => (if bt346.1 < 0 then (laws_FnExactNeedsOf.j4 k x4 x5 x7 true x313000 x313001 x313002) else ((laws_eqBoolS.f k x7 x4).bind fun t349 => (if t349 = true then (laws_FnExactNeedsOf.j4 k x4 x5 x7 (x8 != x5) x313000 x313001 x313002) else (laws_FnExactNeedsOf.j4 k x4 x5 x7 true x313000 x313001 x313002))))
def laws_FnExactNeedsOf.j4 : Nat → List Bool → Int → List Bool → Bool → Int → List (S131) → List Int → Option (Bool)
 | 0, _, _, _, _, _, _, _ => none
 | k + 1, x4, x5, x7, x61, x313000, x313001, x313002 => if x61 = true then (some false) else (laws_FnExactNeedsOf.j5 k x4 x5 x7 x313000 x313001 x313002)
def laws_FnExactNeedsOf.j5 : Nat → List Bool → Int → List Bool → Int → List (S131) → List Int → Option (Bool)
 | 0, _, _, _, _, _, _ => none
 | k + 1, x4, x5, x7, x313000, x313001, x313002 => (laws_markBoolS.f k x7 1).bind fun bt350 => ((laws_heldBoolS.f k bt350.2 1).bind fun t352 => (if t352 < 0 then (some false) else (laws_FnExactNeedsOf.j6 k x4 x5 bt350.2 bt350.1 t352 x313000 x313001 x313002)))
def laws_FnExactNeedsOf.j6 : Nat → List Bool → Int → List Bool → Int → Int → Int → List (S131) → List Int → Option (Bool)
 | 0, _, _, _, _, _, _, _, _ => none
 | k + 1, x4, x5, x7, x10, x11, x313000, x313001, x313002 => if x11 = x10 then (laws_FnExactNeedsOf.j7 k x4 x5 x7 x10 x313000 x313001 x313002) else (some false)
def laws_FnExactNeedsOf.j7 : Nat → List Bool → Int → List Bool → Int → Int → List (S131) → List Int → Option (Bool)
 | 0, _, _, _, _, _, _, _ => none
 | k + 1, x4, x5, x7, x10, x313000, x313001, x313002 => (laws_toNetwork.f k x313000 x313001 x313002).bind fun bt353 => ((impl_NeedsOf.f k bt353.1 bt353.2.1 bt353.2.2).bind fun bt360 => ((laws_eqBoolS.f k bt360.1 x4).bind fun t364 => (if t364 = true then (laws_FnExactNeedsOf.j8 k x7 x10 (bt360.2 != x5)) else (laws_FnExactNeedsOf.j8 k x7 x10 true))))
def laws_FnExactNeedsOf.j8 : Nat → List Bool → Int → Bool → Option (Bool)
 | 0, _, _, _ => none
 | k + 1, x7, x10, x87 => if x87 = true then (some false) else (laws_FnExactNeedsOf.j9 k x7 x10)
def laws_FnExactNeedsOf.j9 : Nat → List Bool → Int → Option (Bool)
 | 0, _, _ => none
 | k + 1, x7, x10 => (laws_heldBoolS.f k x7 1).bind fun t365 => (if t365 < 0 then (some false) else (if t365 = x10 then (some true) else (some false)))
end
def laws_FnExactNeedsOf.f (k : Nat) (a0_0 : Int) (l0_1 : List (S131)) (l0_2 : List Int) : Option (Bool) := (laws_szNetwork.f a0_0 l0_1 l0_2 1048576).bind fun t313 => (if t313 < 0 then (some true) else (laws_FnExactNeedsOf.j0 k a0_0 l0_1 l0_2))
theorem laws_FnExactNeedsOf.mono_l : ∀ k, (∀ y0 y1 y2, LeO (laws_FnExactNeedsOf.j0 k y0 y1 y2) (laws_FnExactNeedsOf.j0 (k + 1) y0 y1 y2)) ∧ (∀ y0 y1 y2 y3 y4 y5 y6 y7 y8 y9 y10, LeO (laws_FnExactNeedsOf.j1 k y0 y1 y2 y3 y4 y5 y6 y7 y8 y9 y10) (laws_FnExactNeedsOf.j1 (k + 1) y0 y1 y2 y3 y4 y5 y6 y7 y8 y9 y10)) ∧ (∀ y0 y1 y2 y3 y4 y5 y6 y7 y8 y9, LeO (laws_FnExactNeedsOf.j2 k y0 y1 y2 y3 y4 y5 y6 y7 y8 y9) (laws_FnExactNeedsOf.j2 (k + 1) y0 y1 y2 y3 y4 y5 y6 y7 y8 y9)) ∧ (∀ y0 y1 y2 y3 y4 y5 y6 y7 y8 y9, LeO (laws_FnExactNeedsOf.j3 k y0 y1 y2 y3 y4 y5 y6 y7 y8 y9) (laws_FnExactNeedsOf.j3 (k + 1) y0 y1 y2 y3 y4 y5 y6 y7 y8 y9)) ∧ (∀ y0 y1 y2 y3 y4 y5 y6, LeO (laws_FnExactNeedsOf.j4 k y0 y1 y2 y3 y4 y5 y6) (laws_FnExactNeedsOf.j4 (k + 1) y0 y1 y2 y3 y4 y5 y6)) ∧ (∀ y0 y1 y2 y3 y4 y5, LeO (laws_FnExactNeedsOf.j5 k y0 y1 y2 y3 y4 y5) (laws_FnExactNeedsOf.j5 (k + 1) y0 y1 y2 y3 y4 y5)) ∧ (∀ y0 y1 y2 y3 y4 y5 y6 y7, LeO (laws_FnExactNeedsOf.j6 k y0 y1 y2 y3 y4 y5 y6 y7) (laws_FnExactNeedsOf.j6 (k + 1) y0 y1 y2 y3 y4 y5 y6 y7)) ∧ (∀ y0 y1 y2 y3 y4 y5 y6, LeO (laws_FnExactNeedsOf.j7 k y0 y1 y2 y3 y4 y5 y6) (laws_FnExactNeedsOf.j7 (k + 1) y0 y1 y2 y3 y4 y5 y6)) ∧ (∀ y0 y1 y2, LeO (laws_FnExactNeedsOf.j8 k y0 y1 y2) (laws_FnExactNeedsOf.j8 (k + 1) y0 y1 y2)) ∧ (∀ y0 y1, LeO (laws_FnExactNeedsOf.j9 k y0 y1) (laws_FnExactNeedsOf.j9 (k + 1) y0 y1))
 | 0 => ⟨fun _ _ _ r h => by simp [laws_FnExactNeedsOf.j0] at h, fun _ _ _ _ _ _ _ _ _ _ _ r h => by simp [laws_FnExactNeedsOf.j1] at h, fun _ _ _ _ _ _ _ _ _ _ r h => by simp [laws_FnExactNeedsOf.j2] at h, fun _ _ _ _ _ _ _ _ _ _ r h => by simp [laws_FnExactNeedsOf.j3] at h, fun _ _ _ _ _ _ _ r h => by simp [laws_FnExactNeedsOf.j4] at h, fun _ _ _ _ _ _ r h => by simp [laws_FnExactNeedsOf.j5] at h, fun _ _ _ _ _ _ _ _ r h => by simp [laws_FnExactNeedsOf.j6] at h, fun _ _ _ _ _ _ _ r h => by simp [laws_FnExactNeedsOf.j7] at h, fun _ _ _ r h => by simp [laws_FnExactNeedsOf.j8] at h, fun _ _ r h => by simp [laws_FnExactNeedsOf.j9] at h⟩
 | k + 1 => by
  obtain ⟨ih0, ih1, ih2, ih3, ih4, ih5, ih6, ih7, ih8, ih9⟩ := laws_FnExactNeedsOf.mono_l k
  refine ⟨?_, ?_, ?_, ?_, ?_, ?_, ?_, ?_, ?_, ?_⟩
  ·intro y0 y1 y2
   unfold laws_FnExactNeedsOf.j0
   repeat' first
   | (with_reducible exact ih0 _ _ _)
   | (with_reducible exact ih1 _ _ _ _ _ _ _ _ _ _ _)
   | (with_reducible exact ih2 _ _ _ _ _ _ _ _ _ _)
   | (with_reducible exact ih3 _ _ _ _ _ _ _ _ _ _)
   | (with_reducible exact ih4 _ _ _ _ _ _ _)
   | (with_reducible exact ih5 _ _ _ _ _ _)
   | (with_reducible exact ih6 _ _ _ _ _ _ _ _)
   | (with_reducible exact ih7 _ _ _ _ _ _ _)
   | (with_reducible exact ih8 _ _ _)
   | (with_reducible exact ih9 _ _)
   | (with_reducible exact impl_NeedsOf.mono _ _ _ _)
   | (with_reducible exact laws_eqBoolS.mono _ _ _)
   | (with_reducible exact laws_eqNetwork.mono _ _ _ _ _ _ _)
   | (with_reducible exact laws_heldBoolS.mono _ _ _)
   | (with_reducible exact laws_markBoolS.mono _ _ _)
   | (with_reducible exact laws_markNetwork.mono _ _ _ _ _)
   | (with_reducible exact laws_toNetwork.mono _ _ _ _)
   | (with_reducible exact spec_NeedsOf.mono _ _ _ _)
   | (with_reducible exact LeO.refl _)
   | (with_reducible exact LeO.none _)
   | (with_reducible refine LeO.ite ?_ ?_)
   | (with_reducible refine LeO.bind ?_ (fun _ => ?_))
   | exact ih0 _ _ _
   | exact ih1 _ _ _ _ _ _ _ _ _ _ _
   | exact ih2 _ _ _ _ _ _ _ _ _ _
   | exact ih3 _ _ _ _ _ _ _ _ _ _
   | exact ih4 _ _ _ _ _ _ _
   | exact ih5 _ _ _ _ _ _
   | exact ih6 _ _ _ _ _ _ _ _
   | exact ih7 _ _ _ _ _ _ _
   | exact ih8 _ _ _
   | exact ih9 _ _
   | exact impl_NeedsOf.mono _ _ _ _
   | exact laws_eqBoolS.mono _ _ _
   | exact laws_eqNetwork.mono _ _ _ _ _ _ _
   | exact laws_heldBoolS.mono _ _ _
   | exact laws_markBoolS.mono _ _ _
   | exact laws_markNetwork.mono _ _ _ _ _
   | exact laws_toNetwork.mono _ _ _ _
   | exact spec_NeedsOf.mono _ _ _ _
   | exact LeO.none _
   | refine LeO.ite ?_ ?_
   | refine LeO.bind ?_ (fun _ => ?_)
  ·intro y0 y1 y2 y3 y4 y5 y6 y7 y8 y9 y10
   unfold laws_FnExactNeedsOf.j1
   repeat' first
   | (with_reducible exact ih0 _ _ _)
   | (with_reducible exact ih1 _ _ _ _ _ _ _ _ _ _ _)
   | (with_reducible exact ih2 _ _ _ _ _ _ _ _ _ _)
   | (with_reducible exact ih3 _ _ _ _ _ _ _ _ _ _)
   | (with_reducible exact ih4 _ _ _ _ _ _ _)
   | (with_reducible exact ih5 _ _ _ _ _ _)
   | (with_reducible exact ih6 _ _ _ _ _ _ _ _)
   | (with_reducible exact ih7 _ _ _ _ _ _ _)
   | (with_reducible exact ih8 _ _ _)
   | (with_reducible exact ih9 _ _)
   | (with_reducible exact impl_NeedsOf.mono _ _ _ _)
   | (with_reducible exact laws_eqBoolS.mono _ _ _)
   | (with_reducible exact laws_eqNetwork.mono _ _ _ _ _ _ _)
   | (with_reducible exact laws_heldBoolS.mono _ _ _)
   | (with_reducible exact laws_markBoolS.mono _ _ _)
   | (with_reducible exact laws_markNetwork.mono _ _ _ _ _)
   | (with_reducible exact laws_toNetwork.mono _ _ _ _)
   | (with_reducible exact spec_NeedsOf.mono _ _ _ _)
   | (with_reducible exact LeO.refl _)
   | (with_reducible exact LeO.none _)
   | (with_reducible refine LeO.ite ?_ ?_)
   | (with_reducible refine LeO.bind ?_ (fun _ => ?_))
   | exact ih0 _ _ _
   | exact ih1 _ _ _ _ _ _ _ _ _ _ _
   | exact ih2 _ _ _ _ _ _ _ _ _ _
   | exact ih3 _ _ _ _ _ _ _ _ _ _
   | exact ih4 _ _ _ _ _ _ _
   | exact ih5 _ _ _ _ _ _
   | exact ih6 _ _ _ _ _ _ _ _
   | exact ih7 _ _ _ _ _ _ _
   | exact ih8 _ _ _
   | exact ih9 _ _
   | exact impl_NeedsOf.mono _ _ _ _
   | exact laws_eqBoolS.mono _ _ _
   | exact laws_eqNetwork.mono _ _ _ _ _ _ _
   | exact laws_heldBoolS.mono _ _ _
   | exact laws_markBoolS.mono _ _ _
   | exact laws_markNetwork.mono _ _ _ _ _
   | exact laws_toNetwork.mono _ _ _ _
   | exact spec_NeedsOf.mono _ _ _ _
   | exact LeO.none _
   | refine LeO.ite ?_ ?_
   | refine LeO.bind ?_ (fun _ => ?_)
  ·intro y0 y1 y2 y3 y4 y5 y6 y7 y8 y9
   unfold laws_FnExactNeedsOf.j2
   repeat' first
   | (with_reducible exact ih0 _ _ _)
   | (with_reducible exact ih1 _ _ _ _ _ _ _ _ _ _ _)
   | (with_reducible exact ih2 _ _ _ _ _ _ _ _ _ _)
   | (with_reducible exact ih3 _ _ _ _ _ _ _ _ _ _)
   | (with_reducible exact ih4 _ _ _ _ _ _ _)
   | (with_reducible exact ih5 _ _ _ _ _ _)
   | (with_reducible exact ih6 _ _ _ _ _ _ _ _)
   | (with_reducible exact ih7 _ _ _ _ _ _ _)
   | (with_reducible exact ih8 _ _ _)
   | (with_reducible exact ih9 _ _)
   | (with_reducible exact impl_NeedsOf.mono _ _ _ _)
   | (with_reducible exact laws_eqBoolS.mono _ _ _)
   | (with_reducible exact laws_eqNetwork.mono _ _ _ _ _ _ _)
   | (with_reducible exact laws_heldBoolS.mono _ _ _)
   | (with_reducible exact laws_markBoolS.mono _ _ _)
   | (with_reducible exact laws_markNetwork.mono _ _ _ _ _)
   | (with_reducible exact laws_toNetwork.mono _ _ _ _)
   | (with_reducible exact spec_NeedsOf.mono _ _ _ _)
   | (with_reducible exact LeO.refl _)
   | (with_reducible exact LeO.none _)
   | (with_reducible refine LeO.ite ?_ ?_)
   | (with_reducible refine LeO.bind ?_ (fun _ => ?_))
   | exact ih0 _ _ _
   | exact ih1 _ _ _ _ _ _ _ _ _ _ _
   | exact ih2 _ _ _ _ _ _ _ _ _ _
   | exact ih3 _ _ _ _ _ _ _ _ _ _
   | exact ih4 _ _ _ _ _ _ _
   | exact ih5 _ _ _ _ _ _
   | exact ih6 _ _ _ _ _ _ _ _
   | exact ih7 _ _ _ _ _ _ _
   | exact ih8 _ _ _
   | exact ih9 _ _
   | exact impl_NeedsOf.mono _ _ _ _
   | exact laws_eqBoolS.mono _ _ _
   | exact laws_eqNetwork.mono _ _ _ _ _ _ _
   | exact laws_heldBoolS.mono _ _ _
   | exact laws_markBoolS.mono _ _ _
   | exact laws_markNetwork.mono _ _ _ _ _
   | exact laws_toNetwork.mono _ _ _ _
   | exact spec_NeedsOf.mono _ _ _ _
   | exact LeO.none _
   | refine LeO.ite ?_ ?_
   | refine LeO.bind ?_ (fun _ => ?_)
  ·intro y0 y1 y2 y3 y4 y5 y6 y7 y8 y9
   unfold laws_FnExactNeedsOf.j3
   repeat' first
   | (with_reducible exact ih0 _ _ _)
   | (with_reducible exact ih1 _ _ _ _ _ _ _ _ _ _ _)
   | (with_reducible exact ih2 _ _ _ _ _ _ _ _ _ _)
   | (with_reducible exact ih3 _ _ _ _ _ _ _ _ _ _)
   | (with_reducible exact ih4 _ _ _ _ _ _ _)
   | (with_reducible exact ih5 _ _ _ _ _ _)
   | (with_reducible exact ih6 _ _ _ _ _ _ _ _)
   | (with_reducible exact ih7 _ _ _ _ _ _ _)
   | (with_reducible exact ih8 _ _ _)
   | (with_reducible exact ih9 _ _)
   | (with_reducible exact impl_NeedsOf.mono _ _ _ _)
   | (with_reducible exact laws_eqBoolS.mono _ _ _)
   | (with_reducible exact laws_eqNetwork.mono _ _ _ _ _ _ _)
   | (with_reducible exact laws_heldBoolS.mono _ _ _)
   | (with_reducible exact laws_markBoolS.mono _ _ _)
   | (with_reducible exact laws_markNetwork.mono _ _ _ _ _)
   | (with_reducible exact laws_toNetwork.mono _ _ _ _)
   | (with_reducible exact spec_NeedsOf.mono _ _ _ _)
   | (with_reducible exact LeO.refl _)
   | (with_reducible exact LeO.none _)
   | (with_reducible refine LeO.ite ?_ ?_)
   | (with_reducible refine LeO.bind ?_ (fun _ => ?_))
   | exact ih0 _ _ _
   | exact ih1 _ _ _ _ _ _ _ _ _ _ _
   | exact ih2 _ _ _ _ _ _ _ _ _ _
   | exact ih3 _ _ _ _ _ _ _ _ _ _
   | exact ih4 _ _ _ _ _ _ _
   | exact ih5 _ _ _ _ _ _
   | exact ih6 _ _ _ _ _ _ _ _
   | exact ih7 _ _ _ _ _ _ _
   | exact ih8 _ _ _
   | exact ih9 _ _
   | exact impl_NeedsOf.mono _ _ _ _
   | exact laws_eqBoolS.mono _ _ _
   | exact laws_eqNetwork.mono _ _ _ _ _ _ _
   | exact laws_heldBoolS.mono _ _ _
   | exact laws_markBoolS.mono _ _ _
   | exact laws_markNetwork.mono _ _ _ _ _
   | exact laws_toNetwork.mono _ _ _ _
   | exact spec_NeedsOf.mono _ _ _ _
   | exact LeO.none _
   | refine LeO.ite ?_ ?_
   | refine LeO.bind ?_ (fun _ => ?_)
  ·intro y0 y1 y2 y3 y4 y5 y6
   unfold laws_FnExactNeedsOf.j4
   repeat' first
   | (with_reducible exact ih0 _ _ _)
   | (with_reducible exact ih1 _ _ _ _ _ _ _ _ _ _ _)
   | (with_reducible exact ih2 _ _ _ _ _ _ _ _ _ _)
   | (with_reducible exact ih3 _ _ _ _ _ _ _ _ _ _)
   | (with_reducible exact ih4 _ _ _ _ _ _ _)
   | (with_reducible exact ih5 _ _ _ _ _ _)
   | (with_reducible exact ih6 _ _ _ _ _ _ _ _)
   | (with_reducible exact ih7 _ _ _ _ _ _ _)
   | (with_reducible exact ih8 _ _ _)
   | (with_reducible exact ih9 _ _)
   | (with_reducible exact impl_NeedsOf.mono _ _ _ _)
   | (with_reducible exact laws_eqBoolS.mono _ _ _)
   | (with_reducible exact laws_eqNetwork.mono _ _ _ _ _ _ _)
   | (with_reducible exact laws_heldBoolS.mono _ _ _)
   | (with_reducible exact laws_markBoolS.mono _ _ _)
   | (with_reducible exact laws_markNetwork.mono _ _ _ _ _)
   | (with_reducible exact laws_toNetwork.mono _ _ _ _)
   | (with_reducible exact spec_NeedsOf.mono _ _ _ _)
   | (with_reducible exact LeO.refl _)
   | (with_reducible exact LeO.none _)
   | (with_reducible refine LeO.ite ?_ ?_)
   | (with_reducible refine LeO.bind ?_ (fun _ => ?_))
   | exact ih0 _ _ _
   | exact ih1 _ _ _ _ _ _ _ _ _ _ _
   | exact ih2 _ _ _ _ _ _ _ _ _ _
   | exact ih3 _ _ _ _ _ _ _ _ _ _
   | exact ih4 _ _ _ _ _ _ _
   | exact ih5 _ _ _ _ _ _
   | exact ih6 _ _ _ _ _ _ _ _
   | exact ih7 _ _ _ _ _ _ _
   | exact ih8 _ _ _
   | exact ih9 _ _
   | exact impl_NeedsOf.mono _ _ _ _
   | exact laws_eqBoolS.mono _ _ _
   | exact laws_eqNetwork.mono _ _ _ _ _ _ _
   | exact laws_heldBoolS.mono _ _ _
   | exact laws_markBoolS.mono _ _ _
   | exact laws_markNetwork.mono _ _ _ _ _
   | exact laws_toNetwork.mono _ _ _ _
   | exact spec_NeedsOf.mono _ _ _ _
   | exact LeO.none _
   | refine LeO.ite ?_ ?_
   | refine LeO.bind ?_ (fun _ => ?_)
  ·intro y0 y1 y2 y3 y4 y5
   unfold laws_FnExactNeedsOf.j5
   repeat' first
   | (with_reducible exact ih0 _ _ _)
   | (with_reducible exact ih1 _ _ _ _ _ _ _ _ _ _ _)
   | (with_reducible exact ih2 _ _ _ _ _ _ _ _ _ _)
   | (with_reducible exact ih3 _ _ _ _ _ _ _ _ _ _)
   | (with_reducible exact ih4 _ _ _ _ _ _ _)
   | (with_reducible exact ih5 _ _ _ _ _ _)
   | (with_reducible exact ih6 _ _ _ _ _ _ _ _)
   | (with_reducible exact ih7 _ _ _ _ _ _ _)
   | (with_reducible exact ih8 _ _ _)
   | (with_reducible exact ih9 _ _)
   | (with_reducible exact impl_NeedsOf.mono _ _ _ _)
   | (with_reducible exact laws_eqBoolS.mono _ _ _)
   | (with_reducible exact laws_eqNetwork.mono _ _ _ _ _ _ _)
   | (with_reducible exact laws_heldBoolS.mono _ _ _)
   | (with_reducible exact laws_markBoolS.mono _ _ _)
   | (with_reducible exact laws_markNetwork.mono _ _ _ _ _)
   | (with_reducible exact laws_toNetwork.mono _ _ _ _)
   | (with_reducible exact spec_NeedsOf.mono _ _ _ _)
   | (with_reducible exact LeO.refl _)
   | (with_reducible exact LeO.none _)
   | (with_reducible refine LeO.ite ?_ ?_)
   | (with_reducible refine LeO.bind ?_ (fun _ => ?_))
   | exact ih0 _ _ _
   | exact ih1 _ _ _ _ _ _ _ _ _ _ _
   | exact ih2 _ _ _ _ _ _ _ _ _ _
   | exact ih3 _ _ _ _ _ _ _ _ _ _
   | exact ih4 _ _ _ _ _ _ _
   | exact ih5 _ _ _ _ _ _
   | exact ih6 _ _ _ _ _ _ _ _
   | exact ih7 _ _ _ _ _ _ _
   | exact ih8 _ _ _
   | exact ih9 _ _
   | exact impl_NeedsOf.mono _ _ _ _
   | exact laws_eqBoolS.mono _ _ _
   | exact laws_eqNetwork.mono _ _ _ _ _ _ _
   | exact laws_heldBoolS.mono _ _ _
   | exact laws_markBoolS.mono _ _ _
   | exact laws_markNetwork.mono _ _ _ _ _
   | exact laws_toNetwork.mono _ _ _ _
   | exact spec_NeedsOf.mono _ _ _ _
   | exact LeO.none _
   | refine LeO.ite ?_ ?_
   | refine LeO.bind ?_ (fun _ => ?_)
  ·intro y0 y1 y2 y3 y4 y5 y6 y7
   unfold laws_FnExactNeedsOf.j6
   repeat' first
   | (with_reducible exact ih0 _ _ _)
   | (with_reducible exact ih1 _ _ _ _ _ _ _ _ _ _ _)
   | (with_reducible exact ih2 _ _ _ _ _ _ _ _ _ _)
   | (with_reducible exact ih3 _ _ _ _ _ _ _ _ _ _)
   | (with_reducible exact ih4 _ _ _ _ _ _ _)
   | (with_reducible exact ih5 _ _ _ _ _ _)
   | (with_reducible exact ih6 _ _ _ _ _ _ _ _)
   | (with_reducible exact ih7 _ _ _ _ _ _ _)
   | (with_reducible exact ih8 _ _ _)
   | (with_reducible exact ih9 _ _)
   | (with_reducible exact impl_NeedsOf.mono _ _ _ _)
   | (with_reducible exact laws_eqBoolS.mono _ _ _)
   | (with_reducible exact laws_eqNetwork.mono _ _ _ _ _ _ _)
   | (with_reducible exact laws_heldBoolS.mono _ _ _)
   | (with_reducible exact laws_markBoolS.mono _ _ _)
   | (with_reducible exact laws_markNetwork.mono _ _ _ _ _)
   | (with_reducible exact laws_toNetwork.mono _ _ _ _)
   | (with_reducible exact spec_NeedsOf.mono _ _ _ _)
   | (with_reducible exact LeO.refl _)
   | (with_reducible exact LeO.none _)
   | (with_reducible refine LeO.ite ?_ ?_)
   | (with_reducible refine LeO.bind ?_ (fun _ => ?_))
   | exact ih0 _ _ _
   | exact ih1 _ _ _ _ _ _ _ _ _ _ _
   | exact ih2 _ _ _ _ _ _ _ _ _ _
   | exact ih3 _ _ _ _ _ _ _ _ _ _
   | exact ih4 _ _ _ _ _ _ _
   | exact ih5 _ _ _ _ _ _
   | exact ih6 _ _ _ _ _ _ _ _
   | exact ih7 _ _ _ _ _ _ _
   | exact ih8 _ _ _
   | exact ih9 _ _
   | exact impl_NeedsOf.mono _ _ _ _
   | exact laws_eqBoolS.mono _ _ _
   | exact laws_eqNetwork.mono _ _ _ _ _ _ _
   | exact laws_heldBoolS.mono _ _ _
   | exact laws_markBoolS.mono _ _ _
   | exact laws_markNetwork.mono _ _ _ _ _
   | exact laws_toNetwork.mono _ _ _ _
   | exact spec_NeedsOf.mono _ _ _ _
   | exact LeO.none _
   | refine LeO.ite ?_ ?_
   | refine LeO.bind ?_ (fun _ => ?_)
  ·intro y0 y1 y2 y3 y4 y5 y6
   unfold laws_FnExactNeedsOf.j7
   repeat' first
   | (with_reducible exact ih0 _ _ _)
   | (with_reducible exact ih1 _ _ _ _ _ _ _ _ _ _ _)
   | (with_reducible exact ih2 _ _ _ _ _ _ _ _ _ _)
   | (with_reducible exact ih3 _ _ _ _ _ _ _ _ _ _)
   | (with_reducible exact ih4 _ _ _ _ _ _ _)
   | (with_reducible exact ih5 _ _ _ _ _ _)
   | (with_reducible exact ih6 _ _ _ _ _ _ _ _)
   | (with_reducible exact ih7 _ _ _ _ _ _ _)
   | (with_reducible exact ih8 _ _ _)
   | (with_reducible exact ih9 _ _)
   | (with_reducible exact impl_NeedsOf.mono _ _ _ _)
   | (with_reducible exact laws_eqBoolS.mono _ _ _)
   | (with_reducible exact laws_eqNetwork.mono _ _ _ _ _ _ _)
   | (with_reducible exact laws_heldBoolS.mono _ _ _)
   | (with_reducible exact laws_markBoolS.mono _ _ _)
   | (with_reducible exact laws_markNetwork.mono _ _ _ _ _)
   | (with_reducible exact laws_toNetwork.mono _ _ _ _)
   | (with_reducible exact spec_NeedsOf.mono _ _ _ _)
   | (with_reducible exact LeO.refl _)
   | (with_reducible exact LeO.none _)
   | (with_reducible refine LeO.ite ?_ ?_)
   | (with_reducible refine LeO.bind ?_ (fun _ => ?_))
   | exact ih0 _ _ _
   | exact ih1 _ _ _ _ _ _ _ _ _ _ _
   | exact ih2 _ _ _ _ _ _ _ _ _ _
   | exact ih3 _ _ _ _ _ _ _ _ _ _
   | exact ih4 _ _ _ _ _ _ _
   | exact ih5 _ _ _ _ _ _
   | exact ih6 _ _ _ _ _ _ _ _
   | exact ih7 _ _ _ _ _ _ _
   | exact ih8 _ _ _
   | exact ih9 _ _
   | exact impl_NeedsOf.mono _ _ _ _
   | exact laws_eqBoolS.mono _ _ _
   | exact laws_eqNetwork.mono _ _ _ _ _ _ _
   | exact laws_heldBoolS.mono _ _ _
   | exact laws_markBoolS.mono _ _ _
   | exact laws_markNetwork.mono _ _ _ _ _
   | exact laws_toNetwork.mono _ _ _ _
   | exact spec_NeedsOf.mono _ _ _ _
   | exact LeO.none _
   | refine LeO.ite ?_ ?_
   | refine LeO.bind ?_ (fun _ => ?_)
  ·intro y0 y1 y2
   unfold laws_FnExactNeedsOf.j8
   repeat' first
   | (with_reducible exact ih0 _ _ _)
   | (with_reducible exact ih1 _ _ _ _ _ _ _ _ _ _ _)
   | (with_reducible exact ih2 _ _ _ _ _ _ _ _ _ _)
   | (with_reducible exact ih3 _ _ _ _ _ _ _ _ _ _)
   | (with_reducible exact ih4 _ _ _ _ _ _ _)
   | (with_reducible exact ih5 _ _ _ _ _ _)
   | (with_reducible exact ih6 _ _ _ _ _ _ _ _)
   | (with_reducible exact ih7 _ _ _ _ _ _ _)
   | (with_reducible exact ih8 _ _ _)
   | (with_reducible exact ih9 _ _)
   | (with_reducible exact impl_NeedsOf.mono _ _ _ _)
   | (with_reducible exact laws_eqBoolS.mono _ _ _)
   | (with_reducible exact laws_eqNetwork.mono _ _ _ _ _ _ _)
   | (with_reducible exact laws_heldBoolS.mono _ _ _)
   | (with_reducible exact laws_markBoolS.mono _ _ _)
   | (with_reducible exact laws_markNetwork.mono _ _ _ _ _)
   | (with_reducible exact laws_toNetwork.mono _ _ _ _)
   | (with_reducible exact spec_NeedsOf.mono _ _ _ _)
   | (with_reducible exact LeO.refl _)
   | (with_reducible exact LeO.none _)
   | (with_reducible refine LeO.ite ?_ ?_)
   | (with_reducible refine LeO.bind ?_ (fun _ => ?_))
   | exact ih0 _ _ _
   | exact ih1 _ _ _ _ _ _ _ _ _ _ _
   | exact ih2 _ _ _ _ _ _ _ _ _ _
   | exact ih3 _ _ _ _ _ _ _ _ _ _
   | exact ih4 _ _ _ _ _ _ _
   | exact ih5 _ _ _ _ _ _
   | exact ih6 _ _ _ _ _ _ _ _
   | exact ih7 _ _ _ _ _ _ _
   | exact ih8 _ _ _
   | exact ih9 _ _
   | exact impl_NeedsOf.mono _ _ _ _
   | exact laws_eqBoolS.mono _ _ _
   | exact laws_eqNetwork.mono _ _ _ _ _ _ _
   | exact laws_heldBoolS.mono _ _ _
   | exact laws_markBoolS.mono _ _ _
   | exact laws_markNetwork.mono _ _ _ _ _
   | exact laws_toNetwork.mono _ _ _ _
   | exact spec_NeedsOf.mono _ _ _ _
   | exact LeO.none _
   | refine LeO.ite ?_ ?_
   | refine LeO.bind ?_ (fun _ => ?_)
  ·intro y0 y1
   unfold laws_FnExactNeedsOf.j9
   repeat' first
   | (with_reducible exact ih0 _ _ _)
   | (with_reducible exact ih1 _ _ _ _ _ _ _ _ _ _ _)
   | (with_reducible exact ih2 _ _ _ _ _ _ _ _ _ _)
   | (with_reducible exact ih3 _ _ _ _ _ _ _ _ _ _)
   | (with_reducible exact ih4 _ _ _ _ _ _ _)
   | (with_reducible exact ih5 _ _ _ _ _ _)
   | (with_reducible exact ih6 _ _ _ _ _ _ _ _)
   | (with_reducible exact ih7 _ _ _ _ _ _ _)
   | (with_reducible exact ih8 _ _ _)
   | (with_reducible exact ih9 _ _)
   | (with_reducible exact impl_NeedsOf.mono _ _ _ _)
   | (with_reducible exact laws_eqBoolS.mono _ _ _)
   | (with_reducible exact laws_eqNetwork.mono _ _ _ _ _ _ _)
   | (with_reducible exact laws_heldBoolS.mono _ _ _)
   | (with_reducible exact laws_markBoolS.mono _ _ _)
   | (with_reducible exact laws_markNetwork.mono _ _ _ _ _)
   | (with_reducible exact laws_toNetwork.mono _ _ _ _)
   | (with_reducible exact spec_NeedsOf.mono _ _ _ _)
   | (with_reducible exact LeO.refl _)
   | (with_reducible exact LeO.none _)
   | (with_reducible refine LeO.ite ?_ ?_)
   | (with_reducible refine LeO.bind ?_ (fun _ => ?_))
   | exact ih0 _ _ _
   | exact ih1 _ _ _ _ _ _ _ _ _ _ _
   | exact ih2 _ _ _ _ _ _ _ _ _ _
   | exact ih3 _ _ _ _ _ _ _ _ _ _
   | exact ih4 _ _ _ _ _ _ _
   | exact ih5 _ _ _ _ _ _
   | exact ih6 _ _ _ _ _ _ _ _
   | exact ih7 _ _ _ _ _ _ _
   | exact ih8 _ _ _
   | exact ih9 _ _
   | exact impl_NeedsOf.mono _ _ _ _
   | exact laws_eqBoolS.mono _ _ _
   | exact laws_eqNetwork.mono _ _ _ _ _ _ _
   | exact laws_heldBoolS.mono _ _ _
   | exact laws_markBoolS.mono _ _ _
   | exact laws_markNetwork.mono _ _ _ _ _
   | exact laws_toNetwork.mono _ _ _ _
   | exact spec_NeedsOf.mono _ _ _ _
   | exact LeO.none _
   | refine LeO.ite ?_ ?_
   | refine LeO.bind ?_ (fun _ => ?_)
theorem laws_FnExactNeedsOf.mono : ∀ a0 a1 a2 k, LeO (laws_FnExactNeedsOf.f k a0 a1 a2) (laws_FnExactNeedsOf.f (k + 1) a0 a1 a2) := by
 intro a0 a1 a2 k
 obtain ⟨ih0, ih1, ih2, ih3, ih4, ih5, ih6, ih7, ih8, ih9⟩ := laws_FnExactNeedsOf.mono_l k
 unfold laws_FnExactNeedsOf.f
 repeat' first
   | (with_reducible exact ih0 _ _ _)
   | (with_reducible exact ih1 _ _ _ _ _ _ _ _ _ _ _)
   | (with_reducible exact ih2 _ _ _ _ _ _ _ _ _ _)
   | (with_reducible exact ih3 _ _ _ _ _ _ _ _ _ _)
   | (with_reducible exact ih4 _ _ _ _ _ _ _)
   | (with_reducible exact ih5 _ _ _ _ _ _)
   | (with_reducible exact ih6 _ _ _ _ _ _ _ _)
   | (with_reducible exact ih7 _ _ _ _ _ _ _)
   | (with_reducible exact ih8 _ _ _)
   | (with_reducible exact ih9 _ _)
   | (with_reducible exact impl_NeedsOf.mono _ _ _ _)
   | (with_reducible exact laws_eqBoolS.mono _ _ _)
   | (with_reducible exact laws_eqNetwork.mono _ _ _ _ _ _ _)
   | (with_reducible exact laws_heldBoolS.mono _ _ _)
   | (with_reducible exact laws_markBoolS.mono _ _ _)
   | (with_reducible exact laws_markNetwork.mono _ _ _ _ _)
   | (with_reducible exact laws_toNetwork.mono _ _ _ _)
   | (with_reducible exact spec_NeedsOf.mono _ _ _ _)
   | (with_reducible exact LeO.refl _)
   | (with_reducible exact LeO.none _)
   | (with_reducible refine LeO.ite ?_ ?_)
   | (with_reducible refine LeO.bind ?_ (fun _ => ?_))
   | exact ih0 _ _ _
   | exact ih1 _ _ _ _ _ _ _ _ _ _ _
   | exact ih2 _ _ _ _ _ _ _ _ _ _
   | exact ih3 _ _ _ _ _ _ _ _ _ _
   | exact ih4 _ _ _ _ _ _ _
   | exact ih5 _ _ _ _ _ _
   | exact ih6 _ _ _ _ _ _ _ _
   | exact ih7 _ _ _ _ _ _ _
   | exact ih8 _ _ _
   | exact ih9 _ _
   | exact impl_NeedsOf.mono _ _ _ _
   | exact laws_eqBoolS.mono _ _ _
   | exact laws_eqNetwork.mono _ _ _ _ _ _ _
   | exact laws_heldBoolS.mono _ _ _
   | exact laws_markBoolS.mono _ _ _
   | exact laws_markNetwork.mono _ _ _ _ _
   | exact laws_toNetwork.mono _ _ _ _
   | exact spec_NeedsOf.mono _ _ _ _
   | exact LeO.none _
   | refine LeO.ite ?_ ?_
   | refine LeO.bind ?_ (fun _ => ?_)
set_option maxHeartbeats 8000000 in
set_option maxRecDepth 100000 in
theorem laws_FnExactNeedsOf.calls (k : Nat) (a0_0 : Int) (A0_1 : Option Addr) (c0_1 : Nat) (l0_1 : List (S131)) (A0_2 : Option Addr) (c0_2 : Nat) (l0_2 : List Int) (r : Bool) (w : World) (hr0_1 : Kd.C k131 w A0_1 l0_1.length l0_1) (hc0_1 : l0_1.length ≤ c0_1) (hr0_2 : Kd.C (Kd.int .i16) w A0_2 l0_2.length l0_2) (hc0_2 : l0_2.length ≤ c0_2) (h : laws_FnExactNeedsOf.f k a0_0 l0_1 l0_2 = some r) :
  Calls Try.prog 16 #[.agg #[.int .i8 a0_0, .slice A0_1 l0_1.length c0_1, .slice A0_2 l0_2.length c0_2]] w fun e w' => e = .returned (.bool r) ∧ Below w.heap.size w w' := by
 have hu26 := Try.underlying26
 have hu31 := Try.underlying31
 have HR0_1 := Aside0.mk hr0_1
 have HC0_1 := Aside0.mk hc0_1
 clear hr0_1 hc0_1
 have HR0_2 := Aside0.mk hr0_2
 have HC0_2 := Aside0.mk hc0_2
 clear hr0_2 hc0_2
 have HB := Aside0.mk (Below.refl w.heap.size w)
 have H : ((laws_szNetwork.f a0_0 l0_1 l0_2 1048576).bind fun t313 => (if t313 < 0 then (some true) else (laws_FnExactNeedsOf.j0 k a0_0 l0_1 l0_2))) = some r := h
 clear h
 replace H := Option.bind_eq_some_iff.mp H
 obtain ⟨t313, A20, H⟩ := H
 replace H : (if t313 < 0 then (some true) else (laws_FnExactNeedsOf.j0 k a0_0 l0_1 l0_2)) = some r := H
 have A2 := Aside0.mk A20
 clear A20
 have HC3 := Aside0.mk H
 clear H
 go_enter Try.func16, Try.ntmps16
 go_upto_if 18 with (first | ((with_reducible refine gate_dst (N := 1) rfl ?_); refine box_event ?hg (N := 1) ?hd (cs := #[.int .i8 a0_0, .slice A0_1 l0_1.length c0_1, .slice A0_2 l0_2.length c0_2]) (t := 26) ?hr ?_; (case hd => rfl); (case hg => rfl); (case hr => first | (go_simp; done) | (go_simp; rfl)); intro gb312 hg w4 hbox hb; have n0_ := Aside0.mk (below_step (by repeat (first | (with_reducible first | exact HB.out | apply below_alloc | apply pw_below_drewN | apply below_drew1) | exact HB.out)) hb); have n1_ := Aside0.mk (hbox); have n2_ := Aside0.mk ((by rw [hg]; exact (below_size (by repeat (first | (with_reducible first | exact HB.out | apply below_alloc | apply pw_below_drewN | apply below_drew1) | exact HB.out))) : w.heap.size ≤ gb312)); have n3_ := Aside0.mk ((by rw [hg]; exact (below_size (by repeat (first | (with_reducible first | exact HB.out | apply below_alloc | apply pw_below_drewN | apply below_drew1) | exact HB.out))) : w.heap.size ≤ gb312)); clear HB; have HB := n0_; have BK312 := n1_; have GW312 := n2_; have GE312 := n3_; clear n0_ n1_ n2_ n3_; clear hb hbox hg; have hcz5_0 : w4.cell? ⟨gb312, 0, none⟩ = some (.int .i8 a0_0) := (blk_cell BK312.out 0).trans rfl; have hcz5_1 : w4.cell? ⟨gb312, 1, none⟩ = some (.slice A0_1 l0_1.length c0_1) := (blk_cell BK312.out 1).trans rfl; have hcz5_2 : w4.cell? ⟨gb312, 2, none⟩ = some (.slice A0_2 l0_2.length c0_2) := (blk_cell BK312.out 2).trans rfl; have hfz5_0 := blk_frozen BK312.out 0; have hfz5_1 := blk_frozen BK312.out 1; have hfz5_2 := blk_frozen BK312.out 2) | ((with_reducible refine gate_callee (f := 21) rfl ?_); refine goesL_ (some 16) rfl rfl Try.func21 (by kernel_rfl) rfl #[.agg #[.int .i8 a0_0, .slice A0_1 l0_1.length c0_1, .slice A0_2 l0_2.length c0_2], .int .i64 1048576] rfl (by (try simp only [List.map_toArray, List.map_cons, List.map_nil]); first | done | rfl | (simp only [List.length_drop, List.length_take]; rfl)) ?_; (with_reducible refine (laws_szNetwork.calls a0_0 _ _ l0_1 _ _ l0_2 1048576 t313 _ ?side1 ?side2 ?side3 ?side4 A2.out).mono ?_); (case side1 => repeat (first | exact (Kd.C_below HR0_1.out HB.out) | (with_reducible refine Kd.C_alloc ?_ _) | (with_reducible refine Kd.C_drewN ?_ _) | (with_reducible refine Kd.C_drew ?_))); (case side2 => exact HC0_1.out); (case side3 => repeat (first | exact (Kd.C_below HR0_2.out HB.out) | (with_reducible refine Kd.C_alloc ?_ _) | (with_reducible refine Kd.C_drewN ?_ _) | (with_reducible refine Kd.C_drew ?_))); (case side4 => exact HC0_2.out); rintro e w6 ⟨rfl, hb⟩; refine ⟨_, rfl, ?_⟩; have n0_ := Aside0.mk (blk_below (g := gb312) (o := .cells #[.int .i8 a0_0, .slice A0_1 l0_1.length c0_1, .slice A0_2 l0_2.length c0_2] 26 (0, 0)) (by (with_reducible repeat (first | refine blk_drewN ?_ _ | refine blk_drew ?_ | refine blk_alloc ?_ _)); exact BK312.out) hb); have n1_ := Aside0.mk (below_step (by repeat (first | (with_reducible first | exact HB.out | apply below_alloc | apply pw_below_drewN | apply below_drew1 | refine below_set ?_ GE312.out) | exact HB.out)) hb); clear BK312; clear HB; have BK312 := n0_; have HB := n1_; clear n0_ n1_; (try clear hb); (try clear hb2); (try clear hk); (try clear hi)))
 (try simp only [Act.put, List.setIfInBounds_toArray, List.set_cons_zero, List.set_cons_succ])
 go_cut [] (fun wc => ∃ (kq : Nat), Aside0 (laws_FnExactNeedsOf.j0 kq a0_0 l0_1 l0_2 = some r) ∧ Aside0 (kq ≤ k) ∧ Aside0 (wc.heap[gb312]? = some (.cells #[.int .i8 a0_0, (.slice A0_1 l0_1.length c0_1), (.slice A0_2 l0_2.length c0_2)] 26 (0, 0))) ∧ Aside0 (Below w.heap.size w wc))
 case first =>
  have H := HC3.out
  clear HC3
  by_cases c7 : t313 < 0
  ·rw [if_pos c7] at H
   have c7b0 : decide (t313 < 0) = true := decide_eq_true c7
   clear c7
   (first | rw [c7b0] | (simp only [i64_w, i32_w]; rw [c7b0]) | (have h_ := c7b0; simp only [bne] at h_; rw [h_]) | skip)
   obtain rfl := Option.some.inj H
   go_wp2
   go_ret
   exact ⟨by first | rfl | (simp [errW_none, errW_some] <;> rfl) | (simp [*, errW_none, errW_some] <;> rfl), by repeat (first | (with_reducible first | exact HB.out | apply below_alloc | apply pw_below_drewN | apply below_drew1 | refine below_set ?_ GE312.out) | exact HB.out)⟩
  ·rw [if_neg c7] at H
   have c7b0 : decide (t313 < 0) = false := decide_eq_false c7
   clear c7
   (first | rw [c7b0] | (simp only [i64_w, i32_w]; rw [c7b0]) | (have h_ := c7b0; simp only [bne] at h_; rw [h_]) | skip)
   have H' := Aside0.mk H
   clear H
   go_wp2
   go_meet
   case rel => exact ⟨_, H', ⟨by first | omega | exact Nat.le_refl _⟩, ⟨by (with_reducible repeat (first | refine blk_drewN ?_ _ | refine blk_drew ?_ | refine blk_alloc ?_ _)); exact BK312.out⟩, ⟨by repeat (first | (with_reducible first | exact HB.out | apply below_alloc | apply pw_below_drewN | apply below_drew1 | refine below_set ?_ GE312.out) | exact HB.out)⟩⟩
 case rest =>
  clear HC3
  try clear c1
  try clear c2
  try clear p2
  try clear c7
  try clear c7b0
  try clear hcz5_0
  try clear hcz5_1
  try clear hcz5_2
  try clear hfz5_0
  try clear hfz5_1
  try clear hfz5_2
  obtain ⟨kq, HA, HJ2, BK312, HB⟩ := hcut
  cases kq with
  | zero => exact absurd HA.out (by simp [laws_FnExactNeedsOf.j0])
  | succ kj2 =>
   have H := HA.out
   clear HA
   simp only [laws_FnExactNeedsOf.j0] at H
   replace H := Option.bind_eq_some_iff.mp H
   obtain ⟨⟨t314, t315, t318⟩, A80, H⟩ := H
   replace H : ((spec_NeedsOf.f kj2 t314 t315 t318).bind fun bt321 => ((laws_toNetwork.f kj2 a0_0 l0_1 l0_2).bind fun bt325 => ((impl_NeedsOf.f kj2 bt325.1 bt325.2.1 bt325.2.2).bind fun bt333 => ((laws_eqBoolS.f kj2 bt333.1 bt321.1).bind fun t337 => (if t337 = true then (laws_FnExactNeedsOf.j1 kj2 bt321.1 bt321.2 bt333.1 bt333.2 (bt333.2 != bt321.2) a0_0 l0_1 l0_2 bt325.1 bt325.2.1 bt325.2.2) else (laws_FnExactNeedsOf.j1 kj2 bt321.1 bt321.2 bt333.1 bt333.2 true a0_0 l0_1 l0_2 bt325.1 bt325.2.1 bt325.2.2)))))) = some r := H
   have A8 := Aside0.mk A80
   clear A80
   replace H := Option.bind_eq_some_iff.mp H
   obtain ⟨⟨t321, t324⟩, A90, H⟩ := H
   replace H : ((laws_toNetwork.f kj2 a0_0 l0_1 l0_2).bind fun bt325 => ((impl_NeedsOf.f kj2 bt325.1 bt325.2.1 bt325.2.2).bind fun bt333 => ((laws_eqBoolS.f kj2 bt333.1 t321).bind fun t337 => (if t337 = true then (laws_FnExactNeedsOf.j1 kj2 t321 t324 bt333.1 bt333.2 (bt333.2 != t324) a0_0 l0_1 l0_2 bt325.1 bt325.2.1 bt325.2.2) else (laws_FnExactNeedsOf.j1 kj2 t321 t324 bt333.1 bt333.2 true a0_0 l0_1 l0_2 bt325.1 bt325.2.1 bt325.2.2))))) = some r := H
   have A9 := Aside0.mk A90
   clear A90
   replace H := Option.bind_eq_some_iff.mp H
   obtain ⟨⟨t325, t326, t329⟩, A100, H⟩ := H
   replace H : ((impl_NeedsOf.f kj2 t325 t326 t329).bind fun bt333 => ((laws_eqBoolS.f kj2 bt333.1 t321).bind fun t337 => (if t337 = true then (laws_FnExactNeedsOf.j1 kj2 t321 t324 bt333.1 bt333.2 (bt333.2 != t324) a0_0 l0_1 l0_2 t325 t326 t329) else (laws_FnExactNeedsOf.j1 kj2 t321 t324 bt333.1 bt333.2 true a0_0 l0_1 l0_2 t325 t326 t329)))) = some r := H
   have A10 := Aside0.mk A100
   clear A100
   replace H := Option.bind_eq_some_iff.mp H
   obtain ⟨⟨t333, t336⟩, A110, H⟩ := H
   replace H : ((laws_eqBoolS.f kj2 t333 t321).bind fun t337 => (if t337 = true then (laws_FnExactNeedsOf.j1 kj2 t321 t324 t333 t336 (t336 != t324) a0_0 l0_1 l0_2 t325 t326 t329) else (laws_FnExactNeedsOf.j1 kj2 t321 t324 t333 t336 true a0_0 l0_1 l0_2 t325 t326 t329))) = some r := H
   have A11 := Aside0.mk A110
   clear A110
   have HC12 := Aside0.mk H
   clear H
   have hcz13_0 : wc.cell? ⟨gb312, 0, none⟩ = some (.int .i8 a0_0) := (blk_cell BK312.out 0).trans rfl
   have hcz13_1 : wc.cell? ⟨gb312, 1, none⟩ = some (.slice A0_1 l0_1.length c0_1) := (blk_cell BK312.out 1).trans rfl
   have hcz13_2 : wc.cell? ⟨gb312, 2, none⟩ = some (.slice A0_2 l0_2.length c0_2) := (blk_cell BK312.out 2).trans rfl
   have hfz13_0 := blk_frozen BK312.out 0
   have hfz13_1 := blk_frozen BK312.out 1
   have hfz13_2 := blk_frozen BK312.out 2
   go_upto_region 8 with (first | ((with_reducible refine gate_callee (f := 23) rfl ?_); refine goesL_ (some 21) rfl rfl Try.func23 (by kernel_rfl) rfl #[.agg #[.int .i8 a0_0, .slice A0_1 l0_1.length c0_1, .slice A0_2 l0_2.length c0_2]] rfl (by (try simp only [List.map_toArray, List.map_cons, List.map_nil]); first | done | rfl | (simp only [List.length_drop, List.length_take]; rfl)) ?_; (with_reducible refine (laws_toNetwork.calls kj2 a0_0 _ _ l0_1 _ _ l0_2 t314 t315 t318 _ ?side1 ?side2 ?side3 ?side4 A8.out).mono ?_); (case side1 => repeat (first | exact (Kd.C_below HR0_1.out HB.out) | (with_reducible refine Kd.C_alloc ?_ _) | (with_reducible refine Kd.C_drewN ?_ _) | (with_reducible refine Kd.C_drew ?_))); (case side2 => exact HC0_1.out); (case side3 => repeat (first | exact (Kd.C_below HR0_2.out HB.out) | (with_reducible refine Kd.C_alloc ?_ _) | (with_reducible refine Kd.C_drewN ?_ _) | (with_reducible refine Kd.C_drew ?_))); (case side4 => exact HC0_2.out); rintro e w14 ⟨v316, v319, rfl, ho0, ho1, hb⟩; refine ⟨_, rfl, ?_⟩; have n0_ := Aside0.mk (Kd.R_lower ho0 (below_size (by repeat (first | (with_reducible first | exact HB.out | apply below_alloc | apply pw_below_drewN | apply below_drew1 | refine below_set ?_ GE312.out) | exact HB.out)))); have n1_ := Aside0.mk (Kd.R_lower ho1 (below_size (by repeat (first | (with_reducible first | exact HB.out | apply below_alloc | apply pw_below_drewN | apply below_drew1 | refine below_set ?_ GE312.out) | exact HB.out)))); have n2_ := Aside0.mk (blk_below (g := gb312) (o := .cells #[.int .i8 a0_0, .slice A0_1 l0_1.length c0_1, .slice A0_2 l0_2.length c0_2] 26 (0, 0)) (by (with_reducible repeat (first | refine blk_drewN ?_ _ | refine blk_drew ?_ | refine blk_alloc ?_ _)); exact BK312.out) hb); have n3_ := Aside0.mk (below_step (by repeat (first | (with_reducible first | exact HB.out | apply below_alloc | apply pw_below_drewN | apply below_drew1 | refine below_set ?_ GE312.out) | exact HB.out)) hb); clear BK312; clear HB; have HO317 := n0_; have HO320 := n1_; have BK312 := n2_; have HB := n3_; clear n0_ n1_ n2_ n3_; (try clear hb); (try clear hb2); (try clear hk); (try clear hi); (try clear ho0); (try clear ho1); obtain ⟨Ao15, co15, eo15⟩ := Kd.R_slice HO317.out; subst eo15; obtain ⟨Ao16, co16, eo16⟩ := Kd.R_slice HO320.out; subst eo16) | ((with_reducible refine gate_callee (f := 58) rfl ?_); refine goesL_ (some 22) rfl rfl Try.func58 (by kernel_rfl) rfl #[.agg #[.int .i8 t314, .slice Ao15 t315.length co15, .slice Ao16 t318.length co16]] rfl (by (try simp only [List.map_toArray, List.map_cons, List.map_nil]); first | done | rfl | (simp only [List.length_drop, List.length_take]; rfl)) ?_; (with_reducible refine (spec_NeedsOf.calls kj2 t314 _ _ t315 _ _ t318 t321 t324 _ ?side1 ?side2 ?side3 ?side4 A9.out).mono ?_); (case side1 => repeat (first | exact (Kd.R_reads' HO317.out).2.2 | (with_reducible refine Kd.C_alloc ?_ _) | (with_reducible refine Kd.C_drewN ?_ _) | (with_reducible refine Kd.C_drew ?_))); (case side2 => exact (Kd.R_reads' HO317.out).2.1); (case side3 => repeat (first | exact (Kd.R_reads' HO320.out).2.2 | (with_reducible refine Kd.C_alloc ?_ _) | (with_reducible refine Kd.C_drewN ?_ _) | (with_reducible refine Kd.C_drew ?_))); (case side4 => exact (Kd.R_reads' HO320.out).2.1); rintro e w17 ⟨v322, rfl, ho0, hb⟩; refine ⟨_, rfl, ?_⟩; have n0_ := Aside0.mk (Kd.R_below (by (with_reducible repeat (first | apply Kd.R_alloc | apply Kd.R_drewN | apply Kd.R_drew)); exact HO317.out) hb); have n1_ := Aside0.mk (Kd.R_below (by (with_reducible repeat (first | apply Kd.R_alloc | apply Kd.R_drewN | apply Kd.R_drew)); exact HO320.out) hb); have n2_ := Aside0.mk (Kd.R_lower ho0 (below_size (by repeat (first | (with_reducible first | exact HB.out | apply below_alloc | apply pw_below_drewN | apply below_drew1 | refine below_set ?_ GE312.out) | exact HB.out)))); have n3_ := Aside0.mk (blk_below (g := gb312) (o := .cells #[.int .i8 a0_0, .slice A0_1 l0_1.length c0_1, .slice A0_2 l0_2.length c0_2] 26 (0, 0)) (by (with_reducible repeat (first | refine blk_drewN ?_ _ | refine blk_drew ?_ | refine blk_alloc ?_ _)); exact BK312.out) hb); have n4_ := Aside0.mk (below_step (by repeat (first | (with_reducible first | exact HB.out | apply below_alloc | apply pw_below_drewN | apply below_drew1 | refine below_set ?_ GE312.out) | exact HB.out)) hb); clear HO317; clear HO320; clear BK312; clear HB; have HO317 := n0_; have HO320 := n1_; have HO323 := n2_; have BK312 := n3_; have HB := n4_; clear n0_ n1_ n2_ n3_ n4_; (try clear hb); (try clear hb2); (try clear hk); (try clear hi); (try clear ho0); have hcz18_0 : w17.cell? ⟨gb312, 0, none⟩ = some (.int .i8 a0_0) := (blk_cell BK312.out 0).trans rfl; have hcz18_1 : w17.cell? ⟨gb312, 1, none⟩ = some (.slice A0_1 l0_1.length c0_1) := (blk_cell BK312.out 1).trans rfl; have hcz18_2 : w17.cell? ⟨gb312, 2, none⟩ = some (.slice A0_2 l0_2.length c0_2) := (blk_cell BK312.out 2).trans rfl; have hfz18_0 := blk_frozen BK312.out 0; have hfz18_1 := blk_frozen BK312.out 1; have hfz18_2 := blk_frozen BK312.out 2) | ((with_reducible refine gate_callee (f := 23) rfl ?_); refine goesL_ (some 26) rfl rfl Try.func23 (by kernel_rfl) rfl #[.agg #[.int .i8 a0_0, .slice A0_1 l0_1.length c0_1, .slice A0_2 l0_2.length c0_2]] rfl (by (try simp only [List.map_toArray, List.map_cons, List.map_nil]); first | done | rfl | (simp only [List.length_drop, List.length_take]; rfl)) ?_; (with_reducible refine (laws_toNetwork.calls kj2 a0_0 _ _ l0_1 _ _ l0_2 t325 t326 t329 _ ?side1 ?side2 ?side3 ?side4 A10.out).mono ?_); (case side1 => repeat (first | exact (Kd.C_below HR0_1.out HB.out) | (with_reducible refine Kd.C_alloc ?_ _) | (with_reducible refine Kd.C_drewN ?_ _) | (with_reducible refine Kd.C_drew ?_))); (case side2 => exact HC0_1.out); (case side3 => repeat (first | exact (Kd.C_below HR0_2.out HB.out) | (with_reducible refine Kd.C_alloc ?_ _) | (with_reducible refine Kd.C_drewN ?_ _) | (with_reducible refine Kd.C_drew ?_))); (case side4 => exact HC0_2.out); rintro e w19 ⟨v327, v330, rfl, ho0, ho1, hb⟩; refine ⟨_, rfl, ?_⟩; have n0_ := Aside0.mk (Kd.R_elder' (by (with_reducible repeat (first | apply Kd.R_alloc | apply Kd.R_drewN | apply Kd.R_drew)); exact HO317.out) (Kd.R_base ho0) hb); have n1_ := Aside0.mk (Kd.R_elder' (by (with_reducible repeat (first | apply Kd.R_alloc | apply Kd.R_drewN | apply Kd.R_drew)); exact HO320.out) (Kd.R_base ho1) hb); have n2_ := Aside0.mk (Kd.R_below (by (with_reducible repeat (first | apply Kd.R_alloc | apply Kd.R_drewN | apply Kd.R_drew)); exact HO323.out) hb); have n3_ := Aside0.mk (Kd.R_lower (Kd.R_new' ho0 (Kd.R_lt (by (with_reducible repeat (first | apply Kd.R_alloc | apply Kd.R_drewN | apply Kd.R_drew)); exact HO317.out))) (below_size (by repeat (first | (with_reducible first | exact HB.out | apply below_alloc | apply pw_below_drewN | apply below_drew1 | refine below_set ?_ GE312.out) | exact HB.out)))); have n4_ := Aside0.mk (Kd.R_lower (Kd.R_new' ho1 (Kd.R_lt (by (with_reducible repeat (first | apply Kd.R_alloc | apply Kd.R_drewN | apply Kd.R_drew)); exact HO320.out))) (below_size (by repeat (first | (with_reducible first | exact HB.out | apply below_alloc | apply pw_below_drewN | apply below_drew1 | refine below_set ?_ GE312.out) | exact HB.out)))); have n5_ := Aside0.mk (blk_below (g := gb312) (o := .cells #[.int .i8 a0_0, .slice A0_1 l0_1.length c0_1, .slice A0_2 l0_2.length c0_2] 26 (0, 0)) (by (with_reducible repeat (first | refine blk_drewN ?_ _ | refine blk_drew ?_ | refine blk_alloc ?_ _)); exact BK312.out) hb); have n6_ := Aside0.mk (below_step (by repeat (first | (with_reducible first | exact HB.out | apply below_alloc | apply pw_below_drewN | apply below_drew1 | refine below_set ?_ GE312.out) | exact HB.out)) hb); clear HO317; clear HO320; clear HO323; clear BK312; clear HB; have HO317 := n0_; have HO320 := n1_; have HO323 := n2_; have HO328 := n3_; have HO331 := n4_; have BK312 := n5_; have HB := n6_; clear n0_ n1_ n2_ n3_ n4_ n5_ n6_; (try clear hb); (try clear hb2); (try clear hk); (try clear hi); (try clear ho0); (try clear ho1)) | ((with_reducible refine gate_dst (N := 6) rfl ?_); refine box_event ?hg (N := 6) ?hd (cs := #[.int .i8 0, .slice none 0 0, .slice none 0 0]) (t := 31) ?hr ?_; (case hd => rfl); (case hg => rfl); (case hr => first | (go_simp; done) | (go_simp; rfl)); intro gb332 hg w20 hbox hb; have n0_ := Aside0.mk (Kd.R_below (by (with_reducible repeat (first | apply Kd.R_alloc | apply Kd.R_drewN | apply Kd.R_drew)); exact HO317.out) hb); have n1_ := Aside0.mk (Kd.R_below (by (with_reducible repeat (first | apply Kd.R_alloc | apply Kd.R_drewN | apply Kd.R_drew)); exact HO320.out) hb); have n2_ := Aside0.mk (Kd.R_below (by (with_reducible repeat (first | apply Kd.R_alloc | apply Kd.R_drewN | apply Kd.R_drew)); exact HO323.out) hb); have n3_ := Aside0.mk (Kd.R_below (by (with_reducible repeat (first | apply Kd.R_alloc | apply Kd.R_drewN | apply Kd.R_drew)); exact HO328.out) hb); have n4_ := Aside0.mk (Kd.R_below (by (with_reducible repeat (first | apply Kd.R_alloc | apply Kd.R_drewN | apply Kd.R_drew)); exact HO331.out) hb); have n5_ := Aside0.mk (blk_below (g := gb312) (o := .cells #[.int .i8 a0_0, .slice A0_1 l0_1.length c0_1, .slice A0_2 l0_2.length c0_2] 26 (0, 0)) (by (with_reducible repeat (first | refine blk_drewN ?_ _ | refine blk_drew ?_ | refine blk_alloc ?_ _)); exact BK312.out) hb); have n6_ := Aside0.mk (below_step (by repeat (first | (with_reducible first | exact HB.out | apply below_alloc | apply pw_below_drewN | apply below_drew1 | refine below_set ?_ GE312.out) | exact HB.out)) hb); have n7_ := Aside0.mk (hbox); have n8_ := Aside0.mk ((by rw [hg]; exact (below_size (by repeat (first | (with_reducible first | exact HB.out | apply below_alloc | apply pw_below_drewN | apply below_drew1 | refine below_set ?_ GE312.out) | exact HB.out))) : w.heap.size ≤ gb332)); have n9_ := Aside0.mk ((by rw [hg]; exact (below_size (by repeat (first | (with_reducible first | exact HB.out | apply below_alloc | apply pw_below_drewN | apply below_drew1 | refine below_set ?_ GE312.out) | exact HB.out))) : w.heap.size ≤ gb332)); have n10_ := Aside0.mk ((by rw [hg]; exact Nat.ne_of_lt (blk_lt (g := gb312) (o := .cells #[.int .i8 a0_0, .slice A0_1 l0_1.length c0_1, .slice A0_2 l0_2.length c0_2] 26 (0, 0)) (by (with_reducible repeat (first | refine blk_drewN ?_ _ | refine blk_drew ?_ | refine blk_alloc ?_ _)); exact BK312.out)) : gb312 ≠ gb332)); have n11_ := Aside0.mk ((by rw [hg]; exact Nat.ne_of_gt (blk_lt (g := gb312) (o := .cells #[.int .i8 a0_0, .slice A0_1 l0_1.length c0_1, .slice A0_2 l0_2.length c0_2] 26 (0, 0)) (by (with_reducible repeat (first | refine blk_drewN ?_ _ | refine blk_drew ?_ | refine blk_alloc ?_ _)); exact BK312.out)) : gb332 ≠ gb312)); clear HO317; clear HO320; clear HO323; clear HO328; clear HO331; clear BK312; clear HB; have HO317 := n0_; have HO320 := n1_; have HO323 := n2_; have HO328 := n3_; have HO331 := n4_; have BK312 := n5_; have HB := n6_; have BK332 := n7_; have GW332 := n8_; have GE332 := n9_; have NB312_332 := n10_; have NB332_312 := n11_; clear n0_ n1_ n2_ n3_ n4_ n5_ n6_ n7_ n8_ n9_ n10_ n11_; clear hb hbox hg; have hnb21 := NB332_312.out; have hnc21 := NB312_332.out; have hcz22_0 : w20.cell? ⟨gb332, 0, none⟩ = some (.int .i8 0) := (blk_cell BK332.out 0).trans rfl; have hcz22_1 : w20.cell? ⟨gb332, 1, none⟩ = some (.slice none 0 0) := (blk_cell BK332.out 1).trans rfl; have hcz22_2 : w20.cell? ⟨gb332, 2, none⟩ = some (.slice none 0 0) := (blk_cell BK332.out 2).trans rfl; have hfz22_0 := blk_frozen BK332.out 0; have hfz22_1 := blk_frozen BK332.out 1; have hfz22_2 := blk_frozen BK332.out 2; obtain ⟨Ao23, co23, eo23⟩ := Kd.R_slice HO328.out; subst eo23; obtain ⟨Ao24, co24, eo24⟩ := Kd.R_slice HO331.out; subst eo24) | ((with_reducible refine gate_callee (f := 59) rfl ?_); refine goesL_ (some 29) rfl rfl Try.func59 (by kernel_rfl) rfl #[.agg #[.int .i8 t325, .slice Ao23 t326.length co23, .slice Ao24 t329.length co24]] rfl (by (try simp only [List.map_toArray, List.map_cons, List.map_nil]); first | done | rfl | (simp only [List.length_drop, List.length_take]; rfl)) ?_; (with_reducible refine (impl_NeedsOf.calls kj2 t325 _ _ t326 _ _ t329 t333 t336 _ ?side1 ?side2 ?side3 ?side4 A11.out).mono ?_); (case side1 => refine (Kd.R_reads' (e := 81) (base := w.heap.size) (ok := fun k_ => (True ∧ some k_ ≠ (.slice Ao15 t315.length co15 : Value).ownBlock)) (n := t326.length) (c := co23) ?_).2.2; exact (by (with_reducible repeat (first | apply Kd.R_alloc | apply Kd.R_drewN | apply Kd.R_drew)); exact (Kd.R_mono (Kd.R_far (p := ⟨gb332, 2, none⟩) (Kd.R_far (p := ⟨gb332, 1, none⟩) (Kd.R_far (p := ⟨gb332, 0, none⟩) (Kd.R_types HO328.out BK332.out (by decide)) (fun _ hk => hk.2) (.int .i8 t325)) (fun _ hk => hk.2) (.slice Ao23 t326.length co23)) (fun _ hk => hk.2) (.slice Ao24 t329.length co24)) (fun _ h_ => h_.1)))); (case side2 => exact (Kd.R_reads' HO328.out).2.1); (case side3 => refine (Kd.R_reads' (e := 79) (base := w.heap.size) (ok := fun k_ => (True ∧ some k_ ≠ (.slice Ao16 t318.length co16 : Value).ownBlock)) (n := t329.length) (c := co24) ?_).2.2; exact (by (with_reducible repeat (first | apply Kd.R_alloc | apply Kd.R_drewN | apply Kd.R_drew)); exact (Kd.R_mono (Kd.R_far (p := ⟨gb332, 2, none⟩) (Kd.R_far (p := ⟨gb332, 1, none⟩) (Kd.R_far (p := ⟨gb332, 0, none⟩) (Kd.R_types HO331.out BK332.out (by decide)) (fun _ hk => hk.2) (.int .i8 t325)) (fun _ hk => hk.2) (.slice Ao23 t326.length co23)) (fun _ hk => hk.2) (.slice Ao24 t329.length co24)) (fun _ h_ => h_.1)))); (case side4 => exact (Kd.R_reads' HO331.out).2.1); rintro e w25 ⟨v334, rfl, ho0, hb⟩; refine ⟨_, rfl, ?_⟩; have n0_ := Aside0.mk (Kd.R_below (by (with_reducible repeat (first | apply Kd.R_alloc | apply Kd.R_drewN | apply Kd.R_drew)); exact (Kd.R_mono (Kd.R_far (p := ⟨gb332, 2, none⟩) (Kd.R_far (p := ⟨gb332, 1, none⟩) (Kd.R_far (p := ⟨gb332, 0, none⟩) (Kd.R_types HO317.out BK332.out (by decide)) (fun _ hk => hk.2) (.int .i8 t325)) (fun _ hk => hk.2) (.slice Ao23 t326.length co23)) (fun _ hk => hk.2) (.slice Ao24 t329.length co24)) (fun _ h_ => h_.1))) hb); have n1_ := Aside0.mk (Kd.R_below (by (with_reducible repeat (first | apply Kd.R_alloc | apply Kd.R_drewN | apply Kd.R_drew)); exact (Kd.R_mono (Kd.R_far (p := ⟨gb332, 2, none⟩) (Kd.R_far (p := ⟨gb332, 1, none⟩) (Kd.R_far (p := ⟨gb332, 0, none⟩) (Kd.R_types HO320.out BK332.out (by decide)) (fun _ hk => hk.2) (.int .i8 t325)) (fun _ hk => hk.2) (.slice Ao23 t326.length co23)) (fun _ hk => hk.2) (.slice Ao24 t329.length co24)) (fun _ h_ => h_.1))) hb); have n2_ := Aside0.mk (Kd.R_elder' (by (with_reducible repeat (first | apply Kd.R_alloc | apply Kd.R_drewN | apply Kd.R_drew)); exact (Kd.R_mono (Kd.R_far (p := ⟨gb332, 2, none⟩) (Kd.R_far (p := ⟨gb332, 1, none⟩) (Kd.R_far (p := ⟨gb332, 0, none⟩) (Kd.R_types HO323.out BK332.out (by decide)) (fun _ hk => hk.2) (.int .i8 t325)) (fun _ hk => hk.2) (.slice Ao23 t326.length co23)) (fun _ hk => hk.2) (.slice Ao24 t329.length co24)) (fun _ h_ => h_.1))) (Kd.R_base ho0) hb); have n3_ := Aside0.mk (Kd.R_below (by (with_reducible repeat (first | apply Kd.R_alloc | apply Kd.R_drewN | apply Kd.R_drew)); exact (Kd.R_mono (Kd.R_far (p := ⟨gb332, 2, none⟩) (Kd.R_far (p := ⟨gb332, 1, none⟩) (Kd.R_far (p := ⟨gb332, 0, none⟩) (Kd.R_types HO328.out BK332.out (by decide)) (fun _ hk => hk.2) (.int .i8 t325)) (fun _ hk => hk.2) (.slice Ao23 t326.length co23)) (fun _ hk => hk.2) (.slice Ao24 t329.length co24)) (fun _ h_ => h_.1))) hb); have n4_ := Aside0.mk (Kd.R_below (by (with_reducible repeat (first | apply Kd.R_alloc | apply Kd.R_drewN | apply Kd.R_drew)); exact (Kd.R_mono (Kd.R_far (p := ⟨gb332, 2, none⟩) (Kd.R_far (p := ⟨gb332, 1, none⟩) (Kd.R_far (p := ⟨gb332, 0, none⟩) (Kd.R_types HO331.out BK332.out (by decide)) (fun _ hk => hk.2) (.int .i8 t325)) (fun _ hk => hk.2) (.slice Ao23 t326.length co23)) (fun _ hk => hk.2) (.slice Ao24 t329.length co24)) (fun _ h_ => h_.1))) hb); have n5_ := Aside0.mk (Kd.R_lower (Kd.R_new' ho0 (Kd.R_lt (by (with_reducible repeat (first | apply Kd.R_alloc | apply Kd.R_drewN | apply Kd.R_drew)); exact (Kd.R_mono (Kd.R_far (p := ⟨gb332, 2, none⟩) (Kd.R_far (p := ⟨gb332, 1, none⟩) (Kd.R_far (p := ⟨gb332, 0, none⟩) (Kd.R_types HO323.out BK332.out (by decide)) (fun _ hk => hk.2) (.int .i8 t325)) (fun _ hk => hk.2) (.slice Ao23 t326.length co23)) (fun _ hk => hk.2) (.slice Ao24 t329.length co24)) (fun _ h_ => h_.1))))) (below_size (by repeat (first | (with_reducible first | exact HB.out | apply below_alloc | apply pw_below_drewN | apply below_drew1 | refine below_set ?_ GE312.out | refine below_set ?_ GE332.out) | exact HB.out)))); have n6_ := Aside0.mk (blk_below (g := gb312) (o := .cells #[.int .i8 a0_0, .slice A0_1 l0_1.length c0_1, .slice A0_2 l0_2.length c0_2] 26 (0, 0)) (by (with_reducible repeat (first | refine blk_drewN ?_ _ | refine blk_drew ?_ | refine blk_alloc ?_ _)); refine blk_far ?_ NB312_332.out _; (with_reducible repeat (first | refine blk_drewN ?_ _ | refine blk_drew ?_ | refine blk_alloc ?_ _)); refine blk_far ?_ NB312_332.out _; (with_reducible repeat (first | refine blk_drewN ?_ _ | refine blk_drew ?_ | refine blk_alloc ?_ _)); refine blk_far ?_ NB312_332.out _; (with_reducible repeat (first | refine blk_drewN ?_ _ | refine blk_drew ?_ | refine blk_alloc ?_ _)); exact BK312.out) hb); have n7_ := Aside0.mk (blk_below (g := gb332) (o := .cells #[.int .i8 t325, .slice Ao23 t326.length co23, .slice Ao24 t329.length co24] 31 (0, 0)) (by (with_reducible repeat (first | refine blk_drewN ?_ _ | refine blk_drew ?_ | refine blk_alloc ?_ _)); refine blk_put (cs := #[.int .i8 t325, .slice Ao23 t326.length co23, .slice none 0 0]) ?_ 2 _ rfl; (with_reducible repeat (first | refine blk_drewN ?_ _ | refine blk_drew ?_ | refine blk_alloc ?_ _)); refine blk_put (cs := #[.int .i8 t325, .slice none 0 0, .slice none 0 0]) ?_ 1 _ rfl; (with_reducible repeat (first | refine blk_drewN ?_ _ | refine blk_drew ?_ | refine blk_alloc ?_ _)); refine blk_put (cs := #[.int .i8 0, .slice none 0 0, .slice none 0 0]) ?_ 0 _ rfl; (with_reducible repeat (first | refine blk_drewN ?_ _ | refine blk_drew ?_ | refine blk_alloc ?_ _)); exact BK332.out) hb); have n8_ := Aside0.mk (below_step (by repeat (first | (with_reducible first | exact HB.out | apply below_alloc | apply pw_below_drewN | apply below_drew1 | refine below_set ?_ GE312.out | refine below_set ?_ GE332.out) | exact HB.out)) hb); clear HO317; clear HO320; clear HO323; clear HO328; clear HO331; clear BK312; clear BK332; clear HB; have HO317 := n0_; have HO320 := n1_; have HO323 := n2_; have HO328 := n3_; have HO331 := n4_; have HO335 := n5_; have BK312 := n6_; have BK332 := n7_; have HB := n8_; clear n0_ n1_ n2_ n3_ n4_ n5_ n6_ n7_ n8_; (try clear hb); (try clear hb2); (try clear hk); (try clear hi); (try clear ho0)))
   (try simp only [Act.put, List.setIfInBounds_toArray, List.set_cons_zero, List.set_cons_succ])
   go_cut [40] (fun v40 wc => ∃ (kq : Nat) (x40_11 : Bool), v40 = .bool x40_11 ∧ Aside0 (laws_FnExactNeedsOf.j1 kq t321 t324 t333 t336 x40_11 a0_0 l0_1 l0_2 t325 t326 t329 = some r) ∧ Aside0 (kq ≤ kj2) ∧ Aside0 (Kd.R Kd.bool 4 wc w.heap.size (fun k_ => some k_ ≠ (v334 : Value).ownBlock) v322 t321) ∧ Aside0 (Kd.R Kd.bool 4 wc w.heap.size (fun k_ => some k_ ≠ (v322 : Value).ownBlock) v334 t333) ∧ Aside0 (Kd.R k81 81 wc w.heap.size (fun _ => True) (.slice Ao23 t326.length co23) t326) ∧ Aside0 (Kd.R (Kd.int .i16) 79 wc w.heap.size (fun _ => True) (.slice Ao24 t329.length co24) t329) ∧ Aside0 (wc.heap[gb312]? = some (.cells #[.int .i8 a0_0, (.slice A0_1 l0_1.length c0_1), (.slice A0_2 l0_2.length c0_2)] 26 (0, 0))) ∧ Aside0 (wc.heap[gb332]? = some (.cells #[.int .i8 t325, (.slice Ao23 t326.length co23), (.slice Ao24 t329.length co24)] 31 (0, 0))) ∧ Aside0 (Below w.heap.size w wc))
   case first =>
    have H := HC12.out
    clear HC12
    replace H := Option.bind_eq_some_iff.mp H
    obtain ⟨t337, A260, H⟩ := H
    replace H : (if t337 = true then (laws_FnExactNeedsOf.j1 kj2 t321 t324 t333 t336 (t336 != t324) a0_0 l0_1 l0_2 t325 t326 t329) else (laws_FnExactNeedsOf.j1 kj2 t321 t324 t333 t336 true a0_0 l0_1 l0_2 t325 t326 t329)) = some r := H
    have A26 := Aside0.mk A260
    clear A260
    by_cases c27 : t337 = true
    ·subst c27
     have H1 : (laws_FnExactNeedsOf.j1 kj2 t321 t324 t333 t336 (t336 != t324) a0_0 l0_1 l0_2 t325 t326 t329) = some r := by rw [if_pos rfl] at H; exact H
     clear H
     have H := H1
     clear H1
     have H' := Aside0.mk H
     clear H
     obtain ⟨Ao28, co28, eo28⟩ := Kd.R_slice HO335.out
     subst eo28
     obtain ⟨Ao29, co29, eo29⟩ := Kd.R_slice HO323.out
     subst eo29
     go_wp2_with (first | ((with_reducible refine gate_callee (f := 60) rfl ?_); refine goesL_ (some 34) rfl rfl Try.func60 (by kernel_rfl) rfl #[.slice Ao28 t333.length co28, .slice Ao29 t321.length co29] rfl (by (try simp only [List.map_toArray, List.map_cons, List.map_nil]); first | done | rfl | (simp only [List.length_drop, List.length_take]; rfl)) ?_; (with_reducible refine (laws_eqBoolS.calls kj2 _ _ t333 _ _ t321 true _ ?side1 ?side2 ?side3 ?side4 A26.out).mono ?_); (case side1 => repeat (first | exact (Kd.R_reads' HO335.out).2.2 | (with_reducible refine Kd.C_alloc ?_ _) | (with_reducible refine Kd.C_drewN ?_ _) | (with_reducible refine Kd.C_drew ?_))); (case side2 => exact (Kd.R_reads' HO335.out).2.1); (case side3 => repeat (first | exact (Kd.R_reads' HO323.out).2.2 | (with_reducible refine Kd.C_alloc ?_ _) | (with_reducible refine Kd.C_drewN ?_ _) | (with_reducible refine Kd.C_drew ?_))); (case side4 => exact (Kd.R_reads' HO323.out).2.1); rintro e w' ⟨rfl, ⟨nd, rfl⟩⟩; refine ⟨_, rfl, ?_⟩))
     go_meet
     case rel => exact ⟨_, ((t336 != t324)), (by first | rfl | (simp; done) | (simp [*]; done) | (exact congrArg (Value.int .i64) (wrap_eq (by omega)))), H', ⟨by have := HJ2.out; first | omega | exact Nat.le_refl _⟩, ⟨by (with_reducible repeat (first | apply Kd.R_alloc | apply Kd.R_drewN | apply Kd.R_drew)); exact Kd.R_mono HO323.out (fun _ hk => hk.2)⟩, ⟨by (with_reducible repeat (first | apply Kd.R_alloc | apply Kd.R_drewN | apply Kd.R_drew)); exact Kd.R_mono HO335.out (fun _ hk => hk.2)⟩, ⟨by (with_reducible repeat (first | apply Kd.R_alloc | apply Kd.R_drewN | apply Kd.R_drew)); exact Kd.R_mono HO328.out (fun _ hk => trivial)⟩, ⟨by (with_reducible repeat (first | apply Kd.R_alloc | apply Kd.R_drewN | apply Kd.R_drew)); exact Kd.R_mono HO331.out (fun _ hk => trivial)⟩, ⟨by (with_reducible repeat (first | refine blk_drewN ?_ _ | refine blk_drew ?_ | refine blk_alloc ?_ _)); exact BK312.out⟩, ⟨by (with_reducible repeat (first | refine blk_drewN ?_ _ | refine blk_drew ?_ | refine blk_alloc ?_ _)); exact BK332.out⟩, ⟨by repeat (first | (with_reducible first | exact HB.out | apply below_alloc | apply pw_below_drewN | apply below_drew1 | refine below_set ?_ GE312.out | refine below_set ?_ GE332.out) | exact HB.out)⟩⟩
    ·replace c27 := Bool.eq_false_iff.mpr c27
     subst c27
     have H1 : (laws_FnExactNeedsOf.j1 kj2 t321 t324 t333 t336 true a0_0 l0_1 l0_2 t325 t326 t329) = some r := by rw [if_neg (show ¬ (false = true) by decide)] at H; exact H
     clear H
     have H := H1
     clear H1
     have H' := Aside0.mk H
     clear H
     obtain ⟨Ao30, co30, eo30⟩ := Kd.R_slice HO335.out
     subst eo30
     obtain ⟨Ao31, co31, eo31⟩ := Kd.R_slice HO323.out
     subst eo31
     go_wp2_with (first | ((with_reducible refine gate_callee (f := 60) rfl ?_); refine goesL_ (some 34) rfl rfl Try.func60 (by kernel_rfl) rfl #[.slice Ao30 t333.length co30, .slice Ao31 t321.length co31] rfl (by (try simp only [List.map_toArray, List.map_cons, List.map_nil]); first | done | rfl | (simp only [List.length_drop, List.length_take]; rfl)) ?_; (with_reducible refine (laws_eqBoolS.calls kj2 _ _ t333 _ _ t321 false _ ?side1 ?side2 ?side3 ?side4 A26.out).mono ?_); (case side1 => repeat (first | exact (Kd.R_reads' HO335.out).2.2 | (with_reducible refine Kd.C_alloc ?_ _) | (with_reducible refine Kd.C_drewN ?_ _) | (with_reducible refine Kd.C_drew ?_))); (case side2 => exact (Kd.R_reads' HO335.out).2.1); (case side3 => repeat (first | exact (Kd.R_reads' HO323.out).2.2 | (with_reducible refine Kd.C_alloc ?_ _) | (with_reducible refine Kd.C_drewN ?_ _) | (with_reducible refine Kd.C_drew ?_))); (case side4 => exact (Kd.R_reads' HO323.out).2.1); rintro e w' ⟨rfl, ⟨nd, rfl⟩⟩; refine ⟨_, rfl, ?_⟩))
     go_meet
     case rel => exact ⟨_, (true), (by first | rfl | (simp; done) | (simp [*]; done) | (exact congrArg (Value.int .i64) (wrap_eq (by omega)))), H', ⟨by have := HJ2.out; first | omega | exact Nat.le_refl _⟩, ⟨by (with_reducible repeat (first | apply Kd.R_alloc | apply Kd.R_drewN | apply Kd.R_drew)); exact Kd.R_mono HO323.out (fun _ hk => hk.2)⟩, ⟨by (with_reducible repeat (first | apply Kd.R_alloc | apply Kd.R_drewN | apply Kd.R_drew)); exact Kd.R_mono HO335.out (fun _ hk => hk.2)⟩, ⟨by (with_reducible repeat (first | apply Kd.R_alloc | apply Kd.R_drewN | apply Kd.R_drew)); exact Kd.R_mono HO328.out (fun _ hk => trivial)⟩, ⟨by (with_reducible repeat (first | apply Kd.R_alloc | apply Kd.R_drewN | apply Kd.R_drew)); exact Kd.R_mono HO331.out (fun _ hk => trivial)⟩, ⟨by (with_reducible repeat (first | refine blk_drewN ?_ _ | refine blk_drew ?_ | refine blk_alloc ?_ _)); exact BK312.out⟩, ⟨by (with_reducible repeat (first | refine blk_drewN ?_ _ | refine blk_drew ?_ | refine blk_alloc ?_ _)); exact BK332.out⟩, ⟨by repeat (first | (with_reducible first | exact HB.out | apply below_alloc | apply pw_below_drewN | apply below_drew1 | refine below_set ?_ GE312.out | refine below_set ?_ GE332.out) | exact HB.out)⟩⟩
   case rest =>
    clear HC12
    try clear c1
    try clear c2
    try clear p2
    try clear c5
    try clear c6
    try clear c7
    try clear c7b0
    try clear c16
    try clear c21
    try clear c23
    try clear c27
    try clear hcz13_0
    try clear hcz13_1
    try clear hcz13_2
    try clear hcz18_0
    try clear hcz18_1
    try clear hcz18_2
    try clear hcz22_0
    try clear hcz22_1
    try clear hcz22_2
    try clear hcz5_0
    try clear hcz5_1
    try clear hcz5_2
    try clear hfz13_0
    try clear hfz13_1
    try clear hfz13_2
    try clear hfz18_0
    try clear hfz18_1
    try clear hfz18_2
    try clear hfz22_0
    try clear hfz22_1
    try clear hfz22_2
    try clear hfz5_0
    try clear hfz5_1
    try clear hfz5_2
    try clear p2
    obtain ⟨kq, x40_11, rfl, HA, HJ11, HO_4, HO_7, HO_333001, HO_333002, BK312, BK332, HB⟩ := hcut
    cases kq with
    | zero => exact absurd HA.out (by simp [laws_FnExactNeedsOf.j1])
    | succ kj11 =>
     have H := HA.out
     clear HA
     simp only [laws_FnExactNeedsOf.j1] at H
     have HC32 := Aside0.mk H
     clear H
     go_upto_if 40 with (fail)
     go_cut [] (fun wc => ∃ (kq : Nat), Aside0 (laws_FnExactNeedsOf.j2 kq t321 t324 t333 t336 a0_0 l0_1 l0_2 t325 t326 t329 = some r) ∧ Aside0 (kq ≤ kj11) ∧ Aside0 (Kd.R Kd.bool 4 wc w.heap.size (fun k_ => some k_ ≠ (v334 : Value).ownBlock) v322 t321) ∧ Aside0 (Kd.R Kd.bool 4 wc w.heap.size (fun k_ => some k_ ≠ (v322 : Value).ownBlock) v334 t333) ∧ Aside0 (Kd.R k81 81 wc w.heap.size (fun _ => True) (.slice Ao23 t326.length co23) t326) ∧ Aside0 (Kd.R (Kd.int .i16) 79 wc w.heap.size (fun _ => True) (.slice Ao24 t329.length co24) t329) ∧ Aside0 (wc.heap[gb312]? = some (.cells #[.int .i8 a0_0, (.slice A0_1 l0_1.length c0_1), (.slice A0_2 l0_2.length c0_2)] 26 (0, 0))) ∧ Aside0 (wc.heap[gb332]? = some (.cells #[.int .i8 t325, (.slice Ao23 t326.length co23), (.slice Ao24 t329.length co24)] 31 (0, 0))) ∧ Aside0 (Below w.heap.size w wc))
     case first =>
      have H := HC32.out
      clear HC32
      by_cases c33 : x40_11 = true
      ·subst c33
       have H1 : (some false) = some r := by rw [if_pos rfl] at H; exact H
       clear H
       have H := H1
       clear H1
       obtain rfl := Option.some.inj H
       go_wp2
       go_ret
       exact ⟨by first | rfl | (simp [errW_none, errW_some] <;> rfl) | (simp [*, errW_none, errW_some] <;> rfl), by repeat (first | (with_reducible first | exact HB.out | apply below_alloc | apply pw_below_drewN | apply below_drew1 | refine below_set ?_ GE312.out | refine below_set ?_ GE332.out) | exact HB.out)⟩
      ·replace c33 := Bool.eq_false_iff.mpr c33
       subst c33
       have H1 : (laws_FnExactNeedsOf.j2 kj11 t321 t324 t333 t336 a0_0 l0_1 l0_2 t325 t326 t329) = some r := by rw [if_neg (show ¬ (false = true) by decide)] at H; exact H
       clear H
       have H := H1
       clear H1
       have H' := Aside0.mk H
       clear H
       go_wp2
       go_meet
       case rel => exact ⟨_, H', ⟨by have := HJ2.out; have := HJ11.out; first | omega | exact Nat.le_refl _⟩, ⟨by (with_reducible repeat (first | apply Kd.R_alloc | apply Kd.R_drewN | apply Kd.R_drew)); exact HO_4.out⟩, ⟨by (with_reducible repeat (first | apply Kd.R_alloc | apply Kd.R_drewN | apply Kd.R_drew)); exact HO_7.out⟩, ⟨by (with_reducible repeat (first | apply Kd.R_alloc | apply Kd.R_drewN | apply Kd.R_drew)); exact HO_333001.out⟩, ⟨by (with_reducible repeat (first | apply Kd.R_alloc | apply Kd.R_drewN | apply Kd.R_drew)); exact HO_333002.out⟩, ⟨by (with_reducible repeat (first | refine blk_drewN ?_ _ | refine blk_drew ?_ | refine blk_alloc ?_ _)); exact BK312.out⟩, ⟨by (with_reducible repeat (first | refine blk_drewN ?_ _ | refine blk_drew ?_ | refine blk_alloc ?_ _)); exact BK332.out⟩, ⟨by repeat (first | (with_reducible first | exact HB.out | apply below_alloc | apply pw_below_drewN | apply below_drew1 | refine below_set ?_ GE312.out | refine below_set ?_ GE332.out) | exact HB.out)⟩⟩
     case rest =>
      clear HC32
      try clear c1
      try clear c2
      try clear p2
      try clear c3
      try clear c5
      try clear c6
      try clear c7
      try clear c7b0
      try clear c16
      try clear c21
      try clear c23
      try clear c27
      try clear c33
      try clear hcz13_0
      try clear hcz13_1
      try clear hcz13_2
      try clear hcz18_0
      try clear hcz18_1
      try clear hcz18_2
      try clear hcz22_0
      try clear hcz22_1
      try clear hcz22_2
      try clear hcz5_0
      try clear hcz5_1
      try clear hcz5_2
      try clear hfz13_0
      try clear hfz13_1
      try clear hfz13_2
      try clear hfz18_0
      try clear hfz18_1
      try clear hfz18_2
      try clear hfz22_0
      try clear hfz22_1
      try clear hfz22_2
      try clear hfz5_0
      try clear hfz5_1
      try clear hfz5_2
      try clear p2
      obtain ⟨kq, HA, HJ31, HO_4, HO_7, HO_333001, HO_333002, BK312, BK332, HB⟩ := hcut
      cases kq with
      | zero => exact absurd HA.out (by simp [laws_FnExactNeedsOf.j2])
      | succ kj31 =>
       have H := HA.out
       clear HA
       simp only [laws_FnExactNeedsOf.j2] at H
       replace H := Option.bind_eq_some_iff.mp H
       obtain ⟨⟨t338, t339, t342⟩, A340, H⟩ := H
       replace H : ((laws_eqNetwork.f kj31 t325 t326 t329 t338 t339 t342).bind fun t345 => (if t345 = true then (laws_FnExactNeedsOf.j3 kj31 t321 t324 t333 t336 a0_0 l0_1 l0_2 t325 t326 t329) else (some false))) = some r := H
       have A34 := Aside0.mk A340
       clear A340
       replace H := Option.bind_eq_some_iff.mp H
       obtain ⟨t345, A350, H⟩ := H
       replace H : (if t345 = true then (laws_FnExactNeedsOf.j3 kj31 t321 t324 t333 t336 a0_0 l0_1 l0_2 t325 t326 t329) else (some false)) = some r := H
       have A35 := Aside0.mk A350
       clear A350
       have HC36 := Aside0.mk H
       clear H
       try go_wp2
       have n0_ := Aside0.mk (Kd.R_drew HO_4.out)
       have n1_ := Aside0.mk (Kd.R_drew HO_7.out)
       have n2_ := Aside0.mk (Kd.R_drew HO_333001.out)
       have n3_ := Aside0.mk (Kd.R_drew HO_333002.out)
       have n4_ := Aside0.mk (blk_drew BK312.out)
       have n5_ := Aside0.mk (blk_drew BK332.out)
       have n6_ := Aside0.mk (below_drew1 HB.out)
       clear HO_4
       clear HO_7
       clear HO_333001
       clear HO_333002
       clear BK312
       clear BK332
       clear HB
       have HO_4 := n0_
       have HO_7 := n1_
       have HO_333001 := n2_
       have HO_333002 := n3_
       have BK312 := n4_
       have BK332 := n5_
       have HB := n6_
       clear n0_ n1_ n2_ n3_ n4_ n5_ n6_
       refine start_ (n := 5) (S := fun w' => w'.cell? ⟨gb332, 0, none⟩ = some (.int .i8 t325) ∧ w'.cell? ⟨gb332, 1, none⟩ = some (.slice Ao23 t326.length co23) ∧ w'.cell? ⟨gb332, 2, none⟩ = some (.slice Ao24 t329.length co24) ∧ w'.cell? ⟨gb312, 0, none⟩ = some (.int .i8 a0_0) ∧ w'.cell? ⟨gb312, 1, none⟩ = some (.slice A0_1 l0_1.length c0_1) ∧ w'.cell? ⟨gb312, 2, none⟩ = some (.slice A0_2 l0_2.length c0_2)) (ds := []) #[false, false, false, false, false] (by kernel_rfl) rfl rfl ⟨(blk_cell BK332.out 0).trans rfl, (blk_cell BK332.out 1).trans rfl, (blk_cell BK332.out 2).trans rfl, (blk_cell BK312.out 0).trans rfl, (blk_cell BK312.out 1).trans rfl, (blk_cell BK312.out 2).trans rfl⟩ (fun hHeld => ?_)
       generalize wc.drew = w37 at HO_4 HO_7 HO_333001 HO_333002 BK312 BK332 HB hHeld ⊢
       refine take_ (i := 0) (N := some 41) (v := ?_) (a' := ?_) #[true, false, false, false, false] rfl rfl (by kernel_rfl) (fun _ _ _ h => h) (Or.inl ⟨by rfl, ?_⟩) hHeld ?_ ?_
       rotate_left
       ·rintro w' ⟨s0, s1, s2, s3, s4, s5⟩
        go_simp
        with_reducible rfl
       rotate_left
       ·simp only [Act.put, List.setIfInBounds_toArray, List.set_cons_zero, List.set_cons_succ, i64_w, i32_w]
        rfl
       refine take_ (i := 1) (N := some 42) (v := ?_) (a' := ?_) #[true, true, false, false, false] rfl rfl (by kernel_rfl) (fun _ _ _ h => h) (Or.inl ⟨by rfl, ?_⟩) hHeld ?_ ?_
       rotate_left
       ·rintro w' ⟨s0, s1, s2, s3, s4, s5⟩
        go_simp
        with_reducible rfl
       rotate_left
       ·simp only [Act.put, List.setIfInBounds_toArray, List.set_cons_zero, List.set_cons_succ, i64_w, i32_w]
        rfl
       refine one_ (i := 2) (N := some 43) #[true, true, true, false, false] rfl rfl (by kernel_rfl) (by decide) (fun K hK => ?_)
       refine goes_ Try.func23 (by kernel_rfl) rfl #[.agg #[.int .i8 a0_0, .slice A0_1 l0_1.length c0_1, .slice A0_2 l0_2.length c0_2]] (by rfl) rfl rfl (by (try simp only [List.map_toArray, List.map_cons, List.map_nil]); first | done | rfl | (simp only [List.length_drop, List.length_take]; rfl)) ?_
       with_reducible refine (laws_toNetwork.calls kj31 a0_0 _ _ l0_1 _ _ l0_2 t338 t339 t342 _ ?side1 ?side2 ?side3 ?side4 A34.out).mono ?_
       (case side1 => repeat (first | exact (Kd.C_below HR0_1.out HB.out) | (with_reducible refine Kd.C_alloc ?_ _) | (with_reducible refine Kd.C_drewN ?_ _) | (with_reducible refine Kd.C_drew ?_)))
       (case side2 => exact HC0_1.out)
       (case side3 => repeat (first | exact (Kd.C_below HR0_2.out HB.out) | (with_reducible refine Kd.C_alloc ?_ _) | (with_reducible refine Kd.C_drewN ?_ _) | (with_reducible refine Kd.C_drew ?_)))
       (case side4 => exact HC0_2.out)
       rintro e w38 ⟨v340, v343, rfl, ho0, ho1, hb⟩
       refine ⟨_, rfl, ?_⟩
       have n0_ := Aside0.mk (Kd.R_below (by (with_reducible repeat (first | apply Kd.R_alloc | apply Kd.R_drewN | apply Kd.R_drew)); exact HO_4.out) hb)
       have n1_ := Aside0.mk (Kd.R_below (by (with_reducible repeat (first | apply Kd.R_alloc | apply Kd.R_drewN | apply Kd.R_drew)); exact HO_7.out) hb)
       have n2_ := Aside0.mk (Kd.R_elder' (by (with_reducible repeat (first | apply Kd.R_alloc | apply Kd.R_drewN | apply Kd.R_drew)); exact HO_333001.out) (Kd.R_base ho0) hb)
       have n3_ := Aside0.mk (Kd.R_elder' (by (with_reducible repeat (first | apply Kd.R_alloc | apply Kd.R_drewN | apply Kd.R_drew)); exact HO_333002.out) (Kd.R_base ho1) hb)
       have n4_ := Aside0.mk (Kd.R_lower (Kd.R_new' ho0 (Kd.R_lt (by (with_reducible repeat (first | apply Kd.R_alloc | apply Kd.R_drewN | apply Kd.R_drew)); exact HO_333001.out))) (below_size (by repeat (first | (with_reducible first | exact HB.out | apply below_alloc | apply pw_below_drewN | apply below_drew1 | refine below_set ?_ GE312.out | refine below_set ?_ GE332.out) | exact HB.out))))
       have n5_ := Aside0.mk (Kd.R_lower (Kd.R_new' ho1 (Kd.R_lt (by (with_reducible repeat (first | apply Kd.R_alloc | apply Kd.R_drewN | apply Kd.R_drew)); exact HO_333002.out))) (below_size (by repeat (first | (with_reducible first | exact HB.out | apply below_alloc | apply pw_below_drewN | apply below_drew1 | refine below_set ?_ GE312.out | refine below_set ?_ GE332.out) | exact HB.out))))
       have n6_ := Aside0.mk (blk_below (g := gb312) (o := .cells #[.int .i8 a0_0, .slice A0_1 l0_1.length c0_1, .slice A0_2 l0_2.length c0_2] 26 (0, 0)) (by (with_reducible repeat (first | refine blk_drewN ?_ _ | refine blk_drew ?_ | refine blk_alloc ?_ _)); exact BK312.out) hb)
       have n7_ := Aside0.mk (blk_below (g := gb332) (o := .cells #[.int .i8 t325, .slice Ao23 t326.length co23, .slice Ao24 t329.length co24] 31 (0, 0)) (by (with_reducible repeat (first | refine blk_drewN ?_ _ | refine blk_drew ?_ | refine blk_alloc ?_ _)); exact BK332.out) hb)
       have n8_ := Aside0.mk (below_step (by repeat (first | (with_reducible first | exact HB.out | apply below_alloc | apply pw_below_drewN | apply below_drew1 | refine below_set ?_ GE312.out | refine below_set ?_ GE332.out) | exact HB.out)) hb)
       clear HO_4
       clear HO_7
       clear HO_333001
       clear HO_333002
       clear BK312
       clear BK332
       clear HB
       have HO_4 := n0_
       have HO_7 := n1_
       have HO_333001 := n2_
       have HO_333002 := n3_
       have HO341 := n4_
       have HO344 := n5_
       have BK312 := n6_
       have BK332 := n7_
       have HB := n8_
       clear n0_ n1_ n2_ n3_ n4_ n5_ n6_ n7_ n8_
       (try clear hb)
       (try clear hb2)
       (try clear hk)
       (try clear hi)
       (try clear ho0)
       (try clear ho1)
       obtain ⟨Ao39, co39, eo39⟩ := Kd.R_slice HO341.out
       (first | subst eo39 | (injection eo39 with f1_ f2_ f3_; have f4_ := f1_.symm; have f5_ := f3_.symm; clear f1_ f2_ f3_; subst f4_; subst f5_))
       obtain ⟨Ao40, co40, eo40⟩ := Kd.R_slice HO344.out
       (first | subst eo40 | (injection eo40 with f1_ f2_ f3_; have f4_ := f1_.symm; have f5_ := f3_.symm; clear f1_ f2_ f3_; subst f4_; subst f5_))
       refine hK.out _ _ ⟨(blk_cell BK332.out 0).trans rfl, (blk_cell BK332.out 1).trans rfl, (blk_cell BK332.out 2).trans rfl, (blk_cell BK312.out 0).trans rfl, (blk_cell BK312.out 1).trans rfl, (blk_cell BK312.out 2).trans rfl⟩ (fun hHeld => ?_)
       clear hK K
       refine norm_ (a' := ?_) ?_ ?_
       rotate_left
       ·show Act.put _ (some 43) _ = _
        simp only [Act.put, List.setIfInBounds_toArray, List.set_cons_zero, List.set_cons_succ, i64_w, i32_w]
        rfl
       refine one_ (i := 3) (N := some 44) #[true, true, true, true, false] rfl rfl (by kernel_rfl) (by decide) (fun K hK => ?_)
       refine goes_ Try.func25 (by kernel_rfl) rfl #[.agg #[.int .i8 t325, .slice Ao23 t326.length co23, .slice Ao24 t329.length co24], .agg #[.int .i8 t338, .slice Ao39 t339.length co39, .slice Ao40 t342.length co40]] (by rfl) rfl rfl (by (try simp only [List.map_toArray, List.map_cons, List.map_nil]); first | done | rfl | (simp only [List.length_drop, List.length_take]; rfl)) ?_
       with_reducible refine (laws_eqNetwork.calls kj31 t325 _ _ t326 _ _ t329 t338 _ _ t339 _ _ t342 t345 _ ?side1 ?side2 ?side3 ?side4 ?side5 ?side6 ?side7 ?side8 A35.out).mono ?_
       (case side1 => repeat (first | exact (Kd.R_reads' HO_333001.out).2.2 | (with_reducible refine Kd.C_alloc ?_ _) | (with_reducible refine Kd.C_drewN ?_ _) | (with_reducible refine Kd.C_drew ?_)))
       (case side2 => exact (Kd.R_reads' HO_333001.out).2.1)
       (case side3 => repeat (first | exact (Kd.R_reads' HO_333002.out).2.2 | (with_reducible refine Kd.C_alloc ?_ _) | (with_reducible refine Kd.C_drewN ?_ _) | (with_reducible refine Kd.C_drew ?_)))
       (case side4 => exact (Kd.R_reads' HO_333002.out).2.1)
       (case side5 => repeat (first | exact (Kd.R_reads' HO341.out).2.2 | (with_reducible refine Kd.C_alloc ?_ _) | (with_reducible refine Kd.C_drewN ?_ _) | (with_reducible refine Kd.C_drew ?_)))
       (case side6 => exact (Kd.R_reads' HO341.out).2.1)
       (case side7 => repeat (first | exact (Kd.R_reads' HO344.out).2.2 | (with_reducible refine Kd.C_alloc ?_ _) | (with_reducible refine Kd.C_drewN ?_ _) | (with_reducible refine Kd.C_drew ?_)))
       (case side8 => exact (Kd.R_reads' HO344.out).2.1)
       rintro e w41 ⟨rfl, hb⟩
       refine ⟨_, rfl, ?_⟩
       have n0_ := Aside0.mk (Kd.R_below (by (with_reducible repeat (first | apply Kd.R_alloc | apply Kd.R_drewN | apply Kd.R_drew)); exact HO_4.out) hb)
       have n1_ := Aside0.mk (Kd.R_below (by (with_reducible repeat (first | apply Kd.R_alloc | apply Kd.R_drewN | apply Kd.R_drew)); exact HO_7.out) hb)
       have n2_ := Aside0.mk (Kd.R_below (by (with_reducible repeat (first | apply Kd.R_alloc | apply Kd.R_drewN | apply Kd.R_drew)); exact HO_333001.out) hb)
       have n3_ := Aside0.mk (Kd.R_below (by (with_reducible repeat (first | apply Kd.R_alloc | apply Kd.R_drewN | apply Kd.R_drew)); exact HO_333002.out) hb)
       have n4_ := Aside0.mk (Kd.R_below (by (with_reducible repeat (first | apply Kd.R_alloc | apply Kd.R_drewN | apply Kd.R_drew)); exact HO341.out) hb)
       have n5_ := Aside0.mk (Kd.R_below (by (with_reducible repeat (first | apply Kd.R_alloc | apply Kd.R_drewN | apply Kd.R_drew)); exact HO344.out) hb)
       have n6_ := Aside0.mk (blk_below (g := gb312) (o := .cells #[.int .i8 a0_0, .slice A0_1 l0_1.length c0_1, .slice A0_2 l0_2.length c0_2] 26 (0, 0)) (by (with_reducible repeat (first | refine blk_drewN ?_ _ | refine blk_drew ?_ | refine blk_alloc ?_ _)); exact BK312.out) hb)
       have n7_ := Aside0.mk (blk_below (g := gb332) (o := .cells #[.int .i8 t325, .slice Ao23 t326.length co23, .slice Ao24 t329.length co24] 31 (0, 0)) (by (with_reducible repeat (first | refine blk_drewN ?_ _ | refine blk_drew ?_ | refine blk_alloc ?_ _)); exact BK332.out) hb)
       have n8_ := Aside0.mk (below_step (by repeat (first | (with_reducible first | exact HB.out | apply below_alloc | apply pw_below_drewN | apply below_drew1 | refine below_set ?_ GE312.out | refine below_set ?_ GE332.out) | exact HB.out)) hb)
       clear HO_4
       clear HO_7
       clear HO_333001
       clear HO_333002
       clear HO341
       clear HO344
       clear BK312
       clear BK332
       clear HB
       have HO_4 := n0_
       have HO_7 := n1_
       have HO_333001 := n2_
       have HO_333002 := n3_
       have HO341 := n4_
       have HO344 := n5_
       have BK312 := n6_
       have BK332 := n7_
       have HB := n8_
       clear n0_ n1_ n2_ n3_ n4_ n5_ n6_ n7_ n8_
       (try clear hb)
       (try clear hb2)
       (try clear hk)
       (try clear hi)
       refine hK.out _ _ ⟨(blk_cell BK332.out 0).trans rfl, (blk_cell BK332.out 1).trans rfl, (blk_cell BK332.out 2).trans rfl, (blk_cell BK312.out 0).trans rfl, (blk_cell BK312.out 1).trans rfl, (blk_cell BK312.out 2).trans rfl⟩ (fun hHeld => ?_)
       clear hK K
       refine norm_ (a' := ?_) ?_ ?_
       rotate_left
       ·show Act.put _ (some 44) _ = _
        simp only [Act.put, List.setIfInBounds_toArray, List.set_cons_zero, List.set_cons_succ, i64_w, i32_w]
        rfl
       refine pure_ (i := 4) (N := some 45) (v := ?_) (a' := ?_) #[true, true, true, true, true] rfl rfl (by kernel_rfl) (fun _ _ _ h => h) (Or.inl ⟨by rfl, ?_⟩) ?_ ?_
       rotate_left
       ·intro w'
        go_simp
        with_reducible rfl
       rotate_left
       ·simp only [Act.put, List.setIfInBounds_toArray, List.set_cons_zero, List.set_cons_succ, i64_w, i32_w]
        rfl
       refine done_ (by kernel_rfl) ?_
       go_upto_if 45 with (fail)
       go_cut [] (fun wc => ∃ (kq : Nat), Aside0 (laws_FnExactNeedsOf.j3 kq t321 t324 t333 t336 a0_0 l0_1 l0_2 t325 t326 t329 = some r) ∧ Aside0 (kq ≤ kj31) ∧ Aside0 (Kd.R Kd.bool 4 wc w.heap.size (fun k_ => some k_ ≠ (v334 : Value).ownBlock) v322 t321) ∧ Aside0 (Kd.R Kd.bool 4 wc w.heap.size (fun k_ => some k_ ≠ (v322 : Value).ownBlock) v334 t333) ∧ Aside0 (Kd.R k81 81 wc w.heap.size (fun _ => True) (.slice Ao23 t326.length co23) t326) ∧ Aside0 (Kd.R (Kd.int .i16) 79 wc w.heap.size (fun _ => True) (.slice Ao24 t329.length co24) t329) ∧ Aside0 (wc.heap[gb312]? = some (.cells #[.int .i8 a0_0, (.slice A0_1 l0_1.length c0_1), (.slice A0_2 l0_2.length c0_2)] 26 (0, 0))) ∧ Aside0 (wc.heap[gb332]? = some (.cells #[.int .i8 t325, (.slice Ao23 t326.length co23), (.slice Ao24 t329.length co24)] 31 (0, 0))) ∧ Aside0 (Below w.heap.size w wc))
       case first =>
        have H := HC36.out
        clear HC36
        by_cases c42 : t345 = true
        ·subst c42
         have H1 : (laws_FnExactNeedsOf.j3 kj31 t321 t324 t333 t336 a0_0 l0_1 l0_2 t325 t326 t329) = some r := by rw [if_pos rfl] at H; exact H
         clear H
         have H := H1
         clear H1
         have H' := Aside0.mk H
         clear H
         go_wp2
         go_meet
         case rel => exact ⟨_, H', ⟨by have := HJ2.out; have := HJ11.out; have := HJ31.out; first | omega | exact Nat.le_refl _⟩, ⟨by (with_reducible repeat (first | apply Kd.R_alloc | apply Kd.R_drewN | apply Kd.R_drew)); exact HO_4.out⟩, ⟨by (with_reducible repeat (first | apply Kd.R_alloc | apply Kd.R_drewN | apply Kd.R_drew)); exact HO_7.out⟩, ⟨by (with_reducible repeat (first | apply Kd.R_alloc | apply Kd.R_drewN | apply Kd.R_drew)); exact Kd.R_mono HO_333001.out (fun _ hk => trivial)⟩, ⟨by (with_reducible repeat (first | apply Kd.R_alloc | apply Kd.R_drewN | apply Kd.R_drew)); exact Kd.R_mono HO_333002.out (fun _ hk => trivial)⟩, ⟨by (with_reducible repeat (first | refine blk_drewN ?_ _ | refine blk_drew ?_ | refine blk_alloc ?_ _)); exact BK312.out⟩, ⟨by (with_reducible repeat (first | refine blk_drewN ?_ _ | refine blk_drew ?_ | refine blk_alloc ?_ _)); exact BK332.out⟩, ⟨by repeat (first | (with_reducible first | exact HB.out | apply below_alloc | apply pw_below_drewN | apply below_drew1 | refine below_set ?_ GE312.out | refine below_set ?_ GE332.out) | exact HB.out)⟩⟩
        ·replace c42 := Bool.eq_false_iff.mpr c42
         subst c42
         have H1 : (some false) = some r := by rw [if_neg (show ¬ (false = true) by decide)] at H; exact H
         clear H
         have H := H1
         clear H1
         obtain rfl := Option.some.inj H
         go_wp2
         go_ret
         exact ⟨by first | rfl | (simp [errW_none, errW_some] <;> rfl) | (simp [*, errW_none, errW_some] <;> rfl), by repeat (first | (with_reducible first | exact HB.out | apply below_alloc | apply pw_below_drewN | apply below_drew1 | refine below_set ?_ GE312.out | refine below_set ?_ GE332.out) | exact HB.out)⟩
       case rest =>
        clear HC36
        try clear c1
        try clear c2
        try clear p2
        try clear c3
        try clear c4
        try clear c5
        try clear c6
        try clear c7
        try clear c7b0
        try clear c16
        try clear c21
        try clear c23
        try clear c25
        try clear c27
        try clear c33
        try clear c42
        try clear hcz13_0
        try clear hcz13_1
        try clear hcz13_2
        try clear hcz18_0
        try clear hcz18_1
        try clear hcz18_2
        try clear hcz22_0
        try clear hcz22_1
        try clear hcz22_2
        try clear hcz5_0
        try clear hcz5_1
        try clear hcz5_2
        try clear hfz13_0
        try clear hfz13_1
        try clear hfz13_2
        try clear hfz18_0
        try clear hfz18_1
        try clear hfz18_2
        try clear hfz22_0
        try clear hfz22_1
        try clear hfz22_2
        try clear hfz5_0
        try clear hfz5_1
        try clear hfz5_2
        try clear p2
        obtain ⟨kq, HA, HJ35, HO_4, HO_7, HO_333001, HO_333002, BK312, BK332, HB⟩ := hcut
        cases kq with
        | zero => exact absurd HA.out (by simp [laws_FnExactNeedsOf.j3])
        | succ kj35 =>
         have H := HA.out
         clear HA
         simp only [laws_FnExactNeedsOf.j3] at H
         replace H := Option.bind_eq_some_iff.mp H
         obtain ⟨⟨t346, t347, t348⟩, A430, H⟩ := H
         replace H : (if t346 < 0 then (laws_FnExactNeedsOf.j4 kj35 t321 t324 t333 true a0_0 l0_1 l0_2) else ((laws_eqBoolS.f kj35 t333 t321).bind fun t349 => (if t349 = true then (laws_FnExactNeedsOf.j4 kj35 t321 t324 t333 (t336 != t324) a0_0 l0_1 l0_2) else (laws_FnExactNeedsOf.j4 kj35 t321 t324 t333 true a0_0 l0_1 l0_2)))) = some r := H
         have A43 := Aside0.mk A430
         clear A430
         have HC44 := Aside0.mk H
         clear H
         have hnb45 := NB332_312.out
         have hnc45 := NB312_332.out
         have hcz46_0 : wc.cell? ⟨gb332, 0, none⟩ = some (.int .i8 t325) := (blk_cell BK332.out 0).trans rfl
         have hcz46_1 : wc.cell? ⟨gb332, 1, none⟩ = some (.slice Ao23 t326.length co23) := (blk_cell BK332.out 1).trans rfl
         have hcz46_2 : wc.cell? ⟨gb332, 2, none⟩ = some (.slice Ao24 t329.length co24) := (blk_cell BK332.out 2).trans rfl
         have hfz46_0 := blk_frozen BK332.out 0
         have hfz46_1 := blk_frozen BK332.out 1
         have hfz46_2 := blk_frozen BK332.out 2
         go_upto_region 14 with (first | ((with_reducible refine gate_callee (f := 48) rfl ?_); refine goesL_ (some 48) rfl rfl Try.func48 (by kernel_rfl) rfl #[.agg #[.int .i8 t325, .slice Ao23 t326.length co23, .slice Ao24 t329.length co24], .int .i64 1] rfl (by (try simp only [List.map_toArray, List.map_cons, List.map_nil]); first | done | rfl | (simp only [List.length_drop, List.length_take]; rfl)) ?_; (with_reducible refine (laws_markNetwork.calls kj35 t325 (fun k_ => some k_ = (.slice Ao23 t326.length co23 : Value).ownBlock) (.slice Ao23 t326.length co23) t326 (fun k_ => some k_ = (.slice Ao24 t329.length co24 : Value).ownBlock) (.slice Ao24 t329.length co24) t329 1 t346 t347 t348 w _ ?side1 ?side2 ?side3 A43.out).mono ?_); (case side1 => repeat (first | (with_reducible first | exact HB.out | apply below_alloc | apply pw_below_drewN | apply below_drew1 | refine below_set ?_ GE312.out | refine below_set ?_ GE332.out) | exact HB.out)); (case side2 => exact Kd.R_tight rfl HO_333001.out); (case side3 => exact Kd.R_tight rfl HO_333002.out); rintro e w47 ⟨rfl, hy0, hy1, hb, hkp⟩; refine ⟨_, rfl, ?_⟩; have n0_ := Aside0.mk (Kd.R_mono (ok' := fun k_ => some k_ ≠ (v334 : Value).ownBlock) (Kd.R_keptB ((Kd.R_apart' (Kd.R_apart' HO_4.out (Kd.R_typed HO_333001.out) (by decide)) (Kd.R_typed HO_333002.out) (by decide))) hkp (fun k_ hk_ hs_ => Or.elim hs_ (fun e_ => (hk_.1.2) e_) (fun e_ => (hk_.2) e_))) (fun k_ hk_ => hk_.1.1.1)); have n1_ := Aside0.mk (Kd.R_mono (ok' := fun k_ => some k_ ≠ (v322 : Value).ownBlock) (Kd.R_keptB ((Kd.R_apart' (Kd.R_apart' HO_7.out (Kd.R_typed HO_333001.out) (by decide)) (Kd.R_typed HO_333002.out) (by decide))) hkp (fun k_ hk_ hs_ => Or.elim hs_ (fun e_ => (hk_.1.2) e_) (fun e_ => (hk_.2) e_))) (fun k_ hk_ => hk_.1.1.1)); have n2_ := Aside0.mk (Kd.R_reok rfl hy0 (fun k_ e_ => HO_333001.out.1 k_ e_)); have n3_ := Aside0.mk (Kd.R_reok rfl hy1 (fun k_ e_ => HO_333002.out.1 k_ e_)); have n4_ := Aside0.mk (blk_kept (by (with_reducible repeat (first | refine blk_drewN ?_ _ | refine blk_drew ?_ | refine blk_alloc ?_ _)); exact BK312.out) hkp (fun hs_ => Or.elim hs_ (fun e_ => (fun e_ => (Kd.R_ne HO_333001.out BK312.out (by decide)) e_) e_) (fun e_ => (fun e_ => (Kd.R_ne HO_333002.out BK312.out (by decide)) e_) e_))); have n5_ := Aside0.mk (blk_kept (by (with_reducible repeat (first | refine blk_drewN ?_ _ | refine blk_drew ?_ | refine blk_alloc ?_ _)); exact BK332.out) hkp (fun hs_ => Or.elim hs_ (fun e_ => (fun e_ => (Kd.R_ne HO_333001.out BK332.out (by decide)) e_) e_) (fun e_ => (fun e_ => (Kd.R_ne HO_333002.out BK332.out (by decide)) e_) e_))); have n6_ := Aside0.mk (hb); clear HO_4; clear HO_7; clear HO_333001; clear HO_333002; clear BK312; clear BK332; clear HB; have HO_4 := n0_; have HO_7 := n1_; have HO_333001 := n2_; have HO_333002 := n3_; have BK312 := n4_; have BK332 := n5_; have HB := n6_; clear n0_ n1_ n2_ n3_ n4_ n5_ n6_; (try clear hb); (try clear hkp); (try clear hy0); (try clear hy1)))
         (try simp only [Act.put, List.setIfInBounds_toArray, List.set_cons_zero, List.set_cons_succ])
         go_cut [61] (fun v61 wc => ∃ (kq : Nat) (x61_43 : Bool), v61 = .bool x61_43 ∧ Aside0 (laws_FnExactNeedsOf.j4 kq t321 t324 t333 x61_43 a0_0 l0_1 l0_2 = some r) ∧ Aside0 (kq ≤ kj35) ∧ Aside0 (Kd.R Kd.bool 4 wc w.heap.size (fun k_ => some k_ ≠ (v334 : Value).ownBlock) v322 t321) ∧ Aside0 (Kd.R Kd.bool 4 wc w.heap.size (fun k_ => some k_ ≠ (v322 : Value).ownBlock) v334 t333) ∧ Aside0 (Kd.R k81 81 wc w.heap.size (fun _ => True) (.slice Ao23 t326.length co23) t347) ∧ Aside0 (Kd.R (Kd.int .i16) 79 wc w.heap.size (fun _ => True) (.slice Ao24 t329.length co24) t348) ∧ Aside0 (wc.heap[gb312]? = some (.cells #[.int .i8 a0_0, (.slice A0_1 l0_1.length c0_1), (.slice A0_2 l0_2.length c0_2)] 26 (0, 0))) ∧ Aside0 (wc.heap[gb332]? = some (.cells #[.int .i8 t325, (.slice Ao23 t326.length co23), (.slice Ao24 t329.length co24)] 31 (0, 0))) ∧ Aside0 (Below w.heap.size w wc))
         case first =>
          have H := HC44.out
          clear HC44
          by_cases c48 : t346 < 0
          ·rw [if_pos c48] at H
           have c48b0 : decide (t346 < 0) = true := decide_eq_true c48
           clear c48
           (first | rw [c48b0] | (simp only [i64_w, i32_w]; rw [c48b0]) | (have h_ := c48b0; simp only [bne] at h_; rw [h_]) | skip)
           have H' := Aside0.mk H
           clear H
           go_wp2
           go_meet
           case rel => exact ⟨_, (true), (by first | rfl | (simp; done) | (simp [*]; done) | (exact congrArg (Value.int .i64) (wrap_eq (by omega)))), H', ⟨by have := HJ2.out; have := HJ11.out; have := HJ31.out; have := HJ35.out; first | omega | exact Nat.le_refl _⟩, ⟨by (with_reducible repeat (first | apply Kd.R_alloc | apply Kd.R_drewN | apply Kd.R_drew)); exact HO_4.out⟩, ⟨by (with_reducible repeat (first | apply Kd.R_alloc | apply Kd.R_drewN | apply Kd.R_drew)); exact HO_7.out⟩, ⟨by (with_reducible repeat (first | apply Kd.R_alloc | apply Kd.R_drewN | apply Kd.R_drew)); exact HO_333001.out⟩, ⟨by (with_reducible repeat (first | apply Kd.R_alloc | apply Kd.R_drewN | apply Kd.R_drew)); exact HO_333002.out⟩, ⟨by (with_reducible repeat (first | refine blk_drewN ?_ _ | refine blk_drew ?_ | refine blk_alloc ?_ _)); exact BK312.out⟩, ⟨by (with_reducible repeat (first | refine blk_drewN ?_ _ | refine blk_drew ?_ | refine blk_alloc ?_ _)); exact BK332.out⟩, ⟨by repeat (first | (with_reducible first | exact HB.out | apply below_alloc | apply pw_below_drewN | apply below_drew1 | refine below_set ?_ GE312.out | refine below_set ?_ GE332.out) | exact HB.out)⟩⟩
          ·rw [if_neg c48] at H
           have c48b0 : decide (t346 < 0) = false := decide_eq_false c48
           clear c48
           (first | rw [c48b0] | (simp only [i64_w, i32_w]; rw [c48b0]) | (have h_ := c48b0; simp only [bne] at h_; rw [h_]) | skip)
           replace H := Option.bind_eq_some_iff.mp H
           obtain ⟨t349, A490, H⟩ := H
           replace H : (if t349 = true then (laws_FnExactNeedsOf.j4 kj35 t321 t324 t333 (t336 != t324) a0_0 l0_1 l0_2) else (laws_FnExactNeedsOf.j4 kj35 t321 t324 t333 true a0_0 l0_1 l0_2)) = some r := H
           have A49 := Aside0.mk A490
           clear A490
           by_cases c50 : t349 = true
           ·subst c50
            have H1 : (laws_FnExactNeedsOf.j4 kj35 t321 t324 t333 (t336 != t324) a0_0 l0_1 l0_2) = some r := by rw [if_pos rfl] at H; exact H
            clear H
            have H := H1
            clear H1
            have H' := Aside0.mk H
            clear H
            obtain ⟨Ao51, co51, eo51⟩ := Kd.R_slice HO_7.out
            subst eo51
            obtain ⟨Ao52, co52, eo52⟩ := Kd.R_slice HO_4.out
            subst eo52
            go_wp2_with (first | (go_at_call 60; (with_reducible refine (laws_eqBoolS.calls kj35 _ _ t333 _ _ t321 true _ ?side1 ?side2 ?side3 ?side4 A49.out).mono ?_); (case side1 => repeat (first | exact (Kd.R_reads' HO_7.out).2.2 | (with_reducible refine Kd.C_alloc ?_ _) | (with_reducible refine Kd.C_drewN ?_ _) | (with_reducible refine Kd.C_drew ?_))); (case side2 => exact (Kd.R_reads' HO_7.out).2.1); (case side3 => repeat (first | exact (Kd.R_reads' HO_4.out).2.2 | (with_reducible refine Kd.C_alloc ?_ _) | (with_reducible refine Kd.C_drewN ?_ _) | (with_reducible refine Kd.C_drew ?_))); (case side4 => exact (Kd.R_reads' HO_4.out).2.1); rintro e w' ⟨rfl, ⟨nd, rfl⟩⟩))
            go_meet
            case rel => exact ⟨_, ((t336 != t324)), (by first | rfl | (simp; done) | (simp [*]; done) | (exact congrArg (Value.int .i64) (wrap_eq (by omega)))), H', ⟨by have := HJ2.out; have := HJ11.out; have := HJ31.out; have := HJ35.out; first | omega | exact Nat.le_refl _⟩, ⟨by (with_reducible repeat (first | apply Kd.R_alloc | apply Kd.R_drewN | apply Kd.R_drew)); exact HO_4.out⟩, ⟨by (with_reducible repeat (first | apply Kd.R_alloc | apply Kd.R_drewN | apply Kd.R_drew)); exact HO_7.out⟩, ⟨by (with_reducible repeat (first | apply Kd.R_alloc | apply Kd.R_drewN | apply Kd.R_drew)); exact HO_333001.out⟩, ⟨by (with_reducible repeat (first | apply Kd.R_alloc | apply Kd.R_drewN | apply Kd.R_drew)); exact HO_333002.out⟩, ⟨by (with_reducible repeat (first | refine blk_drewN ?_ _ | refine blk_drew ?_ | refine blk_alloc ?_ _)); exact BK312.out⟩, ⟨by (with_reducible repeat (first | refine blk_drewN ?_ _ | refine blk_drew ?_ | refine blk_alloc ?_ _)); exact BK332.out⟩, ⟨by repeat (first | (with_reducible first | exact HB.out | apply below_alloc | apply pw_below_drewN | apply below_drew1 | refine below_set ?_ GE312.out | refine below_set ?_ GE332.out) | exact HB.out)⟩⟩
           ·replace c50 := Bool.eq_false_iff.mpr c50
            subst c50
            have H1 : (laws_FnExactNeedsOf.j4 kj35 t321 t324 t333 true a0_0 l0_1 l0_2) = some r := by rw [if_neg (show ¬ (false = true) by decide)] at H; exact H
            clear H
            have H := H1
            clear H1
            have H' := Aside0.mk H
            clear H
            obtain ⟨Ao53, co53, eo53⟩ := Kd.R_slice HO_7.out
            subst eo53
            obtain ⟨Ao54, co54, eo54⟩ := Kd.R_slice HO_4.out
            subst eo54
            go_wp2_with (first | (go_at_call 60; (with_reducible refine (laws_eqBoolS.calls kj35 _ _ t333 _ _ t321 false _ ?side1 ?side2 ?side3 ?side4 A49.out).mono ?_); (case side1 => repeat (first | exact (Kd.R_reads' HO_7.out).2.2 | (with_reducible refine Kd.C_alloc ?_ _) | (with_reducible refine Kd.C_drewN ?_ _) | (with_reducible refine Kd.C_drew ?_))); (case side2 => exact (Kd.R_reads' HO_7.out).2.1); (case side3 => repeat (first | exact (Kd.R_reads' HO_4.out).2.2 | (with_reducible refine Kd.C_alloc ?_ _) | (with_reducible refine Kd.C_drewN ?_ _) | (with_reducible refine Kd.C_drew ?_))); (case side4 => exact (Kd.R_reads' HO_4.out).2.1); rintro e w' ⟨rfl, ⟨nd, rfl⟩⟩))
            go_meet
            case rel => exact ⟨_, (true), (by first | rfl | (simp; done) | (simp [*]; done) | (exact congrArg (Value.int .i64) (wrap_eq (by omega)))), H', ⟨by have := HJ2.out; have := HJ11.out; have := HJ31.out; have := HJ35.out; first | omega | exact Nat.le_refl _⟩, ⟨by (with_reducible repeat (first | apply Kd.R_alloc | apply Kd.R_drewN | apply Kd.R_drew)); exact HO_4.out⟩, ⟨by (with_reducible repeat (first | apply Kd.R_alloc | apply Kd.R_drewN | apply Kd.R_drew)); exact HO_7.out⟩, ⟨by (with_reducible repeat (first | apply Kd.R_alloc | apply Kd.R_drewN | apply Kd.R_drew)); exact HO_333001.out⟩, ⟨by (with_reducible repeat (first | apply Kd.R_alloc | apply Kd.R_drewN | apply Kd.R_drew)); exact HO_333002.out⟩, ⟨by (with_reducible repeat (first | refine blk_drewN ?_ _ | refine blk_drew ?_ | refine blk_alloc ?_ _)); exact BK312.out⟩, ⟨by (with_reducible repeat (first | refine blk_drewN ?_ _ | refine blk_drew ?_ | refine blk_alloc ?_ _)); exact BK332.out⟩, ⟨by repeat (first | (with_reducible first | exact HB.out | apply below_alloc | apply pw_below_drewN | apply below_drew1 | refine below_set ?_ GE312.out | refine below_set ?_ GE332.out) | exact HB.out)⟩⟩
         case rest =>
          clear HC44
          try clear c1
          try clear c2
          try clear p2
          try clear c3
          try clear c4
          try clear c5
          try clear c6
          try clear c7
          try clear c7b0
          try clear c16
          try clear c21
          try clear c23
          try clear c25
          try clear c27
          try clear c33
          try clear c42
          try clear c45
          try clear c48
          try clear c48b0
          try clear c50
          try clear hcz13_0
          try clear hcz13_1
          try clear hcz13_2
          try clear hcz18_0
          try clear hcz18_1
          try clear hcz18_2
          try clear hcz22_0
          try clear hcz22_1
          try clear hcz22_2
          try clear hcz46_0
          try clear hcz46_1
          try clear hcz46_2
          try clear hcz5_0
          try clear hcz5_1
          try clear hcz5_2
          try clear hfz13_0
          try clear hfz13_1
          try clear hfz13_2
          try clear hfz18_0
          try clear hfz18_1
          try clear hfz18_2
          try clear hfz22_0
          try clear hfz22_1
          try clear hfz22_2
          try clear hfz46_0
          try clear hfz46_1
          try clear hfz46_2
          try clear hfz5_0
          try clear hfz5_1
          try clear hfz5_2
          try clear p2
          obtain ⟨kq, x61_43, rfl, HA, HJ43, HO_4, HO_7, HO_333001, HO_333002, BK312, BK332, HB⟩ := hcut
          have hl333001_43 := (Kd.R_reads' HO_333001.out).1
          rw [hl333001_43] at HO_333001
          (try simp only [hl333001_43])
          (try simp only [hl333001_43] at BK312)
          (try simp only [hl333001_43] at BK332)
          (try simp only [hl333001_43] at HO_4)
          (try simp only [hl333001_43] at HO_7)
          (try simp only [hl333001_43] at HO_333002)
          have hl333002_43 := (Kd.R_reads' HO_333002.out).1
          rw [hl333002_43] at HO_333002
          (try simp only [hl333002_43])
          (try simp only [hl333002_43] at BK312)
          (try simp only [hl333002_43] at BK332)
          (try simp only [hl333002_43] at HO_4)
          (try simp only [hl333002_43] at HO_7)
          (try simp only [hl333002_43] at HO_333001)
          cases kq with
          | zero => exact absurd HA.out (by simp [laws_FnExactNeedsOf.j4])
          | succ kj43 =>
           have H := HA.out
           clear HA
           simp only [laws_FnExactNeedsOf.j4] at H
           have HC55 := Aside0.mk H
           clear H
           go_upto_if 61 with (fail)
           go_cut [] (fun wc => ∃ (kq : Nat), Aside0 (laws_FnExactNeedsOf.j5 kq t321 t324 t333 a0_0 l0_1 l0_2 = some r) ∧ Aside0 (kq ≤ kj43) ∧ Aside0 (Kd.R Kd.bool 4 wc w.heap.size (fun k_ => some k_ ≠ (v334 : Value).ownBlock) v322 t321) ∧ Aside0 (Kd.R Kd.bool 4 wc w.heap.size (fun k_ => some k_ ≠ (v322 : Value).ownBlock) v334 t333) ∧ Aside0 (Kd.R k81 81 wc w.heap.size (fun _ => True) (.slice Ao23 t347.length co23) t347) ∧ Aside0 (Kd.R (Kd.int .i16) 79 wc w.heap.size (fun _ => True) (.slice Ao24 t348.length co24) t348) ∧ Aside0 (wc.heap[gb312]? = some (.cells #[.int .i8 a0_0, (.slice A0_1 l0_1.length c0_1), (.slice A0_2 l0_2.length c0_2)] 26 (0, 0))) ∧ Aside0 (wc.heap[gb332]? = some (.cells #[.int .i8 t325, (.slice Ao23 t347.length co23), (.slice Ao24 t348.length co24)] 31 (0, 0))) ∧ Aside0 (Below w.heap.size w wc))
           case first =>
            have H := HC55.out
            clear HC55
            by_cases c56 : x61_43 = true
            ·subst c56
             have H1 : (some false) = some r := by rw [if_pos rfl] at H; exact H
             clear H
             have H := H1
             clear H1
             obtain rfl := Option.some.inj H
             go_wp2
             go_ret
             exact ⟨by first | rfl | (simp [errW_none, errW_some] <;> rfl) | (simp [*, errW_none, errW_some] <;> rfl), by repeat (first | (with_reducible first | exact HB.out | apply below_alloc | apply pw_below_drewN | apply below_drew1 | refine below_set ?_ GE312.out | refine below_set ?_ GE332.out) | exact HB.out)⟩
            ·replace c56 := Bool.eq_false_iff.mpr c56
             subst c56
             have H1 : (laws_FnExactNeedsOf.j5 kj43 t321 t324 t333 a0_0 l0_1 l0_2) = some r := by rw [if_neg (show ¬ (false = true) by decide)] at H; exact H
             clear H
             have H := H1
             clear H1
             have H' := Aside0.mk H
             clear H
             go_wp2
             go_meet
             case rel => exact ⟨_, H', ⟨by have := HJ2.out; have := HJ11.out; have := HJ31.out; have := HJ35.out; have := HJ43.out; first | omega | exact Nat.le_refl _⟩, ⟨by (try simp only [hl333001_43]); (try simp only [hl333002_43]); (with_reducible repeat (first | apply Kd.R_alloc | apply Kd.R_drewN | apply Kd.R_drew)); exact HO_4.out⟩, ⟨by (try simp only [hl333001_43]); (try simp only [hl333002_43]); (with_reducible repeat (first | apply Kd.R_alloc | apply Kd.R_drewN | apply Kd.R_drew)); exact HO_7.out⟩, ⟨by (try simp only [hl333001_43]); (try simp only [hl333002_43]); (with_reducible repeat (first | apply Kd.R_alloc | apply Kd.R_drewN | apply Kd.R_drew)); exact HO_333001.out⟩, ⟨by (try simp only [hl333001_43]); (try simp only [hl333002_43]); (with_reducible repeat (first | apply Kd.R_alloc | apply Kd.R_drewN | apply Kd.R_drew)); exact HO_333002.out⟩, ⟨by (try simp only [hl333001_43]); (try simp only [hl333002_43]); (with_reducible repeat (first | refine blk_drewN ?_ _ | refine blk_drew ?_ | refine blk_alloc ?_ _)); exact BK312.out⟩, ⟨by (try simp only [hl333001_43]); (try simp only [hl333002_43]); (with_reducible repeat (first | refine blk_drewN ?_ _ | refine blk_drew ?_ | refine blk_alloc ?_ _)); exact BK332.out⟩, ⟨by repeat (first | (with_reducible first | exact HB.out | apply below_alloc | apply pw_below_drewN | apply below_drew1 | refine below_set ?_ GE312.out | refine below_set ?_ GE332.out) | exact HB.out)⟩⟩
           case rest =>
            clear HC55
            try clear c1
            try clear c2
            try clear p2
            try clear c3
            try clear c4
            try clear c5
            try clear c6
            try clear c7
            try clear c7b0
            try clear c16
            try clear c21
            try clear c23
            try clear c25
            try clear c27
            try clear c33
            try clear c42
            try clear c45
            try clear c48
            try clear c48b0
            try clear c50
            try clear c56
            try clear hcz13_0
            try clear hcz13_1
            try clear hcz13_2
            try clear hcz18_0
            try clear hcz18_1
            try clear hcz18_2
            try clear hcz22_0
            try clear hcz22_1
            try clear hcz22_2
            try clear hcz46_0
            try clear hcz46_1
            try clear hcz46_2
            try clear hcz5_0
            try clear hcz5_1
            try clear hcz5_2
            try clear hfz13_0
            try clear hfz13_1
            try clear hfz13_2
            try clear hfz18_0
            try clear hfz18_1
            try clear hfz18_2
            try clear hfz22_0
            try clear hfz22_1
            try clear hfz22_2
            try clear hfz46_0
            try clear hfz46_1
            try clear hfz46_2
            try clear hfz5_0
            try clear hfz5_1
            try clear hfz5_2
            try clear p2
            obtain ⟨kq, HA, HJ54, HO_4, HO_7, HO_333001, HO_333002, BK312, BK332, HB⟩ := hcut
            cases kq with
            | zero => exact absurd HA.out (by simp [laws_FnExactNeedsOf.j5])
            | succ kj54 =>
             have H := HA.out
             clear HA
             simp only [laws_FnExactNeedsOf.j5] at H
             replace H := Option.bind_eq_some_iff.mp H
             obtain ⟨⟨t350, t351⟩, A570, H⟩ := H
             replace H : ((laws_heldBoolS.f kj54 t351 1).bind fun t352 => (if t352 < 0 then (some false) else (laws_FnExactNeedsOf.j6 kj54 t321 t324 t351 t350 t352 a0_0 l0_1 l0_2))) = some r := H
             have A57 := Aside0.mk A570
             clear A570
             replace H := Option.bind_eq_some_iff.mp H
             obtain ⟨t352, A580, H⟩ := H
             replace H : (if t352 < 0 then (some false) else (laws_FnExactNeedsOf.j6 kj54 t321 t324 t351 t350 t352 a0_0 l0_1 l0_2)) = some r := H
             have A58 := Aside0.mk A580
             clear A580
             have HC59 := Aside0.mk H
             clear H
             obtain ⟨Ao60, co60, eo60⟩ := Kd.R_slice HO_7.out
             subst eo60
             go_upto_if 69 with (first | ((with_reducible refine gate_callee (f := 61) rfl ?_); refine goesL_ (some 64) rfl rfl Try.func61 (by kernel_rfl) rfl #[.slice Ao60 t333.length co60, .int .i64 1] rfl (by (try simp only [List.map_toArray, List.map_cons, List.map_nil]); first | done | rfl | (simp only [List.length_drop, List.length_take]; rfl)) ?_; (with_reducible refine (laws_markBoolS.calls kj54 (fun k_ => some k_ = (.slice Ao60 t333.length co60 : Value).ownBlock) (.slice Ao60 t333.length co60) t333 1 t350 t351 w _ ?side1 ?side2 A57.out).mono ?_); (case side1 => repeat (first | (with_reducible first | exact HB.out | apply below_alloc | apply pw_below_drewN | apply below_drew1 | refine below_set ?_ GE312.out | refine below_set ?_ GE332.out) | exact HB.out)); (case side2 => exact Kd.R_tight rfl HO_7.out); rintro e w61 ⟨rfl, hy0, hb, hkp⟩; refine ⟨_, rfl, ?_⟩; have n0_ := Aside0.mk (Kd.R_mono (ok' := fun k_ => some k_ ≠ (.slice Ao60 t333.length co60 : Value).ownBlock) (Kd.R_keptB (HO_4.out) hkp (fun k_ hk_ hs_ => (hk_) hs_)) (fun k_ hk_ => hk_.1)); have n1_ := Aside0.mk (Kd.R_reok rfl hy0 (fun k_ e_ => HO_7.out.1 k_ e_)); have n2_ := Aside0.mk (Kd.R_mono (ok' := fun k_ => True) (Kd.R_keptB ((Kd.R_apart' HO_333001.out (Kd.R_typed HO_7.out) (by decide))) hkp (fun k_ hk_ hs_ => (hk_.2) hs_)) (fun k_ hk_ => trivial)); have n3_ := Aside0.mk (Kd.R_mono (ok' := fun k_ => True) (Kd.R_keptB ((Kd.R_apart' HO_333002.out (Kd.R_typed HO_7.out) (by decide))) hkp (fun k_ hk_ hs_ => (hk_.2) hs_)) (fun k_ hk_ => trivial)); have n4_ := Aside0.mk (blk_kept (by (with_reducible repeat (first | refine blk_drewN ?_ _ | refine blk_drew ?_ | refine blk_alloc ?_ _)); exact BK312.out) hkp (fun hs_ => (fun e_ => (Kd.R_ne HO_7.out BK312.out (by decide)) e_) hs_)); have n5_ := Aside0.mk (blk_kept (by (with_reducible repeat (first | refine blk_drewN ?_ _ | refine blk_drew ?_ | refine blk_alloc ?_ _)); exact BK332.out) hkp (fun hs_ => (fun e_ => (Kd.R_ne HO_7.out BK332.out (by decide)) e_) hs_)); have n6_ := Aside0.mk (hb); clear HO_4; clear HO_7; clear HO_333001; clear HO_333002; clear BK312; clear BK332; clear HB; have HO_4 := n0_; have HO_7 := n1_; have HO_333001 := n2_; have HO_333002 := n3_; have BK312 := n4_; have BK332 := n5_; have HB := n6_; clear n0_ n1_ n2_ n3_ n4_ n5_ n6_; (try clear hb); (try clear hkp); (try clear hy0)) | ((with_reducible refine gate_callee (f := 62) rfl ?_); refine goesL_ (some 67) rfl rfl Try.func62 (by kernel_rfl) rfl #[.slice Ao60 t351.length co60, .int .i64 1] rfl (by (try simp only [List.map_toArray, List.map_cons, List.map_nil]); first | done | (rw [show t351.length = t333.length from (Kd.R_reads' HO_7.out).1.symm] <;> rfl) | rfl | (simp only [List.length_drop, List.length_take]; rfl)) ?_; (with_reducible refine (laws_heldBoolS.calls kj54 _ _ t351 1 t352 _ ?side1 ?side2 A58.out).mono ?_); (case side1 => repeat (first | exact (Kd.R_reads' HO_7.out).2.2 | (with_reducible refine Kd.C_alloc ?_ _) | (with_reducible refine Kd.C_drewN ?_ _) | (with_reducible refine Kd.C_drew ?_))); (case side2 => rw [show t351.length = t333.length from (Kd.R_reads' HO_7.out).1.symm]; exact (Kd.R_reads' HO_7.out).2.1); rintro e w' ⟨rfl, ⟨nd, rfl⟩⟩; refine ⟨_, rfl, ?_⟩))
             (try simp only [Act.put, List.setIfInBounds_toArray, List.set_cons_zero, List.set_cons_succ])
             go_cut [] (fun wc => ∃ (kq : Nat), Aside0 (laws_FnExactNeedsOf.j6 kq t321 t324 t351 t350 t352 a0_0 l0_1 l0_2 = some r) ∧ Aside0 (kq ≤ kj54) ∧ Aside0 (Kd.R Kd.bool 4 wc w.heap.size (fun k_ => some k_ ≠ ((.slice Ao60 t333.length co60) : Value).ownBlock) v322 t321) ∧ Aside0 (Kd.R Kd.bool 4 wc w.heap.size (fun k_ => some k_ ≠ (v322 : Value).ownBlock) (.slice Ao60 t333.length co60) t351) ∧ Aside0 (Kd.R k81 81 wc w.heap.size (fun _ => True) (.slice Ao23 t347.length co23) t347) ∧ Aside0 (Kd.R (Kd.int .i16) 79 wc w.heap.size (fun _ => True) (.slice Ao24 t348.length co24) t348) ∧ Aside0 (wc.heap[gb312]? = some (.cells #[.int .i8 a0_0, (.slice A0_1 l0_1.length c0_1), (.slice A0_2 l0_2.length c0_2)] 26 (0, 0))) ∧ Aside0 (wc.heap[gb332]? = some (.cells #[.int .i8 t325, (.slice Ao23 t347.length co23), (.slice Ao24 t348.length co24)] 31 (0, 0))) ∧ Aside0 (Below w.heap.size w wc))
             case first =>
              have H := HC59.out
              clear HC59
              by_cases c62 : t352 < 0
              ·rw [if_pos c62] at H
               have c62b0 : decide (t352 < 0) = true := decide_eq_true c62
               clear c62
               (first | rw [c62b0] | (simp only [i64_w, i32_w]; rw [c62b0]) | (have h_ := c62b0; simp only [bne] at h_; rw [h_]) | skip)
               obtain rfl := Option.some.inj H
               go_wp2
               go_ret
               exact ⟨by first | rfl | (simp [errW_none, errW_some] <;> rfl) | (simp [*, errW_none, errW_some] <;> rfl), by repeat (first | (with_reducible first | exact HB.out | apply below_alloc | apply pw_below_drewN | apply below_drew1 | refine below_set ?_ GE312.out | refine below_set ?_ GE332.out) | exact HB.out)⟩
              ·rw [if_neg c62] at H
               have c62b0 : decide (t352 < 0) = false := decide_eq_false c62
               clear c62
               (first | rw [c62b0] | (simp only [i64_w, i32_w]; rw [c62b0]) | (have h_ := c62b0; simp only [bne] at h_; rw [h_]) | skip)
               have H' := Aside0.mk H
               clear H
               go_wp2
               go_meet
               case rel => exact ⟨_, H', ⟨by have := HJ2.out; have := HJ11.out; have := HJ31.out; have := HJ35.out; have := HJ43.out; have := HJ54.out; first | omega | exact Nat.le_refl _⟩, ⟨by (try simp only [hl333001_43]); (try simp only [hl333002_43]); (with_reducible repeat (first | apply Kd.R_alloc | apply Kd.R_drewN | apply Kd.R_drew)); exact HO_4.out⟩, ⟨by (try simp only [hl333001_43]); (try simp only [hl333002_43]); (with_reducible repeat (first | apply Kd.R_alloc | apply Kd.R_drewN | apply Kd.R_drew)); exact HO_7.out⟩, ⟨by (try simp only [hl333001_43]); (try simp only [hl333002_43]); (with_reducible repeat (first | apply Kd.R_alloc | apply Kd.R_drewN | apply Kd.R_drew)); exact HO_333001.out⟩, ⟨by (try simp only [hl333001_43]); (try simp only [hl333002_43]); (with_reducible repeat (first | apply Kd.R_alloc | apply Kd.R_drewN | apply Kd.R_drew)); exact HO_333002.out⟩, ⟨by (try simp only [hl333001_43]); (try simp only [hl333002_43]); (with_reducible repeat (first | refine blk_drewN ?_ _ | refine blk_drew ?_ | refine blk_alloc ?_ _)); exact BK312.out⟩, ⟨by (try simp only [hl333001_43]); (try simp only [hl333002_43]); (with_reducible repeat (first | refine blk_drewN ?_ _ | refine blk_drew ?_ | refine blk_alloc ?_ _)); exact BK332.out⟩, ⟨by repeat (first | (with_reducible first | exact HB.out | apply below_alloc | apply pw_below_drewN | apply below_drew1 | refine below_set ?_ GE312.out | refine below_set ?_ GE332.out) | exact HB.out)⟩⟩
             case rest =>
              clear HC59
              try clear c1
              try clear c2
              try clear p2
              try clear c3
              try clear c4
              try clear c5
              try clear c6
              try clear c7
              try clear c7b0
              try clear c16
              try clear c21
              try clear c23
              try clear c25
              try clear c27
              try clear c33
              try clear c42
              try clear c45
              try clear c48
              try clear c48b0
              try clear c50
              try clear c56
              try clear c61
              try clear c62
              try clear c62b0
              try clear hcz13_0
              try clear hcz13_1
              try clear hcz13_2
              try clear hcz18_0
              try clear hcz18_1
              try clear hcz18_2
              try clear hcz22_0
              try clear hcz22_1
              try clear hcz22_2
              try clear hcz46_0
              try clear hcz46_1
              try clear hcz46_2
              try clear hcz5_0
              try clear hcz5_1
              try clear hcz5_2
              try clear hfz13_0
              try clear hfz13_1
              try clear hfz13_2
              try clear hfz18_0
              try clear hfz18_1
              try clear hfz18_2
              try clear hfz22_0
              try clear hfz22_1
              try clear hfz22_2
              try clear hfz46_0
              try clear hfz46_1
              try clear hfz46_2
              try clear hfz5_0
              try clear hfz5_1
              try clear hfz5_2
              try clear p2
              obtain ⟨kq, HA, HJ58, HO_4, HO_7, HO_333001, HO_333002, BK312, BK332, HB⟩ := hcut
              have hl7_58 := (Kd.R_reads' HO_7.out).1
              rw [hl7_58] at HO_7
              (try simp only [hl7_58])
              (try simp only [hl7_58] at BK312)
              (try simp only [hl7_58] at BK332)
              (try simp only [hl7_58] at HO_4)
              (try simp only [hl7_58] at HO_333001)
              (try simp only [hl7_58] at HO_333002)
              cases kq with
              | zero => exact absurd HA.out (by simp [laws_FnExactNeedsOf.j6])
              | succ kj58 =>
               have H := HA.out
               clear HA
               simp only [laws_FnExactNeedsOf.j6] at H
               have HC63 := Aside0.mk H
               clear H
               go_upto_if 72 with (fail)
               go_cut [] (fun wc => ∃ (kq : Nat), Aside0 (laws_FnExactNeedsOf.j7 kq t321 t324 t351 t350 a0_0 l0_1 l0_2 = some r) ∧ Aside0 (kq ≤ kj58) ∧ Aside0 (Kd.R Kd.bool 4 wc w.heap.size (fun k_ => some k_ ≠ ((.slice Ao60 t351.length co60) : Value).ownBlock) v322 t321) ∧ Aside0 (Kd.R Kd.bool 4 wc w.heap.size (fun k_ => some k_ ≠ (v322 : Value).ownBlock) (.slice Ao60 t351.length co60) t351) ∧ Aside0 (Kd.R k81 81 wc w.heap.size (fun _ => True) (.slice Ao23 t347.length co23) t347) ∧ Aside0 (Kd.R (Kd.int .i16) 79 wc w.heap.size (fun _ => True) (.slice Ao24 t348.length co24) t348) ∧ Aside0 (wc.heap[gb312]? = some (.cells #[.int .i8 a0_0, (.slice A0_1 l0_1.length c0_1), (.slice A0_2 l0_2.length c0_2)] 26 (0, 0))) ∧ Aside0 (wc.heap[gb332]? = some (.cells #[.int .i8 t325, (.slice Ao23 t347.length co23), (.slice Ao24 t348.length co24)] 31 (0, 0))) ∧ Aside0 (Below w.heap.size w wc))
               case first =>
                have H := HC63.out
                clear HC63
                by_cases c64 : t352 = t350
                ·rw [if_pos c64] at H
                 have c64b0 : (t352 == t350) = true := beq_iff_eq.mpr c64
                 have c64b1 : (t352 != t350) = false := bne_eq_false_iff_eq.mpr c64
                 clear c64
                 (first | rw [c64b0] | (simp only [i64_w, i32_w]; rw [c64b0]) | (have h_ := c64b0; simp only [bne] at h_; rw [h_]) | skip)
                 have H' := Aside0.mk H
                 clear H
                 go_wp2
                 go_meet
                 case rel => exact ⟨_, H', ⟨by have := HJ2.out; have := HJ11.out; have := HJ31.out; have := HJ35.out; have := HJ43.out; have := HJ54.out; have := HJ58.out; first | omega | exact Nat.le_refl _⟩, ⟨by (try simp only [hl333001_43]); (try simp only [hl333002_43]); (try simp only [hl7_58]); (with_reducible repeat (first | apply Kd.R_alloc | apply Kd.R_drewN | apply Kd.R_drew)); exact HO_4.out⟩, ⟨by (try simp only [hl333001_43]); (try simp only [hl333002_43]); (try simp only [hl7_58]); (with_reducible repeat (first | apply Kd.R_alloc | apply Kd.R_drewN | apply Kd.R_drew)); exact HO_7.out⟩, ⟨by (try simp only [hl333001_43]); (try simp only [hl333002_43]); (try simp only [hl7_58]); (with_reducible repeat (first | apply Kd.R_alloc | apply Kd.R_drewN | apply Kd.R_drew)); exact HO_333001.out⟩, ⟨by (try simp only [hl333001_43]); (try simp only [hl333002_43]); (try simp only [hl7_58]); (with_reducible repeat (first | apply Kd.R_alloc | apply Kd.R_drewN | apply Kd.R_drew)); exact HO_333002.out⟩, ⟨by (try simp only [hl333001_43]); (try simp only [hl333002_43]); (try simp only [hl7_58]); (with_reducible repeat (first | refine blk_drewN ?_ _ | refine blk_drew ?_ | refine blk_alloc ?_ _)); exact BK312.out⟩, ⟨by (try simp only [hl333001_43]); (try simp only [hl333002_43]); (try simp only [hl7_58]); (with_reducible repeat (first | refine blk_drewN ?_ _ | refine blk_drew ?_ | refine blk_alloc ?_ _)); exact BK332.out⟩, ⟨by repeat (first | (with_reducible first | exact HB.out | apply below_alloc | apply pw_below_drewN | apply below_drew1 | refine below_set ?_ GE312.out | refine below_set ?_ GE332.out) | exact HB.out)⟩⟩
                ·rw [if_neg c64] at H
                 have c64b0 : (t352 == t350) = false := beq_eq_false_iff_ne.mpr c64
                 have c64b1 : (t352 != t350) = true := bne_iff_ne.mpr c64
                 (first | rw [c64b0] | (simp only [i64_w, i32_w]; rw [c64b0]) | (have h_ := c64b0; simp only [bne] at h_; rw [h_]) | skip)
                 obtain rfl := Option.some.inj H
                 go_wp2
                 go_ret
                 exact ⟨by first | rfl | (simp [errW_none, errW_some] <;> rfl) | (simp [*, errW_none, errW_some] <;> rfl), by repeat (first | (with_reducible first | exact HB.out | apply below_alloc | apply pw_below_drewN | apply below_drew1 | refine below_set ?_ GE312.out | refine below_set ?_ GE332.out) | exact HB.out)⟩
               case rest =>
                clear HC63
                try clear c1
                try clear c2
                try clear p2
                try clear c3
                try clear c4
                try clear c5
                try clear c6
                try clear c7
                try clear c7b0
                try clear c16
                try clear c21
                try clear c23
                try clear c25
                try clear c27
                try clear c33
                try clear c42
                try clear c45
                try clear c48
                try clear c48b0
                try clear c50
                try clear c56
                try clear c61
                try clear c62
                try clear c62b0
                try clear c64
                try clear c64b0
                try clear c64b1
                try clear hcz13_0
                try clear hcz13_1
                try clear hcz13_2
                try clear hcz18_0
                try clear hcz18_1
                try clear hcz18_2
                try clear hcz22_0
                try clear hcz22_1
                try clear hcz22_2
                try clear hcz46_0
                try clear hcz46_1
                try clear hcz46_2
                try clear hcz5_0
                try clear hcz5_1
                try clear hcz5_2
                try clear hfz13_0
                try clear hfz13_1
                try clear hfz13_2
                try clear hfz18_0
                try clear hfz18_1
                try clear hfz18_2
                try clear hfz22_0
                try clear hfz22_1
                try clear hfz22_2
                try clear hfz46_0
                try clear hfz46_1
                try clear hfz46_2
                try clear hfz5_0
                try clear hfz5_1
                try clear hfz5_2
                try clear p2
                obtain ⟨kq, HA, HJ62, HO_4, HO_7, HO_333001, HO_333002, BK312, BK332, HB⟩ := hcut
                cases kq with
                | zero => exact absurd HA.out (by simp [laws_FnExactNeedsOf.j7])
                | succ kj62 =>
                 have H := HA.out
                 clear HA
                 simp only [laws_FnExactNeedsOf.j7] at H
                 replace H := Option.bind_eq_some_iff.mp H
                 obtain ⟨⟨t353, t354, t357⟩, A650, H⟩ := H
                 replace H : ((impl_NeedsOf.f kj62 t353 t354 t357).bind fun bt360 => ((laws_eqBoolS.f kj62 bt360.1 t321).bind fun t364 => (if t364 = true then (laws_FnExactNeedsOf.j8 kj62 t351 t350 (bt360.2 != t324)) else (laws_FnExactNeedsOf.j8 kj62 t351 t350 true)))) = some r := H
                 have A65 := Aside0.mk A650
                 clear A650
                 replace H := Option.bind_eq_some_iff.mp H
                 obtain ⟨⟨t360, t363⟩, A660, H⟩ := H
                 replace H : ((laws_eqBoolS.f kj62 t360 t321).bind fun t364 => (if t364 = true then (laws_FnExactNeedsOf.j8 kj62 t351 t350 (t363 != t324)) else (laws_FnExactNeedsOf.j8 kj62 t351 t350 true))) = some r := H
                 have A66 := Aside0.mk A660
                 clear A660
                 have HC67 := Aside0.mk H
                 clear H
                 have hnb68 := NB312_332.out
                 have hnc68 := NB332_312.out
                 have hcz69_0 : wc.cell? ⟨gb312, 0, none⟩ = some (.int .i8 a0_0) := (blk_cell BK312.out 0).trans rfl
                 have hcz69_1 : wc.cell? ⟨gb312, 1, none⟩ = some (.slice A0_1 l0_1.length c0_1) := (blk_cell BK312.out 1).trans rfl
                 have hcz69_2 : wc.cell? ⟨gb312, 2, none⟩ = some (.slice A0_2 l0_2.length c0_2) := (blk_cell BK312.out 2).trans rfl
                 have hfz69_0 := blk_frozen BK312.out 0
                 have hfz69_1 := blk_frozen BK312.out 1
                 have hfz69_2 := blk_frozen BK312.out 2
                 go_upto_region 25 with (first | ((with_reducible refine gate_callee (f := 23) rfl ?_); refine goesL_ (some 75) rfl rfl Try.func23 (by kernel_rfl) rfl #[.agg #[.int .i8 a0_0, .slice A0_1 l0_1.length c0_1, .slice A0_2 l0_2.length c0_2]] rfl (by (try simp only [List.map_toArray, List.map_cons, List.map_nil]); first | done | rfl | (simp only [List.length_drop, List.length_take]; rfl)) ?_; (with_reducible refine (laws_toNetwork.calls kj62 a0_0 _ _ l0_1 _ _ l0_2 t353 t354 t357 _ ?side1 ?side2 ?side3 ?side4 A65.out).mono ?_); (case side1 => repeat (first | exact (Kd.C_below HR0_1.out HB.out) | (with_reducible refine Kd.C_alloc ?_ _) | (with_reducible refine Kd.C_drewN ?_ _) | (with_reducible refine Kd.C_drew ?_))); (case side2 => exact HC0_1.out); (case side3 => repeat (first | exact (Kd.C_below HR0_2.out HB.out) | (with_reducible refine Kd.C_alloc ?_ _) | (with_reducible refine Kd.C_drewN ?_ _) | (with_reducible refine Kd.C_drew ?_))); (case side4 => exact HC0_2.out); rintro e w70 ⟨v355, v358, rfl, ho0, ho1, hb⟩; refine ⟨_, rfl, ?_⟩; have n0_ := Aside0.mk (Kd.R_below (by (with_reducible repeat (first | apply Kd.R_alloc | apply Kd.R_drewN | apply Kd.R_drew)); exact HO_4.out) hb); have n1_ := Aside0.mk (Kd.R_below (by (with_reducible repeat (first | apply Kd.R_alloc | apply Kd.R_drewN | apply Kd.R_drew)); exact HO_7.out) hb); have n2_ := Aside0.mk (Kd.R_elder' (by (with_reducible repeat (first | apply Kd.R_alloc | apply Kd.R_drewN | apply Kd.R_drew)); exact HO_333001.out) (Kd.R_base ho0) hb); have n3_ := Aside0.mk (Kd.R_elder' (by (with_reducible repeat (first | apply Kd.R_alloc | apply Kd.R_drewN | apply Kd.R_drew)); exact HO_333002.out) (Kd.R_base ho1) hb); have n4_ := Aside0.mk (Kd.R_lower (Kd.R_new' ho0 (Kd.R_lt (by (with_reducible repeat (first | apply Kd.R_alloc | apply Kd.R_drewN | apply Kd.R_drew)); exact HO_333001.out))) (below_size (by repeat (first | (with_reducible first | exact HB.out | apply below_alloc | apply pw_below_drewN | apply below_drew1 | refine below_set ?_ GE312.out | refine below_set ?_ GE332.out) | exact HB.out)))); have n5_ := Aside0.mk (Kd.R_lower (Kd.R_new' ho1 (Kd.R_lt (by (with_reducible repeat (first | apply Kd.R_alloc | apply Kd.R_drewN | apply Kd.R_drew)); exact HO_333002.out))) (below_size (by repeat (first | (with_reducible first | exact HB.out | apply below_alloc | apply pw_below_drewN | apply below_drew1 | refine below_set ?_ GE312.out | refine below_set ?_ GE332.out) | exact HB.out)))); have n6_ := Aside0.mk (blk_below (g := gb312) (o := .cells #[.int .i8 a0_0, .slice A0_1 l0_1.length c0_1, .slice A0_2 l0_2.length c0_2] 26 (0, 0)) (by (with_reducible repeat (first | refine blk_drewN ?_ _ | refine blk_drew ?_ | refine blk_alloc ?_ _)); exact BK312.out) hb); have n7_ := Aside0.mk (blk_below (g := gb332) (o := .cells #[.int .i8 t325, .slice Ao23 t347.length co23, .slice Ao24 t348.length co24] 31 (0, 0)) (by (with_reducible repeat (first | refine blk_drewN ?_ _ | refine blk_drew ?_ | refine blk_alloc ?_ _)); exact BK332.out) hb); have n8_ := Aside0.mk (below_step (by repeat (first | (with_reducible first | exact HB.out | apply below_alloc | apply pw_below_drewN | apply below_drew1 | refine below_set ?_ GE312.out | refine below_set ?_ GE332.out) | exact HB.out)) hb); clear HO_4; clear HO_7; clear HO_333001; clear HO_333002; clear BK312; clear BK332; clear HB; have HO_4 := n0_; have HO_7 := n1_; have HO_333001 := n2_; have HO_333002 := n3_; have HO356 := n4_; have HO359 := n5_; have BK312 := n6_; have BK332 := n7_; have HB := n8_; clear n0_ n1_ n2_ n3_ n4_ n5_ n6_ n7_ n8_; (try clear hb); (try clear hb2); (try clear hk); (try clear hi); (try clear ho0); (try clear ho1); obtain ⟨Ao71, co71, eo71⟩ := Kd.R_slice HO356.out; subst eo71; obtain ⟨Ao72, co72, eo72⟩ := Kd.R_slice HO359.out; subst eo72) | ((with_reducible refine gate_callee (f := 59) rfl ?_); refine goesL_ (some 76) rfl rfl Try.func59 (by kernel_rfl) rfl #[.agg #[.int .i8 t353, .slice Ao71 t354.length co71, .slice Ao72 t357.length co72]] rfl (by (try simp only [List.map_toArray, List.map_cons, List.map_nil]); first | done | rfl | (simp only [List.length_drop, List.length_take]; rfl)) ?_; (with_reducible refine (impl_NeedsOf.calls kj62 t353 _ _ t354 _ _ t357 t360 t363 _ ?side1 ?side2 ?side3 ?side4 A66.out).mono ?_); (case side1 => repeat (first | exact (Kd.R_reads' HO356.out).2.2 | (with_reducible refine Kd.C_alloc ?_ _) | (with_reducible refine Kd.C_drewN ?_ _) | (with_reducible refine Kd.C_drew ?_))); (case side2 => exact (Kd.R_reads' HO356.out).2.1); (case side3 => repeat (first | exact (Kd.R_reads' HO359.out).2.2 | (with_reducible refine Kd.C_alloc ?_ _) | (with_reducible refine Kd.C_drewN ?_ _) | (with_reducible refine Kd.C_drew ?_))); (case side4 => exact (Kd.R_reads' HO359.out).2.1); rintro e w73 ⟨v361, rfl, ho0, hb⟩; refine ⟨_, rfl, ?_⟩; have n0_ := Aside0.mk (Kd.R_elder' (by (with_reducible repeat (first | apply Kd.R_alloc | apply Kd.R_drewN | apply Kd.R_drew)); exact HO_4.out) (Kd.R_base ho0) hb); have n1_ := Aside0.mk (Kd.R_elder' (by (with_reducible repeat (first | apply Kd.R_alloc | apply Kd.R_drewN | apply Kd.R_drew)); exact HO_7.out) (Kd.R_base ho0) hb); have n2_ := Aside0.mk (Kd.R_below (by (with_reducible repeat (first | apply Kd.R_alloc | apply Kd.R_drewN | apply Kd.R_drew)); exact HO_333001.out) hb); have n3_ := Aside0.mk (Kd.R_below (by (with_reducible repeat (first | apply Kd.R_alloc | apply Kd.R_drewN | apply Kd.R_drew)); exact HO_333002.out) hb); have n4_ := Aside0.mk (Kd.R_below (by (with_reducible repeat (first | apply Kd.R_alloc | apply Kd.R_drewN | apply Kd.R_drew)); exact HO356.out) hb); have n5_ := Aside0.mk (Kd.R_below (by (with_reducible repeat (first | apply Kd.R_alloc | apply Kd.R_drewN | apply Kd.R_drew)); exact HO359.out) hb); have n6_ := Aside0.mk (Kd.R_lower (Kd.R_new' (Kd.R_new' ho0 (Kd.R_lt (by (with_reducible repeat (first | apply Kd.R_alloc | apply Kd.R_drewN | apply Kd.R_drew)); exact HO_4.out))) (Kd.R_lt (by (with_reducible repeat (first | apply Kd.R_alloc | apply Kd.R_drewN | apply Kd.R_drew)); exact HO_7.out))) (below_size (by repeat (first | (with_reducible first | exact HB.out | apply below_alloc | apply pw_below_drewN | apply below_drew1 | refine below_set ?_ GE312.out | refine below_set ?_ GE332.out) | exact HB.out)))); have n7_ := Aside0.mk (blk_below (g := gb312) (o := .cells #[.int .i8 a0_0, .slice A0_1 l0_1.length c0_1, .slice A0_2 l0_2.length c0_2] 26 (0, 0)) (by (with_reducible repeat (first | refine blk_drewN ?_ _ | refine blk_drew ?_ | refine blk_alloc ?_ _)); exact BK312.out) hb); have n8_ := Aside0.mk (blk_below (g := gb332) (o := .cells #[.int .i8 t325, .slice Ao23 t347.length co23, .slice Ao24 t348.length co24] 31 (0, 0)) (by (with_reducible repeat (first | refine blk_drewN ?_ _ | refine blk_drew ?_ | refine blk_alloc ?_ _)); exact BK332.out) hb); have n9_ := Aside0.mk (below_step (by repeat (first | (with_reducible first | exact HB.out | apply below_alloc | apply pw_below_drewN | apply below_drew1 | refine below_set ?_ GE312.out | refine below_set ?_ GE332.out) | exact HB.out)) hb); clear HO_4; clear HO_7; clear HO_333001; clear HO_333002; clear HO356; clear HO359; clear BK312; clear BK332; clear HB; have HO_4 := n0_; have HO_7 := n1_; have HO_333001 := n2_; have HO_333002 := n3_; have HO356 := n4_; have HO359 := n5_; have HO362 := n6_; have BK312 := n7_; have BK332 := n8_; have HB := n9_; clear n0_ n1_ n2_ n3_ n4_ n5_ n6_ n7_ n8_ n9_; (try clear hb); (try clear hb2); (try clear hk); (try clear hi); (try clear ho0)))
                 (try simp only [Act.put, List.setIfInBounds_toArray, List.set_cons_zero, List.set_cons_succ])
                 go_cut [87] (fun v87 wc => ∃ (kq : Nat) (x87_66 : Bool), v87 = .bool x87_66 ∧ Aside0 (laws_FnExactNeedsOf.j8 kq t351 t350 x87_66 = some r) ∧ Aside0 (kq ≤ kj62) ∧ Aside0 (Kd.R Kd.bool 4 wc w.heap.size (fun _ => True) (.slice Ao60 t351.length co60) t351) ∧ Aside0 (Kd.R k81 81 wc w.heap.size (fun _ => True) (.slice Ao23 t347.length co23) t347) ∧ Aside0 (Kd.R (Kd.int .i16) 79 wc w.heap.size (fun _ => True) (.slice Ao24 t348.length co24) t348) ∧ Aside0 (wc.heap[gb312]? = some (.cells #[.int .i8 a0_0, (.slice A0_1 l0_1.length c0_1), (.slice A0_2 l0_2.length c0_2)] 26 (0, 0))) ∧ Aside0 (wc.heap[gb332]? = some (.cells #[.int .i8 t325, (.slice Ao23 t347.length co23), (.slice Ao24 t348.length co24)] 31 (0, 0))) ∧ Aside0 (Below w.heap.size w wc))
                 case first =>
                  have H := HC67.out
                  clear HC67
                  replace H := Option.bind_eq_some_iff.mp H
                  obtain ⟨t364, A740, H⟩ := H
                  replace H : (if t364 = true then (laws_FnExactNeedsOf.j8 kj62 t351 t350 (t363 != t324)) else (laws_FnExactNeedsOf.j8 kj62 t351 t350 true)) = some r := H
                  have A74 := Aside0.mk A740
                  clear A740
                  by_cases c75 : t364 = true
                  ·subst c75
                   have H1 : (laws_FnExactNeedsOf.j8 kj62 t351 t350 (t363 != t324)) = some r := by rw [if_pos rfl] at H; exact H
                   clear H
                   have H := H1
                   clear H1
                   have H' := Aside0.mk H
                   clear H
                   obtain ⟨Ao76, co76, eo76⟩ := Kd.R_slice HO362.out
                   subst eo76
                   obtain ⟨Ao77, co77, eo77⟩ := Kd.R_slice HO_4.out
                   subst eo77
                   go_wp2_with (first | ((with_reducible refine gate_callee (f := 60) rfl ?_); refine goesL_ (some 81) rfl rfl Try.func60 (by kernel_rfl) rfl #[.slice Ao76 t360.length co76, .slice Ao77 t321.length co77] rfl (by (try simp only [List.map_toArray, List.map_cons, List.map_nil]); first | done | rfl | (simp only [List.length_drop, List.length_take]; rfl)) ?_; (with_reducible refine (laws_eqBoolS.calls kj62 _ _ t360 _ _ t321 true _ ?side1 ?side2 ?side3 ?side4 A74.out).mono ?_); (case side1 => repeat (first | exact (Kd.R_reads' HO362.out).2.2 | (with_reducible refine Kd.C_alloc ?_ _) | (with_reducible refine Kd.C_drewN ?_ _) | (with_reducible refine Kd.C_drew ?_))); (case side2 => exact (Kd.R_reads' HO362.out).2.1); (case side3 => repeat (first | exact (Kd.R_reads' HO_4.out).2.2 | (with_reducible refine Kd.C_alloc ?_ _) | (with_reducible refine Kd.C_drewN ?_ _) | (with_reducible refine Kd.C_drew ?_))); (case side4 => exact (Kd.R_reads' HO_4.out).2.1); rintro e w' ⟨rfl, ⟨nd, rfl⟩⟩; refine ⟨_, rfl, ?_⟩))
                   go_meet
                   case rel => exact ⟨_, ((t363 != t324)), (by first | rfl | (simp; done) | (simp [*]; done) | (exact congrArg (Value.int .i64) (wrap_eq (by omega)))), H', ⟨by have := HJ2.out; have := HJ11.out; have := HJ31.out; have := HJ35.out; have := HJ43.out; have := HJ54.out; have := HJ58.out; have := HJ62.out; first | omega | exact Nat.le_refl _⟩, ⟨by (try simp only [hl333001_43]); (try simp only [hl333002_43]); (try simp only [hl7_58]); (with_reducible repeat (first | apply Kd.R_alloc | apply Kd.R_drewN | apply Kd.R_drew)); exact Kd.R_mono HO_7.out (fun _ hk => trivial)⟩, ⟨by (try simp only [hl333001_43]); (try simp only [hl333002_43]); (try simp only [hl7_58]); (with_reducible repeat (first | apply Kd.R_alloc | apply Kd.R_drewN | apply Kd.R_drew)); exact Kd.R_mono HO_333001.out (fun _ hk => trivial)⟩, ⟨by (try simp only [hl333001_43]); (try simp only [hl333002_43]); (try simp only [hl7_58]); (with_reducible repeat (first | apply Kd.R_alloc | apply Kd.R_drewN | apply Kd.R_drew)); exact Kd.R_mono HO_333002.out (fun _ hk => trivial)⟩, ⟨by (try simp only [hl333001_43]); (try simp only [hl333002_43]); (try simp only [hl7_58]); (with_reducible repeat (first | refine blk_drewN ?_ _ | refine blk_drew ?_ | refine blk_alloc ?_ _)); exact BK312.out⟩, ⟨by (try simp only [hl333001_43]); (try simp only [hl333002_43]); (try simp only [hl7_58]); (with_reducible repeat (first | refine blk_drewN ?_ _ | refine blk_drew ?_ | refine blk_alloc ?_ _)); exact BK332.out⟩, ⟨by repeat (first | (with_reducible first | exact HB.out | apply below_alloc | apply pw_below_drewN | apply below_drew1 | refine below_set ?_ GE312.out | refine below_set ?_ GE332.out) | exact HB.out)⟩⟩
                  ·replace c75 := Bool.eq_false_iff.mpr c75
                   subst c75
                   have H1 : (laws_FnExactNeedsOf.j8 kj62 t351 t350 true) = some r := by rw [if_neg (show ¬ (false = true) by decide)] at H; exact H
                   clear H
                   have H := H1
                   clear H1
                   have H' := Aside0.mk H
                   clear H
                   obtain ⟨Ao78, co78, eo78⟩ := Kd.R_slice HO362.out
                   subst eo78
                   obtain ⟨Ao79, co79, eo79⟩ := Kd.R_slice HO_4.out
                   subst eo79
                   go_wp2_with (first | ((with_reducible refine gate_callee (f := 60) rfl ?_); refine goesL_ (some 81) rfl rfl Try.func60 (by kernel_rfl) rfl #[.slice Ao78 t360.length co78, .slice Ao79 t321.length co79] rfl (by (try simp only [List.map_toArray, List.map_cons, List.map_nil]); first | done | rfl | (simp only [List.length_drop, List.length_take]; rfl)) ?_; (with_reducible refine (laws_eqBoolS.calls kj62 _ _ t360 _ _ t321 false _ ?side1 ?side2 ?side3 ?side4 A74.out).mono ?_); (case side1 => repeat (first | exact (Kd.R_reads' HO362.out).2.2 | (with_reducible refine Kd.C_alloc ?_ _) | (with_reducible refine Kd.C_drewN ?_ _) | (with_reducible refine Kd.C_drew ?_))); (case side2 => exact (Kd.R_reads' HO362.out).2.1); (case side3 => repeat (first | exact (Kd.R_reads' HO_4.out).2.2 | (with_reducible refine Kd.C_alloc ?_ _) | (with_reducible refine Kd.C_drewN ?_ _) | (with_reducible refine Kd.C_drew ?_))); (case side4 => exact (Kd.R_reads' HO_4.out).2.1); rintro e w' ⟨rfl, ⟨nd, rfl⟩⟩; refine ⟨_, rfl, ?_⟩))
                   go_meet
                   case rel => exact ⟨_, (true), (by first | rfl | (simp; done) | (simp [*]; done) | (exact congrArg (Value.int .i64) (wrap_eq (by omega)))), H', ⟨by have := HJ2.out; have := HJ11.out; have := HJ31.out; have := HJ35.out; have := HJ43.out; have := HJ54.out; have := HJ58.out; have := HJ62.out; first | omega | exact Nat.le_refl _⟩, ⟨by (try simp only [hl333001_43]); (try simp only [hl333002_43]); (try simp only [hl7_58]); (with_reducible repeat (first | apply Kd.R_alloc | apply Kd.R_drewN | apply Kd.R_drew)); exact Kd.R_mono HO_7.out (fun _ hk => trivial)⟩, ⟨by (try simp only [hl333001_43]); (try simp only [hl333002_43]); (try simp only [hl7_58]); (with_reducible repeat (first | apply Kd.R_alloc | apply Kd.R_drewN | apply Kd.R_drew)); exact Kd.R_mono HO_333001.out (fun _ hk => trivial)⟩, ⟨by (try simp only [hl333001_43]); (try simp only [hl333002_43]); (try simp only [hl7_58]); (with_reducible repeat (first | apply Kd.R_alloc | apply Kd.R_drewN | apply Kd.R_drew)); exact Kd.R_mono HO_333002.out (fun _ hk => trivial)⟩, ⟨by (try simp only [hl333001_43]); (try simp only [hl333002_43]); (try simp only [hl7_58]); (with_reducible repeat (first | refine blk_drewN ?_ _ | refine blk_drew ?_ | refine blk_alloc ?_ _)); exact BK312.out⟩, ⟨by (try simp only [hl333001_43]); (try simp only [hl333002_43]); (try simp only [hl7_58]); (with_reducible repeat (first | refine blk_drewN ?_ _ | refine blk_drew ?_ | refine blk_alloc ?_ _)); exact BK332.out⟩, ⟨by repeat (first | (with_reducible first | exact HB.out | apply below_alloc | apply pw_below_drewN | apply below_drew1 | refine below_set ?_ GE312.out | refine below_set ?_ GE332.out) | exact HB.out)⟩⟩
                 case rest =>
                  clear HC67
                  try clear c1
                  try clear c2
                  try clear p2
                  try clear c3
                  try clear c4
                  try clear c5
                  try clear c6
                  try clear c7
                  try clear c7b0
                  try clear c16
                  try clear c21
                  try clear c23
                  try clear c25
                  try clear c27
                  try clear c33
                  try clear c42
                  try clear c45
                  try clear c48
                  try clear c48b0
                  try clear c50
                  try clear c56
                  try clear c59
                  try clear c60
                  try clear c61
                  try clear c62
                  try clear c62b0
                  try clear c64
                  try clear c64b0
                  try clear c64b1
                  try clear c68
                  try clear c75
                  try clear hcz13_0
                  try clear hcz13_1
                  try clear hcz13_2
                  try clear hcz18_0
                  try clear hcz18_1
                  try clear hcz18_2
                  try clear hcz22_0
                  try clear hcz22_1
                  try clear hcz22_2
                  try clear hcz46_0
                  try clear hcz46_1
                  try clear hcz46_2
                  try clear hcz5_0
                  try clear hcz5_1
                  try clear hcz5_2
                  try clear hcz69_0
                  try clear hcz69_1
                  try clear hcz69_2
                  try clear hfz13_0
                  try clear hfz13_1
                  try clear hfz13_2
                  try clear hfz18_0
                  try clear hfz18_1
                  try clear hfz18_2
                  try clear hfz22_0
                  try clear hfz22_1
                  try clear hfz22_2
                  try clear hfz46_0
                  try clear hfz46_1
                  try clear hfz46_2
                  try clear hfz5_0
                  try clear hfz5_1
                  try clear hfz5_2
                  try clear hfz69_0
                  try clear hfz69_1
                  try clear hfz69_2
                  try clear p2
                  obtain ⟨kq, x87_66, rfl, HA, HJ66, HO_7, HO_333001, HO_333002, BK312, BK332, HB⟩ := hcut
                  cases kq with
                  | zero => exact absurd HA.out (by simp [laws_FnExactNeedsOf.j8])
                  | succ kj66 =>
                   have H := HA.out
                   clear HA
                   simp only [laws_FnExactNeedsOf.j8] at H
                   have HC80 := Aside0.mk H
                   clear H
                   go_upto_if 87 with (fail)
                   go_cut [] (fun wc => ∃ (kq : Nat), Aside0 (laws_FnExactNeedsOf.j9 kq t351 t350 = some r) ∧ Aside0 (kq ≤ kj66) ∧ Aside0 (Kd.R Kd.bool 4 wc w.heap.size (fun _ => True) (.slice Ao60 t351.length co60) t351) ∧ Aside0 (Kd.R k81 81 wc w.heap.size (fun _ => True) (.slice Ao23 t347.length co23) t347) ∧ Aside0 (Kd.R (Kd.int .i16) 79 wc w.heap.size (fun _ => True) (.slice Ao24 t348.length co24) t348) ∧ Aside0 (wc.heap[gb312]? = some (.cells #[.int .i8 a0_0, (.slice A0_1 l0_1.length c0_1), (.slice A0_2 l0_2.length c0_2)] 26 (0, 0))) ∧ Aside0 (wc.heap[gb332]? = some (.cells #[.int .i8 t325, (.slice Ao23 t347.length co23), (.slice Ao24 t348.length co24)] 31 (0, 0))) ∧ Aside0 (Below w.heap.size w wc))
                   case first =>
                    have H := HC80.out
                    clear HC80
                    by_cases c81 : x87_66 = true
                    ·subst c81
                     have H1 : (some false) = some r := by rw [if_pos rfl] at H; exact H
                     clear H
                     have H := H1
                     clear H1
                     obtain rfl := Option.some.inj H
                     go_wp2
                     go_ret
                     exact ⟨by first | rfl | (simp [errW_none, errW_some] <;> rfl) | (simp [*, errW_none, errW_some] <;> rfl), by repeat (first | (with_reducible first | exact HB.out | apply below_alloc | apply pw_below_drewN | apply below_drew1 | refine below_set ?_ GE312.out | refine below_set ?_ GE332.out) | exact HB.out)⟩
                    ·replace c81 := Bool.eq_false_iff.mpr c81
                     subst c81
                     have H1 : (laws_FnExactNeedsOf.j9 kj66 t351 t350) = some r := by rw [if_neg (show ¬ (false = true) by decide)] at H; exact H
                     clear H
                     have H := H1
                     clear H1
                     have H' := Aside0.mk H
                     clear H
                     go_wp2
                     go_meet
                     case rel => exact ⟨_, H', ⟨by have := HJ2.out; have := HJ11.out; have := HJ31.out; have := HJ35.out; have := HJ43.out; have := HJ54.out; have := HJ58.out; have := HJ62.out; have := HJ66.out; first | omega | exact Nat.le_refl _⟩, ⟨by (try simp only [hl333001_43]); (try simp only [hl333002_43]); (try simp only [hl7_58]); (with_reducible repeat (first | apply Kd.R_alloc | apply Kd.R_drewN | apply Kd.R_drew)); exact HO_7.out⟩, ⟨by (try simp only [hl333001_43]); (try simp only [hl333002_43]); (try simp only [hl7_58]); (with_reducible repeat (first | apply Kd.R_alloc | apply Kd.R_drewN | apply Kd.R_drew)); exact HO_333001.out⟩, ⟨by (try simp only [hl333001_43]); (try simp only [hl333002_43]); (try simp only [hl7_58]); (with_reducible repeat (first | apply Kd.R_alloc | apply Kd.R_drewN | apply Kd.R_drew)); exact HO_333002.out⟩, ⟨by (try simp only [hl333001_43]); (try simp only [hl333002_43]); (try simp only [hl7_58]); (with_reducible repeat (first | refine blk_drewN ?_ _ | refine blk_drew ?_ | refine blk_alloc ?_ _)); exact BK312.out⟩, ⟨by (try simp only [hl333001_43]); (try simp only [hl333002_43]); (try simp only [hl7_58]); (with_reducible repeat (first | refine blk_drewN ?_ _ | refine blk_drew ?_ | refine blk_alloc ?_ _)); exact BK332.out⟩, ⟨by repeat (first | (with_reducible first | exact HB.out | apply below_alloc | apply pw_below_drewN | apply below_drew1 | refine below_set ?_ GE312.out | refine below_set ?_ GE332.out) | exact HB.out)⟩⟩
                   case rest =>
                    clear HC80
                    try clear c1
                    try clear c2
                    try clear p2
                    try clear c3
                    try clear c4
                    try clear c5
                    try clear c6
                    try clear c7
                    try clear c7b0
                    try clear c8
                    try clear c16
                    try clear c21
                    try clear c23
                    try clear c25
                    try clear c27
                    try clear c33
                    try clear c42
                    try clear c45
                    try clear c48
                    try clear c48b0
                    try clear c50
                    try clear c56
                    try clear c59
                    try clear c60
                    try clear c61
                    try clear c62
                    try clear c62b0
                    try clear c64
                    try clear c64b0
                    try clear c64b1
                    try clear c68
                    try clear c75
                    try clear c81
                    try clear hcz13_0
                    try clear hcz13_1
                    try clear hcz13_2
                    try clear hcz18_0
                    try clear hcz18_1
                    try clear hcz18_2
                    try clear hcz22_0
                    try clear hcz22_1
                    try clear hcz22_2
                    try clear hcz46_0
                    try clear hcz46_1
                    try clear hcz46_2
                    try clear hcz5_0
                    try clear hcz5_1
                    try clear hcz5_2
                    try clear hcz69_0
                    try clear hcz69_1
                    try clear hcz69_2
                    try clear hfz13_0
                    try clear hfz13_1
                    try clear hfz13_2
                    try clear hfz18_0
                    try clear hfz18_1
                    try clear hfz18_2
                    try clear hfz22_0
                    try clear hfz22_1
                    try clear hfz22_2
                    try clear hfz46_0
                    try clear hfz46_1
                    try clear hfz46_2
                    try clear hfz5_0
                    try clear hfz5_1
                    try clear hfz5_2
                    try clear hfz69_0
                    try clear hfz69_1
                    try clear hfz69_2
                    try clear p2
                    obtain ⟨kq, HA, HJ79, HO_7, HO_333001, HO_333002, BK312, BK332, HB⟩ := hcut
                    cases kq with
                    | zero => exact absurd HA.out (by simp [laws_FnExactNeedsOf.j9])
                    | succ kj79 =>
                     have H := HA.out
                     clear HA
                     simp only [laws_FnExactNeedsOf.j9] at H
                     replace H := Option.bind_eq_some_iff.mp H
                     obtain ⟨t365, A820, H⟩ := H
                     replace H : (if t365 < 0 then (some false) else (if t365 = t350 then (some true) else (some false))) = some r := H
                     have A82 := Aside0.mk A820
                     clear A820
                     by_cases c83 : t365 < 0
                     ·rw [if_pos c83] at H
                      have c83b0 : decide (t365 < 0) = true := decide_eq_true c83
                      clear c83
                      obtain rfl := Option.some.inj H
                      go_wp2_with (first | ((with_reducible refine gate_callee (f := 62) rfl ?_); refine goesL_ (some 90) rfl rfl Try.func62 (by kernel_rfl) rfl #[.slice Ao60 t351.length co60, .int .i64 1] rfl (by (try simp only [List.map_toArray, List.map_cons, List.map_nil]); first | done | rfl | (simp only [List.length_drop, List.length_take]; rfl)) ?_; (with_reducible refine (laws_heldBoolS.calls kj79 _ _ t351 1 t365 _ ?side1 ?side2 A82.out).mono ?_); (case side1 => repeat (first | exact (Kd.R_reads' HO_7.out).2.2 | (with_reducible refine Kd.C_alloc ?_ _) | (with_reducible refine Kd.C_drewN ?_ _) | (with_reducible refine Kd.C_drew ?_))); (case side2 => exact (Kd.R_reads' HO_7.out).2.1); rintro e w' ⟨rfl, ⟨nd, rfl⟩⟩; refine ⟨_, rfl, ?_⟩))
                      go_ret
                      exact ⟨by first | rfl | (simp [errW_none, errW_some] <;> rfl) | (simp [*, errW_none, errW_some] <;> rfl), by repeat (first | (with_reducible first | exact HB.out | apply below_alloc | apply pw_below_drewN | apply below_drew1 | refine below_set ?_ GE312.out | refine below_set ?_ GE332.out) | exact HB.out)⟩
                     ·rw [if_neg c83] at H
                      have c83b0 : decide (t365 < 0) = false := decide_eq_false c83
                      clear c83
                      by_cases c84 : t365 = t350
                      ·rw [if_pos c84] at H
                       have c84b0 : (t365 == t350) = true := beq_iff_eq.mpr c84
                       have c84b1 : (t365 != t350) = false := bne_eq_false_iff_eq.mpr c84
                       clear c84
                       obtain rfl := Option.some.inj H
                       go_wp2_with (first | ((with_reducible refine gate_callee (f := 62) rfl ?_); refine goesL_ (some 90) rfl rfl Try.func62 (by kernel_rfl) rfl #[.slice Ao60 t351.length co60, .int .i64 1] rfl (by (try simp only [List.map_toArray, List.map_cons, List.map_nil]); first | done | rfl | (simp only [List.length_drop, List.length_take]; rfl)) ?_; (with_reducible refine (laws_heldBoolS.calls kj79 _ _ t351 1 t365 _ ?side1 ?side2 A82.out).mono ?_); (case side1 => repeat (first | exact (Kd.R_reads' HO_7.out).2.2 | (with_reducible refine Kd.C_alloc ?_ _) | (with_reducible refine Kd.C_drewN ?_ _) | (with_reducible refine Kd.C_drew ?_))); (case side2 => exact (Kd.R_reads' HO_7.out).2.1); rintro e w' ⟨rfl, ⟨nd, rfl⟩⟩; refine ⟨_, rfl, ?_⟩))
                       go_ret
                       exact ⟨by first | rfl | (simp [errW_none, errW_some] <;> rfl) | (simp [*, errW_none, errW_some] <;> rfl), by repeat (first | (with_reducible first | exact HB.out | apply below_alloc | apply pw_below_drewN | apply below_drew1 | refine below_set ?_ GE312.out | refine below_set ?_ GE332.out) | exact HB.out)⟩
                      ·rw [if_neg c84] at H
                       have c84b0 : (t365 == t350) = false := beq_eq_false_iff_ne.mpr c84
                       have c84b1 : (t365 != t350) = true := bne_iff_ne.mpr c84
                       obtain rfl := Option.some.inj H
                       go_wp2_with (first | ((with_reducible refine gate_callee (f := 62) rfl ?_); refine goesL_ (some 90) rfl rfl Try.func62 (by kernel_rfl) rfl #[.slice Ao60 t351.length co60, .int .i64 1] rfl (by (try simp only [List.map_toArray, List.map_cons, List.map_nil]); first | done | rfl | (simp only [List.length_drop, List.length_take]; rfl)) ?_; (with_reducible refine (laws_heldBoolS.calls kj79 _ _ t351 1 t365 _ ?side1 ?side2 A82.out).mono ?_); (case side1 => repeat (first | exact (Kd.R_reads' HO_7.out).2.2 | (with_reducible refine Kd.C_alloc ?_ _) | (with_reducible refine Kd.C_drewN ?_ _) | (with_reducible refine Kd.C_drew ?_))); (case side2 => exact (Kd.R_reads' HO_7.out).2.1); rintro e w' ⟨rfl, ⟨nd, rfl⟩⟩; refine ⟨_, rfl, ?_⟩))
                       go_ret
                       exact ⟨by first | rfl | (simp [errW_none, errW_some] <;> rfl) | (simp [*, errW_none, errW_some] <;> rfl), by repeat (first | (with_reducible first | exact HB.out | apply below_alloc | apply pw_below_drewN | apply below_drew1 | refine below_set ?_ GE312.out | refine below_set ?_ GE332.out) | exact HB.out)⟩

end Go.Proofs.Ytmpmanfoiocfgaa.PFnExactNeedsOf
