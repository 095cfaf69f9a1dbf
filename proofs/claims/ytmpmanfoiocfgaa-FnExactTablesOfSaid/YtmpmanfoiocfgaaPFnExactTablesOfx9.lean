-- WRITTEN by xprint.py, a program of this session's. Not trusted: Lean checks it.
import Derived.Test.YtmpmanfoiocfgaaPFnExactTablesOfx0
import Derived.Test.YtmpmanfoiocfgaaPFnExactTablesOfx1
import Derived.Test.YtmpmanfoiocfgaaPFnExactTablesOfx2
import Derived.Test.YtmpmanfoiocfgaaPFnExactTablesOfx4
import Derived.Test.YtmpmanfoiocfgaaPFnExactTablesOfx8
namespace Go.Proofs.Ytmpmanfoiocfgaa.PFnExactTablesOf
open Go.RowKit Go.Proofs.YtmpmanfoiocfgaaW.PrintWords Go.Proofs.YtmpmanfoiocfgaaW.PrintLast Go.Proofs.YtmpmanfoiocfgaaW.PrintMore Go.Proofs.YtmpmanfoiocfgaaX
attribute [local go_sem] max2_int min2_int max_two min_two max_three min_three max_four min_four   -- for this text's walks alone
set_option linter.unusedVariables false
set_option linter.unusedSimpArgs false

/-! ### laws_FnExactTablesOf: function 12 -/
mutual
def laws_FnExactTablesOf.j0 : Nat → Int → List (S131) → List Int → Option (Bool)
  | 0, _, _, _ => none
  | k + 1, x260000, x260001, x260002 => (laws_toNetwork.f k x260000 x260001 x260002).bind fun bt261 => ((spec_TablesOf.f k bt261.1 bt261.2.1 bt261.2.2).bind fun bt268 => ((laws_toNetwork.f k x260000 x260001 x260002).bind fun bt272 => ((impl_TablesOf.f k bt272.1 bt272.2.1 bt272.2.2).bind fun bt280 => ((laws_eqUint64S.f k bt280.1 bt268.1).bind fun t284 => (if t284 = true then (laws_FnExactTablesOf.j1 k bt268.1 bt268.2 bt280.1 bt280.2 (bt280.2 != bt268.2) x260000 x260001 x260002 bt272.1 bt272.2.1 bt272.2.2) else (laws_FnExactTablesOf.j1 k bt268.1 bt268.2 bt280.1 bt280.2 true x260000 x260001 x260002 bt272.1 bt272.2.1 bt272.2.2))))))
def laws_FnExactTablesOf.j1 : Nat → List Int → Int → List Int → Int → Bool → Int → List (S131) → List Int → Int → List (S81) → List Int → Option (Bool)
  | 0, _, _, _, _, _, _, _, _, _, _, _ => none
  | k + 1, x4, x5, x7, x8, x40, x260000, x260001, x260002, x280000, x280001, x280002 => if x40 = true then (some false) else (laws_FnExactTablesOf.j2 k x4 x5 x7 x8 x260000 x260001 x260002 x280000 x280001 x280002)
def laws_FnExactTablesOf.j2 : Nat → List Int → Int → List Int → Int → Int → List (S131) → List Int → Int → List (S81) → List Int → Option (Bool)
  | 0, _, _, _, _, _, _, _, _, _, _ => none
  | k + 1, x4, x5, x7, x8, x260000, x260001, x260002, x280000, x280001, x280002 => (laws_toNetwork.f k x260000 x260001 x260002).bind fun bt285 => ((laws_eqNetwork.f k x280000 x280001 x280002 bt285.1 bt285.2.1 bt285.2.2).bind fun t292 => (if t292 = true then (laws_FnExactTablesOf.j3 k x4 x5 x7 x8 x260000 x260001 x260002 x280000 x280001 x280002) else (some false)))
def laws_FnExactTablesOf.j3 : Nat → List Int → Int → List Int → Int → Int → List (S131) → List Int → Int → List (S81) → List Int → Option (Bool)
  | 0, _, _, _, _, _, _, _, _, _, _ => none
  | k + 1, x4, x5, x7, x8, x260000, x260001, x260002, x280000, x280001, x280002 => (laws_markNetwork.f k x280000 x280001 x280002 1).bind fun bt293 => (if bt293.1 < 0 then (laws_FnExactTablesOf.j4 k x4 x5 x7 true x260000 x260001 x260002) else ((laws_eqUint64S.f k x7 x4).bind fun t296 => (if t296 = true then (laws_FnExactTablesOf.j4 k x4 x5 x7 (x8 != x5) x260000 x260001 x260002) else (laws_FnExactTablesOf.j4 k x4 x5 x7 true x260000 x260001 x260002))))
def laws_FnExactTablesOf.j4 : Nat → List Int → Int → List Int → Bool → Int → List (S131) → List Int → Option (Bool)
  | 0, _, _, _, _, _, _, _ => none
  | k + 1, x4, x5, x7, x61, x260000, x260001, x260002 => if x61 = true then (some false) else (laws_FnExactTablesOf.j5 k x4 x5 x7 x260000 x260001 x260002)
def laws_FnExactTablesOf.j5 : Nat → List Int → Int → List Int → Int → List (S131) → List Int → Option (Bool)
  | 0, _, _, _, _, _, _ => none
  | k + 1, x4, x5, x7, x260000, x260001, x260002 => (laws_markUint64S.f k x7 1).bind fun bt297 => ((laws_heldUint64S.f k bt297.2 1).bind fun t299 => (if t299 < 0 then (some false) else (laws_FnExactTablesOf.j6 k x4 x5 bt297.2 bt297.1 t299 x260000 x260001 x260002)))
def laws_FnExactTablesOf.j6 : Nat → List Int → Int → List Int → Int → Int → Int → List (S131) → List Int → Option (Bool)
  | 0, _, _, _, _, _, _, _, _ => none
  | k + 1, x4, x5, x7, x10, x11, x260000, x260001, x260002 => if x11 = x10 then (laws_FnExactTablesOf.j7 k x4 x5 x7 x10 x260000 x260001 x260002) else (some false)
def laws_FnExactTablesOf.j7 : Nat → List Int → Int → List Int → Int → Int → List (S131) → List Int → Option (Bool)
  | 0, _, _, _, _, _, _, _ => none
  | k + 1, x4, x5, x7, x10, x260000, x260001, x260002 => (laws_toNetwork.f k x260000 x260001 x260002).bind fun bt300 => ((impl_TablesOf.f k bt300.1 bt300.2.1 bt300.2.2).bind fun bt307 => ((laws_eqUint64S.f k bt307.1 x4).bind fun t311 => (if t311 = true then (laws_FnExactTablesOf.j8 k x7 x10 (bt307.2 != x5)) else (laws_FnExactTablesOf.j8 k x7 x10 true))))
def laws_FnExactTablesOf.j8 : Nat → List Int → Int → Bool → Option (Bool)
  | 0, _, _, _ => none
  | k + 1, x7, x10, x87 => if x87 = true then (some false) else (laws_FnExactTablesOf.j9 k x7 x10)
def laws_FnExactTablesOf.j9 : Nat → List Int → Int → Option (Bool)
  | 0, _, _ => none
  | k + 1, x7, x10 => (laws_heldUint64S.f k x7 1).bind fun t312 => (if t312 < 0 then (some false) else (if t312 = x10 then (some true) else (some false)))
end
def laws_FnExactTablesOf.f (k : Nat) (a0_0 : Int) (l0_1 : List (S131)) (l0_2 : List Int) : Option (Bool) := (laws_szNetwork.f a0_0 l0_1 l0_2 1048576).bind fun t260 => (if t260 < 0 then (some true) else (laws_FnExactTablesOf.j0 k a0_0 l0_1 l0_2))
theorem laws_FnExactTablesOf.mono_l : ∀ k, (∀ y0 y1 y2, LeO (laws_FnExactTablesOf.j0 k y0 y1 y2) (laws_FnExactTablesOf.j0 (k + 1) y0 y1 y2)) ∧ (∀ y0 y1 y2 y3 y4 y5 y6 y7 y8 y9 y10, LeO (laws_FnExactTablesOf.j1 k y0 y1 y2 y3 y4 y5 y6 y7 y8 y9 y10) (laws_FnExactTablesOf.j1 (k + 1) y0 y1 y2 y3 y4 y5 y6 y7 y8 y9 y10)) ∧ (∀ y0 y1 y2 y3 y4 y5 y6 y7 y8 y9, LeO (laws_FnExactTablesOf.j2 k y0 y1 y2 y3 y4 y5 y6 y7 y8 y9) (laws_FnExactTablesOf.j2 (k + 1) y0 y1 y2 y3 y4 y5 y6 y7 y8 y9)) ∧ (∀ y0 y1 y2 y3 y4 y5 y6 y7 y8 y9, LeO (laws_FnExactTablesOf.j3 k y0 y1 y2 y3 y4 y5 y6 y7 y8 y9) (laws_FnExactTablesOf.j3 (k + 1) y0 y1 y2 y3 y4 y5 y6 y7 y8 y9)) ∧ (∀ y0 y1 y2 y3 y4 y5 y6, LeO (laws_FnExactTablesOf.j4 k y0 y1 y2 y3 y4 y5 y6) (laws_FnExactTablesOf.j4 (k + 1) y0 y1 y2 y3 y4 y5 y6)) ∧ (∀ y0 y1 y2 y3 y4 y5, LeO (laws_FnExactTablesOf.j5 k y0 y1 y2 y3 y4 y5) (laws_FnExactTablesOf.j5 (k + 1) y0 y1 y2 y3 y4 y5)) ∧ (∀ y0 y1 y2 y3 y4 y5 y6 y7, LeO (laws_FnExactTablesOf.j6 k y0 y1 y2 y3 y4 y5 y6 y7) (laws_FnExactTablesOf.j6 (k + 1) y0 y1 y2 y3 y4 y5 y6 y7)) ∧ (∀ y0 y1 y2 y3 y4 y5 y6, LeO (laws_FnExactTablesOf.j7 k y0 y1 y2 y3 y4 y5 y6) (laws_FnExactTablesOf.j7 (k + 1) y0 y1 y2 y3 y4 y5 y6)) ∧ (∀ y0 y1 y2, LeO (laws_FnExactTablesOf.j8 k y0 y1 y2) (laws_FnExactTablesOf.j8 (k + 1) y0 y1 y2)) ∧ (∀ y0 y1, LeO (laws_FnExactTablesOf.j9 k y0 y1) (laws_FnExactTablesOf.j9 (k + 1) y0 y1))
  | 0 => ⟨fun _ _ _ r h => by simp [laws_FnExactTablesOf.j0] at h, fun _ _ _ _ _ _ _ _ _ _ _ r h => by simp [laws_FnExactTablesOf.j1] at h, fun _ _ _ _ _ _ _ _ _ _ r h => by simp [laws_FnExactTablesOf.j2] at h, fun _ _ _ _ _ _ _ _ _ _ r h => by simp [laws_FnExactTablesOf.j3] at h, fun _ _ _ _ _ _ _ r h => by simp [laws_FnExactTablesOf.j4] at h, fun _ _ _ _ _ _ r h => by simp [laws_FnExactTablesOf.j5] at h, fun _ _ _ _ _ _ _ _ r h => by simp [laws_FnExactTablesOf.j6] at h, fun _ _ _ _ _ _ _ r h => by simp [laws_FnExactTablesOf.j7] at h, fun _ _ _ r h => by simp [laws_FnExactTablesOf.j8] at h, fun _ _ r h => by simp [laws_FnExactTablesOf.j9] at h⟩
  | k + 1 => by
    obtain ⟨ih0, ih1, ih2, ih3, ih4, ih5, ih6, ih7, ih8, ih9⟩ := laws_FnExactTablesOf.mono_l k
    refine ⟨?_, ?_, ?_, ?_, ?_, ?_, ?_, ?_, ?_, ?_⟩
    · intro y0 y1 y2
      unfold laws_FnExactTablesOf.j0
      repeat' first
      | (with_reducible exact ih0 _ _ _)
      | (with_reducible exact ih1 _ _ _ _ _ _ _ _ _ _ _)
      | (with_reducible exact ih2 _ _ _ _ _ _ _ _ _ _)
      | (with_reducible exact ih3 _ _ _ _ _ _ _ _ _ _)
      | (with_reducible exact ih4 _ _ _ _ _ _ _)
      | (with_reducible exact ih5 _ _ _ _ _ _)
      | (with_reducible exact ih6 _ _ _ _ _ _ _ _)
      | (with_reducible exact ih7 _ _ _ _ _ _ _)
      | (with_reducible exact ih8 _ _ _)
      | (with_reducible exact ih9 _ _)
      | (with_reducible exact impl_TablesOf.mono _ _ _ _)
      | (with_reducible exact laws_eqNetwork.mono _ _ _ _ _ _ _)
      | (with_reducible exact laws_eqUint64S.mono _ _ _)
      | (with_reducible exact laws_heldUint64S.mono _ _ _)
      | (with_reducible exact laws_markNetwork.mono _ _ _ _ _)
      | (with_reducible exact laws_markUint64S.mono _ _ _)
      | (with_reducible exact laws_toNetwork.mono _ _ _ _)
      | (with_reducible exact spec_TablesOf.mono _ _ _ _)
      | (with_reducible exact LeO.refl _)
      | (with_reducible exact LeO.none _)
      | (with_reducible refine LeO.ite ?_ ?_)
      | (with_reducible refine LeO.bind ?_ (fun _ => ?_))
      | exact ih0 _ _ _
      | exact ih1 _ _ _ _ _ _ _ _ _ _ _
      | exact ih2 _ _ _ _ _ _ _ _ _ _
      | exact ih3 _ _ _ _ _ _ _ _ _ _
      | exact ih4 _ _ _ _ _ _ _
      | exact ih5 _ _ _ _ _ _
      | exact ih6 _ _ _ _ _ _ _ _
      | exact ih7 _ _ _ _ _ _ _
      | exact ih8 _ _ _
      | exact ih9 _ _
      | exact impl_TablesOf.mono _ _ _ _
      | exact laws_eqNetwork.mono _ _ _ _ _ _ _
      | exact laws_eqUint64S.mono _ _ _
      | exact laws_heldUint64S.mono _ _ _
      | exact laws_markNetwork.mono _ _ _ _ _
      | exact laws_markUint64S.mono _ _ _
      | exact laws_toNetwork.mono _ _ _ _
      | exact spec_TablesOf.mono _ _ _ _
      | exact LeO.none _
      | refine LeO.ite ?_ ?_
      | refine LeO.bind ?_ (fun _ => ?_)
    · intro y0 y1 y2 y3 y4 y5 y6 y7 y8 y9 y10
      unfold laws_FnExactTablesOf.j1
      repeat' first
      | (with_reducible exact ih0 _ _ _)
      | (with_reducible exact ih1 _ _ _ _ _ _ _ _ _ _ _)
      | (with_reducible exact ih2 _ _ _ _ _ _ _ _ _ _)
      | (with_reducible exact ih3 _ _ _ _ _ _ _ _ _ _)
      | (with_reducible exact ih4 _ _ _ _ _ _ _)
      | (with_reducible exact ih5 _ _ _ _ _ _)
      | (with_reducible exact ih6 _ _ _ _ _ _ _ _)
      | (with_reducible exact ih7 _ _ _ _ _ _ _)
      | (with_reducible exact ih8 _ _ _)
      | (with_reducible exact ih9 _ _)
      | (with_reducible exact impl_TablesOf.mono _ _ _ _)
      | (with_reducible exact laws_eqNetwork.mono _ _ _ _ _ _ _)
      | (with_reducible exact laws_eqUint64S.mono _ _ _)
      | (with_reducible exact laws_heldUint64S.mono _ _ _)
      | (with_reducible exact laws_markNetwork.mono _ _ _ _ _)
      | (with_reducible exact laws_markUint64S.mono _ _ _)
      | (with_reducible exact laws_toNetwork.mono _ _ _ _)
      | (with_reducible exact spec_TablesOf.mono _ _ _ _)
      | (with_reducible exact LeO.refl _)
      | (with_reducible exact LeO.none _)
      | (with_reducible refine LeO.ite ?_ ?_)
      | (with_reducible refine LeO.bind ?_ (fun _ => ?_))
      | exact ih0 _ _ _
      | exact ih1 _ _ _ _ _ _ _ _ _ _ _
      | exact ih2 _ _ _ _ _ _ _ _ _ _
      | exact ih3 _ _ _ _ _ _ _ _ _ _
      | exact ih4 _ _ _ _ _ _ _
      | exact ih5 _ _ _ _ _ _
      | exact ih6 _ _ _ _ _ _ _ _
      | exact ih7 _ _ _ _ _ _ _
      | exact ih8 _ _ _
      | exact ih9 _ _
      | exact impl_TablesOf.mono _ _ _ _
      | exact laws_eqNetwork.mono _ _ _ _ _ _ _
      | exact laws_eqUint64S.mono _ _ _
      | exact laws_heldUint64S.mono _ _ _
      | exact laws_markNetwork.mono _ _ _ _ _
      | exact laws_markUint64S.mono _ _ _
      | exact laws_toNetwork.mono _ _ _ _
      | exact spec_TablesOf.mono _ _ _ _
      | exact LeO.none _
      | refine LeO.ite ?_ ?_
      | refine LeO.bind ?_ (fun _ => ?_)
    · intro y0 y1 y2 y3 y4 y5 y6 y7 y8 y9
      unfold laws_FnExactTablesOf.j2
      repeat' first
      | (with_reducible exact ih0 _ _ _)
      | (with_reducible exact ih1 _ _ _ _ _ _ _ _ _ _ _)
      | (with_reducible exact ih2 _ _ _ _ _ _ _ _ _ _)
      | (with_reducible exact ih3 _ _ _ _ _ _ _ _ _ _)
      | (with_reducible exact ih4 _ _ _ _ _ _ _)
      | (with_reducible exact ih5 _ _ _ _ _ _)
      | (with_reducible exact ih6 _ _ _ _ _ _ _ _)
      | (with_reducible exact ih7 _ _ _ _ _ _ _)
      | (with_reducible exact ih8 _ _ _)
      | (with_reducible exact ih9 _ _)
      | (with_reducible exact impl_TablesOf.mono _ _ _ _)
      | (with_reducible exact laws_eqNetwork.mono _ _ _ _ _ _ _)
      | (with_reducible exact laws_eqUint64S.mono _ _ _)
      | (with_reducible exact laws_heldUint64S.mono _ _ _)
      | (with_reducible exact laws_markNetwork.mono _ _ _ _ _)
      | (with_reducible exact laws_markUint64S.mono _ _ _)
      | (with_reducible exact laws_toNetwork.mono _ _ _ _)
      | (with_reducible exact spec_TablesOf.mono _ _ _ _)
      | (with_reducible exact LeO.refl _)
      | (with_reducible exact LeO.none _)
      | (with_reducible refine LeO.ite ?_ ?_)
      | (with_reducible refine LeO.bind ?_ (fun _ => ?_))
      | exact ih0 _ _ _
      | exact ih1 _ _ _ _ _ _ _ _ _ _ _
      | exact ih2 _ _ _ _ _ _ _ _ _ _
      | exact ih3 _ _ _ _ _ _ _ _ _ _
      | exact ih4 _ _ _ _ _ _ _
      | exact ih5 _ _ _ _ _ _
      | exact ih6 _ _ _ _ _ _ _ _
      | exact ih7 _ _ _ _ _ _ _
      | exact ih8 _ _ _
      | exact ih9 _ _
      | exact impl_TablesOf.mono _ _ _ _
      | exact laws_eqNetwork.mono _ _ _ _ _ _ _
      | exact laws_eqUint64S.mono _ _ _
      | exact laws_heldUint64S.mono _ _ _
      | exact laws_markNetwork.mono _ _ _ _ _
      | exact laws_markUint64S.mono _ _ _
      | exact laws_toNetwork.mono _ _ _ _
      | exact spec_TablesOf.mono _ _ _ _
      | exact LeO.none _
      | refine LeO.ite ?_ ?_
      | refine LeO.bind ?_ (fun _ => ?_)
    · intro y0 y1 y2 y3 y4 y5 y6 y7 y8 y9
      unfold laws_FnExactTablesOf.j3
      repeat' first
      | (with_reducible exact ih0 _ _ _)
      | (with_reducible exact ih1 _ _ _ _ _ _ _ _ _ _ _)
      | (with_reducible exact ih2 _ _ _ _ _ _ _ _ _ _)
      | (with_reducible exact ih3 _ _ _ _ _ _ _ _ _ _)
      | (with_reducible exact ih4 _ _ _ _ _ _ _)
      | (with_reducible exact ih5 _ _ _ _ _ _)
      | (with_reducible exact ih6 _ _ _ _ _ _ _ _)
      | (with_reducible exact ih7 _ _ _ _ _ _ _)
      | (with_reducible exact ih8 _ _ _)
      | (with_reducible exact ih9 _ _)
      | (with_reducible exact impl_TablesOf.mono _ _ _ _)
      | (with_reducible exact laws_eqNetwork.mono _ _ _ _ _ _ _)
      | (with_reducible exact laws_eqUint64S.mono _ _ _)
      | (with_reducible exact laws_heldUint64S.mono _ _ _)
      | (with_reducible exact laws_markNetwork.mono _ _ _ _ _)
      | (with_reducible exact laws_markUint64S.mono _ _ _)
      | (with_reducible exact laws_toNetwork.mono _ _ _ _)
      | (with_reducible exact spec_TablesOf.mono _ _ _ _)
      | (with_reducible exact LeO.refl _)
      | (with_reducible exact LeO.none _)
      | (with_reducible refine LeO.ite ?_ ?_)
      | (with_reducible refine LeO.bind ?_ (fun _ => ?_))
      | exact ih0 _ _ _
      | exact ih1 _ _ _ _ _ _ _ _ _ _ _
      | exact ih2 _ _ _ _ _ _ _ _ _ _
      | exact ih3 _ _ _ _ _ _ _ _ _ _
      | exact ih4 _ _ _ _ _ _ _
      | exact ih5 _ _ _ _ _ _
      | exact ih6 _ _ _ _ _ _ _ _
      | exact ih7 _ _ _ _ _ _ _
      | exact ih8 _ _ _
      | exact ih9 _ _
      | exact impl_TablesOf.mono _ _ _ _
      | exact laws_eqNetwork.mono _ _ _ _ _ _ _
      | exact laws_eqUint64S.mono _ _ _
      | exact laws_heldUint64S.mono _ _ _
      | exact laws_markNetwork.mono _ _ _ _ _
      | exact laws_markUint64S.mono _ _ _
      | exact laws_toNetwork.mono _ _ _ _
      | exact spec_TablesOf.mono _ _ _ _
      | exact LeO.none _
      | refine LeO.ite ?_ ?_
      | refine LeO.bind ?_ (fun _ => ?_)
    · intro y0 y1 y2 y3 y4 y5 y6
      unfold laws_FnExactTablesOf.j4
      repeat' first
      | (with_reducible exact ih0 _ _ _)
      | (with_reducible exact ih1 _ _ _ _ _ _ _ _ _ _ _)
      | (with_reducible exact ih2 _ _ _ _ _ _ _ _ _ _)
      | (with_reducible exact ih3 _ _ _ _ _ _ _ _ _ _)
      | (with_reducible exact ih4 _ _ _ _ _ _ _)
      | (with_reducible exact ih5 _ _ _ _ _ _)
      | (with_reducible exact ih6 _ _ _ _ _ _ _ _)
      | (with_reducible exact ih7 _ _ _ _ _ _ _)
      | (with_reducible exact ih8 _ _ _)
      | (with_reducible exact ih9 _ _)
      | (with_reducible exact impl_TablesOf.mono _ _ _ _)
      | (with_reducible exact laws_eqNetwork.mono _ _ _ _ _ _ _)
      | (with_reducible exact laws_eqUint64S.mono _ _ _)
      | (with_reducible exact laws_heldUint64S.mono _ _ _)
      | (with_reducible exact laws_markNetwork.mono _ _ _ _ _)
      | (with_reducible exact laws_markUint64S.mono _ _ _)
      | (with_reducible exact laws_toNetwork.mono _ _ _ _)
      | (with_reducible exact spec_TablesOf.mono _ _ _ _)
      | (with_reducible exact LeO.refl _)
      | (with_reducible exact LeO.none _)
      | (with_reducible refine LeO.ite ?_ ?_)
      | (with_reducible refine LeO.bind ?_ (fun _ => ?_))
      | exact ih0 _ _ _
      | exact ih1 _ _ _ _ _ _ _ _ _ _ _
      | exact ih2 _ _ _ _ _ _ _ _ _ _
      | exact ih3 _ _ _ _ _ _ _ _ _ _
      | exact ih4 _ _ _ _ _ _ _
      | exact ih5 _ _ _ _ _ _
      | exact ih6 _ _ _ _ _ _ _ _
      | exact ih7 _ _ _ _ _ _ _
      | exact ih8 _ _ _
      | exact ih9 _ _
      | exact impl_TablesOf.mono _ _ _ _
      | exact laws_eqNetwork.mono _ _ _ _ _ _ _
      | exact laws_eqUint64S.mono _ _ _
      | exact laws_heldUint64S.mono _ _ _
      | exact laws_markNetwork.mono _ _ _ _ _
      | exact laws_markUint64S.mono _ _ _
      | exact laws_toNetwork.mono _ _ _ _
      | exact spec_TablesOf.mono _ _ _ _
      | exact LeO.none _
      | refine LeO.ite ?_ ?_
      | refine LeO.bind ?_ (fun _ => ?_)
    · intro y0 y1 y2 y3 y4 y5
      unfold laws_FnExactTablesOf.j5
      repeat' first
      | (with_reducible exact ih0 _ _ _)
      | (with_reducible exact ih1 _ _ _ _ _ _ _ _ _ _ _)
      | (with_reducible exact ih2 _ _ _ _ _ _ _ _ _ _)
      | (with_reducible exact ih3 _ _ _ _ _ _ _ _ _ _)
      | (with_reducible exact ih4 _ _ _ _ _ _ _)
      | (with_reducible exact ih5 _ _ _ _ _ _)
      | (with_reducible exact ih6 _ _ _ _ _ _ _ _)
      | (with_reducible exact ih7 _ _ _ _ _ _ _)
      | (with_reducible exact ih8 _ _ _)
      | (with_reducible exact ih9 _ _)
      | (with_reducible exact impl_TablesOf.mono _ _ _ _)
      | (with_reducible exact laws_eqNetwork.mono _ _ _ _ _ _ _)
      | (with_reducible exact laws_eqUint64S.mono _ _ _)
      | (with_reducible exact laws_heldUint64S.mono _ _ _)
      | (with_reducible exact laws_markNetwork.mono _ _ _ _ _)
      | (with_reducible exact laws_markUint64S.mono _ _ _)
      | (with_reducible exact laws_toNetwork.mono _ _ _ _)
      | (with_reducible exact spec_TablesOf.mono _ _ _ _)
      | (with_reducible exact LeO.refl _)
      | (with_reducible exact LeO.none _)
      | (with_reducible refine LeO.ite ?_ ?_)
      | (with_reducible refine LeO.bind ?_ (fun _ => ?_))
      | exact ih0 _ _ _
      | exact ih1 _ _ _ _ _ _ _ _ _ _ _
      | exact ih2 _ _ _ _ _ _ _ _ _ _
      | exact ih3 _ _ _ _ _ _ _ _ _ _
      | exact ih4 _ _ _ _ _ _ _
      | exact ih5 _ _ _ _ _ _
      | exact ih6 _ _ _ _ _ _ _ _
      | exact ih7 _ _ _ _ _ _ _
      | exact ih8 _ _ _
      | exact ih9 _ _
      | exact impl_TablesOf.mono _ _ _ _
      | exact laws_eqNetwork.mono _ _ _ _ _ _ _
      | exact laws_eqUint64S.mono _ _ _
      | exact laws_heldUint64S.mono _ _ _
      | exact laws_markNetwork.mono _ _ _ _ _
      | exact laws_markUint64S.mono _ _ _
      | exact laws_toNetwork.mono _ _ _ _
      | exact spec_TablesOf.mono _ _ _ _
      | exact LeO.none _
      | refine LeO.ite ?_ ?_
      | refine LeO.bind ?_ (fun _ => ?_)
    · intro y0 y1 y2 y3 y4 y5 y6 y7
      unfold laws_FnExactTablesOf.j6
      repeat' first
      | (with_reducible exact ih0 _ _ _)
      | (with_reducible exact ih1 _ _ _ _ _ _ _ _ _ _ _)
      | (with_reducible exact ih2 _ _ _ _ _ _ _ _ _ _)
      | (with_reducible exact ih3 _ _ _ _ _ _ _ _ _ _)
      | (with_reducible exact ih4 _ _ _ _ _ _ _)
      | (with_reducible exact ih5 _ _ _ _ _ _)
      | (with_reducible exact ih6 _ _ _ _ _ _ _ _)
      | (with_reducible exact ih7 _ _ _ _ _ _ _)
      | (with_reducible exact ih8 _ _ _)
      | (with_reducible exact ih9 _ _)
      | (with_reducible exact impl_TablesOf.mono _ _ _ _)
      | (with_reducible exact laws_eqNetwork.mono _ _ _ _ _ _ _)
      | (with_reducible exact laws_eqUint64S.mono _ _ _)
      | (with_reducible exact laws_heldUint64S.mono _ _ _)
      | (with_reducible exact laws_markNetwork.mono _ _ _ _ _)
      | (with_reducible exact laws_markUint64S.mono _ _ _)
      | (with_reducible exact laws_toNetwork.mono _ _ _ _)
      | (with_reducible exact spec_TablesOf.mono _ _ _ _)
      | (with_reducible exact LeO.refl _)
      | (with_reducible exact LeO.none _)
      | (with_reducible refine LeO.ite ?_ ?_)
      | (with_reducible refine LeO.bind ?_ (fun _ => ?_))
      | exact ih0 _ _ _
      | exact ih1 _ _ _ _ _ _ _ _ _ _ _
      | exact ih2 _ _ _ _ _ _ _ _ _ _
      | exact ih3 _ _ _ _ _ _ _ _ _ _
      | exact ih4 _ _ _ _ _ _ _
      | exact ih5 _ _ _ _ _ _
      | exact ih6 _ _ _ _ _ _ _ _
      | exact ih7 _ _ _ _ _ _ _
      | exact ih8 _ _ _
      | exact ih9 _ _
      | exact impl_TablesOf.mono _ _ _ _
      | exact laws_eqNetwork.mono _ _ _ _ _ _ _
      | exact laws_eqUint64S.mono _ _ _
      | exact laws_heldUint64S.mono _ _ _
      | exact laws_markNetwork.mono _ _ _ _ _
      | exact laws_markUint64S.mono _ _ _
      | exact laws_toNetwork.mono _ _ _ _
      | exact spec_TablesOf.mono _ _ _ _
      | exact LeO.none _
      | refine LeO.ite ?_ ?_
      | refine LeO.bind ?_ (fun _ => ?_)
    · intro y0 y1 y2 y3 y4 y5 y6
      unfold laws_FnExactTablesOf.j7
      repeat' first
      | (with_reducible exact ih0 _ _ _)
      | (with_reducible exact ih1 _ _ _ _ _ _ _ _ _ _ _)
      | (with_reducible exact ih2 _ _ _ _ _ _ _ _ _ _)
      | (with_reducible exact ih3 _ _ _ _ _ _ _ _ _ _)
      | (with_reducible exact ih4 _ _ _ _ _ _ _)
      | (with_reducible exact ih5 _ _ _ _ _ _)
      | (with_reducible exact ih6 _ _ _ _ _ _ _ _)
      | (with_reducible exact ih7 _ _ _ _ _ _ _)
      | (with_reducible exact ih8 _ _ _)
      | (with_reducible exact ih9 _ _)
      | (with_reducible exact impl_TablesOf.mono _ _ _ _)
      | (with_reducible exact laws_eqNetwork.mono _ _ _ _ _ _ _)
      | (with_reducible exact laws_eqUint64S.mono _ _ _)
      | (with_reducible exact laws_heldUint64S.mono _ _ _)
      | (with_reducible exact laws_markNetwork.mono _ _ _ _ _)
      | (with_reducible exact laws_markUint64S.mono _ _ _)
      | (with_reducible exact laws_toNetwork.mono _ _ _ _)
      | (with_reducible exact spec_TablesOf.mono _ _ _ _)
      | (with_reducible exact LeO.refl _)
      | (with_reducible exact LeO.none _)
      | (with_reducible refine LeO.ite ?_ ?_)
      | (with_reducible refine LeO.bind ?_ (fun _ => ?_))
      | exact ih0 _ _ _
      | exact ih1 _ _ _ _ _ _ _ _ _ _ _
      | exact ih2 _ _ _ _ _ _ _ _ _ _
      | exact ih3 _ _ _ _ _ _ _ _ _ _
      | exact ih4 _ _ _ _ _ _ _
      | exact ih5 _ _ _ _ _ _
      | exact ih6 _ _ _ _ _ _ _ _
      | exact ih7 _ _ _ _ _ _ _
      | exact ih8 _ _ _
      | exact ih9 _ _
      | exact impl_TablesOf.mono _ _ _ _
      | exact laws_eqNetwork.mono _ _ _ _ _ _ _
      | exact laws_eqUint64S.mono _ _ _
      | exact laws_heldUint64S.mono _ _ _
      | exact laws_markNetwork.mono _ _ _ _ _
      | exact laws_markUint64S.mono _ _ _
      | exact laws_toNetwork.mono _ _ _ _
      | exact spec_TablesOf.mono _ _ _ _
      | exact LeO.none _
      | refine LeO.ite ?_ ?_
      | refine LeO.bind ?_ (fun _ => ?_)
    · intro y0 y1 y2
      unfold laws_FnExactTablesOf.j8
      repeat' first
      | (with_reducible exact ih0 _ _ _)
      | (with_reducible exact ih1 _ _ _ _ _ _ _ _ _ _ _)
      | (with_reducible exact ih2 _ _ _ _ _ _ _ _ _ _)
      | (with_reducible exact ih3 _ _ _ _ _ _ _ _ _ _)
      | (with_reducible exact ih4 _ _ _ _ _ _ _)
      | (with_reducible exact ih5 _ _ _ _ _ _)
      | (with_reducible exact ih6 _ _ _ _ _ _ _ _)
      | (with_reducible exact ih7 _ _ _ _ _ _ _)
      | (with_reducible exact ih8 _ _ _)
      | (with_reducible exact ih9 _ _)
      | (with_reducible exact impl_TablesOf.mono _ _ _ _)
      | (with_reducible exact laws_eqNetwork.mono _ _ _ _ _ _ _)
      | (with_reducible exact laws_eqUint64S.mono _ _ _)
      | (with_reducible exact laws_heldUint64S.mono _ _ _)
      | (with_reducible exact laws_markNetwork.mono _ _ _ _ _)
      | (with_reducible exact laws_markUint64S.mono _ _ _)
      | (with_reducible exact laws_toNetwork.mono _ _ _ _)
      | (with_reducible exact spec_TablesOf.mono _ _ _ _)
      | (with_reducible exact LeO.refl _)
      | (with_reducible exact LeO.none _)
      | (with_reducible refine LeO.ite ?_ ?_)
      | (with_reducible refine LeO.bind ?_ (fun _ => ?_))
      | exact ih0 _ _ _
      | exact ih1 _ _ _ _ _ _ _ _ _ _ _
      | exact ih2 _ _ _ _ _ _ _ _ _ _
      | exact ih3 _ _ _ _ _ _ _ _ _ _
      | exact ih4 _ _ _ _ _ _ _
      | exact ih5 _ _ _ _ _ _
      | exact ih6 _ _ _ _ _ _ _ _
      | exact ih7 _ _ _ _ _ _ _
      | exact ih8 _ _ _
      | exact ih9 _ _
      | exact impl_TablesOf.mono _ _ _ _
      | exact laws_eqNetwork.mono _ _ _ _ _ _ _
      | exact laws_eqUint64S.mono _ _ _
      | exact laws_heldUint64S.mono _ _ _
      | exact laws_markNetwork.mono _ _ _ _ _
      | exact laws_markUint64S.mono _ _ _
      | exact laws_toNetwork.mono _ _ _ _
      | exact spec_TablesOf.mono _ _ _ _
      | exact LeO.none _
      | refine LeO.ite ?_ ?_
      | refine LeO.bind ?_ (fun _ => ?_)
    · intro y0 y1
      unfold laws_FnExactTablesOf.j9
      repeat' first
      | (with_reducible exact ih0 _ _ _)
      | (with_reducible exact ih1 _ _ _ _ _ _ _ _ _ _ _)
      | (with_reducible exact ih2 _ _ _ _ _ _ _ _ _ _)
      | (with_reducible exact ih3 _ _ _ _ _ _ _ _ _ _)
      | (with_reducible exact ih4 _ _ _ _ _ _ _)
      | (with_reducible exact ih5 _ _ _ _ _ _)
      | (with_reducible exact ih6 _ _ _ _ _ _ _ _)
      | (with_reducible exact ih7 _ _ _ _ _ _ _)
      | (with_reducible exact ih8 _ _ _)
      | (with_reducible exact ih9 _ _)
      | (with_reducible exact impl_TablesOf.mono _ _ _ _)
      | (with_reducible exact laws_eqNetwork.mono _ _ _ _ _ _ _)
      | (with_reducible exact laws_eqUint64S.mono _ _ _)
      | (with_reducible exact laws_heldUint64S.mono _ _ _)
      | (with_reducible exact laws_markNetwork.mono _ _ _ _ _)
      | (with_reducible exact laws_markUint64S.mono _ _ _)
      | (with_reducible exact laws_toNetwork.mono _ _ _ _)
      | (with_reducible exact spec_TablesOf.mono _ _ _ _)
      | (with_reducible exact LeO.refl _)
      | (with_reducible exact LeO.none _)
      | (with_reducible refine LeO.ite ?_ ?_)
      | (with_reducible refine LeO.bind ?_ (fun _ => ?_))
      | exact ih0 _ _ _
      | exact ih1 _ _ _ _ _ _ _ _ _ _ _
      | exact ih2 _ _ _ _ _ _ _ _ _ _
      | exact ih3 _ _ _ _ _ _ _ _ _ _
      | exact ih4 _ _ _ _ _ _ _
      | exact ih5 _ _ _ _ _ _
      | exact ih6 _ _ _ _ _ _ _ _
      | exact ih7 _ _ _ _ _ _ _
      | exact ih8 _ _ _
      | exact ih9 _ _
      | exact impl_TablesOf.mono _ _ _ _
      | exact laws_eqNetwork.mono _ _ _ _ _ _ _
      | exact laws_eqUint64S.mono _ _ _
      | exact laws_heldUint64S.mono _ _ _
      | exact laws_markNetwork.mono _ _ _ _ _
      | exact laws_markUint64S.mono _ _ _
      | exact laws_toNetwork.mono _ _ _ _
      | exact spec_TablesOf.mono _ _ _ _
      | exact LeO.none _
      | refine LeO.ite ?_ ?_
      | refine LeO.bind ?_ (fun _ => ?_)
theorem laws_FnExactTablesOf.mono : ∀ a0 a1 a2 k, LeO (laws_FnExactTablesOf.f k a0 a1 a2) (laws_FnExactTablesOf.f (k + 1) a0 a1 a2) := by
  intro a0 a1 a2 k
  obtain ⟨ih0, ih1, ih2, ih3, ih4, ih5, ih6, ih7, ih8, ih9⟩ := laws_FnExactTablesOf.mono_l k
  unfold laws_FnExactTablesOf.f
  repeat' first
      | (with_reducible exact ih0 _ _ _)
      | (with_reducible exact ih1 _ _ _ _ _ _ _ _ _ _ _)
      | (with_reducible exact ih2 _ _ _ _ _ _ _ _ _ _)
      | (with_reducible exact ih3 _ _ _ _ _ _ _ _ _ _)
      | (with_reducible exact ih4 _ _ _ _ _ _ _)
      | (with_reducible exact ih5 _ _ _ _ _ _)
      | (with_reducible exact ih6 _ _ _ _ _ _ _ _)
      | (with_reducible exact ih7 _ _ _ _ _ _ _)
      | (with_reducible exact ih8 _ _ _)
      | (with_reducible exact ih9 _ _)
      | (with_reducible exact impl_TablesOf.mono _ _ _ _)
      | (with_reducible exact laws_eqNetwork.mono _ _ _ _ _ _ _)
      | (with_reducible exact laws_eqUint64S.mono _ _ _)
      | (with_reducible exact laws_heldUint64S.mono _ _ _)
      | (with_reducible exact laws_markNetwork.mono _ _ _ _ _)
      | (with_reducible exact laws_markUint64S.mono _ _ _)
      | (with_reducible exact laws_toNetwork.mono _ _ _ _)
      | (with_reducible exact spec_TablesOf.mono _ _ _ _)
      | (with_reducible exact LeO.refl _)
      | (with_reducible exact LeO.none _)
      | (with_reducible refine LeO.ite ?_ ?_)
      | (with_reducible refine LeO.bind ?_ (fun _ => ?_))
      | exact ih0 _ _ _
      | exact ih1 _ _ _ _ _ _ _ _ _ _ _
      | exact ih2 _ _ _ _ _ _ _ _ _ _
      | exact ih3 _ _ _ _ _ _ _ _ _ _
      | exact ih4 _ _ _ _ _ _ _
      | exact ih5 _ _ _ _ _ _
      | exact ih6 _ _ _ _ _ _ _ _
      | exact ih7 _ _ _ _ _ _ _
      | exact ih8 _ _ _
      | exact ih9 _ _
      | exact impl_TablesOf.mono _ _ _ _
      | exact laws_eqNetwork.mono _ _ _ _ _ _ _
      | exact laws_eqUint64S.mono _ _ _
      | exact laws_heldUint64S.mono _ _ _
      | exact laws_markNetwork.mono _ _ _ _ _
      | exact laws_markUint64S.mono _ _ _
      | exact laws_toNetwork.mono _ _ _ _
      | exact spec_TablesOf.mono _ _ _ _
      | exact LeO.none _
      | refine LeO.ite ?_ ?_
      | refine LeO.bind ?_ (fun _ => ?_)
set_option maxHeartbeats 8000000 in
set_option maxRecDepth 100000 in
theorem laws_FnExactTablesOf.calls (k : Nat) (a0_0 : Int) (A0_1 : Option Addr) (c0_1 : Nat) (l0_1 : List (S131)) (A0_2 : Option Addr) (c0_2 : Nat) (l0_2 : List Int) (r : Bool) (w : World) (hr0_1 : Kd.C k131 w A0_1 l0_1.length l0_1) (hc0_1 : l0_1.length ≤ c0_1) (hr0_2 : Kd.C (Kd.int .i16) w A0_2 l0_2.length l0_2) (hc0_2 : l0_2.length ≤ c0_2) (h : laws_FnExactTablesOf.f k a0_0 l0_1 l0_2 = some r) :
    Calls Try.prog 12 #[.agg #[.int .i8 a0_0, .slice A0_1 l0_1.length c0_1, .slice A0_2 l0_2.length c0_2]] w fun e w' => e = .returned (.bool r) ∧ Below w.heap.size w w' := by
  have hu26 := Try.underlying26
  have hu31 := Try.underlying31
  have HR0_1 := Aside0.mk hr0_1
  have HC0_1 := Aside0.mk hc0_1
  clear hr0_1 hc0_1
  have HR0_2 := Aside0.mk hr0_2
  have HC0_2 := Aside0.mk hc0_2
  clear hr0_2 hc0_2
  have HB := Aside0.mk (Below.refl w.heap.size w)
  have H : ((laws_szNetwork.f a0_0 l0_1 l0_2 1048576).bind fun t260 => (if t260 < 0 then (some true) else (laws_FnExactTablesOf.j0 k a0_0 l0_1 l0_2))) = some r := h
  clear h
  replace H := Option.bind_eq_some_iff.mp H
  obtain ⟨t260, A20, H⟩ := H
  replace H : (if t260 < 0 then (some true) else (laws_FnExactTablesOf.j0 k a0_0 l0_1 l0_2)) = some r := H
  have A2 := Aside0.mk A20
  clear A20
  have HC3 := Aside0.mk H
  clear H
  go_enter Try.func12, Try.ntmps12
  go_upto_if 18 with (first | ((with_reducible refine gate_dst (N := 1) rfl ?_); refine box_event ?hg (N := 1) ?hd (cs := #[.int .i8 a0_0, .slice A0_1 l0_1.length c0_1, .slice A0_2 l0_2.length c0_2]) (t := 26) ?hr ?_; (case hd => rfl); (case hg => rfl); (case hr => first | (go_simp; done) | (go_simp; rfl)); intro gb259 hg w4 hbox hb; have n0_ := Aside0.mk (below_step (by repeat (first | (with_reducible first | exact HB.out | apply below_alloc | apply pw_below_drewN | apply below_drew1) | exact HB.out)) hb); have n1_ := Aside0.mk (hbox); have n2_ := Aside0.mk ((by rw [hg]; exact (below_size (by repeat (first | (with_reducible first | exact HB.out | apply below_alloc | apply pw_below_drewN | apply below_drew1) | exact HB.out))) : w.heap.size ≤ gb259)); have n3_ := Aside0.mk ((by rw [hg]; exact (below_size (by repeat (first | (with_reducible first | exact HB.out | apply below_alloc | apply pw_below_drewN | apply below_drew1) | exact HB.out))) : w.heap.size ≤ gb259)); clear HB; have HB := n0_; have BK259 := n1_; have GW259 := n2_; have GE259 := n3_; clear n0_ n1_ n2_ n3_; clear hb hbox hg; have hcz5_0 : w4.cell? ⟨gb259, 0, none⟩ = some (.int .i8 a0_0) := (blk_cell BK259.out 0).trans rfl; have hcz5_1 : w4.cell? ⟨gb259, 1, none⟩ = some (.slice A0_1 l0_1.length c0_1) := (blk_cell BK259.out 1).trans rfl; have hcz5_2 : w4.cell? ⟨gb259, 2, none⟩ = some (.slice A0_2 l0_2.length c0_2) := (blk_cell BK259.out 2).trans rfl; have hfz5_0 := blk_frozen BK259.out 0; have hfz5_1 := blk_frozen BK259.out 1; have hfz5_2 := blk_frozen BK259.out 2) | ((with_reducible refine gate_callee (f := 21) rfl ?_); refine goesL_ (some 16) rfl rfl Try.func21 (by kernel_rfl) rfl #[.agg #[.int .i8 a0_0, .slice A0_1 l0_1.length c0_1, .slice A0_2 l0_2.length c0_2], .int .i64 1048576] rfl (by (try simp only [List.map_toArray, List.map_cons, List.map_nil]); first | done | rfl | (simp only [List.length_drop, List.length_take]; rfl)) ?_; (with_reducible refine (laws_szNetwork.calls a0_0 _ _ l0_1 _ _ l0_2 1048576 t260 _ ?side1 ?side2 ?side3 ?side4 A2.out).mono ?_); (case side1 => repeat (first | exact (Kd.C_below HR0_1.out HB.out) | (with_reducible refine Kd.C_alloc ?_ _) | (with_reducible refine Kd.C_drewN ?_ _) | (with_reducible refine Kd.C_drew ?_))); (case side2 => exact HC0_1.out); (case side3 => repeat (first | exact (Kd.C_below HR0_2.out HB.out) | (with_reducible refine Kd.C_alloc ?_ _) | (with_reducible refine Kd.C_drewN ?_ _) | (with_reducible refine Kd.C_drew ?_))); (case side4 => exact HC0_2.out); rintro e w6 ⟨rfl, hb⟩; refine ⟨_, rfl, ?_⟩; have n0_ := Aside0.mk (blk_below (g := gb259) (o := .cells #[.int .i8 a0_0, .slice A0_1 l0_1.length c0_1, .slice A0_2 l0_2.length c0_2] 26 (0, 0)) (by (with_reducible repeat (first | refine blk_drewN ?_ _ | refine blk_drew ?_ | refine blk_alloc ?_ _)); exact BK259.out) hb); have n1_ := Aside0.mk (below_step (by repeat (first | (with_reducible first | exact HB.out | apply below_alloc | apply pw_below_drewN | apply below_drew1 | refine below_set ?_ GE259.out) | exact HB.out)) hb); clear BK259; clear HB; have BK259 := n0_; have HB := n1_; clear n0_ n1_; (try clear hb); (try clear hb2); (try clear hk); (try clear hi)))
  (try simp only [Act.put, List.setIfInBounds_toArray, List.set_cons_zero, List.set_cons_succ])
  go_cut [] (fun wc => ∃ (kq : Nat), Aside0 (laws_FnExactTablesOf.j0 kq a0_0 l0_1 l0_2 = some r) ∧ Aside0 (kq ≤ k) ∧ Aside0 (wc.heap[gb259]? = some (.cells #[.int .i8 a0_0, (.slice A0_1 l0_1.length c0_1), (.slice A0_2 l0_2.length c0_2)] 26 (0, 0))) ∧ Aside0 (Below w.heap.size w wc))
  case first =>
    have H := HC3.out
    clear HC3
    by_cases c7 : t260 < 0
    · rw [if_pos c7] at H
      have c7b0 : decide (t260 < 0) = true := decide_eq_true c7
      clear c7
      (first | rw [c7b0] | (simp only [i64_w, i32_w]; rw [c7b0]) | (have h_ := c7b0; simp only [bne] at h_; rw [h_]) | skip)
      obtain rfl := Option.some.inj H
      go_wp2
      go_ret
      exact ⟨by first | rfl | (simp [errW_none, errW_some] <;> rfl) | (simp [*, errW_none, errW_some] <;> rfl), by repeat (first | (with_reducible first | exact HB.out | apply below_alloc | apply pw_below_drewN | apply below_drew1 | refine below_set ?_ GE259.out) | exact HB.out)⟩
    · rw [if_neg c7] at H
      have c7b0 : decide (t260 < 0) = false := decide_eq_false c7
      clear c7
      (first | rw [c7b0] | (simp only [i64_w, i32_w]; rw [c7b0]) | (have h_ := c7b0; simp only [bne] at h_; rw [h_]) | skip)
      have H' := Aside0.mk H
      clear H
      go_wp2
      go_meet
      case rel => exact ⟨_, H', ⟨by first | omega | exact Nat.le_refl _⟩, ⟨by (with_reducible repeat (first | refine blk_drewN ?_ _ | refine blk_drew ?_ | refine blk_alloc ?_ _)); exact BK259.out⟩, ⟨by repeat (first | (with_reducible first | exact HB.out | apply below_alloc | apply pw_below_drewN | apply below_drew1 | refine below_set ?_ GE259.out) | exact HB.out)⟩⟩
  case rest =>
    clear HC3
    try clear c1
    try clear c2
    try clear p2
    try clear c7
    try clear c7b0
    try clear hcz5_0
    try clear hcz5_1
    try clear hcz5_2
    try clear hfz5_0
    try clear hfz5_1
    try clear hfz5_2
    obtain ⟨kq, HA, HJ2, BK259, HB⟩ := hcut
    cases kq with
    | zero => exact absurd HA.out (by simp [laws_FnExactTablesOf.j0])
    | succ kj2 =>
      have H := HA.out
      clear HA
      simp only [laws_FnExactTablesOf.j0] at H
      replace H := Option.bind_eq_some_iff.mp H
      obtain ⟨⟨t261, t262, t265⟩, A80, H⟩ := H
      replace H : ((spec_TablesOf.f kj2 t261 t262 t265).bind fun bt268 => ((laws_toNetwork.f kj2 a0_0 l0_1 l0_2).bind fun bt272 => ((impl_TablesOf.f kj2 bt272.1 bt272.2.1 bt272.2.2).bind fun bt280 => ((laws_eqUint64S.f kj2 bt280.1 bt268.1).bind fun t284 => (if t284 = true then (laws_FnExactTablesOf.j1 kj2 bt268.1 bt268.2 bt280.1 bt280.2 (bt280.2 != bt268.2) a0_0 l0_1 l0_2 bt272.1 bt272.2.1 bt272.2.2) else (laws_FnExactTablesOf.j1 kj2 bt268.1 bt268.2 bt280.1 bt280.2 true a0_0 l0_1 l0_2 bt272.1 bt272.2.1 bt272.2.2)))))) = some r := H
      have A8 := Aside0.mk A80
      clear A80
      replace H := Option.bind_eq_some_iff.mp H
      obtain ⟨⟨t268, t271⟩, A90, H⟩ := H
      replace H : ((laws_toNetwork.f kj2 a0_0 l0_1 l0_2).bind fun bt272 => ((impl_TablesOf.f kj2 bt272.1 bt272.2.1 bt272.2.2).bind fun bt280 => ((laws_eqUint64S.f kj2 bt280.1 t268).bind fun t284 => (if t284 = true then (laws_FnExactTablesOf.j1 kj2 t268 t271 bt280.1 bt280.2 (bt280.2 != t271) a0_0 l0_1 l0_2 bt272.1 bt272.2.1 bt272.2.2) else (laws_FnExactTablesOf.j1 kj2 t268 t271 bt280.1 bt280.2 true a0_0 l0_1 l0_2 bt272.1 bt272.2.1 bt272.2.2))))) = some r := H
      have A9 := Aside0.mk A90
      clear A90
      replace H := Option.bind_eq_some_iff.mp H
      obtain ⟨⟨t272, t273, t276⟩, A100, H⟩ := H
      replace H : ((impl_TablesOf.f kj2 t272 t273 t276).bind fun bt280 => ((laws_eqUint64S.f kj2 bt280.1 t268).bind fun t284 => (if t284 = true then (laws_FnExactTablesOf.j1 kj2 t268 t271 bt280.1 bt280.2 (bt280.2 != t271) a0_0 l0_1 l0_2 t272 t273 t276) else (laws_FnExactTablesOf.j1 kj2 t268 t271 bt280.1 bt280.2 true a0_0 l0_1 l0_2 t272 t273 t276)))) = some r := H
      have A10 := Aside0.mk A100
      clear A100
      replace H := Option.bind_eq_some_iff.mp H
      obtain ⟨⟨t280, t283⟩, A110, H⟩ := H
      replace H : ((laws_eqUint64S.f kj2 t280 t268).bind fun t284 => (if t284 = true then (laws_FnExactTablesOf.j1 kj2 t268 t271 t280 t283 (t283 != t271) a0_0 l0_1 l0_2 t272 t273 t276) else (laws_FnExactTablesOf.j1 kj2 t268 t271 t280 t283 true a0_0 l0_1 l0_2 t272 t273 t276))) = some r := H
      have A11 := Aside0.mk A110
      clear A110
      have HC12 := Aside0.mk H
      clear H
      have hcz13_0 : wc.cell? ⟨gb259, 0, none⟩ = some (.int .i8 a0_0) := (blk_cell BK259.out 0).trans rfl
      have hcz13_1 : wc.cell? ⟨gb259, 1, none⟩ = some (.slice A0_1 l0_1.length c0_1) := (blk_cell BK259.out 1).trans rfl
      have hcz13_2 : wc.cell? ⟨gb259, 2, none⟩ = some (.slice A0_2 l0_2.length c0_2) := (blk_cell BK259.out 2).trans rfl
      have hfz13_0 := blk_frozen BK259.out 0
      have hfz13_1 := blk_frozen BK259.out 1
      have hfz13_2 := blk_frozen BK259.out 2
      go_upto_region 8 with (first | ((with_reducible refine gate_callee (f := 23) rfl ?_); refine goesL_ (some 21) rfl rfl Try.func23 (by kernel_rfl) rfl #[.agg #[.int .i8 a0_0, .slice A0_1 l0_1.length c0_1, .slice A0_2 l0_2.length c0_2]] rfl (by (try simp only [List.map_toArray, List.map_cons, List.map_nil]); first | done | rfl | (simp only [List.length_drop, List.length_take]; rfl)) ?_; (with_reducible refine (laws_toNetwork.calls kj2 a0_0 _ _ l0_1 _ _ l0_2 t261 t262 t265 _ ?side1 ?side2 ?side3 ?side4 A8.out).mono ?_); (case side1 => repeat (first | exact (Kd.C_below HR0_1.out HB.out) | (with_reducible refine Kd.C_alloc ?_ _) | (with_reducible refine Kd.C_drewN ?_ _) | (with_reducible refine Kd.C_drew ?_))); (case side2 => exact HC0_1.out); (case side3 => repeat (first | exact (Kd.C_below HR0_2.out HB.out) | (with_reducible refine Kd.C_alloc ?_ _) | (with_reducible refine Kd.C_drewN ?_ _) | (with_reducible refine Kd.C_drew ?_))); (case side4 => exact HC0_2.out); rintro e w14 ⟨v263, v266, rfl, ho0, ho1, hb⟩; refine ⟨_, rfl, ?_⟩; have n0_ := Aside0.mk (Kd.R_lower ho0 (below_size (by repeat (first | (with_reducible first | exact HB.out | apply below_alloc | apply pw_below_drewN | apply below_drew1 | refine below_set ?_ GE259.out) | exact HB.out)))); have n1_ := Aside0.mk (Kd.R_lower ho1 (below_size (by repeat (first | (with_reducible first | exact HB.out | apply below_alloc | apply pw_below_drewN | apply below_drew1 | refine below_set ?_ GE259.out) | exact HB.out)))); have n2_ := Aside0.mk (blk_below (g := gb259) (o := .cells #[.int .i8 a0_0, .slice A0_1 l0_1.length c0_1, .slice A0_2 l0_2.length c0_2] 26 (0, 0)) (by (with_reducible repeat (first | refine blk_drewN ?_ _ | refine blk_drew ?_ | refine blk_alloc ?_ _)); exact BK259.out) hb); have n3_ := Aside0.mk (below_step (by repeat (first | (with_reducible first | exact HB.out | apply below_alloc | apply pw_below_drewN | apply below_drew1 | refine below_set ?_ GE259.out) | exact HB.out)) hb); clear BK259; clear HB; have HO264 := n0_; have HO267 := n1_; have BK259 := n2_; have HB := n3_; clear n0_ n1_ n2_ n3_; (try clear hb); (try clear hb2); (try clear hk); (try clear hi); (try clear ho0); (try clear ho1); obtain ⟨Ao15, co15, eo15⟩ := Kd.R_slice HO264.out; subst eo15; obtain ⟨Ao16, co16, eo16⟩ := Kd.R_slice HO267.out; subst eo16) | ((with_reducible refine gate_callee (f := 45) rfl ?_); refine goesL_ (some 22) rfl rfl Try.func45 (by kernel_rfl) rfl #[.agg #[.int .i8 t261, .slice Ao15 t262.length co15, .slice Ao16 t265.length co16]] rfl (by (try simp only [List.map_toArray, List.map_cons, List.map_nil]); first | done | rfl | (simp only [List.length_drop, List.length_take]; rfl)) ?_; (with_reducible refine (spec_TablesOf.calls kj2 t261 _ _ t262 _ _ t265 t268 t271 _ ?side1 ?side2 ?side3 ?side4 A9.out).mono ?_); (case side1 => repeat (first | exact (Kd.R_reads' HO264.out).2.2 | (with_reducible refine Kd.C_alloc ?_ _) | (with_reducible refine Kd.C_drewN ?_ _) | (with_reducible refine Kd.C_drew ?_))); (case side2 => exact (Kd.R_reads' HO264.out).2.1); (case side3 => repeat (first | exact (Kd.R_reads' HO267.out).2.2 | (with_reducible refine Kd.C_alloc ?_ _) | (with_reducible refine Kd.C_drewN ?_ _) | (with_reducible refine Kd.C_drew ?_))); (case side4 => exact (Kd.R_reads' HO267.out).2.1); rintro e w17 ⟨v269, rfl, ho0, hb⟩; refine ⟨_, rfl, ?_⟩; have n0_ := Aside0.mk (Kd.R_below (by (with_reducible repeat (first | apply Kd.R_alloc | apply Kd.R_drewN | apply Kd.R_drew)); exact HO264.out) hb); have n1_ := Aside0.mk (Kd.R_below (by (with_reducible repeat (first | apply Kd.R_alloc | apply Kd.R_drewN | apply Kd.R_drew)); exact HO267.out) hb); have n2_ := Aside0.mk (Kd.R_lower ho0 (below_size (by repeat (first | (with_reducible first | exact HB.out | apply below_alloc | apply pw_below_drewN | apply below_drew1 | refine below_set ?_ GE259.out) | exact HB.out)))); have n3_ := Aside0.mk (blk_below (g := gb259) (o := .cells #[.int .i8 a0_0, .slice A0_1 l0_1.length c0_1, .slice A0_2 l0_2.length c0_2] 26 (0, 0)) (by (with_reducible repeat (first | refine blk_drewN ?_ _ | refine blk_drew ?_ | refine blk_alloc ?_ _)); exact BK259.out) hb); have n4_ := Aside0.mk (below_step (by repeat (first | (with_reducible first | exact HB.out | apply below_alloc | apply pw_below_drewN | apply below_drew1 | refine below_set ?_ GE259.out) | exact HB.out)) hb); clear HO264; clear HO267; clear BK259; clear HB; have HO264 := n0_; have HO267 := n1_; have HO270 := n2_; have BK259 := n3_; have HB := n4_; clear n0_ n1_ n2_ n3_ n4_; (try clear hb); (try clear hb2); (try clear hk); (try clear hi); (try clear ho0); have hcz18_0 : w17.cell? ⟨gb259, 0, none⟩ = some (.int .i8 a0_0) := (blk_cell BK259.out 0).trans rfl; have hcz18_1 : w17.cell? ⟨gb259, 1, none⟩ = some (.slice A0_1 l0_1.length c0_1) := (blk_cell BK259.out 1).trans rfl; have hcz18_2 : w17.cell? ⟨gb259, 2, none⟩ = some (.slice A0_2 l0_2.length c0_2) := (blk_cell BK259.out 2).trans rfl; have hfz18_0 := blk_frozen BK259.out 0; have hfz18_1 := blk_frozen BK259.out 1; have hfz18_2 := blk_frozen BK259.out 2) | ((with_reducible refine gate_callee (f := 23) rfl ?_); refine goesL_ (some 26) rfl rfl Try.func23 (by kernel_rfl) rfl #[.agg #[.int .i8 a0_0, .slice A0_1 l0_1.length c0_1, .slice A0_2 l0_2.length c0_2]] rfl (by (try simp only [List.map_toArray, List.map_cons, List.map_nil]); first | done | rfl | (simp only [List.length_drop, List.length_take]; rfl)) ?_; (with_reducible refine (laws_toNetwork.calls kj2 a0_0 _ _ l0_1 _ _ l0_2 t272 t273 t276 _ ?side1 ?side2 ?side3 ?side4 A10.out).mono ?_); (case side1 => repeat (first | exact (Kd.C_below HR0_1.out HB.out) | (with_reducible refine Kd.C_alloc ?_ _) | (with_reducible refine Kd.C_drewN ?_ _) | (with_reducible refine Kd.C_drew ?_))); (case side2 => exact HC0_1.out); (case side3 => repeat (first | exact (Kd.C_below HR0_2.out HB.out) | (with_reducible refine Kd.C_alloc ?_ _) | (with_reducible refine Kd.C_drewN ?_ _) | (with_reducible refine Kd.C_drew ?_))); (case side4 => exact HC0_2.out); rintro e w19 ⟨v274, v277, rfl, ho0, ho1, hb⟩; refine ⟨_, rfl, ?_⟩; have n0_ := Aside0.mk (Kd.R_elder' (by (with_reducible repeat (first | apply Kd.R_alloc | apply Kd.R_drewN | apply Kd.R_drew)); exact HO264.out) (Kd.R_base ho0) hb); have n1_ := Aside0.mk (Kd.R_elder' (by (with_reducible repeat (first | apply Kd.R_alloc | apply Kd.R_drewN | apply Kd.R_drew)); exact HO267.out) (Kd.R_base ho1) hb); have n2_ := Aside0.mk (Kd.R_below (by (with_reducible repeat (first | apply Kd.R_alloc | apply Kd.R_drewN | apply Kd.R_drew)); exact HO270.out) hb); have n3_ := Aside0.mk (Kd.R_lower (Kd.R_new' ho0 (Kd.R_lt (by (with_reducible repeat (first | apply Kd.R_alloc | apply Kd.R_drewN | apply Kd.R_drew)); exact HO264.out))) (below_size (by repeat (first | (with_reducible first | exact HB.out | apply below_alloc | apply pw_below_drewN | apply below_drew1 | refine below_set ?_ GE259.out) | exact HB.out)))); have n4_ := Aside0.mk (Kd.R_lower (Kd.R_new' ho1 (Kd.R_lt (by (with_reducible repeat (first | apply Kd.R_alloc | apply Kd.R_drewN | apply Kd.R_drew)); exact HO267.out))) (below_size (by repeat (first | (with_reducible first | exact HB.out | apply below_alloc | apply pw_below_drewN | apply below_drew1 | refine below_set ?_ GE259.out) | exact HB.out)))); have n5_ := Aside0.mk (blk_below (g := gb259) (o := .cells #[.int .i8 a0_0, .slice A0_1 l0_1.length c0_1, .slice A0_2 l0_2.length c0_2] 26 (0, 0)) (by (with_reducible repeat (first | refine blk_drewN ?_ _ | refine blk_drew ?_ | refine blk_alloc ?_ _)); exact BK259.out) hb); have n6_ := Aside0.mk (below_step (by repeat (first | (with_reducible first | exact HB.out | apply below_alloc | apply pw_below_drewN | apply below_drew1 | refine below_set ?_ GE259.out) | exact HB.out)) hb); clear HO264; clear HO267; clear HO270; clear BK259; clear HB; have HO264 := n0_; have HO267 := n1_; have HO270 := n2_; have HO275 := n3_; have HO278 := n4_; have BK259 := n5_; have HB := n6_; clear n0_ n1_ n2_ n3_ n4_ n5_ n6_; (try clear hb); (try clear hb2); (try clear hk); (try clear hi); (try clear ho0); (try clear ho1)) | ((with_reducible refine gate_dst (N := 6) rfl ?_); refine box_event ?hg (N := 6) ?hd (cs := #[.int .i8 0, .slice none 0 0, .slice none 0 0]) (t := 31) ?hr ?_; (case hd => rfl); (case hg => rfl); (case hr => first | (go_simp; done) | (go_simp; rfl)); intro gb279 hg w20 hbox hb; have n0_ := Aside0.mk (Kd.R_below (by (with_reducible repeat (first | apply Kd.R_alloc | apply Kd.R_drewN | apply Kd.R_drew)); exact HO264.out) hb); have n1_ := Aside0.mk (Kd.R_below (by (with_reducible repeat (first | apply Kd.R_alloc | apply Kd.R_drewN | apply Kd.R_drew)); exact HO267.out) hb); have n2_ := Aside0.mk (Kd.R_below (by (with_reducible repeat (first | apply Kd.R_alloc | apply Kd.R_drewN | apply Kd.R_drew)); exact HO270.out) hb); have n3_ := Aside0.mk (Kd.R_below (by (with_reducible repeat (first | apply Kd.R_alloc | apply Kd.R_drewN | apply Kd.R_drew)); exact HO275.out) hb); have n4_ := Aside0.mk (Kd.R_below (by (with_reducible repeat (first | apply Kd.R_alloc | apply Kd.R_drewN | apply Kd.R_drew)); exact HO278.out) hb); have n5_ := Aside0.mk (blk_below (g := gb259) (o := .cells #[.int .i8 a0_0, .slice A0_1 l0_1.length c0_1, .slice A0_2 l0_2.length c0_2] 26 (0, 0)) (by (with_reducible repeat (first | refine blk_drewN ?_ _ | refine blk_drew ?_ | refine blk_alloc ?_ _)); exact BK259.out) hb); have n6_ := Aside0.mk (below_step (by repeat (first | (with_reducible first | exact HB.out | apply below_alloc | apply pw_below_drewN | apply below_drew1 | refine below_set ?_ GE259.out) | exact HB.out)) hb); have n7_ := Aside0.mk (hbox); have n8_ := Aside0.mk ((by rw [hg]; exact (below_size (by repeat (first | (with_reducible first | exact HB.out | apply below_alloc | apply pw_below_drewN | apply below_drew1 | refine below_set ?_ GE259.out) | exact HB.out))) : w.heap.size ≤ gb279)); have n9_ := Aside0.mk ((by rw [hg]; exact (below_size (by repeat (first | (with_reducible first | exact HB.out | apply below_alloc | apply pw_below_drewN | apply below_drew1 | refine below_set ?_ GE259.out) | exact HB.out))) : w.heap.size ≤ gb279)); have n10_ := Aside0.mk ((by rw [hg]; exact Nat.ne_of_lt (blk_lt (g := gb259) (o := .cells #[.int .i8 a0_0, .slice A0_1 l0_1.length c0_1, .slice A0_2 l0_2.length c0_2] 26 (0, 0)) (by (with_reducible repeat (first | refine blk_drewN ?_ _ | refine blk_drew ?_ | refine blk_alloc ?_ _)); exact BK259.out)) : gb259 ≠ gb279)); have n11_ := Aside0.mk ((by rw [hg]; exact Nat.ne_of_gt (blk_lt (g := gb259) (o := .cells #[.int .i8 a0_0, .slice A0_1 l0_1.length c0_1, .slice A0_2 l0_2.length c0_2] 26 (0, 0)) (by (with_reducible repeat (first | refine blk_drewN ?_ _ | refine blk_drew ?_ | refine blk_alloc ?_ _)); exact BK259.out)) : gb279 ≠ gb259)); clear HO264; clear HO267; clear HO270; clear HO275; clear HO278; clear BK259; clear HB; have HO264 := n0_; have HO267 := n1_; have HO270 := n2_; have HO275 := n3_; have HO278 := n4_; have BK259 := n5_; have HB := n6_; have BK279 := n7_; have GW279 := n8_; have GE279 := n9_; have NB259_279 := n10_; have NB279_259 := n11_; clear n0_ n1_ n2_ n3_ n4_ n5_ n6_ n7_ n8_ n9_ n10_ n11_; clear hb hbox hg; have hnb21 := NB279_259.out; have hnc21 := NB259_279.out; have hcz22_0 : w20.cell? ⟨gb279, 0, none⟩ = some (.int .i8 0) := (blk_cell BK279.out 0).trans rfl; have hcz22_1 : w20.cell? ⟨gb279, 1, none⟩ = some (.slice none 0 0) := (blk_cell BK279.out 1).trans rfl; have hcz22_2 : w20.cell? ⟨gb279, 2, none⟩ = some (.slice none 0 0) := (blk_cell BK279.out 2).trans rfl; have hfz22_0 := blk_frozen BK279.out 0; have hfz22_1 := blk_frozen BK279.out 1; have hfz22_2 := blk_frozen BK279.out 2; obtain ⟨Ao23, co23, eo23⟩ := Kd.R_slice HO275.out; subst eo23; obtain ⟨Ao24, co24, eo24⟩ := Kd.R_slice HO278.out; subst eo24) | ((with_reducible refine gate_callee (f := 46) rfl ?_); refine goesL_ (some 29) rfl rfl Try.func46 (by kernel_rfl) rfl #[.agg #[.int .i8 t272, .slice Ao23 t273.length co23, .slice Ao24 t276.length co24]] rfl (by (try simp only [List.map_toArray, List.map_cons, List.map_nil]); first | done | rfl | (simp only [List.length_drop, List.length_take]; rfl)) ?_; (with_reducible refine (impl_TablesOf.calls kj2 t272 _ _ t273 _ _ t276 t280 t283 _ ?side1 ?side2 ?side3 ?side4 A11.out).mono ?_); (case side1 => refine (Kd.R_reads' (e := 81) (base := w.heap.size) (ok := fun k_ => (True ∧ some k_ ≠ (.slice Ao15 t262.length co15 : Value).ownBlock)) (n := t273.length) (c := co23) ?_).2.2; exact (by (with_reducible repeat (first | apply Kd.R_alloc | apply Kd.R_drewN | apply Kd.R_drew)); exact (Kd.R_mono (Kd.R_far (p := ⟨gb279, 2, none⟩) (Kd.R_far (p := ⟨gb279, 1, none⟩) (Kd.R_far (p := ⟨gb279, 0, none⟩) (Kd.R_types HO275.out BK279.out (by decide)) (fun _ hk => hk.2) (.int .i8 t272)) (fun _ hk => hk.2) (.slice Ao23 t273.length co23)) (fun _ hk => hk.2) (.slice Ao24 t276.length co24)) (fun _ h_ => h_.1)))); (case side2 => exact (Kd.R_reads' HO275.out).2.1); (case side3 => refine (Kd.R_reads' (e := 79) (base := w.heap.size) (ok := fun k_ => (True ∧ some k_ ≠ (.slice Ao16 t265.length co16 : Value).ownBlock)) (n := t276.length) (c := co24) ?_).2.2; exact (by (with_reducible repeat (first | apply Kd.R_alloc | apply Kd.R_drewN | apply Kd.R_drew)); exact (Kd.R_mono (Kd.R_far (p := ⟨gb279, 2, none⟩) (Kd.R_far (p := ⟨gb279, 1, none⟩) (Kd.R_far (p := ⟨gb279, 0, none⟩) (Kd.R_types HO278.out BK279.out (by decide)) (fun _ hk => hk.2) (.int .i8 t272)) (fun _ hk => hk.2) (.slice Ao23 t273.length co23)) (fun _ hk => hk.2) (.slice Ao24 t276.length co24)) (fun _ h_ => h_.1)))); (case side4 => exact (Kd.R_reads' HO278.out).2.1); rintro e w25 ⟨v281, rfl, ho0, hb⟩; refine ⟨_, rfl, ?_⟩; have n0_ := Aside0.mk (Kd.R_below (by (with_reducible repeat (first | apply Kd.R_alloc | apply Kd.R_drewN | apply Kd.R_drew)); exact (Kd.R_mono (Kd.R_far (p := ⟨gb279, 2, none⟩) (Kd.R_far (p := ⟨gb279, 1, none⟩) (Kd.R_far (p := ⟨gb279, 0, none⟩) (Kd.R_types HO264.out BK279.out (by decide)) (fun _ hk => hk.2) (.int .i8 t272)) (fun _ hk => hk.2) (.slice Ao23 t273.length co23)) (fun _ hk => hk.2) (.slice Ao24 t276.length co24)) (fun _ h_ => h_.1))) hb); have n1_ := Aside0.mk (Kd.R_below (by (with_reducible repeat (first | apply Kd.R_alloc | apply Kd.R_drewN | apply Kd.R_drew)); exact (Kd.R_mono (Kd.R_far (p := ⟨gb279, 2, none⟩) (Kd.R_far (p := ⟨gb279, 1, none⟩) (Kd.R_far (p := ⟨gb279, 0, none⟩) (Kd.R_types HO267.out BK279.out (by decide)) (fun _ hk => hk.2) (.int .i8 t272)) (fun _ hk => hk.2) (.slice Ao23 t273.length co23)) (fun _ hk => hk.2) (.slice Ao24 t276.length co24)) (fun _ h_ => h_.1))) hb); have n2_ := Aside0.mk (Kd.R_elder' (by (with_reducible repeat (first | apply Kd.R_alloc | apply Kd.R_drewN | apply Kd.R_drew)); exact (Kd.R_mono (Kd.R_far (p := ⟨gb279, 2, none⟩) (Kd.R_far (p := ⟨gb279, 1, none⟩) (Kd.R_far (p := ⟨gb279, 0, none⟩) (Kd.R_types HO270.out BK279.out (by decide)) (fun _ hk => hk.2) (.int .i8 t272)) (fun _ hk => hk.2) (.slice Ao23 t273.length co23)) (fun _ hk => hk.2) (.slice Ao24 t276.length co24)) (fun _ h_ => h_.1))) (Kd.R_base ho0) hb); have n3_ := Aside0.mk (Kd.R_below (by (with_reducible repeat (first | apply Kd.R_alloc | apply Kd.R_drewN | apply Kd.R_drew)); exact (Kd.R_mono (Kd.R_far (p := ⟨gb279, 2, none⟩) (Kd.R_far (p := ⟨gb279, 1, none⟩) (Kd.R_far (p := ⟨gb279, 0, none⟩) (Kd.R_types HO275.out BK279.out (by decide)) (fun _ hk => hk.2) (.int .i8 t272)) (fun _ hk => hk.2) (.slice Ao23 t273.length co23)) (fun _ hk => hk.2) (.slice Ao24 t276.length co24)) (fun _ h_ => h_.1))) hb); have n4_ := Aside0.mk (Kd.R_below (by (with_reducible repeat (first | apply Kd.R_alloc | apply Kd.R_drewN | apply Kd.R_drew)); exact (Kd.R_mono (Kd.R_far (p := ⟨gb279, 2, none⟩) (Kd.R_far (p := ⟨gb279, 1, none⟩) (Kd.R_far (p := ⟨gb279, 0, none⟩) (Kd.R_types HO278.out BK279.out (by decide)) (fun _ hk => hk.2) (.int .i8 t272)) (fun _ hk => hk.2) (.slice Ao23 t273.length co23)) (fun _ hk => hk.2) (.slice Ao24 t276.length co24)) (fun _ h_ => h_.1))) hb); have n5_ := Aside0.mk (Kd.R_lower (Kd.R_new' ho0 (Kd.R_lt (by (with_reducible repeat (first | apply Kd.R_alloc | apply Kd.R_drewN | apply Kd.R_drew)); exact (Kd.R_mono (Kd.R_far (p := ⟨gb279, 2, none⟩) (Kd.R_far (p := ⟨gb279, 1, none⟩) (Kd.R_far (p := ⟨gb279, 0, none⟩) (Kd.R_types HO270.out BK279.out (by decide)) (fun _ hk => hk.2) (.int .i8 t272)) (fun _ hk => hk.2) (.slice Ao23 t273.length co23)) (fun _ hk => hk.2) (.slice Ao24 t276.length co24)) (fun _ h_ => h_.1))))) (below_size (by repeat (first | (with_reducible first | exact HB.out | apply below_alloc | apply pw_below_drewN | apply below_drew1 | refine below_set ?_ GE259.out | refine below_set ?_ GE279.out) | exact HB.out)))); have n6_ := Aside0.mk (blk_below (g := gb259) (o := .cells #[.int .i8 a0_0, .slice A0_1 l0_1.length c0_1, .slice A0_2 l0_2.length c0_2] 26 (0, 0)) (by (with_reducible repeat (first | refine blk_drewN ?_ _ | refine blk_drew ?_ | refine blk_alloc ?_ _)); refine blk_far ?_ NB259_279.out _; (with_reducible repeat (first | refine blk_drewN ?_ _ | refine blk_drew ?_ | refine blk_alloc ?_ _)); refine blk_far ?_ NB259_279.out _; (with_reducible repeat (first | refine blk_drewN ?_ _ | refine blk_drew ?_ | refine blk_alloc ?_ _)); refine blk_far ?_ NB259_279.out _; (with_reducible repeat (first | refine blk_drewN ?_ _ | refine blk_drew ?_ | refine blk_alloc ?_ _)); exact BK259.out) hb); have n7_ := Aside0.mk (blk_below (g := gb279) (o := .cells #[.int .i8 t272, .slice Ao23 t273.length co23, .slice Ao24 t276.length co24] 31 (0, 0)) (by (with_reducible repeat (first | refine blk_drewN ?_ _ | refine blk_drew ?_ | refine blk_alloc ?_ _)); refine blk_put (cs := #[.int .i8 t272, .slice Ao23 t273.length co23, .slice none 0 0]) ?_ 2 _ rfl; (with_reducible repeat (first | refine blk_drewN ?_ _ | refine blk_drew ?_ | refine blk_alloc ?_ _)); refine blk_put (cs := #[.int .i8 t272, .slice none 0 0, .slice none 0 0]) ?_ 1 _ rfl; (with_reducible repeat (first | refine blk_drewN ?_ _ | refine blk_drew ?_ | refine blk_alloc ?_ _)); refine blk_put (cs := #[.int .i8 0, .slice none 0 0, .slice none 0 0]) ?_ 0 _ rfl; (with_reducible repeat (first | refine blk_drewN ?_ _ | refine blk_drew ?_ | refine blk_alloc ?_ _)); exact BK279.out) hb); have n8_ := Aside0.mk (below_step (by repeat (first | (with_reducible first | exact HB.out | apply below_alloc | apply pw_below_drewN | apply below_drew1 | refine below_set ?_ GE259.out | refine below_set ?_ GE279.out) | exact HB.out)) hb); clear HO264; clear HO267; clear HO270; clear HO275; clear HO278; clear BK259; clear BK279; clear HB; have HO264 := n0_; have HO267 := n1_; have HO270 := n2_; have HO275 := n3_; have HO278 := n4_; have HO282 := n5_; have BK259 := n6_; have BK279 := n7_; have HB := n8_; clear n0_ n1_ n2_ n3_ n4_ n5_ n6_ n7_ n8_; (try clear hb); (try clear hb2); (try clear hk); (try clear hi); (try clear ho0)))
      (try simp only [Act.put, List.setIfInBounds_toArray, List.set_cons_zero, List.set_cons_succ])
      go_cut [40] (fun v40 wc => ∃ (kq : Nat) (x40_11 : Bool), v40 = .bool x40_11 ∧ Aside0 (laws_FnExactTablesOf.j1 kq t268 t271 t280 t283 x40_11 a0_0 l0_1 l0_2 t272 t273 t276 = some r) ∧ Aside0 (kq ≤ kj2) ∧ Aside0 (Kd.R (Kd.int .u64) 98 wc w.heap.size (fun k_ => some k_ ≠ (v281 : Value).ownBlock) v269 t268) ∧ Aside0 (Kd.R (Kd.int .u64) 98 wc w.heap.size (fun k_ => some k_ ≠ (v269 : Value).ownBlock) v281 t280) ∧ Aside0 (Kd.R k81 81 wc w.heap.size (fun _ => True) (.slice Ao23 t273.length co23) t273) ∧ Aside0 (Kd.R (Kd.int .i16) 79 wc w.heap.size (fun _ => True) (.slice Ao24 t276.length co24) t276) ∧ Aside0 (wc.heap[gb259]? = some (.cells #[.int .i8 a0_0, (.slice A0_1 l0_1.length c0_1), (.slice A0_2 l0_2.length c0_2)] 26 (0, 0))) ∧ Aside0 (wc.heap[gb279]? = some (.cells #[.int .i8 t272, (.slice Ao23 t273.length co23), (.slice Ao24 t276.length co24)] 31 (0, 0))) ∧ Aside0 (Below w.heap.size w wc))
      case first =>
        have H := HC12.out
        clear HC12
        replace H := Option.bind_eq_some_iff.mp H
        obtain ⟨t284, A260, H⟩ := H
        replace H : (if t284 = true then (laws_FnExactTablesOf.j1 kj2 t268 t271 t280 t283 (t283 != t271) a0_0 l0_1 l0_2 t272 t273 t276) else (laws_FnExactTablesOf.j1 kj2 t268 t271 t280 t283 true a0_0 l0_1 l0_2 t272 t273 t276)) = some r := H
        have A26 := Aside0.mk A260
        clear A260
        by_cases c27 : t284 = true
        · subst c27
          have H1 : (laws_FnExactTablesOf.j1 kj2 t268 t271 t280 t283 (t283 != t271) a0_0 l0_1 l0_2 t272 t273 t276) = some r := by rw [if_pos rfl] at H; exact H
          clear H
          have H := H1
          clear H1
          have H' := Aside0.mk H
          clear H
          obtain ⟨Ao28, co28, eo28⟩ := Kd.R_slice HO282.out
          subst eo28
          obtain ⟨Ao29, co29, eo29⟩ := Kd.R_slice HO270.out
          subst eo29
          go_wp2_with (first | ((with_reducible refine gate_callee (f := 47) rfl ?_); refine goesL_ (some 34) rfl rfl Try.func47 (by kernel_rfl) rfl #[.slice Ao28 t280.length co28, .slice Ao29 t268.length co29] rfl (by (try simp only [List.map_toArray, List.map_cons, List.map_nil]); first | done | rfl | (simp only [List.length_drop, List.length_take]; rfl)) ?_; (with_reducible refine (laws_eqUint64S.calls kj2 _ _ t280 _ _ t268 true _ ?side1 ?side2 ?side3 ?side4 A26.out).mono ?_); (case side1 => repeat (first | exact (Kd.R_reads' HO282.out).2.2 | (with_reducible refine Kd.C_alloc ?_ _) | (with_reducible refine Kd.C_drewN ?_ _) | (with_reducible refine Kd.C_drew ?_))); (case side2 => exact (Kd.R_reads' HO282.out).2.1); (case side3 => repeat (first | exact (Kd.R_reads' HO270.out).2.2 | (with_reducible refine Kd.C_alloc ?_ _) | (with_reducible refine Kd.C_drewN ?_ _) | (with_reducible refine Kd.C_drew ?_))); (case side4 => exact (Kd.R_reads' HO270.out).2.1); rintro e w' ⟨rfl, ⟨nd, rfl⟩⟩; refine ⟨_, rfl, ?_⟩))
          go_meet
          case rel => exact ⟨_, ((t283 != t271)), (by first | rfl | (simp; done) | (simp [*]; done) | (exact congrArg (Value.int .i64) (wrap_eq (by omega)))), H', ⟨by have := HJ2.out; first | omega | exact Nat.le_refl _⟩, ⟨by (with_reducible repeat (first | apply Kd.R_alloc | apply Kd.R_drewN | apply Kd.R_drew)); exact Kd.R_mono HO270.out (fun _ hk => hk.2)⟩, ⟨by (with_reducible repeat (first | apply Kd.R_alloc | apply Kd.R_drewN | apply Kd.R_drew)); exact Kd.R_mono HO282.out (fun _ hk => hk.2)⟩, ⟨by (with_reducible repeat (first | apply Kd.R_alloc | apply Kd.R_drewN | apply Kd.R_drew)); exact Kd.R_mono HO275.out (fun _ hk => trivial)⟩, ⟨by (with_reducible repeat (first | apply Kd.R_alloc | apply Kd.R_drewN | apply Kd.R_drew)); exact Kd.R_mono HO278.out (fun _ hk => trivial)⟩, ⟨by (with_reducible repeat (first | refine blk_drewN ?_ _ | refine blk_drew ?_ | refine blk_alloc ?_ _)); exact BK259.out⟩, ⟨by (with_reducible repeat (first | refine blk_drewN ?_ _ | refine blk_drew ?_ | refine blk_alloc ?_ _)); exact BK279.out⟩, ⟨by repeat (first | (with_reducible first | exact HB.out | apply below_alloc | apply pw_below_drewN | apply below_drew1 | refine below_set ?_ GE259.out | refine below_set ?_ GE279.out) | exact HB.out)⟩⟩
        · replace c27 := Bool.eq_false_iff.mpr c27
          subst c27
          have H1 : (laws_FnExactTablesOf.j1 kj2 t268 t271 t280 t283 true a0_0 l0_1 l0_2 t272 t273 t276) = some r := by rw [if_neg (show ¬ (false = true) by decide)] at H; exact H
          clear H
          have H := H1
          clear H1
          have H' := Aside0.mk H
          clear H
          obtain ⟨Ao30, co30, eo30⟩ := Kd.R_slice HO282.out
          subst eo30
          obtain ⟨Ao31, co31, eo31⟩ := Kd.R_slice HO270.out
          subst eo31
          go_wp2_with (first | ((with_reducible refine gate_callee (f := 47) rfl ?_); refine goesL_ (some 34) rfl rfl Try.func47 (by kernel_rfl) rfl #[.slice Ao30 t280.length co30, .slice Ao31 t268.length co31] rfl (by (try simp only [List.map_toArray, List.map_cons, List.map_nil]); first | done | rfl | (simp only [List.length_drop, List.length_take]; rfl)) ?_; (with_reducible refine (laws_eqUint64S.calls kj2 _ _ t280 _ _ t268 false _ ?side1 ?side2 ?side3 ?side4 A26.out).mono ?_); (case side1 => repeat (first | exact (Kd.R_reads' HO282.out).2.2 | (with_reducible refine Kd.C_alloc ?_ _) | (with_reducible refine Kd.C_drewN ?_ _) | (with_reducible refine Kd.C_drew ?_))); (case side2 => exact (Kd.R_reads' HO282.out).2.1); (case side3 => repeat (first | exact (Kd.R_reads' HO270.out).2.2 | (with_reducible refine Kd.C_alloc ?_ _) | (with_reducible refine Kd.C_drewN ?_ _) | (with_reducible refine Kd.C_drew ?_))); (case side4 => exact (Kd.R_reads' HO270.out).2.1); rintro e w' ⟨rfl, ⟨nd, rfl⟩⟩; refine ⟨_, rfl, ?_⟩))
          go_meet
          case rel => exact ⟨_, (true), (by first | rfl | (simp; done) | (simp [*]; done) | (exact congrArg (Value.int .i64) (wrap_eq (by omega)))), H', ⟨by have := HJ2.out; first | omega | exact Nat.le_refl _⟩, ⟨by (with_reducible repeat (first | apply Kd.R_alloc | apply Kd.R_drewN | apply Kd.R_drew)); exact Kd.R_mono HO270.out (fun _ hk => hk.2)⟩, ⟨by (with_reducible repeat (first | apply Kd.R_alloc | apply Kd.R_drewN | apply Kd.R_drew)); exact Kd.R_mono HO282.out (fun _ hk => hk.2)⟩, ⟨by (with_reducible repeat (first | apply Kd.R_alloc | apply Kd.R_drewN | apply Kd.R_drew)); exact Kd.R_mono HO275.out (fun _ hk => trivial)⟩, ⟨by (with_reducible repeat (first | apply Kd.R_alloc | apply Kd.R_drewN | apply Kd.R_drew)); exact Kd.R_mono HO278.out (fun _ hk => trivial)⟩, ⟨by (with_reducible repeat (first | refine blk_drewN ?_ _ | refine blk_drew ?_ | refine blk_alloc ?_ _)); exact BK259.out⟩, ⟨by (with_reducible repeat (first | refine blk_drewN ?_ _ | refine blk_drew ?_ | refine blk_alloc ?_ _)); exact BK279.out⟩, ⟨by repeat (first | (with_reducible first | exact HB.out | apply below_alloc | apply pw_below_drewN | apply below_drew1 | refine below_set ?_ GE259.out | refine below_set ?_ GE279.out) | exact HB.out)⟩⟩
      case rest =>
        clear HC12
        try clear c1
        try clear c2
        try clear p2
        try clear c4
        try clear c7
        try clear c7b0
        try clear c12
        try clear c21
        try clear c23
        try clear c27
        try clear hcz13_0
        try clear hcz13_1
        try clear hcz13_2
        try clear hcz18_0
        try clear hcz18_1
        try clear hcz18_2
        try clear hcz22_0
        try clear hcz22_1
        try clear hcz22_2
        try clear hcz5_0
        try clear hcz5_1
        try clear hcz5_2
        try clear hfz13_0
        try clear hfz13_1
        try clear hfz13_2
        try clear hfz18_0
        try clear hfz18_1
        try clear hfz18_2
        try clear hfz22_0
        try clear hfz22_1
        try clear hfz22_2
        try clear hfz5_0
        try clear hfz5_1
        try clear hfz5_2
        try clear p2
        obtain ⟨kq, x40_11, rfl, HA, HJ11, HO_4, HO_7, HO_280001, HO_280002, BK259, BK279, HB⟩ := hcut
        cases kq with
        | zero => exact absurd HA.out (by simp [laws_FnExactTablesOf.j1])
        | succ kj11 =>
          have H := HA.out
          clear HA
          simp only [laws_FnExactTablesOf.j1] at H
          have HC32 := Aside0.mk H
          clear H
          go_upto_if 40 with (fail)
          go_cut [] (fun wc => ∃ (kq : Nat), Aside0 (laws_FnExactTablesOf.j2 kq t268 t271 t280 t283 a0_0 l0_1 l0_2 t272 t273 t276 = some r) ∧ Aside0 (kq ≤ kj11) ∧ Aside0 (Kd.R (Kd.int .u64) 98 wc w.heap.size (fun k_ => some k_ ≠ (v281 : Value).ownBlock) v269 t268) ∧ Aside0 (Kd.R (Kd.int .u64) 98 wc w.heap.size (fun k_ => some k_ ≠ (v269 : Value).ownBlock) v281 t280) ∧ Aside0 (Kd.R k81 81 wc w.heap.size (fun _ => True) (.slice Ao23 t273.length co23) t273) ∧ Aside0 (Kd.R (Kd.int .i16) 79 wc w.heap.size (fun _ => True) (.slice Ao24 t276.length co24) t276) ∧ Aside0 (wc.heap[gb259]? = some (.cells #[.int .i8 a0_0, (.slice A0_1 l0_1.length c0_1), (.slice A0_2 l0_2.length c0_2)] 26 (0, 0))) ∧ Aside0 (wc.heap[gb279]? = some (.cells #[.int .i8 t272, (.slice Ao23 t273.length co23), (.slice Ao24 t276.length co24)] 31 (0, 0))) ∧ Aside0 (Below w.heap.size w wc))
          case first =>
            have H := HC32.out
            clear HC32
            by_cases c33 : x40_11 = true
            · subst c33
              have H1 : (some false) = some r := by rw [if_pos rfl] at H; exact H
              clear H
              have H := H1
              clear H1
              obtain rfl := Option.some.inj H
              go_wp2
              go_ret
              exact ⟨by first | rfl | (simp [errW_none, errW_some] <;> rfl) | (simp [*, errW_none, errW_some] <;> rfl), by repeat (first | (with_reducible first | exact HB.out | apply below_alloc | apply pw_below_drewN | apply below_drew1 | refine below_set ?_ GE259.out | refine below_set ?_ GE279.out) | exact HB.out)⟩
            · replace c33 := Bool.eq_false_iff.mpr c33
              subst c33
              have H1 : (laws_FnExactTablesOf.j2 kj11 t268 t271 t280 t283 a0_0 l0_1 l0_2 t272 t273 t276) = some r := by rw [if_neg (show ¬ (false = true) by decide)] at H; exact H
              clear H
              have H := H1
              clear H1
              have H' := Aside0.mk H
              clear H
              go_wp2
              go_meet
              case rel => exact ⟨_, H', ⟨by have := HJ2.out; have := HJ11.out; first | omega | exact Nat.le_refl _⟩, ⟨by (with_reducible repeat (first | apply Kd.R_alloc | apply Kd.R_drewN | apply Kd.R_drew)); exact HO_4.out⟩, ⟨by (with_reducible repeat (first | apply Kd.R_alloc | apply Kd.R_drewN | apply Kd.R_drew)); exact HO_7.out⟩, ⟨by (with_reducible repeat (first | apply Kd.R_alloc | apply Kd.R_drewN | apply Kd.R_drew)); exact HO_280001.out⟩, ⟨by (with_reducible repeat (first | apply Kd.R_alloc | apply Kd.R_drewN | apply Kd.R_drew)); exact HO_280002.out⟩, ⟨by (with_reducible repeat (first | refine blk_drewN ?_ _ | refine blk_drew ?_ | refine blk_alloc ?_ _)); exact BK259.out⟩, ⟨by (with_reducible repeat (first | refine blk_drewN ?_ _ | refine blk_drew ?_ | refine blk_alloc ?_ _)); exact BK279.out⟩, ⟨by repeat (first | (with_reducible first | exact HB.out | apply below_alloc | apply pw_below_drewN | apply below_drew1 | refine below_set ?_ GE259.out | refine below_set ?_ GE279.out) | exact HB.out)⟩⟩
          case rest =>
            clear HC32
            try clear c1
            try clear c2
            try clear p2
            try clear c3
            try clear c4
            try clear c7
            try clear c7b0
            try clear c12
            try clear c21
            try clear c23
            try clear c27
            try clear c33
            try clear hcz13_0
            try clear hcz13_1
            try clear hcz13_2
            try clear hcz18_0
            try clear hcz18_1
            try clear hcz18_2
            try clear hcz22_0
            try clear hcz22_1
            try clear hcz22_2
            try clear hcz5_0
            try clear hcz5_1
            try clear hcz5_2
            try clear hfz13_0
            try clear hfz13_1
            try clear hfz13_2
            try clear hfz18_0
            try clear hfz18_1
            try clear hfz18_2
            try clear hfz22_0
            try clear hfz22_1
            try clear hfz22_2
            try clear hfz5_0
            try clear hfz5_1
            try clear hfz5_2
            try clear p2
            obtain ⟨kq, HA, HJ31, HO_4, HO_7, HO_280001, HO_280002, BK259, BK279, HB⟩ := hcut
            cases kq with
            | zero => exact absurd HA.out (by simp [laws_FnExactTablesOf.j2])
            | succ kj31 =>
              have H := HA.out
              clear HA
              simp only [laws_FnExactTablesOf.j2] at H
              replace H := Option.bind_eq_some_iff.mp H
              obtain ⟨⟨t285, t286, t289⟩, A340, H⟩ := H
              replace H : ((laws_eqNetwork.f kj31 t272 t273 t276 t285 t286 t289).bind fun t292 => (if t292 = true then (laws_FnExactTablesOf.j3 kj31 t268 t271 t280 t283 a0_0 l0_1 l0_2 t272 t273 t276) else (some false))) = some r := H
              have A34 := Aside0.mk A340
              clear A340
              replace H := Option.bind_eq_some_iff.mp H
              obtain ⟨t292, A350, H⟩ := H
              replace H : (if t292 = true then (laws_FnExactTablesOf.j3 kj31 t268 t271 t280 t283 a0_0 l0_1 l0_2 t272 t273 t276) else (some false)) = some r := H
              have A35 := Aside0.mk A350
              clear A350
              have HC36 := Aside0.mk H
              clear H
              try go_wp2
              have n0_ := Aside0.mk (Kd.R_drew HO_4.out)
              have n1_ := Aside0.mk (Kd.R_drew HO_7.out)
              have n2_ := Aside0.mk (Kd.R_drew HO_280001.out)
              have n3_ := Aside0.mk (Kd.R_drew HO_280002.out)
              have n4_ := Aside0.mk (blk_drew BK259.out)
              have n5_ := Aside0.mk (blk_drew BK279.out)
              have n6_ := Aside0.mk (below_drew1 HB.out)
              clear HO_4
              clear HO_7
              clear HO_280001
              clear HO_280002
              clear BK259
              clear BK279
              clear HB
              have HO_4 := n0_
              have HO_7 := n1_
              have HO_280001 := n2_
              have HO_280002 := n3_
              have BK259 := n4_
              have BK279 := n5_
              have HB := n6_
              clear n0_ n1_ n2_ n3_ n4_ n5_ n6_
              refine start_ (n := 5) (S := fun w' => w'.cell? ⟨gb279, 0, none⟩ = some (.int .i8 t272) ∧ w'.cell? ⟨gb279, 1, none⟩ = some (.slice Ao23 t273.length co23) ∧ w'.cell? ⟨gb279, 2, none⟩ = some (.slice Ao24 t276.length co24) ∧ w'.cell? ⟨gb259, 0, none⟩ = some (.int .i8 a0_0) ∧ w'.cell? ⟨gb259, 1, none⟩ = some (.slice A0_1 l0_1.length c0_1) ∧ w'.cell? ⟨gb259, 2, none⟩ = some (.slice A0_2 l0_2.length c0_2)) (ds := []) #[false, false, false, false, false] (by kernel_rfl) rfl rfl ⟨(blk_cell BK279.out 0).trans rfl, (blk_cell BK279.out 1).trans rfl, (blk_cell BK279.out 2).trans rfl, (blk_cell BK259.out 0).trans rfl, (blk_cell BK259.out 1).trans rfl, (blk_cell BK259.out 2).trans rfl⟩ (fun hHeld => ?_)
              generalize wc.drew = w37 at HO_4 HO_7 HO_280001 HO_280002 BK259 BK279 HB hHeld ⊢
              refine take_ (i := 0) (N := some 41) (v := ?_) (a' := ?_) #[true, false, false, false, false] rfl rfl (by kernel_rfl) (fun _ _ _ h => h) (Or.inl ⟨by rfl, ?_⟩) hHeld ?_ ?_
              rotate_left
              · rintro w' ⟨s0, s1, s2, s3, s4, s5⟩
                go_simp
                with_reducible rfl
              rotate_left
              · simp only [Act.put, List.setIfInBounds_toArray, List.set_cons_zero, List.set_cons_succ, i64_w, i32_w]
                rfl
              refine take_ (i := 1) (N := some 42) (v := ?_) (a' := ?_) #[true, true, false, false, false] rfl rfl (by kernel_rfl) (fun _ _ _ h => h) (Or.inl ⟨by rfl, ?_⟩) hHeld ?_ ?_
              rotate_left
              · rintro w' ⟨s0, s1, s2, s3, s4, s5⟩
                go_simp
                with_reducible rfl
              rotate_left
              · simp only [Act.put, List.setIfInBounds_toArray, List.set_cons_zero, List.set_cons_succ, i64_w, i32_w]
                rfl
              refine one_ (i := 2) (N := some 43) #[true, true, true, false, false] rfl rfl (by kernel_rfl) (by decide) (fun K hK => ?_)
              refine goes_ Try.func23 (by kernel_rfl) rfl #[.agg #[.int .i8 a0_0, .slice A0_1 l0_1.length c0_1, .slice A0_2 l0_2.length c0_2]] (by rfl) rfl rfl (by (try simp only [List.map_toArray, List.map_cons, List.map_nil]); first | done | rfl | (simp only [List.length_drop, List.length_take]; rfl)) ?_
              with_reducible refine (laws_toNetwork.calls kj31 a0_0 _ _ l0_1 _ _ l0_2 t285 t286 t289 _ ?side1 ?side2 ?side3 ?side4 A34.out).mono ?_
              (case side1 => repeat (first | exact (Kd.C_below HR0_1.out HB.out) | (with_reducible refine Kd.C_alloc ?_ _) | (with_reducible refine Kd.C_drewN ?_ _) | (with_reducible refine Kd.C_drew ?_)))
              (case side2 => exact HC0_1.out)
              (case side3 => repeat (first | exact (Kd.C_below HR0_2.out HB.out) | (with_reducible refine Kd.C_alloc ?_ _) | (with_reducible refine Kd.C_drewN ?_ _) | (with_reducible refine Kd.C_drew ?_)))
              (case side4 => exact HC0_2.out)
              rintro e w38 ⟨v287, v290, rfl, ho0, ho1, hb⟩
              refine ⟨_, rfl, ?_⟩
              have n0_ := Aside0.mk (Kd.R_below (by (with_reducible repeat (first | apply Kd.R_alloc | apply Kd.R_drewN | apply Kd.R_drew)); exact HO_4.out) hb)
              have n1_ := Aside0.mk (Kd.R_below (by (with_reducible repeat (first | apply Kd.R_alloc | apply Kd.R_drewN | apply Kd.R_drew)); exact HO_7.out) hb)
              have n2_ := Aside0.mk (Kd.R_elder' (by (with_reducible repeat (first | apply Kd.R_alloc | apply Kd.R_drewN | apply Kd.R_drew)); exact HO_280001.out) (Kd.R_base ho0) hb)
              have n3_ := Aside0.mk (Kd.R_elder' (by (with_reducible repeat (first | apply Kd.R_alloc | apply Kd.R_drewN | apply Kd.R_drew)); exact HO_280002.out) (Kd.R_base ho1) hb)
              have n4_ := Aside0.mk (Kd.R_lower (Kd.R_new' ho0 (Kd.R_lt (by (with_reducible repeat (first | apply Kd.R_alloc | apply Kd.R_drewN | apply Kd.R_drew)); exact HO_280001.out))) (below_size (by repeat (first | (with_reducible first | exact HB.out | apply below_alloc | apply pw_below_drewN | apply below_drew1 | refine below_set ?_ GE259.out | refine below_set ?_ GE279.out) | exact HB.out))))
              have n5_ := Aside0.mk (Kd.R_lower (Kd.R_new' ho1 (Kd.R_lt (by (with_reducible repeat (first | apply Kd.R_alloc | apply Kd.R_drewN | apply Kd.R_drew)); exact HO_280002.out))) (below_size (by repeat (first | (with_reducible first | exact HB.out | apply below_alloc | apply pw_below_drewN | apply below_drew1 | refine below_set ?_ GE259.out | refine below_set ?_ GE279.out) | exact HB.out))))
              have n6_ := Aside0.mk (blk_below (g := gb259) (o := .cells #[.int .i8 a0_0, .slice A0_1 l0_1.length c0_1, .slice A0_2 l0_2.length c0_2] 26 (0, 0)) (by (with_reducible repeat (first | refine blk_drewN ?_ _ | refine blk_drew ?_ | refine blk_alloc ?_ _)); exact BK259.out) hb)
              have n7_ := Aside0.mk (blk_below (g := gb279) (o := .cells #[.int .i8 t272, .slice Ao23 t273.length co23, .slice Ao24 t276.length co24] 31 (0, 0)) (by (with_reducible repeat (first | refine blk_drewN ?_ _ | refine blk_drew ?_ | refine blk_alloc ?_ _)); exact BK279.out) hb)
              have n8_ := Aside0.mk (below_step (by repeat (first | (with_reducible first | exact HB.out | apply below_alloc | apply pw_below_drewN | apply below_drew1 | refine below_set ?_ GE259.out | refine below_set ?_ GE279.out) | exact HB.out)) hb)
              clear HO_4
              clear HO_7
              clear HO_280001
              clear HO_280002
              clear BK259
              clear BK279
              clear HB
              have HO_4 := n0_
              have HO_7 := n1_
              have HO_280001 := n2_
              have HO_280002 := n3_
              have HO288 := n4_
              have HO291 := n5_
              have BK259 := n6_
              have BK279 := n7_
              have HB := n8_
              clear n0_ n1_ n2_ n3_ n4_ n5_ n6_ n7_ n8_
              (try clear hb)
              (try clear hb2)
              (try clear hk)
              (try clear hi)
              (try clear ho0)
              (try clear ho1)
              obtain ⟨Ao39, co39, eo39⟩ := Kd.R_slice HO288.out
              (first | subst eo39 | (injection eo39 with f1_ f2_ f3_; have f4_ := f1_.symm; have f5_ := f3_.symm; clear f1_ f2_ f3_; subst f4_; subst f5_))
              obtain ⟨Ao40, co40, eo40⟩ := Kd.R_slice HO291.out
              (first | subst eo40 | (injection eo40 with f1_ f2_ f3_; have f4_ := f1_.symm; have f5_ := f3_.symm; clear f1_ f2_ f3_; subst f4_; subst f5_))
              refine hK.out _ _ ⟨(blk_cell BK279.out 0).trans rfl, (blk_cell BK279.out 1).trans rfl, (blk_cell BK279.out 2).trans rfl, (blk_cell BK259.out 0).trans rfl, (blk_cell BK259.out 1).trans rfl, (blk_cell BK259.out 2).trans rfl⟩ (fun hHeld => ?_)
              clear hK K
              refine norm_ (a' := ?_) ?_ ?_
              rotate_left
              · show Act.put _ (some 43) _ = _
                simp only [Act.put, List.setIfInBounds_toArray, List.set_cons_zero, List.set_cons_succ, i64_w, i32_w]
                rfl
              refine one_ (i := 3) (N := some 44) #[true, true, true, true, false] rfl rfl (by kernel_rfl) (by decide) (fun K hK => ?_)
              refine goes_ Try.func25 (by kernel_rfl) rfl #[.agg #[.int .i8 t272, .slice Ao23 t273.length co23, .slice Ao24 t276.length co24], .agg #[.int .i8 t285, .slice Ao39 t286.length co39, .slice Ao40 t289.length co40]] (by rfl) rfl rfl (by (try simp only [List.map_toArray, List.map_cons, List.map_nil]); first | done | rfl | (simp only [List.length_drop, List.length_take]; rfl)) ?_
              with_reducible refine (laws_eqNetwork.calls kj31 t272 _ _ t273 _ _ t276 t285 _ _ t286 _ _ t289 t292 _ ?side1 ?side2 ?side3 ?side4 ?side5 ?side6 ?side7 ?side8 A35.out).mono ?_
              (case side1 => repeat (first | exact (Kd.R_reads' HO_280001.out).2.2 | (with_reducible refine Kd.C_alloc ?_ _) | (with_reducible refine Kd.C_drewN ?_ _) | (with_reducible refine Kd.C_drew ?_)))
              (case side2 => exact (Kd.R_reads' HO_280001.out).2.1)
              (case side3 => repeat (first | exact (Kd.R_reads' HO_280002.out).2.2 | (with_reducible refine Kd.C_alloc ?_ _) | (with_reducible refine Kd.C_drewN ?_ _) | (with_reducible refine Kd.C_drew ?_)))
              (case side4 => exact (Kd.R_reads' HO_280002.out).2.1)
              (case side5 => repeat (first | exact (Kd.R_reads' HO288.out).2.2 | (with_reducible refine Kd.C_alloc ?_ _) | (with_reducible refine Kd.C_drewN ?_ _) | (with_reducible refine Kd.C_drew ?_)))
              (case side6 => exact (Kd.R_reads' HO288.out).2.1)
              (case side7 => repeat (first | exact (Kd.R_reads' HO291.out).2.2 | (with_reducible refine Kd.C_alloc ?_ _) | (with_reducible refine Kd.C_drewN ?_ _) | (with_reducible refine Kd.C_drew ?_)))
              (case side8 => exact (Kd.R_reads' HO291.out).2.1)
              rintro e w41 ⟨rfl, hb⟩
              refine ⟨_, rfl, ?_⟩
              have n0_ := Aside0.mk (Kd.R_below (by (with_reducible repeat (first | apply Kd.R_alloc | apply Kd.R_drewN | apply Kd.R_drew)); exact HO_4.out) hb)
              have n1_ := Aside0.mk (Kd.R_below (by (with_reducible repeat (first | apply Kd.R_alloc | apply Kd.R_drewN | apply Kd.R_drew)); exact HO_7.out) hb)
              have n2_ := Aside0.mk (Kd.R_below (by (with_reducible repeat (first | apply Kd.R_alloc | apply Kd.R_drewN | apply Kd.R_drew)); exact HO_280001.out) hb)
              have n3_ := Aside0.mk (Kd.R_below (by (with_reducible repeat (first | apply Kd.R_alloc | apply Kd.R_drewN | apply Kd.R_drew)); exact HO_280002.out) hb)
              have n4_ := Aside0.mk (Kd.R_below (by (with_reducible repeat (first | apply Kd.R_alloc | apply Kd.R_drewN | apply Kd.R_drew)); exact HO288.out) hb)
              have n5_ := Aside0.mk (Kd.R_below (by (with_reducible repeat (first | apply Kd.R_alloc | apply Kd.R_drewN | apply Kd.R_drew)); exact HO291.out) hb)
              have n6_ := Aside0.mk (blk_below (g := gb259) (o := .cells #[.int .i8 a0_0, .slice A0_1 l0_1.length c0_1, .slice A0_2 l0_2.length c0_2] 26 (0, 0)) (by (with_reducible repeat (first | refine blk_drewN ?_ _ | refine blk_drew ?_ | refine blk_alloc ?_ _)); exact BK259.out) hb)
              have n7_ := Aside0.mk (blk_below (g := gb279) (o := .cells #[.int .i8 t272, .slice Ao23 t273.length co23, .slice Ao24 t276.length co24] 31 (0, 0)) (by (with_reducible repeat (first | refine blk_drewN ?_ _ | refine blk_drew ?_ | refine blk_alloc ?_ _)); exact BK279.out) hb)
              have n8_ := Aside0.mk (below_step (by repeat (first | (with_reducible first | exact HB.out | apply below_alloc | apply pw_below_drewN | apply below_drew1 | refine below_set ?_ GE259.out | refine below_set ?_ GE279.out) | exact HB.out)) hb)
              clear HO_4
              clear HO_7
              clear HO_280001
              clear HO_280002
              clear HO288
              clear HO291
              clear BK259
              clear BK279
              clear HB
              have HO_4 := n0_
              have HO_7 := n1_
              have HO_280001 := n2_
              have HO_280002 := n3_
              have HO288 := n4_
              have HO291 := n5_
              have BK259 := n6_
              have BK279 := n7_
              have HB := n8_
              clear n0_ n1_ n2_ n3_ n4_ n5_ n6_ n7_ n8_
              (try clear hb)
              (try clear hb2)
              (try clear hk)
              (try clear hi)
              refine hK.out _ _ ⟨(blk_cell BK279.out 0).trans rfl, (blk_cell BK279.out 1).trans rfl, (blk_cell BK279.out 2).trans rfl, (blk_cell BK259.out 0).trans rfl, (blk_cell BK259.out 1).trans rfl, (blk_cell BK259.out 2).trans rfl⟩ (fun hHeld => ?_)
              clear hK K
              refine norm_ (a' := ?_) ?_ ?_
              rotate_left
              · show Act.put _ (some 44) _ = _
                simp only [Act.put, List.setIfInBounds_toArray, List.set_cons_zero, List.set_cons_succ, i64_w, i32_w]
                rfl
              refine pure_ (i := 4) (N := some 45) (v := ?_) (a' := ?_) #[true, true, true, true, true] rfl rfl (by kernel_rfl) (fun _ _ _ h => h) (Or.inl ⟨by rfl, ?_⟩) ?_ ?_
              rotate_left
              · intro w'
                go_simp
                with_reducible rfl
              rotate_left
              · simp only [Act.put, List.setIfInBounds_toArray, List.set_cons_zero, List.set_cons_succ, i64_w, i32_w]
                rfl
              refine done_ (by kernel_rfl) ?_
              go_upto_if 45 with (fail)
              go_cut [] (fun wc => ∃ (kq : Nat), Aside0 (laws_FnExactTablesOf.j3 kq t268 t271 t280 t283 a0_0 l0_1 l0_2 t272 t273 t276 = some r) ∧ Aside0 (kq ≤ kj31) ∧ Aside0 (Kd.R (Kd.int .u64) 98 wc w.heap.size (fun k_ => some k_ ≠ (v281 : Value).ownBlock) v269 t268) ∧ Aside0 (Kd.R (Kd.int .u64) 98 wc w.heap.size (fun k_ => some k_ ≠ (v269 : Value).ownBlock) v281 t280) ∧ Aside0 (Kd.R k81 81 wc w.heap.size (fun _ => True) (.slice Ao23 t273.length co23) t273) ∧ Aside0 (Kd.R (Kd.int .i16) 79 wc w.heap.size (fun _ => True) (.slice Ao24 t276.length co24) t276) ∧ Aside0 (wc.heap[gb259]? = some (.cells #[.int .i8 a0_0, (.slice A0_1 l0_1.length c0_1), (.slice A0_2 l0_2.length c0_2)] 26 (0, 0))) ∧ Aside0 (wc.heap[gb279]? = some (.cells #[.int .i8 t272, (.slice Ao23 t273.length co23), (.slice Ao24 t276.length co24)] 31 (0, 0))) ∧ Aside0 (Below w.heap.size w wc))
              case first =>
                have H := HC36.out
                clear HC36
                by_cases c42 : t292 = true
                · subst c42
                  have H1 : (laws_FnExactTablesOf.j3 kj31 t268 t271 t280 t283 a0_0 l0_1 l0_2 t272 t273 t276) = some r := by rw [if_pos rfl] at H; exact H
                  clear H
                  have H := H1
                  clear H1
                  have H' := Aside0.mk H
                  clear H
                  go_wp2
                  go_meet
                  case rel => exact ⟨_, H', ⟨by have := HJ2.out; have := HJ11.out; have := HJ31.out; first | omega | exact Nat.le_refl _⟩, ⟨by (with_reducible repeat (first | apply Kd.R_alloc | apply Kd.R_drewN | apply Kd.R_drew)); exact HO_4.out⟩, ⟨by (with_reducible repeat (first | apply Kd.R_alloc | apply Kd.R_drewN | apply Kd.R_drew)); exact HO_7.out⟩, ⟨by (with_reducible repeat (first | apply Kd.R_alloc | apply Kd.R_drewN | apply Kd.R_drew)); exact Kd.R_mono HO_280001.out (fun _ hk => trivial)⟩, ⟨by (with_reducible repeat (first | apply Kd.R_alloc | apply Kd.R_drewN | apply Kd.R_drew)); exact Kd.R_mono HO_280002.out (fun _ hk => trivial)⟩, ⟨by (with_reducible repeat (first | refine blk_drewN ?_ _ | refine blk_drew ?_ | refine blk_alloc ?_ _)); exact BK259.out⟩, ⟨by (with_reducible repeat (first | refine blk_drewN ?_ _ | refine blk_drew ?_ | refine blk_alloc ?_ _)); exact BK279.out⟩, ⟨by repeat (first | (with_reducible first | exact HB.out | apply below_alloc | apply pw_below_drewN | apply below_drew1 | refine below_set ?_ GE259.out | refine below_set ?_ GE279.out) | exact HB.out)⟩⟩
                · replace c42 := Bool.eq_false_iff.mpr c42
                  subst c42
                  have H1 : (some false) = some r := by rw [if_neg (show ¬ (false = true) by decide)] at H; exact H
                  clear H
                  have H := H1
                  clear H1
                  obtain rfl := Option.some.inj H
                  go_wp2
                  go_ret
                  exact ⟨by first | rfl | (simp [errW_none, errW_some] <;> rfl) | (simp [*, errW_none, errW_some] <;> rfl), by repeat (first | (with_reducible first | exact HB.out | apply below_alloc | apply pw_below_drewN | apply below_drew1 | refine below_set ?_ GE259.out | refine below_set ?_ GE279.out) | exact HB.out)⟩
              case rest =>
                clear HC36
                try clear c1
                try clear c2
                try clear p2
                try clear c3
                try clear c4
                try clear c7
                try clear c7b0
                try clear c12
                try clear c21
                try clear c23
                try clear c25
                try clear c27
                try clear c33
                try clear c42
                try clear hcz13_0
                try clear hcz13_1
                try clear hcz13_2
                try clear hcz18_0
                try clear hcz18_1
                try clear hcz18_2
                try clear hcz22_0
                try clear hcz22_1
                try clear hcz22_2
                try clear hcz5_0
                try clear hcz5_1
                try clear hcz5_2
                try clear hfz13_0
                try clear hfz13_1
                try clear hfz13_2
                try clear hfz18_0
                try clear hfz18_1
                try clear hfz18_2
                try clear hfz22_0
                try clear hfz22_1
                try clear hfz22_2
                try clear hfz5_0
                try clear hfz5_1
                try clear hfz5_2
                try clear p2
                obtain ⟨kq, HA, HJ35, HO_4, HO_7, HO_280001, HO_280002, BK259, BK279, HB⟩ := hcut
                cases kq with
                | zero => exact absurd HA.out (by simp [laws_FnExactTablesOf.j3])
                | succ kj35 =>
                  have H := HA.out
                  clear HA
                  simp only [laws_FnExactTablesOf.j3] at H
                  replace H := Option.bind_eq_some_iff.mp H
                  obtain ⟨⟨t293, t294, t295⟩, A430, H⟩ := H
                  replace H : (if t293 < 0 then (laws_FnExactTablesOf.j4 kj35 t268 t271 t280 true a0_0 l0_1 l0_2) else ((laws_eqUint64S.f kj35 t280 t268).bind fun t296 => (if t296 = true then (laws_FnExactTablesOf.j4 kj35 t268 t271 t280 (t283 != t271) a0_0 l0_1 l0_2) else (laws_FnExactTablesOf.j4 kj35 t268 t271 t280 true a0_0 l0_1 l0_2)))) = some r := H
                  have A43 := Aside0.mk A430
                  clear A430
                  have HC44 := Aside0.mk H
                  clear H
                  have hnb45 := NB279_259.out
                  have hnc45 := NB259_279.out
                  have hcz46_0 : wc.cell? ⟨gb279, 0, none⟩ = some (.int .i8 t272) := (blk_cell BK279.out 0).trans rfl
                  have hcz46_1 : wc.cell? ⟨gb279, 1, none⟩ = some (.slice Ao23 t273.length co23) := (blk_cell BK279.out 1).trans rfl
                  have hcz46_2 : wc.cell? ⟨gb279, 2, none⟩ = some (.slice Ao24 t276.length co24) := (blk_cell BK279.out 2).trans rfl
                  have hfz46_0 := blk_frozen BK279.out 0
                  have hfz46_1 := blk_frozen BK279.out 1
                  have hfz46_2 := blk_frozen BK279.out 2
                  go_upto_region 14 with (first | ((with_reducible refine gate_callee (f := 48) rfl ?_); refine goesL_ (some 48) rfl rfl Try.func48 (by kernel_rfl) rfl #[.agg #[.int .i8 t272, .slice Ao23 t273.length co23, .slice Ao24 t276.length co24], .int .i64 1] rfl (by (try simp only [List.map_toArray, List.map_cons, List.map_nil]); first | done | rfl | (simp only [List.length_drop, List.length_take]; rfl)) ?_; (with_reducible refine (laws_markNetwork.calls kj35 t272 (fun k_ => some k_ = (.slice Ao23 t273.length co23 : Value).ownBlock) (.slice Ao23 t273.length co23) t273 (fun k_ => some k_ = (.slice Ao24 t276.length co24 : Value).ownBlock) (.slice Ao24 t276.length co24) t276 1 t293 t294 t295 w _ ?side1 ?side2 ?side3 A43.out).mono ?_); (case side1 => repeat (first | (with_reducible first | exact HB.out | apply below_alloc | apply pw_below_drewN | apply below_drew1 | refine below_set ?_ GE259.out | refine below_set ?_ GE279.out) | exact HB.out)); (case side2 => exact Kd.R_tight rfl HO_280001.out); (case side3 => exact Kd.R_tight rfl HO_280002.out); rintro e w47 ⟨rfl, hy0, hy1, hb, hkp⟩; refine ⟨_, rfl, ?_⟩; have n0_ := Aside0.mk (Kd.R_mono (ok' := fun k_ => some k_ ≠ (v281 : Value).ownBlock) (Kd.R_keptB ((Kd.R_apart' (Kd.R_apart' HO_4.out (Kd.R_typed HO_280001.out) (by decide)) (Kd.R_typed HO_280002.out) (by decide))) hkp (fun k_ hk_ hs_ => Or.elim hs_ (fun e_ => (hk_.1.2) e_) (fun e_ => (hk_.2) e_))) (fun k_ hk_ => hk_.1.1.1)); have n1_ := Aside0.mk (Kd.R_mono (ok' := fun k_ => some k_ ≠ (v269 : Value).ownBlock) (Kd.R_keptB ((Kd.R_apart' (Kd.R_apart' HO_7.out (Kd.R_typed HO_280001.out) (by decide)) (Kd.R_typed HO_280002.out) (by decide))) hkp (fun k_ hk_ hs_ => Or.elim hs_ (fun e_ => (hk_.1.2) e_) (fun e_ => (hk_.2) e_))) (fun k_ hk_ => hk_.1.1.1)); have n2_ := Aside0.mk (Kd.R_reok rfl hy0 (fun k_ e_ => HO_280001.out.1 k_ e_)); have n3_ := Aside0.mk (Kd.R_reok rfl hy1 (fun k_ e_ => HO_280002.out.1 k_ e_)); have n4_ := Aside0.mk (blk_kept (by (with_reducible repeat (first | refine blk_drewN ?_ _ | refine blk_drew ?_ | refine blk_alloc ?_ _)); exact BK259.out) hkp (fun hs_ => Or.elim hs_ (fun e_ => (fun e_ => (Kd.R_ne HO_280001.out BK259.out (by decide)) e_) e_) (fun e_ => (fun e_ => (Kd.R_ne HO_280002.out BK259.out (by decide)) e_) e_))); have n5_ := Aside0.mk (blk_kept (by (with_reducible repeat (first | refine blk_drewN ?_ _ | refine blk_drew ?_ | refine blk_alloc ?_ _)); exact BK279.out) hkp (fun hs_ => Or.elim hs_ (fun e_ => (fun e_ => (Kd.R_ne HO_280001.out BK279.out (by decide)) e_) e_) (fun e_ => (fun e_ => (Kd.R_ne HO_280002.out BK279.out (by decide)) e_) e_))); have n6_ := Aside0.mk (hb); clear HO_4; clear HO_7; clear HO_280001; clear HO_280002; clear BK259; clear BK279; clear HB; have HO_4 := n0_; have HO_7 := n1_; have HO_280001 := n2_; have HO_280002 := n3_; have BK259 := n4_; have BK279 := n5_; have HB := n6_; clear n0_ n1_ n2_ n3_ n4_ n5_ n6_; (try clear hb); (try clear hkp); (try clear hy0); (try clear hy1)))
                  (try simp only [Act.put, List.setIfInBounds_toArray, List.set_cons_zero, List.set_cons_succ])
                  go_cut [61] (fun v61 wc => ∃ (kq : Nat) (x61_43 : Bool), v61 = .bool x61_43 ∧ Aside0 (laws_FnExactTablesOf.j4 kq t268 t271 t280 x61_43 a0_0 l0_1 l0_2 = some r) ∧ Aside0 (kq ≤ kj35) ∧ Aside0 (Kd.R (Kd.int .u64) 98 wc w.heap.size (fun k_ => some k_ ≠ (v281 : Value).ownBlock) v269 t268) ∧ Aside0 (Kd.R (Kd.int .u64) 98 wc w.heap.size (fun k_ => some k_ ≠ (v269 : Value).ownBlock) v281 t280) ∧ Aside0 (Kd.R k81 81 wc w.heap.size (fun _ => True) (.slice Ao23 t273.length co23) t294) ∧ Aside0 (Kd.R (Kd.int .i16) 79 wc w.heap.size (fun _ => True) (.slice Ao24 t276.length co24) t295) ∧ Aside0 (wc.heap[gb259]? = some (.cells #[.int .i8 a0_0, (.slice A0_1 l0_1.length c0_1), (.slice A0_2 l0_2.length c0_2)] 26 (0, 0))) ∧ Aside0 (wc.heap[gb279]? = some (.cells #[.int .i8 t272, (.slice Ao23 t273.length co23), (.slice Ao24 t276.length co24)] 31 (0, 0))) ∧ Aside0 (Below w.heap.size w wc))
                  case first =>
                    have H := HC44.out
                    clear HC44
                    by_cases c48 : t293 < 0
                    · rw [if_pos c48] at H
                      have c48b0 : decide (t293 < 0) = true := decide_eq_true c48
                      clear c48
                      (first | rw [c48b0] | (simp only [i64_w, i32_w]; rw [c48b0]) | (have h_ := c48b0; simp only [bne] at h_; rw [h_]) | skip)
                      have H' := Aside0.mk H
                      clear H
                      go_wp2
                      go_meet
                      case rel => exact ⟨_, (true), (by first | rfl | (simp; done) | (simp [*]; done) | (exact congrArg (Value.int .i64) (wrap_eq (by omega)))), H', ⟨by have := HJ2.out; have := HJ11.out; have := HJ31.out; have := HJ35.out; first | omega | exact Nat.le_refl _⟩, ⟨by (with_reducible repeat (first | apply Kd.R_alloc | apply Kd.R_drewN | apply Kd.R_drew)); exact HO_4.out⟩, ⟨by (with_reducible repeat (first | apply Kd.R_alloc | apply Kd.R_drewN | apply Kd.R_drew)); exact HO_7.out⟩, ⟨by (with_reducible repeat (first | apply Kd.R_alloc | apply Kd.R_drewN | apply Kd.R_drew)); exact HO_280001.out⟩, ⟨by (with_reducible repeat (first | apply Kd.R_alloc | apply Kd.R_drewN | apply Kd.R_drew)); exact HO_280002.out⟩, ⟨by (with_reducible repeat (first | refine blk_drewN ?_ _ | refine blk_drew ?_ | refine blk_alloc ?_ _)); exact BK259.out⟩, ⟨by (with_reducible repeat (first | refine blk_drewN ?_ _ | refine blk_drew ?_ | refine blk_alloc ?_ _)); exact BK279.out⟩, ⟨by repeat (first | (with_reducible first | exact HB.out | apply below_alloc | apply pw_below_drewN | apply below_drew1 | refine below_set ?_ GE259.out | refine below_set ?_ GE279.out) | exact HB.out)⟩⟩
                    · rw [if_neg c48] at H
                      have c48b0 : decide (t293 < 0) = false := decide_eq_false c48
                      clear c48
                      (first | rw [c48b0] | (simp only [i64_w, i32_w]; rw [c48b0]) | (have h_ := c48b0; simp only [bne] at h_; rw [h_]) | skip)
                      replace H := Option.bind_eq_some_iff.mp H
                      obtain ⟨t296, A490, H⟩ := H
                      replace H : (if t296 = true then (laws_FnExactTablesOf.j4 kj35 t268 t271 t280 (t283 != t271) a0_0 l0_1 l0_2) else (laws_FnExactTablesOf.j4 kj35 t268 t271 t280 true a0_0 l0_1 l0_2)) = some r := H
                      have A49 := Aside0.mk A490
                      clear A490
                      by_cases c50 : t296 = true
                      · subst c50
                        have H1 : (laws_FnExactTablesOf.j4 kj35 t268 t271 t280 (t283 != t271) a0_0 l0_1 l0_2) = some r := by rw [if_pos rfl] at H; exact H
                        clear H
                        have H := H1
                        clear H1
                        have H' := Aside0.mk H
                        clear H
                        obtain ⟨Ao51, co51, eo51⟩ := Kd.R_slice HO_7.out
                        subst eo51
                        obtain ⟨Ao52, co52, eo52⟩ := Kd.R_slice HO_4.out
                        subst eo52
                        go_wp2_with (first | (go_at_call 47; (with_reducible refine (laws_eqUint64S.calls kj35 _ _ t280 _ _ t268 true _ ?side1 ?side2 ?side3 ?side4 A49.out).mono ?_); (case side1 => repeat (first | exact (Kd.R_reads' HO_7.out).2.2 | (with_reducible refine Kd.C_alloc ?_ _) | (with_reducible refine Kd.C_drewN ?_ _) | (with_reducible refine Kd.C_drew ?_))); (case side2 => exact (Kd.R_reads' HO_7.out).2.1); (case side3 => repeat (first | exact (Kd.R_reads' HO_4.out).2.2 | (with_reducible refine Kd.C_alloc ?_ _) | (with_reducible refine Kd.C_drewN ?_ _) | (with_reducible refine Kd.C_drew ?_))); (case side4 => exact (Kd.R_reads' HO_4.out).2.1); rintro e w' ⟨rfl, ⟨nd, rfl⟩⟩))
                        go_meet
                        case rel => exact ⟨_, ((t283 != t271)), (by first | rfl | (simp; done) | (simp [*]; done) | (exact congrArg (Value.int .i64) (wrap_eq (by omega)))), H', ⟨by have := HJ2.out; have := HJ11.out; have := HJ31.out; have := HJ35.out; first | omega | exact Nat.le_refl _⟩, ⟨by (with_reducible repeat (first | apply Kd.R_alloc | apply Kd.R_drewN | apply Kd.R_drew)); exact HO_4.out⟩, ⟨by (with_reducible repeat (first | apply Kd.R_alloc | apply Kd.R_drewN | apply Kd.R_drew)); exact HO_7.out⟩, ⟨by (with_reducible repeat (first | apply Kd.R_alloc | apply Kd.R_drewN | apply Kd.R_drew)); exact HO_280001.out⟩, ⟨by (with_reducible repeat (first | apply Kd.R_alloc | apply Kd.R_drewN | apply Kd.R_drew)); exact HO_280002.out⟩, ⟨by (with_reducible repeat (first | refine blk_drewN ?_ _ | refine blk_drew ?_ | refine blk_alloc ?_ _)); exact BK259.out⟩, ⟨by (with_reducible repeat (first | refine blk_drewN ?_ _ | refine blk_drew ?_ | refine blk_alloc ?_ _)); exact BK279.out⟩, ⟨by repeat (first | (with_reducible first | exact HB.out | apply below_alloc | apply pw_below_drewN | apply below_drew1 | refine below_set ?_ GE259.out | refine below_set ?_ GE279.out) | exact HB.out)⟩⟩
                      · replace c50 := Bool.eq_false_iff.mpr c50
                        subst c50
                        have H1 : (laws_FnExactTablesOf.j4 kj35 t268 t271 t280 true a0_0 l0_1 l0_2) = some r := by rw [if_neg (show ¬ (false = true) by decide)] at H; exact H
                        clear H
                        have H := H1
                        clear H1
                        have H' := Aside0.mk H
                        clear H
                        obtain ⟨Ao53, co53, eo53⟩ := Kd.R_slice HO_7.out
                        subst eo53
                        obtain ⟨Ao54, co54, eo54⟩ := Kd.R_slice HO_4.out
                        subst eo54
                        go_wp2_with (first | (go_at_call 47; (with_reducible refine (laws_eqUint64S.calls kj35 _ _ t280 _ _ t268 false _ ?side1 ?side2 ?side3 ?side4 A49.out).mono ?_); (case side1 => repeat (first | exact (Kd.R_reads' HO_7.out).2.2 | (with_reducible refine Kd.C_alloc ?_ _) | (with_reducible refine Kd.C_drewN ?_ _) | (with_reducible refine Kd.C_drew ?_))); (case side2 => exact (Kd.R_reads' HO_7.out).2.1); (case side3 => repeat (first | exact (Kd.R_reads' HO_4.out).2.2 | (with_reducible refine Kd.C_alloc ?_ _) | (with_reducible refine Kd.C_drewN ?_ _) | (with_reducible refine Kd.C_drew ?_))); (case side4 => exact (Kd.R_reads' HO_4.out).2.1); rintro e w' ⟨rfl, ⟨nd, rfl⟩⟩))
                        go_meet
                        case rel => exact ⟨_, (true), (by first | rfl | (simp; done) | (simp [*]; done) | (exact congrArg (Value.int .i64) (wrap_eq (by omega)))), H', ⟨by have := HJ2.out; have := HJ11.out; have := HJ31.out; have := HJ35.out; first | omega | exact Nat.le_refl _⟩, ⟨by (with_reducible repeat (first | apply Kd.R_alloc | apply Kd.R_drewN | apply Kd.R_drew)); exact HO_4.out⟩, ⟨by (with_reducible repeat (first | apply Kd.R_alloc | apply Kd.R_drewN | apply Kd.R_drew)); exact HO_7.out⟩, ⟨by (with_reducible repeat (first | apply Kd.R_alloc | apply Kd.R_drewN | apply Kd.R_drew)); exact HO_280001.out⟩, ⟨by (with_reducible repeat (first | apply Kd.R_alloc | apply Kd.R_drewN | apply Kd.R_drew)); exact HO_280002.out⟩, ⟨by (with_reducible repeat (first | refine blk_drewN ?_ _ | refine blk_drew ?_ | refine blk_alloc ?_ _)); exact BK259.out⟩, ⟨by (with_reducible repeat (first | refine blk_drewN ?_ _ | refine blk_drew ?_ | refine blk_alloc ?_ _)); exact BK279.out⟩, ⟨by repeat (first | (with_reducible first | exact HB.out | apply below_alloc | apply pw_below_drewN | apply below_drew1 | refine below_set ?_ GE259.out | refine below_set ?_ GE279.out) | exact HB.out)⟩⟩
                  case rest =>
                    clear HC44
                    try clear c1
                    try clear c2
                    try clear p2
                    try clear c3
                    try clear c4
                    try clear c5
                    try clear c7
                    try clear c7b0
                    try clear c12
                    try clear c21
                    try clear c23
                    try clear c25
                    try clear c27
                    try clear c33
                    try clear c42
                    try clear c45
                    try clear c46
                    try clear c47
                    try clear c48
                    try clear c48b0
                    try clear c50
                    try clear hcz13_0
                    try clear hcz13_1
                    try clear hcz13_2
                    try clear hcz18_0
                    try clear hcz18_1
                    try clear hcz18_2
                    try clear hcz22_0
                    try clear hcz22_1
                    try clear hcz22_2
                    try clear hcz46_0
                    try clear hcz46_1
                    try clear hcz46_2
                    try clear hcz5_0
                    try clear hcz5_1
                    try clear hcz5_2
                    try clear hfz13_0
                    try clear hfz13_1
                    try clear hfz13_2
                    try clear hfz18_0
                    try clear hfz18_1
                    try clear hfz18_2
                    try clear hfz22_0
                    try clear hfz22_1
                    try clear hfz22_2
                    try clear hfz46_0
                    try clear hfz46_1
                    try clear hfz46_2
                    try clear hfz5_0
                    try clear hfz5_1
                    try clear hfz5_2
                    try clear p2
                    obtain ⟨kq, x61_43, rfl, HA, HJ43, HO_4, HO_7, HO_280001, HO_280002, BK259, BK279, HB⟩ := hcut
                    have hl280001_43 := (Kd.R_reads' HO_280001.out).1
                    rw [hl280001_43] at HO_280001
                    (try simp only [hl280001_43])
                    (try simp only [hl280001_43] at BK259)
                    (try simp only [hl280001_43] at BK279)
                    (try simp only [hl280001_43] at HO_4)
                    (try simp only [hl280001_43] at HO_7)
                    (try simp only [hl280001_43] at HO_280002)
                    have hl280002_43 := (Kd.R_reads' HO_280002.out).1
                    rw [hl280002_43] at HO_280002
                    (try simp only [hl280002_43])
                    (try simp only [hl280002_43] at BK259)
                    (try simp only [hl280002_43] at BK279)
                    (try simp only [hl280002_43] at HO_4)
                    (try simp only [hl280002_43] at HO_7)
                    (try simp only [hl280002_43] at HO_280001)
                    cases kq with
                    | zero => exact absurd HA.out (by simp [laws_FnExactTablesOf.j4])
                    | succ kj43 =>
                      have H := HA.out
                      clear HA
                      simp only [laws_FnExactTablesOf.j4] at H
                      have HC55 := Aside0.mk H
                      clear H
                      go_upto_if 61 with (fail)
                      go_cut [] (fun wc => ∃ (kq : Nat), Aside0 (laws_FnExactTablesOf.j5 kq t268 t271 t280 a0_0 l0_1 l0_2 = some r) ∧ Aside0 (kq ≤ kj43) ∧ Aside0 (Kd.R (Kd.int .u64) 98 wc w.heap.size (fun k_ => some k_ ≠ (v281 : Value).ownBlock) v269 t268) ∧ Aside0 (Kd.R (Kd.int .u64) 98 wc w.heap.size (fun k_ => some k_ ≠ (v269 : Value).ownBlock) v281 t280) ∧ Aside0 (Kd.R k81 81 wc w.heap.size (fun _ => True) (.slice Ao23 t294.length co23) t294) ∧ Aside0 (Kd.R (Kd.int .i16) 79 wc w.heap.size (fun _ => True) (.slice Ao24 t295.length co24) t295) ∧ Aside0 (wc.heap[gb259]? = some (.cells #[.int .i8 a0_0, (.slice A0_1 l0_1.length c0_1), (.slice A0_2 l0_2.length c0_2)] 26 (0, 0))) ∧ Aside0 (wc.heap[gb279]? = some (.cells #[.int .i8 t272, (.slice Ao23 t294.length co23), (.slice Ao24 t295.length co24)] 31 (0, 0))) ∧ Aside0 (Below w.heap.size w wc))
                      case first =>
                        have H := HC55.out
                        clear HC55
                        by_cases c56 : x61_43 = true
                        · subst c56
                          have H1 : (some false) = some r := by rw [if_pos rfl] at H; exact H
                          clear H
                          have H := H1
                          clear H1
                          obtain rfl := Option.some.inj H
                          go_wp2
                          go_ret
                          exact ⟨by first | rfl | (simp [errW_none, errW_some] <;> rfl) | (simp [*, errW_none, errW_some] <;> rfl), by repeat (first | (with_reducible first | exact HB.out | apply below_alloc | apply pw_below_drewN | apply below_drew1 | refine below_set ?_ GE259.out | refine below_set ?_ GE279.out) | exact HB.out)⟩
                        · replace c56 := Bool.eq_false_iff.mpr c56
                          subst c56
                          have H1 : (laws_FnExactTablesOf.j5 kj43 t268 t271 t280 a0_0 l0_1 l0_2) = some r := by rw [if_neg (show ¬ (false = true) by decide)] at H; exact H
                          clear H
                          have H := H1
                          clear H1
                          have H' := Aside0.mk H
                          clear H
                          go_wp2
                          go_meet
                          case rel => exact ⟨_, H', ⟨by have := HJ2.out; have := HJ11.out; have := HJ31.out; have := HJ35.out; have := HJ43.out; first | omega | exact Nat.le_refl _⟩, ⟨by (try simp only [hl280001_43]); (try simp only [hl280002_43]); (with_reducible repeat (first | apply Kd.R_alloc | apply Kd.R_drewN | apply Kd.R_drew)); exact HO_4.out⟩, ⟨by (try simp only [hl280001_43]); (try simp only [hl280002_43]); (with_reducible repeat (first | apply Kd.R_alloc | apply Kd.R_drewN | apply Kd.R_drew)); exact HO_7.out⟩, ⟨by (try simp only [hl280001_43]); (try simp only [hl280002_43]); (with_reducible repeat (first | apply Kd.R_alloc | apply Kd.R_drewN | apply Kd.R_drew)); exact HO_280001.out⟩, ⟨by (try simp only [hl280001_43]); (try simp only [hl280002_43]); (with_reducible repeat (first | apply Kd.R_alloc | apply Kd.R_drewN | apply Kd.R_drew)); exact HO_280002.out⟩, ⟨by (try simp only [hl280001_43]); (try simp only [hl280002_43]); (with_reducible repeat (first | refine blk_drewN ?_ _ | refine blk_drew ?_ | refine blk_alloc ?_ _)); exact BK259.out⟩, ⟨by (try simp only [hl280001_43]); (try simp only [hl280002_43]); (with_reducible repeat (first | refine blk_drewN ?_ _ | refine blk_drew ?_ | refine blk_alloc ?_ _)); exact BK279.out⟩, ⟨by repeat (first | (with_reducible first | exact HB.out | apply below_alloc | apply pw_below_drewN | apply below_drew1 | refine below_set ?_ GE259.out | refine below_set ?_ GE279.out) | exact HB.out)⟩⟩
                      case rest =>
                        clear HC55
                        try clear c1
                        try clear c2
                        try clear p2
                        try clear c3
                        try clear c4
                        try clear c5
                        try clear c7
                        try clear c7b0
                        try clear c12
                        try clear c21
                        try clear c23
                        try clear c25
                        try clear c27
                        try clear c33
                        try clear c42
                        try clear c45
                        try clear c46
                        try clear c47
                        try clear c48
                        try clear c48b0
                        try clear c50
                        try clear c56
                        try clear hcz13_0
                        try clear hcz13_1
                        try clear hcz13_2
                        try clear hcz18_0
                        try clear hcz18_1
                        try clear hcz18_2
                        try clear hcz22_0
                        try clear hcz22_1
                        try clear hcz22_2
                        try clear hcz46_0
                        try clear hcz46_1
                        try clear hcz46_2
                        try clear hcz5_0
                        try clear hcz5_1
                        try clear hcz5_2
                        try clear hfz13_0
                        try clear hfz13_1
                        try clear hfz13_2
                        try clear hfz18_0
                        try clear hfz18_1
                        try clear hfz18_2
                        try clear hfz22_0
                        try clear hfz22_1
                        try clear hfz22_2
                        try clear hfz46_0
                        try clear hfz46_1
                        try clear hfz46_2
                        try clear hfz5_0
                        try clear hfz5_1
                        try clear hfz5_2
                        try clear p2
                        obtain ⟨kq, HA, HJ54, HO_4, HO_7, HO_280001, HO_280002, BK259, BK279, HB⟩ := hcut
                        cases kq with
                        | zero => exact absurd HA.out (by simp [laws_FnExactTablesOf.j5])
                        | succ kj54 =>
                          have H := HA.out
                          clear HA
                          simp only [laws_FnExactTablesOf.j5] at H
                          replace H := Option.bind_eq_some_iff.mp H
                          obtain ⟨⟨t297, t298⟩, A570, H⟩ := H
                          replace H : ((laws_heldUint64S.f kj54 t298 1).bind fun t299 => (if t299 < 0 then (some false) else (laws_FnExactTablesOf.j6 kj54 t268 t271 t298 t297 t299 a0_0 l0_1 l0_2))) = some r := H
                          have A57 := Aside0.mk A570
                          clear A570
                          replace H := Option.bind_eq_some_iff.mp H
                          obtain ⟨t299, A580, H⟩ := H
                          replace H : (if t299 < 0 then (some false) else (laws_FnExactTablesOf.j6 kj54 t268 t271 t298 t297 t299 a0_0 l0_1 l0_2)) = some r := H
                          have A58 := Aside0.mk A580
                          clear A580
                          have HC59 := Aside0.mk H
                          clear H
                          obtain ⟨Ao60, co60, eo60⟩ := Kd.R_slice HO_7.out
                          subst eo60
                          go_upto_if 69 with (first | ((with_reducible refine gate_callee (f := 49) rfl ?_); refine goesL_ (some 64) rfl rfl Try.func49 (by kernel_rfl) rfl #[.slice Ao60 t280.length co60, .int .i64 1] rfl (by (try simp only [List.map_toArray, List.map_cons, List.map_nil]); first | done | rfl | (simp only [List.length_drop, List.length_take]; rfl)) ?_; (with_reducible refine (laws_markUint64S.calls kj54 (fun k_ => some k_ = (.slice Ao60 t280.length co60 : Value).ownBlock) (.slice Ao60 t280.length co60) t280 1 t297 t298 w _ ?side1 ?side2 A57.out).mono ?_); (case side1 => repeat (first | (with_reducible first | exact HB.out | apply below_alloc | apply pw_below_drewN | apply below_drew1 | refine below_set ?_ GE259.out | refine below_set ?_ GE279.out) | exact HB.out)); (case side2 => exact Kd.R_tight rfl HO_7.out); rintro e w61 ⟨rfl, hy0, hb, hkp⟩; refine ⟨_, rfl, ?_⟩; have n0_ := Aside0.mk (Kd.R_mono (ok' := fun k_ => some k_ ≠ (.slice Ao60 t280.length co60 : Value).ownBlock) (Kd.R_keptB (HO_4.out) hkp (fun k_ hk_ hs_ => (hk_) hs_)) (fun k_ hk_ => hk_.1)); have n1_ := Aside0.mk (Kd.R_reok rfl hy0 (fun k_ e_ => HO_7.out.1 k_ e_)); have n2_ := Aside0.mk (Kd.R_mono (ok' := fun k_ => True) (Kd.R_keptB ((Kd.R_apart' HO_280001.out (Kd.R_typed HO_7.out) (by decide))) hkp (fun k_ hk_ hs_ => (hk_.2) hs_)) (fun k_ hk_ => trivial)); have n3_ := Aside0.mk (Kd.R_mono (ok' := fun k_ => True) (Kd.R_keptB ((Kd.R_apart' HO_280002.out (Kd.R_typed HO_7.out) (by decide))) hkp (fun k_ hk_ hs_ => (hk_.2) hs_)) (fun k_ hk_ => trivial)); have n4_ := Aside0.mk (blk_kept (by (with_reducible repeat (first | refine blk_drewN ?_ _ | refine blk_drew ?_ | refine blk_alloc ?_ _)); exact BK259.out) hkp (fun hs_ => (fun e_ => (Kd.R_ne HO_7.out BK259.out (by decide)) e_) hs_)); have n5_ := Aside0.mk (blk_kept (by (with_reducible repeat (first | refine blk_drewN ?_ _ | refine blk_drew ?_ | refine blk_alloc ?_ _)); exact BK279.out) hkp (fun hs_ => (fun e_ => (Kd.R_ne HO_7.out BK279.out (by decide)) e_) hs_)); have n6_ := Aside0.mk (hb); clear HO_4; clear HO_7; clear HO_280001; clear HO_280002; clear BK259; clear BK279; clear HB; have HO_4 := n0_; have HO_7 := n1_; have HO_280001 := n2_; have HO_280002 := n3_; have BK259 := n4_; have BK279 := n5_; have HB := n6_; clear n0_ n1_ n2_ n3_ n4_ n5_ n6_; (try clear hb); (try clear hkp); (try clear hy0)) | ((with_reducible refine gate_callee (f := 50) rfl ?_); refine goesL_ (some 67) rfl rfl Try.func50 (by kernel_rfl) rfl #[.slice Ao60 t298.length co60, .int .i64 1] rfl (by (try simp only [List.map_toArray, List.map_cons, List.map_nil]); first | done | (rw [show t298.length = t280.length from (Kd.R_reads' HO_7.out).1.symm] <;> rfl) | rfl | (simp only [List.length_drop, List.length_take]; rfl)) ?_; (with_reducible refine (laws_heldUint64S.calls kj54 _ _ t298 1 t299 _ ?side1 ?side2 A58.out).mono ?_); (case side1 => repeat (first | exact (Kd.R_reads' HO_7.out).2.2 | (with_reducible refine Kd.C_alloc ?_ _) | (with_reducible refine Kd.C_drewN ?_ _) | (with_reducible refine Kd.C_drew ?_))); (case side2 => rw [show t298.length = t280.length from (Kd.R_reads' HO_7.out).1.symm]; exact (Kd.R_reads' HO_7.out).2.1); rintro e w' ⟨rfl, ⟨nd, rfl⟩⟩; refine ⟨_, rfl, ?_⟩))
                          (try simp only [Act.put, List.setIfInBounds_toArray, List.set_cons_zero, List.set_cons_succ])
                          go_cut [] (fun wc => ∃ (kq : Nat), Aside0 (laws_FnExactTablesOf.j6 kq t268 t271 t298 t297 t299 a0_0 l0_1 l0_2 = some r) ∧ Aside0 (kq ≤ kj54) ∧ Aside0 (Kd.R (Kd.int .u64) 98 wc w.heap.size (fun k_ => some k_ ≠ ((.slice Ao60 t280.length co60) : Value).ownBlock) v269 t268) ∧ Aside0 (Kd.R (Kd.int .u64) 98 wc w.heap.size (fun k_ => some k_ ≠ (v269 : Value).ownBlock) (.slice Ao60 t280.length co60) t298) ∧ Aside0 (Kd.R k81 81 wc w.heap.size (fun _ => True) (.slice Ao23 t294.length co23) t294) ∧ Aside0 (Kd.R (Kd.int .i16) 79 wc w.heap.size (fun _ => True) (.slice Ao24 t295.length co24) t295) ∧ Aside0 (wc.heap[gb259]? = some (.cells #[.int .i8 a0_0, (.slice A0_1 l0_1.length c0_1), (.slice A0_2 l0_2.length c0_2)] 26 (0, 0))) ∧ Aside0 (wc.heap[gb279]? = some (.cells #[.int .i8 t272, (.slice Ao23 t294.length co23), (.slice Ao24 t295.length co24)] 31 (0, 0))) ∧ Aside0 (Below w.heap.size w wc))
                          case first =>
                            have H := HC59.out
                            clear HC59
                            by_cases c62 : t299 < 0
                            · rw [if_pos c62] at H
                              have c62b0 : decide (t299 < 0) = true := decide_eq_true c62
                              clear c62
                              (first | rw [c62b0] | (simp only [i64_w, i32_w]; rw [c62b0]) | (have h_ := c62b0; simp only [bne] at h_; rw [h_]) | skip)
                              obtain rfl := Option.some.inj H
                              go_wp2
                              go_ret
                              exact ⟨by first | rfl | (simp [errW_none, errW_some] <;> rfl) | (simp [*, errW_none, errW_some] <;> rfl), by repeat (first | (with_reducible first | exact HB.out | apply below_alloc | apply pw_below_drewN | apply below_drew1 | refine below_set ?_ GE259.out | refine below_set ?_ GE279.out) | exact HB.out)⟩
                            · rw [if_neg c62] at H
                              have c62b0 : decide (t299 < 0) = false := decide_eq_false c62
                              clear c62
                              (first | rw [c62b0] | (simp only [i64_w, i32_w]; rw [c62b0]) | (have h_ := c62b0; simp only [bne] at h_; rw [h_]) | skip)
                              have H' := Aside0.mk H
                              clear H
                              go_wp2
                              go_meet
                              case rel => exact ⟨_, H', ⟨by have := HJ2.out; have := HJ11.out; have := HJ31.out; have := HJ35.out; have := HJ43.out; have := HJ54.out; first | omega | exact Nat.le_refl _⟩, ⟨by (try simp only [hl280001_43]); (try simp only [hl280002_43]); (with_reducible repeat (first | apply Kd.R_alloc | apply Kd.R_drewN | apply Kd.R_drew)); exact HO_4.out⟩, ⟨by (try simp only [hl280001_43]); (try simp only [hl280002_43]); (with_reducible repeat (first | apply Kd.R_alloc | apply Kd.R_drewN | apply Kd.R_drew)); exact HO_7.out⟩, ⟨by (try simp only [hl280001_43]); (try simp only [hl280002_43]); (with_reducible repeat (first | apply Kd.R_alloc | apply Kd.R_drewN | apply Kd.R_drew)); exact HO_280001.out⟩, ⟨by (try simp only [hl280001_43]); (try simp only [hl280002_43]); (with_reducible repeat (first | apply Kd.R_alloc | apply Kd.R_drewN | apply Kd.R_drew)); exact HO_280002.out⟩, ⟨by (try simp only [hl280001_43]); (try simp only [hl280002_43]); (with_reducible repeat (first | refine blk_drewN ?_ _ | refine blk_drew ?_ | refine blk_alloc ?_ _)); exact BK259.out⟩, ⟨by (try simp only [hl280001_43]); (try simp only [hl280002_43]); (with_reducible repeat (first | refine blk_drewN ?_ _ | refine blk_drew ?_ | refine blk_alloc ?_ _)); exact BK279.out⟩, ⟨by repeat (first | (with_reducible first | exact HB.out | apply below_alloc | apply pw_below_drewN | apply below_drew1 | refine below_set ?_ GE259.out | refine below_set ?_ GE279.out) | exact HB.out)⟩⟩
                          case rest =>
                            clear HC59
                            try clear c1
                            try clear c2
                            try clear p2
                            try clear c3
                            try clear c4
                            try clear c5
                            try clear c6
                            try clear c7
                            try clear c7b0
                            try clear c12
                            try clear c21
                            try clear c23
                            try clear c25
                            try clear c27
                            try clear c33
                            try clear c42
                            try clear c45
                            try clear c46
                            try clear c47
                            try clear c48
                            try clear c48b0
                            try clear c49
                            try clear c50
                            try clear c56
                            try clear c62
                            try clear c62b0
                            try clear hcz13_0
                            try clear hcz13_1
                            try clear hcz13_2
                            try clear hcz18_0
                            try clear hcz18_1
                            try clear hcz18_2
                            try clear hcz22_0
                            try clear hcz22_1
                            try clear hcz22_2
                            try clear hcz46_0
                            try clear hcz46_1
                            try clear hcz46_2
                            try clear hcz5_0
                            try clear hcz5_1
                            try clear hcz5_2
                            try clear hfz13_0
                            try clear hfz13_1
                            try clear hfz13_2
                            try clear hfz18_0
                            try clear hfz18_1
                            try clear hfz18_2
                            try clear hfz22_0
                            try clear hfz22_1
                            try clear hfz22_2
                            try clear hfz46_0
                            try clear hfz46_1
                            try clear hfz46_2
                            try clear hfz5_0
                            try clear hfz5_1
                            try clear hfz5_2
                            try clear p2
                            obtain ⟨kq, HA, HJ58, HO_4, HO_7, HO_280001, HO_280002, BK259, BK279, HB⟩ := hcut
                            have hl7_58 := (Kd.R_reads' HO_7.out).1
                            rw [hl7_58] at HO_7
                            (try simp only [hl7_58])
                            (try simp only [hl7_58] at BK259)
                            (try simp only [hl7_58] at BK279)
                            (try simp only [hl7_58] at HO_4)
                            (try simp only [hl7_58] at HO_280001)
                            (try simp only [hl7_58] at HO_280002)
                            cases kq with
                            | zero => exact absurd HA.out (by simp [laws_FnExactTablesOf.j6])
                            | succ kj58 =>
                              have H := HA.out
                              clear HA
                              simp only [laws_FnExactTablesOf.j6] at H
                              have HC63 := Aside0.mk H
                              clear H
                              go_upto_if 72 with (fail)
                              go_cut [] (fun wc => ∃ (kq : Nat), Aside0 (laws_FnExactTablesOf.j7 kq t268 t271 t298 t297 a0_0 l0_1 l0_2 = some r) ∧ Aside0 (kq ≤ kj58) ∧ Aside0 (Kd.R (Kd.int .u64) 98 wc w.heap.size (fun k_ => some k_ ≠ ((.slice Ao60 t298.length co60) : Value).ownBlock) v269 t268) ∧ Aside0 (Kd.R (Kd.int .u64) 98 wc w.heap.size (fun k_ => some k_ ≠ (v269 : Value).ownBlock) (.slice Ao60 t298.length co60) t298) ∧ Aside0 (Kd.R k81 81 wc w.heap.size (fun _ => True) (.slice Ao23 t294.length co23) t294) ∧ Aside0 (Kd.R (Kd.int .i16) 79 wc w.heap.size (fun _ => True) (.slice Ao24 t295.length co24) t295) ∧ Aside0 (wc.heap[gb259]? = some (.cells #[.int .i8 a0_0, (.slice A0_1 l0_1.length c0_1), (.slice A0_2 l0_2.length c0_2)] 26 (0, 0))) ∧ Aside0 (wc.heap[gb279]? = some (.cells #[.int .i8 t272, (.slice Ao23 t294.length co23), (.slice Ao24 t295.length co24)] 31 (0, 0))) ∧ Aside0 (Below w.heap.size w wc))
                              case first =>
                                have H := HC63.out
                                clear HC63
                                by_cases c64 : t299 = t297
                                · rw [if_pos c64] at H
                                  have c64b0 : (t299 == t297) = true := beq_iff_eq.mpr c64
                                  have c64b1 : (t299 != t297) = false := bne_eq_false_iff_eq.mpr c64
                                  clear c64
                                  (first | rw [c64b0] | (simp only [i64_w, i32_w]; rw [c64b0]) | (have h_ := c64b0; simp only [bne] at h_; rw [h_]) | skip)
                                  have H' := Aside0.mk H
                                  clear H
                                  go_wp2
                                  go_meet
                                  case rel => exact ⟨_, H', ⟨by have := HJ2.out; have := HJ11.out; have := HJ31.out; have := HJ35.out; have := HJ43.out; have := HJ54.out; have := HJ58.out; first | omega | exact Nat.le_refl _⟩, ⟨by (try simp only [hl280001_43]); (try simp only [hl280002_43]); (try simp only [hl7_58]); (with_reducible repeat (first | apply Kd.R_alloc | apply Kd.R_drewN | apply Kd.R_drew)); exact HO_4.out⟩, ⟨by (try simp only [hl280001_43]); (try simp only [hl280002_43]); (try simp only [hl7_58]); (with_reducible repeat (first | apply Kd.R_alloc | apply Kd.R_drewN | apply Kd.R_drew)); exact HO_7.out⟩, ⟨by (try simp only [hl280001_43]); (try simp only [hl280002_43]); (try simp only [hl7_58]); (with_reducible repeat (first | apply Kd.R_alloc | apply Kd.R_drewN | apply Kd.R_drew)); exact HO_280001.out⟩, ⟨by (try simp only [hl280001_43]); (try simp only [hl280002_43]); (try simp only [hl7_58]); (with_reducible repeat (first | apply Kd.R_alloc | apply Kd.R_drewN | apply Kd.R_drew)); exact HO_280002.out⟩, ⟨by (try simp only [hl280001_43]); (try simp only [hl280002_43]); (try simp only [hl7_58]); (with_reducible repeat (first | refine blk_drewN ?_ _ | refine blk_drew ?_ | refine blk_alloc ?_ _)); exact BK259.out⟩, ⟨by (try simp only [hl280001_43]); (try simp only [hl280002_43]); (try simp only [hl7_58]); (with_reducible repeat (first | refine blk_drewN ?_ _ | refine blk_drew ?_ | refine blk_alloc ?_ _)); exact BK279.out⟩, ⟨by repeat (first | (with_reducible first | exact HB.out | apply below_alloc | apply pw_below_drewN | apply below_drew1 | refine below_set ?_ GE259.out | refine below_set ?_ GE279.out) | exact HB.out)⟩⟩
                                · rw [if_neg c64] at H
                                  have c64b0 : (t299 == t297) = false := beq_eq_false_iff_ne.mpr c64
                                  have c64b1 : (t299 != t297) = true := bne_iff_ne.mpr c64
                                  (first | rw [c64b0] | (simp only [i64_w, i32_w]; rw [c64b0]) | (have h_ := c64b0; simp only [bne] at h_; rw [h_]) | skip)
                                  obtain rfl := Option.some.inj H
                                  go_wp2
                                  go_ret
                                  exact ⟨by first | rfl | (simp [errW_none, errW_some] <;> rfl) | (simp [*, errW_none, errW_some] <;> rfl), by repeat (first | (with_reducible first | exact HB.out | apply below_alloc | apply pw_below_drewN | apply below_drew1 | refine below_set ?_ GE259.out | refine below_set ?_ GE279.out) | exact HB.out)⟩
                              case rest =>
                                clear HC63
                                try clear c1
                                try clear c2
                                try clear p2
                                try clear c3
                                try clear c4
                                try clear c5
                                try clear c6
                                try clear c7
                                try clear c7b0
                                try clear c12
                                try clear c21
                                try clear c23
                                try clear c25
                                try clear c27
                                try clear c33
                                try clear c42
                                try clear c45
                                try clear c46
                                try clear c47
                                try clear c48
                                try clear c48b0
                                try clear c49
                                try clear c50
                                try clear c56
                                try clear c62
                                try clear c62b0
                                try clear c64
                                try clear c64b0
                                try clear c64b1
                                try clear hcz13_0
                                try clear hcz13_1
                                try clear hcz13_2
                                try clear hcz18_0
                                try clear hcz18_1
                                try clear hcz18_2
                                try clear hcz22_0
                                try clear hcz22_1
                                try clear hcz22_2
                                try clear hcz46_0
                                try clear hcz46_1
                                try clear hcz46_2
                                try clear hcz5_0
                                try clear hcz5_1
                                try clear hcz5_2
                                try clear hfz13_0
                                try clear hfz13_1
                                try clear hfz13_2
                                try clear hfz18_0
                                try clear hfz18_1
                                try clear hfz18_2
                                try clear hfz22_0
                                try clear hfz22_1
                                try clear hfz22_2
                                try clear hfz46_0
                                try clear hfz46_1
                                try clear hfz46_2
                                try clear hfz5_0
                                try clear hfz5_1
                                try clear hfz5_2
                                try clear p2
                                obtain ⟨kq, HA, HJ62, HO_4, HO_7, HO_280001, HO_280002, BK259, BK279, HB⟩ := hcut
                                cases kq with
                                | zero => exact absurd HA.out (by simp [laws_FnExactTablesOf.j7])
                                | succ kj62 =>
                                  have H := HA.out
                                  clear HA
                                  simp only [laws_FnExactTablesOf.j7] at H
                                  replace H := Option.bind_eq_some_iff.mp H
                                  obtain ⟨⟨t300, t301, t304⟩, A650, H⟩ := H
                                  replace H : ((impl_TablesOf.f kj62 t300 t301 t304).bind fun bt307 => ((laws_eqUint64S.f kj62 bt307.1 t268).bind fun t311 => (if t311 = true then (laws_FnExactTablesOf.j8 kj62 t298 t297 (bt307.2 != t271)) else (laws_FnExactTablesOf.j8 kj62 t298 t297 true)))) = some r := H
                                  have A65 := Aside0.mk A650
                                  clear A650
                                  replace H := Option.bind_eq_some_iff.mp H
                                  obtain ⟨⟨t307, t310⟩, A660, H⟩ := H
                                  replace H : ((laws_eqUint64S.f kj62 t307 t268).bind fun t311 => (if t311 = true then (laws_FnExactTablesOf.j8 kj62 t298 t297 (t310 != t271)) else (laws_FnExactTablesOf.j8 kj62 t298 t297 true))) = some r := H
                                  have A66 := Aside0.mk A660
                                  clear A660
                                  have HC67 := Aside0.mk H
                                  clear H
                                  have hnb68 := NB259_279.out
                                  have hnc68 := NB279_259.out
                                  have hcz69_0 : wc.cell? ⟨gb259, 0, none⟩ = some (.int .i8 a0_0) := (blk_cell BK259.out 0).trans rfl
                                  have hcz69_1 : wc.cell? ⟨gb259, 1, none⟩ = some (.slice A0_1 l0_1.length c0_1) := (blk_cell BK259.out 1).trans rfl
                                  have hcz69_2 : wc.cell? ⟨gb259, 2, none⟩ = some (.slice A0_2 l0_2.length c0_2) := (blk_cell BK259.out 2).trans rfl
                                  have hfz69_0 := blk_frozen BK259.out 0
                                  have hfz69_1 := blk_frozen BK259.out 1
                                  have hfz69_2 := blk_frozen BK259.out 2
                                  go_upto_region 25 with (first | ((with_reducible refine gate_callee (f := 23) rfl ?_); refine goesL_ (some 75) rfl rfl Try.func23 (by kernel_rfl) rfl #[.agg #[.int .i8 a0_0, .slice A0_1 l0_1.length c0_1, .slice A0_2 l0_2.length c0_2]] rfl (by (try simp only [List.map_toArray, List.map_cons, List.map_nil]); first | done | rfl | (simp only [List.length_drop, List.length_take]; rfl)) ?_; (with_reducible refine (laws_toNetwork.calls kj62 a0_0 _ _ l0_1 _ _ l0_2 t300 t301 t304 _ ?side1 ?side2 ?side3 ?side4 A65.out).mono ?_); (case side1 => repeat (first | exact (Kd.C_below HR0_1.out HB.out) | (with_reducible refine Kd.C_alloc ?_ _) | (with_reducible refine Kd.C_drewN ?_ _) | (with_reducible refine Kd.C_drew ?_))); (case side2 => exact HC0_1.out); (case side3 => repeat (first | exact (Kd.C_below HR0_2.out HB.out) | (with_reducible refine Kd.C_alloc ?_ _) | (with_reducible refine Kd.C_drewN ?_ _) | (with_reducible refine Kd.C_drew ?_))); (case side4 => exact HC0_2.out); rintro e w70 ⟨v302, v305, rfl, ho0, ho1, hb⟩; refine ⟨_, rfl, ?_⟩; have n0_ := Aside0.mk (Kd.R_below (by (with_reducible repeat (first | apply Kd.R_alloc | apply Kd.R_drewN | apply Kd.R_drew)); exact HO_4.out) hb); have n1_ := Aside0.mk (Kd.R_below (by (with_reducible repeat (first | apply Kd.R_alloc | apply Kd.R_drewN | apply Kd.R_drew)); exact HO_7.out) hb); have n2_ := Aside0.mk (Kd.R_elder' (by (with_reducible repeat (first | apply Kd.R_alloc | apply Kd.R_drewN | apply Kd.R_drew)); exact HO_280001.out) (Kd.R_base ho0) hb); have n3_ := Aside0.mk (Kd.R_elder' (by (with_reducible repeat (first | apply Kd.R_alloc | apply Kd.R_drewN | apply Kd.R_drew)); exact HO_280002.out) (Kd.R_base ho1) hb); have n4_ := Aside0.mk (Kd.R_lower (Kd.R_new' ho0 (Kd.R_lt (by (with_reducible repeat (first | apply Kd.R_alloc | apply Kd.R_drewN | apply Kd.R_drew)); exact HO_280001.out))) (below_size (by repeat (first | (with_reducible first | exact HB.out | apply below_alloc | apply pw_below_drewN | apply below_drew1 | refine below_set ?_ GE259.out | refine below_set ?_ GE279.out) | exact HB.out)))); have n5_ := Aside0.mk (Kd.R_lower (Kd.R_new' ho1 (Kd.R_lt (by (with_reducible repeat (first | apply Kd.R_alloc | apply Kd.R_drewN | apply Kd.R_drew)); exact HO_280002.out))) (below_size (by repeat (first | (with_reducible first | exact HB.out | apply below_alloc | apply pw_below_drewN | apply below_drew1 | refine below_set ?_ GE259.out | refine below_set ?_ GE279.out) | exact HB.out)))); have n6_ := Aside0.mk (blk_below (g := gb259) (o := .cells #[.int .i8 a0_0, .slice A0_1 l0_1.length c0_1, .slice A0_2 l0_2.length c0_2] 26 (0, 0)) (by (with_reducible repeat (first | refine blk_drewN ?_ _ | refine blk_drew ?_ | refine blk_alloc ?_ _)); exact BK259.out) hb); have n7_ := Aside0.mk (blk_below (g := gb279) (o := .cells #[.int .i8 t272, .slice Ao23 t294.length co23, .slice Ao24 t295.length co24] 31 (0, 0)) (by (with_reducible repeat (first | refine blk_drewN ?_ _ | refine blk_drew ?_ | refine blk_alloc ?_ _)); exact BK279.out) hb); have n8_ := Aside0.mk (below_step (by repeat (first | (with_reducible first | exact HB.out | apply below_alloc | apply pw_below_drewN | apply below_drew1 | refine below_set ?_ GE259.out | refine below_set ?_ GE279.out) | exact HB.out)) hb); clear HO_4; clear HO_7; clear HO_280001; clear HO_280002; clear BK259; clear BK279; clear HB; have HO_4 := n0_; have HO_7 := n1_; have HO_280001 := n2_; have HO_280002 := n3_; have HO303 := n4_; have HO306 := n5_; have BK259 := n6_; have BK279 := n7_; have HB := n8_; clear n0_ n1_ n2_ n3_ n4_ n5_ n6_ n7_ n8_; (try clear hb); (try clear hb2); (try clear hk); (try clear hi); (try clear ho0); (try clear ho1); obtain ⟨Ao71, co71, eo71⟩ := Kd.R_slice HO303.out; subst eo71; obtain ⟨Ao72, co72, eo72⟩ := Kd.R_slice HO306.out; subst eo72) | ((with_reducible refine gate_callee (f := 46) rfl ?_); refine goesL_ (some 76) rfl rfl Try.func46 (by kernel_rfl) rfl #[.agg #[.int .i8 t300, .slice Ao71 t301.length co71, .slice Ao72 t304.length co72]] rfl (by (try simp only [List.map_toArray, List.map_cons, List.map_nil]); first | done | rfl | (simp only [List.length_drop, List.length_take]; rfl)) ?_; (with_reducible refine (impl_TablesOf.calls kj62 t300 _ _ t301 _ _ t304 t307 t310 _ ?side1 ?side2 ?side3 ?side4 A66.out).mono ?_); (case side1 => repeat (first | exact (Kd.R_reads' HO303.out).2.2 | (with_reducible refine Kd.C_alloc ?_ _) | (with_reducible refine Kd.C_drewN ?_ _) | (with_reducible refine Kd.C_drew ?_))); (case side2 => exact (Kd.R_reads' HO303.out).2.1); (case side3 => repeat (first | exact (Kd.R_reads' HO306.out).2.2 | (with_reducible refine Kd.C_alloc ?_ _) | (with_reducible refine Kd.C_drewN ?_ _) | (with_reducible refine Kd.C_drew ?_))); (case side4 => exact (Kd.R_reads' HO306.out).2.1); rintro e w73 ⟨v308, rfl, ho0, hb⟩; refine ⟨_, rfl, ?_⟩; have n0_ := Aside0.mk (Kd.R_elder' (by (with_reducible repeat (first | apply Kd.R_alloc | apply Kd.R_drewN | apply Kd.R_drew)); exact HO_4.out) (Kd.R_base ho0) hb); have n1_ := Aside0.mk (Kd.R_elder' (by (with_reducible repeat (first | apply Kd.R_alloc | apply Kd.R_drewN | apply Kd.R_drew)); exact HO_7.out) (Kd.R_base ho0) hb); have n2_ := Aside0.mk (Kd.R_below (by (with_reducible repeat (first | apply Kd.R_alloc | apply Kd.R_drewN | apply Kd.R_drew)); exact HO_280001.out) hb); have n3_ := Aside0.mk (Kd.R_below (by (with_reducible repeat (first | apply Kd.R_alloc | apply Kd.R_drewN | apply Kd.R_drew)); exact HO_280002.out) hb); have n4_ := Aside0.mk (Kd.R_below (by (with_reducible repeat (first | apply Kd.R_alloc | apply Kd.R_drewN | apply Kd.R_drew)); exact HO303.out) hb); have n5_ := Aside0.mk (Kd.R_below (by (with_reducible repeat (first | apply Kd.R_alloc | apply Kd.R_drewN | apply Kd.R_drew)); exact HO306.out) hb); have n6_ := Aside0.mk (Kd.R_lower (Kd.R_new' (Kd.R_new' ho0 (Kd.R_lt (by (with_reducible repeat (first | apply Kd.R_alloc | apply Kd.R_drewN | apply Kd.R_drew)); exact HO_4.out))) (Kd.R_lt (by (with_reducible repeat (first | apply Kd.R_alloc | apply Kd.R_drewN | apply Kd.R_drew)); exact HO_7.out))) (below_size (by repeat (first | (with_reducible first | exact HB.out | apply below_alloc | apply pw_below_drewN | apply below_drew1 | refine below_set ?_ GE259.out | refine below_set ?_ GE279.out) | exact HB.out)))); have n7_ := Aside0.mk (blk_below (g := gb259) (o := .cells #[.int .i8 a0_0, .slice A0_1 l0_1.length c0_1, .slice A0_2 l0_2.length c0_2] 26 (0, 0)) (by (with_reducible repeat (first | refine blk_drewN ?_ _ | refine blk_drew ?_ | refine blk_alloc ?_ _)); exact BK259.out) hb); have n8_ := Aside0.mk (blk_below (g := gb279) (o := .cells #[.int .i8 t272, .slice Ao23 t294.length co23, .slice Ao24 t295.length co24] 31 (0, 0)) (by (with_reducible repeat (first | refine blk_drewN ?_ _ | refine blk_drew ?_ | refine blk_alloc ?_ _)); exact BK279.out) hb); have n9_ := Aside0.mk (below_step (by repeat (first | (with_reducible first | exact HB.out | apply below_alloc | apply pw_below_drewN | apply below_drew1 | refine below_set ?_ GE259.out | refine below_set ?_ GE279.out) | exact HB.out)) hb); clear HO_4; clear HO_7; clear HO_280001; clear HO_280002; clear HO303; clear HO306; clear BK259; clear BK279; clear HB; have HO_4 := n0_; have HO_7 := n1_; have HO_280001 := n2_; have HO_280002 := n3_; have HO303 := n4_; have HO306 := n5_; have HO309 := n6_; have BK259 := n7_; have BK279 := n8_; have HB := n9_; clear n0_ n1_ n2_ n3_ n4_ n5_ n6_ n7_ n8_ n9_; (try clear hb); (try clear hb2); (try clear hk); (try clear hi); (try clear ho0)))
                                  (try simp only [Act.put, List.setIfInBounds_toArray, List.set_cons_zero, List.set_cons_succ])
                                  go_cut [87] (fun v87 wc => ∃ (kq : Nat) (x87_66 : Bool), v87 = .bool x87_66 ∧ Aside0 (laws_FnExactTablesOf.j8 kq t298 t297 x87_66 = some r) ∧ Aside0 (kq ≤ kj62) ∧ Aside0 (Kd.R (Kd.int .u64) 98 wc w.heap.size (fun _ => True) (.slice Ao60 t298.length co60) t298) ∧ Aside0 (Kd.R k81 81 wc w.heap.size (fun _ => True) (.slice Ao23 t294.length co23) t294) ∧ Aside0 (Kd.R (Kd.int .i16) 79 wc w.heap.size (fun _ => True) (.slice Ao24 t295.length co24) t295) ∧ Aside0 (wc.heap[gb259]? = some (.cells #[.int .i8 a0_0, (.slice A0_1 l0_1.length c0_1), (.slice A0_2 l0_2.length c0_2)] 26 (0, 0))) ∧ Aside0 (wc.heap[gb279]? = some (.cells #[.int .i8 t272, (.slice Ao23 t294.length co23), (.slice Ao24 t295.length co24)] 31 (0, 0))) ∧ Aside0 (Below w.heap.size w wc))
                                  case first =>
                                    have H := HC67.out
                                    clear HC67
                                    replace H := Option.bind_eq_some_iff.mp H
                                    obtain ⟨t311, A740, H⟩ := H
                                    replace H : (if t311 = true then (laws_FnExactTablesOf.j8 kj62 t298 t297 (t310 != t271)) else (laws_FnExactTablesOf.j8 kj62 t298 t297 true)) = some r := H
                                    have A74 := Aside0.mk A740
                                    clear A740
                                    by_cases c75 : t311 = true
                                    · subst c75
                                      have H1 : (laws_FnExactTablesOf.j8 kj62 t298 t297 (t310 != t271)) = some r := by rw [if_pos rfl] at H; exact H
                                      clear H
                                      have H := H1
                                      clear H1
                                      have H' := Aside0.mk H
                                      clear H
                                      obtain ⟨Ao76, co76, eo76⟩ := Kd.R_slice HO309.out
                                      subst eo76
                                      obtain ⟨Ao77, co77, eo77⟩ := Kd.R_slice HO_4.out
                                      subst eo77
                                      go_wp2_with (first | ((with_reducible refine gate_callee (f := 47) rfl ?_); refine goesL_ (some 81) rfl rfl Try.func47 (by kernel_rfl) rfl #[.slice Ao76 t307.length co76, .slice Ao77 t268.length co77] rfl (by (try simp only [List.map_toArray, List.map_cons, List.map_nil]); first | done | rfl | (simp only [List.length_drop, List.length_take]; rfl)) ?_; (with_reducible refine (laws_eqUint64S.calls kj62 _ _ t307 _ _ t268 true _ ?side1 ?side2 ?side3 ?side4 A74.out).mono ?_); (case side1 => repeat (first | exact (Kd.R_reads' HO309.out).2.2 | (with_reducible refine Kd.C_alloc ?_ _) | (with_reducible refine Kd.C_drewN ?_ _) | (with_reducible refine Kd.C_drew ?_))); (case side2 => exact (Kd.R_reads' HO309.out).2.1); (case side3 => repeat (first | exact (Kd.R_reads' HO_4.out).2.2 | (with_reducible refine Kd.C_alloc ?_ _) | (with_reducible refine Kd.C_drewN ?_ _) | (with_reducible refine Kd.C_drew ?_))); (case side4 => exact (Kd.R_reads' HO_4.out).2.1); rintro e w' ⟨rfl, ⟨nd, rfl⟩⟩; refine ⟨_, rfl, ?_⟩))
                                      go_meet
                                      case rel => exact ⟨_, ((t310 != t271)), (by first | rfl | (simp; done) | (simp [*]; done) | (exact congrArg (Value.int .i64) (wrap_eq (by omega)))), H', ⟨by have := HJ2.out; have := HJ11.out; have := HJ31.out; have := HJ35.out; have := HJ43.out; have := HJ54.out; have := HJ58.out; have := HJ62.out; first | omega | exact Nat.le_refl _⟩, ⟨by (try simp only [hl280001_43]); (try simp only [hl280002_43]); (try simp only [hl7_58]); (with_reducible repeat (first | apply Kd.R_alloc | apply Kd.R_drewN | apply Kd.R_drew)); exact Kd.R_mono HO_7.out (fun _ hk => trivial)⟩, ⟨by (try simp only [hl280001_43]); (try simp only [hl280002_43]); (try simp only [hl7_58]); (with_reducible repeat (first | apply Kd.R_alloc | apply Kd.R_drewN | apply Kd.R_drew)); exact Kd.R_mono HO_280001.out (fun _ hk => trivial)⟩, ⟨by (try simp only [hl280001_43]); (try simp only [hl280002_43]); (try simp only [hl7_58]); (with_reducible repeat (first | apply Kd.R_alloc | apply Kd.R_drewN | apply Kd.R_drew)); exact Kd.R_mono HO_280002.out (fun _ hk => trivial)⟩, ⟨by (try simp only [hl280001_43]); (try simp only [hl280002_43]); (try simp only [hl7_58]); (with_reducible repeat (first | refine blk_drewN ?_ _ | refine blk_drew ?_ | refine blk_alloc ?_ _)); exact BK259.out⟩, ⟨by (try simp only [hl280001_43]); (try simp only [hl280002_43]); (try simp only [hl7_58]); (with_reducible repeat (first | refine blk_drewN ?_ _ | refine blk_drew ?_ | refine blk_alloc ?_ _)); exact BK279.out⟩, ⟨by repeat (first | (with_reducible first | exact HB.out | apply below_alloc | apply pw_below_drewN | apply below_drew1 | refine below_set ?_ GE259.out | refine below_set ?_ GE279.out) | exact HB.out)⟩⟩
                                    · replace c75 := Bool.eq_false_iff.mpr c75
                                      subst c75
                                      have H1 : (laws_FnExactTablesOf.j8 kj62 t298 t297 true) = some r := by rw [if_neg (show ¬ (false = true) by decide)] at H; exact H
                                      clear H
                                      have H := H1
                                      clear H1
                                      have H' := Aside0.mk H
                                      clear H
                                      obtain ⟨Ao78, co78, eo78⟩ := Kd.R_slice HO309.out
                                      subst eo78
                                      obtain ⟨Ao79, co79, eo79⟩ := Kd.R_slice HO_4.out
                                      subst eo79
                                      go_wp2_with (first | ((with_reducible refine gate_callee (f := 47) rfl ?_); refine goesL_ (some 81) rfl rfl Try.func47 (by kernel_rfl) rfl #[.slice Ao78 t307.length co78, .slice Ao79 t268.length co79] rfl (by (try simp only [List.map_toArray, List.map_cons, List.map_nil]); first | done | rfl | (simp only [List.length_drop, List.length_take]; rfl)) ?_; (with_reducible refine (laws_eqUint64S.calls kj62 _ _ t307 _ _ t268 false _ ?side1 ?side2 ?side3 ?side4 A74.out).mono ?_); (case side1 => repeat (first | exact (Kd.R_reads' HO309.out).2.2 | (with_reducible refine Kd.C_alloc ?_ _) | (with_reducible refine Kd.C_drewN ?_ _) | (with_reducible refine Kd.C_drew ?_))); (case side2 => exact (Kd.R_reads' HO309.out).2.1); (case side3 => repeat (first | exact (Kd.R_reads' HO_4.out).2.2 | (with_reducible refine Kd.C_alloc ?_ _) | (with_reducible refine Kd.C_drewN ?_ _) | (with_reducible refine Kd.C_drew ?_))); (case side4 => exact (Kd.R_reads' HO_4.out).2.1); rintro e w' ⟨rfl, ⟨nd, rfl⟩⟩; refine ⟨_, rfl, ?_⟩))
                                      go_meet
                                      case rel => exact ⟨_, (true), (by first | rfl | (simp; done) | (simp [*]; done) | (exact congrArg (Value.int .i64) (wrap_eq (by omega)))), H', ⟨by have := HJ2.out; have := HJ11.out; have := HJ31.out; have := HJ35.out; have := HJ43.out; have := HJ54.out; have := HJ58.out; have := HJ62.out; first | omega | exact Nat.le_refl _⟩, ⟨by (try simp only [hl280001_43]); (try simp only [hl280002_43]); (try simp only [hl7_58]); (with_reducible repeat (first | apply Kd.R_alloc | apply Kd.R_drewN | apply Kd.R_drew)); exact Kd.R_mono HO_7.out (fun _ hk => trivial)⟩, ⟨by (try simp only [hl280001_43]); (try simp only [hl280002_43]); (try simp only [hl7_58]); (with_reducible repeat (first | apply Kd.R_alloc | apply Kd.R_drewN | apply Kd.R_drew)); exact Kd.R_mono HO_280001.out (fun _ hk => trivial)⟩, ⟨by (try simp only [hl280001_43]); (try simp only [hl280002_43]); (try simp only [hl7_58]); (with_reducible repeat (first | apply Kd.R_alloc | apply Kd.R_drewN | apply Kd.R_drew)); exact Kd.R_mono HO_280002.out (fun _ hk => trivial)⟩, ⟨by (try simp only [hl280001_43]); (try simp only [hl280002_43]); (try simp only [hl7_58]); (with_reducible repeat (first | refine blk_drewN ?_ _ | refine blk_drew ?_ | refine blk_alloc ?_ _)); exact BK259.out⟩, ⟨by (try simp only [hl280001_43]); (try simp only [hl280002_43]); (try simp only [hl7_58]); (with_reducible repeat (first | refine blk_drewN ?_ _ | refine blk_drew ?_ | refine blk_alloc ?_ _)); exact BK279.out⟩, ⟨by repeat (first | (with_reducible first | exact HB.out | apply below_alloc | apply pw_below_drewN | apply below_drew1 | refine below_set ?_ GE259.out | refine below_set ?_ GE279.out) | exact HB.out)⟩⟩
                                  case rest =>
                                    clear HC67
                                    try clear c1
                                    try clear c2
                                    try clear p2
                                    try clear c3
                                    try clear c4
                                    try clear c5
                                    try clear c6
                                    try clear c7
                                    try clear c7b0
                                    try clear c12
                                    try clear c21
                                    try clear c23
                                    try clear c25
                                    try clear c27
                                    try clear c33
                                    try clear c42
                                    try clear c45
                                    try clear c46
                                    try clear c47
                                    try clear c48
                                    try clear c48b0
                                    try clear c49
                                    try clear c50
                                    try clear c56
                                    try clear c62
                                    try clear c62b0
                                    try clear c64
                                    try clear c64b0
                                    try clear c64b1
                                    try clear c68
                                    try clear c75
                                    try clear hcz13_0
                                    try clear hcz13_1
                                    try clear hcz13_2
                                    try clear hcz18_0
                                    try clear hcz18_1
                                    try clear hcz18_2
                                    try clear hcz22_0
                                    try clear hcz22_1
                                    try clear hcz22_2
                                    try clear hcz46_0
                                    try clear hcz46_1
                                    try clear hcz46_2
                                    try clear hcz5_0
                                    try clear hcz5_1
                                    try clear hcz5_2
                                    try clear hcz69_0
                                    try clear hcz69_1
                                    try clear hcz69_2
                                    try clear hfz13_0
                                    try clear hfz13_1
                                    try clear hfz13_2
                                    try clear hfz18_0
                                    try clear hfz18_1
                                    try clear hfz18_2
                                    try clear hfz22_0
                                    try clear hfz22_1
                                    try clear hfz22_2
                                    try clear hfz46_0
                                    try clear hfz46_1
                                    try clear hfz46_2
                                    try clear hfz5_0
                                    try clear hfz5_1
                                    try clear hfz5_2
                                    try clear hfz69_0
                                    try clear hfz69_1
                                    try clear hfz69_2
                                    try clear p2
                                    obtain ⟨kq, x87_66, rfl, HA, HJ66, HO_7, HO_280001, HO_280002, BK259, BK279, HB⟩ := hcut
                                    cases kq with
                                    | zero => exact absurd HA.out (by simp [laws_FnExactTablesOf.j8])
                                    | succ kj66 =>
                                      have H := HA.out
                                      clear HA
                                      simp only [laws_FnExactTablesOf.j8] at H
                                      have HC80 := Aside0.mk H
                                      clear H
                                      go_upto_if 87 with (fail)
                                      go_cut [] (fun wc => ∃ (kq : Nat), Aside0 (laws_FnExactTablesOf.j9 kq t298 t297 = some r) ∧ Aside0 (kq ≤ kj66) ∧ Aside0 (Kd.R (Kd.int .u64) 98 wc w.heap.size (fun _ => True) (.slice Ao60 t298.length co60) t298) ∧ Aside0 (Kd.R k81 81 wc w.heap.size (fun _ => True) (.slice Ao23 t294.length co23) t294) ∧ Aside0 (Kd.R (Kd.int .i16) 79 wc w.heap.size (fun _ => True) (.slice Ao24 t295.length co24) t295) ∧ Aside0 (wc.heap[gb259]? = some (.cells #[.int .i8 a0_0, (.slice A0_1 l0_1.length c0_1), (.slice A0_2 l0_2.length c0_2)] 26 (0, 0))) ∧ Aside0 (wc.heap[gb279]? = some (.cells #[.int .i8 t272, (.slice Ao23 t294.length co23), (.slice Ao24 t295.length co24)] 31 (0, 0))) ∧ Aside0 (Below w.heap.size w wc))
                                      case first =>
                                        have H := HC80.out
                                        clear HC80
                                        by_cases c81 : x87_66 = true
                                        · subst c81
                                          have H1 : (some false) = some r := by rw [if_pos rfl] at H; exact H
                                          clear H
                                          have H := H1
                                          clear H1
                                          obtain rfl := Option.some.inj H
                                          go_wp2
                                          go_ret
                                          exact ⟨by first | rfl | (simp [errW_none, errW_some] <;> rfl) | (simp [*, errW_none, errW_some] <;> rfl), by repeat (first | (with_reducible first | exact HB.out | apply below_alloc | apply pw_below_drewN | apply below_drew1 | refine below_set ?_ GE259.out | refine below_set ?_ GE279.out) | exact HB.out)⟩
                                        · replace c81 := Bool.eq_false_iff.mpr c81
                                          subst c81
                                          have H1 : (laws_FnExactTablesOf.j9 kj66 t298 t297) = some r := by rw [if_neg (show ¬ (false = true) by decide)] at H; exact H
                                          clear H
                                          have H := H1
                                          clear H1
                                          have H' := Aside0.mk H
                                          clear H
                                          go_wp2
                                          go_meet
                                          case rel => exact ⟨_, H', ⟨by have := HJ2.out; have := HJ11.out; have := HJ31.out; have := HJ35.out; have := HJ43.out; have := HJ54.out; have := HJ58.out; have := HJ62.out; have := HJ66.out; first | omega | exact Nat.le_refl _⟩, ⟨by (try simp only [hl280001_43]); (try simp only [hl280002_43]); (try simp only [hl7_58]); (with_reducible repeat (first | apply Kd.R_alloc | apply Kd.R_drewN | apply Kd.R_drew)); exact HO_7.out⟩, ⟨by (try simp only [hl280001_43]); (try simp only [hl280002_43]); (try simp only [hl7_58]); (with_reducible repeat (first | apply Kd.R_alloc | apply Kd.R_drewN | apply Kd.R_drew)); exact HO_280001.out⟩, ⟨by (try simp only [hl280001_43]); (try simp only [hl280002_43]); (try simp only [hl7_58]); (with_reducible repeat (first | apply Kd.R_alloc | apply Kd.R_drewN | apply Kd.R_drew)); exact HO_280002.out⟩, ⟨by (try simp only [hl280001_43]); (try simp only [hl280002_43]); (try simp only [hl7_58]); (with_reducible repeat (first | refine blk_drewN ?_ _ | refine blk_drew ?_ | refine blk_alloc ?_ _)); exact BK259.out⟩, ⟨by (try simp only [hl280001_43]); (try simp only [hl280002_43]); (try simp only [hl7_58]); (with_reducible repeat (first | refine blk_drewN ?_ _ | refine blk_drew ?_ | refine blk_alloc ?_ _)); exact BK279.out⟩, ⟨by repeat (first | (with_reducible first | exact HB.out | apply below_alloc | apply pw_below_drewN | apply below_drew1 | refine below_set ?_ GE259.out | refine below_set ?_ GE279.out) | exact HB.out)⟩⟩
                                      case rest =>
                                        clear HC80
                                        try clear c1
                                        try clear c2
                                        try clear p2
                                        try clear c3
                                        try clear c4
                                        try clear c5
                                        try clear c6
                                        try clear c7
                                        try clear c7b0
                                        try clear c8
                                        try clear c12
                                        try clear c21
                                        try clear c23
                                        try clear c25
                                        try clear c27
                                        try clear c33
                                        try clear c42
                                        try clear c45
                                        try clear c46
                                        try clear c47
                                        try clear c48
                                        try clear c48b0
                                        try clear c49
                                        try clear c50
                                        try clear c56
                                        try clear c62
                                        try clear c62b0
                                        try clear c64
                                        try clear c64b0
                                        try clear c64b1
                                        try clear c68
                                        try clear c75
                                        try clear c81
                                        try clear hcz13_0
                                        try clear hcz13_1
                                        try clear hcz13_2
                                        try clear hcz18_0
                                        try clear hcz18_1
                                        try clear hcz18_2
                                        try clear hcz22_0
                                        try clear hcz22_1
                                        try clear hcz22_2
                                        try clear hcz46_0
                                        try clear hcz46_1
                                        try clear hcz46_2
                                        try clear hcz5_0
                                        try clear hcz5_1
                                        try clear hcz5_2
                                        try clear hcz69_0
                                        try clear hcz69_1
                                        try clear hcz69_2
                                        try clear hfz13_0
                                        try clear hfz13_1
                                        try clear hfz13_2
                                        try clear hfz18_0
                                        try clear hfz18_1
                                        try clear hfz18_2
                                        try clear hfz22_0
                                        try clear hfz22_1
                                        try clear hfz22_2
                                        try clear hfz46_0
                                        try clear hfz46_1
                                        try clear hfz46_2
                                        try clear hfz5_0
                                        try clear hfz5_1
                                        try clear hfz5_2
                                        try clear hfz69_0
                                        try clear hfz69_1
                                        try clear hfz69_2
                                        try clear p2
                                        obtain ⟨kq, HA, HJ79, HO_7, HO_280001, HO_280002, BK259, BK279, HB⟩ := hcut
                                        cases kq with
                                        | zero => exact absurd HA.out (by simp [laws_FnExactTablesOf.j9])
                                        | succ kj79 =>
                                          have H := HA.out
                                          clear HA
                                          simp only [laws_FnExactTablesOf.j9] at H
                                          replace H := Option.bind_eq_some_iff.mp H
                                          obtain ⟨t312, A820, H⟩ := H
                                          replace H : (if t312 < 0 then (some false) else (if t312 = t297 then (some true) else (some false))) = some r := H
                                          have A82 := Aside0.mk A820
                                          clear A820
                                          by_cases c83 : t312 < 0
                                          · rw [if_pos c83] at H
                                            have c83b0 : decide (t312 < 0) = true := decide_eq_true c83
                                            clear c83
                                            obtain rfl := Option.some.inj H
                                            go_wp2_with (first | ((with_reducible refine gate_callee (f := 50) rfl ?_); refine goesL_ (some 90) rfl rfl Try.func50 (by kernel_rfl) rfl #[.slice Ao60 t298.length co60, .int .i64 1] rfl (by (try simp only [List.map_toArray, List.map_cons, List.map_nil]); first | done | rfl | (simp only [List.length_drop, List.length_take]; rfl)) ?_; (with_reducible refine (laws_heldUint64S.calls kj79 _ _ t298 1 t312 _ ?side1 ?side2 A82.out).mono ?_); (case side1 => repeat (first | exact (Kd.R_reads' HO_7.out).2.2 | (with_reducible refine Kd.C_alloc ?_ _) | (with_reducible refine Kd.C_drewN ?_ _) | (with_reducible refine Kd.C_drew ?_))); (case side2 => exact (Kd.R_reads' HO_7.out).2.1); rintro e w' ⟨rfl, ⟨nd, rfl⟩⟩; refine ⟨_, rfl, ?_⟩))
                                            go_ret
                                            exact ⟨by first | rfl | (simp [errW_none, errW_some] <;> rfl) | (simp [*, errW_none, errW_some] <;> rfl), by repeat (first | (with_reducible first | exact HB.out | apply below_alloc | apply pw_below_drewN | apply below_drew1 | refine below_set ?_ GE259.out | refine below_set ?_ GE279.out) | exact HB.out)⟩
                                          · rw [if_neg c83] at H
                                            have c83b0 : decide (t312 < 0) = false := decide_eq_false c83
                                            clear c83
                                            by_cases c84 : t312 = t297
                                            · rw [if_pos c84] at H
                                              have c84b0 : (t312 == t297) = true := beq_iff_eq.mpr c84
                                              have c84b1 : (t312 != t297) = false := bne_eq_false_iff_eq.mpr c84
                                              clear c84
                                              obtain rfl := Option.some.inj H
                                              go_wp2_with (first | ((with_reducible refine gate_callee (f := 50) rfl ?_); refine goesL_ (some 90) rfl rfl Try.func50 (by kernel_rfl) rfl #[.slice Ao60 t298.length co60, .int .i64 1] rfl (by (try simp only [List.map_toArray, List.map_cons, List.map_nil]); first | done | rfl | (simp only [List.length_drop, List.length_take]; rfl)) ?_; (with_reducible refine (laws_heldUint64S.calls kj79 _ _ t298 1 t312 _ ?side1 ?side2 A82.out).mono ?_); (case side1 => repeat (first | exact (Kd.R_reads' HO_7.out).2.2 | (with_reducible refine Kd.C_alloc ?_ _) | (with_reducible refine Kd.C_drewN ?_ _) | (with_reducible refine Kd.C_drew ?_))); (case side2 => exact (Kd.R_reads' HO_7.out).2.1); rintro e w' ⟨rfl, ⟨nd, rfl⟩⟩; refine ⟨_, rfl, ?_⟩))
                                              go_ret
                                              exact ⟨by first | rfl | (simp [errW_none, errW_some] <;> rfl) | (simp [*, errW_none, errW_some] <;> rfl), by repeat (first | (with_reducible first | exact HB.out | apply below_alloc | apply pw_below_drewN | apply below_drew1 | refine below_set ?_ GE259.out | refine below_set ?_ GE279.out) | exact HB.out)⟩
                                            · rw [if_neg c84] at H
                                              have c84b0 : (t312 == t297) = false := beq_eq_false_iff_ne.mpr c84
                                              have c84b1 : (t312 != t297) = true := bne_iff_ne.mpr c84
                                              obtain rfl := Option.some.inj H
                                              go_wp2_with (first | ((with_reducible refine gate_callee (f := 50) rfl ?_); refine goesL_ (some 90) rfl rfl Try.func50 (by kernel_rfl) rfl #[.slice Ao60 t298.length co60, .int .i64 1] rfl (by (try simp only [List.map_toArray, List.map_cons, List.map_nil]); first | done | rfl | (simp only [List.length_drop, List.length_take]; rfl)) ?_; (with_reducible refine (laws_heldUint64S.calls kj79 _ _ t298 1 t312 _ ?side1 ?side2 A82.out).mono ?_); (case side1 => repeat (first | exact (Kd.R_reads' HO_7.out).2.2 | (with_reducible refine Kd.C_alloc ?_ _) | (with_reducible refine Kd.C_drewN ?_ _) | (with_reducible refine Kd.C_drew ?_))); (case side2 => exact (Kd.R_reads' HO_7.out).2.1); rintro e w' ⟨rfl, ⟨nd, rfl⟩⟩; refine ⟨_, rfl, ?_⟩))
                                              go_ret
                                              exact ⟨by first | rfl | (simp [errW_none, errW_some] <;> rfl) | (simp [*, errW_none, errW_some] <;> rfl), by repeat (first | (with_reducible first | exact HB.out | apply below_alloc | apply pw_below_drewN | apply below_drew1 | refine below_set ?_ GE259.out | refine below_set ?_ GE279.out) | exact HB.out)⟩

end Go.Proofs.Ytmpmanfoiocfgaa.PFnExactTablesOf
