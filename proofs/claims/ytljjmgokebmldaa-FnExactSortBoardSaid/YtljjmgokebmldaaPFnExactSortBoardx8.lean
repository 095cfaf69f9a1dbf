-- WRITTEN by xprint.py, a program of this session's. Not trusted: Lean checks it.
-- packed by pack.py
import Derived.Test.YtljjmgokebmldaaPFnExactSortBoardx0
import Derived.Test.YtljjmgokebmldaaPFnExactSortBoardx2
import Derived.Test.YtljjmgokebmldaaPFnExactSortBoardx4
import Derived.Test.YtljjmgokebmldaaPFnExactSortBoardx6
import Derived.Test.YtljjmgokebmldaaPFnExactSortBoardx7
import Derived.Test.YtljjmgokebmldaaTFnExactSortBoarda
namespace Go.Proofs.Ytljjmgokebmldaa.PFnExactSortBoard
open Go.RowKit Go.Proofs.YtljjmgokebmldaaW.PrintWords Go.Proofs.YtljjmgokebmldaaW.PrintLast Go.Proofs.YtljjmgokebmldaaW.PrintMore Go.Proofs.YtljjmgokebmldaaX
attribute [local go_sem] max2_int min2_int max_two min_two max_three min_three max_four min_four   -- for this text's walks alone
set_option maxHeartbeats 8000000
set_option maxRecDepth 100000
set_option linter.unusedVariables false
set_option linter.unusedSimpArgs false

mutual
def laws_heldPieceS.l0 : Nat → List (S43) → Int → Int → Option (Int)
  | 0, _, _, _ => none
  | k + 1, x0, x1, x5 => if x5 < (x0.length : Int) then (laws_heldPieceS.l1 k x0 x1 x5 0) else (some x1)
def laws_heldPieceS.l1 : Nat → List (S43) → Int → Int → Int → Option (Int)
  | 0, _, _, _, _ => none
  | k + 1, x0, x1, x5, x6 => if x6 < 2 then (if 0 ≤ x5 then (if x5 < (x0.length : Int) then (if x6 = 0 then (if ((rd_T43 x0 x5).f0.f0) = (IntKind.i8.wrap (x1)) then (laws_heldPieceS.l1 k x0 (wrap64 (x1 + 1)) x5 (wrap64 (x6 + 1))) else (some (-1))) else (if x6 = 1 then (if ((rd_T43 x0 x5).f0.f1) = (IntKind.i8.wrap (x1)) then (laws_heldPieceS.l1 k x0 (wrap64 (x1 + 1)) x5 (wrap64 (x6 + 1))) else (some (-1))) else (none))) else (none)) else (none)) else (if 0 ≤ x5 then (if x5 < (x0.length : Int) then (if ((rd_T43 x0 x5).f1) = (IntKind.i8.wrap (x1)) then (if ((rd_T43 x0 x5).f2) = (IntKind.i8.wrap (wrap64 (x1 + 1))) then (if ((rd_T43 x0 x5).f3) = (IntKind.i8.wrap (wrap64 ((wrap64 (x1 + 1)) + 1))) then (laws_heldPieceS.l0 k x0 (wrap64 ((wrap64 ((wrap64 (x1 + 1)) + 1)) + 1)) (wrap64 (x5 + 1))) else (some (-1))) else (some (-1))) else (some (-1))) else (none)) else (none))
end
def laws_heldPieceS.f (k : Nat) (l0 : List (S43)) (a1 : Int) : Option (Int) := laws_heldPieceS.l0 k l0 a1 0
theorem laws_heldPieceS.mono_l : ∀ k, (∀ y0 y1 y2, LeO (laws_heldPieceS.l0 k y0 y1 y2) (laws_heldPieceS.l0 (k + 1) y0 y1 y2)) ∧ (∀ y0 y1 y2 y3, LeO (laws_heldPieceS.l1 k y0 y1 y2 y3) (laws_heldPieceS.l1 (k + 1) y0 y1 y2 y3))
  | 0 => ⟨fun _ _ _ r h => by simp [laws_heldPieceS.l0] at h, fun _ _ _ _ r h => by simp [laws_heldPieceS.l1] at h⟩
  | k + 1 => by
    obtain ⟨ih0, ih1⟩ := laws_heldPieceS.mono_l k
    refine ⟨?_, ?_⟩
    · intro y0 y1 y2
      unfold laws_heldPieceS.l0
      repeat' first | (with_reducible first | apply ih0 | apply ih1 | exact LeO.refl _ | exact LeO.none _ | refine LeO.ite ?_ ?_ | refine LeO.bind ?_ (fun _ => ?_)) | apply ih0 | apply ih1 | exact LeO.none _ | refine LeO.ite ?_ ?_ | refine LeO.bind ?_ (fun _ => ?_)
    · intro y0 y1 y2 y3
      unfold laws_heldPieceS.l1
      repeat' first | (with_reducible first | apply ih0 | apply ih1 | exact LeO.refl _ | exact LeO.none _ | refine LeO.ite ?_ ?_ | refine LeO.bind ?_ (fun _ => ?_)) | apply ih0 | apply ih1 | exact LeO.none _ | refine LeO.ite ?_ ?_ | refine LeO.bind ?_ (fun _ => ?_)
theorem laws_heldPieceS.mono : ∀ a0 a1 k, LeO (laws_heldPieceS.f k a0 a1) (laws_heldPieceS.f (k + 1) a0 a1) := by
 intro a0 a1 k
 obtain ⟨ih0, ih1⟩ := laws_heldPieceS.mono_l k
 unfold laws_heldPieceS.f
 repeat' first | (with_reducible first | apply ih0 | apply ih1 | exact LeO.refl _ | exact LeO.none _ | refine LeO.ite ?_ ?_ | refine LeO.bind ?_ (fun _ => ?_)) | apply ih0 | apply ih1 | exact LeO.none _ | refine LeO.ite ?_ ?_ | refine LeO.bind ?_ (fun _ => ?_)
theorem laws_heldPieceS.calls (k : Nat) (A0 : Option Addr) (c0 : Nat) (l0 : List (S43)) (a1 : Int) (r : Int) (w : World) (hr0 : Kd.C k43 w A0 l0.length l0) (hc0 : l0.length ≤ c0) (h : laws_heldPieceS.f k l0 a1 = some r) :
    Calls Try.prog 23 #[.slice A0 l0.length c0, .int .i64 a1] w fun e w' => e = .returned (.int .i64 r) ∧ Drawn0 w w' := by
 have HR0 := Aside0.mk hr0
 have HC0 := Aside0.mk hc0
 clear hr0 hc0
 have H : (laws_heldPieceS.l0 k l0 a1 0) = some r := h
 clear h
 have H' := Aside0.mk H
 clear H
 go_enter Try.func23, Try.ntmps23
 go_wp2
 go_loopg [1, 5] k (fun kq v1 v5 w' => ∃ (x1_1 : Int) (x5_1 : Int), v1 = .int .i64 x1_1 ∧ v5 = .int .i64 x5_1 ∧ Aside0 (laws_heldPieceS.l0 kq l0 x1_1 x5_1 = some r) ∧ Aside0 (kq ≤ k) ∧ Drawn0 w w')
 case atStart => exact ⟨(a1), (0), zi, zi, H', ⟨Nat.le_refl _⟩, zdr⟩
 clear H'
 try clear c2
 try clear p2
 obtain ⟨x1_1, x5_1, rfl, rfl, HA, HK1, ⟨m1, rfl⟩⟩ := hrel
 cases gk with
 | zero => exact absurd HA.out (by simp [laws_heldPieceS.l0])
 | succ k1 => ?_
 have H := HA.out
 clear HA
 simp only [laws_heldPieceS.l0] at H
 by_cases c3 : x5_1 < (l0.length : Int)
 rotate_left
 ·rw [if_neg c3] at H
  have c3b0 : decide (x5_1 < (l0.length : Int)) = false := decide_eq_false c3
  clear c3
  obtain rfl := Option.some.inj H
  go_wp2
  go_ret
  exact ⟨zi, zdr⟩
 rw [if_pos c3] at H
 have c3b0 : decide (x5_1 < (l0.length : Int)) = true := decide_eq_true c3
 clear c3
 have H' := Aside0.mk H
 clear H
 go_wp2
 go_loopg [1, 6] k1 (fun kq v1 v6 w' => ∃ (x1_2 : Int) (x6_2 : Int), v1 = .int .i64 x1_2 ∧ v6 = .int .i64 x6_2 ∧ Aside0 (laws_heldPieceS.l1 kq l0 x1_2 x5_1 x6_2 = some r) ∧ Aside0 (kq ≤ k1) ∧ Drawn0 w w')
 case atStart => exact ⟨(x1_1), (0), zi, zi, H', ⟨Nat.le_refl _⟩, zdr⟩
 clear H'
 try clear c2
 try clear p2
 try clear c3
 try clear c3b0
 try clear p2
 obtain ⟨x1_2, x6_2, rfl, rfl, HA, HK2, ⟨m2, rfl⟩⟩ := hrel
 cases gk with
 | zero => exact absurd HA.out (by simp [laws_heldPieceS.l1])
 | succ k2 => ?_
 have H := HA.out
 clear HA
 simp only [laws_heldPieceS.l1] at H
 by_cases c4 : x6_2 < 2
 ·rw [if_pos c4] at H
  have c4b0 : decide (x6_2 < 2) = true := decide_eq_true c4
  clear c4
  by_cases c5 : 0 ≤ x5_1
  rotate_left
  ·rw [if_neg c5] at H
   exact absurd H (by simp)
  rw [if_pos c5] at H
  have c5b0 : decide (0 ≤ x5_1) = true := decide_eq_true c5
  clear c5
  by_cases c6 : x5_1 < (l0.length : Int)
  rotate_left
  ·rw [if_neg c6] at H
   exact absurd H (by simp)
  rw [if_pos c6] at H
  have c6b0 : decide (x5_1 < (l0.length : Int)) = true := decide_eq_true c6
  clear c6
  by_cases c7 : x6_2 = 0
  ·rw [if_pos c7] at H
   have Ac7 : Aside0 (x6_2 = 0) := ⟨c7⟩
   clear c7
   have ar8e : x6_2 = 0 := by first | exact (show Aside0 (x6_2 = 0) by assumption).out | exact beq_iff_eq.mp (by assumption) | omega
   have ar8n : (x6_2).toNat = 0 := by rw [ar8e]; rfl
   have ar8l : decide (0 ≤ x6_2) = true := decide_eq_true (by omega)
   have ar8L := eq_true (of_decide_eq_true ar8l)
   have ar8h : decide (x6_2 < 2) = true := decide_eq_true (by omega)
   have ar8H := eq_true (of_decide_eq_true ar8h)
   clear ar8e
   by_cases c9 : ((rd_T43 l0 x5_1).f0.f0) = (IntKind.i8.wrap (x1_2))
   rotate_left
   ·rw [if_neg c9] at H
    have c9b0 : (((rd_T43 l0 x5_1).f0.f0) == (IntKind.i8.wrap (x1_2))) = false := beq_eq_false_iff_ne.mpr c9
    have c9b1 : (((rd_T43 l0 x5_1).f0.f0) != (IntKind.i8.wrap (x1_2))) = true := bne_iff_ne.mpr c9
    obtain rfl := Option.some.inj H
    have p211 : 0 ≤ (x5_1 : Int) := of_decide_eq_true zA
    have q211 : x5_1 < (l0.length : Int) := of_decide_eq_true zA
    obtain ⟨ad211, e211, hx211_0, hx211_1, hx211_2, hx211_3, hx211_4⟩ := at_T43 HR0.out x5_1 p211 q211
    cases e211
    replace p211 := eq_true p211
    replace q211 := eq_true q211
    go_wp2
    go_ret
    exact ⟨zi, zdr⟩
   rw [if_pos c9] at H
   have c9b0 : (((rd_T43 l0 x5_1).f0.f0) == (IntKind.i8.wrap (x1_2))) = true := beq_iff_eq.mpr c9
   have c9b1 : (((rd_T43 l0 x5_1).f0.f0) != (IntKind.i8.wrap (x1_2))) = false := bne_eq_false_iff_eq.mpr c9
   clear c9
   have H' := Aside0.mk H
   clear H
   have p211 : 0 ≤ (x5_1 : Int) := of_decide_eq_true zA
   have q211 : x5_1 < (l0.length : Int) := of_decide_eq_true zA
   obtain ⟨ad211, e211, hx211_0, hx211_1, hx211_2, hx211_3, hx211_4⟩ := at_T43 HR0.out x5_1 p211 q211
   cases e211
   replace p211 := eq_true p211
   replace q211 := eq_true q211
   go_wp2
   go_roundg k2
   case measure => have := HK1.out; have := HK2.out; omega
   case rel => exact ⟨(wrap64 (x1_2 + 1)), (wrap64 (x6_2 + 1)), zi, zi, H', ⟨by have := HK1.out; have := HK2.out; omega⟩, zdr⟩
  rw [if_neg c7] at H
  clear c7
  by_cases c10 : x6_2 = 1
  rotate_left
  ·rw [if_neg c10] at H
   exact absurd H (by simp)
  rw [if_pos c10] at H
  have Ac10 : Aside0 (x6_2 = 1) := ⟨c10⟩
  clear c10
  have ar11e : x6_2 = 1 := by first | exact (show Aside0 (x6_2 = 1) by assumption).out | exact beq_iff_eq.mp (by assumption) | omega
  have ar11n : (x6_2).toNat = 1 := by rw [ar11e]; rfl
  have ar11l : decide (0 ≤ x6_2) = true := decide_eq_true (by omega)
  have ar11L := eq_true (of_decide_eq_true ar11l)
  have ar11h : decide (x6_2 < 2) = true := decide_eq_true (by omega)
  have ar11H := eq_true (of_decide_eq_true ar11h)
  clear ar11e
  by_cases c12 : ((rd_T43 l0 x5_1).f0.f1) = (IntKind.i8.wrap (x1_2))
  rotate_left
  ·rw [if_neg c12] at H
   have c12b0 : (((rd_T43 l0 x5_1).f0.f1) == (IntKind.i8.wrap (x1_2))) = false := beq_eq_false_iff_ne.mpr c12
   have c12b1 : (((rd_T43 l0 x5_1).f0.f1) != (IntKind.i8.wrap (x1_2))) = true := bne_iff_ne.mpr c12
   obtain rfl := Option.some.inj H
   have p211 : 0 ≤ (x5_1 : Int) := of_decide_eq_true zA
   have q211 : x5_1 < (l0.length : Int) := of_decide_eq_true zA
   obtain ⟨ad211, e211, hx211_0, hx211_1, hx211_2, hx211_3, hx211_4⟩ := at_T43 HR0.out x5_1 p211 q211
   cases e211
   replace p211 := eq_true p211
   replace q211 := eq_true q211
   go_wp2
   go_ret
   exact ⟨zi, zdr⟩
  rw [if_pos c12] at H
  have c12b0 : (((rd_T43 l0 x5_1).f0.f1) == (IntKind.i8.wrap (x1_2))) = true := beq_iff_eq.mpr c12
  have c12b1 : (((rd_T43 l0 x5_1).f0.f1) != (IntKind.i8.wrap (x1_2))) = false := bne_eq_false_iff_eq.mpr c12
  clear c12
  have H' := Aside0.mk H
  clear H
  have p211 : 0 ≤ (x5_1 : Int) := of_decide_eq_true zA
  have q211 : x5_1 < (l0.length : Int) := of_decide_eq_true zA
  obtain ⟨ad211, e211, hx211_0, hx211_1, hx211_2, hx211_3, hx211_4⟩ := at_T43 HR0.out x5_1 p211 q211
  cases e211
  replace p211 := eq_true p211
  replace q211 := eq_true q211
  go_wp2
  go_roundg k2
  case measure => have := HK1.out; have := HK2.out; omega
  case rel => exact ⟨(wrap64 (x1_2 + 1)), (wrap64 (x6_2 + 1)), zi, zi, H', ⟨by have := HK1.out; have := HK2.out; omega⟩, zdr⟩
 rw [if_neg c4] at H
 have c4b0 : decide (x6_2 < 2) = false := decide_eq_false c4
 clear c4
 by_cases c13 : 0 ≤ x5_1
 rotate_left
 ·rw [if_neg c13] at H
  exact absurd H (by simp)
 rw [if_pos c13] at H
 have c13b0 : decide (0 ≤ x5_1) = true := decide_eq_true c13
 clear c13
 by_cases c14 : x5_1 < (l0.length : Int)
 rotate_left
 ·rw [if_neg c14] at H
  exact absurd H (by simp)
 rw [if_pos c14] at H
 have c14b0 : decide (x5_1 < (l0.length : Int)) = true := decide_eq_true c14
 clear c14
 by_cases c15 : ((rd_T43 l0 x5_1).f1) = (IntKind.i8.wrap (x1_2))
 rotate_left
 ·rw [if_neg c15] at H
  have c15b0 : (((rd_T43 l0 x5_1).f1) == (IntKind.i8.wrap (x1_2))) = false := beq_eq_false_iff_ne.mpr c15
  have c15b1 : (((rd_T43 l0 x5_1).f1) != (IntKind.i8.wrap (x1_2))) = true := bne_iff_ne.mpr c15
  obtain rfl := Option.some.inj H
  have p212 : 0 ≤ (x5_1 : Int) := of_decide_eq_true zA
  have q212 : x5_1 < (l0.length : Int) := of_decide_eq_true zA
  obtain ⟨ad212, e212, hx212_0, hx212_1, hx212_2, hx212_3, hx212_4⟩ := at_T43 HR0.out x5_1 p212 q212
  cases e212
  replace p212 := eq_true p212
  replace q212 := eq_true q212
  go_wp2
  go_ret
  exact ⟨zi, zdr⟩
 rw [if_pos c15] at H
 have c15b0 : (((rd_T43 l0 x5_1).f1) == (IntKind.i8.wrap (x1_2))) = true := beq_iff_eq.mpr c15
 have c15b1 : (((rd_T43 l0 x5_1).f1) != (IntKind.i8.wrap (x1_2))) = false := bne_eq_false_iff_eq.mpr c15
 clear c15
 by_cases c16 : ((rd_T43 l0 x5_1).f2) = (IntKind.i8.wrap (wrap64 (x1_2 + 1)))
 rotate_left
 ·rw [if_neg c16] at H
  have c16b0 : (((rd_T43 l0 x5_1).f2) == (IntKind.i8.wrap (wrap64 (x1_2 + 1)))) = false := beq_eq_false_iff_ne.mpr c16
  have c16b1 : (((rd_T43 l0 x5_1).f2) != (IntKind.i8.wrap (wrap64 (x1_2 + 1)))) = true := bne_iff_ne.mpr c16
  obtain rfl := Option.some.inj H
  have p212 : 0 ≤ (x5_1 : Int) := of_decide_eq_true zA
  have q212 : x5_1 < (l0.length : Int) := of_decide_eq_true zA
  obtain ⟨ad212, e212, hx212_0, hx212_1, hx212_2, hx212_3, hx212_4⟩ := at_T43 HR0.out x5_1 p212 q212
  cases e212
  replace p212 := eq_true p212
  replace q212 := eq_true q212
  have p213 : 0 ≤ (x5_1 : Int) := of_decide_eq_true zA
  have q213 : x5_1 < (l0.length : Int) := of_decide_eq_true zA
  obtain ⟨ad213, e213, hx213_0, hx213_1, hx213_2, hx213_3, hx213_4⟩ := at_T43 HR0.out x5_1 p213 q213
  obtain rfl : ad212 = ad213 := (by injection e213)
  replace p213 := eq_true p213
  replace q213 := eq_true q213
  go_wp2
  go_ret
  exact ⟨zi, zdr⟩
 rw [if_pos c16] at H
 have c16b0 : (((rd_T43 l0 x5_1).f2) == (IntKind.i8.wrap (wrap64 (x1_2 + 1)))) = true := beq_iff_eq.mpr c16
 have c16b1 : (((rd_T43 l0 x5_1).f2) != (IntKind.i8.wrap (wrap64 (x1_2 + 1)))) = false := bne_eq_false_iff_eq.mpr c16
 clear c16
 by_cases c17 : ((rd_T43 l0 x5_1).f3) = (IntKind.i8.wrap (wrap64 ((wrap64 (x1_2 + 1)) + 1)))
 rotate_left
 ·rw [if_neg c17] at H
  have c17b0 : (((rd_T43 l0 x5_1).f3) == (IntKind.i8.wrap (wrap64 ((wrap64 (x1_2 + 1)) + 1)))) = false := beq_eq_false_iff_ne.mpr c17
  have c17b1 : (((rd_T43 l0 x5_1).f3) != (IntKind.i8.wrap (wrap64 ((wrap64 (x1_2 + 1)) + 1)))) = true := bne_iff_ne.mpr c17
  obtain rfl := Option.some.inj H
  have p212 : 0 ≤ (x5_1 : Int) := of_decide_eq_true zA
  have q212 : x5_1 < (l0.length : Int) := of_decide_eq_true zA
  obtain ⟨ad212, e212, hx212_0, hx212_1, hx212_2, hx212_3, hx212_4⟩ := at_T43 HR0.out x5_1 p212 q212
  cases e212
  replace p212 := eq_true p212
  replace q212 := eq_true q212
  have p213 : 0 ≤ (x5_1 : Int) := of_decide_eq_true zA
  have q213 : x5_1 < (l0.length : Int) := of_decide_eq_true zA
  obtain ⟨ad213, e213, hx213_0, hx213_1, hx213_2, hx213_3, hx213_4⟩ := at_T43 HR0.out x5_1 p213 q213
  obtain rfl : ad212 = ad213 := (by injection e213)
  replace p213 := eq_true p213
  replace q213 := eq_true q213
  have p214 : 0 ≤ (x5_1 : Int) := of_decide_eq_true zA
  have q214 : x5_1 < (l0.length : Int) := of_decide_eq_true zA
  obtain ⟨ad214, e214, hx214_0, hx214_1, hx214_2, hx214_3, hx214_4⟩ := at_T43 HR0.out x5_1 p214 q214
  obtain rfl : ad212 = ad214 := (by injection e214)
  replace p214 := eq_true p214
  replace q214 := eq_true q214
  go_wp2
  go_ret
  exact ⟨zi, zdr⟩
 rw [if_pos c17] at H
 have c17b0 : (((rd_T43 l0 x5_1).f3) == (IntKind.i8.wrap (wrap64 ((wrap64 (x1_2 + 1)) + 1)))) = true := beq_iff_eq.mpr c17
 have c17b1 : (((rd_T43 l0 x5_1).f3) != (IntKind.i8.wrap (wrap64 ((wrap64 (x1_2 + 1)) + 1)))) = false := bne_eq_false_iff_eq.mpr c17
 clear c17
 have H' := Aside0.mk H
 clear H
 have p212 : 0 ≤ (x5_1 : Int) := of_decide_eq_true zA
 have q212 : x5_1 < (l0.length : Int) := of_decide_eq_true zA
 obtain ⟨ad212, e212, hx212_0, hx212_1, hx212_2, hx212_3, hx212_4⟩ := at_T43 HR0.out x5_1 p212 q212
 cases e212
 replace p212 := eq_true p212
 replace q212 := eq_true q212
 have p213 : 0 ≤ (x5_1 : Int) := of_decide_eq_true zA
 have q213 : x5_1 < (l0.length : Int) := of_decide_eq_true zA
 obtain ⟨ad213, e213, hx213_0, hx213_1, hx213_2, hx213_3, hx213_4⟩ := at_T43 HR0.out x5_1 p213 q213
 obtain rfl : ad212 = ad213 := (by injection e213)
 replace p213 := eq_true p213
 replace q213 := eq_true q213
 have p214 : 0 ≤ (x5_1 : Int) := of_decide_eq_true zA
 have q214 : x5_1 < (l0.length : Int) := of_decide_eq_true zA
 obtain ⟨ad214, e214, hx214_0, hx214_1, hx214_2, hx214_3, hx214_4⟩ := at_T43 HR0.out x5_1 p214 q214
 obtain rfl : ad212 = ad214 := (by injection e214)
 replace p214 := eq_true p214
 replace q214 := eq_true q214
 go_wp2
 go_roundg k2
 case measure => have := HK1.out; have := HK2.out; omega
 case rel => exact ⟨(wrap64 ((wrap64 ((wrap64 (x1_2 + 1)) + 1)) + 1)), (wrap64 (x5_1 + 1)), zi, zi, H', ⟨by have := HK1.out; have := HK2.out; omega⟩, zdr⟩
def laws_heldBoard.f (k : Nat) (a0_0 : Int) (a0_1 : Int) (l0_2 : List (S43)) (a1 : Int) : Option (Int) := (laws_heldPieceS.f k l0_2 a1).bind fun t216 => (if t216 < 0 then (some (-1)) else (some t216))
theorem laws_heldBoard.mono : ∀ a0 a1 a2 a3 k, LeO (laws_heldBoard.f k a0 a1 a2 a3) (laws_heldBoard.f (k + 1) a0 a1 a2 a3) := by
 intro a0 a1 a2 a3 k
 unfold laws_heldBoard.f
 repeat' first | (with_reducible first | apply laws_heldPieceS.mono | exact LeO.refl _ | exact LeO.none _ | refine LeO.ite ?_ ?_ | refine LeO.bind ?_ (fun _ => ?_)) | apply laws_heldPieceS.mono | exact LeO.none _ | refine LeO.ite ?_ ?_ | refine LeO.bind ?_ (fun _ => ?_)
theorem laws_heldBoard.calls (k : Nat) (a0_0 : Int) (a0_1 : Int) (A0_2 : Option Addr) (c0_2 : Nat) (l0_2 : List (S43)) (a1 : Int) (r : Int) (w : World) (hr0_2 : Kd.C k43 w A0_2 l0_2.length l0_2) (hc0_2 : l0_2.length ≤ c0_2) (h : laws_heldBoard.f k a0_0 a0_1 l0_2 a1 = some r) :
    Calls Try.prog 10 #[.agg #[.int .i8 a0_0, .int .i8 a0_1, .slice A0_2 l0_2.length c0_2], .int .i64 a1] w fun e w' => e = .returned (.int .i64 r) ∧ Below w.heap.size w w' := by
 have hu29 := Try.underlying29
 have HR0_2 := Aside0.mk hr0_2
 have HC0_2 := Aside0.mk hc0_2
 clear hr0_2 hc0_2
 have HB := Aside0.mk (Below.refl w.heap.size w)
 have H : ((laws_heldPieceS.f k l0_2 a1).bind fun t216 => (if t216 < 0 then (some (-1)) else (some t216))) = some r := h
 clear h
 replace H := zob H
 obtain ⟨t216, A30, H⟩ := H
 replace H : (if t216 < 0 then (some (-1)) else (some t216)) = some r := H
 have A3 := Aside0.mk A30
 clear A30
 by_cases c4 : t216 < 0
 ·rw [if_pos c4] at H
  have c4b0 : decide (t216 < 0) = true := decide_eq_true c4
  clear c4
  obtain rfl := Option.some.inj H
  go_enter Try.func10, Try.ntmps10
  go_wp2_with (first | ((with_reducible refine gate_dst (N := 2) rfl ?_); refine zbx 2 #[.int .i8 a0_0, .int .i8 a0_1, .slice A0_2 l0_2.length c0_2] 29 ?_; intro gb215 hg w5 hbox hb; have n_ : _ ∧ _ ∧ _ ∧ _ := ⟨zb HB hb, Aside0.mk (hbox), zg HB hg, zg HB hg⟩; clear HB; obtain ⟨HB, BK215, GW215, GE215⟩ := n_; clear hb hbox hg; obtain ⟨z6_0, z6_1, z6_2, y6_0, y6_1, y6_2⟩ := zB3 BK215) | ((with_reducible refine gate_callee (f := 23) rfl ?_); refine goesL_ (some 8) rfl rfl Try.func23 (by kernel_rfl) rfl #[.slice A0_2 l0_2.length c0_2, .int .i64 a1] rfl zm ?_; (with_reducible refine (laws_heldPieceS.calls k _ _ l0_2 a1 t216 _ ?side1 ?side2 A3.out).mono ?_); (case side1 => exact zcc HB HR0_2.out); (case side2 => exact HC0_2.out); rintro e w' ⟨rfl, ⟨nd, rfl⟩⟩; refine ⟨_, rfl, ?_⟩))
  go_ret
  exact ⟨zv, zbo⟩
 rw [if_neg c4] at H
 have c4b0 : decide (t216 < 0) = false := decide_eq_false c4
 clear c4
 obtain rfl := Option.some.inj H
 go_enter Try.func10, Try.ntmps10
 go_wp2_with (first | ((with_reducible refine gate_dst (N := 2) rfl ?_); refine zbx 2 #[.int .i8 a0_0, .int .i8 a0_1, .slice A0_2 l0_2.length c0_2] 29 ?_; intro gb215 hg w7 hbox hb; have n_ : _ ∧ _ ∧ _ ∧ _ := ⟨zb HB hb, Aside0.mk (hbox), zg HB hg, zg HB hg⟩; clear HB; obtain ⟨HB, BK215, GW215, GE215⟩ := n_; clear hb hbox hg; obtain ⟨z8_0, z8_1, z8_2, y8_0, y8_1, y8_2⟩ := zB3 BK215) | ((with_reducible refine gate_callee (f := 23) rfl ?_); refine goesL_ (some 8) rfl rfl Try.func23 (by kernel_rfl) rfl #[.slice A0_2 l0_2.length c0_2, .int .i64 a1] rfl zm ?_; (with_reducible refine (laws_heldPieceS.calls k _ _ l0_2 a1 t216 _ ?side1 ?side2 A3.out).mono ?_); (case side1 => exact zcc HB HR0_2.out); (case side2 => exact HC0_2.out); rintro e w' ⟨rfl, ⟨nd, rfl⟩⟩; refine ⟨_, rfl, ?_⟩))
 go_ret
 exact ⟨zv, zbo⟩
def laws_FnExactSortBoard.f (k : Nat) (a0_0 : Int) (a0_1 : Int) (l0_2 : List (S59)) : Option (Bool) := (laws_szBoard.f a0_0 a0_1 l0_2 1048576).bind fun t218 => (if t218 < 0 then (some true) else ((laws_toBoard.f k a0_0 a0_1 l0_2).bind fun bt219 => ((spec_SortBoard.f k bt219.1 bt219.2.1 bt219.2.2).bind fun bt224 => ((laws_toBoard.f k a0_0 a0_1 l0_2).bind fun bt231 => ((impl_SortBoard.f k bt231.1 bt231.2.1 bt231.2.2).bind fun bt237 => ((laws_eqBoard.f k bt237.1 bt237.2.1 bt237.2.2.1 bt224.1 bt224.2.1 bt224.2.2.1).bind fun t244 => (if t244 = true then (if bt237.2.2.2 = bt224.2.2.2 then ((laws_toBoard.f k a0_0 a0_1 l0_2).bind fun bt245 => ((laws_eqBoard.f k bt231.1 bt231.2.1 bt231.2.2 bt245.1 bt245.2.1 bt245.2.2).bind fun t250 => (if t250 = true then ((laws_markBoard.f k bt231.1 bt231.2.1 bt231.2.2 1).bind fun bt251 => (if bt251.1 < 0 then (none) else ((laws_eqBoard.f k bt237.1 bt237.2.1 bt237.2.2.1 bt224.1 bt224.2.1 bt224.2.2.1).bind fun t253 => (if t253 = true then ((laws_markBoard.f k bt237.1 bt237.2.1 bt237.2.2.1 1).bind fun bt254 => ((laws_heldBoard.f k bt237.1 bt237.2.1 bt254.2 1).bind fun t256 => (if t256 < 0 then (none) else (if t256 = bt254.1 then ((laws_toBoard.f k a0_0 a0_1 l0_2).bind fun bt257 => ((impl_SortBoard.f k bt257.1 bt257.2.1 bt257.2.2).bind fun bt262 => ((laws_eqBoard.f k bt262.1 bt262.2.1 bt262.2.2.1 bt224.1 bt224.2.1 bt224.2.2.1).bind fun t269 => (if t269 = true then (if bt262.2.2.2 = bt224.2.2.2 then ((laws_heldBoard.f k bt237.1 bt237.2.1 bt254.2 1).bind fun t270 => (if t270 < 0 then (none) else (if t270 = bt254.1 then (some true) else (none)))) else (none)) else (none))))) else (none))))) else (none))))) else (none)))) else (none)) else (none))))))))
theorem laws_FnExactSortBoard.mono : ∀ a0 a1 a2 k, LeO (laws_FnExactSortBoard.f k a0 a1 a2) (laws_FnExactSortBoard.f (k + 1) a0 a1 a2) := by
 intro a0 a1 a2 k
 unfold laws_FnExactSortBoard.f
 repeat' first | (with_reducible first | apply impl_SortBoard.mono | apply laws_eqBoard.mono | apply laws_heldBoard.mono | apply laws_markBoard.mono | apply laws_toBoard.mono | apply spec_SortBoard.mono | exact LeO.refl _ | exact LeO.none _ | refine LeO.ite ?_ ?_ | refine LeO.bind ?_ (fun _ => ?_)) | apply impl_SortBoard.mono | apply laws_eqBoard.mono | apply laws_heldBoard.mono | apply laws_markBoard.mono | apply laws_toBoard.mono | apply spec_SortBoard.mono | exact LeO.none _ | refine LeO.ite ?_ ?_ | refine LeO.bind ?_ (fun _ => ?_)
theorem laws_FnExactSortBoard.calls (k : Nat) (a0_0 : Int) (a0_1 : Int) (A0_2 : Option Addr) (c0_2 : Nat) (l0_2 : List (S59)) (r : Bool) (w : World) (hr0_2 : Kd.C k59 w A0_2 l0_2.length l0_2) (hc0_2 : l0_2.length ≤ c0_2) (h : laws_FnExactSortBoard.f k a0_0 a0_1 l0_2 = some r) :
    Calls Try.prog 3 #[.agg #[.int .i8 a0_0, .int .i8 a0_1, .slice A0_2 l0_2.length c0_2]] w fun e w' => e = .returned (.bool r) ∧ Below w.heap.size w w' := by
 have hu25 := Try.underlying25
 have hu29 := Try.underlying29
 have HR0_2 := Aside0.mk hr0_2
 have HC0_2 := Aside0.mk hc0_2
 clear hr0_2 hc0_2
 have HB := Aside0.mk (Below.refl w.heap.size w)
 have H : ((laws_szBoard.f a0_0 a0_1 l0_2 1048576).bind fun t218 => (if t218 < 0 then (some true) else ((laws_toBoard.f k a0_0 a0_1 l0_2).bind fun bt219 => ((spec_SortBoard.f k bt219.1 bt219.2.1 bt219.2.2).bind fun bt224 => ((laws_toBoard.f k a0_0 a0_1 l0_2).bind fun bt231 => ((impl_SortBoard.f k bt231.1 bt231.2.1 bt231.2.2).bind fun bt237 => ((laws_eqBoard.f k bt237.1 bt237.2.1 bt237.2.2.1 bt224.1 bt224.2.1 bt224.2.2.1).bind fun t244 => (if t244 = true then (if bt237.2.2.2 = bt224.2.2.2 then ((laws_toBoard.f k a0_0 a0_1 l0_2).bind fun bt245 => ((laws_eqBoard.f k bt231.1 bt231.2.1 bt231.2.2 bt245.1 bt245.2.1 bt245.2.2).bind fun t250 => (if t250 = true then ((laws_markBoard.f k bt231.1 bt231.2.1 bt231.2.2 1).bind fun bt251 => (if bt251.1 < 0 then (none) else ((laws_eqBoard.f k bt237.1 bt237.2.1 bt237.2.2.1 bt224.1 bt224.2.1 bt224.2.2.1).bind fun t253 => (if t253 = true then ((laws_markBoard.f k bt237.1 bt237.2.1 bt237.2.2.1 1).bind fun bt254 => ((laws_heldBoard.f k bt237.1 bt237.2.1 bt254.2 1).bind fun t256 => (if t256 < 0 then (none) else (if t256 = bt254.1 then ((laws_toBoard.f k a0_0 a0_1 l0_2).bind fun bt257 => ((impl_SortBoard.f k bt257.1 bt257.2.1 bt257.2.2).bind fun bt262 => ((laws_eqBoard.f k bt262.1 bt262.2.1 bt262.2.2.1 bt224.1 bt224.2.1 bt224.2.2.1).bind fun t269 => (if t269 = true then (if bt262.2.2.2 = bt224.2.2.2 then ((laws_heldBoard.f k bt237.1 bt237.2.1 bt254.2 1).bind fun t270 => (if t270 < 0 then (none) else (if t270 = bt254.1 then (some true) else (none)))) else (none)) else (none))))) else (none))))) else (none))))) else (none)))) else (none)) else (none))))))))) = some r := h
 clear h
 replace H := zob H
 obtain ⟨t218, A20, H⟩ := H
 replace H : (if t218 < 0 then (some true) else ((laws_toBoard.f k a0_0 a0_1 l0_2).bind fun bt219 => ((spec_SortBoard.f k bt219.1 bt219.2.1 bt219.2.2).bind fun bt224 => ((laws_toBoard.f k a0_0 a0_1 l0_2).bind fun bt231 => ((impl_SortBoard.f k bt231.1 bt231.2.1 bt231.2.2).bind fun bt237 => ((laws_eqBoard.f k bt237.1 bt237.2.1 bt237.2.2.1 bt224.1 bt224.2.1 bt224.2.2.1).bind fun t244 => (if t244 = true then (if bt237.2.2.2 = bt224.2.2.2 then ((laws_toBoard.f k a0_0 a0_1 l0_2).bind fun bt245 => ((laws_eqBoard.f k bt231.1 bt231.2.1 bt231.2.2 bt245.1 bt245.2.1 bt245.2.2).bind fun t250 => (if t250 = true then ((laws_markBoard.f k bt231.1 bt231.2.1 bt231.2.2 1).bind fun bt251 => (if bt251.1 < 0 then (none) else ((laws_eqBoard.f k bt237.1 bt237.2.1 bt237.2.2.1 bt224.1 bt224.2.1 bt224.2.2.1).bind fun t253 => (if t253 = true then ((laws_markBoard.f k bt237.1 bt237.2.1 bt237.2.2.1 1).bind fun bt254 => ((laws_heldBoard.f k bt237.1 bt237.2.1 bt254.2 1).bind fun t256 => (if t256 < 0 then (none) else (if t256 = bt254.1 then ((laws_toBoard.f k a0_0 a0_1 l0_2).bind fun bt257 => ((impl_SortBoard.f k bt257.1 bt257.2.1 bt257.2.2).bind fun bt262 => ((laws_eqBoard.f k bt262.1 bt262.2.1 bt262.2.2.1 bt224.1 bt224.2.1 bt224.2.2.1).bind fun t269 => (if t269 = true then (if bt262.2.2.2 = bt224.2.2.2 then ((laws_heldBoard.f k bt237.1 bt237.2.1 bt254.2 1).bind fun t270 => (if t270 < 0 then (none) else (if t270 = bt254.1 then (some true) else (none)))) else (none)) else (none))))) else (none))))) else (none))))) else (none)))) else (none)) else (none)))))))) = some r := H
 have A2 := Aside0.mk A20
 clear A20
 by_cases c3 : t218 < 0
 ·rw [if_pos c3] at H
  have c3b0 : decide (t218 < 0) = true := decide_eq_true c3
  clear c3
  obtain rfl := Option.some.inj H
  go_enter Try.func3, Try.ntmps3
  go_wp2_with (first | ((with_reducible refine gate_dst (N := 1) rfl ?_); refine zbx 1 #[.int .i8 a0_0, .int .i8 a0_1, .slice A0_2 l0_2.length c0_2] 25 ?_; intro gb217 hg w4 hbox hb; have n_ : _ ∧ _ ∧ _ ∧ _ := ⟨zb HB hb, Aside0.mk (hbox), zg HB hg, zg HB hg⟩; clear HB; obtain ⟨HB, BK217, GW217, GE217⟩ := n_; clear hb hbox hg; obtain ⟨z5_0, z5_1, z5_2, y5_0, y5_1, y5_2⟩ := zB3 BK217) | ((with_reducible refine gate_callee (f := 4) rfl ?_); refine goesL_ (some 16) rfl rfl Try.func4 (by kernel_rfl) rfl #[.agg #[.int .i8 a0_0, .int .i8 a0_1, .slice A0_2 l0_2.length c0_2], .int .i64 1048576] rfl zm ?_; (with_reducible refine (laws_szBoard.calls a0_0 a0_1 _ _ l0_2 1048576 t218 _ ?side1 ?side2 A2.out).mono ?_); (case side1 => exact zcc HB HR0_2.out); (case side2 => exact HC0_2.out); rintro e w6 ⟨rfl, hb⟩; refine ⟨_, rfl, ?_⟩; have n_ : _ ∧ _ := ⟨zk BK217 hb, zbs hb⟩; clear BK217 HB; obtain ⟨BK217, HB⟩ := n_; (try clear hb); (try clear hb2); (try clear hk); (try clear hi)))
  go_ret
  exact ⟨zv, zbo⟩
 rw [if_neg c3] at H
 have c3b0 : decide (t218 < 0) = false := decide_eq_false c3
 clear c3
 replace H := zob H
 obtain ⟨⟨t219, t220, t221⟩, A70, H⟩ := H
 replace H : ((spec_SortBoard.f k t219 t220 t221).bind fun bt224 => ((laws_toBoard.f k a0_0 a0_1 l0_2).bind fun bt231 => ((impl_SortBoard.f k bt231.1 bt231.2.1 bt231.2.2).bind fun bt237 => ((laws_eqBoard.f k bt237.1 bt237.2.1 bt237.2.2.1 bt224.1 bt224.2.1 bt224.2.2.1).bind fun t244 => (if t244 = true then (if bt237.2.2.2 = bt224.2.2.2 then ((laws_toBoard.f k a0_0 a0_1 l0_2).bind fun bt245 => ((laws_eqBoard.f k bt231.1 bt231.2.1 bt231.2.2 bt245.1 bt245.2.1 bt245.2.2).bind fun t250 => (if t250 = true then ((laws_markBoard.f k bt231.1 bt231.2.1 bt231.2.2 1).bind fun bt251 => (if bt251.1 < 0 then (none) else ((laws_eqBoard.f k bt237.1 bt237.2.1 bt237.2.2.1 bt224.1 bt224.2.1 bt224.2.2.1).bind fun t253 => (if t253 = true then ((laws_markBoard.f k bt237.1 bt237.2.1 bt237.2.2.1 1).bind fun bt254 => ((laws_heldBoard.f k bt237.1 bt237.2.1 bt254.2 1).bind fun t256 => (if t256 < 0 then (none) else (if t256 = bt254.1 then ((laws_toBoard.f k a0_0 a0_1 l0_2).bind fun bt257 => ((impl_SortBoard.f k bt257.1 bt257.2.1 bt257.2.2).bind fun bt262 => ((laws_eqBoard.f k bt262.1 bt262.2.1 bt262.2.2.1 bt224.1 bt224.2.1 bt224.2.2.1).bind fun t269 => (if t269 = true then (if bt262.2.2.2 = bt224.2.2.2 then ((laws_heldBoard.f k bt237.1 bt237.2.1 bt254.2 1).bind fun t270 => (if t270 < 0 then (none) else (if t270 = bt254.1 then (some true) else (none)))) else (none)) else (none))))) else (none))))) else (none))))) else (none)))) else (none)) else (none)))))) = some r := H
 have A7 := Aside0.mk A70
 clear A70
 replace H := zob H
 obtain ⟨⟨t224, t225, t226, t229⟩, A80, H⟩ := H
 replace H : ((laws_toBoard.f k a0_0 a0_1 l0_2).bind fun bt231 => ((impl_SortBoard.f k bt231.1 bt231.2.1 bt231.2.2).bind fun bt237 => ((laws_eqBoard.f k bt237.1 bt237.2.1 bt237.2.2.1 t224 t225 t226).bind fun t244 => (if t244 = true then (if bt237.2.2.2 = t229 then ((laws_toBoard.f k a0_0 a0_1 l0_2).bind fun bt245 => ((laws_eqBoard.f k bt231.1 bt231.2.1 bt231.2.2 bt245.1 bt245.2.1 bt245.2.2).bind fun t250 => (if t250 = true then ((laws_markBoard.f k bt231.1 bt231.2.1 bt231.2.2 1).bind fun bt251 => (if bt251.1 < 0 then (none) else ((laws_eqBoard.f k bt237.1 bt237.2.1 bt237.2.2.1 t224 t225 t226).bind fun t253 => (if t253 = true then ((laws_markBoard.f k bt237.1 bt237.2.1 bt237.2.2.1 1).bind fun bt254 => ((laws_heldBoard.f k bt237.1 bt237.2.1 bt254.2 1).bind fun t256 => (if t256 < 0 then (none) else (if t256 = bt254.1 then ((laws_toBoard.f k a0_0 a0_1 l0_2).bind fun bt257 => ((impl_SortBoard.f k bt257.1 bt257.2.1 bt257.2.2).bind fun bt262 => ((laws_eqBoard.f k bt262.1 bt262.2.1 bt262.2.2.1 t224 t225 t226).bind fun t269 => (if t269 = true then (if bt262.2.2.2 = t229 then ((laws_heldBoard.f k bt237.1 bt237.2.1 bt254.2 1).bind fun t270 => (if t270 < 0 then (none) else (if t270 = bt254.1 then (some true) else (none)))) else (none)) else (none))))) else (none))))) else (none))))) else (none)))) else (none)) else (none))))) = some r := H
 have A8 := Aside0.mk A80
 clear A80
 replace H := zob H
 obtain ⟨⟨t231, t232, t233⟩, A90, H⟩ := H
 replace H : ((impl_SortBoard.f k t231 t232 t233).bind fun bt237 => ((laws_eqBoard.f k bt237.1 bt237.2.1 bt237.2.2.1 t224 t225 t226).bind fun t244 => (if t244 = true then (if bt237.2.2.2 = t229 then ((laws_toBoard.f k a0_0 a0_1 l0_2).bind fun bt245 => ((laws_eqBoard.f k t231 t232 t233 bt245.1 bt245.2.1 bt245.2.2).bind fun t250 => (if t250 = true then ((laws_markBoard.f k t231 t232 t233 1).bind fun bt251 => (if bt251.1 < 0 then (none) else ((laws_eqBoard.f k bt237.1 bt237.2.1 bt237.2.2.1 t224 t225 t226).bind fun t253 => (if t253 = true then ((laws_markBoard.f k bt237.1 bt237.2.1 bt237.2.2.1 1).bind fun bt254 => ((laws_heldBoard.f k bt237.1 bt237.2.1 bt254.2 1).bind fun t256 => (if t256 < 0 then (none) else (if t256 = bt254.1 then ((laws_toBoard.f k a0_0 a0_1 l0_2).bind fun bt257 => ((impl_SortBoard.f k bt257.1 bt257.2.1 bt257.2.2).bind fun bt262 => ((laws_eqBoard.f k bt262.1 bt262.2.1 bt262.2.2.1 t224 t225 t226).bind fun t269 => (if t269 = true then (if bt262.2.2.2 = t229 then ((laws_heldBoard.f k bt237.1 bt237.2.1 bt254.2 1).bind fun t270 => (if t270 < 0 then (none) else (if t270 = bt254.1 then (some true) else (none)))) else (none)) else (none))))) else (none))))) else (none))))) else (none)))) else (none)) else (none)))) = some r := H
 have A9 := Aside0.mk A90
 clear A90
 replace H := zob H
 obtain ⟨⟨t237, t238, t239, t242⟩, A100, H⟩ := H
 replace H : ((laws_eqBoard.f k t237 t238 t239 t224 t225 t226).bind fun t244 => (if t244 = true then (if t242 = t229 then ((laws_toBoard.f k a0_0 a0_1 l0_2).bind fun bt245 => ((laws_eqBoard.f k t231 t232 t233 bt245.1 bt245.2.1 bt245.2.2).bind fun t250 => (if t250 = true then ((laws_markBoard.f k t231 t232 t233 1).bind fun bt251 => (if bt251.1 < 0 then (none) else ((laws_eqBoard.f k t237 t238 t239 t224 t225 t226).bind fun t253 => (if t253 = true then ((laws_markBoard.f k t237 t238 t239 1).bind fun bt254 => ((laws_heldBoard.f k t237 t238 bt254.2 1).bind fun t256 => (if t256 < 0 then (none) else (if t256 = bt254.1 then ((laws_toBoard.f k a0_0 a0_1 l0_2).bind fun bt257 => ((impl_SortBoard.f k bt257.1 bt257.2.1 bt257.2.2).bind fun bt262 => ((laws_eqBoard.f k bt262.1 bt262.2.1 bt262.2.2.1 t224 t225 t226).bind fun t269 => (if t269 = true then (if bt262.2.2.2 = t229 then ((laws_heldBoard.f k t237 t238 bt254.2 1).bind fun t270 => (if t270 < 0 then (none) else (if t270 = bt254.1 then (some true) else (none)))) else (none)) else (none))))) else (none))))) else (none))))) else (none)))) else (none)) else (none))) = some r := H
 have A10 := Aside0.mk A100
 clear A100
 replace H := zob H
 obtain ⟨t244, A110, H⟩ := H
 replace H : (if t244 = true then (if t242 = t229 then ((laws_toBoard.f k a0_0 a0_1 l0_2).bind fun bt245 => ((laws_eqBoard.f k t231 t232 t233 bt245.1 bt245.2.1 bt245.2.2).bind fun t250 => (if t250 = true then ((laws_markBoard.f k t231 t232 t233 1).bind fun bt251 => (if bt251.1 < 0 then (none) else ((laws_eqBoard.f k t237 t238 t239 t224 t225 t226).bind fun t253 => (if t253 = true then ((laws_markBoard.f k t237 t238 t239 1).bind fun bt254 => ((laws_heldBoard.f k t237 t238 bt254.2 1).bind fun t256 => (if t256 < 0 then (none) else (if t256 = bt254.1 then ((laws_toBoard.f k a0_0 a0_1 l0_2).bind fun bt257 => ((impl_SortBoard.f k bt257.1 bt257.2.1 bt257.2.2).bind fun bt262 => ((laws_eqBoard.f k bt262.1 bt262.2.1 bt262.2.2.1 t224 t225 t226).bind fun t269 => (if t269 = true then (if bt262.2.2.2 = t229 then ((laws_heldBoard.f k t237 t238 bt254.2 1).bind fun t270 => (if t270 < 0 then (none) else (if t270 = bt254.1 then (some true) else (none)))) else (none)) else (none))))) else (none))))) else (none))))) else (none)))) else (none)) else (none)) = some r := H
 have A11 := Aside0.mk A110
 clear A110
 by_cases c12 : t244 = true
 rotate_left
 ·replace c12 := Bool.eq_false_iff.mpr c12
  subst c12
  have H1 : (none) = some r := by rw [if_neg (show ¬ (false = true) by decide)] at H; exact H
  clear H
  have H := H1
  clear H1
  exact absurd H (by simp)
 subst c12
 have H1 : (if t242 = t229 then ((laws_toBoard.f k a0_0 a0_1 l0_2).bind fun bt245 => ((laws_eqBoard.f k t231 t232 t233 bt245.1 bt245.2.1 bt245.2.2).bind fun t250 => (if t250 = true then ((laws_markBoard.f k t231 t232 t233 1).bind fun bt251 => (if bt251.1 < 0 then (none) else ((laws_eqBoard.f k t237 t238 t239 t224 t225 t226).bind fun t253 => (if t253 = true then ((laws_markBoard.f k t237 t238 t239 1).bind fun bt254 => ((laws_heldBoard.f k t237 t238 bt254.2 1).bind fun t256 => (if t256 < 0 then (none) else (if t256 = bt254.1 then ((laws_toBoard.f k a0_0 a0_1 l0_2).bind fun bt257 => ((impl_SortBoard.f k bt257.1 bt257.2.1 bt257.2.2).bind fun bt262 => ((laws_eqBoard.f k bt262.1 bt262.2.1 bt262.2.2.1 t224 t225 t226).bind fun t269 => (if t269 = true then (if bt262.2.2.2 = t229 then ((laws_heldBoard.f k t237 t238 bt254.2 1).bind fun t270 => (if t270 < 0 then (none) else (if t270 = bt254.1 then (some true) else (none)))) else (none)) else (none))))) else (none))))) else (none))))) else (none)))) else (none)) = some r := by rw [if_pos rfl] at H; exact H
 clear H
 have H := H1
 clear H1
 by_cases c13 : t242 = t229
 rotate_left
 ·rw [if_neg c13] at H
  exact absurd H (by simp)
 rw [if_pos c13] at H
 have c13b0 : (t242 == t229) = true := beq_iff_eq.mpr c13
 have c13b1 : (t242 != t229) = false := bne_eq_false_iff_eq.mpr c13
 clear c13
 replace H := zob H
 obtain ⟨⟨t245, t246, t247⟩, A140, H⟩ := H
 replace H : ((laws_eqBoard.f k t231 t232 t233 t245 t246 t247).bind fun t250 => (if t250 = true then ((laws_markBoard.f k t231 t232 t233 1).bind fun bt251 => (if bt251.1 < 0 then (none) else ((laws_eqBoard.f k t237 t238 t239 t224 t225 t226).bind fun t253 => (if t253 = true then ((laws_markBoard.f k t237 t238 t239 1).bind fun bt254 => ((laws_heldBoard.f k t237 t238 bt254.2 1).bind fun t256 => (if t256 < 0 then (none) else (if t256 = bt254.1 then ((laws_toBoard.f k a0_0 a0_1 l0_2).bind fun bt257 => ((impl_SortBoard.f k bt257.1 bt257.2.1 bt257.2.2).bind fun bt262 => ((laws_eqBoard.f k bt262.1 bt262.2.1 bt262.2.2.1 t224 t225 t226).bind fun t269 => (if t269 = true then (if bt262.2.2.2 = t229 then ((laws_heldBoard.f k t237 t238 bt254.2 1).bind fun t270 => (if t270 < 0 then (none) else (if t270 = bt254.1 then (some true) else (none)))) else (none)) else (none))))) else (none))))) else (none))))) else (none))) = some r := H
 have A14 := Aside0.mk A140
 clear A140
 replace H := zob H
 obtain ⟨t250, A150, H⟩ := H
 replace H : (if t250 = true then ((laws_markBoard.f k t231 t232 t233 1).bind fun bt251 => (if bt251.1 < 0 then (none) else ((laws_eqBoard.f k t237 t238 t239 t224 t225 t226).bind fun t253 => (if t253 = true then ((laws_markBoard.f k t237 t238 t239 1).bind fun bt254 => ((laws_heldBoard.f k t237 t238 bt254.2 1).bind fun t256 => (if t256 < 0 then (none) else (if t256 = bt254.1 then ((laws_toBoard.f k a0_0 a0_1 l0_2).bind fun bt257 => ((impl_SortBoard.f k bt257.1 bt257.2.1 bt257.2.2).bind fun bt262 => ((laws_eqBoard.f k bt262.1 bt262.2.1 bt262.2.2.1 t224 t225 t226).bind fun t269 => (if t269 = true then (if bt262.2.2.2 = t229 then ((laws_heldBoard.f k t237 t238 bt254.2 1).bind fun t270 => (if t270 < 0 then (none) else (if t270 = bt254.1 then (some true) else (none)))) else (none)) else (none))))) else (none))))) else (none))))) else (none)) = some r := H
 have A15 := Aside0.mk A150
 clear A150
 by_cases c16 : t250 = true
 rotate_left
 ·replace c16 := Bool.eq_false_iff.mpr c16
  subst c16
  have H1 : (none) = some r := by rw [if_neg (show ¬ (false = true) by decide)] at H; exact H
  clear H
  have H := H1
  clear H1
  exact absurd H (by simp)
 subst c16
 have H1 : ((laws_markBoard.f k t231 t232 t233 1).bind fun bt251 => (if bt251.1 < 0 then (none) else ((laws_eqBoard.f k t237 t238 t239 t224 t225 t226).bind fun t253 => (if t253 = true then ((laws_markBoard.f k t237 t238 t239 1).bind fun bt254 => ((laws_heldBoard.f k t237 t238 bt254.2 1).bind fun t256 => (if t256 < 0 then (none) else (if t256 = bt254.1 then ((laws_toBoard.f k a0_0 a0_1 l0_2).bind fun bt257 => ((impl_SortBoard.f k bt257.1 bt257.2.1 bt257.2.2).bind fun bt262 => ((laws_eqBoard.f k bt262.1 bt262.2.1 bt262.2.2.1 t224 t225 t226).bind fun t269 => (if t269 = true then (if bt262.2.2.2 = t229 then ((laws_heldBoard.f k t237 t238 bt254.2 1).bind fun t270 => (if t270 < 0 then (none) else (if t270 = bt254.1 then (some true) else (none)))) else (none)) else (none))))) else (none))))) else (none))))) = some r := by rw [if_pos rfl] at H; exact H
 clear H
 have H := H1
 clear H1
 replace H := zob H
 obtain ⟨⟨t251, t252⟩, A170, H⟩ := H
 replace H : (if t251 < 0 then (none) else ((laws_eqBoard.f k t237 t238 t239 t224 t225 t226).bind fun t253 => (if t253 = true then ((laws_markBoard.f k t237 t238 t239 1).bind fun bt254 => ((laws_heldBoard.f k t237 t238 bt254.2 1).bind fun t256 => (if t256 < 0 then (none) else (if t256 = bt254.1 then ((laws_toBoard.f k a0_0 a0_1 l0_2).bind fun bt257 => ((impl_SortBoard.f k bt257.1 bt257.2.1 bt257.2.2).bind fun bt262 => ((laws_eqBoard.f k bt262.1 bt262.2.1 bt262.2.2.1 t224 t225 t226).bind fun t269 => (if t269 = true then (if bt262.2.2.2 = t229 then ((laws_heldBoard.f k t237 t238 bt254.2 1).bind fun t270 => (if t270 < 0 then (none) else (if t270 = bt254.1 then (some true) else (none)))) else (none)) else (none))))) else (none))))) else (none)))) = some r := H
 have A17 := Aside0.mk A170
 clear A170
 by_cases c18 : t251 < 0
 ·rw [if_pos c18] at H
  exact absurd H (by simp)
 rw [if_neg c18] at H
 have c18b0 : decide (t251 < 0) = false := decide_eq_false c18
 clear c18
 replace H := zob H
 obtain ⟨t253, A190, H⟩ := H
 replace H : (if t253 = true then ((laws_markBoard.f k t237 t238 t239 1).bind fun bt254 => ((laws_heldBoard.f k t237 t238 bt254.2 1).bind fun t256 => (if t256 < 0 then (none) else (if t256 = bt254.1 then ((laws_toBoard.f k a0_0 a0_1 l0_2).bind fun bt257 => ((impl_SortBoard.f k bt257.1 bt257.2.1 bt257.2.2).bind fun bt262 => ((laws_eqBoard.f k bt262.1 bt262.2.1 bt262.2.2.1 t224 t225 t226).bind fun t269 => (if t269 = true then (if bt262.2.2.2 = t229 then ((laws_heldBoard.f k t237 t238 bt254.2 1).bind fun t270 => (if t270 < 0 then (none) else (if t270 = bt254.1 then (some true) else (none)))) else (none)) else (none))))) else (none))))) else (none)) = some r := H
 have A19 := Aside0.mk A190
 clear A190
 by_cases c20 : t253 = true
 rotate_left
 ·replace c20 := Bool.eq_false_iff.mpr c20
  subst c20
  have H1 : (none) = some r := by rw [if_neg (show ¬ (false = true) by decide)] at H; exact H
  clear H
  have H := H1
  clear H1
  exact absurd H (by simp)
 subst c20
 have H1 : ((laws_markBoard.f k t237 t238 t239 1).bind fun bt254 => ((laws_heldBoard.f k t237 t238 bt254.2 1).bind fun t256 => (if t256 < 0 then (none) else (if t256 = bt254.1 then ((laws_toBoard.f k a0_0 a0_1 l0_2).bind fun bt257 => ((impl_SortBoard.f k bt257.1 bt257.2.1 bt257.2.2).bind fun bt262 => ((laws_eqBoard.f k bt262.1 bt262.2.1 bt262.2.2.1 t224 t225 t226).bind fun t269 => (if t269 = true then (if bt262.2.2.2 = t229 then ((laws_heldBoard.f k t237 t238 bt254.2 1).bind fun t270 => (if t270 < 0 then (none) else (if t270 = bt254.1 then (some true) else (none)))) else (none)) else (none))))) else (none))))) = some r := by rw [if_pos rfl] at H; exact H
 clear H
 have H := H1
 clear H1
 replace H := zob H
 obtain ⟨⟨t254, t255⟩, A210, H⟩ := H
 replace H : ((laws_heldBoard.f k t237 t238 t255 1).bind fun t256 => (if t256 < 0 then (none) else (if t256 = t254 then ((laws_toBoard.f k a0_0 a0_1 l0_2).bind fun bt257 => ((impl_SortBoard.f k bt257.1 bt257.2.1 bt257.2.2).bind fun bt262 => ((laws_eqBoard.f k bt262.1 bt262.2.1 bt262.2.2.1 t224 t225 t226).bind fun t269 => (if t269 = true then (if bt262.2.2.2 = t229 then ((laws_heldBoard.f k t237 t238 t255 1).bind fun t270 => (if t270 < 0 then (none) else (if t270 = t254 then (some true) else (none)))) else (none)) else (none))))) else (none)))) = some r := H
 have A21 := Aside0.mk A210
 clear A210
 replace H := zob H
 obtain ⟨t256, A220, H⟩ := H
 replace H : (if t256 < 0 then (none) else (if t256 = t254 then ((laws_toBoard.f k a0_0 a0_1 l0_2).bind fun bt257 => ((impl_SortBoard.f k bt257.1 bt257.2.1 bt257.2.2).bind fun bt262 => ((laws_eqBoard.f k bt262.1 bt262.2.1 bt262.2.2.1 t224 t225 t226).bind fun t269 => (if t269 = true then (if bt262.2.2.2 = t229 then ((laws_heldBoard.f k t237 t238 t255 1).bind fun t270 => (if t270 < 0 then (none) else (if t270 = t254 then (some true) else (none)))) else (none)) else (none))))) else (none))) = some r := H
 have A22 := Aside0.mk A220
 clear A220
 by_cases c23 : t256 < 0
 ·rw [if_pos c23] at H
  exact absurd H (by simp)
 rw [if_neg c23] at H
 have c23b0 : decide (t256 < 0) = false := decide_eq_false c23
 clear c23
 by_cases c24 : t256 = t254
 rotate_left
 ·rw [if_neg c24] at H
  exact absurd H (by simp)
 rw [if_pos c24] at H
 have c24b0 : (t256 == t254) = true := beq_iff_eq.mpr c24
 have c24b1 : (t256 != t254) = false := bne_eq_false_iff_eq.mpr c24
 clear c24
 replace H := zob H
 obtain ⟨⟨t257, t258, t259⟩, A250, H⟩ := H
 replace H : ((impl_SortBoard.f k t257 t258 t259).bind fun bt262 => ((laws_eqBoard.f k bt262.1 bt262.2.1 bt262.2.2.1 t224 t225 t226).bind fun t269 => (if t269 = true then (if bt262.2.2.2 = t229 then ((laws_heldBoard.f k t237 t238 t255 1).bind fun t270 => (if t270 < 0 then (none) else (if t270 = t254 then (some true) else (none)))) else (none)) else (none)))) = some r := H
 have A25 := Aside0.mk A250
 clear A250
 replace H := zob H
 obtain ⟨⟨t262, t263, t264, t267⟩, A260, H⟩ := H
 replace H : ((laws_eqBoard.f k t262 t263 t264 t224 t225 t226).bind fun t269 => (if t269 = true then (if t267 = t229 then ((laws_heldBoard.f k t237 t238 t255 1).bind fun t270 => (if t270 < 0 then (none) else (if t270 = t254 then (some true) else (none)))) else (none)) else (none))) = some r := H
 have A26 := Aside0.mk A260
 clear A260
 replace H := zob H
 obtain ⟨t269, A270, H⟩ := H
 replace H : (if t269 = true then (if t267 = t229 then ((laws_heldBoard.f k t237 t238 t255 1).bind fun t270 => (if t270 < 0 then (none) else (if t270 = t254 then (some true) else (none)))) else (none)) else (none)) = some r := H
 have A27 := Aside0.mk A270
 clear A270
 by_cases c28 : t269 = true
 rotate_left
 ·replace c28 := Bool.eq_false_iff.mpr c28
  subst c28
  have H1 : (none) = some r := by rw [if_neg (show ¬ (false = true) by decide)] at H; exact H
  clear H
  have H := H1
  clear H1
  exact absurd H (by simp)
 subst c28
 have H1 : (if t267 = t229 then ((laws_heldBoard.f k t237 t238 t255 1).bind fun t270 => (if t270 < 0 then (none) else (if t270 = t254 then (some true) else (none)))) else (none)) = some r := by rw [if_pos rfl] at H; exact H
 clear H
 have H := H1
 clear H1
 by_cases c29 : t267 = t229
 rotate_left
 ·rw [if_neg c29] at H
  exact absurd H (by simp)
 rw [if_pos c29] at H
 have c29b0 : (t267 == t229) = true := beq_iff_eq.mpr c29
 have c29b1 : (t267 != t229) = false := bne_eq_false_iff_eq.mpr c29
 clear c29
 replace H := zob H
 obtain ⟨t270, A300, H⟩ := H
 replace H : (if t270 < 0 then (none) else (if t270 = t254 then (some true) else (none))) = some r := H
 have A30 := Aside0.mk A300
 clear A300
 by_cases c31 : t270 < 0
 ·rw [if_pos c31] at H
  exact absurd H (by simp)
 rw [if_neg c31] at H
 have c31b0 : decide (t270 < 0) = false := decide_eq_false c31
 clear c31
 by_cases c32 : t270 = t254
 rotate_left
 ·rw [if_neg c32] at H
  exact absurd H (by simp)
 rw [if_pos c32] at H
 have c32b0 : (t270 == t254) = true := beq_iff_eq.mpr c32
 have c32b1 : (t270 != t254) = false := bne_eq_false_iff_eq.mpr c32
 clear c32
 obtain rfl := Option.some.inj H
 go_enter Try.func3, Try.ntmps3
 try go_wp2_with (first | ((with_reducible refine gate_dst (N := 1) rfl ?_); refine zbx 1 #[.int .i8 a0_0, .int .i8 a0_1, .slice A0_2 l0_2.length c0_2] 25 ?_; intro gb217 hg w33 hbox hb; have n_ : _ ∧ _ ∧ _ ∧ _ := ⟨zb HB hb, Aside0.mk (hbox), zg HB hg, zg HB hg⟩; clear HB; obtain ⟨HB, BK217, GW217, GE217⟩ := n_; clear hb hbox hg; obtain ⟨z34_0, z34_1, z34_2, y34_0, y34_1, y34_2⟩ := zB3 BK217) | ((with_reducible refine gate_callee (f := 4) rfl ?_); refine goesL_ (some 16) rfl rfl Try.func4 (by kernel_rfl) rfl #[.agg #[.int .i8 a0_0, .int .i8 a0_1, .slice A0_2 l0_2.length c0_2], .int .i64 1048576] rfl zm ?_; (with_reducible refine (laws_szBoard.calls a0_0 a0_1 _ _ l0_2 1048576 t218 _ ?side1 ?side2 A2.out).mono ?_); (case side1 => exact zcc HB HR0_2.out); (case side2 => exact HC0_2.out); rintro e w35 ⟨rfl, hb⟩; refine ⟨_, rfl, ?_⟩; have n_ : _ ∧ _ := ⟨zk BK217 hb, zbs hb⟩; clear BK217 HB; obtain ⟨BK217, HB⟩ := n_; (try clear hb); (try clear hb2); (try clear hk); (try clear hi); obtain ⟨z36_0, z36_1, z36_2, y36_0, y36_1, y36_2⟩ := zB3 BK217) | ((with_reducible refine gate_callee (f := 6) rfl ?_); refine goesL_ (some 21) rfl rfl Try.func6 (by kernel_rfl) rfl #[.agg #[.int .i8 a0_0, .int .i8 a0_1, .slice A0_2 l0_2.length c0_2]] rfl zm ?_; (with_reducible refine (laws_toBoard.calls k a0_0 a0_1 _ _ l0_2 t219 t220 t221 _ ?side1 ?side2 A7.out).mono ?_); (case side1 => exact zcc HB HR0_2.out); (case side2 => exact HC0_2.out); rintro e w37 ⟨v222, rfl, ho0, hb⟩; refine ⟨_, rfl, ?_⟩; have n_ : _ ∧ _ ∧ _ := ⟨Aside0.mk (Kd.R_lower ho0 (zz HB)), zk BK217 hb, zbs hb⟩; clear BK217 HB; obtain ⟨HO223, BK217, HB⟩ := n_; (try clear hb); (try clear hb2); (try clear hk); (try clear hi); (try clear ho0); obtain ⟨Ao38, co38, eo38⟩ := Kd.R_slice HO223.out; subst eo38) | ((with_reducible refine gate_callee (f := 5) rfl ?_); refine goesL_ (some 22) rfl rfl Try.func5 (by kernel_rfl) rfl #[.agg #[.int .i8 t219, .int .i8 t220, .slice Ao38 t221.length co38]] rfl zm ?_; (with_reducible refine (spec_SortBoard.calls k t219 t220 _ _ t221 t224 t225 t226 t229 _ ?side1 ?side2 A8.out).mono ?_); (case side1 => exact zrc HO223); (case side2 => exact (Kd.R_reads' HO223.out).2.1); rintro e w39 ⟨v227, rfl, ho0, hb⟩; refine ⟨_, rfl, ?_⟩; have n_ : _ ∧ _ ∧ _ ∧ _ := ⟨Aside0.mk (Kd.R_elder' (ze HO223).out (Kd.R_base ho0) hb), Aside0.mk (Kd.R_lower (Kd.R_new' ho0 (Kd.R_lt (ze HO223).out)) (zz HB)), zk BK217 hb, zbs hb⟩; clear HO223 BK217 HB; obtain ⟨HO223, HO228, BK217, HB⟩ := n_; (try clear hb); (try clear hb2); (try clear hk); (try clear hi); (try clear ho0)) | ((with_reducible refine gate_dst (N := 4) rfl ?_); refine zbx 4 #[.int .i8 0, .int .i8 0, .slice none 0 0] 29 ?_; intro gb230 hg w40 hbox hb; have n_ : _ ∧ _ ∧ _ ∧ _ ∧ _ ∧ _ ∧ _ ∧ _ ∧ _ := ⟨zr HO223 hb, zr HO228 hb, zk BK217 hb, zbs hb, Aside0.mk (hbox), zg HB hg, zg HB hg, zn1 BK217 hg, zn2 BK217 hg⟩; clear HO223 HO228 BK217 HB; obtain ⟨HO223, HO228, BK217, HB, BK230, GW230, GE230, NB217_230, NB230_217⟩ := n_; clear hb hbox hg; have hnb41 := NB230_217.out; have hnc41 := NB217_230.out; obtain ⟨z42_0, z42_1, z42_2, y42_0, y42_1, y42_2⟩ := zB3 BK230; obtain ⟨Ao43, co43, eo43⟩ := Kd.R_slice HO228.out; subst eo43; obtain ⟨z44_0, z44_1, z44_2, y44_0, y44_1, y44_2⟩ := zB3 BK217) | ((with_reducible refine gate_callee (f := 6) rfl ?_); refine goesL_ (some 26) rfl rfl Try.func6 (by kernel_rfl) rfl #[.agg #[.int .i8 a0_0, .int .i8 a0_1, .slice A0_2 l0_2.length c0_2]] rfl zm ?_; (with_reducible refine (laws_toBoard.calls k a0_0 a0_1 _ _ l0_2 t231 t232 t233 _ ?side1 ?side2 A9.out).mono ?_); (case side1 => exact Kd.C_below HR0_2.out zbo); (case side2 => exact HC0_2.out); rintro e w45 ⟨v234, rfl, ho0, hb⟩; refine ⟨_, rfl, ?_⟩; have n_ : _ ∧ _ ∧ _ ∧ _ ∧ _ ∧ _ := ⟨Aside0.mk (Kd.R_elder' (zs HO223 BK230).out (Kd.R_base ho0) hb), Aside0.mk (Kd.R_elder' (zs HO228 BK230).out (Kd.R_base ho0) hb), Aside0.mk (Kd.R_lower (Kd.R_new' (Kd.R_new' ho0 (Kd.R_lt (zs HO223 BK230).out)) (Kd.R_lt (zs HO228 BK230).out)) (zz HB)), zfb BK217 NB217_230 hb, Aside0.mk (blk_below (g := gb230) (o := .cells #[.int .i8 t224, .int .i8 t225, .slice Ao43 t226.length co43] 29 (0, 0)) (zp BK230) hb), zbs hb⟩; clear HO223 HO228 BK217 BK230 HB; obtain ⟨HO223, HO228, HO235, BK217, BK230, HB⟩ := n_; (try clear hb); (try clear hb2); (try clear hk); (try clear hi); (try clear ho0)) | ((with_reducible refine gate_dst (N := 6) rfl ?_); refine zbx 6 #[.int .i8 0, .int .i8 0, .slice none 0 0] 29 ?_; intro gb236 hg w46 hbox hb; have n_ : _ ∧ _ ∧ _ ∧ _ ∧ _ ∧ _ ∧ _ ∧ _ ∧ _ ∧ _ ∧ _ ∧ _ ∧ _ := ⟨zr HO223 hb, zr HO228 hb, zr HO235 hb, zk BK217 hb, zk BK230 hb, zbs hb, Aside0.mk (hbox), zg HB hg, zg HB hg, zn1 BK217 hg, zn2 BK217 hg, zn1 BK230 hg, zn2 BK230 hg⟩; clear HO223 HO228 HO235 BK217 BK230 HB; obtain ⟨HO223, HO228, HO235, BK217, BK230, HB, BK236, GW236, GE236, NB217_236, NB236_217, NB230_236, NB236_230⟩ := n_; clear hb hbox hg; have hnb47 := NB236_217.out; have hnc47 := NB217_236.out; have hnb48 := NB236_230.out; have hnc48 := NB230_236.out; obtain ⟨z49_0, z49_1, z49_2, y49_0, y49_1, y49_2⟩ := zB3 BK236; obtain ⟨Ao50, co50, eo50⟩ := Kd.R_slice HO235.out; subst eo50) | ((with_reducible refine gate_callee (f := 7) rfl ?_); refine goesL_ (some 29) rfl rfl Try.func7 (by kernel_rfl) rfl #[.agg #[.int .i8 t231, .int .i8 t232, .slice Ao50 t233.length co50]] rfl zm ?_; (with_reducible refine (impl_SortBoard.calls k t231 t232 _ _ t233 t237 t238 t239 t242 _ ?side1 ?side2 A10.out).mono ?_); (case side1 => exact (Kd.R_reads' (zs HO235 BK236).out).2.2); (case side2 => exact (Kd.R_reads' HO235.out).2.1); rintro e w51 ⟨v240, rfl, ho0, hb⟩; refine ⟨_, rfl, ?_⟩; have n_ : _ ∧ _ ∧ _ ∧ _ ∧ _ ∧ _ ∧ _ ∧ _ := ⟨Aside0.mk (Kd.R_elder' (zs HO223 BK236).out (Kd.R_base ho0) hb), Aside0.mk (Kd.R_elder' (zs HO228 BK236).out (Kd.R_base ho0) hb), Aside0.mk (Kd.R_elder' (zs HO235 BK236).out (Kd.R_base ho0) hb), Aside0.mk (Kd.R_lower (Kd.R_new' (Kd.R_new' (Kd.R_new' ho0 (Kd.R_lt (zs HO223 BK236).out)) (Kd.R_lt (zs HO228 BK236).out)) (Kd.R_lt (zs HO235 BK236).out)) (zz HB)), zfb BK217 NB217_236 hb, zfb BK230 NB230_236 hb, Aside0.mk (blk_below (g := gb236) (o := .cells #[.int .i8 t231, .int .i8 t232, .slice Ao50 t233.length co50] 29 (0, 0)) (zp BK236) hb), zbs hb⟩; clear HO223 HO228 HO235 BK217 BK230 BK236 HB; obtain ⟨HO223, HO228, HO235, HO241, BK217, BK230, BK236, HB⟩ := n_; (try clear hb); (try clear hb2); (try clear hk); (try clear hi); (try clear ho0)) | ((with_reducible refine gate_dst (N := 7) rfl ?_); refine zbx 7 #[.int .i8 0, .int .i8 0, .slice none 0 0] 29 ?_; intro gb243 hg w52 hbox hb; have n_ : _ ∧ _ ∧ _ ∧ _ ∧ _ ∧ _ ∧ _ ∧ _ ∧ _ ∧ _ ∧ _ ∧ _ ∧ _ ∧ _ ∧ _ ∧ _ ∧ _ := ⟨zr HO223 hb, zr HO228 hb, zr HO235 hb, zr HO241 hb, zk BK217 hb, zk BK230 hb, zk BK236 hb, zbs hb, Aside0.mk (hbox), zg HB hg, zg HB hg, zn1 BK217 hg, zn2 BK217 hg, zn1 BK230 hg, zn2 BK230 hg, zn1 BK236 hg, zn2 BK236 hg⟩; clear HO223 HO228 HO235 HO241 BK217 BK230 BK236 HB; obtain ⟨HO223, HO228, HO235, HO241, BK217, BK230, BK236, HB, BK243, GW243, GE243, NB217_243, NB243_217, NB230_243, NB243_230, NB236_243, NB243_236⟩ := n_; clear hb hbox hg; have hnb53 := NB243_217.out; have hnc53 := NB217_243.out; have hnb54 := NB243_230.out; have hnc54 := NB230_243.out; have hnb55 := NB243_236.out; have hnc55 := NB236_243.out; obtain ⟨z56_0, z56_1, z56_2, y56_0, y56_1, y56_2⟩ := zB3 BK243; obtain ⟨Ao57, co57, eo57⟩ := Kd.R_slice HO241.out; subst eo57; obtain ⟨z58_0, z58_1, z58_2, y58_0, y58_1, y58_2⟩ := zB3 BK230) | ((with_reducible refine gate_callee (f := 8) rfl ?_); refine goesL_ (some 34) rfl rfl Try.func8 (by kernel_rfl) rfl #[.agg #[.int .i8 t237, .int .i8 t238, .slice Ao57 t239.length co57], .agg #[.int .i8 t224, .int .i8 t225, .slice Ao43 t226.length co43]] rfl zm ?_; (with_reducible refine (laws_eqBoard.calls k t237 t238 _ _ t239 t224 t225 _ _ t226 true _ ?side1 ?side2 ?side3 ?side4 A11.out).mono ?_); (case side1 => exact (Kd.R_reads' (zs HO241 BK243).out).2.2); (case side2 => exact (Kd.R_reads' HO241.out).2.1); (case side3 => exact (Kd.R_reads' (zs HO228 BK243).out).2.2); (case side4 => exact (Kd.R_reads' HO228.out).2.1); rintro e w59 ⟨rfl, hb⟩; refine ⟨_, rfl, ?_⟩; have n_ : _ ∧ _ ∧ _ ∧ _ ∧ _ ∧ _ ∧ _ ∧ _ ∧ _ := ⟨zsb HO223 BK243 hb, zsb HO228 BK243 hb, zsb HO235 BK243 hb, zsb HO241 BK243 hb, zfb BK217 NB217_243 hb, zfb BK230 NB230_243 hb, zfb BK236 NB236_243 hb, Aside0.mk (blk_below (g := gb243) (o := .cells #[.int .i8 t237, .int .i8 t238, .slice Ao57 t239.length co57] 29 (0, 0)) (zp BK243) hb), zbs hb⟩; clear HO223 HO228 HO235 HO241 BK217 BK230 BK236 BK243 HB; obtain ⟨HO223, HO228, HO235, HO241, BK217, BK230, BK236, BK243, HB⟩ := n_; (try clear hb); (try clear hb2); (try clear hk); (try clear hi)))
 have n_ : _ ∧ _ ∧ _ ∧ _ ∧ _ ∧ _ ∧ _ ∧ _ ∧ _ := ⟨Aside0.mk (Kd.R_drew HO223.out), Aside0.mk (Kd.R_drew HO228.out), Aside0.mk (Kd.R_drew HO235.out), Aside0.mk (Kd.R_drew HO241.out), Aside0.mk (blk_drew BK217.out), Aside0.mk (blk_drew BK230.out), Aside0.mk (blk_drew BK236.out), Aside0.mk (blk_drew BK243.out), Aside0.mk (below_drew1 HB.out)⟩
 clear HO223 HO228 HO235 HO241 BK217 BK230 BK236 BK243 HB
 obtain ⟨HO223, HO228, HO235, HO241, BK217, BK230, BK236, BK243, HB⟩ := n_
 refine start_ (n := 5) (S := fun w' => w'.cell? ⟨gb236, 0, none⟩ = some (.int .i8 t231) ∧ w'.cell? ⟨gb236, 1, none⟩ = some (.int .i8 t232) ∧ w'.cell? ⟨gb236, 2, none⟩ = some (.slice Ao50 t233.length co50) ∧ w'.cell? ⟨gb217, 0, none⟩ = some (.int .i8 a0_0) ∧ w'.cell? ⟨gb217, 1, none⟩ = some (.int .i8 a0_1) ∧ w'.cell? ⟨gb217, 2, none⟩ = some (.slice A0_2 l0_2.length c0_2)) (ds := []) #[false, false, false, false, false] (by kernel_rfl) rfl rfl ⟨(blk_cell BK236.out 0).trans rfl, (blk_cell BK236.out 1).trans rfl, (blk_cell BK236.out 2).trans rfl, (blk_cell BK217.out 0).trans rfl, (blk_cell BK217.out 1).trans rfl, (blk_cell BK217.out 2).trans rfl⟩ (fun hHeld => ?_)
 generalize w59.drew = w60 at HO223 HO228 HO235 HO241 BK217 BK230 BK236 BK243 HB hHeld ⊢
 refine take_ (i := 0) (N := some 41) (v := ?_) (a' := ?_) #[true, false, false, false, false] rfl rfl (by kernel_rfl) (fun _ _ _ h => h) (Or.inl ⟨by rfl, ?_⟩) hHeld ?_ ?_
 rotate_left
 ·rintro w' ⟨s0, s1, s2, s3, s4, s5⟩
  go_simp
  with_reducible rfl
 rotate_left
 ·exact zap
 refine take_ (i := 1) (N := some 42) (v := ?_) (a' := ?_) #[true, true, false, false, false] rfl rfl (by kernel_rfl) (fun _ _ _ h => h) (Or.inl ⟨by rfl, ?_⟩) hHeld ?_ ?_
 rotate_left
 ·rintro w' ⟨s0, s1, s2, s3, s4, s5⟩
  go_simp
  with_reducible rfl
 rotate_left
 ·exact zap
 refine one_ (i := 2) (N := some 43) #[true, true, true, false, false] rfl rfl (by kernel_rfl) (by decide) (fun K hK => ?_)
 refine goes_ Try.func6 (by kernel_rfl) rfl #[.agg #[.int .i8 a0_0, .int .i8 a0_1, .slice A0_2 l0_2.length c0_2]] (by rfl) rfl rfl zm ?_
 with_reducible refine (laws_toBoard.calls k a0_0 a0_1 _ _ l0_2 t245 t246 t247 _ ?side1 ?side2 A14.out).mono ?_
 (case side1 => exact zcc HB HR0_2.out)
 (case side2 => exact HC0_2.out)
 rintro e w61 ⟨v248, rfl, ho0, hb⟩
 refine ⟨_, rfl, ?_⟩
 have n_ : _ ∧ _ ∧ _ ∧ _ ∧ _ ∧ _ ∧ _ ∧ _ ∧ _ ∧ _ := ⟨Aside0.mk (Kd.R_elder' (ze HO223).out (Kd.R_base ho0) hb), Aside0.mk (Kd.R_elder' (ze HO228).out (Kd.R_base ho0) hb), Aside0.mk (Kd.R_elder' (ze HO235).out (Kd.R_base ho0) hb), Aside0.mk (Kd.R_elder' (ze HO241).out (Kd.R_base ho0) hb), Aside0.mk (Kd.R_lower (Kd.R_new' (Kd.R_new' (Kd.R_new' (Kd.R_new' ho0 (Kd.R_lt (ze HO223).out)) (Kd.R_lt (ze HO228).out)) (Kd.R_lt (ze HO235).out)) (Kd.R_lt (ze HO241).out)) (zz HB)), zk BK217 hb, zk BK230 hb, zk BK236 hb, zk BK243 hb, zbs hb⟩
 clear HO223 HO228 HO235 HO241 BK217 BK230 BK236 BK243 HB
 obtain ⟨HO223, HO228, HO235, HO241, HO249, BK217, BK230, BK236, BK243, HB⟩ := n_
 (try clear hb)
 (try clear hb2)
 (try clear hk)
 (try clear hi)
 (try clear ho0)
 obtain ⟨Ao62, co62, eo62⟩ := Kd.R_slice HO249.out
 (first | subst eo62 | (injection eo62 with f1_ f2_ f3_; have f4_ := f1_.symm; have f5_ := f3_.symm; clear f1_ f2_ f3_; subst f4_; subst f5_))
 refine hK.out _ _ ⟨(blk_cell BK236.out 0).trans rfl, (blk_cell BK236.out 1).trans rfl, (blk_cell BK236.out 2).trans rfl, (blk_cell BK217.out 0).trans rfl, (blk_cell BK217.out 1).trans rfl, (blk_cell BK217.out 2).trans rfl⟩ (fun hHeld => ?_)
 clear hK K
 refine norm_ (a' := ?_) ?_ ?_
 rotate_left
 ·show Act.put _ (some 43) _ = _
  exact zap
 refine one_ (i := 3) (N := some 44) #[true, true, true, true, false] rfl rfl (by kernel_rfl) (by decide) (fun K hK => ?_)
 refine goes_ Try.func8 (by kernel_rfl) rfl #[.agg #[.int .i8 t231, .int .i8 t232, .slice Ao50 t233.length co50], .agg #[.int .i8 t245, .int .i8 t246, .slice Ao62 t247.length co62]] (by rfl) rfl rfl zm ?_
 with_reducible refine (laws_eqBoard.calls k t231 t232 _ _ t233 t245 t246 _ _ t247 true _ ?side1 ?side2 ?side3 ?side4 A15.out).mono ?_
 (case side1 => exact zrc HO235)
 (case side2 => exact (Kd.R_reads' HO235.out).2.1)
 (case side3 => exact zrc HO249)
 (case side4 => exact (Kd.R_reads' HO249.out).2.1)
 rintro e w63 ⟨rfl, hb⟩
 refine ⟨_, rfl, ?_⟩
 have n_ : _ ∧ _ ∧ _ ∧ _ ∧ _ ∧ _ ∧ _ ∧ _ ∧ _ ∧ _ := ⟨zr HO223 hb, zr HO228 hb, zr HO235 hb, zr HO241 hb, zr HO249 hb, zk BK217 hb, zk BK230 hb, zk BK236 hb, zk BK243 hb, zbs hb⟩
 clear HO223 HO228 HO235 HO241 HO249 BK217 BK230 BK236 BK243 HB
 obtain ⟨HO223, HO228, HO235, HO241, HO249, BK217, BK230, BK236, BK243, HB⟩ := n_
 (try clear hb)
 (try clear hb2)
 (try clear hk)
 (try clear hi)
 refine hK.out _ _ ⟨(blk_cell BK236.out 0).trans rfl, (blk_cell BK236.out 1).trans rfl, (blk_cell BK236.out 2).trans rfl, (blk_cell BK217.out 0).trans rfl, (blk_cell BK217.out 1).trans rfl, (blk_cell BK217.out 2).trans rfl⟩ (fun hHeld => ?_)
 clear hK K
 refine norm_ (a' := ?_) ?_ ?_
 rotate_left
 ·show Act.put _ (some 44) _ = _
  exact zap
 refine pure_ (i := 4) (N := some 45) (v := ?_) (a' := ?_) #[true, true, true, true, true] rfl rfl (by kernel_rfl) (fun _ _ _ h => h) (Or.inl ⟨by rfl, ?_⟩) ?_ ?_
 rotate_left
 ·intro w'
  go_simp
  with_reducible rfl
 rotate_left
 ·exact zap
 refine done_ (by kernel_rfl) ?_
 obtain ⟨z64_0, z64_1, z64_2, y64_0, y64_1, y64_2⟩ := zB3 BK236
 try go_wp2_with (first | ((with_reducible refine gate_callee (f := 9) rfl ?_); refine goesL_ (some 48) rfl rfl Try.func9 (by kernel_rfl) rfl #[.agg #[.int .i8 t231, .int .i8 t232, .slice Ao50 t233.length co50], .int .i64 1] rfl zm ?_; (with_reducible refine (laws_markBoard.calls k t231 t232 (fun k_ => some k_ = (.slice Ao50 t233.length co50 : Value).ownBlock) (.slice Ao50 t233.length co50) t233 1 t251 t252 w _ ?side1 ?side2 A17.out).mono ?_); (case side1 => exact zbo); (case side2 => exact Kd.R_tight rfl HO235.out); rintro e w65 ⟨rfl, hy0, hb, hkp⟩; refine ⟨_, rfl, ?_⟩; have n_ : _ ∧ _ ∧ _ ∧ _ ∧ _ ∧ _ ∧ _ ∧ _ ∧ _ ∧ _ := ⟨zkr BK217 hkp (fun hs_ => (fun e_ => (Kd.R_ne HO235.out BK217.out (by decide)) e_) hs_), Aside0.mk (Kd.R_mono (ok' := fun k_ => some k_ ≠ (.slice Ao43 t226.length co43 : Value).ownBlock ∧ some k_ ≠ (.slice Ao50 t233.length co50 : Value).ownBlock ∧ some k_ ≠ (.slice Ao57 t239.length co57 : Value).ownBlock ∧ some k_ ≠ (.slice Ao62 t247.length co62 : Value).ownBlock) (Kd.R_keptB (HO223.out) hkp (fun k_ hk_ hs_ => (hk_.1.1.2) hs_)) (fun k_ hk_ => ⟨hk_.1.1.1.1.2, hk_.1.1.1.2, hk_.1.1.2, hk_.1.2⟩)), Aside0.mk (Kd.R_mono (ok' := fun k_ => some k_ ≠ (.slice Ao38 t221.length co38 : Value).ownBlock ∧ some k_ ≠ (.slice Ao50 t233.length co50 : Value).ownBlock ∧ some k_ ≠ (.slice Ao57 t239.length co57 : Value).ownBlock ∧ some k_ ≠ (.slice Ao62 t247.length co62 : Value).ownBlock) (Kd.R_keptB (HO228.out) hkp (fun k_ hk_ hs_ => (hk_.1.1.2) hs_)) (fun k_ hk_ => ⟨hk_.1.1.1.1.2, hk_.1.1.1.2, hk_.1.1.2, hk_.1.2⟩)), zkr BK230 hkp (fun hs_ => (fun e_ => (Kd.R_ne HO235.out BK230.out (by decide)) e_) hs_), Aside0.mk (Kd.R_reok rfl hy0 (fun k_ e_ => HO235.out.1 k_ e_)), zkr BK236 hkp (fun hs_ => (fun e_ => (Kd.R_ne HO235.out BK236.out (by decide)) e_) hs_), Aside0.mk (Kd.R_mono (ok' := fun k_ => some k_ ≠ (.slice Ao38 t221.length co38 : Value).ownBlock ∧ some k_ ≠ (.slice Ao43 t226.length co43 : Value).ownBlock ∧ some k_ ≠ (.slice Ao50 t233.length co50 : Value).ownBlock ∧ some k_ ≠ (.slice Ao62 t247.length co62 : Value).ownBlock) (Kd.R_keptB (HO241.out) hkp (fun k_ hk_ hs_ => (hk_.1.2) hs_)) (fun k_ hk_ => ⟨hk_.1.1.1.1.2, hk_.1.1.1.2, hk_.1.1.2, hk_.1.2⟩)), zkr BK243 hkp (fun hs_ => (fun e_ => (Kd.R_ne HO235.out BK243.out (by decide)) e_) hs_), Aside0.mk (Kd.R_mono (ok' := fun k_ => some k_ ≠ (.slice Ao38 t221.length co38 : Value).ownBlock ∧ some k_ ≠ (.slice Ao43 t226.length co43 : Value).ownBlock ∧ some k_ ≠ (.slice Ao50 t233.length co50 : Value).ownBlock ∧ some k_ ≠ (.slice Ao57 t239.length co57 : Value).ownBlock) (Kd.R_keptB (HO249.out) hkp (fun k_ hk_ hs_ => (hk_.1.2) hs_)) (fun k_ hk_ => ⟨hk_.1.1.1.1.2, hk_.1.1.1.2, hk_.1.1.2, hk_.1.2⟩)), Aside0.mk (hb)⟩; clear BK217 HO223 HO228 BK230 HO235 BK236 HO241 BK243 HO249 HB; obtain ⟨BK217, HO223, HO228, BK230, HO235, BK236, HO241, BK243, HO249, HB⟩ := n_; (try clear hb); (try clear hkp); (try clear hy0); obtain ⟨z66_0, z66_1, z66_2, y66_0, y66_1, y66_2⟩ := zB3 BK243; obtain ⟨z67_0, z67_1, z67_2, y67_0, y67_1, y67_2⟩ := zB3 BK230) | (go_at_call 8; (with_reducible refine (laws_eqBoard.calls k t237 t238 _ _ t239 t224 t225 _ _ t226 true _ ?side1 ?side2 ?side3 ?side4 A19.out).mono ?_); (case side1 => exact zrc HO241); (case side2 => exact (Kd.R_reads' HO241.out).2.1); (case side3 => exact zrc HO228); (case side4 => exact (Kd.R_reads' HO228.out).2.1); rintro e w68 ⟨rfl, hb⟩; have n_ : _ ∧ _ ∧ _ ∧ _ ∧ _ ∧ _ ∧ _ ∧ _ ∧ _ ∧ _ := ⟨zr HO223 hb, zr HO228 hb, zr HO235 hb, zr HO241 hb, zr HO249 hb, zk BK217 hb, zk BK230 hb, zk BK236 hb, zk BK243 hb, zbs hb⟩; clear HO223 HO228 HO235 HO241 HO249 BK217 BK230 BK236 BK243 HB; obtain ⟨HO223, HO228, HO235, HO241, HO249, BK217, BK230, BK236, BK243, HB⟩ := n_; (try clear hb); (try clear hb2); (try clear hk); (try clear hi); obtain ⟨z69_0, z69_1, z69_2, y69_0, y69_1, y69_2⟩ := zB3 BK243) | ((with_reducible refine gate_callee (f := 9) rfl ?_); refine goesL_ (some 64) rfl rfl Try.func9 (by kernel_rfl) rfl #[.agg #[.int .i8 t237, .int .i8 t238, .slice Ao57 t239.length co57], .int .i64 1] rfl zm ?_; (with_reducible refine (laws_markBoard.calls k t237 t238 (fun k_ => some k_ = (.slice Ao57 t239.length co57 : Value).ownBlock) (.slice Ao57 t239.length co57) t239 1 t254 t255 w _ ?side1 ?side2 A21.out).mono ?_); (case side1 => exact zbo); (case side2 => exact Kd.R_tight rfl HO241.out); rintro e w70 ⟨rfl, hy0, hb, hkp⟩; refine ⟨_, rfl, ?_⟩; have n_ : _ ∧ _ ∧ _ ∧ _ ∧ _ ∧ _ ∧ _ ∧ _ ∧ _ ∧ _ := ⟨zkr BK217 hkp (fun hs_ => (fun e_ => (Kd.R_ne HO241.out BK217.out (by decide)) e_) hs_), Aside0.mk (Kd.R_mono (ok' := fun k_ => some k_ ≠ (.slice Ao43 t226.length co43 : Value).ownBlock ∧ some k_ ≠ (.slice Ao50 t233.length co50 : Value).ownBlock ∧ some k_ ≠ (.slice Ao57 t239.length co57 : Value).ownBlock ∧ some k_ ≠ (.slice Ao62 t247.length co62 : Value).ownBlock) (Kd.R_keptB (HO223.out) hkp (fun k_ hk_ hs_ => (hk_.2.2.1) hs_)) (fun k_ hk_ => ⟨hk_.1.1, hk_.1.2.1, hk_.1.2.2.1, hk_.1.2.2.2⟩)), Aside0.mk (Kd.R_mono (ok' := fun k_ => some k_ ≠ (.slice Ao38 t221.length co38 : Value).ownBlock ∧ some k_ ≠ (.slice Ao50 t233.length co50 : Value).ownBlock ∧ some k_ ≠ (.slice Ao57 t239.length co57 : Value).ownBlock ∧ some k_ ≠ (.slice Ao62 t247.length co62 : Value).ownBlock) (Kd.R_keptB (HO228.out) hkp (fun k_ hk_ hs_ => (hk_.2.2.1) hs_)) (fun k_ hk_ => ⟨hk_.1.1, hk_.1.2.1, hk_.1.2.2.1, hk_.1.2.2.2⟩)), zkr BK230 hkp (fun hs_ => (fun e_ => (Kd.R_ne HO241.out BK230.out (by decide)) e_) hs_), Aside0.mk (Kd.R_mono (ok' := fun k_ => some k_ ≠ (.slice Ao38 t221.length co38 : Value).ownBlock ∧ some k_ ≠ (.slice Ao43 t226.length co43 : Value).ownBlock ∧ some k_ ≠ (.slice Ao57 t239.length co57 : Value).ownBlock ∧ some k_ ≠ (.slice Ao62 t247.length co62 : Value).ownBlock) (Kd.R_keptB (HO235.out) hkp (fun k_ hk_ hs_ => (hk_.1.2) hs_)) (fun k_ hk_ => ⟨hk_.1.1.1.1.2, hk_.1.1.1.2, hk_.1.1.2, hk_.1.2⟩)), zkr BK236 hkp (fun hs_ => (fun e_ => (Kd.R_ne HO241.out BK236.out (by decide)) e_) hs_), Aside0.mk (Kd.R_reok rfl hy0 (fun k_ e_ => HO241.out.1 k_ e_)), zkr BK243 hkp (fun hs_ => (fun e_ => (Kd.R_ne HO241.out BK243.out (by decide)) e_) hs_), Aside0.mk (Kd.R_mono (ok' := fun k_ => some k_ ≠ (.slice Ao38 t221.length co38 : Value).ownBlock ∧ some k_ ≠ (.slice Ao43 t226.length co43 : Value).ownBlock ∧ some k_ ≠ (.slice Ao50 t233.length co50 : Value).ownBlock ∧ some k_ ≠ (.slice Ao57 t239.length co57 : Value).ownBlock) (Kd.R_keptB (HO249.out) hkp (fun k_ hk_ hs_ => (hk_.2.2.2) hs_)) (fun k_ hk_ => ⟨hk_.1.1, hk_.1.2.1, hk_.1.2.2.1, hk_.1.2.2.2⟩)), Aside0.mk (hb)⟩; clear BK217 HO223 HO228 BK230 HO235 BK236 HO241 BK243 HO249 HB; obtain ⟨BK217, HO223, HO228, BK230, HO235, BK236, HO241, BK243, HO249, HB⟩ := n_; (try clear hb); (try clear hkp); (try clear hy0); obtain ⟨z71_0, z71_1, z71_2, y71_0, y71_1, y71_2⟩ := zB3 BK243) | ((with_reducible refine gate_callee (f := 10) rfl ?_); refine goesL_ (some 67) rfl rfl Try.func10 (by kernel_rfl) rfl #[.agg #[.int .i8 t237, .int .i8 t238, .slice Ao57 t255.length co57], .int .i64 1] rfl (by (try simp only [List.map_toArray, List.map_cons, List.map_nil]); first | done | (rw [show t255.length = t239.length from (Kd.R_reads' HO241.out).1.symm] <;> rfl) | rfl | (simp only [List.length_drop, List.length_take]; rfl)) ?_; (with_reducible refine (laws_heldBoard.calls k t237 t238 _ _ t255 1 t256 _ ?side1 ?side2 A22.out).mono ?_); (case side1 => exact zrc HO241); (case side2 => rw [show t255.length = t239.length from (Kd.R_reads' HO241.out).1.symm]; exact (Kd.R_reads' HO241.out).2.1); rintro e w72 ⟨rfl, hb⟩; refine ⟨_, rfl, ?_⟩; have n_ : _ ∧ _ ∧ _ ∧ _ ∧ _ ∧ _ ∧ _ ∧ _ ∧ _ ∧ _ := ⟨zr HO223 hb, zr HO228 hb, zr HO235 hb, zr HO241 hb, zr HO249 hb, zk BK217 hb, zk BK230 hb, zk BK236 hb, zk BK243 hb, zbs hb⟩; clear HO223 HO228 HO235 HO241 HO249 BK217 BK230 BK236 BK243 HB; obtain ⟨HO223, HO228, HO235, HO241, HO249, BK217, BK230, BK236, BK243, HB⟩ := n_; (try clear hb); (try clear hb2); (try clear hk); (try clear hi); obtain ⟨z73_0, z73_1, z73_2, y73_0, y73_1, y73_2⟩ := zB3 BK217) | ((with_reducible refine gate_callee (f := 6) rfl ?_); refine goesL_ (some 75) rfl rfl Try.func6 (by kernel_rfl) rfl #[.agg #[.int .i8 a0_0, .int .i8 a0_1, .slice A0_2 l0_2.length c0_2]] rfl zm ?_; (with_reducible refine (laws_toBoard.calls k a0_0 a0_1 _ _ l0_2 t257 t258 t259 _ ?side1 ?side2 A25.out).mono ?_); (case side1 => exact zcc HB HR0_2.out); (case side2 => exact HC0_2.out); rintro e w74 ⟨v260, rfl, ho0, hb⟩; refine ⟨_, rfl, ?_⟩; have n_ : _ ∧ _ ∧ _ ∧ _ ∧ _ ∧ _ ∧ _ ∧ _ ∧ _ ∧ _ ∧ _ := ⟨Aside0.mk (Kd.R_elder' (ze HO223).out (Kd.R_base ho0) hb), Aside0.mk (Kd.R_elder' (ze HO228).out (Kd.R_base ho0) hb), Aside0.mk (Kd.R_elder' (ze HO235).out (Kd.R_base ho0) hb), Aside0.mk (Kd.R_elder' (ze HO241).out (Kd.R_base ho0) hb), Aside0.mk (Kd.R_elder' (ze HO249).out (Kd.R_base ho0) hb), Aside0.mk (Kd.R_lower (Kd.R_new' (Kd.R_new' (Kd.R_new' (Kd.R_new' (Kd.R_new' ho0 (Kd.R_lt (ze HO223).out)) (Kd.R_lt (ze HO228).out)) (Kd.R_lt (ze HO235).out)) (Kd.R_lt (ze HO241).out)) (Kd.R_lt (ze HO249).out)) (zz HB)), zk BK217 hb, zk BK230 hb, zk BK236 hb, zk BK243 hb, zbs hb⟩; clear HO223 HO228 HO235 HO241 HO249 BK217 BK230 BK236 BK243 HB; obtain ⟨HO223, HO228, HO235, HO241, HO249, HO261, BK217, BK230, BK236, BK243, HB⟩ := n_; (try clear hb); (try clear hb2); (try clear hk); (try clear hi); (try clear ho0); obtain ⟨Ao75, co75, eo75⟩ := Kd.R_slice HO261.out; subst eo75) | ((with_reducible refine gate_callee (f := 7) rfl ?_); refine goesL_ (some 76) rfl rfl Try.func7 (by kernel_rfl) rfl #[.agg #[.int .i8 t257, .int .i8 t258, .slice Ao75 t259.length co75]] rfl zm ?_; (with_reducible refine (impl_SortBoard.calls k t257 t258 _ _ t259 t262 t263 t264 t267 _ ?side1 ?side2 A26.out).mono ?_); (case side1 => exact zrc HO261); (case side2 => exact (Kd.R_reads' HO261.out).2.1); rintro e w76 ⟨v265, rfl, ho0, hb⟩; refine ⟨_, rfl, ?_⟩; have n_ : _ ∧ _ ∧ _ ∧ _ ∧ _ ∧ _ ∧ _ ∧ _ ∧ _ ∧ _ ∧ _ ∧ _ := ⟨Aside0.mk (Kd.R_elder' (ze HO223).out (Kd.R_base ho0) hb), Aside0.mk (Kd.R_elder' (ze HO228).out (Kd.R_base ho0) hb), Aside0.mk (Kd.R_elder' (ze HO235).out (Kd.R_base ho0) hb), Aside0.mk (Kd.R_elder' (ze HO241).out (Kd.R_base ho0) hb), Aside0.mk (Kd.R_elder' (ze HO249).out (Kd.R_base ho0) hb), Aside0.mk (Kd.R_elder' (ze HO261).out (Kd.R_base ho0) hb), Aside0.mk (Kd.R_lower (Kd.R_new' (Kd.R_new' (Kd.R_new' (Kd.R_new' (Kd.R_new' (Kd.R_new' ho0 (Kd.R_lt (ze HO223).out)) (Kd.R_lt (ze HO228).out)) (Kd.R_lt (ze HO235).out)) (Kd.R_lt (ze HO241).out)) (Kd.R_lt (ze HO249).out)) (Kd.R_lt (ze HO261).out)) (zz HB)), zk BK217 hb, zk BK230 hb, zk BK236 hb, zk BK243 hb, zbs hb⟩; clear HO223 HO228 HO235 HO241 HO249 HO261 BK217 BK230 BK236 BK243 HB; obtain ⟨HO223, HO228, HO235, HO241, HO249, HO261, HO266, BK217, BK230, BK236, BK243, HB⟩ := n_; (try clear hb); (try clear hb2); (try clear hk); (try clear hi); (try clear ho0)) | ((with_reducible refine gate_dst (N := 12) rfl ?_); refine zbx 12 #[.int .i8 0, .int .i8 0, .slice none 0 0] 29 ?_; intro gb268 hg w77 hbox hb; have n_ : _ ∧ _ ∧ _ ∧ _ ∧ _ ∧ _ ∧ _ ∧ _ ∧ _ ∧ _ ∧ _ ∧ _ ∧ _ ∧ _ ∧ _ ∧ _ ∧ _ ∧ _ ∧ _ ∧ _ ∧ _ ∧ _ ∧ _ := ⟨zr HO223 hb, zr HO228 hb, zr HO235 hb, zr HO241 hb, zr HO249 hb, zr HO261 hb, zr HO266 hb, zk BK217 hb, zk BK230 hb, zk BK236 hb, zk BK243 hb, zbs hb, Aside0.mk (hbox), zg HB hg, zg HB hg, zn1 BK217 hg, zn2 BK217 hg, zn1 BK230 hg, zn2 BK230 hg, zn1 BK236 hg, zn2 BK236 hg, zn1 BK243 hg, zn2 BK243 hg⟩; clear HO223 HO228 HO235 HO241 HO249 HO261 HO266 BK217 BK230 BK236 BK243 HB; obtain ⟨HO223, HO228, HO235, HO241, HO249, HO261, HO266, BK217, BK230, BK236, BK243, HB, BK268, GW268, GE268, NB217_268, NB268_217, NB230_268, NB268_230, NB236_268, NB268_236, NB243_268, NB268_243⟩ := n_; clear hb hbox hg; have hnb78 := NB268_217.out; have hnc78 := NB217_268.out; have hnb79 := NB268_230.out; have hnc79 := NB230_268.out; have hnb80 := NB268_236.out; have hnc80 := NB236_268.out; have hnb81 := NB268_243.out; have hnc81 := NB243_268.out; obtain ⟨z82_0, z82_1, z82_2, y82_0, y82_1, y82_2⟩ := zB3 BK268; obtain ⟨Ao83, co83, eo83⟩ := Kd.R_slice HO266.out; subst eo83; obtain ⟨z84_0, z84_1, z84_2, y84_0, y84_1, y84_2⟩ := zB3 BK230) | ((with_reducible refine gate_callee (f := 8) rfl ?_); refine goesL_ (some 81) rfl rfl Try.func8 (by kernel_rfl) rfl #[.agg #[.int .i8 t262, .int .i8 t263, .slice Ao83 t264.length co83], .agg #[.int .i8 t224, .int .i8 t225, .slice Ao43 t226.length co43]] rfl zm ?_; (with_reducible refine (laws_eqBoard.calls k t262 t263 _ _ t264 t224 t225 _ _ t226 true _ ?side1 ?side2 ?side3 ?side4 A27.out).mono ?_); (case side1 => exact (Kd.R_reads' (zs HO266 BK268).out).2.2); (case side2 => exact (Kd.R_reads' HO266.out).2.1); (case side3 => exact (Kd.R_reads' (zs HO228 BK268).out).2.2); (case side4 => exact (Kd.R_reads' HO228.out).2.1); rintro e w85 ⟨rfl, hb⟩; refine ⟨_, rfl, ?_⟩; have n_ : _ ∧ _ ∧ _ ∧ _ ∧ _ ∧ _ ∧ _ ∧ _ ∧ _ ∧ _ ∧ _ ∧ _ ∧ _ := ⟨zsb HO223 BK268 hb, zsb HO228 BK268 hb, zsb HO235 BK268 hb, zsb HO241 BK268 hb, zsb HO249 BK268 hb, zsb HO261 BK268 hb, zsb HO266 BK268 hb, zfb BK217 NB217_268 hb, zfb BK230 NB230_268 hb, zfb BK236 NB236_268 hb, zfb BK243 NB243_268 hb, Aside0.mk (blk_below (g := gb268) (o := .cells #[.int .i8 t262, .int .i8 t263, .slice Ao83 t264.length co83] 29 (0, 0)) (zp BK268) hb), zbs hb⟩; clear HO223 HO228 HO235 HO241 HO249 HO261 HO266 BK217 BK230 BK236 BK243 BK268 HB; obtain ⟨HO223, HO228, HO235, HO241, HO249, HO261, HO266, BK217, BK230, BK236, BK243, BK268, HB⟩ := n_; (try clear hb); (try clear hb2); (try clear hk); (try clear hi); obtain ⟨z86_0, z86_1, z86_2, y86_0, y86_1, y86_2⟩ := zB3 BK243) | ((with_reducible refine gate_callee (f := 10) rfl ?_); refine goesL_ (some 90) rfl rfl Try.func10 (by kernel_rfl) rfl #[.agg #[.int .i8 t237, .int .i8 t238, .slice Ao57 t255.length co57], .int .i64 1] rfl (by (try simp only [List.map_toArray, List.map_cons, List.map_nil]); first | done | (rw [show t255.length = t239.length from (Kd.R_reads' HO241.out).1.symm] <;> rfl) | rfl | (simp only [List.length_drop, List.length_take]; rfl)) ?_; (with_reducible refine (laws_heldBoard.calls k t237 t238 _ _ t255 1 t270 _ ?side1 ?side2 A30.out).mono ?_); (case side1 => exact zrc HO241); (case side2 => rw [show t255.length = t239.length from (Kd.R_reads' HO241.out).1.symm]; exact (Kd.R_reads' HO241.out).2.1); rintro e w87 ⟨rfl, hb⟩; refine ⟨_, rfl, ?_⟩; have n_ : _ ∧ _ ∧ _ ∧ _ ∧ _ ∧ _ ∧ _ ∧ _ ∧ _ ∧ _ ∧ _ ∧ _ ∧ _ := ⟨zr HO223 hb, zr HO228 hb, zr HO235 hb, zr HO241 hb, zr HO249 hb, zr HO261 hb, zr HO266 hb, zk BK217 hb, zk BK230 hb, zk BK236 hb, zk BK243 hb, zk BK268 hb, zbs hb⟩; clear HO223 HO228 HO235 HO241 HO249 HO261 HO266 BK217 BK230 BK236 BK243 BK268 HB; obtain ⟨HO223, HO228, HO235, HO241, HO249, HO261, HO266, BK217, BK230, BK236, BK243, BK268, HB⟩ := n_; (try clear hb); (try clear hb2); (try clear hk); (try clear hi)))
 go_ret
 exact ⟨zv, zbo⟩
end Go.Proofs.Ytljjmgokebmldaa.PFnExactSortBoard
