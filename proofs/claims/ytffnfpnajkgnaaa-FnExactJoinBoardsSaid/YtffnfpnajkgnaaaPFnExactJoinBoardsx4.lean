-- WRITTEN by xprint.py, a program of this session's. Not trusted: Lean checks it.
-- packed by pack.py
import Derived.Test.YtffnfpnajkgnaaaPFnExactJoinBoardsx0
import Derived.Test.YtffnfpnajkgnaaaPFnExactJoinBoardsx1
import Derived.Test.YtffnfpnajkgnaaaTFnExactJoinBoardsa
namespace Go.Proofs.Ytffnfpnajkgnaaa.PFnExactJoinBoards
open Go.RowKit Go.Proofs.YtffnfpnajkgnaaaW.PrintWords Go.Proofs.YtffnfpnajkgnaaaW.PrintLast Go.Proofs.YtffnfpnajkgnaaaW.PrintMore Go.Proofs.YtffnfpnajkgnaaaX
attribute [local go_sem] max2_int min2_int max_two min_two max_three min_three max_four min_four   -- for this text's walks alone
set_option maxHeartbeats 8000000
set_option maxRecDepth 100000
set_option linter.unusedVariables false
set_option linter.unusedSimpArgs false

attribute [local go_sem high] eqA74
mutual
def laws_heldPieceS.l0 : Nat → List (S91) → Int → Int → Option (Int)
  | 0, _, _, _ => none
  | k + 1, x0, x1, x5 => if x5 < (x0.length : Int) then (laws_heldPieceS.l1 k x0 x1 x5 0) else (some x1)
def laws_heldPieceS.l1 : Nat → List (S91) → Int → Int → Int → Option (Int)
  | 0, _, _, _, _ => none
  | k + 1, x0, x1, x5, x6 => if x6 < 2 then (if 0 ≤ x5 then (if x5 < (x0.length : Int) then (if x6 = 0 then (if ((rd_T91 x0 x5).f0.f0) = (IntKind.i8.wrap (x1)) then (laws_heldPieceS.l1 k x0 (wrap64 (x1 + 1)) x5 (wrap64 (x6 + 1))) else (some (-1))) else (if x6 = 1 then (if ((rd_T91 x0 x5).f0.f1) = (IntKind.i8.wrap (x1)) then (laws_heldPieceS.l1 k x0 (wrap64 (x1 + 1)) x5 (wrap64 (x6 + 1))) else (some (-1))) else (none))) else (none)) else (none)) else (if 0 ≤ x5 then (if x5 < (x0.length : Int) then (if ((rd_T91 x0 x5).f1) = (IntKind.i8.wrap (x1)) then (if ((rd_T91 x0 x5).f2) = (IntKind.i8.wrap (wrap64 (x1 + 1))) then (if ((rd_T91 x0 x5).f3) = (IntKind.i8.wrap (wrap64 ((wrap64 (x1 + 1)) + 1))) then (laws_heldPieceS.l0 k x0 (wrap64 ((wrap64 ((wrap64 (x1 + 1)) + 1)) + 1)) (wrap64 (x5 + 1))) else (some (-1))) else (some (-1))) else (some (-1))) else (none)) else (none))
end
def laws_heldPieceS.f (k : Nat) (l0 : List (S91)) (a1 : Int) : Option (Int) := laws_heldPieceS.l0 k l0 a1 0
theorem laws_heldPieceS.mono_l : ∀ k, (∀ y0 y1 y2, LeO (laws_heldPieceS.l0 k y0 y1 y2) (laws_heldPieceS.l0 (k + 1) y0 y1 y2)) ∧ (∀ y0 y1 y2 y3, LeO (laws_heldPieceS.l1 k y0 y1 y2 y3) (laws_heldPieceS.l1 (k + 1) y0 y1 y2 y3))
  | 0 => ⟨fun _ _ _ r h => by simp [laws_heldPieceS.l0] at h, fun _ _ _ _ r h => by simp [laws_heldPieceS.l1] at h⟩
  | k + 1 => by
    obtain ⟨ih0, ih1⟩ := laws_heldPieceS.mono_l k
    refine ⟨?_, ?_⟩
    · intro y0 y1 y2
      unfold laws_heldPieceS.l0
      repeat' first | (with_reducible first | apply ih0 | apply ih1 | exact LeO.refl _ | exact LeO.none _ | refine LeO.ite ?_ ?_ | refine LeO.bind ?_ (fun _ => ?_)) | apply ih0 | apply ih1 | exact LeO.none _ | refine LeO.ite ?_ ?_ | refine LeO.bind ?_ (fun _ => ?_)
    · intro y0 y1 y2 y3
      unfold laws_heldPieceS.l1
      repeat' first | (with_reducible first | apply ih0 | apply ih1 | exact LeO.refl _ | exact LeO.none _ | refine LeO.ite ?_ ?_ | refine LeO.bind ?_ (fun _ => ?_)) | apply ih0 | apply ih1 | exact LeO.none _ | refine LeO.ite ?_ ?_ | refine LeO.bind ?_ (fun _ => ?_)
theorem laws_heldPieceS.mono : ∀ a0 a1 k, LeO (laws_heldPieceS.f k a0 a1) (laws_heldPieceS.f (k + 1) a0 a1) := by
 intro a0 a1 k
 obtain ⟨ih0, ih1⟩ := laws_heldPieceS.mono_l k
 unfold laws_heldPieceS.f
 repeat' first | (with_reducible first | apply ih0 | apply ih1 | exact LeO.refl _ | exact LeO.none _ | refine LeO.ite ?_ ?_ | refine LeO.bind ?_ (fun _ => ?_)) | apply ih0 | apply ih1 | exact LeO.none _ | refine LeO.ite ?_ ?_ | refine LeO.bind ?_ (fun _ => ?_)
theorem laws_heldPieceS.calls (k : Nat) (A0 : Option Addr) (c0 : Nat) (l0 : List (S91)) (a1 : Int) (r : Int) (w : World) (hr0 : Kd.C k91 w A0 l0.length l0) (hc0 : l0.length ≤ c0) (h : laws_heldPieceS.f k l0 a1 = some r) :
    Calls Try.prog 118 #[.slice A0 l0.length c0, .int .i64 a1] w fun e w' => e = .returned (.int .i64 r) ∧ Drawn0 w w' := by
 have HR0 := Aside0.mk hr0
 have HC0 := Aside0.mk hc0
 clear hr0 hc0
 have H : (laws_heldPieceS.l0 k l0 a1 0) = some r := h
 clear h
 have H' := Aside0.mk H
 clear H
 go_enter Try.func118, Try.ntmps118
 go_wp2
 go_loopg [1, 5] k (fun kq v1 v5 w' => ∃ (x1_1 : Int) (x5_1 : Int), v1 = .int .i64 x1_1 ∧ v5 = .int .i64 x5_1 ∧ Aside0 (laws_heldPieceS.l0 kq l0 x1_1 x5_1 = some r) ∧ Aside0 (kq ≤ k) ∧ Drawn0 w w')
 case atStart => exact ⟨(a1), (0), zi, zi, H', ⟨Nat.le_refl _⟩, zdr⟩
 clear H'
 try clear c1
 try clear p2
 obtain ⟨x1_1, x5_1, rfl, rfl, HA, HK1, ⟨m1, rfl⟩⟩ := hrel
 cases gk with
 | zero => exact absurd HA.out (by simp [laws_heldPieceS.l0])
 | succ k1 => ?_
 have H := HA.out
 clear HA
 simp only [laws_heldPieceS.l0] at H
 by_cases c3 : x5_1 < (l0.length : Int)
 rotate_left
 ·rw [if_neg c3] at H
  have c3b0 : decide (x5_1 < (l0.length : Int)) = false := decide_eq_false c3
  clear c3
  obtain rfl := Option.some.inj H
  go_wp2
  go_ret
  exact ⟨zi, zdr⟩
 rw [if_pos c3] at H
 have c3b0 : decide (x5_1 < (l0.length : Int)) = true := decide_eq_true c3
 clear c3
 have H' := Aside0.mk H
 clear H
 go_wp2
 go_loopg [1, 6] k1 (fun kq v1 v6 w' => ∃ (x1_2 : Int) (x6_2 : Int), v1 = .int .i64 x1_2 ∧ v6 = .int .i64 x6_2 ∧ Aside0 (laws_heldPieceS.l1 kq l0 x1_2 x5_1 x6_2 = some r) ∧ Aside0 (kq ≤ k1) ∧ Drawn0 w w')
 case atStart => exact ⟨(x1_1), (0), zi, zi, H', ⟨Nat.le_refl _⟩, zdr⟩
 clear H'
 try clear c1
 try clear p2
 try clear c3
 try clear c3b0
 try clear p2
 obtain ⟨x1_2, x6_2, rfl, rfl, HA, HK2, ⟨m2, rfl⟩⟩ := hrel
 cases gk with
 | zero => exact absurd HA.out (by simp [laws_heldPieceS.l1])
 | succ k2 => ?_
 have H := HA.out
 clear HA
 simp only [laws_heldPieceS.l1] at H
 by_cases c4 : x6_2 < 2
 ·rw [if_pos c4] at H
  have c4b0 : decide (x6_2 < 2) = true := decide_eq_true c4
  clear c4
  by_cases c5 : 0 ≤ x5_1
  rotate_left
  ·rw [if_neg c5] at H
   exact absurd H (by simp)
  rw [if_pos c5] at H
  have c5b0 : decide (0 ≤ x5_1) = true := decide_eq_true c5
  clear c5
  by_cases c6 : x5_1 < (l0.length : Int)
  rotate_left
  ·rw [if_neg c6] at H
   exact absurd H (by simp)
  rw [if_pos c6] at H
  have c6b0 : decide (x5_1 < (l0.length : Int)) = true := decide_eq_true c6
  clear c6
  by_cases c7 : x6_2 = 0
  ·rw [if_pos c7] at H
   have Ac7 : Aside0 (x6_2 = 0) := ⟨c7⟩
   clear c7
   have ar8e : x6_2 = 0 := by first | exact (show Aside0 (x6_2 = 0) by assumption).out | exact beq_iff_eq.mp (by assumption) | omega
   have ar8n : (x6_2).toNat = 0 := by rw [ar8e]; rfl
   have ar8l : decide (0 ≤ x6_2) = true := decide_eq_true (by omega)
   have ar8L := eq_true (of_decide_eq_true ar8l)
   have ar8h : decide (x6_2 < 2) = true := decide_eq_true (by omega)
   have ar8H := eq_true (of_decide_eq_true ar8h)
   clear ar8e
   by_cases c9 : ((rd_T91 l0 x5_1).f0.f0) = (IntKind.i8.wrap (x1_2))
   rotate_left
   ·rw [if_neg c9] at H
    have c9b0 : (((rd_T91 l0 x5_1).f0.f0) == (IntKind.i8.wrap (x1_2))) = false := beq_eq_false_iff_ne.mpr c9
    have c9b1 : (((rd_T91 l0 x5_1).f0.f0) != (IntKind.i8.wrap (x1_2))) = true := bne_iff_ne.mpr c9
    obtain rfl := Option.some.inj H
    have p146 : 0 ≤ (x5_1 : Int) := of_decide_eq_true zA
    have q146 : x5_1 < (l0.length : Int) := of_decide_eq_true zA
    obtain ⟨ad146, e146, hx146_0, hx146_1, hx146_2, hx146_3, hx146_4⟩ := at_T91 HR0.out x5_1 p146 q146
    cases e146
    replace p146 := eq_true p146
    replace q146 := eq_true q146
    go_wp2
    go_ret
    exact ⟨zi, zdr⟩
   rw [if_pos c9] at H
   have c9b0 : (((rd_T91 l0 x5_1).f0.f0) == (IntKind.i8.wrap (x1_2))) = true := beq_iff_eq.mpr c9
   have c9b1 : (((rd_T91 l0 x5_1).f0.f0) != (IntKind.i8.wrap (x1_2))) = false := bne_eq_false_iff_eq.mpr c9
   clear c9
   have H' := Aside0.mk H
   clear H
   have p146 : 0 ≤ (x5_1 : Int) := of_decide_eq_true zA
   have q146 : x5_1 < (l0.length : Int) := of_decide_eq_true zA
   obtain ⟨ad146, e146, hx146_0, hx146_1, hx146_2, hx146_3, hx146_4⟩ := at_T91 HR0.out x5_1 p146 q146
   cases e146
   replace p146 := eq_true p146
   replace q146 := eq_true q146
   go_wp2
   go_roundg k2
   case measure => have := HK1.out; have := HK2.out; omega
   case rel => exact ⟨(wrap64 (x1_2 + 1)), (wrap64 (x6_2 + 1)), zi, zi, H', ⟨by have := HK1.out; have := HK2.out; omega⟩, zdr⟩
  rw [if_neg c7] at H
  clear c7
  by_cases c10 : x6_2 = 1
  rotate_left
  ·rw [if_neg c10] at H
   exact absurd H (by simp)
  rw [if_pos c10] at H
  have Ac10 : Aside0 (x6_2 = 1) := ⟨c10⟩
  clear c10
  have ar11e : x6_2 = 1 := by first | exact (show Aside0 (x6_2 = 1) by assumption).out | exact beq_iff_eq.mp (by assumption) | omega
  have ar11n : (x6_2).toNat = 1 := by rw [ar11e]; rfl
  have ar11l : decide (0 ≤ x6_2) = true := decide_eq_true (by omega)
  have ar11L := eq_true (of_decide_eq_true ar11l)
  have ar11h : decide (x6_2 < 2) = true := decide_eq_true (by omega)
  have ar11H := eq_true (of_decide_eq_true ar11h)
  clear ar11e
  by_cases c12 : ((rd_T91 l0 x5_1).f0.f1) = (IntKind.i8.wrap (x1_2))
  rotate_left
  ·rw [if_neg c12] at H
   have c12b0 : (((rd_T91 l0 x5_1).f0.f1) == (IntKind.i8.wrap (x1_2))) = false := beq_eq_false_iff_ne.mpr c12
   have c12b1 : (((rd_T91 l0 x5_1).f0.f1) != (IntKind.i8.wrap (x1_2))) = true := bne_iff_ne.mpr c12
   obtain rfl := Option.some.inj H
   have p146 : 0 ≤ (x5_1 : Int) := of_decide_eq_true zA
   have q146 : x5_1 < (l0.length : Int) := of_decide_eq_true zA
   obtain ⟨ad146, e146, hx146_0, hx146_1, hx146_2, hx146_3, hx146_4⟩ := at_T91 HR0.out x5_1 p146 q146
   cases e146
   replace p146 := eq_true p146
   replace q146 := eq_true q146
   go_wp2
   go_ret
   exact ⟨zi, zdr⟩
  rw [if_pos c12] at H
  have c12b0 : (((rd_T91 l0 x5_1).f0.f1) == (IntKind.i8.wrap (x1_2))) = true := beq_iff_eq.mpr c12
  have c12b1 : (((rd_T91 l0 x5_1).f0.f1) != (IntKind.i8.wrap (x1_2))) = false := bne_eq_false_iff_eq.mpr c12
  clear c12
  have H' := Aside0.mk H
  clear H
  have p146 : 0 ≤ (x5_1 : Int) := of_decide_eq_true zA
  have q146 : x5_1 < (l0.length : Int) := of_decide_eq_true zA
  obtain ⟨ad146, e146, hx146_0, hx146_1, hx146_2, hx146_3, hx146_4⟩ := at_T91 HR0.out x5_1 p146 q146
  cases e146
  replace p146 := eq_true p146
  replace q146 := eq_true q146
  go_wp2
  go_roundg k2
  case measure => have := HK1.out; have := HK2.out; omega
  case rel => exact ⟨(wrap64 (x1_2 + 1)), (wrap64 (x6_2 + 1)), zi, zi, H', ⟨by have := HK1.out; have := HK2.out; omega⟩, zdr⟩
 rw [if_neg c4] at H
 have c4b0 : decide (x6_2 < 2) = false := decide_eq_false c4
 clear c4
 by_cases c13 : 0 ≤ x5_1
 rotate_left
 ·rw [if_neg c13] at H
  exact absurd H (by simp)
 rw [if_pos c13] at H
 have c13b0 : decide (0 ≤ x5_1) = true := decide_eq_true c13
 clear c13
 by_cases c14 : x5_1 < (l0.length : Int)
 rotate_left
 ·rw [if_neg c14] at H
  exact absurd H (by simp)
 rw [if_pos c14] at H
 have c14b0 : decide (x5_1 < (l0.length : Int)) = true := decide_eq_true c14
 clear c14
 by_cases c15 : ((rd_T91 l0 x5_1).f1) = (IntKind.i8.wrap (x1_2))
 rotate_left
 ·rw [if_neg c15] at H
  have c15b0 : (((rd_T91 l0 x5_1).f1) == (IntKind.i8.wrap (x1_2))) = false := beq_eq_false_iff_ne.mpr c15
  have c15b1 : (((rd_T91 l0 x5_1).f1) != (IntKind.i8.wrap (x1_2))) = true := bne_iff_ne.mpr c15
  obtain rfl := Option.some.inj H
  have p147 : 0 ≤ (x5_1 : Int) := of_decide_eq_true zA
  have q147 : x5_1 < (l0.length : Int) := of_decide_eq_true zA
  obtain ⟨ad147, e147, hx147_0, hx147_1, hx147_2, hx147_3, hx147_4⟩ := at_T91 HR0.out x5_1 p147 q147
  cases e147
  replace p147 := eq_true p147
  replace q147 := eq_true q147
  go_wp2
  go_ret
  exact ⟨zi, zdr⟩
 rw [if_pos c15] at H
 have c15b0 : (((rd_T91 l0 x5_1).f1) == (IntKind.i8.wrap (x1_2))) = true := beq_iff_eq.mpr c15
 have c15b1 : (((rd_T91 l0 x5_1).f1) != (IntKind.i8.wrap (x1_2))) = false := bne_eq_false_iff_eq.mpr c15
 clear c15
 by_cases c16 : ((rd_T91 l0 x5_1).f2) = (IntKind.i8.wrap (wrap64 (x1_2 + 1)))
 rotate_left
 ·rw [if_neg c16] at H
  have c16b0 : (((rd_T91 l0 x5_1).f2) == (IntKind.i8.wrap (wrap64 (x1_2 + 1)))) = false := beq_eq_false_iff_ne.mpr c16
  have c16b1 : (((rd_T91 l0 x5_1).f2) != (IntKind.i8.wrap (wrap64 (x1_2 + 1)))) = true := bne_iff_ne.mpr c16
  obtain rfl := Option.some.inj H
  have p147 : 0 ≤ (x5_1 : Int) := of_decide_eq_true zA
  have q147 : x5_1 < (l0.length : Int) := of_decide_eq_true zA
  obtain ⟨ad147, e147, hx147_0, hx147_1, hx147_2, hx147_3, hx147_4⟩ := at_T91 HR0.out x5_1 p147 q147
  cases e147
  replace p147 := eq_true p147
  replace q147 := eq_true q147
  have p148 : 0 ≤ (x5_1 : Int) := of_decide_eq_true zA
  have q148 : x5_1 < (l0.length : Int) := of_decide_eq_true zA
  obtain ⟨ad148, e148, hx148_0, hx148_1, hx148_2, hx148_3, hx148_4⟩ := at_T91 HR0.out x5_1 p148 q148
  obtain rfl : ad147 = ad148 := (by injection e148)
  replace p148 := eq_true p148
  replace q148 := eq_true q148
  go_wp2
  go_ret
  exact ⟨zi, zdr⟩
 rw [if_pos c16] at H
 have c16b0 : (((rd_T91 l0 x5_1).f2) == (IntKind.i8.wrap (wrap64 (x1_2 + 1)))) = true := beq_iff_eq.mpr c16
 have c16b1 : (((rd_T91 l0 x5_1).f2) != (IntKind.i8.wrap (wrap64 (x1_2 + 1)))) = false := bne_eq_false_iff_eq.mpr c16
 clear c16
 by_cases c17 : ((rd_T91 l0 x5_1).f3) = (IntKind.i8.wrap (wrap64 ((wrap64 (x1_2 + 1)) + 1)))
 rotate_left
 ·rw [if_neg c17] at H
  have c17b0 : (((rd_T91 l0 x5_1).f3) == (IntKind.i8.wrap (wrap64 ((wrap64 (x1_2 + 1)) + 1)))) = false := beq_eq_false_iff_ne.mpr c17
  have c17b1 : (((rd_T91 l0 x5_1).f3) != (IntKind.i8.wrap (wrap64 ((wrap64 (x1_2 + 1)) + 1)))) = true := bne_iff_ne.mpr c17
  obtain rfl := Option.some.inj H
  have p147 : 0 ≤ (x5_1 : Int) := of_decide_eq_true zA
  have q147 : x5_1 < (l0.length : Int) := of_decide_eq_true zA
  obtain ⟨ad147, e147, hx147_0, hx147_1, hx147_2, hx147_3, hx147_4⟩ := at_T91 HR0.out x5_1 p147 q147
  cases e147
  replace p147 := eq_true p147
  replace q147 := eq_true q147
  have p148 : 0 ≤ (x5_1 : Int) := of_decide_eq_true zA
  have q148 : x5_1 < (l0.length : Int) := of_decide_eq_true zA
  obtain ⟨ad148, e148, hx148_0, hx148_1, hx148_2, hx148_3, hx148_4⟩ := at_T91 HR0.out x5_1 p148 q148
  obtain rfl : ad147 = ad148 := (by injection e148)
  replace p148 := eq_true p148
  replace q148 := eq_true q148
  have p149 : 0 ≤ (x5_1 : Int) := of_decide_eq_true zA
  have q149 : x5_1 < (l0.length : Int) := of_decide_eq_true zA
  obtain ⟨ad149, e149, hx149_0, hx149_1, hx149_2, hx149_3, hx149_4⟩ := at_T91 HR0.out x5_1 p149 q149
  obtain rfl : ad147 = ad149 := (by injection e149)
  replace p149 := eq_true p149
  replace q149 := eq_true q149
  go_wp2
  go_ret
  exact ⟨zi, zdr⟩
 rw [if_pos c17] at H
 have c17b0 : (((rd_T91 l0 x5_1).f3) == (IntKind.i8.wrap (wrap64 ((wrap64 (x1_2 + 1)) + 1)))) = true := beq_iff_eq.mpr c17
 have c17b1 : (((rd_T91 l0 x5_1).f3) != (IntKind.i8.wrap (wrap64 ((wrap64 (x1_2 + 1)) + 1)))) = false := bne_eq_false_iff_eq.mpr c17
 clear c17
 have H' := Aside0.mk H
 clear H
 have p147 : 0 ≤ (x5_1 : Int) := of_decide_eq_true zA
 have q147 : x5_1 < (l0.length : Int) := of_decide_eq_true zA
 obtain ⟨ad147, e147, hx147_0, hx147_1, hx147_2, hx147_3, hx147_4⟩ := at_T91 HR0.out x5_1 p147 q147
 cases e147
 replace p147 := eq_true p147
 replace q147 := eq_true q147
 have p148 : 0 ≤ (x5_1 : Int) := of_decide_eq_true zA
 have q148 : x5_1 < (l0.length : Int) := of_decide_eq_true zA
 obtain ⟨ad148, e148, hx148_0, hx148_1, hx148_2, hx148_3, hx148_4⟩ := at_T91 HR0.out x5_1 p148 q148
 obtain rfl : ad147 = ad148 := (by injection e148)
 replace p148 := eq_true p148
 replace q148 := eq_true q148
 have p149 : 0 ≤ (x5_1 : Int) := of_decide_eq_true zA
 have q149 : x5_1 < (l0.length : Int) := of_decide_eq_true zA
 obtain ⟨ad149, e149, hx149_0, hx149_1, hx149_2, hx149_3, hx149_4⟩ := at_T91 HR0.out x5_1 p149 q149
 obtain rfl : ad147 = ad149 := (by injection e149)
 replace p149 := eq_true p149
 replace q149 := eq_true q149
 go_wp2
 go_roundg k2
 case measure => have := HK1.out; have := HK2.out; omega
 case rel => exact ⟨(wrap64 ((wrap64 ((wrap64 (x1_2 + 1)) + 1)) + 1)), (wrap64 (x5_1 + 1)), zi, zi, H', ⟨by have := HK1.out; have := HK2.out; omega⟩, zdr⟩
def laws_heldBoard.f (k : Nat) (a0_0 : Int) (a0_1 : Int) (l0_2 : List (S91)) (a1 : Int) : Option (Int) := (laws_heldPieceS.f k l0_2 a1).bind fun t151 => (if t151 < 0 then (some (-1)) else (some t151))
theorem laws_heldBoard.mono : ∀ a0 a1 a2 a3 k, LeO (laws_heldBoard.f k a0 a1 a2 a3) (laws_heldBoard.f (k + 1) a0 a1 a2 a3) := by
 intro a0 a1 a2 a3 k
 unfold laws_heldBoard.f
 repeat' first | (with_reducible first | apply laws_heldPieceS.mono | exact LeO.refl _ | exact LeO.none _ | refine LeO.ite ?_ ?_ | refine LeO.bind ?_ (fun _ => ?_)) | apply laws_heldPieceS.mono | exact LeO.none _ | refine LeO.ite ?_ ?_ | refine LeO.bind ?_ (fun _ => ?_)
theorem laws_heldBoard.calls (k : Nat) (a0_0 : Int) (a0_1 : Int) (A0_2 : Option Addr) (c0_2 : Nat) (l0_2 : List (S91)) (a1 : Int) (r : Int) (w : World) (hr0_2 : Kd.C k91 w A0_2 l0_2.length l0_2) (hc0_2 : l0_2.length ≤ c0_2) (h : laws_heldBoard.f k a0_0 a0_1 l0_2 a1 = some r) :
    Calls Try.prog 51 #[.agg #[.int .i8 a0_0, .int .i8 a0_1, .slice A0_2 l0_2.length c0_2], .int .i64 a1] w fun e w' => e = .returned (.int .i64 r) ∧ Below w.heap.size w w' := by
 have hu37 := Try.underlying37
 have HR0_2 := Aside0.mk hr0_2
 have HC0_2 := Aside0.mk hc0_2
 clear hr0_2 hc0_2
 have HB := Aside0.mk (Below.refl w.heap.size w)
 have H : ((laws_heldPieceS.f k l0_2 a1).bind fun t151 => (if t151 < 0 then (some (-1)) else (some t151))) = some r := h
 clear h
 replace H := zob H
 obtain ⟨t151, A30, H⟩ := H
 replace H : (if t151 < 0 then (some (-1)) else (some t151)) = some r := H
 have A3 := Aside0.mk A30
 clear A30
 by_cases c4 : t151 < 0
 ·rw [if_pos c4] at H
  have c4b0 : decide (t151 < 0) = true := decide_eq_true c4
  clear c4
  obtain rfl := Option.some.inj H
  go_enter Try.func51, Try.ntmps51
  go_wp2_with (first | ((with_reducible refine gate_dst (N := 2) rfl ?_); refine zbx 2 #[.int .i8 a0_0, .int .i8 a0_1, .slice A0_2 l0_2.length c0_2] 37 ?_; intro gb150 hg w5 hbox hb; have n_ : _ ∧ _ ∧ _ ∧ _ := ⟨zb HB hb, Aside0.mk (hbox), zg HB hg, zg HB hg⟩; clear HB; obtain ⟨HB, BK150, GW150, GE150⟩ := n_; clear hb hbox hg; obtain ⟨z6_0, z6_1, z6_2, y6_0, y6_1, y6_2⟩ := zB3 BK150) | ((with_reducible refine gate_callee (f := 118) rfl ?_); refine goesL_ (some 8) rfl rfl Try.func118 (by kernel_rfl) rfl #[.slice A0_2 l0_2.length c0_2, .int .i64 a1] rfl zm ?_; (with_reducible refine (laws_heldPieceS.calls k _ _ l0_2 a1 t151 _ ?side1 ?side2 A3.out).mono ?_); (case side1 => exact zcc HB HR0_2.out); (case side2 => exact HC0_2.out); rintro e w' ⟨rfl, ⟨nd, rfl⟩⟩; refine ⟨_, rfl, ?_⟩))
  go_ret
  exact ⟨zv, zbo⟩
 rw [if_neg c4] at H
 have c4b0 : decide (t151 < 0) = false := decide_eq_false c4
 clear c4
 obtain rfl := Option.some.inj H
 go_enter Try.func51, Try.ntmps51
 go_wp2_with (first | ((with_reducible refine gate_dst (N := 2) rfl ?_); refine zbx 2 #[.int .i8 a0_0, .int .i8 a0_1, .slice A0_2 l0_2.length c0_2] 37 ?_; intro gb150 hg w7 hbox hb; have n_ : _ ∧ _ ∧ _ ∧ _ := ⟨zb HB hb, Aside0.mk (hbox), zg HB hg, zg HB hg⟩; clear HB; obtain ⟨HB, BK150, GW150, GE150⟩ := n_; clear hb hbox hg; obtain ⟨z8_0, z8_1, z8_2, y8_0, y8_1, y8_2⟩ := zB3 BK150) | ((with_reducible refine gate_callee (f := 118) rfl ?_); refine goesL_ (some 8) rfl rfl Try.func118 (by kernel_rfl) rfl #[.slice A0_2 l0_2.length c0_2, .int .i64 a1] rfl zm ?_; (with_reducible refine (laws_heldPieceS.calls k _ _ l0_2 a1 t151 _ ?side1 ?side2 A3.out).mono ?_); (case side1 => exact zcc HB HR0_2.out); (case side2 => exact HC0_2.out); rintro e w' ⟨rfl, ⟨nd, rfl⟩⟩; refine ⟨_, rfl, ?_⟩))
 go_ret
 exact ⟨zv, zbo⟩
def spec_l00In.f (a0 : Int) (a1 : Int) (a2 : Int) : Option (Bool) := if a0 ≥ a1 then (some (decide (a0 ≤ a2))) else (some false)
theorem spec_l00In.calls (a0 : Int) (a1 : Int) (a2 : Int) (r : Bool) (w : World) (h : spec_l00In.f a0 a1 a2 = some r) :
    Calls Try.prog 96 #[.int .i64 a0, .int .i64 a1, .int .i64 a2] w fun e w' => e = .returned (.bool r) ∧ Drawn0 w w' := by
 have H : (if a0 ≥ a1 then (some (decide (a0 ≤ a2))) else (some false)) = some r := h
 clear h
 by_cases c4 : a0 ≥ a1
 ·rw [if_pos c4] at H
  have c4b0 : decide (a1 ≤ a0) = true := decide_eq_true c4
  clear c4
  obtain rfl := Option.some.inj H
  go_enter Try.func96, Try.ntmps96
  go_wp2
  go_ret
  exact ⟨zi, zdr⟩
 rw [if_neg c4] at H
 have c4b0 : decide (a1 ≤ a0) = false := decide_eq_false c4
 clear c4
 obtain rfl := Option.some.inj H
 go_enter Try.func96, Try.ntmps96
 go_wp2
 go_ret
 exact ⟨zi, zdr⟩
def spec_l01Find.l0 : Nat → List (S37) → Int → Int → Int → Option (Int)
  | 0, _, _, _, _ => none
  | k + 1, x0, x5, x153000, x153001 => if 0 < (x0.length : Int) then (if x5 < (((rd_T37 x0 0).f2).length : Int) then (if 0 ≤ x5 then (if (((rd_T91 ((rd_T37 x0 0).f2) x5).f0.f0) == x153000 && (((rd_T91 ((rd_T37 x0 0).f2) x5).f0.f1) == x153001)) = true then (some x5) else (spec_l01Find.l0 k x0 (wrap64 (x5 + 1)) x153000 x153001)) else (none)) else (some (-1))) else (none)
def spec_l01Find.f (k : Nat) (l0 : List (S37)) (a1_0 : Int) (a1_1 : Int) : Option (Int) := spec_l01Find.l0 k l0 0 a1_0 a1_1
theorem spec_l01Find.mono_l : ∀ k, (∀ y0 y1 y2 y3, LeO (spec_l01Find.l0 k y0 y1 y2 y3) (spec_l01Find.l0 (k + 1) y0 y1 y2 y3))
  | 0 => fun _ _ _ _ r h => by simp [spec_l01Find.l0] at h
  | k + 1 => by
    have ih0 := spec_l01Find.mono_l k
    · intro y0 y1 y2 y3
      unfold spec_l01Find.l0
      repeat' first | (with_reducible first | apply ih0 | exact LeO.refl _ | exact LeO.none _ | refine LeO.ite ?_ ?_ | refine LeO.bind ?_ (fun _ => ?_)) | apply ih0 | exact LeO.none _ | refine LeO.ite ?_ ?_ | refine LeO.bind ?_ (fun _ => ?_)
theorem spec_l01Find.mono : ∀ a0 a1 a2 k, LeO (spec_l01Find.f k a0 a1 a2) (spec_l01Find.f (k + 1) a0 a1 a2) := by
 intro a0 a1 a2 k
 have ih0 := spec_l01Find.mono_l k
 unfold spec_l01Find.f
 repeat' first | (with_reducible first | apply ih0 | exact LeO.refl _ | exact LeO.none _ | refine LeO.ite ?_ ?_ | refine LeO.bind ?_ (fun _ => ?_)) | apply ih0 | exact LeO.none _ | refine LeO.ite ?_ ?_ | refine LeO.bind ?_ (fun _ => ?_)
theorem spec_l01Find.calls (k : Nat) (adp0 : Addr) (l0 : List (S37)) (a1_0 : Int) (a1_1 : Int) (r : Int) (w : World) (hr0 : Kd.C k37 w (some adp0) l0.length l0) (h : spec_l01Find.f k l0 a1_0 a1_1 = some r) :
    Calls Try.prog 111 #[.pointer (some adp0), .agg #[.int .i8 a1_0, .int .i8 a1_1]] w fun e w' => e = .returned (.int .i64 r) ∧ Below w.heap.size w w' := by
 have hu74 := Try.underlying74
 have HR0 := Aside0.mk hr0
 clear hr0
 have HB := Aside0.mk (Below.refl w.heap.size w)
 have H : (spec_l01Find.l0 k l0 0 a1_0 a1_1) = some r := h
 clear h
 have H' := Aside0.mk H
 clear H
 go_enter Try.func111, Try.ntmps111
 go_wp2_with (first | ((with_reducible refine gate_dst (N := 3) rfl ?_); refine zbx 3 #[.int .i8 a1_0, .int .i8 a1_1] 74 ?_; intro gb152 hg w3 hbox hb; have n_ : _ ∧ _ ∧ _ ∧ _ := ⟨zb HB hb, Aside0.mk (hbox), zg HB hg, zg HB hg⟩; clear HB; obtain ⟨HB, BK152, GW152, GE152⟩ := n_; clear hb hbox hg) | go_quiet (fail))
 go_loopg [5] k (fun kq v5 w' => ∃ (x5_1 : Int), v5 = .int .i64 x5_1 ∧ Aside0 (spec_l01Find.l0 kq l0 x5_1 a1_0 a1_1 = some r) ∧ Aside0 (kq ≤ k) ∧ Aside0 (w'.heap[gb152]? = some (.cells #[.int .i8 a1_0, .int .i8 a1_1] 74 (0, 0))) ∧ Aside0 (Below w.heap.size w w'))
 case atStart => exact ⟨(0), zi, H', ⟨Nat.le_refl _⟩, zh BK152, zba⟩
 clear H'
 try clear c1
 try clear p2
 obtain ⟨x5_1, rfl, HA, HK1, BK152, HB⟩ := hrel
 cases gk with
 | zero => exact absurd HA.out (by simp [spec_l01Find.l0])
 | succ k1 => ?_
 have H := HA.out
 clear HA
 simp only [spec_l01Find.l0] at H
 by_cases c4 : 0 < (l0.length : Int)
 rotate_left
 ·rw [if_neg c4] at H
  exact absurd H (by simp)
 rw [if_pos c4] at H
 have c4b0 : decide (0 < (l0.length : Int)) = true := decide_eq_true c4
 have c4b1 : decide (0 < l0.length) = true := decide_eq_true (by omega)
 clear c4
 by_cases c5 : x5_1 < (((rd_T37 l0 0).f2).length : Int)
 rotate_left
 ·rw [if_neg c5] at H
  have c5b0 : decide (x5_1 < (((rd_T37 l0 0).f2).length : Int)) = false := decide_eq_false c5
  clear c5
  obtain rfl := Option.some.inj H
  have p153 : 0 ≤ (0 : Int) := (by omega)
  have q153 : 0 < (l0.length : Int) := of_decide_eq_true zA
  obtain ⟨ad153, A153_2, c153_2, e153, hx153_0, hx153_1, hx153_2, hl153_2, hi153_2⟩ := at_T37 HR0.out 0 p153 q153
  obtain rfl : adp0 = ad153 := (by injection e153)
  have qi153 : (0 < l0.length) = True := eq_true (by omega)
  try simp only [z00, Nat.zero_mul, Addr.add_zero'] at hx153_0 hx153_1 hx153_2
  replace hx153_0 := zc HB hx153_0
  replace hx153_1 := zc HB hx153_1
  replace hx153_2 := zc HB hx153_2
  have HR153_2 := Aside0.mk hi153_2
  have HC153_2 := Aside0.mk hl153_2
  clear hi153_2 hl153_2
  replace p153 := eq_true p153
  replace q153 := eq_true q153
  go_wp2
  repeat (go_quiet (fail); try go_wp2)
  go_ret
  exact ⟨zv, zbo⟩
 rw [if_pos c5] at H
 have c5b0 : decide (x5_1 < (((rd_T37 l0 0).f2).length : Int)) = true := decide_eq_true c5
 clear c5
 by_cases c6 : 0 ≤ x5_1
 rotate_left
 ·rw [if_neg c6] at H
  exact absurd H (by simp)
 rw [if_pos c6] at H
 have c6b0 : decide (0 ≤ x5_1) = true := decide_eq_true c6
 clear c6
 by_cases c7 : (((rd_T91 ((rd_T37 l0 0).f2) x5_1).f0.f0) == a1_0 && (((rd_T91 ((rd_T37 l0 0).f2) x5_1).f0.f1) == a1_1)) = true
 ·rw [if_pos c7] at H
  have c7b0 : (((rd_T91 ((rd_T37 l0 0).f2) x5_1).f0.f0) == a1_0 && (((rd_T91 ((rd_T37 l0 0).f2) x5_1).f0.f1) == a1_1)) = true := c7
  (try (have c7b1 : decide (((rd_T91 ((rd_T37 l0 0).f2) x5_1).f0.f0) = a1_0 && (((rd_T91 ((rd_T37 l0 0).f2) x5_1).f0.f1) == a1_1)) = true := by first | (simpa using c7) | (have h_ := c7; revert h_; cases ((rd_T91 ((rd_T37 l0 0).f2) x5_1).f0.f0) <;> cases a1_0 && (((rd_T91 ((rd_T37 l0 0).f2) x5_1).f0.f1) == a1_1) <;> decide)))
  (try (have c7b2 : (((rd_T91 ((rd_T37 l0 0).f2) x5_1).f0.f0) == a1_0 && (((rd_T91 ((rd_T37 l0 0).f2) x5_1).f0.f1) == a1_1)) = true := by first | (simpa using c7) | (have h_ := c7; revert h_; cases ((rd_T91 ((rd_T37 l0 0).f2) x5_1).f0.f0) <;> cases a1_0 && (((rd_T91 ((rd_T37 l0 0).f2) x5_1).f0.f1) == a1_1) <;> decide)))
  clear c7
  obtain rfl := Option.some.inj H
  have p153 : 0 ≤ (0 : Int) := (by omega)
  have q153 : 0 < (l0.length : Int) := of_decide_eq_true zA
  obtain ⟨ad153, A153_2, c153_2, e153, hx153_0, hx153_1, hx153_2, hl153_2, hi153_2⟩ := at_T37 HR0.out 0 p153 q153
  obtain rfl : adp0 = ad153 := (by injection e153)
  have qi153 : (0 < l0.length) = True := eq_true (by omega)
  try simp only [z00, Nat.zero_mul, Addr.add_zero'] at hx153_0 hx153_1 hx153_2
  replace hx153_0 := zc HB hx153_0
  replace hx153_1 := zc HB hx153_1
  replace hx153_2 := zc HB hx153_2
  have HR153_2 := Aside0.mk hi153_2
  have HC153_2 := Aside0.mk hl153_2
  clear hi153_2 hl153_2
  replace p153 := eq_true p153
  replace q153 := eq_true q153
  have p154 : 0 ≤ (0 : Int) := (by omega)
  have q154 : 0 < (l0.length : Int) := of_decide_eq_true zA
  obtain ⟨ad154, A154_2, c154_2, e154, hx154_0, hx154_1, hx154_2, hl154_2, hi154_2⟩ := at_T37 HR0.out 0 p154 q154
  obtain rfl : adp0 = ad154 := (by injection e154)
  have qi154 : (0 < l0.length) = True := eq_true (by omega)
  try simp only [z00, Nat.zero_mul, Addr.add_zero'] at hx154_0 hx154_1 hx154_2
  replace hx154_0 := zc HB hx154_0
  replace hx154_1 := zc HB hx154_1
  replace hx154_2 := zc HB hx154_2
  have HR154_2 := Aside0.mk hi154_2
  have HC154_2 := Aside0.mk hl154_2
  clear hi154_2 hl154_2
  replace p154 := eq_true p154
  replace q154 := eq_true q154
  have ea_ := Option.some.inj (hx153_2.symm.trans hx154_2)
  injection ea_ with ea_ en_ ec_
  subst ea_
  subst ec_
  clear en_
  have p155 : 0 ≤ (x5_1 : Int) := of_decide_eq_true zA
  have q155 : x5_1 < (((rd_T37 l0 0).f2).length : Int) := of_decide_eq_true zA
  obtain ⟨ad155, e155, hx155_0, hx155_1, hx155_2, hx155_3, hx155_4⟩ := at_T91 HR154_2.out x5_1 p155 q155
  cases e155
  replace hx155_0 := zc HB hx155_0
  replace hx155_1 := zc HB hx155_1
  replace hx155_2 := zc HB hx155_2
  replace hx155_3 := zc HB hx155_3
  replace hx155_4 := zc HB hx155_4
  replace p155 := eq_true p155
  replace q155 := eq_true q155
  obtain ⟨z8_0, z8_1, y8_0, y8_1⟩ := zB2 BK152
  go_wp2
  repeat (go_quiet (fail); try go_wp2)
  go_ret
  exact ⟨zv, zbo⟩
 rw [if_neg c7] at H
 have c7b0 : (((rd_T91 ((rd_T37 l0 0).f2) x5_1).f0.f0) == a1_0 && (((rd_T91 ((rd_T37 l0 0).f2) x5_1).f0.f1) == a1_1)) = false := by simpa using c7
 (try (have c7b1 : decide (((rd_T91 ((rd_T37 l0 0).f2) x5_1).f0.f0) = a1_0 && (((rd_T91 ((rd_T37 l0 0).f2) x5_1).f0.f1) == a1_1)) = false := by first | (simpa using c7) | (have h_ := c7; revert h_; cases ((rd_T91 ((rd_T37 l0 0).f2) x5_1).f0.f0) <;> cases a1_0 && (((rd_T91 ((rd_T37 l0 0).f2) x5_1).f0.f1) == a1_1) <;> decide)))
 (try (have c7b2 : (((rd_T91 ((rd_T37 l0 0).f2) x5_1).f0.f0) == a1_0 && (((rd_T91 ((rd_T37 l0 0).f2) x5_1).f0.f1) == a1_1)) = false := by first | (simpa using c7) | (have h_ := c7; revert h_; cases ((rd_T91 ((rd_T37 l0 0).f2) x5_1).f0.f0) <;> cases a1_0 && (((rd_T91 ((rd_T37 l0 0).f2) x5_1).f0.f1) == a1_1) <;> decide)))
 (try (have c7b3 : ¬ (((rd_T91 ((rd_T37 l0 0).f2) x5_1).f0.f0) = a1_0 && (((rd_T91 ((rd_T37 l0 0).f2) x5_1).f0.f1) == a1_1)) := by simpa using c7))
 clear c7
 have H' := Aside0.mk H
 clear H
 have p153 : 0 ≤ (0 : Int) := (by omega)
 have q153 : 0 < (l0.length : Int) := of_decide_eq_true zA
 obtain ⟨ad153, A153_2, c153_2, e153, hx153_0, hx153_1, hx153_2, hl153_2, hi153_2⟩ := at_T37 HR0.out 0 p153 q153
 obtain rfl : adp0 = ad153 := (by injection e153)
 have qi153 : (0 < l0.length) = True := eq_true (by omega)
 try simp only [z00, Nat.zero_mul, Addr.add_zero'] at hx153_0 hx153_1 hx153_2
 replace hx153_0 := zc HB hx153_0
 replace hx153_1 := zc HB hx153_1
 replace hx153_2 := zc HB hx153_2
 have HR153_2 := Aside0.mk hi153_2
 have HC153_2 := Aside0.mk hl153_2
 clear hi153_2 hl153_2
 replace p153 := eq_true p153
 replace q153 := eq_true q153
 have p154 : 0 ≤ (0 : Int) := (by omega)
 have q154 : 0 < (l0.length : Int) := of_decide_eq_true zA
 obtain ⟨ad154, A154_2, c154_2, e154, hx154_0, hx154_1, hx154_2, hl154_2, hi154_2⟩ := at_T37 HR0.out 0 p154 q154
 obtain rfl : adp0 = ad154 := (by injection e154)
 have qi154 : (0 < l0.length) = True := eq_true (by omega)
 try simp only [z00, Nat.zero_mul, Addr.add_zero'] at hx154_0 hx154_1 hx154_2
 replace hx154_0 := zc HB hx154_0
 replace hx154_1 := zc HB hx154_1
 replace hx154_2 := zc HB hx154_2
 have HR154_2 := Aside0.mk hi154_2
 have HC154_2 := Aside0.mk hl154_2
 clear hi154_2 hl154_2
 replace p154 := eq_true p154
 replace q154 := eq_true q154
 have ea_ := Option.some.inj (hx153_2.symm.trans hx154_2)
 injection ea_ with ea_ en_ ec_
 subst ea_
 subst ec_
 clear en_
 have p155 : 0 ≤ (x5_1 : Int) := of_decide_eq_true zA
 have q155 : x5_1 < (((rd_T37 l0 0).f2).length : Int) := of_decide_eq_true zA
 obtain ⟨ad155, e155, hx155_0, hx155_1, hx155_2, hx155_3, hx155_4⟩ := at_T91 HR154_2.out x5_1 p155 q155
 cases e155
 replace hx155_0 := zc HB hx155_0
 replace hx155_1 := zc HB hx155_1
 replace hx155_2 := zc HB hx155_2
 replace hx155_3 := zc HB hx155_3
 replace hx155_4 := zc HB hx155_4
 replace p155 := eq_true p155
 replace q155 := eq_true q155
 obtain ⟨z9_0, z9_1, y9_0, y9_1⟩ := zB2 BK152
 go_wp2
 repeat (go_quiet (fail); try go_wp2)
 go_roundg k1
 case measure => have := HK1.out; omega
 case rel => exact ⟨(wrap64 (x5_1 + 1)), zi, H', ⟨by have := HK1.out; omega⟩, zh BK152, zba⟩
def spec_l01In.f (a0_0 : Int) (a0_1 : Int) (a1 : Int) (a2 : Int) : Option (Bool) := (spec_l00In.f (wrap64 (a0_0)) 0 (wrap64 (a1 - 1))).bind fun t157 => (if t157 = true then ((spec_l00In.f (wrap64 (a0_1)) 0 (wrap64 (a2 - 1))).bind fun t158 => (some t158)) else (some false))
theorem spec_l01In.calls (a0_0 : Int) (a0_1 : Int) (a1 : Int) (a2 : Int) (r : Bool) (w : World) (h : spec_l01In.f a0_0 a0_1 a1 a2 = some r) :
    Calls Try.prog 133 #[.agg #[.int .i8 a0_0, .int .i8 a0_1], .int .i64 a1, .int .i64 a2] w fun e w' => e = .returned (.bool r) ∧ Below w.heap.size w w' := by
 have hu74 := Try.underlying74
 have HB := Aside0.mk (Below.refl w.heap.size w)
 have H : ((spec_l00In.f (wrap64 (a0_0)) 0 (wrap64 (a1 - 1))).bind fun t157 => (if t157 = true then ((spec_l00In.f (wrap64 (a0_1)) 0 (wrap64 (a2 - 1))).bind fun t158 => (some t158)) else (some false))) = some r := h
 clear h
 replace H := zob H
 obtain ⟨t157, A40, H⟩ := H
 replace H : (if t157 = true then ((spec_l00In.f (wrap64 (a0_1)) 0 (wrap64 (a2 - 1))).bind fun t158 => (some t158)) else (some false)) = some r := H
 have A4 := Aside0.mk A40
 clear A40
 by_cases c5 : t157 = true
 rotate_left
 ·replace c5 := Bool.eq_false_iff.mpr c5
  subst c5
  have H1 : (some false) = some r := by rw [if_neg (show ¬ (false = true) by decide)] at H; exact H
  clear H
  have H := H1
  clear H1
  obtain rfl := Option.some.inj H
  go_enter Try.func133, Try.ntmps133
  go_wp2_with (first | ((with_reducible refine gate_dst (N := 3) rfl ?_); refine zbx 3 #[.int .i8 a0_0, .int .i8 a0_1] 74 ?_; intro gb156 hg w9 hbox hb; have n_ : _ ∧ _ ∧ _ ∧ _ := ⟨zb HB hb, Aside0.mk (hbox), zg HB hg, zg HB hg⟩; clear HB; obtain ⟨HB, BK156, GW156, GE156⟩ := n_; clear hb hbox hg; obtain ⟨z10_0, z10_1, y10_0, y10_1⟩ := zB2 BK156) | ((with_reducible refine gate_callee (f := 96) rfl ?_); refine goesL_ (some 12) rfl rfl Try.func96 (by kernel_rfl) rfl #[.int .i64 (wrap64 (a0_0)), .int .i64 0, .int .i64 (wrap64 (a1 - 1))] rfl zm ?_; (with_reducible refine (spec_l00In.calls (wrap64 (a0_0)) 0 (wrap64 (a1 - 1)) false _ A4.out).mono ?_); rintro e w' ⟨rfl, ⟨nd, rfl⟩⟩; refine ⟨_, rfl, ?_⟩))
  go_ret
  exact ⟨zv, zbo⟩
 subst c5
 have H1 : ((spec_l00In.f (wrap64 (a0_1)) 0 (wrap64 (a2 - 1))).bind fun t158 => (some t158)) = some r := by rw [if_pos rfl] at H; exact H
 clear H
 have H := H1
 clear H1
 replace H := zob H
 obtain ⟨t158, A60, H⟩ := H
 replace H : (some t158) = some r := H
 have A6 := Aside0.mk A60
 clear A60
 obtain rfl := Option.some.inj H
 go_enter Try.func133, Try.ntmps133
 go_wp2_with (first | ((with_reducible refine gate_dst (N := 3) rfl ?_); refine zbx 3 #[.int .i8 a0_0, .int .i8 a0_1] 74 ?_; intro gb156 hg w7 hbox hb; have n_ : _ ∧ _ ∧ _ ∧ _ := ⟨zb HB hb, Aside0.mk (hbox), zg HB hg, zg HB hg⟩; clear HB; obtain ⟨HB, BK156, GW156, GE156⟩ := n_; clear hb hbox hg; obtain ⟨z8_0, z8_1, y8_0, y8_1⟩ := zB2 BK156) | ((with_reducible refine gate_callee (f := 96) rfl ?_); refine goesL_ (some 12) rfl rfl Try.func96 (by kernel_rfl) rfl #[.int .i64 (wrap64 (a0_0)), .int .i64 0, .int .i64 (wrap64 (a1 - 1))] rfl zm ?_; (with_reducible refine (spec_l00In.calls (wrap64 (a0_0)) 0 (wrap64 (a1 - 1)) true _ A4.out).mono ?_); rintro e w' ⟨rfl, ⟨nd, rfl⟩⟩; refine ⟨_, rfl, ?_⟩) | (go_at_call 96; (with_reducible refine (spec_l00In.calls (wrap64 (a0_1)) 0 (wrap64 (a2 - 1)) t158 _ A6.out).mono ?_); rintro e w' ⟨rfl, ⟨nd, rfl⟩⟩))
 go_ret
 exact ⟨zv, zbo⟩
def spec_l01Piece.f (l0 : List (S91)) : Option (Bool) := if 0 < (l0.length : Int) then ((spec_l00In.f (wrap64 ((rd_T91 l0 0).f1)) 0 5).bind fun t160 => (if t160 = true then ((spec_l00In.f (wrap64 ((rd_T91 l0 0).f2)) 0 3).bind fun t162 => (if t162 = true then ((spec_l00In.f (wrap64 ((rd_T91 l0 0).f3)) 1 9).bind fun t164 => (if t164 = true then ((spec_l01In.f ((rd_T91 l0 0).f0.f0) ((rd_T91 l0 0).f0.f1) 24 24).bind fun t166 => (some t166)) else (some false))) else (some false))) else (some false))) else (none)
theorem spec_l01Piece.calls (adp0 : Addr) (l0 : List (S91)) (r : Bool) (w : World) (hr0 : Kd.C k91 w (some adp0) l0.length l0) (h : spec_l01Piece.f l0 = some r) :
    Calls Try.prog 132 #[.pointer (some adp0)] w fun e w' => e = .returned (.bool r) ∧ Below w.heap.size w w' := by
 have hu74 := Try.underlying74
 have HR0 := Aside0.mk hr0
 clear hr0
 have HB := Aside0.mk (Below.refl w.heap.size w)
 have H : (if 0 < (l0.length : Int) then ((spec_l00In.f (wrap64 ((rd_T91 l0 0).f1)) 0 5).bind fun t160 => (if t160 = true then ((spec_l00In.f (wrap64 ((rd_T91 l0 0).f2)) 0 3).bind fun t162 => (if t162 = true then ((spec_l00In.f (wrap64 ((rd_T91 l0 0).f3)) 1 9).bind fun t164 => (if t164 = true then ((spec_l01In.f ((rd_T91 l0 0).f0.f0) ((rd_T91 l0 0).f0.f1) 24 24).bind fun t166 => (some t166)) else (some false))) else (some false))) else (some false))) else (none)) = some r := h
 clear h
 by_cases c2 : 0 < (l0.length : Int)
 rotate_left
 ·rw [if_neg c2] at H
  exact absurd H (by simp)
 rw [if_pos c2] at H
 have c2b0 : decide (0 < (l0.length : Int)) = true := decide_eq_true c2
 have c2b1 : decide (0 < l0.length) = true := decide_eq_true (by omega)
 clear c2
 replace H := zob H
 obtain ⟨t160, A30, H⟩ := H
 replace H : (if t160 = true then ((spec_l00In.f (wrap64 ((rd_T91 l0 0).f2)) 0 3).bind fun t162 => (if t162 = true then ((spec_l00In.f (wrap64 ((rd_T91 l0 0).f3)) 1 9).bind fun t164 => (if t164 = true then ((spec_l01In.f ((rd_T91 l0 0).f0.f0) ((rd_T91 l0 0).f0.f1) 24 24).bind fun t166 => (some t166)) else (some false))) else (some false))) else (some false)) = some r := H
 have A3 := Aside0.mk A30
 clear A30
 by_cases c4 : t160 = true
 rotate_left
 ·replace c4 := Bool.eq_false_iff.mpr c4
  subst c4
  have H1 : (some false) = some r := by rw [if_neg (show ¬ (false = true) by decide)] at H; exact H
  clear H
  have H := H1
  clear H1
  obtain rfl := Option.some.inj H
  have p159 : 0 ≤ (0 : Int) := (by omega)
  have q159 : 0 < (l0.length : Int) := of_decide_eq_true zA
  obtain ⟨ad159, e159, hx159_0, hx159_1, hx159_2, hx159_3, hx159_4⟩ := at_T91 HR0.out 0 p159 q159
  obtain rfl : adp0 = ad159 := (by injection e159)
  have qi159 : (0 < l0.length) = True := eq_true (by omega)
  try simp only [z00, Nat.zero_mul, Addr.add_zero'] at hx159_0 hx159_1 hx159_2 hx159_3 hx159_4
  replace p159 := eq_true p159
  replace q159 := eq_true q159
  go_enter Try.func132, Try.ntmps132
  go_wp2_with (first | ((with_reducible refine gate_callee (f := 96) rfl ?_); refine goesL_ (some 8) rfl rfl Try.func96 (by kernel_rfl) rfl #[.int .i64 (wrap64 ((rd_T91 l0 0).f1)), .int .i64 0, .int .i64 5] rfl zm ?_; (with_reducible refine (spec_l00In.calls (wrap64 ((rd_T91 l0 0).f1)) 0 5 false _ A3.out).mono ?_); rintro e w' ⟨rfl, ⟨nd, rfl⟩⟩; refine ⟨_, rfl, ?_⟩))
  go_ret
  exact ⟨zv, zbo⟩
 subst c4
 have H1 : ((spec_l00In.f (wrap64 ((rd_T91 l0 0).f2)) 0 3).bind fun t162 => (if t162 = true then ((spec_l00In.f (wrap64 ((rd_T91 l0 0).f3)) 1 9).bind fun t164 => (if t164 = true then ((spec_l01In.f ((rd_T91 l0 0).f0.f0) ((rd_T91 l0 0).f0.f1) 24 24).bind fun t166 => (some t166)) else (some false))) else (some false))) = some r := by rw [if_pos rfl] at H; exact H
 clear H
 have H := H1
 clear H1
 replace H := zob H
 obtain ⟨t162, A50, H⟩ := H
 replace H : (if t162 = true then ((spec_l00In.f (wrap64 ((rd_T91 l0 0).f3)) 1 9).bind fun t164 => (if t164 = true then ((spec_l01In.f ((rd_T91 l0 0).f0.f0) ((rd_T91 l0 0).f0.f1) 24 24).bind fun t166 => (some t166)) else (some false))) else (some false)) = some r := H
 have A5 := Aside0.mk A50
 clear A50
 by_cases c6 : t162 = true
 rotate_left
 ·replace c6 := Bool.eq_false_iff.mpr c6
  subst c6
  have H1 : (some false) = some r := by rw [if_neg (show ¬ (false = true) by decide)] at H; exact H
  clear H
  have H := H1
  clear H1
  obtain rfl := Option.some.inj H
  have p159 : 0 ≤ (0 : Int) := (by omega)
  have q159 : 0 < (l0.length : Int) := of_decide_eq_true zA
  obtain ⟨ad159, e159, hx159_0, hx159_1, hx159_2, hx159_3, hx159_4⟩ := at_T91 HR0.out 0 p159 q159
  obtain rfl : adp0 = ad159 := (by injection e159)
  have qi159 : (0 < l0.length) = True := eq_true (by omega)
  try simp only [z00, Nat.zero_mul, Addr.add_zero'] at hx159_0 hx159_1 hx159_2 hx159_3 hx159_4
  replace p159 := eq_true p159
  replace q159 := eq_true q159
  go_enter Try.func132, Try.ntmps132
  go_wp2_with (first | ((with_reducible refine gate_callee (f := 96) rfl ?_); refine goesL_ (some 8) rfl rfl Try.func96 (by kernel_rfl) rfl #[.int .i64 (wrap64 ((rd_T91 l0 0).f1)), .int .i64 0, .int .i64 5] rfl zm ?_; (with_reducible refine (spec_l00In.calls (wrap64 ((rd_T91 l0 0).f1)) 0 5 true _ A3.out).mono ?_); rintro e w' ⟨rfl, ⟨nd, rfl⟩⟩; refine ⟨_, rfl, ?_⟩; have p161 : 0 ≤ (0 : Int) := (by omega); have q161 : 0 < (l0.length : Int) := of_decide_eq_true zA; obtain ⟨ad161, e161, hx161_0, hx161_1, hx161_2, hx161_3, hx161_4⟩ := at_T91 HR0.out 0 p161 q161; obtain rfl : adp0 = ad161 := (by injection e161); have qi161 : (0 < l0.length) = True := eq_true (by omega); (try simp only [z00, Nat.zero_mul, Addr.add_zero'] at hx161_0 hx161_1 hx161_2 hx161_3 hx161_4); replace p161 := eq_true p161; replace q161 := eq_true q161) | (go_at_call 96; (with_reducible refine (spec_l00In.calls (wrap64 ((rd_T91 l0 0).f2)) 0 3 false _ A5.out).mono ?_); rintro e w' ⟨rfl, ⟨nd, rfl⟩⟩))
  go_ret
  exact ⟨zv, zbo⟩
 subst c6
 have H1 : ((spec_l00In.f (wrap64 ((rd_T91 l0 0).f3)) 1 9).bind fun t164 => (if t164 = true then ((spec_l01In.f ((rd_T91 l0 0).f0.f0) ((rd_T91 l0 0).f0.f1) 24 24).bind fun t166 => (some t166)) else (some false))) = some r := by rw [if_pos rfl] at H; exact H
 clear H
 have H := H1
 clear H1
 replace H := zob H
 obtain ⟨t164, A70, H⟩ := H
 replace H : (if t164 = true then ((spec_l01In.f ((rd_T91 l0 0).f0.f0) ((rd_T91 l0 0).f0.f1) 24 24).bind fun t166 => (some t166)) else (some false)) = some r := H
 have A7 := Aside0.mk A70
 clear A70
 by_cases c8 : t164 = true
 rotate_left
 ·replace c8 := Bool.eq_false_iff.mpr c8
  subst c8
  have H1 : (some false) = some r := by rw [if_neg (show ¬ (false = true) by decide)] at H; exact H
  clear H
  have H := H1
  clear H1
  obtain rfl := Option.some.inj H
  have p159 : 0 ≤ (0 : Int) := (by omega)
  have q159 : 0 < (l0.length : Int) := of_decide_eq_true zA
  obtain ⟨ad159, e159, hx159_0, hx159_1, hx159_2, hx159_3, hx159_4⟩ := at_T91 HR0.out 0 p159 q159
  obtain rfl : adp0 = ad159 := (by injection e159)
  have qi159 : (0 < l0.length) = True := eq_true (by omega)
  try simp only [z00, Nat.zero_mul, Addr.add_zero'] at hx159_0 hx159_1 hx159_2 hx159_3 hx159_4
  replace p159 := eq_true p159
  replace q159 := eq_true q159
  go_enter Try.func132, Try.ntmps132
  go_wp2_with (first | ((with_reducible refine gate_callee (f := 96) rfl ?_); refine goesL_ (some 8) rfl rfl Try.func96 (by kernel_rfl) rfl #[.int .i64 (wrap64 ((rd_T91 l0 0).f1)), .int .i64 0, .int .i64 5] rfl zm ?_; (with_reducible refine (spec_l00In.calls (wrap64 ((rd_T91 l0 0).f1)) 0 5 true _ A3.out).mono ?_); rintro e w' ⟨rfl, ⟨nd, rfl⟩⟩; refine ⟨_, rfl, ?_⟩; have p161 : 0 ≤ (0 : Int) := (by omega); have q161 : 0 < (l0.length : Int) := of_decide_eq_true zA; obtain ⟨ad161, e161, hx161_0, hx161_1, hx161_2, hx161_3, hx161_4⟩ := at_T91 HR0.out 0 p161 q161; obtain rfl : adp0 = ad161 := (by injection e161); have qi161 : (0 < l0.length) = True := eq_true (by omega); (try simp only [z00, Nat.zero_mul, Addr.add_zero'] at hx161_0 hx161_1 hx161_2 hx161_3 hx161_4); replace p161 := eq_true p161; replace q161 := eq_true q161) | (go_at_call 96; (with_reducible refine (spec_l00In.calls (wrap64 ((rd_T91 l0 0).f2)) 0 3 true _ A5.out).mono ?_); rintro e w' ⟨rfl, ⟨nd, rfl⟩⟩; have p163 : 0 ≤ (0 : Int) := (by omega); have q163 : 0 < (l0.length : Int) := of_decide_eq_true zA; obtain ⟨ad163, e163, hx163_0, hx163_1, hx163_2, hx163_3, hx163_4⟩ := at_T91 HR0.out 0 p163 q163; obtain rfl : adp0 = ad163 := (by injection e163); have qi163 : (0 < l0.length) = True := eq_true (by omega); (try simp only [z00, Nat.zero_mul, Addr.add_zero'] at hx163_0 hx163_1 hx163_2 hx163_3 hx163_4); replace p163 := eq_true p163; replace q163 := eq_true q163) | (go_at_call 96; (with_reducible refine (spec_l00In.calls (wrap64 ((rd_T91 l0 0).f3)) 1 9 false _ A7.out).mono ?_); rintro e w' ⟨rfl, ⟨nd, rfl⟩⟩))
  go_ret
  exact ⟨zv, zbo⟩
 subst c8
 have H1 : ((spec_l01In.f ((rd_T91 l0 0).f0.f0) ((rd_T91 l0 0).f0.f1) 24 24).bind fun t166 => (some t166)) = some r := by rw [if_pos rfl] at H; exact H
 clear H
 have H := H1
 clear H1
 replace H := zob H
 obtain ⟨t166, A90, H⟩ := H
 replace H : (some t166) = some r := H
 have A9 := Aside0.mk A90
 clear A90
 obtain rfl := Option.some.inj H
 have p159 : 0 ≤ (0 : Int) := (by omega)
 have q159 : 0 < (l0.length : Int) := of_decide_eq_true zA
 obtain ⟨ad159, e159, hx159_0, hx159_1, hx159_2, hx159_3, hx159_4⟩ := at_T91 HR0.out 0 p159 q159
 obtain rfl : adp0 = ad159 := (by injection e159)
 have qi159 : (0 < l0.length) = True := eq_true (by omega)
 try simp only [z00, Nat.zero_mul, Addr.add_zero'] at hx159_0 hx159_1 hx159_2 hx159_3 hx159_4
 replace p159 := eq_true p159
 replace q159 := eq_true q159
 go_enter Try.func132, Try.ntmps132
 go_wp2_with (first | ((with_reducible refine gate_callee (f := 96) rfl ?_); refine goesL_ (some 8) rfl rfl Try.func96 (by kernel_rfl) rfl #[.int .i64 (wrap64 ((rd_T91 l0 0).f1)), .int .i64 0, .int .i64 5] rfl zm ?_; (with_reducible refine (spec_l00In.calls (wrap64 ((rd_T91 l0 0).f1)) 0 5 true _ A3.out).mono ?_); rintro e w' ⟨rfl, ⟨nd, rfl⟩⟩; refine ⟨_, rfl, ?_⟩; have p161 : 0 ≤ (0 : Int) := (by omega); have q161 : 0 < (l0.length : Int) := of_decide_eq_true zA; obtain ⟨ad161, e161, hx161_0, hx161_1, hx161_2, hx161_3, hx161_4⟩ := at_T91 HR0.out 0 p161 q161; obtain rfl : adp0 = ad161 := (by injection e161); have qi161 : (0 < l0.length) = True := eq_true (by omega); (try simp only [z00, Nat.zero_mul, Addr.add_zero'] at hx161_0 hx161_1 hx161_2 hx161_3 hx161_4); replace p161 := eq_true p161; replace q161 := eq_true q161) | (go_at_call 96; (with_reducible refine (spec_l00In.calls (wrap64 ((rd_T91 l0 0).f2)) 0 3 true _ A5.out).mono ?_); rintro e w' ⟨rfl, ⟨nd, rfl⟩⟩; have p163 : 0 ≤ (0 : Int) := (by omega); have q163 : 0 < (l0.length : Int) := of_decide_eq_true zA; obtain ⟨ad163, e163, hx163_0, hx163_1, hx163_2, hx163_3, hx163_4⟩ := at_T91 HR0.out 0 p163 q163; obtain rfl : adp0 = ad163 := (by injection e163); have qi163 : (0 < l0.length) = True := eq_true (by omega); (try simp only [z00, Nat.zero_mul, Addr.add_zero'] at hx163_0 hx163_1 hx163_2 hx163_3 hx163_4); replace p163 := eq_true p163; replace q163 := eq_true q163) | (go_at_call 96; (with_reducible refine (spec_l00In.calls (wrap64 ((rd_T91 l0 0).f3)) 1 9 true _ A7.out).mono ?_); rintro e w' ⟨rfl, ⟨nd, rfl⟩⟩; have p165 : 0 ≤ (0 : Int) := (by omega); have q165 : 0 < (l0.length : Int) := of_decide_eq_true zA; obtain ⟨ad165, e165, hx165_0, hx165_1, hx165_2, hx165_3, hx165_4⟩ := at_T91 HR0.out 0 p165 q165; obtain rfl : adp0 = ad165 := (by injection e165); have qi165 : (0 < l0.length) = True := eq_true (by omega); (try simp only [z00, Nat.zero_mul, Addr.add_zero'] at hx165_0 hx165_1 hx165_2 hx165_3 hx165_4); replace p165 := eq_true p165; replace q165 := eq_true q165) | (go_at_call 133; (with_reducible refine (spec_l01In.calls ((rd_T91 l0 0).f0.f0) ((rd_T91 l0 0).f0.f1) 24 24 t166 _ A9.out).mono ?_); rintro e w10 ⟨rfl, hb⟩; have n0_ := zb HB hb; clear HB; have HB := n0_; clear n0_; (try clear hb); (try clear hb2); (try clear hk); (try clear hi)))
 go_ret
 exact ⟨zv, zbo⟩
end Go.Proofs.Ytffnfpnajkgnaaa.PFnExactJoinBoards
