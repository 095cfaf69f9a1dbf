-- WRITTEN by xprint.py, a program of this session's. Not trusted: Lean checks it.
-- packed by pack.py
import Derived.Test.YtffnfpnajkgnaaaPFnExactPushesForx0
import Derived.Test.YtffnfpnajkgnaaaPFnExactPushesForx3
import Derived.Test.YtffnfpnajkgnaaaPFnExactPushesForx8
import Derived.Test.YtffnfpnajkgnaaaPFnExactPushesForx9
import Derived.Test.YtffnfpnajkgnaaaPFnExactPushesForx13
import Derived.Test.YtffnfpnajkgnaaaPFnExactPushesForx14
import Derived.Test.YtffnfpnajkgnaaaPFnExactPushesForx16
import Derived.Test.YtffnfpnajkgnaaaPFnExactPushesForx17
import Derived.Test.YtffnfpnajkgnaaaPFnExactPushesForx18
import Derived.Test.YtffnfpnajkgnaaaTFnExactPushesFora
namespace Go.Proofs.Ytffnfpnajkgnaaa.PFnExactPushesFor
open Go.RowKit Go.Proofs.YtffnfpnajkgnaaaW.PrintWords Go.Proofs.YtffnfpnajkgnaaaW.PrintLast Go.Proofs.YtffnfpnajkgnaaaW.PrintMore Go.Proofs.YtffnfpnajkgnaaaX
attribute [local go_sem] max2_int min2_int max_two min_two max_three min_three max_four min_four   -- for this text's walks alone
set_option linter.unusedVariables false
set_option linter.unusedSimpArgs false

/-! ### laws_heldPushS: function 32 -/
mutual
def laws_heldPushS.l0 : Nat → List (S120) → Int → Int → Option (Int)
  | 0, _, _, _ => none
  | k + 1, x0, x1, x5 => if x5 < (x0.length : Int) then (laws_heldPushS.l1 k x0 x1 x5 0) else (some x1)
def laws_heldPushS.l1 : Nat → List (S120) → Int → Int → Int → Option (Int)
  | 0, _, _, _, _ => none
  | k + 1, x0, x1, x5, x6 => if x6 < 2 then (if 0 ≤ x5 then (if x5 < (x0.length : Int) then (if x6 = 0 then (if ((rd_T120 x0 x5).f0.f0) = (IntKind.i8.wrap (x1)) then (laws_heldPushS.l1 k x0 (wrap64 (x1 + 1)) x5 (wrap64 (x6 + 1))) else (some (-1))) else (if x6 = 1 then (if ((rd_T120 x0 x5).f0.f1) = (IntKind.i8.wrap (x1)) then (laws_heldPushS.l1 k x0 (wrap64 (x1 + 1)) x5 (wrap64 (x6 + 1))) else (some (-1))) else (none))) else (none)) else (none)) else (if 0 ≤ x5 then (if x5 < (x0.length : Int) then (if ((rd_T120 x0 x5).f1) = (IntKind.i8.wrap (x1)) then (if ((rd_T120 x0 x5).f2) = (IntKind.i16.wrap (wrap64 (x1 + 1))) then (laws_heldPushS.l0 k x0 (wrap64 ((wrap64 (x1 + 1)) + 1)) (wrap64 (x5 + 1))) else (some (-1))) else (some (-1))) else (none)) else (none))
end
def laws_heldPushS.f (k : Nat) (l0 : List (S120)) (a1 : Int) : Option (Int) := laws_heldPushS.l0 k l0 a1 0
theorem laws_heldPushS.mono_l : ∀ k, (∀ y0 y1 y2, LeO (laws_heldPushS.l0 k y0 y1 y2) (laws_heldPushS.l0 (k + 1) y0 y1 y2)) ∧ (∀ y0 y1 y2 y3, LeO (laws_heldPushS.l1 k y0 y1 y2 y3) (laws_heldPushS.l1 (k + 1) y0 y1 y2 y3))
  | 0 => ⟨fun _ _ _ r h => by simp [laws_heldPushS.l0] at h, fun _ _ _ _ r h => by simp [laws_heldPushS.l1] at h⟩
  | k + 1 => by
    obtain ⟨ih0, ih1⟩ := laws_heldPushS.mono_l k
    refine ⟨?_, ?_⟩
    · intro y0 y1 y2
      unfold laws_heldPushS.l0
      repeat' first | (with_reducible first | apply ih0 | apply ih1 | exact LeO.refl _ | exact LeO.none _ | refine LeO.ite ?_ ?_ | refine LeO.bind ?_ (fun _ => ?_)) | apply ih0 | apply ih1 | exact LeO.none _ | refine LeO.ite ?_ ?_ | refine LeO.bind ?_ (fun _ => ?_)
    · intro y0 y1 y2 y3
      unfold laws_heldPushS.l1
      repeat' first | (with_reducible first | apply ih0 | apply ih1 | exact LeO.refl _ | exact LeO.none _ | refine LeO.ite ?_ ?_ | refine LeO.bind ?_ (fun _ => ?_)) | apply ih0 | apply ih1 | exact LeO.none _ | refine LeO.ite ?_ ?_ | refine LeO.bind ?_ (fun _ => ?_)
theorem laws_heldPushS.mono : ∀ a0 a1 k, LeO (laws_heldPushS.f k a0 a1) (laws_heldPushS.f (k + 1) a0 a1) := by
 intro a0 a1 k
 obtain ⟨ih0, ih1⟩ := laws_heldPushS.mono_l k
 unfold laws_heldPushS.f
 repeat' first | (with_reducible first | apply ih0 | apply ih1 | exact LeO.refl _ | exact LeO.none _ | refine LeO.ite ?_ ?_ | refine LeO.bind ?_ (fun _ => ?_)) | apply ih0 | apply ih1 | exact LeO.none _ | refine LeO.ite ?_ ?_ | refine LeO.bind ?_ (fun _ => ?_)
set_option maxHeartbeats 8000000 in
set_option maxRecDepth 100000 in
theorem laws_heldPushS.calls (k : Nat) (A0 : Option Addr) (c0 : Nat) (l0 : List (S120)) (a1 : Int) (r : Int) (w : World) (hr0 : Kd.C k120 w A0 l0.length l0) (hc0 : l0.length ≤ c0) (h : laws_heldPushS.f k l0 a1 = some r) :
    Calls Try.prog 32 #[.slice A0 l0.length c0, .int .i64 a1] w fun e w' => e = .returned (.int .i64 r) ∧ Drawn0 w w' := by
 have HR0 := Aside0.mk hr0
 have HC0 := Aside0.mk hc0
 clear hr0 hc0
 have H : (laws_heldPushS.l0 k l0 a1 0) = some r := h
 clear h
 have H' := Aside0.mk H
 clear H
 go_enter Try.func32, Try.ntmps32
 go_wp2
 go_loopg [1, 5] k (fun kq v1 v5 w' => ∃ (x1_1 : Int) (x5_1 : Int), v1 = .int .i64 x1_1 ∧ v5 = .int .i64 x5_1 ∧ Aside0 (laws_heldPushS.l0 kq l0 x1_1 x5_1 = some r) ∧ Aside0 (kq ≤ k) ∧ Drawn0 w w')
 case atStart => exact ⟨(a1), (0), (by first | rfl | (simp; done) | (simp [*]; done) | (exact congrArg (Value.int .i64) (wrap_eq (by omega)))), (by first | rfl | (simp; done) | (simp [*]; done) | (exact congrArg (Value.int .i64) (wrap_eq (by omega)))), H', ⟨Nat.le_refl _⟩, by repeat (first | exact Drawn0.refl _ | apply Drawn0.step)⟩
 clear H'
 try clear p2
 obtain ⟨x1_1, x5_1, rfl, rfl, HA, HK1, ⟨m1, rfl⟩⟩ := hrel
 cases gk with
 | zero => exact absurd HA.out (by simp [laws_heldPushS.l0])
 | succ k1 => ?_
 have H := HA.out
 clear HA
 simp only [laws_heldPushS.l0] at H
 by_cases c3 : x5_1 < (l0.length : Int)
 rotate_left
 ·rw [if_neg c3] at H
  have c3b0 : decide (x5_1 < (l0.length : Int)) = false := decide_eq_false c3
  clear c3
  obtain rfl := Option.some.inj H
  go_wp2
  go_ret
  exact ⟨by first | rfl | (simp; done) | (simp [*]; done) | (exact congrArg (Value.int .i64) (wrap_eq (by omega))), by repeat (first | exact Drawn0.refl _ | apply Drawn0.step)⟩
 rw [if_pos c3] at H
 have c3b0 : decide (x5_1 < (l0.length : Int)) = true := decide_eq_true c3
 clear c3
 have H' := Aside0.mk H
 clear H
 go_wp2
 go_loopg [1, 6] k1 (fun kq v1 v6 w' => ∃ (x1_2 : Int) (x6_2 : Int), v1 = .int .i64 x1_2 ∧ v6 = .int .i64 x6_2 ∧ Aside0 (laws_heldPushS.l1 kq l0 x1_2 x5_1 x6_2 = some r) ∧ Aside0 (kq ≤ k1) ∧ Drawn0 w w')
 case atStart => exact ⟨(x1_1), (0), (by first | rfl | (simp; done) | (simp [*]; done) | (exact congrArg (Value.int .i64) (wrap_eq (by omega)))), (by first | rfl | (simp; done) | (simp [*]; done) | (exact congrArg (Value.int .i64) (wrap_eq (by omega)))), H', ⟨Nat.le_refl _⟩, by repeat (first | exact Drawn0.refl _ | apply Drawn0.step)⟩
 clear H'
 try clear p2
 try clear c3
 try clear c3b0
 try clear p2
 obtain ⟨x1_2, x6_2, rfl, rfl, HA, HK2, ⟨m2, rfl⟩⟩ := hrel
 cases gk with
 | zero => exact absurd HA.out (by simp [laws_heldPushS.l1])
 | succ k2 => ?_
 have H := HA.out
 clear HA
 simp only [laws_heldPushS.l1] at H
 by_cases c4 : x6_2 < 2
 rotate_left
 ·rw [if_neg c4] at H
  have c4b0 : decide (x6_2 < 2) = false := decide_eq_false c4
  clear c4
  by_cases c13 : 0 ≤ x5_1
  rotate_left
  ·rw [if_neg c13] at H
   exact absurd H (by simp)
  rw [if_pos c13] at H
  have c13b0 : decide (0 ≤ x5_1) = true := decide_eq_true c13
  clear c13
  by_cases c14 : x5_1 < (l0.length : Int)
  rotate_left
  ·rw [if_neg c14] at H
   exact absurd H (by simp)
  rw [if_pos c14] at H
  have c14b0 : decide (x5_1 < (l0.length : Int)) = true := decide_eq_true c14
  clear c14
  by_cases c15 : ((rd_T120 l0 x5_1).f1) = (IntKind.i8.wrap (x1_2))
  rotate_left
  ·rw [if_neg c15] at H
   have c15b0 : (((rd_T120 l0 x5_1).f1) == (IntKind.i8.wrap (x1_2))) = false := beq_eq_false_iff_ne.mpr c15
   have c15b1 : (((rd_T120 l0 x5_1).f1) != (IntKind.i8.wrap (x1_2))) = true := bne_iff_ne.mpr c15
   obtain rfl := Option.some.inj H
   have p376 : 0 ≤ (x5_1 : Int) := of_decide_eq_true (by first | (with_reducible assumption) | assumption)
   have q376 : x5_1 < (l0.length : Int) := of_decide_eq_true (by first | (with_reducible assumption) | assumption)
   obtain ⟨ad376, e376, hx376_0, hx376_1, hx376_2, hx376_3⟩ := at_T120 HR0.out x5_1 p376 q376
   cases e376
   replace p376 := eq_true p376
   replace q376 := eq_true q376
   go_wp2
   go_ret
   exact ⟨by first | rfl | (simp; done) | (simp [*]; done) | (exact congrArg (Value.int .i64) (wrap_eq (by omega))), by repeat (first | exact Drawn0.refl _ | apply Drawn0.step)⟩
  rw [if_pos c15] at H
  have c15b0 : (((rd_T120 l0 x5_1).f1) == (IntKind.i8.wrap (x1_2))) = true := beq_iff_eq.mpr c15
  have c15b1 : (((rd_T120 l0 x5_1).f1) != (IntKind.i8.wrap (x1_2))) = false := bne_eq_false_iff_eq.mpr c15
  clear c15
  by_cases c16 : ((rd_T120 l0 x5_1).f2) = (IntKind.i16.wrap (wrap64 (x1_2 + 1)))
  rotate_left
  ·rw [if_neg c16] at H
   have c16b0 : (((rd_T120 l0 x5_1).f2) == (IntKind.i16.wrap (wrap64 (x1_2 + 1)))) = false := beq_eq_false_iff_ne.mpr c16
   have c16b1 : (((rd_T120 l0 x5_1).f2) != (IntKind.i16.wrap (wrap64 (x1_2 + 1)))) = true := bne_iff_ne.mpr c16
   obtain rfl := Option.some.inj H
   have p376 : 0 ≤ (x5_1 : Int) := of_decide_eq_true (by first | (with_reducible assumption) | assumption)
   have q376 : x5_1 < (l0.length : Int) := of_decide_eq_true (by first | (with_reducible assumption) | assumption)
   obtain ⟨ad376, e376, hx376_0, hx376_1, hx376_2, hx376_3⟩ := at_T120 HR0.out x5_1 p376 q376
   cases e376
   replace p376 := eq_true p376
   replace q376 := eq_true q376
   have p377 : 0 ≤ (x5_1 : Int) := of_decide_eq_true (by first | (with_reducible assumption) | assumption)
   have q377 : x5_1 < (l0.length : Int) := of_decide_eq_true (by first | (with_reducible assumption) | assumption)
   obtain ⟨ad377, e377, hx377_0, hx377_1, hx377_2, hx377_3⟩ := at_T120 HR0.out x5_1 p377 q377
   obtain rfl : ad376 = ad377 := (by injection e377)
   replace p377 := eq_true p377
   replace q377 := eq_true q377
   go_wp2
   go_ret
   exact ⟨by first | rfl | (simp; done) | (simp [*]; done) | (exact congrArg (Value.int .i64) (wrap_eq (by omega))), by repeat (first | exact Drawn0.refl _ | apply Drawn0.step)⟩
  rw [if_pos c16] at H
  have c16b0 : (((rd_T120 l0 x5_1).f2) == (IntKind.i16.wrap (wrap64 (x1_2 + 1)))) = true := beq_iff_eq.mpr c16
  have c16b1 : (((rd_T120 l0 x5_1).f2) != (IntKind.i16.wrap (wrap64 (x1_2 + 1)))) = false := bne_eq_false_iff_eq.mpr c16
  clear c16
  have H' := Aside0.mk H
  clear H
  have p376 : 0 ≤ (x5_1 : Int) := of_decide_eq_true (by first | (with_reducible assumption) | assumption)
  have q376 : x5_1 < (l0.length : Int) := of_decide_eq_true (by first | (with_reducible assumption) | assumption)
  obtain ⟨ad376, e376, hx376_0, hx376_1, hx376_2, hx376_3⟩ := at_T120 HR0.out x5_1 p376 q376
  cases e376
  replace p376 := eq_true p376
  replace q376 := eq_true q376
  have p377 : 0 ≤ (x5_1 : Int) := of_decide_eq_true (by first | (with_reducible assumption) | assumption)
  have q377 : x5_1 < (l0.length : Int) := of_decide_eq_true (by first | (with_reducible assumption) | assumption)
  obtain ⟨ad377, e377, hx377_0, hx377_1, hx377_2, hx377_3⟩ := at_T120 HR0.out x5_1 p377 q377
  obtain rfl : ad376 = ad377 := (by injection e377)
  replace p377 := eq_true p377
  replace q377 := eq_true q377
  go_wp2
  go_roundg k2
  case measure => have := HK1.out; have := HK2.out; omega
  case rel => exact ⟨(wrap64 ((wrap64 (x1_2 + 1)) + 1)), (wrap64 (x5_1 + 1)), (by first | rfl | (simp; done) | (simp [*]; done) | (exact congrArg (Value.int .i64) (wrap_eq (by omega)))), (by first | rfl | (simp; done) | (simp [*]; done) | (exact congrArg (Value.int .i64) (wrap_eq (by omega)))), H', ⟨by have := HK1.out; have := HK2.out; omega⟩, by repeat (first | exact Drawn0.refl _ | apply Drawn0.step)⟩
 rw [if_pos c4] at H
 have c4b0 : decide (x6_2 < 2) = true := decide_eq_true c4
 clear c4
 by_cases c5 : 0 ≤ x5_1
 rotate_left
 ·rw [if_neg c5] at H
  exact absurd H (by simp)
 rw [if_pos c5] at H
 have c5b0 : decide (0 ≤ x5_1) = true := decide_eq_true c5
 clear c5
 by_cases c6 : x5_1 < (l0.length : Int)
 rotate_left
 ·rw [if_neg c6] at H
  exact absurd H (by simp)
 rw [if_pos c6] at H
 have c6b0 : decide (x5_1 < (l0.length : Int)) = true := decide_eq_true c6
 clear c6
 by_cases c7 : x6_2 = 0
 ·rw [if_pos c7] at H
  have Ac7 : Aside0 (x6_2 = 0) := ⟨c7⟩
  clear c7
  have ar8e : x6_2 = 0 := by first | exact (show Aside0 (x6_2 = 0) by assumption).out | exact beq_iff_eq.mp (by assumption) | omega
  have ar8n : (x6_2).toNat = 0 := by rw [ar8e]; rfl
  have ar8l : decide (0 ≤ x6_2) = true := decide_eq_true (by omega)
  have ar8L := eq_true (of_decide_eq_true ar8l)
  have ar8h : decide (x6_2 < 2) = true := decide_eq_true (by omega)
  have ar8H := eq_true (of_decide_eq_true ar8h)
  clear ar8e
  by_cases c9 : ((rd_T120 l0 x5_1).f0.f0) = (IntKind.i8.wrap (x1_2))
  rotate_left
  ·rw [if_neg c9] at H
   have c9b0 : (((rd_T120 l0 x5_1).f0.f0) == (IntKind.i8.wrap (x1_2))) = false := beq_eq_false_iff_ne.mpr c9
   have c9b1 : (((rd_T120 l0 x5_1).f0.f0) != (IntKind.i8.wrap (x1_2))) = true := bne_iff_ne.mpr c9
   obtain rfl := Option.some.inj H
   have p375 : 0 ≤ (x5_1 : Int) := of_decide_eq_true (by first | (with_reducible assumption) | assumption)
   have q375 : x5_1 < (l0.length : Int) := of_decide_eq_true (by first | (with_reducible assumption) | assumption)
   obtain ⟨ad375, e375, hx375_0, hx375_1, hx375_2, hx375_3⟩ := at_T120 HR0.out x5_1 p375 q375
   cases e375
   replace p375 := eq_true p375
   replace q375 := eq_true q375
   go_wp2
   go_ret
   exact ⟨by first | rfl | (simp; done) | (simp [*]; done) | (exact congrArg (Value.int .i64) (wrap_eq (by omega))), by repeat (first | exact Drawn0.refl _ | apply Drawn0.step)⟩
  rw [if_pos c9] at H
  have c9b0 : (((rd_T120 l0 x5_1).f0.f0) == (IntKind.i8.wrap (x1_2))) = true := beq_iff_eq.mpr c9
  have c9b1 : (((rd_T120 l0 x5_1).f0.f0) != (IntKind.i8.wrap (x1_2))) = false := bne_eq_false_iff_eq.mpr c9
  clear c9
  have H' := Aside0.mk H
  clear H
  have p375 : 0 ≤ (x5_1 : Int) := of_decide_eq_true (by first | (with_reducible assumption) | assumption)
  have q375 : x5_1 < (l0.length : Int) := of_decide_eq_true (by first | (with_reducible assumption) | assumption)
  obtain ⟨ad375, e375, hx375_0, hx375_1, hx375_2, hx375_3⟩ := at_T120 HR0.out x5_1 p375 q375
  cases e375
  replace p375 := eq_true p375
  replace q375 := eq_true q375
  go_wp2
  go_roundg k2
  case measure => have := HK1.out; have := HK2.out; omega
  case rel => exact ⟨(wrap64 (x1_2 + 1)), (wrap64 (x6_2 + 1)), (by first | rfl | (simp; done) | (simp [*]; done) | (exact congrArg (Value.int .i64) (wrap_eq (by omega)))), (by first | rfl | (simp; done) | (simp [*]; done) | (exact congrArg (Value.int .i64) (wrap_eq (by omega)))), H', ⟨by have := HK1.out; have := HK2.out; omega⟩, by repeat (first | exact Drawn0.refl _ | apply Drawn0.step)⟩
 rw [if_neg c7] at H
 clear c7
 by_cases c10 : x6_2 = 1
 rotate_left
 ·rw [if_neg c10] at H
  exact absurd H (by simp)
 rw [if_pos c10] at H
 have Ac10 : Aside0 (x6_2 = 1) := ⟨c10⟩
 clear c10
 have ar11e : x6_2 = 1 := by first | exact (show Aside0 (x6_2 = 1) by assumption).out | exact beq_iff_eq.mp (by assumption) | omega
 have ar11n : (x6_2).toNat = 1 := by rw [ar11e]; rfl
 have ar11l : decide (0 ≤ x6_2) = true := decide_eq_true (by omega)
 have ar11L := eq_true (of_decide_eq_true ar11l)
 have ar11h : decide (x6_2 < 2) = true := decide_eq_true (by omega)
 have ar11H := eq_true (of_decide_eq_true ar11h)
 clear ar11e
 by_cases c12 : ((rd_T120 l0 x5_1).f0.f1) = (IntKind.i8.wrap (x1_2))
 rotate_left
 ·rw [if_neg c12] at H
  have c12b0 : (((rd_T120 l0 x5_1).f0.f1) == (IntKind.i8.wrap (x1_2))) = false := beq_eq_false_iff_ne.mpr c12
  have c12b1 : (((rd_T120 l0 x5_1).f0.f1) != (IntKind.i8.wrap (x1_2))) = true := bne_iff_ne.mpr c12
  obtain rfl := Option.some.inj H
  have p375 : 0 ≤ (x5_1 : Int) := of_decide_eq_true (by first | (with_reducible assumption) | assumption)
  have q375 : x5_1 < (l0.length : Int) := of_decide_eq_true (by first | (with_reducible assumption) | assumption)
  obtain ⟨ad375, e375, hx375_0, hx375_1, hx375_2, hx375_3⟩ := at_T120 HR0.out x5_1 p375 q375
  cases e375
  replace p375 := eq_true p375
  replace q375 := eq_true q375
  go_wp2
  go_ret
  exact ⟨by first | rfl | (simp; done) | (simp [*]; done) | (exact congrArg (Value.int .i64) (wrap_eq (by omega))), by repeat (first | exact Drawn0.refl _ | apply Drawn0.step)⟩
 rw [if_pos c12] at H
 have c12b0 : (((rd_T120 l0 x5_1).f0.f1) == (IntKind.i8.wrap (x1_2))) = true := beq_iff_eq.mpr c12
 have c12b1 : (((rd_T120 l0 x5_1).f0.f1) != (IntKind.i8.wrap (x1_2))) = false := bne_eq_false_iff_eq.mpr c12
 clear c12
 have H' := Aside0.mk H
 clear H
 have p375 : 0 ≤ (x5_1 : Int) := of_decide_eq_true (by first | (with_reducible assumption) | assumption)
 have q375 : x5_1 < (l0.length : Int) := of_decide_eq_true (by first | (with_reducible assumption) | assumption)
 obtain ⟨ad375, e375, hx375_0, hx375_1, hx375_2, hx375_3⟩ := at_T120 HR0.out x5_1 p375 q375
 cases e375
 replace p375 := eq_true p375
 replace q375 := eq_true q375
 go_wp2
 go_roundg k2
 case measure => have := HK1.out; have := HK2.out; omega
 case rel => exact ⟨(wrap64 (x1_2 + 1)), (wrap64 (x6_2 + 1)), (by first | rfl | (simp; done) | (simp [*]; done) | (exact congrArg (Value.int .i64) (wrap_eq (by omega)))), (by first | rfl | (simp; done) | (simp [*]; done) | (exact congrArg (Value.int .i64) (wrap_eq (by omega)))), H', ⟨by have := HK1.out; have := HK2.out; omega⟩, by repeat (first | exact Drawn0.refl _ | apply Drawn0.step)⟩
/-! ### laws_FnExactPushesFor: function 3 -/
def laws_FnExactPushesFor.f (k : Nat) (a0_0 : Int) (a0_1 : Int) (l0_2 : List (S88)) (l0_3 : List (S182)) (l0_4 : List (S71)) (a1 : Int) (l2 : List Int) : Option (Bool) := if (l2.length : Int) > 1048576 then (some true) else ((laws_szMachine.f a0_0 a0_1 l0_2 l0_3 l0_4 1048576).bind fun t379 => (if t379 < 0 then (some true) else ((laws_toMachine.f k a0_0 a0_1 l0_2 l0_3 l0_4).bind fun bt380 => ((laws_toInt64S.f k l2).bind fun t391 => ((spec_PushesFor.f k bt380.1 bt380.2.1 bt380.2.2.1 bt380.2.2.2.1 bt380.2.2.2.2 a1 t391).bind fun bt394 => ((laws_toMachine.f k a0_0 a0_1 l0_2 l0_3 l0_4).bind fun bt398 => ((laws_toInt64S.f k l2).bind fun t410 => ((impl_PushesFor.f k bt398.1 bt398.2.1 bt398.2.2.1 bt398.2.2.2.1 bt398.2.2.2.2 a1 t410).bind fun bt413 => ((laws_eqPushS.f k bt413.1 bt394.1).bind fun t417 => (if t417 = true then (if bt413.2 = bt394.2 then ((laws_toMachine.f k a0_0 a0_1 l0_2 l0_3 l0_4).bind fun bt418 => ((laws_eqMachine.f k bt398.1 bt398.2.1 bt398.2.2.1 bt398.2.2.2.1 bt398.2.2.2.2 bt418.1 bt418.2.1 bt418.2.2.1 bt418.2.2.2.1 bt418.2.2.2.2).bind fun t429 => (if t429 = true then ((laws_toInt64S.f k l2).bind fun t430 => ((laws_eqInt64S.f k t410 t430).bind fun t433 => (if t433 = true then ((laws_markMachine.f k bt398.1 bt398.2.1 bt398.2.2.1 bt398.2.2.2.1 bt398.2.2.2.2 1).bind fun bt434 => ((laws_markInt64S.f k t410 bt434.1).bind fun bt438 => (if bt438.1 < 0 then (none) else ((laws_eqPushS.f k bt413.1 bt394.1).bind fun t440 => (if t440 = true then ((laws_markPushS.f k bt413.1 1).bind fun bt441 => ((laws_heldPushS.f k bt441.2 1).bind fun t443 => (if t443 < 0 then (none) else (if t443 = bt441.1 then ((laws_toMachine.f k a0_0 a0_1 l0_2 l0_3 l0_4).bind fun bt444 => ((laws_toInt64S.f k l2).bind fun t455 => ((impl_PushesFor.f k bt444.1 bt444.2.1 bt444.2.2.1 bt444.2.2.2.1 bt444.2.2.2.2 a1 t455).bind fun bt458 => ((laws_eqPushS.f k bt458.1 bt394.1).bind fun t462 => (if t462 = true then (if bt458.2 = bt394.2 then ((laws_heldPushS.f k bt441.2 1).bind fun t463 => (if t463 < 0 then (none) else (if t463 = bt441.1 then (some true) else (none)))) else (none)) else (none)))))) else (none))))) else (none)))))) else (none)))) else (none)))) else (none)) else (none)))))))))))
theorem laws_FnExactPushesFor.mono : ∀ a0 a1 a2 a3 a4 a5 a6 k, LeO (laws_FnExactPushesFor.f k a0 a1 a2 a3 a4 a5 a6) (laws_FnExactPushesFor.f (k + 1) a0 a1 a2 a3 a4 a5 a6) := by
 intro a0 a1 a2 a3 a4 a5 a6 k
 unfold laws_FnExactPushesFor.f
 repeat' first | (with_reducible first | apply impl_PushesFor.mono | apply laws_eqInt64S.mono | apply laws_eqMachine.mono | apply laws_eqPushS.mono | apply laws_heldPushS.mono | apply laws_markInt64S.mono | apply laws_markMachine.mono | apply laws_markPushS.mono | apply laws_toInt64S.mono | apply laws_toMachine.mono | apply spec_PushesFor.mono | exact LeO.refl _ | exact LeO.none _ | refine LeO.ite ?_ ?_ | refine LeO.bind ?_ (fun _ => ?_)) | apply impl_PushesFor.mono | apply laws_eqInt64S.mono | apply laws_eqMachine.mono | apply laws_eqPushS.mono | apply laws_heldPushS.mono | apply laws_markInt64S.mono | apply laws_markMachine.mono | apply laws_markPushS.mono | apply laws_toInt64S.mono | apply laws_toMachine.mono | apply spec_PushesFor.mono | exact LeO.none _ | refine LeO.ite ?_ ?_ | refine LeO.bind ?_ (fun _ => ?_)
set_option maxHeartbeats 8000000 in
set_option maxRecDepth 100000 in
theorem laws_FnExactPushesFor.calls (k : Nat) (a0_0 : Int) (a0_1 : Int) (A0_2 : Option Addr) (c0_2 : Nat) (l0_2 : List (S88)) (A0_3 : Option Addr) (c0_3 : Nat) (l0_3 : List (S182)) (A0_4 : Option Addr) (c0_4 : Nat) (l0_4 : List (S71)) (a1 : Int) (A2 : Option Addr) (c2 : Nat) (l2 : List Int) (r : Bool) (w : World) (hr0_2 : Kd.C k88 w A0_2 l0_2.length l0_2) (hc0_2 : l0_2.length ≤ c0_2) (hr0_3 : Kd.C k182 w A0_3 l0_3.length l0_3) (hc0_3 : l0_3.length ≤ c0_3) (hr0_4 : Kd.C k71 w A0_4 l0_4.length l0_4) (hc0_4 : l0_4.length ≤ c0_4) (hr2 : Kd.C (Kd.int .i64) w A2 l2.length l2) (hc2 : l2.length ≤ c2) (h : laws_FnExactPushesFor.f k a0_0 a0_1 l0_2 l0_3 l0_4 a1 l2 = some r) :
    Calls Try.prog 3 #[.agg #[.int .i8 a0_0, .int .i8 a0_1, .slice A0_2 l0_2.length c0_2, .slice A0_3 l0_3.length c0_3, .slice A0_4 l0_4.length c0_4], .int .i64 a1, .slice A2 l2.length c2] w fun e w' => e = .returned (.bool r) ∧ Below w.heap.size w w' := by
 have hu29 := Try.underlying29
 have hu41 := Try.underlying41
 have HR0_2 := Aside0.mk hr0_2
 have HC0_2 := Aside0.mk hc0_2
 clear hr0_2 hc0_2
 have HR0_3 := Aside0.mk hr0_3
 have HC0_3 := Aside0.mk hc0_3
 clear hr0_3 hc0_3
 have HR0_4 := Aside0.mk hr0_4
 have HC0_4 := Aside0.mk hc0_4
 clear hr0_4 hc0_4
 have HR2 := Aside0.mk hr2
 have HC2 := Aside0.mk hc2
 clear hr2 hc2
 have HB := Aside0.mk (Below.refl w.heap.size w)
 have H : (if (l2.length : Int) > 1048576 then (some true) else ((laws_szMachine.f a0_0 a0_1 l0_2 l0_3 l0_4 1048576).bind fun t379 => (if t379 < 0 then (some true) else ((laws_toMachine.f k a0_0 a0_1 l0_2 l0_3 l0_4).bind fun bt380 => ((laws_toInt64S.f k l2).bind fun t391 => ((spec_PushesFor.f k bt380.1 bt380.2.1 bt380.2.2.1 bt380.2.2.2.1 bt380.2.2.2.2 a1 t391).bind fun bt394 => ((laws_toMachine.f k a0_0 a0_1 l0_2 l0_3 l0_4).bind fun bt398 => ((laws_toInt64S.f k l2).bind fun t410 => ((impl_PushesFor.f k bt398.1 bt398.2.1 bt398.2.2.1 bt398.2.2.2.1 bt398.2.2.2.2 a1 t410).bind fun bt413 => ((laws_eqPushS.f k bt413.1 bt394.1).bind fun t417 => (if t417 = true then (if bt413.2 = bt394.2 then ((laws_toMachine.f k a0_0 a0_1 l0_2 l0_3 l0_4).bind fun bt418 => ((laws_eqMachine.f k bt398.1 bt398.2.1 bt398.2.2.1 bt398.2.2.2.1 bt398.2.2.2.2 bt418.1 bt418.2.1 bt418.2.2.1 bt418.2.2.2.1 bt418.2.2.2.2).bind fun t429 => (if t429 = true then ((laws_toInt64S.f k l2).bind fun t430 => ((laws_eqInt64S.f k t410 t430).bind fun t433 => (if t433 = true then ((laws_markMachine.f k bt398.1 bt398.2.1 bt398.2.2.1 bt398.2.2.2.1 bt398.2.2.2.2 1).bind fun bt434 => ((laws_markInt64S.f k t410 bt434.1).bind fun bt438 => (if bt438.1 < 0 then (none) else ((laws_eqPushS.f k bt413.1 bt394.1).bind fun t440 => (if t440 = true then ((laws_markPushS.f k bt413.1 1).bind fun bt441 => ((laws_heldPushS.f k bt441.2 1).bind fun t443 => (if t443 < 0 then (none) else (if t443 = bt441.1 then ((laws_toMachine.f k a0_0 a0_1 l0_2 l0_3 l0_4).bind fun bt444 => ((laws_toInt64S.f k l2).bind fun t455 => ((impl_PushesFor.f k bt444.1 bt444.2.1 bt444.2.2.1 bt444.2.2.2.1 bt444.2.2.2.2 a1 t455).bind fun bt458 => ((laws_eqPushS.f k bt458.1 bt394.1).bind fun t462 => (if t462 = true then (if bt458.2 = bt394.2 then ((laws_heldPushS.f k bt441.2 1).bind fun t463 => (if t463 < 0 then (none) else (if t463 = bt441.1 then (some true) else (none)))) else (none)) else (none)))))) else (none))))) else (none)))))) else (none)))) else (none)))) else (none)) else (none)))))))))))) = some r := h
 clear h
 by_cases c4 : (l2.length : Int) > 1048576
 ·rw [if_pos c4] at H
  have c4b0 : decide (1048576 < (l2.length : Int)) = true := decide_eq_true c4
  have c4b1 : decide (1048576 < l2.length) = true := decide_eq_true (by omega)
  clear c4
  obtain rfl := Option.some.inj H
  go_enter Try.func3, Try.ntmps3
  go_wp2_with (first | ((with_reducible refine gate_dst (N := 3) rfl ?_); refine box_event ?hg (N := 3) ?hd (cs := #[.int .i8 a0_0, .int .i8 a0_1, .slice A0_2 l0_2.length c0_2, .slice A0_3 l0_3.length c0_3, .slice A0_4 l0_4.length c0_4]) (t := 29) ?hr ?_; (case hd => rfl); (case hg => rfl); (case hr => first | (go_simp; done) | (go_simp; rfl)); intro gb378 hg w5 hbox hb; have n_ : _ ∧ _ ∧ _ ∧ _ := ⟨zb HB hb, Aside0.mk (hbox), zg HB hg, zg HB hg⟩; clear HB; obtain ⟨HB, BK378, GW378, GE378⟩ := n_; clear hb hbox hg))
  go_ret
  exact ⟨by first | rfl | (simp [errW_none, errW_some] <;> rfl) | (simp [*, errW_none, errW_some] <;> rfl), by repeat (first | (with_reducible first | exact HB.out | apply below_alloc | apply pw_below_drewN | apply below_drew1 | refine below_set ?_ GE378.out) | exact HB.out)⟩
 rw [if_neg c4] at H
 have c4b0 : decide (1048576 < (l2.length : Int)) = false := decide_eq_false c4
 have c4b1 : decide (1048576 < l2.length) = false := decide_eq_false (by omega)
 clear c4
 replace H := Option.bind_eq_some_iff.mp H
 obtain ⟨t379, A60, H⟩ := H
 replace H : (if t379 < 0 then (some true) else ((laws_toMachine.f k a0_0 a0_1 l0_2 l0_3 l0_4).bind fun bt380 => ((laws_toInt64S.f k l2).bind fun t391 => ((spec_PushesFor.f k bt380.1 bt380.2.1 bt380.2.2.1 bt380.2.2.2.1 bt380.2.2.2.2 a1 t391).bind fun bt394 => ((laws_toMachine.f k a0_0 a0_1 l0_2 l0_3 l0_4).bind fun bt398 => ((laws_toInt64S.f k l2).bind fun t410 => ((impl_PushesFor.f k bt398.1 bt398.2.1 bt398.2.2.1 bt398.2.2.2.1 bt398.2.2.2.2 a1 t410).bind fun bt413 => ((laws_eqPushS.f k bt413.1 bt394.1).bind fun t417 => (if t417 = true then (if bt413.2 = bt394.2 then ((laws_toMachine.f k a0_0 a0_1 l0_2 l0_3 l0_4).bind fun bt418 => ((laws_eqMachine.f k bt398.1 bt398.2.1 bt398.2.2.1 bt398.2.2.2.1 bt398.2.2.2.2 bt418.1 bt418.2.1 bt418.2.2.1 bt418.2.2.2.1 bt418.2.2.2.2).bind fun t429 => (if t429 = true then ((laws_toInt64S.f k l2).bind fun t430 => ((laws_eqInt64S.f k t410 t430).bind fun t433 => (if t433 = true then ((laws_markMachine.f k bt398.1 bt398.2.1 bt398.2.2.1 bt398.2.2.2.1 bt398.2.2.2.2 1).bind fun bt434 => ((laws_markInt64S.f k t410 bt434.1).bind fun bt438 => (if bt438.1 < 0 then (none) else ((laws_eqPushS.f k bt413.1 bt394.1).bind fun t440 => (if t440 = true then ((laws_markPushS.f k bt413.1 1).bind fun bt441 => ((laws_heldPushS.f k bt441.2 1).bind fun t443 => (if t443 < 0 then (none) else (if t443 = bt441.1 then ((laws_toMachine.f k a0_0 a0_1 l0_2 l0_3 l0_4).bind fun bt444 => ((laws_toInt64S.f k l2).bind fun t455 => ((impl_PushesFor.f k bt444.1 bt444.2.1 bt444.2.2.1 bt444.2.2.2.1 bt444.2.2.2.2 a1 t455).bind fun bt458 => ((laws_eqPushS.f k bt458.1 bt394.1).bind fun t462 => (if t462 = true then (if bt458.2 = bt394.2 then ((laws_heldPushS.f k bt441.2 1).bind fun t463 => (if t463 < 0 then (none) else (if t463 = bt441.1 then (some true) else (none)))) else (none)) else (none)))))) else (none))))) else (none)))))) else (none)))) else (none)))) else (none)) else (none)))))))))) = some r := H
 have A6 := Aside0.mk A60
 clear A60
 by_cases c7 : t379 < 0
 ·rw [if_pos c7] at H
  have c7b0 : decide (t379 < 0) = true := decide_eq_true c7
  clear c7
  obtain rfl := Option.some.inj H
  go_enter Try.func3, Try.ntmps3
  go_wp2_with (first | ((with_reducible refine gate_dst (N := 3) rfl ?_); refine box_event ?hg (N := 3) ?hd (cs := #[.int .i8 a0_0, .int .i8 a0_1, .slice A0_2 l0_2.length c0_2, .slice A0_3 l0_3.length c0_3, .slice A0_4 l0_4.length c0_4]) (t := 29) ?hr ?_; (case hd => rfl); (case hg => rfl); (case hr => first | (go_simp; done) | (go_simp; rfl)); intro gb378 hg w8 hbox hb; have n_ : _ ∧ _ ∧ _ ∧ _ := ⟨zb HB hb, Aside0.mk (hbox), zg HB hg, zg HB hg⟩; clear HB; obtain ⟨HB, BK378, GW378, GE378⟩ := n_; clear hb hbox hg; obtain ⟨z9_0, z9_1, z9_2, z9_3, z9_4, y9_0, y9_1, y9_2, y9_3, y9_4⟩ := zB5 BK378) | ((with_reducible refine gate_callee (f := 21) rfl ?_); refine goesL_ (some 24) rfl rfl Try.func21 (by kernel_rfl) rfl #[.agg #[.int .i8 a0_0, .int .i8 a0_1, .slice A0_2 l0_2.length c0_2, .slice A0_3 l0_3.length c0_3, .slice A0_4 l0_4.length c0_4], .int .i64 1048576] rfl (by (try simp only [List.map_toArray, List.map_cons, List.map_nil]); first | done | rfl | (simp only [List.length_drop, List.length_take]; rfl)) ?_; (with_reducible refine (laws_szMachine.calls a0_0 a0_1 _ _ l0_2 _ _ l0_3 _ _ l0_4 1048576 t379 _ ?side1 ?side2 ?side3 ?side4 ?side5 ?side6 A6.out).mono ?_); (case side1 => exact zcc HB HR0_2.out); (case side2 => exact HC0_2.out); (case side3 => exact zcc HB HR0_3.out); (case side4 => exact HC0_3.out); (case side5 => exact zcc HB HR0_4.out); (case side6 => exact HC0_4.out); rintro e w10 ⟨rfl, hb⟩; refine ⟨_, rfl, ?_⟩; have n_ : _ ∧ _ := ⟨zk BK378 hb, zbs hb⟩; clear BK378 HB; obtain ⟨BK378, HB⟩ := n_; (try clear hb); (try clear hb2); (try clear hk); (try clear hi)))
  go_ret
  exact ⟨by first | rfl | (simp [errW_none, errW_some] <;> rfl) | (simp [*, errW_none, errW_some] <;> rfl), by repeat (first | (with_reducible first | exact HB.out | apply below_alloc | apply pw_below_drewN | apply below_drew1 | refine below_set ?_ GE378.out) | exact HB.out)⟩
 rw [if_neg c7] at H
 have c7b0 : decide (t379 < 0) = false := decide_eq_false c7
 clear c7
 replace H := Option.bind_eq_some_iff.mp H
 obtain ⟨⟨t380, t381, t382, t385, t388⟩, A110, H⟩ := H
 replace H : ((laws_toInt64S.f k l2).bind fun t391 => ((spec_PushesFor.f k t380 t381 t382 t385 t388 a1 t391).bind fun bt394 => ((laws_toMachine.f k a0_0 a0_1 l0_2 l0_3 l0_4).bind fun bt398 => ((laws_toInt64S.f k l2).bind fun t410 => ((impl_PushesFor.f k bt398.1 bt398.2.1 bt398.2.2.1 bt398.2.2.2.1 bt398.2.2.2.2 a1 t410).bind fun bt413 => ((laws_eqPushS.f k bt413.1 bt394.1).bind fun t417 => (if t417 = true then (if bt413.2 = bt394.2 then ((laws_toMachine.f k a0_0 a0_1 l0_2 l0_3 l0_4).bind fun bt418 => ((laws_eqMachine.f k bt398.1 bt398.2.1 bt398.2.2.1 bt398.2.2.2.1 bt398.2.2.2.2 bt418.1 bt418.2.1 bt418.2.2.1 bt418.2.2.2.1 bt418.2.2.2.2).bind fun t429 => (if t429 = true then ((laws_toInt64S.f k l2).bind fun t430 => ((laws_eqInt64S.f k t410 t430).bind fun t433 => (if t433 = true then ((laws_markMachine.f k bt398.1 bt398.2.1 bt398.2.2.1 bt398.2.2.2.1 bt398.2.2.2.2 1).bind fun bt434 => ((laws_markInt64S.f k t410 bt434.1).bind fun bt438 => (if bt438.1 < 0 then (none) else ((laws_eqPushS.f k bt413.1 bt394.1).bind fun t440 => (if t440 = true then ((laws_markPushS.f k bt413.1 1).bind fun bt441 => ((laws_heldPushS.f k bt441.2 1).bind fun t443 => (if t443 < 0 then (none) else (if t443 = bt441.1 then ((laws_toMachine.f k a0_0 a0_1 l0_2 l0_3 l0_4).bind fun bt444 => ((laws_toInt64S.f k l2).bind fun t455 => ((impl_PushesFor.f k bt444.1 bt444.2.1 bt444.2.2.1 bt444.2.2.2.1 bt444.2.2.2.2 a1 t455).bind fun bt458 => ((laws_eqPushS.f k bt458.1 bt394.1).bind fun t462 => (if t462 = true then (if bt458.2 = bt394.2 then ((laws_heldPushS.f k bt441.2 1).bind fun t463 => (if t463 < 0 then (none) else (if t463 = bt441.1 then (some true) else (none)))) else (none)) else (none)))))) else (none))))) else (none)))))) else (none)))) else (none)))) else (none)) else (none)))))))) = some r := H
 have A11 := Aside0.mk A110
 clear A110
 replace H := Option.bind_eq_some_iff.mp H
 obtain ⟨t391, A120, H⟩ := H
 replace H : ((spec_PushesFor.f k t380 t381 t382 t385 t388 a1 t391).bind fun bt394 => ((laws_toMachine.f k a0_0 a0_1 l0_2 l0_3 l0_4).bind fun bt398 => ((laws_toInt64S.f k l2).bind fun t410 => ((impl_PushesFor.f k bt398.1 bt398.2.1 bt398.2.2.1 bt398.2.2.2.1 bt398.2.2.2.2 a1 t410).bind fun bt413 => ((laws_eqPushS.f k bt413.1 bt394.1).bind fun t417 => (if t417 = true then (if bt413.2 = bt394.2 then ((laws_toMachine.f k a0_0 a0_1 l0_2 l0_3 l0_4).bind fun bt418 => ((laws_eqMachine.f k bt398.1 bt398.2.1 bt398.2.2.1 bt398.2.2.2.1 bt398.2.2.2.2 bt418.1 bt418.2.1 bt418.2.2.1 bt418.2.2.2.1 bt418.2.2.2.2).bind fun t429 => (if t429 = true then ((laws_toInt64S.f k l2).bind fun t430 => ((laws_eqInt64S.f k t410 t430).bind fun t433 => (if t433 = true then ((laws_markMachine.f k bt398.1 bt398.2.1 bt398.2.2.1 bt398.2.2.2.1 bt398.2.2.2.2 1).bind fun bt434 => ((laws_markInt64S.f k t410 bt434.1).bind fun bt438 => (if bt438.1 < 0 then (none) else ((laws_eqPushS.f k bt413.1 bt394.1).bind fun t440 => (if t440 = true then ((laws_markPushS.f k bt413.1 1).bind fun bt441 => ((laws_heldPushS.f k bt441.2 1).bind fun t443 => (if t443 < 0 then (none) else (if t443 = bt441.1 then ((laws_toMachine.f k a0_0 a0_1 l0_2 l0_3 l0_4).bind fun bt444 => ((laws_toInt64S.f k l2).bind fun t455 => ((impl_PushesFor.f k bt444.1 bt444.2.1 bt444.2.2.1 bt444.2.2.2.1 bt444.2.2.2.2 a1 t455).bind fun bt458 => ((laws_eqPushS.f k bt458.1 bt394.1).bind fun t462 => (if t462 = true then (if bt458.2 = bt394.2 then ((laws_heldPushS.f k bt441.2 1).bind fun t463 => (if t463 < 0 then (none) else (if t463 = bt441.1 then (some true) else (none)))) else (none)) else (none)))))) else (none))))) else (none)))))) else (none)))) else (none)))) else (none)) else (none))))))) = some r := H
 have A12 := Aside0.mk A120
 clear A120
 replace H := Option.bind_eq_some_iff.mp H
 obtain ⟨⟨t394, t397⟩, A130, H⟩ := H
 replace H : ((laws_toMachine.f k a0_0 a0_1 l0_2 l0_3 l0_4).bind fun bt398 => ((laws_toInt64S.f k l2).bind fun t410 => ((impl_PushesFor.f k bt398.1 bt398.2.1 bt398.2.2.1 bt398.2.2.2.1 bt398.2.2.2.2 a1 t410).bind fun bt413 => ((laws_eqPushS.f k bt413.1 t394).bind fun t417 => (if t417 = true then (if bt413.2 = t397 then ((laws_toMachine.f k a0_0 a0_1 l0_2 l0_3 l0_4).bind fun bt418 => ((laws_eqMachine.f k bt398.1 bt398.2.1 bt398.2.2.1 bt398.2.2.2.1 bt398.2.2.2.2 bt418.1 bt418.2.1 bt418.2.2.1 bt418.2.2.2.1 bt418.2.2.2.2).bind fun t429 => (if t429 = true then ((laws_toInt64S.f k l2).bind fun t430 => ((laws_eqInt64S.f k t410 t430).bind fun t433 => (if t433 = true then ((laws_markMachine.f k bt398.1 bt398.2.1 bt398.2.2.1 bt398.2.2.2.1 bt398.2.2.2.2 1).bind fun bt434 => ((laws_markInt64S.f k t410 bt434.1).bind fun bt438 => (if bt438.1 < 0 then (none) else ((laws_eqPushS.f k bt413.1 t394).bind fun t440 => (if t440 = true then ((laws_markPushS.f k bt413.1 1).bind fun bt441 => ((laws_heldPushS.f k bt441.2 1).bind fun t443 => (if t443 < 0 then (none) else (if t443 = bt441.1 then ((laws_toMachine.f k a0_0 a0_1 l0_2 l0_3 l0_4).bind fun bt444 => ((laws_toInt64S.f k l2).bind fun t455 => ((impl_PushesFor.f k bt444.1 bt444.2.1 bt444.2.2.1 bt444.2.2.2.1 bt444.2.2.2.2 a1 t455).bind fun bt458 => ((laws_eqPushS.f k bt458.1 t394).bind fun t462 => (if t462 = true then (if bt458.2 = t397 then ((laws_heldPushS.f k bt441.2 1).bind fun t463 => (if t463 < 0 then (none) else (if t463 = bt441.1 then (some true) else (none)))) else (none)) else (none)))))) else (none))))) else (none)))))) else (none)))) else (none)))) else (none)) else (none)))))) = some r := H
 have A13 := Aside0.mk A130
 clear A130
 replace H := Option.bind_eq_some_iff.mp H
 obtain ⟨⟨t398, t399, t400, t403, t406⟩, A140, H⟩ := H
 replace H : ((laws_toInt64S.f k l2).bind fun t410 => ((impl_PushesFor.f k t398 t399 t400 t403 t406 a1 t410).bind fun bt413 => ((laws_eqPushS.f k bt413.1 t394).bind fun t417 => (if t417 = true then (if bt413.2 = t397 then ((laws_toMachine.f k a0_0 a0_1 l0_2 l0_3 l0_4).bind fun bt418 => ((laws_eqMachine.f k t398 t399 t400 t403 t406 bt418.1 bt418.2.1 bt418.2.2.1 bt418.2.2.2.1 bt418.2.2.2.2).bind fun t429 => (if t429 = true then ((laws_toInt64S.f k l2).bind fun t430 => ((laws_eqInt64S.f k t410 t430).bind fun t433 => (if t433 = true then ((laws_markMachine.f k t398 t399 t400 t403 t406 1).bind fun bt434 => ((laws_markInt64S.f k t410 bt434.1).bind fun bt438 => (if bt438.1 < 0 then (none) else ((laws_eqPushS.f k bt413.1 t394).bind fun t440 => (if t440 = true then ((laws_markPushS.f k bt413.1 1).bind fun bt441 => ((laws_heldPushS.f k bt441.2 1).bind fun t443 => (if t443 < 0 then (none) else (if t443 = bt441.1 then ((laws_toMachine.f k a0_0 a0_1 l0_2 l0_3 l0_4).bind fun bt444 => ((laws_toInt64S.f k l2).bind fun t455 => ((impl_PushesFor.f k bt444.1 bt444.2.1 bt444.2.2.1 bt444.2.2.2.1 bt444.2.2.2.2 a1 t455).bind fun bt458 => ((laws_eqPushS.f k bt458.1 t394).bind fun t462 => (if t462 = true then (if bt458.2 = t397 then ((laws_heldPushS.f k bt441.2 1).bind fun t463 => (if t463 < 0 then (none) else (if t463 = bt441.1 then (some true) else (none)))) else (none)) else (none)))))) else (none))))) else (none)))))) else (none)))) else (none)))) else (none)) else (none))))) = some r := H
 have A14 := Aside0.mk A140
 clear A140
 replace H := Option.bind_eq_some_iff.mp H
 obtain ⟨t410, A150, H⟩ := H
 replace H : ((impl_PushesFor.f k t398 t399 t400 t403 t406 a1 t410).bind fun bt413 => ((laws_eqPushS.f k bt413.1 t394).bind fun t417 => (if t417 = true then (if bt413.2 = t397 then ((laws_toMachine.f k a0_0 a0_1 l0_2 l0_3 l0_4).bind fun bt418 => ((laws_eqMachine.f k t398 t399 t400 t403 t406 bt418.1 bt418.2.1 bt418.2.2.1 bt418.2.2.2.1 bt418.2.2.2.2).bind fun t429 => (if t429 = true then ((laws_toInt64S.f k l2).bind fun t430 => ((laws_eqInt64S.f k t410 t430).bind fun t433 => (if t433 = true then ((laws_markMachine.f k t398 t399 t400 t403 t406 1).bind fun bt434 => ((laws_markInt64S.f k t410 bt434.1).bind fun bt438 => (if bt438.1 < 0 then (none) else ((laws_eqPushS.f k bt413.1 t394).bind fun t440 => (if t440 = true then ((laws_markPushS.f k bt413.1 1).bind fun bt441 => ((laws_heldPushS.f k bt441.2 1).bind fun t443 => (if t443 < 0 then (none) else (if t443 = bt441.1 then ((laws_toMachine.f k a0_0 a0_1 l0_2 l0_3 l0_4).bind fun bt444 => ((laws_toInt64S.f k l2).bind fun t455 => ((impl_PushesFor.f k bt444.1 bt444.2.1 bt444.2.2.1 bt444.2.2.2.1 bt444.2.2.2.2 a1 t455).bind fun bt458 => ((laws_eqPushS.f k bt458.1 t394).bind fun t462 => (if t462 = true then (if bt458.2 = t397 then ((laws_heldPushS.f k bt441.2 1).bind fun t463 => (if t463 < 0 then (none) else (if t463 = bt441.1 then (some true) else (none)))) else (none)) else (none)))))) else (none))))) else (none)))))) else (none)))) else (none)))) else (none)) else (none)))) = some r := H
 have A15 := Aside0.mk A150
 clear A150
 replace H := Option.bind_eq_some_iff.mp H
 obtain ⟨⟨t413, t416⟩, A160, H⟩ := H
 replace H : ((laws_eqPushS.f k t413 t394).bind fun t417 => (if t417 = true then (if t416 = t397 then ((laws_toMachine.f k a0_0 a0_1 l0_2 l0_3 l0_4).bind fun bt418 => ((laws_eqMachine.f k t398 t399 t400 t403 t406 bt418.1 bt418.2.1 bt418.2.2.1 bt418.2.2.2.1 bt418.2.2.2.2).bind fun t429 => (if t429 = true then ((laws_toInt64S.f k l2).bind fun t430 => ((laws_eqInt64S.f k t410 t430).bind fun t433 => (if t433 = true then ((laws_markMachine.f k t398 t399 t400 t403 t406 1).bind fun bt434 => ((laws_markInt64S.f k t410 bt434.1).bind fun bt438 => (if bt438.1 < 0 then (none) else ((laws_eqPushS.f k t413 t394).bind fun t440 => (if t440 = true then ((laws_markPushS.f k t413 1).bind fun bt441 => ((laws_heldPushS.f k bt441.2 1).bind fun t443 => (if t443 < 0 then (none) else (if t443 = bt441.1 then ((laws_toMachine.f k a0_0 a0_1 l0_2 l0_3 l0_4).bind fun bt444 => ((laws_toInt64S.f k l2).bind fun t455 => ((impl_PushesFor.f k bt444.1 bt444.2.1 bt444.2.2.1 bt444.2.2.2.1 bt444.2.2.2.2 a1 t455).bind fun bt458 => ((laws_eqPushS.f k bt458.1 t394).bind fun t462 => (if t462 = true then (if bt458.2 = t397 then ((laws_heldPushS.f k bt441.2 1).bind fun t463 => (if t463 < 0 then (none) else (if t463 = bt441.1 then (some true) else (none)))) else (none)) else (none)))))) else (none))))) else (none)))))) else (none)))) else (none)))) else (none)) else (none))) = some r := H
 have A16 := Aside0.mk A160
 clear A160
 replace H := Option.bind_eq_some_iff.mp H
 obtain ⟨t417, A170, H⟩ := H
 replace H : (if t417 = true then (if t416 = t397 then ((laws_toMachine.f k a0_0 a0_1 l0_2 l0_3 l0_4).bind fun bt418 => ((laws_eqMachine.f k t398 t399 t400 t403 t406 bt418.1 bt418.2.1 bt418.2.2.1 bt418.2.2.2.1 bt418.2.2.2.2).bind fun t429 => (if t429 = true then ((laws_toInt64S.f k l2).bind fun t430 => ((laws_eqInt64S.f k t410 t430).bind fun t433 => (if t433 = true then ((laws_markMachine.f k t398 t399 t400 t403 t406 1).bind fun bt434 => ((laws_markInt64S.f k t410 bt434.1).bind fun bt438 => (if bt438.1 < 0 then (none) else ((laws_eqPushS.f k t413 t394).bind fun t440 => (if t440 = true then ((laws_markPushS.f k t413 1).bind fun bt441 => ((laws_heldPushS.f k bt441.2 1).bind fun t443 => (if t443 < 0 then (none) else (if t443 = bt441.1 then ((laws_toMachine.f k a0_0 a0_1 l0_2 l0_3 l0_4).bind fun bt444 => ((laws_toInt64S.f k l2).bind fun t455 => ((impl_PushesFor.f k bt444.1 bt444.2.1 bt444.2.2.1 bt444.2.2.2.1 bt444.2.2.2.2 a1 t455).bind fun bt458 => ((laws_eqPushS.f k bt458.1 t394).bind fun t462 => (if t462 = true then (if bt458.2 = t397 then ((laws_heldPushS.f k bt441.2 1).bind fun t463 => (if t463 < 0 then (none) else (if t463 = bt441.1 then (some true) else (none)))) else (none)) else (none)))))) else (none))))) else (none)))))) else (none)))) else (none)))) else (none)) else (none)) = some r := H
 have A17 := Aside0.mk A170
 clear A170
 by_cases c18 : t417 = true
 rotate_left
 ·replace c18 := Bool.eq_false_iff.mpr c18
  subst c18
  have H1 : (none) = some r := by rw [if_neg (show ¬ (false = true) by decide)] at H; exact H
  clear H
  have H := H1
  clear H1
  exact absurd H (by simp)
 subst c18
 have H1 : (if t416 = t397 then ((laws_toMachine.f k a0_0 a0_1 l0_2 l0_3 l0_4).bind fun bt418 => ((laws_eqMachine.f k t398 t399 t400 t403 t406 bt418.1 bt418.2.1 bt418.2.2.1 bt418.2.2.2.1 bt418.2.2.2.2).bind fun t429 => (if t429 = true then ((laws_toInt64S.f k l2).bind fun t430 => ((laws_eqInt64S.f k t410 t430).bind fun t433 => (if t433 = true then ((laws_markMachine.f k t398 t399 t400 t403 t406 1).bind fun bt434 => ((laws_markInt64S.f k t410 bt434.1).bind fun bt438 => (if bt438.1 < 0 then (none) else ((laws_eqPushS.f k t413 t394).bind fun t440 => (if t440 = true then ((laws_markPushS.f k t413 1).bind fun bt441 => ((laws_heldPushS.f k bt441.2 1).bind fun t443 => (if t443 < 0 then (none) else (if t443 = bt441.1 then ((laws_toMachine.f k a0_0 a0_1 l0_2 l0_3 l0_4).bind fun bt444 => ((laws_toInt64S.f k l2).bind fun t455 => ((impl_PushesFor.f k bt444.1 bt444.2.1 bt444.2.2.1 bt444.2.2.2.1 bt444.2.2.2.2 a1 t455).bind fun bt458 => ((laws_eqPushS.f k bt458.1 t394).bind fun t462 => (if t462 = true then (if bt458.2 = t397 then ((laws_heldPushS.f k bt441.2 1).bind fun t463 => (if t463 < 0 then (none) else (if t463 = bt441.1 then (some true) else (none)))) else (none)) else (none)))))) else (none))))) else (none)))))) else (none)))) else (none)))) else (none)) = some r := by rw [if_pos rfl] at H; exact H
 clear H
 have H := H1
 clear H1
 by_cases c19 : t416 = t397
 rotate_left
 ·rw [if_neg c19] at H
  exact absurd H (by simp)
 rw [if_pos c19] at H
 have c19b0 : (t416 == t397) = true := beq_iff_eq.mpr c19
 have c19b1 : (t416 != t397) = false := bne_eq_false_iff_eq.mpr c19
 clear c19
 replace H := Option.bind_eq_some_iff.mp H
 obtain ⟨⟨t418, t419, t420, t423, t426⟩, A200, H⟩ := H
 replace H : ((laws_eqMachine.f k t398 t399 t400 t403 t406 t418 t419 t420 t423 t426).bind fun t429 => (if t429 = true then ((laws_toInt64S.f k l2).bind fun t430 => ((laws_eqInt64S.f k t410 t430).bind fun t433 => (if t433 = true then ((laws_markMachine.f k t398 t399 t400 t403 t406 1).bind fun bt434 => ((laws_markInt64S.f k t410 bt434.1).bind fun bt438 => (if bt438.1 < 0 then (none) else ((laws_eqPushS.f k t413 t394).bind fun t440 => (if t440 = true then ((laws_markPushS.f k t413 1).bind fun bt441 => ((laws_heldPushS.f k bt441.2 1).bind fun t443 => (if t443 < 0 then (none) else (if t443 = bt441.1 then ((laws_toMachine.f k a0_0 a0_1 l0_2 l0_3 l0_4).bind fun bt444 => ((laws_toInt64S.f k l2).bind fun t455 => ((impl_PushesFor.f k bt444.1 bt444.2.1 bt444.2.2.1 bt444.2.2.2.1 bt444.2.2.2.2 a1 t455).bind fun bt458 => ((laws_eqPushS.f k bt458.1 t394).bind fun t462 => (if t462 = true then (if bt458.2 = t397 then ((laws_heldPushS.f k bt441.2 1).bind fun t463 => (if t463 < 0 then (none) else (if t463 = bt441.1 then (some true) else (none)))) else (none)) else (none)))))) else (none))))) else (none)))))) else (none)))) else (none))) = some r := H
 have A20 := Aside0.mk A200
 clear A200
 replace H := Option.bind_eq_some_iff.mp H
 obtain ⟨t429, A210, H⟩ := H
 replace H : (if t429 = true then ((laws_toInt64S.f k l2).bind fun t430 => ((laws_eqInt64S.f k t410 t430).bind fun t433 => (if t433 = true then ((laws_markMachine.f k t398 t399 t400 t403 t406 1).bind fun bt434 => ((laws_markInt64S.f k t410 bt434.1).bind fun bt438 => (if bt438.1 < 0 then (none) else ((laws_eqPushS.f k t413 t394).bind fun t440 => (if t440 = true then ((laws_markPushS.f k t413 1).bind fun bt441 => ((laws_heldPushS.f k bt441.2 1).bind fun t443 => (if t443 < 0 then (none) else (if t443 = bt441.1 then ((laws_toMachine.f k a0_0 a0_1 l0_2 l0_3 l0_4).bind fun bt444 => ((laws_toInt64S.f k l2).bind fun t455 => ((impl_PushesFor.f k bt444.1 bt444.2.1 bt444.2.2.1 bt444.2.2.2.1 bt444.2.2.2.2 a1 t455).bind fun bt458 => ((laws_eqPushS.f k bt458.1 t394).bind fun t462 => (if t462 = true then (if bt458.2 = t397 then ((laws_heldPushS.f k bt441.2 1).bind fun t463 => (if t463 < 0 then (none) else (if t463 = bt441.1 then (some true) else (none)))) else (none)) else (none)))))) else (none))))) else (none)))))) else (none)))) else (none)) = some r := H
 have A21 := Aside0.mk A210
 clear A210
 by_cases c22 : t429 = true
 rotate_left
 ·replace c22 := Bool.eq_false_iff.mpr c22
  subst c22
  have H1 : (none) = some r := by rw [if_neg (show ¬ (false = true) by decide)] at H; exact H
  clear H
  have H := H1
  clear H1
  exact absurd H (by simp)
 subst c22
 have H1 : ((laws_toInt64S.f k l2).bind fun t430 => ((laws_eqInt64S.f k t410 t430).bind fun t433 => (if t433 = true then ((laws_markMachine.f k t398 t399 t400 t403 t406 1).bind fun bt434 => ((laws_markInt64S.f k t410 bt434.1).bind fun bt438 => (if bt438.1 < 0 then (none) else ((laws_eqPushS.f k t413 t394).bind fun t440 => (if t440 = true then ((laws_markPushS.f k t413 1).bind fun bt441 => ((laws_heldPushS.f k bt441.2 1).bind fun t443 => (if t443 < 0 then (none) else (if t443 = bt441.1 then ((laws_toMachine.f k a0_0 a0_1 l0_2 l0_3 l0_4).bind fun bt444 => ((laws_toInt64S.f k l2).bind fun t455 => ((impl_PushesFor.f k bt444.1 bt444.2.1 bt444.2.2.1 bt444.2.2.2.1 bt444.2.2.2.2 a1 t455).bind fun bt458 => ((laws_eqPushS.f k bt458.1 t394).bind fun t462 => (if t462 = true then (if bt458.2 = t397 then ((laws_heldPushS.f k bt441.2 1).bind fun t463 => (if t463 < 0 then (none) else (if t463 = bt441.1 then (some true) else (none)))) else (none)) else (none)))))) else (none))))) else (none)))))) else (none)))) = some r := by rw [if_pos rfl] at H; exact H
 clear H
 have H := H1
 clear H1
 replace H := Option.bind_eq_some_iff.mp H
 obtain ⟨t430, A230, H⟩ := H
 replace H : ((laws_eqInt64S.f k t410 t430).bind fun t433 => (if t433 = true then ((laws_markMachine.f k t398 t399 t400 t403 t406 1).bind fun bt434 => ((laws_markInt64S.f k t410 bt434.1).bind fun bt438 => (if bt438.1 < 0 then (none) else ((laws_eqPushS.f k t413 t394).bind fun t440 => (if t440 = true then ((laws_markPushS.f k t413 1).bind fun bt441 => ((laws_heldPushS.f k bt441.2 1).bind fun t443 => (if t443 < 0 then (none) else (if t443 = bt441.1 then ((laws_toMachine.f k a0_0 a0_1 l0_2 l0_3 l0_4).bind fun bt444 => ((laws_toInt64S.f k l2).bind fun t455 => ((impl_PushesFor.f k bt444.1 bt444.2.1 bt444.2.2.1 bt444.2.2.2.1 bt444.2.2.2.2 a1 t455).bind fun bt458 => ((laws_eqPushS.f k bt458.1 t394).bind fun t462 => (if t462 = true then (if bt458.2 = t397 then ((laws_heldPushS.f k bt441.2 1).bind fun t463 => (if t463 < 0 then (none) else (if t463 = bt441.1 then (some true) else (none)))) else (none)) else (none)))))) else (none))))) else (none)))))) else (none))) = some r := H
 have A23 := Aside0.mk A230
 clear A230
 replace H := Option.bind_eq_some_iff.mp H
 obtain ⟨t433, A240, H⟩ := H
 replace H : (if t433 = true then ((laws_markMachine.f k t398 t399 t400 t403 t406 1).bind fun bt434 => ((laws_markInt64S.f k t410 bt434.1).bind fun bt438 => (if bt438.1 < 0 then (none) else ((laws_eqPushS.f k t413 t394).bind fun t440 => (if t440 = true then ((laws_markPushS.f k t413 1).bind fun bt441 => ((laws_heldPushS.f k bt441.2 1).bind fun t443 => (if t443 < 0 then (none) else (if t443 = bt441.1 then ((laws_toMachine.f k a0_0 a0_1 l0_2 l0_3 l0_4).bind fun bt444 => ((laws_toInt64S.f k l2).bind fun t455 => ((impl_PushesFor.f k bt444.1 bt444.2.1 bt444.2.2.1 bt444.2.2.2.1 bt444.2.2.2.2 a1 t455).bind fun bt458 => ((laws_eqPushS.f k bt458.1 t394).bind fun t462 => (if t462 = true then (if bt458.2 = t397 then ((laws_heldPushS.f k bt441.2 1).bind fun t463 => (if t463 < 0 then (none) else (if t463 = bt441.1 then (some true) else (none)))) else (none)) else (none)))))) else (none))))) else (none)))))) else (none)) = some r := H
 have A24 := Aside0.mk A240
 clear A240
 by_cases c25 : t433 = true
 rotate_left
 ·replace c25 := Bool.eq_false_iff.mpr c25
  subst c25
  have H1 : (none) = some r := by rw [if_neg (show ¬ (false = true) by decide)] at H; exact H
  clear H
  have H := H1
  clear H1
  exact absurd H (by simp)
 subst c25
 have H1 : ((laws_markMachine.f k t398 t399 t400 t403 t406 1).bind fun bt434 => ((laws_markInt64S.f k t410 bt434.1).bind fun bt438 => (if bt438.1 < 0 then (none) else ((laws_eqPushS.f k t413 t394).bind fun t440 => (if t440 = true then ((laws_markPushS.f k t413 1).bind fun bt441 => ((laws_heldPushS.f k bt441.2 1).bind fun t443 => (if t443 < 0 then (none) else (if t443 = bt441.1 then ((laws_toMachine.f k a0_0 a0_1 l0_2 l0_3 l0_4).bind fun bt444 => ((laws_toInt64S.f k l2).bind fun t455 => ((impl_PushesFor.f k bt444.1 bt444.2.1 bt444.2.2.1 bt444.2.2.2.1 bt444.2.2.2.2 a1 t455).bind fun bt458 => ((laws_eqPushS.f k bt458.1 t394).bind fun t462 => (if t462 = true then (if bt458.2 = t397 then ((laws_heldPushS.f k bt441.2 1).bind fun t463 => (if t463 < 0 then (none) else (if t463 = bt441.1 then (some true) else (none)))) else (none)) else (none)))))) else (none))))) else (none)))))) = some r := by rw [if_pos rfl] at H; exact H
 clear H
 have H := H1
 clear H1
 replace H := Option.bind_eq_some_iff.mp H
 obtain ⟨⟨t434, t435, t436, t437⟩, A260, H⟩ := H
 replace H : ((laws_markInt64S.f k t410 t434).bind fun bt438 => (if bt438.1 < 0 then (none) else ((laws_eqPushS.f k t413 t394).bind fun t440 => (if t440 = true then ((laws_markPushS.f k t413 1).bind fun bt441 => ((laws_heldPushS.f k bt441.2 1).bind fun t443 => (if t443 < 0 then (none) else (if t443 = bt441.1 then ((laws_toMachine.f k a0_0 a0_1 l0_2 l0_3 l0_4).bind fun bt444 => ((laws_toInt64S.f k l2).bind fun t455 => ((impl_PushesFor.f k bt444.1 bt444.2.1 bt444.2.2.1 bt444.2.2.2.1 bt444.2.2.2.2 a1 t455).bind fun bt458 => ((laws_eqPushS.f k bt458.1 t394).bind fun t462 => (if t462 = true then (if bt458.2 = t397 then ((laws_heldPushS.f k bt441.2 1).bind fun t463 => (if t463 < 0 then (none) else (if t463 = bt441.1 then (some true) else (none)))) else (none)) else (none)))))) else (none))))) else (none))))) = some r := H
 have A26 := Aside0.mk A260
 clear A260
 replace H := Option.bind_eq_some_iff.mp H
 obtain ⟨⟨t438, t439⟩, A270, H⟩ := H
 replace H : (if t438 < 0 then (none) else ((laws_eqPushS.f k t413 t394).bind fun t440 => (if t440 = true then ((laws_markPushS.f k t413 1).bind fun bt441 => ((laws_heldPushS.f k bt441.2 1).bind fun t443 => (if t443 < 0 then (none) else (if t443 = bt441.1 then ((laws_toMachine.f k a0_0 a0_1 l0_2 l0_3 l0_4).bind fun bt444 => ((laws_toInt64S.f k l2).bind fun t455 => ((impl_PushesFor.f k bt444.1 bt444.2.1 bt444.2.2.1 bt444.2.2.2.1 bt444.2.2.2.2 a1 t455).bind fun bt458 => ((laws_eqPushS.f k bt458.1 t394).bind fun t462 => (if t462 = true then (if bt458.2 = t397 then ((laws_heldPushS.f k bt441.2 1).bind fun t463 => (if t463 < 0 then (none) else (if t463 = bt441.1 then (some true) else (none)))) else (none)) else (none)))))) else (none))))) else (none)))) = some r := H
 have A27 := Aside0.mk A270
 clear A270
 by_cases c28 : t438 < 0
 ·rw [if_pos c28] at H
  exact absurd H (by simp)
 rw [if_neg c28] at H
 have c28b0 : decide (t438 < 0) = false := decide_eq_false c28
 clear c28
 replace H := Option.bind_eq_some_iff.mp H
 obtain ⟨t440, A290, H⟩ := H
 replace H : (if t440 = true then ((laws_markPushS.f k t413 1).bind fun bt441 => ((laws_heldPushS.f k bt441.2 1).bind fun t443 => (if t443 < 0 then (none) else (if t443 = bt441.1 then ((laws_toMachine.f k a0_0 a0_1 l0_2 l0_3 l0_4).bind fun bt444 => ((laws_toInt64S.f k l2).bind fun t455 => ((impl_PushesFor.f k bt444.1 bt444.2.1 bt444.2.2.1 bt444.2.2.2.1 bt444.2.2.2.2 a1 t455).bind fun bt458 => ((laws_eqPushS.f k bt458.1 t394).bind fun t462 => (if t462 = true then (if bt458.2 = t397 then ((laws_heldPushS.f k bt441.2 1).bind fun t463 => (if t463 < 0 then (none) else (if t463 = bt441.1 then (some true) else (none)))) else (none)) else (none)))))) else (none))))) else (none)) = some r := H
 have A29 := Aside0.mk A290
 clear A290
 by_cases c30 : t440 = true
 rotate_left
 ·replace c30 := Bool.eq_false_iff.mpr c30
  subst c30
  have H1 : (none) = some r := by rw [if_neg (show ¬ (false = true) by decide)] at H; exact H
  clear H
  have H := H1
  clear H1
  exact absurd H (by simp)
 subst c30
 have H1 : ((laws_markPushS.f k t413 1).bind fun bt441 => ((laws_heldPushS.f k bt441.2 1).bind fun t443 => (if t443 < 0 then (none) else (if t443 = bt441.1 then ((laws_toMachine.f k a0_0 a0_1 l0_2 l0_3 l0_4).bind fun bt444 => ((laws_toInt64S.f k l2).bind fun t455 => ((impl_PushesFor.f k bt444.1 bt444.2.1 bt444.2.2.1 bt444.2.2.2.1 bt444.2.2.2.2 a1 t455).bind fun bt458 => ((laws_eqPushS.f k bt458.1 t394).bind fun t462 => (if t462 = true then (if bt458.2 = t397 then ((laws_heldPushS.f k bt441.2 1).bind fun t463 => (if t463 < 0 then (none) else (if t463 = bt441.1 then (some true) else (none)))) else (none)) else (none)))))) else (none))))) = some r := by rw [if_pos rfl] at H; exact H
 clear H
 have H := H1
 clear H1
 replace H := Option.bind_eq_some_iff.mp H
 obtain ⟨⟨t441, t442⟩, A310, H⟩ := H
 replace H : ((laws_heldPushS.f k t442 1).bind fun t443 => (if t443 < 0 then (none) else (if t443 = t441 then ((laws_toMachine.f k a0_0 a0_1 l0_2 l0_3 l0_4).bind fun bt444 => ((laws_toInt64S.f k l2).bind fun t455 => ((impl_PushesFor.f k bt444.1 bt444.2.1 bt444.2.2.1 bt444.2.2.2.1 bt444.2.2.2.2 a1 t455).bind fun bt458 => ((laws_eqPushS.f k bt458.1 t394).bind fun t462 => (if t462 = true then (if bt458.2 = t397 then ((laws_heldPushS.f k t442 1).bind fun t463 => (if t463 < 0 then (none) else (if t463 = t441 then (some true) else (none)))) else (none)) else (none)))))) else (none)))) = some r := H
 have A31 := Aside0.mk A310
 clear A310
 replace H := Option.bind_eq_some_iff.mp H
 obtain ⟨t443, A320, H⟩ := H
 replace H : (if t443 < 0 then (none) else (if t443 = t441 then ((laws_toMachine.f k a0_0 a0_1 l0_2 l0_3 l0_4).bind fun bt444 => ((laws_toInt64S.f k l2).bind fun t455 => ((impl_PushesFor.f k bt444.1 bt444.2.1 bt444.2.2.1 bt444.2.2.2.1 bt444.2.2.2.2 a1 t455).bind fun bt458 => ((laws_eqPushS.f k bt458.1 t394).bind fun t462 => (if t462 = true then (if bt458.2 = t397 then ((laws_heldPushS.f k t442 1).bind fun t463 => (if t463 < 0 then (none) else (if t463 = t441 then (some true) else (none)))) else (none)) else (none)))))) else (none))) = some r := H
 have A32 := Aside0.mk A320
 clear A320
 by_cases c33 : t443 < 0
 ·rw [if_pos c33] at H
  exact absurd H (by simp)
 rw [if_neg c33] at H
 have c33b0 : decide (t443 < 0) = false := decide_eq_false c33
 clear c33
 by_cases c34 : t443 = t441
 rotate_left
 ·rw [if_neg c34] at H
  exact absurd H (by simp)
 rw [if_pos c34] at H
 have c34b0 : (t443 == t441) = true := beq_iff_eq.mpr c34
 have c34b1 : (t443 != t441) = false := bne_eq_false_iff_eq.mpr c34
 clear c34
 replace H := Option.bind_eq_some_iff.mp H
 obtain ⟨⟨t444, t445, t446, t449, t452⟩, A350, H⟩ := H
 replace H : ((laws_toInt64S.f k l2).bind fun t455 => ((impl_PushesFor.f k t444 t445 t446 t449 t452 a1 t455).bind fun bt458 => ((laws_eqPushS.f k bt458.1 t394).bind fun t462 => (if t462 = true then (if bt458.2 = t397 then ((laws_heldPushS.f k t442 1).bind fun t463 => (if t463 < 0 then (none) else (if t463 = t441 then (some true) else (none)))) else (none)) else (none))))) = some r := H
 have A35 := Aside0.mk A350
 clear A350
 replace H := Option.bind_eq_some_iff.mp H
 obtain ⟨t455, A360, H⟩ := H
 replace H : ((impl_PushesFor.f k t444 t445 t446 t449 t452 a1 t455).bind fun bt458 => ((laws_eqPushS.f k bt458.1 t394).bind fun t462 => (if t462 = true then (if bt458.2 = t397 then ((laws_heldPushS.f k t442 1).bind fun t463 => (if t463 < 0 then (none) else (if t463 = t441 then (some true) else (none)))) else (none)) else (none)))) = some r := H
 have A36 := Aside0.mk A360
 clear A360
 replace H := Option.bind_eq_some_iff.mp H
 obtain ⟨⟨t458, t461⟩, A370, H⟩ := H
 replace H : ((laws_eqPushS.f k t458 t394).bind fun t462 => (if t462 = true then (if t461 = t397 then ((laws_heldPushS.f k t442 1).bind fun t463 => (if t463 < 0 then (none) else (if t463 = t441 then (some true) else (none)))) else (none)) else (none))) = some r := H
 have A37 := Aside0.mk A370
 clear A370
 replace H := Option.bind_eq_some_iff.mp H
 obtain ⟨t462, A380, H⟩ := H
 replace H : (if t462 = true then (if t461 = t397 then ((laws_heldPushS.f k t442 1).bind fun t463 => (if t463 < 0 then (none) else (if t463 = t441 then (some true) else (none)))) else (none)) else (none)) = some r := H
 have A38 := Aside0.mk A380
 clear A380
 by_cases c39 : t462 = true
 rotate_left
 ·replace c39 := Bool.eq_false_iff.mpr c39
  subst c39
  have H1 : (none) = some r := by rw [if_neg (show ¬ (false = true) by decide)] at H; exact H
  clear H
  have H := H1
  clear H1
  exact absurd H (by simp)
 subst c39
 have H1 : (if t461 = t397 then ((laws_heldPushS.f k t442 1).bind fun t463 => (if t463 < 0 then (none) else (if t463 = t441 then (some true) else (none)))) else (none)) = some r := by rw [if_pos rfl] at H; exact H
 clear H
 have H := H1
 clear H1
 by_cases c40 : t461 = t397
 rotate_left
 ·rw [if_neg c40] at H
  exact absurd H (by simp)
 rw [if_pos c40] at H
 have c40b0 : (t461 == t397) = true := beq_iff_eq.mpr c40
 have c40b1 : (t461 != t397) = false := bne_eq_false_iff_eq.mpr c40
 clear c40
 replace H := Option.bind_eq_some_iff.mp H
 obtain ⟨t463, A410, H⟩ := H
 replace H : (if t463 < 0 then (none) else (if t463 = t441 then (some true) else (none))) = some r := H
 have A41 := Aside0.mk A410
 clear A410
 by_cases c42 : t463 < 0
 ·rw [if_pos c42] at H
  exact absurd H (by simp)
 rw [if_neg c42] at H
 have c42b0 : decide (t463 < 0) = false := decide_eq_false c42
 clear c42
 by_cases c43 : t463 = t441
 rotate_left
 ·rw [if_neg c43] at H
  exact absurd H (by simp)
 rw [if_pos c43] at H
 have c43b0 : (t463 == t441) = true := beq_iff_eq.mpr c43
 have c43b1 : (t463 != t441) = false := bne_eq_false_iff_eq.mpr c43
 clear c43
 obtain rfl := Option.some.inj H
 go_enter Try.func3, Try.ntmps3
 try go_wp2_with (first | ((with_reducible refine gate_dst (N := 3) rfl ?_); refine box_event ?hg (N := 3) ?hd (cs := #[.int .i8 a0_0, .int .i8 a0_1, .slice A0_2 l0_2.length c0_2, .slice A0_3 l0_3.length c0_3, .slice A0_4 l0_4.length c0_4]) (t := 29) ?hr ?_; (case hd => rfl); (case hg => rfl); (case hr => first | (go_simp; done) | (go_simp; rfl)); intro gb378 hg w44 hbox hb; have n_ : _ ∧ _ ∧ _ ∧ _ := ⟨zb HB hb, Aside0.mk (hbox), zg HB hg, zg HB hg⟩; clear HB; obtain ⟨HB, BK378, GW378, GE378⟩ := n_; clear hb hbox hg; obtain ⟨z45_0, z45_1, z45_2, z45_3, z45_4, y45_0, y45_1, y45_2, y45_3, y45_4⟩ := zB5 BK378) | ((with_reducible refine gate_callee (f := 21) rfl ?_); refine goesL_ (some 24) rfl rfl Try.func21 (by kernel_rfl) rfl #[.agg #[.int .i8 a0_0, .int .i8 a0_1, .slice A0_2 l0_2.length c0_2, .slice A0_3 l0_3.length c0_3, .slice A0_4 l0_4.length c0_4], .int .i64 1048576] rfl (by (try simp only [List.map_toArray, List.map_cons, List.map_nil]); first | done | rfl | (simp only [List.length_drop, List.length_take]; rfl)) ?_; (with_reducible refine (laws_szMachine.calls a0_0 a0_1 _ _ l0_2 _ _ l0_3 _ _ l0_4 1048576 t379 _ ?side1 ?side2 ?side3 ?side4 ?side5 ?side6 A6.out).mono ?_); (case side1 => exact zcc HB HR0_2.out); (case side2 => exact HC0_2.out); (case side3 => exact zcc HB HR0_3.out); (case side4 => exact HC0_3.out); (case side5 => exact zcc HB HR0_4.out); (case side6 => exact HC0_4.out); rintro e w46 ⟨rfl, hb⟩; refine ⟨_, rfl, ?_⟩; have n_ : _ ∧ _ := ⟨zk BK378 hb, zbs hb⟩; clear BK378 HB; obtain ⟨BK378, HB⟩ := n_; (try clear hb); (try clear hb2); (try clear hk); (try clear hi); obtain ⟨z47_0, z47_1, z47_2, z47_3, z47_4, y47_0, y47_1, y47_2, y47_3, y47_4⟩ := zB5 BK378) | ((with_reducible refine gate_callee (f := 23) rfl ?_); refine goesL_ (some 29) rfl rfl Try.func23 (by kernel_rfl) rfl #[.agg #[.int .i8 a0_0, .int .i8 a0_1, .slice A0_2 l0_2.length c0_2, .slice A0_3 l0_3.length c0_3, .slice A0_4 l0_4.length c0_4]] rfl (by (try simp only [List.map_toArray, List.map_cons, List.map_nil]); first | done | rfl | (simp only [List.length_drop, List.length_take]; rfl)) ?_; (with_reducible refine (laws_toMachine.calls k a0_0 a0_1 _ _ l0_2 _ _ l0_3 _ _ l0_4 t380 t381 t382 t385 t388 _ ?side1 ?side2 ?side3 ?side4 ?side5 ?side6 A11.out).mono ?_); (case side1 => exact zcc HB HR0_2.out); (case side2 => exact HC0_2.out); (case side3 => exact zcc HB HR0_3.out); (case side4 => exact HC0_3.out); (case side5 => exact zcc HB HR0_4.out); (case side6 => exact HC0_4.out); rintro e w48 ⟨v383, v386, v389, rfl, ho0, ho1, ho2, hb⟩; refine ⟨_, rfl, ?_⟩; have n_ : _ ∧ _ ∧ _ ∧ _ ∧ _ := ⟨Aside0.mk (Kd.R_lower ho0 (zz HB)), Aside0.mk (Kd.R_lower ho1 (zz HB)), Aside0.mk (Kd.R_lower ho2 (zz HB)), zk BK378 hb, zbs hb⟩; clear BK378 HB; obtain ⟨HO384, HO387, HO390, BK378, HB⟩ := n_; (try clear hb); (try clear hb2); (try clear hk); (try clear hi); (try clear ho0); (try clear ho1); (try clear ho2)) | ((with_reducible refine gate_callee (f := 24) rfl ?_); refine goesL_ (some 32) rfl rfl Try.func24 (by kernel_rfl) rfl #[.slice A2 l2.length c2] rfl (by (try simp only [List.map_toArray, List.map_cons, List.map_nil]); first | done | rfl | (simp only [List.length_drop, List.length_take]; rfl)) ?_; (with_reducible refine (laws_toInt64S.calls k _ _ l2 t391 _ ?side1 ?side2 A12.out).mono ?_); (case side1 => exact zcc HB HR2.out); (case side2 => exact HC2.out); rintro e w49 ⟨v392, rfl, ho0, hb⟩; refine ⟨_, rfl, ?_⟩; have n_ : _ ∧ _ ∧ _ ∧ _ ∧ _ ∧ _ := ⟨zr HO384 hb, zr HO387 hb, zr HO390 hb, Aside0.mk (Kd.R_lower ho0 (zz HB)), zk BK378 hb, zbs hb⟩; clear HO384 HO387 HO390 BK378 HB; obtain ⟨HO384, HO387, HO390, HO393, BK378, HB⟩ := n_; (try clear hb); (try clear hb2); (try clear hk); (try clear hi); (try clear ho0); obtain ⟨Ao50, co50, eo50⟩ := Kd.R_slice HO384.out; subst eo50; obtain ⟨Ao51, co51, eo51⟩ := Kd.R_slice HO387.out; subst eo51; obtain ⟨Ao52, co52, eo52⟩ := Kd.R_slice HO390.out; subst eo52; obtain ⟨Ao53, co53, eo53⟩ := Kd.R_slice HO393.out; subst eo53) | ((with_reducible refine gate_callee (f := 22) rfl ?_); refine goesL_ (some 33) rfl rfl Try.func22 (by kernel_rfl) rfl #[.agg #[.int .i8 t380, .int .i8 t381, .slice Ao50 t382.length co50, .slice Ao51 t385.length co51, .slice Ao52 t388.length co52], .int .i64 a1, .slice Ao53 t391.length co53] rfl (by (try simp only [List.map_toArray, List.map_cons, List.map_nil]); first | done | rfl | (simp only [List.length_drop, List.length_take]; rfl)) ?_; (with_reducible refine (spec_PushesFor.calls k t380 t381 _ _ t382 _ _ t385 _ _ t388 a1 _ _ t391 t394 t397 _ ?side1 ?side2 ?side3 ?side4 ?side5 ?side6 ?side7 ?side8 A13.out).mono ?_); (case side1 => exact zrc HO384); (case side2 => exact (Kd.R_reads' HO384.out).2.1); (case side3 => exact zrc HO387); (case side4 => exact (Kd.R_reads' HO387.out).2.1); (case side5 => exact zrc HO390); (case side6 => exact (Kd.R_reads' HO390.out).2.1); (case side7 => exact zrc HO393); (case side8 => exact (Kd.R_reads' HO393.out).2.1); rintro e w54 ⟨v395, rfl, ho0, hb⟩; refine ⟨_, rfl, ?_⟩; have n_ : _ ∧ _ ∧ _ ∧ _ ∧ _ ∧ _ ∧ _ := ⟨zr HO384 hb, zr HO387 hb, zr HO390 hb, zr HO393 hb, Aside0.mk (Kd.R_lower ho0 (zz HB)), zk BK378 hb, zbs hb⟩; clear HO384 HO387 HO390 HO393 BK378 HB; obtain ⟨HO384, HO387, HO390, HO393, HO396, BK378, HB⟩ := n_; (try clear hb); (try clear hb2); (try clear hk); (try clear hi); (try clear ho0); obtain ⟨z55_0, z55_1, z55_2, z55_3, z55_4, y55_0, y55_1, y55_2, y55_3, y55_4⟩ := zB5 BK378) | ((with_reducible refine gate_callee (f := 23) rfl ?_); refine goesL_ (some 37) rfl rfl Try.func23 (by kernel_rfl) rfl #[.agg #[.int .i8 a0_0, .int .i8 a0_1, .slice A0_2 l0_2.length c0_2, .slice A0_3 l0_3.length c0_3, .slice A0_4 l0_4.length c0_4]] rfl (by (try simp only [List.map_toArray, List.map_cons, List.map_nil]); first | done | rfl | (simp only [List.length_drop, List.length_take]; rfl)) ?_; (with_reducible refine (laws_toMachine.calls k a0_0 a0_1 _ _ l0_2 _ _ l0_3 _ _ l0_4 t398 t399 t400 t403 t406 _ ?side1 ?side2 ?side3 ?side4 ?side5 ?side6 A14.out).mono ?_); (case side1 => exact zcc HB HR0_2.out); (case side2 => exact HC0_2.out); (case side3 => exact zcc HB HR0_3.out); (case side4 => exact HC0_3.out); (case side5 => exact zcc HB HR0_4.out); (case side6 => exact HC0_4.out); rintro e w56 ⟨v401, v404, v407, rfl, ho0, ho1, ho2, hb⟩; refine ⟨_, rfl, ?_⟩; have n_ : _ ∧ _ ∧ _ ∧ _ ∧ _ ∧ _ ∧ _ ∧ _ ∧ _ ∧ _ := ⟨Aside0.mk (Kd.R_elder' (ze HO384).out (Kd.R_base ho0) hb), Aside0.mk (Kd.R_elder' (ze HO387).out (Kd.R_base ho1) hb), Aside0.mk (Kd.R_elder' (ze HO390).out (Kd.R_base ho2) hb), zr HO393 hb, zr HO396 hb, Aside0.mk (Kd.R_lower (Kd.R_new' ho0 (Kd.R_lt (ze HO384).out)) (zz HB)), Aside0.mk (Kd.R_lower (Kd.R_new' ho1 (Kd.R_lt (ze HO387).out)) (zz HB)), Aside0.mk (Kd.R_lower (Kd.R_new' ho2 (Kd.R_lt (ze HO390).out)) (zz HB)), zk BK378 hb, zbs hb⟩; clear HO384 HO387 HO390 HO393 HO396 BK378 HB; obtain ⟨HO384, HO387, HO390, HO393, HO396, HO402, HO405, HO408, BK378, HB⟩ := n_; (try clear hb); (try clear hb2); (try clear hk); (try clear hi); (try clear ho0); (try clear ho1); (try clear ho2)) | ((with_reducible refine gate_dst (N := 10) rfl ?_); refine box_event ?hg (N := 10) ?hd (cs := #[.int .i8 0, .int .i8 0, .slice none 0 0, .slice none 0 0, .slice none 0 0]) (t := 41) ?hr ?_; (case hd => rfl); (case hg => rfl); (case hr => first | (go_simp; done) | (go_simp; rfl)); intro gb409 hg w57 hbox hb; have n_ : _ ∧ _ ∧ _ ∧ _ ∧ _ ∧ _ ∧ _ ∧ _ ∧ _ ∧ _ ∧ _ ∧ _ ∧ _ ∧ _ ∧ _ := ⟨zr HO384 hb, zr HO387 hb, zr HO390 hb, zr HO393 hb, zr HO396 hb, zr HO402 hb, zr HO405 hb, zr HO408 hb, zk BK378 hb, zbs hb, Aside0.mk (hbox), zg HB hg, zg HB hg, zn1 BK378 hg, zn2 BK378 hg⟩; clear HO384 HO387 HO390 HO393 HO396 HO402 HO405 HO408 BK378 HB; obtain ⟨HO384, HO387, HO390, HO393, HO396, HO402, HO405, HO408, BK378, HB, BK409, GW409, GE409, NB378_409, NB409_378⟩ := n_; clear hb hbox hg; have hnb58 := NB409_378.out; have hnc58 := NB378_409.out; obtain ⟨z59_0, z59_1, z59_2, z59_3, z59_4, y59_0, y59_1, y59_2, y59_3, y59_4⟩ := zB5 BK409; obtain ⟨Ao60, co60, eo60⟩ := Kd.R_slice HO402.out; subst eo60; obtain ⟨Ao61, co61, eo61⟩ := Kd.R_slice HO405.out; subst eo61; obtain ⟨Ao62, co62, eo62⟩ := Kd.R_slice HO408.out; subst eo62) | ((with_reducible refine gate_callee (f := 24) rfl ?_); refine goesL_ (some 39) rfl rfl Try.func24 (by kernel_rfl) rfl #[.slice A2 l2.length c2] rfl (by (try simp only [List.map_toArray, List.map_cons, List.map_nil]); first | done | rfl | (simp only [List.length_drop, List.length_take]; rfl)) ?_; (with_reducible refine (laws_toInt64S.calls k _ _ l2 t410 _ ?side1 ?side2 A15.out).mono ?_); (case side1 => exact Kd.C_below HR2.out (by repeat (first | (with_reducible first | exact HB.out | apply below_alloc | apply pw_below_drewN | apply below_drew1 | refine below_set ?_ GE378.out | refine below_set ?_ GE409.out) | exact HB.out))); (case side2 => exact HC2.out); rintro e w63 ⟨v411, rfl, ho0, hb⟩; refine ⟨_, rfl, ?_⟩; have n_ : _ ∧ _ ∧ _ ∧ _ ∧ _ ∧ _ ∧ _ ∧ _ ∧ _ ∧ _ ∧ _ ∧ _ := ⟨zsb HO384 BK409 hb, zsb HO387 BK409 hb, zsb HO390 BK409 hb, Aside0.mk (Kd.R_elder' (zs HO393 BK409).out (Kd.R_base ho0) hb), zsb HO396 BK409 hb, zsb HO402 BK409 hb, zsb HO405 BK409 hb, zsb HO408 BK409 hb, Aside0.mk (Kd.R_lower (Kd.R_new' ho0 (Kd.R_lt (zs HO393 BK409).out)) (zz HB)), zfb BK378 NB378_409 hb, Aside0.mk (blk_below (g := gb409) (o := .cells #[.int .i8 t398, .int .i8 t399, .slice Ao60 t400.length co60, .slice Ao61 t403.length co61, .slice Ao62 t406.length co62] 41 (0, 0)) (by (with_reducible repeat (first | refine blk_drewN ?_ _ | refine blk_drew ?_ | refine blk_alloc ?_ _)); refine blk_put (cs := #[.int .i8 t398, .int .i8 t399, .slice Ao60 t400.length co60, .slice Ao61 t403.length co61, .slice none 0 0]) ?_ 4 _ rfl; (with_reducible repeat (first | refine blk_drewN ?_ _ | refine blk_drew ?_ | refine blk_alloc ?_ _)); refine blk_put (cs := #[.int .i8 t398, .int .i8 t399, .slice Ao60 t400.length co60, .slice none 0 0, .slice none 0 0]) ?_ 3 _ rfl; (with_reducible repeat (first | refine blk_drewN ?_ _ | refine blk_drew ?_ | refine blk_alloc ?_ _)); refine blk_put (cs := #[.int .i8 t398, .int .i8 t399, .slice none 0 0, .slice none 0 0, .slice none 0 0]) ?_ 2 _ rfl; (with_reducible repeat (first | refine blk_drewN ?_ _ | refine blk_drew ?_ | refine blk_alloc ?_ _)); refine blk_put (cs := #[.int .i8 t398, .int .i8 0, .slice none 0 0, .slice none 0 0, .slice none 0 0]) ?_ 1 _ rfl; (with_reducible repeat (first | refine blk_drewN ?_ _ | refine blk_drew ?_ | refine blk_alloc ?_ _)); refine blk_put (cs := #[.int .i8 0, .int .i8 0, .slice none 0 0, .slice none 0 0, .slice none 0 0]) ?_ 0 _ rfl; (with_reducible repeat (first | refine blk_drewN ?_ _ | refine blk_drew ?_ | refine blk_alloc ?_ _)); exact BK409.out) hb), zbs hb⟩; clear HO384 HO387 HO390 HO393 HO396 HO402 HO405 HO408 BK378 BK409 HB; obtain ⟨HO384, HO387, HO390, HO393, HO396, HO402, HO405, HO408, HO412, BK378, BK409, HB⟩ := n_; (try clear hb); (try clear hb2); (try clear hk); (try clear hi); (try clear ho0); obtain ⟨z64_0, z64_1, z64_2, z64_3, z64_4, y64_0, y64_1, y64_2, y64_3, y64_4⟩ := zB5 BK409; obtain ⟨Ao65, co65, eo65⟩ := Kd.R_slice HO412.out; subst eo65) | ((with_reducible refine gate_callee (f := 25) rfl ?_); refine goesL_ (some 44) rfl rfl Try.func25 (by kernel_rfl) rfl #[.agg #[.int .i8 t398, .int .i8 t399, .slice Ao60 t400.length co60, .slice Ao61 t403.length co61, .slice Ao62 t406.length co62], .int .i64 a1, .slice Ao65 t410.length co65] rfl (by (try simp only [List.map_toArray, List.map_cons, List.map_nil]); first | done | rfl | (simp only [List.length_drop, List.length_take]; rfl)) ?_; (with_reducible refine (impl_PushesFor.calls k t398 t399 _ _ t400 _ _ t403 _ _ t406 a1 _ _ t410 t413 t416 _ ?side1 ?side2 ?side3 ?side4 ?side5 ?side6 ?side7 ?side8 A16.out).mono ?_); (case side1 => exact zrc HO402); (case side2 => exact (Kd.R_reads' HO402.out).2.1); (case side3 => exact zrc HO405); (case side4 => exact (Kd.R_reads' HO405.out).2.1); (case side5 => exact zrc HO408); (case side6 => exact (Kd.R_reads' HO408.out).2.1); (case side7 => exact zrc HO412); (case side8 => exact (Kd.R_reads' HO412.out).2.1); rintro e w66 ⟨v414, rfl, ho0, hb⟩; refine ⟨_, rfl, ?_⟩; have n_ : _ ∧ _ ∧ _ ∧ _ ∧ _ ∧ _ ∧ _ ∧ _ ∧ _ ∧ _ ∧ _ ∧ _ ∧ _ := ⟨zr HO384 hb, zr HO387 hb, zr HO390 hb, zr HO393 hb, Aside0.mk (Kd.R_elder' (ze HO396).out (Kd.R_base ho0) hb), zr HO402 hb, zr HO405 hb, zr HO408 hb, zr HO412 hb, Aside0.mk (Kd.R_lower (Kd.R_new' ho0 (Kd.R_lt (ze HO396).out)) (zz HB)), zk BK378 hb, zk BK409 hb, zbs hb⟩; clear HO384 HO387 HO390 HO393 HO396 HO402 HO405 HO408 HO412 BK378 BK409 HB; obtain ⟨HO384, HO387, HO390, HO393, HO396, HO402, HO405, HO408, HO412, HO415, BK378, BK409, HB⟩ := n_; (try clear hb); (try clear hb2); (try clear hk); (try clear hi); (try clear ho0); obtain ⟨Ao67, co67, eo67⟩ := Kd.R_slice HO415.out; subst eo67; obtain ⟨Ao68, co68, eo68⟩ := Kd.R_slice HO396.out; subst eo68) | ((with_reducible refine gate_callee (f := 26) rfl ?_); refine goesL_ (some 49) rfl rfl Try.func26 (by kernel_rfl) rfl #[.slice Ao67 t413.length co67, .slice Ao68 t394.length co68] rfl (by (try simp only [List.map_toArray, List.map_cons, List.map_nil]); first | done | rfl | (simp only [List.length_drop, List.length_take]; rfl)) ?_; (with_reducible refine (laws_eqPushS.calls k _ _ t413 _ _ t394 true _ ?side1 ?side2 ?side3 ?side4 A17.out).mono ?_); (case side1 => exact zrc HO415); (case side2 => exact (Kd.R_reads' HO415.out).2.1); (case side3 => exact zrc HO396); (case side4 => exact (Kd.R_reads' HO396.out).2.1); rintro e w69 ⟨rfl, hb⟩; refine ⟨_, rfl, ?_⟩; have n_ : _ ∧ _ ∧ _ ∧ _ ∧ _ ∧ _ ∧ _ ∧ _ ∧ _ ∧ _ ∧ _ ∧ _ ∧ _ := ⟨zr HO384 hb, zr HO387 hb, zr HO390 hb, zr HO393 hb, zr HO396 hb, zr HO402 hb, zr HO405 hb, zr HO408 hb, zr HO412 hb, zr HO415 hb, zk BK378 hb, zk BK409 hb, zbs hb⟩; clear HO384 HO387 HO390 HO393 HO396 HO402 HO405 HO408 HO412 HO415 BK378 BK409 HB; obtain ⟨HO384, HO387, HO390, HO393, HO396, HO402, HO405, HO408, HO412, HO415, BK378, BK409, HB⟩ := n_; (try clear hb); (try clear hb2); (try clear hk); (try clear hi)))
 have n0_ := Aside0.mk (Kd.R_drew HO384.out)
 have n1_ := Aside0.mk (Kd.R_drew HO387.out)
 have n2_ := Aside0.mk (Kd.R_drew HO390.out)
 have n3_ := Aside0.mk (Kd.R_drew HO393.out)
 have n4_ := Aside0.mk (Kd.R_drew HO396.out)
 have n5_ := Aside0.mk (Kd.R_drew HO402.out)
 have n6_ := Aside0.mk (Kd.R_drew HO405.out)
 have n7_ := Aside0.mk (Kd.R_drew HO408.out)
 have n8_ := Aside0.mk (Kd.R_drew HO412.out)
 have n9_ := Aside0.mk (Kd.R_drew HO415.out)
 have n10_ := Aside0.mk (blk_drew BK378.out)
 have n11_ := Aside0.mk (blk_drew BK409.out)
 have n12_ := Aside0.mk (below_drew1 HB.out)
 clear HO384
 clear HO387
 clear HO390
 clear HO393
 clear HO396
 clear HO402
 clear HO405
 clear HO408
 clear HO412
 clear HO415
 clear BK378
 clear BK409
 clear HB
 have HO384 := n0_
 have HO387 := n1_
 have HO390 := n2_
 have HO393 := n3_
 have HO396 := n4_
 have HO402 := n5_
 have HO405 := n6_
 have HO408 := n7_
 have HO412 := n8_
 have HO415 := n9_
 have BK378 := n10_
 have BK409 := n11_
 have HB := n12_
 clear n0_ n1_ n2_ n3_ n4_ n5_ n6_ n7_ n8_ n9_ n10_ n11_ n12_
 refine start_ (n := 5) (S := fun w' => w'.cell? ⟨gb409, 0, none⟩ = some (.int .i8 t398) ∧ w'.cell? ⟨gb409, 1, none⟩ = some (.int .i8 t399) ∧ w'.cell? ⟨gb409, 2, none⟩ = some (.slice Ao60 t400.length co60) ∧ w'.cell? ⟨gb409, 3, none⟩ = some (.slice Ao61 t403.length co61) ∧ w'.cell? ⟨gb409, 4, none⟩ = some (.slice Ao62 t406.length co62) ∧ w'.cell? ⟨gb378, 0, none⟩ = some (.int .i8 a0_0) ∧ w'.cell? ⟨gb378, 1, none⟩ = some (.int .i8 a0_1) ∧ w'.cell? ⟨gb378, 2, none⟩ = some (.slice A0_2 l0_2.length c0_2) ∧ w'.cell? ⟨gb378, 3, none⟩ = some (.slice A0_3 l0_3.length c0_3) ∧ w'.cell? ⟨gb378, 4, none⟩ = some (.slice A0_4 l0_4.length c0_4)) (ds := []) #[false, false, false, false, false] (by kernel_rfl) rfl rfl ⟨(blk_cell BK409.out 0).trans rfl, (blk_cell BK409.out 1).trans rfl, (blk_cell BK409.out 2).trans rfl, (blk_cell BK409.out 3).trans rfl, (blk_cell BK409.out 4).trans rfl, (blk_cell BK378.out 0).trans rfl, (blk_cell BK378.out 1).trans rfl, (blk_cell BK378.out 2).trans rfl, (blk_cell BK378.out 3).trans rfl, (blk_cell BK378.out 4).trans rfl⟩ (fun hHeld => ?_)
 generalize w69.drew = w70 at HO384 HO387 HO390 HO393 HO396 HO402 HO405 HO408 HO412 HO415 BK378 BK409 HB hHeld ⊢
 refine take_ (i := 0) (N := some 56) (v := ?_) (a' := ?_) #[true, false, false, false, false] rfl rfl (by kernel_rfl) (fun _ _ _ h => h) (Or.inl ⟨by rfl, ?_⟩) hHeld ?_ ?_
 rotate_left
 ·rintro w' ⟨s0, s1, s2, s3, s4, s5, s6, s7, s8, s9⟩
  go_simp
  with_reducible rfl
 rotate_left
 ·simp only [Act.put, List.setIfInBounds_toArray, List.set_cons_zero, List.set_cons_succ, i64_w, i32_w]
  rfl
 refine take_ (i := 1) (N := some 57) (v := ?_) (a' := ?_) #[true, true, false, false, false] rfl rfl (by kernel_rfl) (fun _ _ _ h => h) (Or.inl ⟨by rfl, ?_⟩) hHeld ?_ ?_
 rotate_left
 ·rintro w' ⟨s0, s1, s2, s3, s4, s5, s6, s7, s8, s9⟩
  go_simp
  with_reducible rfl
 rotate_left
 ·simp only [Act.put, List.setIfInBounds_toArray, List.set_cons_zero, List.set_cons_succ, i64_w, i32_w]
  rfl
 refine one_ (i := 2) (N := some 58) #[true, true, true, false, false] rfl rfl (by kernel_rfl) (by decide) (fun K hK => ?_)
 refine goes_ Try.func23 (by kernel_rfl) rfl #[.agg #[.int .i8 a0_0, .int .i8 a0_1, .slice A0_2 l0_2.length c0_2, .slice A0_3 l0_3.length c0_3, .slice A0_4 l0_4.length c0_4]] (by rfl) rfl rfl (by (try simp only [List.map_toArray, List.map_cons, List.map_nil]); first | done | rfl | (simp only [List.length_drop, List.length_take]; rfl)) ?_
 with_reducible refine (laws_toMachine.calls k a0_0 a0_1 _ _ l0_2 _ _ l0_3 _ _ l0_4 t418 t419 t420 t423 t426 _ ?side1 ?side2 ?side3 ?side4 ?side5 ?side6 A20.out).mono ?_
 (case side1 => exact zcc HB HR0_2.out)
 (case side2 => exact HC0_2.out)
 (case side3 => exact zcc HB HR0_3.out)
 (case side4 => exact HC0_3.out)
 (case side5 => exact zcc HB HR0_4.out)
 (case side6 => exact HC0_4.out)
 rintro e w71 ⟨v421, v424, v427, rfl, ho0, ho1, ho2, hb⟩
 refine ⟨_, rfl, ?_⟩
 have n0_ := Aside0.mk (Kd.R_elder' (ze HO384).out (Kd.R_base ho0) hb)
 have n1_ := Aside0.mk (Kd.R_elder' (ze HO387).out (Kd.R_base ho1) hb)
 have n2_ := Aside0.mk (Kd.R_elder' (ze HO390).out (Kd.R_base ho2) hb)
 have n3_ := zr HO393 hb
 have n4_ := zr HO396 hb
 have n5_ := Aside0.mk (Kd.R_elder' (ze HO402).out (Kd.R_base ho0) hb)
 have n6_ := Aside0.mk (Kd.R_elder' (ze HO405).out (Kd.R_base ho1) hb)
 have n7_ := Aside0.mk (Kd.R_elder' (ze HO408).out (Kd.R_base ho2) hb)
 have n8_ := zr HO412 hb
 have n9_ := zr HO415 hb
 have n10_ := Aside0.mk (Kd.R_lower (Kd.R_new' (Kd.R_new' ho0 (Kd.R_lt (ze HO384).out)) (Kd.R_lt (ze HO402).out)) (zz HB))
 have n11_ := Aside0.mk (Kd.R_lower (Kd.R_new' (Kd.R_new' ho1 (Kd.R_lt (ze HO387).out)) (Kd.R_lt (ze HO405).out)) (zz HB))
 have n12_ := Aside0.mk (Kd.R_lower (Kd.R_new' (Kd.R_new' ho2 (Kd.R_lt (ze HO390).out)) (Kd.R_lt (ze HO408).out)) (zz HB))
 have n13_ := zk BK378 hb
 have n14_ := zk BK409 hb
 have n15_ := zbs hb
 clear HO384
 clear HO387
 clear HO390
 clear HO393
 clear HO396
 clear HO402
 clear HO405
 clear HO408
 clear HO412
 clear HO415
 clear BK378
 clear BK409
 clear HB
 have HO384 := n0_
 have HO387 := n1_
 have HO390 := n2_
 have HO393 := n3_
 have HO396 := n4_
 have HO402 := n5_
 have HO405 := n6_
 have HO408 := n7_
 have HO412 := n8_
 have HO415 := n9_
 have HO422 := n10_
 have HO425 := n11_
 have HO428 := n12_
 have BK378 := n13_
 have BK409 := n14_
 have HB := n15_
 clear n0_ n1_ n2_ n3_ n4_ n5_ n6_ n7_ n8_ n9_ n10_ n11_ n12_ n13_ n14_ n15_
 (try clear hb)
 (try clear hb2)
 (try clear hk)
 (try clear hi)
 (try clear ho0)
 (try clear ho1)
 (try clear ho2)
 obtain ⟨Ao72, co72, eo72⟩ := Kd.R_slice HO422.out
 (first | subst eo72 | (injection eo72 with f1_ f2_ f3_; have f4_ := f1_.symm; have f5_ := f3_.symm; clear f1_ f2_ f3_; subst f4_; subst f5_))
 obtain ⟨Ao73, co73, eo73⟩ := Kd.R_slice HO425.out
 (first | subst eo73 | (injection eo73 with f1_ f2_ f3_; have f4_ := f1_.symm; have f5_ := f3_.symm; clear f1_ f2_ f3_; subst f4_; subst f5_))
 obtain ⟨Ao74, co74, eo74⟩ := Kd.R_slice HO428.out
 (first | subst eo74 | (injection eo74 with f1_ f2_ f3_; have f4_ := f1_.symm; have f5_ := f3_.symm; clear f1_ f2_ f3_; subst f4_; subst f5_))
 refine hK.out _ _ ⟨(blk_cell BK409.out 0).trans rfl, (blk_cell BK409.out 1).trans rfl, (blk_cell BK409.out 2).trans rfl, (blk_cell BK409.out 3).trans rfl, (blk_cell BK409.out 4).trans rfl, (blk_cell BK378.out 0).trans rfl, (blk_cell BK378.out 1).trans rfl, (blk_cell BK378.out 2).trans rfl, (blk_cell BK378.out 3).trans rfl, (blk_cell BK378.out 4).trans rfl⟩ (fun hHeld => ?_)
 clear hK K
 refine norm_ (a' := ?_) ?_ ?_
 rotate_left
 ·show Act.put _ (some 58) _ = _
  simp only [Act.put, List.setIfInBounds_toArray, List.set_cons_zero, List.set_cons_succ, i64_w, i32_w]
  rfl
 refine one_ (i := 3) (N := some 59) #[true, true, true, true, false] rfl rfl (by kernel_rfl) (by decide) (fun K hK => ?_)
 refine goes_ Try.func27 (by kernel_rfl) rfl #[.agg #[.int .i8 t398, .int .i8 t399, .slice Ao60 t400.length co60, .slice Ao61 t403.length co61, .slice Ao62 t406.length co62], .agg #[.int .i8 t418, .int .i8 t419, .slice Ao72 t420.length co72, .slice Ao73 t423.length co73, .slice Ao74 t426.length co74]] (by rfl) rfl rfl (by (try simp only [List.map_toArray, List.map_cons, List.map_nil]); first | done | rfl | (simp only [List.length_drop, List.length_take]; rfl)) ?_
 with_reducible refine (laws_eqMachine.calls k t398 t399 _ _ t400 _ _ t403 _ _ t406 t418 t419 _ _ t420 _ _ t423 _ _ t426 true _ ?side1 ?side2 ?side3 ?side4 ?side5 ?side6 ?side7 ?side8 ?side9 ?side10 ?side11 ?side12 A21.out).mono ?_
 (case side1 => exact zrc HO402)
 (case side2 => exact (Kd.R_reads' HO402.out).2.1)
 (case side3 => exact zrc HO405)
 (case side4 => exact (Kd.R_reads' HO405.out).2.1)
 (case side5 => exact zrc HO408)
 (case side6 => exact (Kd.R_reads' HO408.out).2.1)
 (case side7 => exact zrc HO422)
 (case side8 => exact (Kd.R_reads' HO422.out).2.1)
 (case side9 => exact zrc HO425)
 (case side10 => exact (Kd.R_reads' HO425.out).2.1)
 (case side11 => exact zrc HO428)
 (case side12 => exact (Kd.R_reads' HO428.out).2.1)
 rintro e w75 ⟨rfl, hb⟩
 refine ⟨_, rfl, ?_⟩
 have n0_ := zr HO384 hb
 have n1_ := zr HO387 hb
 have n2_ := zr HO390 hb
 have n3_ := zr HO393 hb
 have n4_ := zr HO396 hb
 have n5_ := zr HO402 hb
 have n6_ := zr HO405 hb
 have n7_ := zr HO408 hb
 have n8_ := zr HO412 hb
 have n9_ := zr HO415 hb
 have n10_ := zr HO422 hb
 have n11_ := zr HO425 hb
 have n12_ := zr HO428 hb
 have n13_ := zk BK378 hb
 have n14_ := zk BK409 hb
 have n15_ := zbs hb
 clear HO384
 clear HO387
 clear HO390
 clear HO393
 clear HO396
 clear HO402
 clear HO405
 clear HO408
 clear HO412
 clear HO415
 clear HO422
 clear HO425
 clear HO428
 clear BK378
 clear BK409
 clear HB
 have HO384 := n0_
 have HO387 := n1_
 have HO390 := n2_
 have HO393 := n3_
 have HO396 := n4_
 have HO402 := n5_
 have HO405 := n6_
 have HO408 := n7_
 have HO412 := n8_
 have HO415 := n9_
 have HO422 := n10_
 have HO425 := n11_
 have HO428 := n12_
 have BK378 := n13_
 have BK409 := n14_
 have HB := n15_
 clear n0_ n1_ n2_ n3_ n4_ n5_ n6_ n7_ n8_ n9_ n10_ n11_ n12_ n13_ n14_ n15_
 (try clear hb)
 (try clear hb2)
 (try clear hk)
 (try clear hi)
 refine hK.out _ _ ⟨(blk_cell BK409.out 0).trans rfl, (blk_cell BK409.out 1).trans rfl, (blk_cell BK409.out 2).trans rfl, (blk_cell BK409.out 3).trans rfl, (blk_cell BK409.out 4).trans rfl, (blk_cell BK378.out 0).trans rfl, (blk_cell BK378.out 1).trans rfl, (blk_cell BK378.out 2).trans rfl, (blk_cell BK378.out 3).trans rfl, (blk_cell BK378.out 4).trans rfl⟩ (fun hHeld => ?_)
 clear hK K
 refine norm_ (a' := ?_) ?_ ?_
 rotate_left
 ·show Act.put _ (some 59) _ = _
  simp only [Act.put, List.setIfInBounds_toArray, List.set_cons_zero, List.set_cons_succ, i64_w, i32_w]
  rfl
 refine pure_ (i := 4) (N := some 60) (v := ?_) (a' := ?_) #[true, true, true, true, true] rfl rfl (by kernel_rfl) (fun _ _ _ h => h) (Or.inl ⟨by rfl, ?_⟩) ?_ ?_
 rotate_left
 ·intro w'
  go_simp
  with_reducible rfl
 rotate_left
 ·simp only [Act.put, List.setIfInBounds_toArray, List.set_cons_zero, List.set_cons_succ, i64_w, i32_w]
  rfl
 refine done_ (by kernel_rfl) ?_
 try go_wp2_with (first | ((with_reducible refine gate_callee (f := 24) rfl ?_); refine goesL_ (some 63) rfl rfl Try.func24 (by kernel_rfl) rfl #[.slice A2 l2.length c2] rfl (by (try simp only [List.map_toArray, List.map_cons, List.map_nil]); first | done | rfl | (simp only [List.length_drop, List.length_take]; rfl)) ?_; (with_reducible refine (laws_toInt64S.calls k _ _ l2 t430 _ ?side1 ?side2 A23.out).mono ?_); (case side1 => exact zcc HB HR2.out); (case side2 => exact HC2.out); rintro e w76 ⟨v431, rfl, ho0, hb⟩; refine ⟨_, rfl, ?_⟩; have n_ : _ ∧ _ ∧ _ ∧ _ ∧ _ ∧ _ ∧ _ ∧ _ ∧ _ ∧ _ ∧ _ ∧ _ ∧ _ ∧ _ ∧ _ ∧ _ ∧ _ := ⟨zr HO384 hb, zr HO387 hb, zr HO390 hb, Aside0.mk (Kd.R_elder' (ze HO393).out (Kd.R_base ho0) hb), zr HO396 hb, zr HO402 hb, zr HO405 hb, zr HO408 hb, Aside0.mk (Kd.R_elder' (ze HO412).out (Kd.R_base ho0) hb), zr HO415 hb, zr HO422 hb, zr HO425 hb, zr HO428 hb, Aside0.mk (Kd.R_lower (Kd.R_new' (Kd.R_new' ho0 (Kd.R_lt (ze HO393).out)) (Kd.R_lt (ze HO412).out)) (zz HB)), zk BK378 hb, zk BK409 hb, zbs hb⟩; clear HO384 HO387 HO390 HO393 HO396 HO402 HO405 HO408 HO412 HO415 HO422 HO425 HO428 BK378 BK409 HB; obtain ⟨HO384, HO387, HO390, HO393, HO396, HO402, HO405, HO408, HO412, HO415, HO422, HO425, HO428, HO432, BK378, BK409, HB⟩ := n_; (try clear hb); (try clear hb2); (try clear hk); (try clear hi); (try clear ho0); obtain ⟨Ao77, co77, eo77⟩ := Kd.R_slice HO432.out; subst eo77) | ((with_reducible refine gate_callee (f := 28) rfl ?_); refine goesL_ (some 64) rfl rfl Try.func28 (by kernel_rfl) rfl #[.slice Ao65 t410.length co65, .slice Ao77 t430.length co77] rfl (by (try simp only [List.map_toArray, List.map_cons, List.map_nil]); first | done | rfl | (simp only [List.length_drop, List.length_take]; rfl)) ?_; (with_reducible refine (laws_eqInt64S.calls k _ _ t410 _ _ t430 true _ ?side1 ?side2 ?side3 ?side4 A24.out).mono ?_); (case side1 => exact zrc HO412); (case side2 => exact (Kd.R_reads' HO412.out).2.1); (case side3 => exact zrc HO432); (case side4 => exact (Kd.R_reads' HO432.out).2.1); rintro e w' ⟨rfl, ⟨nd, rfl⟩⟩; refine ⟨_, rfl, ?_⟩; obtain ⟨z78_0, z78_1, z78_2, z78_3, z78_4, y78_0, y78_1, y78_2, y78_3, y78_4⟩ := zB5 BK409) | ((with_reducible refine gate_callee (f := 29) rfl ?_); refine goesL_ (some 68) rfl rfl Try.func29 (by kernel_rfl) rfl #[.agg #[.int .i8 t398, .int .i8 t399, .slice Ao60 t400.length co60, .slice Ao61 t403.length co61, .slice Ao62 t406.length co62], .int .i64 1] rfl (by (try simp only [List.map_toArray, List.map_cons, List.map_nil]); first | done | rfl | (simp only [List.length_drop, List.length_take]; rfl)) ?_; (with_reducible refine (laws_markMachine.calls k t398 t399 (fun k_ => some k_ = (.slice Ao60 t400.length co60 : Value).ownBlock) (.slice Ao60 t400.length co60) t400 (fun k_ => some k_ = (.slice Ao61 t403.length co61 : Value).ownBlock) (.slice Ao61 t403.length co61) t403 (fun k_ => some k_ = (.slice Ao62 t406.length co62 : Value).ownBlock) (.slice Ao62 t406.length co62) t406 1 t434 t435 t436 t437 w _ ?side1 ?side2 ?side3 ?side4 A26.out).mono ?_); (case side1 => exact zbo); (case side2 => exact Kd.R_tight rfl HO402.out); (case side3 => exact Kd.R_tight rfl HO405.out); (case side4 => exact Kd.R_tight rfl HO408.out); rintro e w79 ⟨rfl, hy0, hy1, hy2, hb, hkp⟩; refine ⟨_, rfl, ?_⟩; have n_ : _ ∧ _ ∧ _ ∧ _ ∧ _ ∧ _ ∧ _ ∧ _ ∧ _ ∧ _ ∧ _ ∧ _ ∧ _ ∧ _ ∧ _ ∧ _ ∧ _ := ⟨zkr BK378 hkp (fun hs_ => Or.elim hs_ (fun e_ => (fun e_ => (Kd.R_ne HO402.out BK378.out (by decide)) e_) e_) (fun e_ => Or.elim e_ (fun e_ => (fun e_ => (Kd.R_ne HO405.out BK378.out (by decide)) e_) e_) (fun e_ => (fun e_ => (Kd.R_ne HO408.out BK378.out (by decide)) e_) e_))), Aside0.mk (Kd.R_mono (ok' := fun k_ => some k_ ≠ (.slice Ao60 t400.length co60 : Value).ownBlock ∧ some k_ ≠ (.slice Ao72 t420.length co72 : Value).ownBlock) (Kd.R_keptB ((Kd.R_apart' (Kd.R_apart' HO384.out (Kd.R_typed HO405.out) (by decide)) (Kd.R_typed HO408.out) (by decide))) hkp (fun k_ hk_ hs_ => Or.elim hs_ (fun e_ => (hk_.1.1.1.2) e_) (fun e_ => Or.elim e_ (fun e_ => (hk_.1.2) e_) (fun e_ => (hk_.2) e_)))) (fun k_ hk_ => ⟨hk_.1.1.1.1.2, hk_.1.1.1.2⟩)), Aside0.mk (Kd.R_mono (ok' := fun k_ => some k_ ≠ (.slice Ao61 t403.length co61 : Value).ownBlock ∧ some k_ ≠ (.slice Ao73 t423.length co73 : Value).ownBlock) (Kd.R_keptB ((Kd.R_apart' (Kd.R_apart' HO387.out (Kd.R_typed HO402.out) (by decide)) (Kd.R_typed HO408.out) (by decide))) hkp (fun k_ hk_ hs_ => Or.elim hs_ (fun e_ => (hk_.1.2) e_) (fun e_ => Or.elim e_ (fun e_ => (hk_.1.1.1.2) e_) (fun e_ => (hk_.2) e_)))) (fun k_ hk_ => ⟨hk_.1.1.1.1.2, hk_.1.1.1.2⟩)), Aside0.mk (Kd.R_mono (ok' := fun k_ => some k_ ≠ (.slice Ao62 t406.length co62 : Value).ownBlock ∧ some k_ ≠ (.slice Ao74 t426.length co74 : Value).ownBlock) (Kd.R_keptB ((Kd.R_apart' (Kd.R_apart' HO390.out (Kd.R_typed HO402.out) (by decide)) (Kd.R_typed HO405.out) (by decide))) hkp (fun k_ hk_ hs_ => Or.elim hs_ (fun e_ => (hk_.1.2) e_) (fun e_ => Or.elim e_ (fun e_ => (hk_.2) e_) (fun e_ => (hk_.1.1.1.2) e_)))) (fun k_ hk_ => ⟨hk_.1.1.1.1.2, hk_.1.1.1.2⟩)), Aside0.mk (Kd.R_mono (ok' := fun k_ => some k_ ≠ (.slice Ao65 t410.length co65 : Value).ownBlock ∧ some k_ ≠ (.slice Ao77 t430.length co77 : Value).ownBlock) (Kd.R_keptB ((Kd.R_apart' (Kd.R_apart' (Kd.R_apart' HO393.out (Kd.R_typed HO402.out) (by decide)) (Kd.R_typed HO405.out) (by decide)) (Kd.R_typed HO408.out) (by decide))) hkp (fun k_ hk_ hs_ => Or.elim hs_ (fun e_ => (hk_.1.1.2) e_) (fun e_ => Or.elim e_ (fun e_ => (hk_.1.2) e_) (fun e_ => (hk_.2) e_)))) (fun k_ hk_ => ⟨hk_.1.1.1.1.1.2, hk_.1.1.1.1.2⟩)), Aside0.mk (Kd.R_mono (ok' := fun k_ => some k_ ≠ (.slice Ao67 t413.length co67 : Value).ownBlock) (Kd.R_keptB ((Kd.R_apart' (Kd.R_apart' (Kd.R_apart' HO396.out (Kd.R_typed HO402.out) (by decide)) (Kd.R_typed HO405.out) (by decide)) (Kd.R_typed HO408.out) (by decide))) hkp (fun k_ hk_ hs_ => Or.elim hs_ (fun e_ => (hk_.1.1.2) e_) (fun e_ => Or.elim e_ (fun e_ => (hk_.1.2) e_) (fun e_ => (hk_.2) e_)))) (fun k_ hk_ => hk_.1.1.1.1.2)), Aside0.mk (Kd.R_reok rfl hy0 (fun k_ e_ => HO402.out.1 k_ e_)), Aside0.mk (Kd.R_reok rfl hy1 (fun k_ e_ => HO405.out.1 k_ e_)), Aside0.mk (Kd.R_reok rfl hy2 (fun k_ e_ => HO408.out.1 k_ e_)), zkr BK409 hkp (fun hs_ => Or.elim hs_ (fun e_ => (fun e_ => (Kd.R_ne HO402.out BK409.out (by decide)) e_) e_) (fun e_ => Or.elim e_ (fun e_ => (fun e_ => (Kd.R_ne HO405.out BK409.out (by decide)) e_) e_) (fun e_ => (fun e_ => (Kd.R_ne HO408.out BK409.out (by decide)) e_) e_))), Aside0.mk (Kd.R_mono (ok' := fun k_ => some k_ ≠ (.slice Ao53 t391.length co53 : Value).ownBlock ∧ some k_ ≠ (.slice Ao77 t430.length co77 : Value).ownBlock) (Kd.R_keptB ((Kd.R_apart' (Kd.R_apart' (Kd.R_apart' HO412.out (Kd.R_typed HO402.out) (by decide)) (Kd.R_typed HO405.out) (by decide)) (Kd.R_typed HO408.out) (by decide))) hkp (fun k_ hk_ hs_ => Or.elim hs_ (fun e_ => (hk_.1.1.2) e_) (fun e_ => Or.elim e_ (fun e_ => (hk_.1.2) e_) (fun e_ => (hk_.2) e_)))) (fun k_ hk_ => ⟨hk_.1.1.1.1.1.2, hk_.1.1.1.1.2⟩)), Aside0.mk (Kd.R_mono (ok' := fun k_ => some k_ ≠ (.slice Ao68 t394.length co68 : Value).ownBlock) (Kd.R_keptB ((Kd.R_apart' (Kd.R_apart' (Kd.R_apart' HO415.out (Kd.R_typed HO402.out) (by decide)) (Kd.R_typed HO405.out) (by decide)) (Kd.R_typed HO408.out) (by decide))) hkp (fun k_ hk_ hs_ => Or.elim hs_ (fun e_ => (hk_.1.1.2) e_) (fun e_ => Or.elim e_ (fun e_ => (hk_.1.2) e_) (fun e_ => (hk_.2) e_)))) (fun k_ hk_ => hk_.1.1.1.1.2)), Aside0.mk (Kd.R_mono (ok' := fun k_ => some k_ ≠ (.slice Ao50 t382.length co50 : Value).ownBlock ∧ some k_ ≠ (.slice Ao60 t400.length co60 : Value).ownBlock) (Kd.R_keptB ((Kd.R_apart' (Kd.R_apart' HO422.out (Kd.R_typed HO405.out) (by decide)) (Kd.R_typed HO408.out) (by decide))) hkp (fun k_ hk_ hs_ => Or.elim hs_ (fun e_ => (hk_.1.1.2) e_) (fun e_ => Or.elim e_ (fun e_ => (hk_.1.2) e_) (fun e_ => (hk_.2) e_)))) (fun k_ hk_ => ⟨hk_.1.1.1.1.2, hk_.1.1.1.2⟩)), Aside0.mk (Kd.R_mono (ok' := fun k_ => some k_ ≠ (.slice Ao51 t385.length co51 : Value).ownBlock ∧ some k_ ≠ (.slice Ao61 t403.length co61 : Value).ownBlock) (Kd.R_keptB ((Kd.R_apart' (Kd.R_apart' HO425.out (Kd.R_typed HO402.out) (by decide)) (Kd.R_typed HO408.out) (by decide))) hkp (fun k_ hk_ hs_ => Or.elim hs_ (fun e_ => (hk_.1.2) e_) (fun e_ => Or.elim e_ (fun e_ => (hk_.1.1.2) e_) (fun e_ => (hk_.2) e_)))) (fun k_ hk_ => ⟨hk_.1.1.1.1.2, hk_.1.1.1.2⟩)), Aside0.mk (Kd.R_mono (ok' := fun k_ => some k_ ≠ (.slice Ao52 t388.length co52 : Value).ownBlock ∧ some k_ ≠ (.slice Ao62 t406.length co62 : Value).ownBlock) (Kd.R_keptB ((Kd.R_apart' (Kd.R_apart' HO428.out (Kd.R_typed HO402.out) (by decide)) (Kd.R_typed HO405.out) (by decide))) hkp (fun k_ hk_ hs_ => Or.elim hs_ (fun e_ => (hk_.1.2) e_) (fun e_ => Or.elim e_ (fun e_ => (hk_.2) e_) (fun e_ => (hk_.1.1.2) e_)))) (fun k_ hk_ => ⟨hk_.1.1.1.1.2, hk_.1.1.1.2⟩)), Aside0.mk (Kd.R_mono (ok' := fun k_ => some k_ ≠ (.slice Ao53 t391.length co53 : Value).ownBlock ∧ some k_ ≠ (.slice Ao65 t410.length co65 : Value).ownBlock) (Kd.R_keptB ((Kd.R_apart' (Kd.R_apart' (Kd.R_apart' HO432.out (Kd.R_typed HO402.out) (by decide)) (Kd.R_typed HO405.out) (by decide)) (Kd.R_typed HO408.out) (by decide))) hkp (fun k_ hk_ hs_ => Or.elim hs_ (fun e_ => (hk_.1.1.2) e_) (fun e_ => Or.elim e_ (fun e_ => (hk_.1.2) e_) (fun e_ => (hk_.2) e_)))) (fun k_ hk_ => ⟨hk_.1.1.1.1.1.2, hk_.1.1.1.1.2⟩)), Aside0.mk (hb)⟩; clear BK378 HO384 HO387 HO390 HO393 HO396 HO402 HO405 HO408 BK409 HO412 HO415 HO422 HO425 HO428 HO432 HB; obtain ⟨BK378, HO384, HO387, HO390, HO393, HO396, HO402, HO405, HO408, BK409, HO412, HO415, HO422, HO425, HO428, HO432, HB⟩ := n_; (try clear hb); (try clear hkp); (try clear hy0); (try clear hy1); (try clear hy2)) | ((with_reducible refine gate_callee (f := 30) rfl ?_); refine goesL_ (some 71) rfl rfl Try.func30 (by kernel_rfl) rfl #[.slice Ao65 t410.length co65, .int .i64 t434] rfl (by (try simp only [List.map_toArray, List.map_cons, List.map_nil]); first | done | rfl | (simp only [List.length_drop, List.length_take]; rfl)) ?_; (with_reducible refine (laws_markInt64S.calls k (fun k_ => some k_ = (.slice Ao65 t410.length co65 : Value).ownBlock) (.slice Ao65 t410.length co65) t410 t434 t438 t439 w _ ?side1 ?side2 A27.out).mono ?_); (case side1 => exact zbo); (case side2 => exact Kd.R_tight rfl HO412.out); rintro e w80 ⟨rfl, hy0, hb, hkp⟩; refine ⟨_, rfl, ?_⟩; have n_ : _ ∧ _ ∧ _ ∧ _ ∧ _ ∧ _ ∧ _ ∧ _ ∧ _ ∧ _ ∧ _ ∧ _ ∧ _ ∧ _ ∧ _ ∧ _ ∧ _ := ⟨zkr BK378 hkp (fun hs_ => (fun e_ => (Kd.R_ne HO412.out BK378.out (by decide)) e_) hs_), Aside0.mk (Kd.R_mono (ok' := fun k_ => some k_ ≠ (.slice Ao60 t400.length co60 : Value).ownBlock ∧ some k_ ≠ (.slice Ao72 t420.length co72 : Value).ownBlock) (Kd.R_keptB ((Kd.R_apart' HO384.out (Kd.R_typed HO412.out) (by decide))) hkp (fun k_ hk_ hs_ => (hk_.2) hs_)) (fun k_ hk_ => ⟨hk_.1.1.1, hk_.1.1.2⟩)), Aside0.mk (Kd.R_mono (ok' := fun k_ => some k_ ≠ (.slice Ao61 t403.length co61 : Value).ownBlock ∧ some k_ ≠ (.slice Ao73 t423.length co73 : Value).ownBlock) (Kd.R_keptB ((Kd.R_apart' HO387.out (Kd.R_typed HO412.out) (by decide))) hkp (fun k_ hk_ hs_ => (hk_.2) hs_)) (fun k_ hk_ => ⟨hk_.1.1.1, hk_.1.1.2⟩)), Aside0.mk (Kd.R_mono (ok' := fun k_ => some k_ ≠ (.slice Ao62 t406.length co62 : Value).ownBlock ∧ some k_ ≠ (.slice Ao74 t426.length co74 : Value).ownBlock) (Kd.R_keptB ((Kd.R_apart' HO390.out (Kd.R_typed HO412.out) (by decide))) hkp (fun k_ hk_ hs_ => (hk_.2) hs_)) (fun k_ hk_ => ⟨hk_.1.1.1, hk_.1.1.2⟩)), Aside0.mk (Kd.R_mono (ok' := fun k_ => some k_ ≠ (.slice Ao65 t410.length co65 : Value).ownBlock ∧ some k_ ≠ (.slice Ao77 t430.length co77 : Value).ownBlock) (Kd.R_keptB (HO393.out) hkp (fun k_ hk_ hs_ => (hk_.1) hs_)) (fun k_ hk_ => ⟨hk_.1.1, hk_.1.2⟩)), Aside0.mk (Kd.R_mono (ok' := fun k_ => some k_ ≠ (.slice Ao67 t413.length co67 : Value).ownBlock) (Kd.R_keptB ((Kd.R_apart' HO396.out (Kd.R_typed HO412.out) (by decide))) hkp (fun k_ hk_ hs_ => (hk_.2) hs_)) (fun k_ hk_ => hk_.1.1)), Aside0.mk (Kd.R_mono (ok' := fun k_ => some k_ ≠ (.slice Ao50 t382.length co50 : Value).ownBlock ∧ some k_ ≠ (.slice Ao72 t420.length co72 : Value).ownBlock) (Kd.R_keptB ((Kd.R_apart' HO402.out (Kd.R_typed HO412.out) (by decide))) hkp (fun k_ hk_ hs_ => (hk_.2) hs_)) (fun k_ hk_ => ⟨hk_.1.1.1.2, hk_.1.1.2⟩)), Aside0.mk (Kd.R_mono (ok' := fun k_ => some k_ ≠ (.slice Ao51 t385.length co51 : Value).ownBlock ∧ some k_ ≠ (.slice Ao73 t423.length co73 : Value).ownBlock) (Kd.R_keptB ((Kd.R_apart' HO405.out (Kd.R_typed HO412.out) (by decide))) hkp (fun k_ hk_ hs_ => (hk_.2) hs_)) (fun k_ hk_ => ⟨hk_.1.1.1.2, hk_.1.1.2⟩)), Aside0.mk (Kd.R_mono (ok' := fun k_ => some k_ ≠ (.slice Ao52 t388.length co52 : Value).ownBlock ∧ some k_ ≠ (.slice Ao74 t426.length co74 : Value).ownBlock) (Kd.R_keptB ((Kd.R_apart' HO408.out (Kd.R_typed HO412.out) (by decide))) hkp (fun k_ hk_ hs_ => (hk_.2) hs_)) (fun k_ hk_ => ⟨hk_.1.1.1.2, hk_.1.1.2⟩)), zkr BK409 hkp (fun hs_ => (fun e_ => (Kd.R_ne HO412.out BK409.out (by decide)) e_) hs_), Aside0.mk (Kd.R_reok rfl hy0 (fun k_ e_ => HO412.out.1 k_ e_)), Aside0.mk (Kd.R_mono (ok' := fun k_ => some k_ ≠ (.slice Ao68 t394.length co68 : Value).ownBlock) (Kd.R_keptB ((Kd.R_apart' HO415.out (Kd.R_typed HO412.out) (by decide))) hkp (fun k_ hk_ hs_ => (hk_.2) hs_)) (fun k_ hk_ => hk_.1.1)), Aside0.mk (Kd.R_mono (ok' := fun k_ => some k_ ≠ (.slice Ao50 t382.length co50 : Value).ownBlock ∧ some k_ ≠ (.slice Ao60 t400.length co60 : Value).ownBlock) (Kd.R_keptB ((Kd.R_apart' HO422.out (Kd.R_typed HO412.out) (by decide))) hkp (fun k_ hk_ hs_ => (hk_.2) hs_)) (fun k_ hk_ => ⟨hk_.1.1.1, hk_.1.1.2⟩)), Aside0.mk (Kd.R_mono (ok' := fun k_ => some k_ ≠ (.slice Ao51 t385.length co51 : Value).ownBlock ∧ some k_ ≠ (.slice Ao61 t403.length co61 : Value).ownBlock) (Kd.R_keptB ((Kd.R_apart' HO425.out (Kd.R_typed HO412.out) (by decide))) hkp (fun k_ hk_ hs_ => (hk_.2) hs_)) (fun k_ hk_ => ⟨hk_.1.1.1, hk_.1.1.2⟩)), Aside0.mk (Kd.R_mono (ok' := fun k_ => some k_ ≠ (.slice Ao52 t388.length co52 : Value).ownBlock ∧ some k_ ≠ (.slice Ao62 t406.length co62 : Value).ownBlock) (Kd.R_keptB ((Kd.R_apart' HO428.out (Kd.R_typed HO412.out) (by decide))) hkp (fun k_ hk_ hs_ => (hk_.2) hs_)) (fun k_ hk_ => ⟨hk_.1.1.1, hk_.1.1.2⟩)), Aside0.mk (Kd.R_mono (ok' := fun k_ => some k_ ≠ (.slice Ao53 t391.length co53 : Value).ownBlock ∧ some k_ ≠ (.slice Ao65 t410.length co65 : Value).ownBlock) (Kd.R_keptB (HO432.out) hkp (fun k_ hk_ hs_ => (hk_.2) hs_)) (fun k_ hk_ => ⟨hk_.1.1, hk_.1.2⟩)), Aside0.mk (hb)⟩; clear BK378 HO384 HO387 HO390 HO393 HO396 HO402 HO405 HO408 BK409 HO412 HO415 HO422 HO425 HO428 HO432 HB; obtain ⟨BK378, HO384, HO387, HO390, HO393, HO396, HO402, HO405, HO408, BK409, HO412, HO415, HO422, HO425, HO428, HO432, HB⟩ := n_; (try clear hb); (try clear hkp); (try clear hy0)) | (go_at_call 26; (with_reducible refine (laws_eqPushS.calls k _ _ t413 _ _ t394 true _ ?side1 ?side2 ?side3 ?side4 A29.out).mono ?_); (case side1 => exact zrc HO415); (case side2 => exact (Kd.R_reads' HO415.out).2.1); (case side3 => exact zrc HO396); (case side4 => exact (Kd.R_reads' HO396.out).2.1); rintro e w81 ⟨rfl, hb⟩; have n_ : _ ∧ _ ∧ _ ∧ _ ∧ _ ∧ _ ∧ _ ∧ _ ∧ _ ∧ _ ∧ _ ∧ _ ∧ _ ∧ _ ∧ _ ∧ _ ∧ _ := ⟨zr HO384 hb, zr HO387 hb, zr HO390 hb, zr HO393 hb, zr HO396 hb, zr HO402 hb, zr HO405 hb, zr HO408 hb, zr HO412 hb, zr HO415 hb, zr HO422 hb, zr HO425 hb, zr HO428 hb, zr HO432 hb, zk BK378 hb, zk BK409 hb, zbs hb⟩; clear HO384 HO387 HO390 HO393 HO396 HO402 HO405 HO408 HO412 HO415 HO422 HO425 HO428 HO432 BK378 BK409 HB; obtain ⟨HO384, HO387, HO390, HO393, HO396, HO402, HO405, HO408, HO412, HO415, HO422, HO425, HO428, HO432, BK378, BK409, HB⟩ := n_; (try clear hb); (try clear hb2); (try clear hk); (try clear hi)) | ((with_reducible refine gate_callee (f := 31) rfl ?_); refine goesL_ (some 87) rfl rfl Try.func31 (by kernel_rfl) rfl #[.slice Ao67 t413.length co67, .int .i64 1] rfl (by (try simp only [List.map_toArray, List.map_cons, List.map_nil]); first | done | rfl | (simp only [List.length_drop, List.length_take]; rfl)) ?_; (with_reducible refine (laws_markPushS.calls k (fun k_ => some k_ = (.slice Ao67 t413.length co67 : Value).ownBlock) (.slice Ao67 t413.length co67) t413 1 t441 t442 w _ ?side1 ?side2 A31.out).mono ?_); (case side1 => exact zbo); (case side2 => exact Kd.R_tight rfl HO415.out); rintro e w82 ⟨rfl, hy0, hb, hkp⟩; refine ⟨_, rfl, ?_⟩; have n_ : _ ∧ _ ∧ _ ∧ _ ∧ _ ∧ _ ∧ _ ∧ _ ∧ _ ∧ _ ∧ _ ∧ _ ∧ _ ∧ _ ∧ _ ∧ _ ∧ _ := ⟨zkr BK378 hkp (fun hs_ => (fun e_ => (Kd.R_ne HO415.out BK378.out (by decide)) e_) hs_), Aside0.mk (Kd.R_mono (ok' := fun k_ => some k_ ≠ (.slice Ao60 t400.length co60 : Value).ownBlock ∧ some k_ ≠ (.slice Ao72 t420.length co72 : Value).ownBlock) (Kd.R_keptB ((Kd.R_apart' HO384.out (Kd.R_typed HO415.out) (by decide))) hkp (fun k_ hk_ hs_ => (hk_.2) hs_)) (fun k_ hk_ => ⟨hk_.1.1.1, hk_.1.1.2⟩)), Aside0.mk (Kd.R_mono (ok' := fun k_ => some k_ ≠ (.slice Ao61 t403.length co61 : Value).ownBlock ∧ some k_ ≠ (.slice Ao73 t423.length co73 : Value).ownBlock) (Kd.R_keptB ((Kd.R_apart' HO387.out (Kd.R_typed HO415.out) (by decide))) hkp (fun k_ hk_ hs_ => (hk_.2) hs_)) (fun k_ hk_ => ⟨hk_.1.1.1, hk_.1.1.2⟩)), Aside0.mk (Kd.R_mono (ok' := fun k_ => some k_ ≠ (.slice Ao62 t406.length co62 : Value).ownBlock ∧ some k_ ≠ (.slice Ao74 t426.length co74 : Value).ownBlock) (Kd.R_keptB ((Kd.R_apart' HO390.out (Kd.R_typed HO415.out) (by decide))) hkp (fun k_ hk_ hs_ => (hk_.2) hs_)) (fun k_ hk_ => ⟨hk_.1.1.1, hk_.1.1.2⟩)), Aside0.mk (Kd.R_mono (ok' := fun k_ => some k_ ≠ (.slice Ao65 t410.length co65 : Value).ownBlock ∧ some k_ ≠ (.slice Ao77 t430.length co77 : Value).ownBlock) (Kd.R_keptB ((Kd.R_apart' HO393.out (Kd.R_typed HO415.out) (by decide))) hkp (fun k_ hk_ hs_ => (hk_.2) hs_)) (fun k_ hk_ => ⟨hk_.1.1.1, hk_.1.1.2⟩)), Aside0.mk (Kd.R_mono (ok' := fun k_ => some k_ ≠ (.slice Ao67 t413.length co67 : Value).ownBlock) (Kd.R_keptB (HO396.out) hkp (fun k_ hk_ hs_ => (hk_) hs_)) (fun k_ hk_ => hk_.1)), Aside0.mk (Kd.R_mono (ok' := fun k_ => some k_ ≠ (.slice Ao50 t382.length co50 : Value).ownBlock ∧ some k_ ≠ (.slice Ao72 t420.length co72 : Value).ownBlock) (Kd.R_keptB ((Kd.R_apart' HO402.out (Kd.R_typed HO415.out) (by decide))) hkp (fun k_ hk_ hs_ => (hk_.2) hs_)) (fun k_ hk_ => ⟨hk_.1.1.1, hk_.1.1.2⟩)), Aside0.mk (Kd.R_mono (ok' := fun k_ => some k_ ≠ (.slice Ao51 t385.length co51 : Value).ownBlock ∧ some k_ ≠ (.slice Ao73 t423.length co73 : Value).ownBlock) (Kd.R_keptB ((Kd.R_apart' HO405.out (Kd.R_typed HO415.out) (by decide))) hkp (fun k_ hk_ hs_ => (hk_.2) hs_)) (fun k_ hk_ => ⟨hk_.1.1.1, hk_.1.1.2⟩)), Aside0.mk (Kd.R_mono (ok' := fun k_ => some k_ ≠ (.slice Ao52 t388.length co52 : Value).ownBlock ∧ some k_ ≠ (.slice Ao74 t426.length co74 : Value).ownBlock) (Kd.R_keptB ((Kd.R_apart' HO408.out (Kd.R_typed HO415.out) (by decide))) hkp (fun k_ hk_ hs_ => (hk_.2) hs_)) (fun k_ hk_ => ⟨hk_.1.1.1, hk_.1.1.2⟩)), zkr BK409 hkp (fun hs_ => (fun e_ => (Kd.R_ne HO415.out BK409.out (by decide)) e_) hs_), Aside0.mk (Kd.R_mono (ok' := fun k_ => some k_ ≠ (.slice Ao53 t391.length co53 : Value).ownBlock ∧ some k_ ≠ (.slice Ao77 t430.length co77 : Value).ownBlock) (Kd.R_keptB ((Kd.R_apart' HO412.out (Kd.R_typed HO415.out) (by decide))) hkp (fun k_ hk_ hs_ => (hk_.2) hs_)) (fun k_ hk_ => ⟨hk_.1.1.1, hk_.1.1.2⟩)), Aside0.mk (Kd.R_reok rfl hy0 (fun k_ e_ => HO415.out.1 k_ e_)), Aside0.mk (Kd.R_mono (ok' := fun k_ => some k_ ≠ (.slice Ao50 t382.length co50 : Value).ownBlock ∧ some k_ ≠ (.slice Ao60 t400.length co60 : Value).ownBlock) (Kd.R_keptB ((Kd.R_apart' HO422.out (Kd.R_typed HO415.out) (by decide))) hkp (fun k_ hk_ hs_ => (hk_.2) hs_)) (fun k_ hk_ => ⟨hk_.1.1.1, hk_.1.1.2⟩)), Aside0.mk (Kd.R_mono (ok' := fun k_ => some k_ ≠ (.slice Ao51 t385.length co51 : Value).ownBlock ∧ some k_ ≠ (.slice Ao61 t403.length co61 : Value).ownBlock) (Kd.R_keptB ((Kd.R_apart' HO425.out (Kd.R_typed HO415.out) (by decide))) hkp (fun k_ hk_ hs_ => (hk_.2) hs_)) (fun k_ hk_ => ⟨hk_.1.1.1, hk_.1.1.2⟩)), Aside0.mk (Kd.R_mono (ok' := fun k_ => some k_ ≠ (.slice Ao52 t388.length co52 : Value).ownBlock ∧ some k_ ≠ (.slice Ao62 t406.length co62 : Value).ownBlock) (Kd.R_keptB ((Kd.R_apart' HO428.out (Kd.R_typed HO415.out) (by decide))) hkp (fun k_ hk_ hs_ => (hk_.2) hs_)) (fun k_ hk_ => ⟨hk_.1.1.1, hk_.1.1.2⟩)), Aside0.mk (Kd.R_mono (ok' := fun k_ => some k_ ≠ (.slice Ao53 t391.length co53 : Value).ownBlock ∧ some k_ ≠ (.slice Ao65 t410.length co65 : Value).ownBlock) (Kd.R_keptB ((Kd.R_apart' HO432.out (Kd.R_typed HO415.out) (by decide))) hkp (fun k_ hk_ hs_ => (hk_.2) hs_)) (fun k_ hk_ => ⟨hk_.1.1.1, hk_.1.1.2⟩)), Aside0.mk (hb)⟩; clear BK378 HO384 HO387 HO390 HO393 HO396 HO402 HO405 HO408 BK409 HO412 HO415 HO422 HO425 HO428 HO432 HB; obtain ⟨BK378, HO384, HO387, HO390, HO393, HO396, HO402, HO405, HO408, BK409, HO412, HO415, HO422, HO425, HO428, HO432, HB⟩ := n_; (try clear hb); (try clear hkp); (try clear hy0)) | ((with_reducible refine gate_callee (f := 32) rfl ?_); refine goesL_ (some 90) rfl rfl Try.func32 (by kernel_rfl) rfl #[.slice Ao67 t442.length co67, .int .i64 1] rfl (by (try simp only [List.map_toArray, List.map_cons, List.map_nil]); first | done | (rw [show t442.length = t413.length from (Kd.R_reads' HO415.out).1.symm] <;> rfl) | rfl | (simp only [List.length_drop, List.length_take]; rfl)) ?_; (with_reducible refine (laws_heldPushS.calls k _ _ t442 1 t443 _ ?side1 ?side2 A32.out).mono ?_); (case side1 => exact zrc HO415); (case side2 => rw [show t442.length = t413.length from (Kd.R_reads' HO415.out).1.symm]; exact (Kd.R_reads' HO415.out).2.1); rintro e w' ⟨rfl, ⟨nd, rfl⟩⟩; refine ⟨_, rfl, ?_⟩; obtain ⟨z83_0, z83_1, z83_2, z83_3, z83_4, y83_0, y83_1, y83_2, y83_3, y83_4⟩ := zB5 BK378) | ((with_reducible refine gate_callee (f := 23) rfl ?_); refine goesL_ (some 98) rfl rfl Try.func23 (by kernel_rfl) rfl #[.agg #[.int .i8 a0_0, .int .i8 a0_1, .slice A0_2 l0_2.length c0_2, .slice A0_3 l0_3.length c0_3, .slice A0_4 l0_4.length c0_4]] rfl (by (try simp only [List.map_toArray, List.map_cons, List.map_nil]); first | done | rfl | (simp only [List.length_drop, List.length_take]; rfl)) ?_; (with_reducible refine (laws_toMachine.calls k a0_0 a0_1 _ _ l0_2 _ _ l0_3 _ _ l0_4 t444 t445 t446 t449 t452 _ ?side1 ?side2 ?side3 ?side4 ?side5 ?side6 A35.out).mono ?_); (case side1 => repeat (first | exact (Kd.C_below HR0_2.out (by repeat (first | (with_reducible first | exact HB.out | apply below_alloc | apply pw_below_drewN | apply below_drew1 | refine below_set ?_ GE378.out | refine below_set ?_ GE409.out) | exact HB.out))) | (with_reducible refine Kd.C_alloc ?_ _) | (with_reducible refine Kd.C_drewN ?_ _) | (with_reducible refine Kd.C_drew ?_))); (case side2 => exact HC0_2.out); (case side3 => repeat (first | exact (Kd.C_below HR0_3.out (by repeat (first | (with_reducible first | exact HB.out | apply below_alloc | apply pw_below_drewN | apply below_drew1 | refine below_set ?_ GE378.out | refine below_set ?_ GE409.out) | exact HB.out))) | (with_reducible refine Kd.C_alloc ?_ _) | (with_reducible refine Kd.C_drewN ?_ _) | (with_reducible refine Kd.C_drew ?_))); (case side4 => exact HC0_3.out); (case side5 => repeat (first | exact (Kd.C_below HR0_4.out (by repeat (first | (with_reducible first | exact HB.out | apply below_alloc | apply pw_below_drewN | apply below_drew1 | refine below_set ?_ GE378.out | refine below_set ?_ GE409.out) | exact HB.out))) | (with_reducible refine Kd.C_alloc ?_ _) | (with_reducible refine Kd.C_drewN ?_ _) | (with_reducible refine Kd.C_drew ?_))); (case side6 => exact HC0_4.out); rintro e w84 ⟨v447, v450, v453, rfl, ho0, ho1, ho2, hb⟩; refine ⟨_, rfl, ?_⟩; have n_ : _ ∧ _ ∧ _ ∧ _ ∧ _ ∧ _ ∧ _ ∧ _ ∧ _ ∧ _ ∧ _ ∧ _ ∧ _ ∧ _ ∧ _ ∧ _ ∧ _ ∧ _ ∧ _ ∧ _ := ⟨Aside0.mk (Kd.R_elder' (ze HO384).out (Kd.R_base ho0) hb), Aside0.mk (Kd.R_elder' (ze HO387).out (Kd.R_base ho1) hb), Aside0.mk (Kd.R_elder' (ze HO390).out (Kd.R_base ho2) hb), zr HO393 hb, zr HO396 hb, Aside0.mk (Kd.R_elder' (ze HO402).out (Kd.R_base ho0) hb), Aside0.mk (Kd.R_elder' (ze HO405).out (Kd.R_base ho1) hb), Aside0.mk (Kd.R_elder' (ze HO408).out (Kd.R_base ho2) hb), zr HO412 hb, zr HO415 hb, Aside0.mk (Kd.R_elder' (ze HO422).out (Kd.R_base ho0) hb), Aside0.mk (Kd.R_elder' (ze HO425).out (Kd.R_base ho1) hb), Aside0.mk (Kd.R_elder' (ze HO428).out (Kd.R_base ho2) hb), zr HO432 hb, Aside0.mk (Kd.R_lower (Kd.R_new' (Kd.R_new' (Kd.R_new' ho0 (Kd.R_lt (ze HO384).out)) (Kd.R_lt (ze HO402).out)) (Kd.R_lt (ze HO422).out)) (zz HB)), Aside0.mk (Kd.R_lower (Kd.R_new' (Kd.R_new' (Kd.R_new' ho1 (Kd.R_lt (ze HO387).out)) (Kd.R_lt (ze HO405).out)) (Kd.R_lt (ze HO425).out)) (zz HB)), Aside0.mk (Kd.R_lower (Kd.R_new' (Kd.R_new' (Kd.R_new' ho2 (Kd.R_lt (ze HO390).out)) (Kd.R_lt (ze HO408).out)) (Kd.R_lt (ze HO428).out)) (zz HB)), zk BK378 hb, zk BK409 hb, zbs hb⟩; clear HO384 HO387 HO390 HO393 HO396 HO402 HO405 HO408 HO412 HO415 HO422 HO425 HO428 HO432 BK378 BK409 HB; obtain ⟨HO384, HO387, HO390, HO393, HO396, HO402, HO405, HO408, HO412, HO415, HO422, HO425, HO428, HO432, HO448, HO451, HO454, BK378, BK409, HB⟩ := n_; (try clear hb); (try clear hb2); (try clear hk); (try clear hi); (try clear ho0); (try clear ho1); (try clear ho2)) | ((with_reducible refine gate_callee (f := 24) rfl ?_); refine goesL_ (some 101) rfl rfl Try.func24 (by kernel_rfl) rfl #[.slice A2 l2.length c2] rfl (by (try simp only [List.map_toArray, List.map_cons, List.map_nil]); first | done | rfl | (simp only [List.length_drop, List.length_take]; rfl)) ?_; (with_reducible refine (laws_toInt64S.calls k _ _ l2 t455 _ ?side1 ?side2 A36.out).mono ?_); (case side1 => exact zcc HB HR2.out); (case side2 => exact HC2.out); rintro e w85 ⟨v456, rfl, ho0, hb⟩; refine ⟨_, rfl, ?_⟩; have n_ : _ ∧ _ ∧ _ ∧ _ ∧ _ ∧ _ ∧ _ ∧ _ ∧ _ ∧ _ ∧ _ ∧ _ ∧ _ ∧ _ ∧ _ ∧ _ ∧ _ ∧ _ ∧ _ ∧ _ ∧ _ := ⟨zr HO384 hb, zr HO387 hb, zr HO390 hb, Aside0.mk (Kd.R_elder' (ze HO393).out (Kd.R_base ho0) hb), zr HO396 hb, zr HO402 hb, zr HO405 hb, zr HO408 hb, Aside0.mk (Kd.R_elder' (ze HO412).out (Kd.R_base ho0) hb), zr HO415 hb, zr HO422 hb, zr HO425 hb, zr HO428 hb, Aside0.mk (Kd.R_elder' (ze HO432).out (Kd.R_base ho0) hb), zr HO448 hb, zr HO451 hb, zr HO454 hb, Aside0.mk (Kd.R_lower (Kd.R_new' (Kd.R_new' (Kd.R_new' ho0 (Kd.R_lt (ze HO393).out)) (Kd.R_lt (ze HO412).out)) (Kd.R_lt (ze HO432).out)) (zz HB)), zk BK378 hb, zk BK409 hb, zbs hb⟩; clear HO384 HO387 HO390 HO393 HO396 HO402 HO405 HO408 HO412 HO415 HO422 HO425 HO428 HO432 HO448 HO451 HO454 BK378 BK409 HB; obtain ⟨HO384, HO387, HO390, HO393, HO396, HO402, HO405, HO408, HO412, HO415, HO422, HO425, HO428, HO432, HO448, HO451, HO454, HO457, BK378, BK409, HB⟩ := n_; (try clear hb); (try clear hb2); (try clear hk); (try clear hi); (try clear ho0); obtain ⟨Ao86, co86, eo86⟩ := Kd.R_slice HO448.out; subst eo86; obtain ⟨Ao87, co87, eo87⟩ := Kd.R_slice HO451.out; subst eo87; obtain ⟨Ao88, co88, eo88⟩ := Kd.R_slice HO454.out; subst eo88; obtain ⟨Ao89, co89, eo89⟩ := Kd.R_slice HO457.out; subst eo89) | ((with_reducible refine gate_callee (f := 25) rfl ?_); refine goesL_ (some 102) rfl rfl Try.func25 (by kernel_rfl) rfl #[.agg #[.int .i8 t444, .int .i8 t445, .slice Ao86 t446.length co86, .slice Ao87 t449.length co87, .slice Ao88 t452.length co88], .int .i64 a1, .slice Ao89 t455.length co89] rfl (by (try simp only [List.map_toArray, List.map_cons, List.map_nil]); first | done | rfl | (simp only [List.length_drop, List.length_take]; rfl)) ?_; (with_reducible refine (impl_PushesFor.calls k t444 t445 _ _ t446 _ _ t449 _ _ t452 a1 _ _ t455 t458 t461 _ ?side1 ?side2 ?side3 ?side4 ?side5 ?side6 ?side7 ?side8 A37.out).mono ?_); (case side1 => exact zrc HO448); (case side2 => exact (Kd.R_reads' HO448.out).2.1); (case side3 => exact zrc HO451); (case side4 => exact (Kd.R_reads' HO451.out).2.1); (case side5 => exact zrc HO454); (case side6 => exact (Kd.R_reads' HO454.out).2.1); (case side7 => exact zrc HO457); (case side8 => exact (Kd.R_reads' HO457.out).2.1); rintro e w90 ⟨v459, rfl, ho0, hb⟩; refine ⟨_, rfl, ?_⟩; have n_ : _ ∧ _ ∧ _ ∧ _ ∧ _ ∧ _ ∧ _ ∧ _ ∧ _ ∧ _ ∧ _ ∧ _ ∧ _ ∧ _ ∧ _ ∧ _ ∧ _ ∧ _ ∧ _ ∧ _ ∧ _ ∧ _ := ⟨zr HO384 hb, zr HO387 hb, zr HO390 hb, zr HO393 hb, Aside0.mk (Kd.R_elder' (ze HO396).out (Kd.R_base ho0) hb), zr HO402 hb, zr HO405 hb, zr HO408 hb, zr HO412 hb, Aside0.mk (Kd.R_elder' (ze HO415).out (Kd.R_base ho0) hb), zr HO422 hb, zr HO425 hb, zr HO428 hb, zr HO432 hb, zr HO448 hb, zr HO451 hb, zr HO454 hb, zr HO457 hb, Aside0.mk (Kd.R_lower (Kd.R_new' (Kd.R_new' ho0 (Kd.R_lt (ze HO396).out)) (Kd.R_lt (ze HO415).out)) (zz HB)), zk BK378 hb, zk BK409 hb, zbs hb⟩; clear HO384 HO387 HO390 HO393 HO396 HO402 HO405 HO408 HO412 HO415 HO422 HO425 HO428 HO432 HO448 HO451 HO454 HO457 BK378 BK409 HB; obtain ⟨HO384, HO387, HO390, HO393, HO396, HO402, HO405, HO408, HO412, HO415, HO422, HO425, HO428, HO432, HO448, HO451, HO454, HO457, HO460, BK378, BK409, HB⟩ := n_; (try clear hb); (try clear hb2); (try clear hk); (try clear hi); (try clear ho0); obtain ⟨Ao91, co91, eo91⟩ := Kd.R_slice HO460.out; subst eo91) | ((with_reducible refine gate_callee (f := 26) rfl ?_); refine goesL_ (some 107) rfl rfl Try.func26 (by kernel_rfl) rfl #[.slice Ao91 t458.length co91, .slice Ao68 t394.length co68] rfl (by (try simp only [List.map_toArray, List.map_cons, List.map_nil]); first | done | rfl | (simp only [List.length_drop, List.length_take]; rfl)) ?_; (with_reducible refine (laws_eqPushS.calls k _ _ t458 _ _ t394 true _ ?side1 ?side2 ?side3 ?side4 A38.out).mono ?_); (case side1 => exact zrc HO460); (case side2 => exact (Kd.R_reads' HO460.out).2.1); (case side3 => exact zrc HO396); (case side4 => exact (Kd.R_reads' HO396.out).2.1); rintro e w92 ⟨rfl, hb⟩; refine ⟨_, rfl, ?_⟩; have n_ : _ ∧ _ ∧ _ ∧ _ ∧ _ ∧ _ ∧ _ ∧ _ ∧ _ ∧ _ ∧ _ ∧ _ ∧ _ ∧ _ ∧ _ ∧ _ ∧ _ ∧ _ ∧ _ ∧ _ ∧ _ ∧ _ := ⟨zr HO384 hb, zr HO387 hb, zr HO390 hb, zr HO393 hb, zr HO396 hb, zr HO402 hb, zr HO405 hb, zr HO408 hb, zr HO412 hb, zr HO415 hb, zr HO422 hb, zr HO425 hb, zr HO428 hb, zr HO432 hb, zr HO448 hb, zr HO451 hb, zr HO454 hb, zr HO457 hb, zr HO460 hb, zk BK378 hb, zk BK409 hb, zbs hb⟩; clear HO384 HO387 HO390 HO393 HO396 HO402 HO405 HO408 HO412 HO415 HO422 HO425 HO428 HO432 HO448 HO451 HO454 HO457 HO460 BK378 BK409 HB; obtain ⟨HO384, HO387, HO390, HO393, HO396, HO402, HO405, HO408, HO412, HO415, HO422, HO425, HO428, HO432, HO448, HO451, HO454, HO457, HO460, BK378, BK409, HB⟩ := n_; (try clear hb); (try clear hb2); (try clear hk); (try clear hi)) | ((with_reducible refine gate_callee (f := 32) rfl ?_); refine goesL_ (some 116) rfl rfl Try.func32 (by kernel_rfl) rfl #[.slice Ao67 t442.length co67, .int .i64 1] rfl (by (try simp only [List.map_toArray, List.map_cons, List.map_nil]); first | done | (rw [show t442.length = t413.length from (Kd.R_reads' HO415.out).1.symm] <;> rfl) | rfl | (simp only [List.length_drop, List.length_take]; rfl)) ?_; (with_reducible refine (laws_heldPushS.calls k _ _ t442 1 t463 _ ?side1 ?side2 A41.out).mono ?_); (case side1 => exact zrc HO415); (case side2 => rw [show t442.length = t413.length from (Kd.R_reads' HO415.out).1.symm]; exact (Kd.R_reads' HO415.out).2.1); rintro e w' ⟨rfl, ⟨nd, rfl⟩⟩; refine ⟨_, rfl, ?_⟩))
 go_ret
 exact ⟨by first | rfl | (simp [errW_none, errW_some] <;> rfl) | (simp [*, errW_none, errW_some] <;> rfl), by repeat (first | (with_reducible first | exact HB.out | apply below_alloc | apply pw_below_drewN | apply below_drew1 | refine below_set ?_ GE378.out | refine below_set ?_ GE409.out) | exact HB.out)⟩
end Go.Proofs.Ytffnfpnajkgnaaa.PFnExactPushesFor
