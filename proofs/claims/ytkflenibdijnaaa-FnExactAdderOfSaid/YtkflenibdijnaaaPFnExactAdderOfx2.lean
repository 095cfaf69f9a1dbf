-- WRITTEN by xprint.py, a program of this session's. Not trusted: Lean checks it.
-- packed by pack.py
import Derived.Test.YtkflenibdijnaaaPFnExactAdderOfx0
import Derived.Test.YtkflenibdijnaaaPFnExactAdderOfx1
import Derived.Test.YtkflenibdijnaaaTFnExactAdderOfa
namespace Go.Proofs.Ytkflenibdijnaaa.PFnExactAdderOf
open Go.RowKit Go.Proofs.YtkflenibdijnaaaW.PrintWords Go.Proofs.YtkflenibdijnaaaW.PrintLast Go.Proofs.YtkflenibdijnaaaW.PrintMore Go.Proofs.YtkflenibdijnaaaX
attribute [local go_sem] max2_int min2_int max_two min_two max_three min_three max_four min_four   -- for this text's walks alone
set_option maxHeartbeats 8000000
set_option maxRecDepth 100000
set_option linter.unusedVariables false
set_option linter.unusedSimpArgs false

def impl_inputTable.l0 : Nat → Int → Int → Int → Int → Option (Int)
  | 0, _, _, _, _ => none
  | k + 1, x1, x5, x8, x9 => if x9 < x8 then ((impl_bit_int64.f x9 x1).bind fun t127 => (if t127 = true then (if 0 ≤ x9 then (impl_inputTable.l0 k x1 (Go.bits .or .u64 x5 (shl .u64 1 x9)) x8 (wrap64 (x9 + 1))) else (none)) else (impl_inputTable.l0 k x1 x5 x8 (wrap64 (x9 + 1))))) else (some x5)
def impl_inputTable.f (k : Nat) (a0 : Int) (a1 : Int) : Option (Int) := (impl_rows.f a0).bind fun t126 => (impl_inputTable.l0 k a1 0 t126 0)
theorem impl_inputTable.mono_l : ∀ k, (∀ y0 y1 y2 y3, LeO (impl_inputTable.l0 k y0 y1 y2 y3) (impl_inputTable.l0 (k + 1) y0 y1 y2 y3))
  | 0 => fun _ _ _ _ r h => by simp [impl_inputTable.l0] at h
  | k + 1 => by
    have ih0 := impl_inputTable.mono_l k
    · intro y0 y1 y2 y3
      unfold impl_inputTable.l0
      repeat' first | (with_reducible first | apply ih0 | exact LeO.refl _ | exact LeO.none _ | refine LeO.ite ?_ ?_ | refine LeO.bind ?_ (fun _ => ?_)) | apply ih0 | exact LeO.none _ | refine LeO.ite ?_ ?_ | refine LeO.bind ?_ (fun _ => ?_)
theorem impl_inputTable.mono : ∀ a0 a1 k, LeO (impl_inputTable.f k a0 a1) (impl_inputTable.f (k + 1) a0 a1) := by
 intro a0 a1 k
 have ih0 := impl_inputTable.mono_l k
 unfold impl_inputTable.f
 repeat' first | (with_reducible first | apply ih0 | exact LeO.refl _ | exact LeO.none _ | refine LeO.ite ?_ ?_ | refine LeO.bind ?_ (fun _ => ?_)) | apply ih0 | exact LeO.none _ | refine LeO.ite ?_ ?_ | refine LeO.bind ?_ (fun _ => ?_)
theorem impl_inputTable.calls (k : Nat) (a0 : Int) (a1 : Int) (r : Int) (w : World) (h : impl_inputTable.f k a0 a1 = some r) :
    Calls Try.prog 58 #[.int .i64 a0, .int .i64 a1] w fun e w' => e = .returned (.int .u64 r) ∧ Drawn0 w w' := by
 have H : ((impl_rows.f a0).bind fun t126 => (impl_inputTable.l0 k a1 0 t126 0)) = some r := h
 clear h
 replace H := zob H
 obtain ⟨t126, A30, H⟩ := H
 replace H : (impl_inputTable.l0 k a1 0 t126 0) = some r := H
 have A3 := Aside0.mk A30
 clear A30
 have H' := Aside0.mk H
 clear H
 go_enter Try.func58, Try.ntmps58
 go_wp2_with (first | ((with_reducible refine gate_callee (f := 30) rfl ?_); refine goesL_ (some 8) rfl rfl Try.func30 (by kernel_rfl) rfl #[.int .i64 a0] rfl zm ?_; (with_reducible refine (impl_rows.calls a0 t126 _ A3.out).mono ?_); rintro e w' ⟨rfl, ⟨nd, rfl⟩⟩; refine ⟨_, rfl, ?_⟩))
 go_loopg [5, 9] k (fun kq v5 v9 w' => ∃ (x5_1 : Int) (x9_1 : Int), v5 = .int .u64 x5_1 ∧ v9 = .int .i64 x9_1 ∧ Aside0 (impl_inputTable.l0 kq a1 x5_1 t126 x9_1 = some r) ∧ Aside0 (kq ≤ k) ∧ Drawn0 w w')
 case atStart => exact ⟨(0), (0), zi, zi, H', ⟨Nat.le_refl _⟩, zdr⟩
 clear H'
 try clear p2
 try clear c3
 obtain ⟨x5_1, x9_1, rfl, rfl, HA, HK1, ⟨m1, rfl⟩⟩ := hrel
 cases gk with
 | zero => exact absurd HA.out (by simp [impl_inputTable.l0])
 | succ k1 => ?_
 have H := HA.out
 clear HA
 simp only [impl_inputTable.l0] at H
 by_cases c4 : x9_1 < t126
 rotate_left
 ·rw [if_neg c4] at H
  have c4b0 : decide (x9_1 < t126) = false := decide_eq_false c4
  clear c4
  obtain rfl := Option.some.inj H
  go_wp2
  go_ret
  exact ⟨zi, zdr⟩
 rw [if_pos c4] at H
 have c4b0 : decide (x9_1 < t126) = true := decide_eq_true c4
 clear c4
 replace H := zob H
 obtain ⟨t127, A50, H⟩ := H
 replace H : (if t127 = true then (if 0 ≤ x9_1 then (impl_inputTable.l0 k1 a1 (Go.bits .or .u64 x5_1 (shl .u64 1 x9_1)) t126 (wrap64 (x9_1 + 1))) else (none)) else (impl_inputTable.l0 k1 a1 x5_1 t126 (wrap64 (x9_1 + 1)))) = some r := H
 have A5 := Aside0.mk A50
 clear A50
 by_cases c6 : t127 = true
 rotate_left
 ·replace c6 := Bool.eq_false_iff.mpr c6
  subst c6
  have H1 : (impl_inputTable.l0 k1 a1 x5_1 t126 (wrap64 (x9_1 + 1))) = some r := by rw [if_neg (show ¬ (false = true) by decide)] at H; exact H
  clear H
  have H := H1
  clear H1
  have H' := Aside0.mk H
  clear H
  go_wp2_with (first | ((with_reducible refine gate_callee (f := 63) rfl ?_); refine goesL_ (some 14) rfl rfl Try.func63 (by kernel_rfl) rfl #[.int .i64 x9_1, .int .i64 a1] rfl zm ?_; (with_reducible refine (impl_bit_int64.calls x9_1 a1 false _ A5.out).mono ?_); rintro e w' ⟨rfl, ⟨nd, rfl⟩⟩; refine ⟨_, rfl, ?_⟩))
  go_roundg k1
  case measure => have := HK1.out; omega
  case rel => exact ⟨(x5_1), (wrap64 (x9_1 + 1)), zi, zi, H', ⟨by have := HK1.out; omega⟩, zdr⟩
 subst c6
 have H1 : (if 0 ≤ x9_1 then (impl_inputTable.l0 k1 a1 (Go.bits .or .u64 x5_1 (shl .u64 1 x9_1)) t126 (wrap64 (x9_1 + 1))) else (none)) = some r := by rw [if_pos rfl] at H; exact H
 clear H
 have H := H1
 clear H1
 by_cases c7 : 0 ≤ x9_1
 rotate_left
 ·rw [if_neg c7] at H
  exact absurd H (by simp)
 rw [if_pos c7] at H
 have c7b0 := eq_true c7
 have c7b1 : decide (0 ≤ x9_1) = true := decide_eq_true c7
 clear c7
 obtain ⟨ji8, hji8⟩ : ∃ j_ : Int, (shl .u64 1 x9_1) = j_ := ⟨_, rfl⟩
 replace H : (impl_inputTable.l0 k1 a1 (Go.bits .or .u64 x5_1 (ji8)) t126 (wrap64 (x9_1 + 1))) = some r := by first | (rw [hji8] at H; exact H) | (simp only [hji8] at H ⊢; exact H)
 (try rw [hji8] at A5)
 have hji8_ : (IntKind.u64.wrap (1 * 2 ^ min x9_1.toNat 64)) = ji8 := hji8
 have hji8z : x9_1 ≤ 64 → (IntKind.u64.wrap (1 * 2 ^ x9_1.toNat)) = ji8 := shl_small hji8
 have hji8u : (IntKind.u64.wrap (2 ^ min x9_1.toNat 64)) = ji8 := by have h_ := hji8_; rw [Int.one_mul] at h_; exact h_
 have hji8v : x9_1 ≤ 64 → (IntKind.u64.wrap (2 ^ x9_1.toNat)) = ji8 := fun hle_ => by have h_ := hji8z hle_; rw [Int.one_mul] at h_; exact h_
 have H' := Aside0.mk H
 clear H
 go_wp2_with (first | ((with_reducible refine gate_callee (f := 63) rfl ?_); refine goesL_ (some 14) rfl rfl Try.func63 (by kernel_rfl) rfl #[.int .i64 x9_1, .int .i64 a1] rfl zm ?_; (with_reducible refine (impl_bit_int64.calls x9_1 a1 true _ A5.out).mono ?_); rintro e w' ⟨rfl, ⟨nd, rfl⟩⟩; refine ⟨_, rfl, ?_⟩))
 go_roundg k1
 case measure => have := HK1.out; omega
 case rel => exact ⟨(Go.bits .or .u64 x5_1 (ji8)), (wrap64 (x9_1 + 1)), (by first | rfl | (simp; done) | (simp only [← hji8] <;> (first | rfl | simp)) | (simp [*]; done) | (exact congrArg (Value.int .i64) (wrap_eq (by omega)))), zi, H', ⟨by have := HK1.out; omega⟩, zdr⟩
def impl_full.f (a0 : Int) : Option (Int) := if a0 = 6 then (some 18446744073709551615) else ((impl_rows.f a0).bind fun t128 => (if 0 ≤ t128 then (some (IntKind.u64.wrap ((shl .u64 1 t128) - 1))) else (none)))
theorem impl_full.calls (a0 : Int) (r : Int) (w : World) (h : impl_full.f a0 = some r) :
    Calls Try.prog 59 #[.int .i64 a0] w fun e w' => e = .returned (.int .u64 r) ∧ Drawn0 w w' := by
 have H : (if a0 = 6 then (some 18446744073709551615) else ((impl_rows.f a0).bind fun t128 => (if 0 ≤ t128 then (some (IntKind.u64.wrap ((shl .u64 1 t128) - 1))) else (none)))) = some r := h
 clear h
 by_cases c2 : a0 = 6
 ·rw [if_pos c2] at H
  have c2b0 : (a0 == 6) = true := beq_iff_eq.mpr c2
  have c2b1 : (a0 != 6) = false := bne_eq_false_iff_eq.mpr c2
  clear c2
  obtain rfl := Option.some.inj H
  go_enter Try.func59, Try.ntmps59
  go_wp2
  go_ret
  exact ⟨zi, zdr⟩
 rw [if_neg c2] at H
 have c2b0 : (a0 == 6) = false := beq_eq_false_iff_ne.mpr c2
 have c2b1 : (a0 != 6) = true := bne_iff_ne.mpr c2
 replace H := zob H
 obtain ⟨t128, A30, H⟩ := H
 replace H : (if 0 ≤ t128 then (some (IntKind.u64.wrap ((shl .u64 1 t128) - 1))) else (none)) = some r := H
 have A3 := Aside0.mk A30
 clear A30
 by_cases c4 : 0 ≤ t128
 rotate_left
 ·rw [if_neg c4] at H
  exact absurd H (by simp)
 rw [if_pos c4] at H
 have c4b0 := eq_true c4
 have c4b1 : decide (0 ≤ t128) = true := decide_eq_true c4
 clear c4
 obtain ⟨ji5, hji5⟩ : ∃ j_ : Int, (shl .u64 1 t128) = j_ := ⟨_, rfl⟩
 replace H : (some (IntKind.u64.wrap ((ji5) - 1))) = some r := by first | (rw [hji5] at H; exact H) | (simp only [hji5] at H ⊢; exact H)
 (try rw [hji5] at A3)
 have hji5_ : (IntKind.u64.wrap (1 * 2 ^ min t128.toNat 64)) = ji5 := hji5
 have hji5z : t128 ≤ 64 → (IntKind.u64.wrap (1 * 2 ^ t128.toNat)) = ji5 := shl_small hji5
 have hji5u : (IntKind.u64.wrap (2 ^ min t128.toNat 64)) = ji5 := by have h_ := hji5_; rw [Int.one_mul] at h_; exact h_
 have hji5v : t128 ≤ 64 → (IntKind.u64.wrap (2 ^ t128.toNat)) = ji5 := fun hle_ => by have h_ := hji5z hle_; rw [Int.one_mul] at h_; exact h_
 obtain rfl := Option.some.inj H
 go_enter Try.func59, Try.ntmps59
 go_wp2_with (first | ((with_reducible refine gate_callee (f := 30) rfl ?_); refine goesL_ (some 6) rfl rfl Try.func30 (by kernel_rfl) rfl #[.int .i64 a0] rfl zm ?_; (with_reducible refine (impl_rows.calls a0 t128 _ A3.out).mono ?_); rintro e w' ⟨rfl, ⟨nd, rfl⟩⟩; refine ⟨_, rfl, ?_⟩))
 go_ret
 exact ⟨by first | rfl | (simp; done) | (simp only [← hji5] <;> (first | rfl | simp)) | (simp [*]; done) | (exact congrArg (Value.int .i64) (wrap_eq (by omega))), zdr⟩
end Go.Proofs.Ytkflenibdijnaaa.PFnExactAdderOf
