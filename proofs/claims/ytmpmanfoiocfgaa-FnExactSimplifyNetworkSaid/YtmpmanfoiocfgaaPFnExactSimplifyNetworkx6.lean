-- WRITTEN by xprint.py, a program of this session's. Not trusted: Lean checks it.
-- packed by pack.py
import Derived.Test.YtmpmanfoiocfgaaPFnExactSimplifyNetworkx0
import Derived.Test.YtmpmanfoiocfgaaTFnExactSimplifyNetworka
namespace Go.Proofs.Ytmpmanfoiocfgaa.PFnExactSimplifyNetwork
open Go.RowKit Go.Proofs.YtmpmanfoiocfgaaW.PrintWords Go.Proofs.YtmpmanfoiocfgaaW.PrintLast Go.Proofs.YtmpmanfoiocfgaaW.PrintMore Go.Proofs.YtmpmanfoiocfgaaX
attribute [local go_sem] max2_int min2_int max_two min_two max_three min_three max_four min_four   -- for this text's walks alone
set_option maxHeartbeats 8000000
set_option maxRecDepth 100000
set_option linter.unusedVariables false
set_option linter.unusedSimpArgs false

def spec_l04Rows.f (a0 : Int) : Option (Int) := if 0 ≤ (IntKind.u64.wrap (a0)) then (some (shl .i64 1 (IntKind.u64.wrap (a0)))) else (none)
theorem spec_l04Rows.calls (a0 : Int) (r : Int) (w : World) (h : spec_l04Rows.f a0 = some r) :
    Calls Try.prog 90 #[.int .i64 a0] w fun e w' => e = .returned (.int .i64 r) ∧ Drawn0 w w' := by
 have H : (if 0 ≤ (IntKind.u64.wrap (a0)) then (some (shl .i64 1 (IntKind.u64.wrap (a0)))) else (none)) = some r := h
 clear h
 obtain ⟨ji2, hji2⟩ : ∃ j_ : Int, (IntKind.u64.wrap (a0)) = j_ := ⟨_, rfl⟩
 replace H : (if 0 ≤ (ji2) then (some (shl .i64 1 (ji2))) else (none)) = some r := by first | (rw [hji2] at H; exact H) | (simp only [hji2] at H ⊢; exact H)
 by_cases c3 : 0 ≤ (ji2)
 rotate_left
 ·rw [if_neg c3] at H
  exact absurd H (by simp)
 rw [if_pos c3] at H
 have c3b0 := eq_true c3
 have c3b1 : decide (0 ≤ (ji2)) = true := decide_eq_true c3
 clear c3
 obtain ⟨ji4, hji4⟩ : ∃ j_ : Int, (shl .i64 1 (ji2)) = j_ := ⟨_, rfl⟩
 replace H : (some ji4) = some r := by first | (rw [hji4] at H; exact H) | (simp only [hji4] at H ⊢; exact H)
 have hji4_ : (IntKind.i64.wrap (1 * 2 ^ min (ji2).toNat 64)) = ji4 := hji4
 have hji4z : (ji2) ≤ 64 → (IntKind.i64.wrap (1 * 2 ^ (ji2).toNat)) = ji4 := shl_small hji4
 have hji4u : (IntKind.i64.wrap (2 ^ min (ji2).toNat 64)) = ji4 := by have h_ := hji4_; rw [Int.one_mul] at h_; exact h_
 have hji4v : (ji2) ≤ 64 → (IntKind.i64.wrap (2 ^ (ji2).toNat)) = ji4 := fun hle_ => by have h_ := hji4z hle_; rw [Int.one_mul] at h_; exact h_
 have hji4y : (wrap64 (1 * 2 ^ min (ji2).toNat 64)) = ji4 := (i64_w _).symm.trans hji4_
 have hji4x : (ji2) ≤ 64 → (wrap64 (1 * 2 ^ (ji2).toNat)) = ji4 := fun h_ => (i64_w _).symm.trans (hji4z h_)
 obtain rfl := Option.some.inj H
 go_enter Try.func90, Try.ntmps90
 go_wp2
 go_ret
 exact ⟨by first | rfl | (simp; done) | (simp only [← hji2, ← hji4] <;> (first | rfl | simp)) | (simp [*]; done) | (exact congrArg (Value.int .i64) (wrap_eq (by omega))), zdr⟩
def spec_l04Full.f (a0 : Int) : Option (Int) := (spec_l04Rows.f a0).bind fun t221 => (if 0 ≤ (IntKind.u64.wrap (wrap64 (64 - t221))) then (some (shr .u64 18446744073709551615 (IntKind.u64.wrap (wrap64 (64 - t221))))) else (none))
theorem spec_l04Full.calls (a0 : Int) (r : Int) (w : World) (h : spec_l04Full.f a0 = some r) :
    Calls Try.prog 128 #[.int .i64 a0] w fun e w' => e = .returned (.int .u64 r) ∧ Drawn0 w w' := by
 have H : ((spec_l04Rows.f a0).bind fun t221 => (if 0 ≤ (IntKind.u64.wrap (wrap64 (64 - t221))) then (some (shr .u64 18446744073709551615 (IntKind.u64.wrap (wrap64 (64 - t221))))) else (none))) = some r := h
 clear h
 replace H := zob H
 obtain ⟨t221, A20, H⟩ := H
 replace H : (if 0 ≤ (IntKind.u64.wrap (wrap64 (64 - t221))) then (some (shr .u64 18446744073709551615 (IntKind.u64.wrap (wrap64 (64 - t221))))) else (none)) = some r := H
 have A2 := Aside0.mk A20
 clear A20
 obtain ⟨ji3, hji3⟩ : ∃ j_ : Int, (IntKind.u64.wrap (wrap64 (64 - t221))) = j_ := ⟨_, rfl⟩
 replace H : (if 0 ≤ (ji3) then (some (shr .u64 18446744073709551615 (ji3))) else (none)) = some r := by first | (rw [hji3] at H; exact H) | (simp only [hji3] at H ⊢; exact H)
 (try rw [hji3] at A2)
 by_cases c4 : 0 ≤ (ji3)
 rotate_left
 ·rw [if_neg c4] at H
  exact absurd H (by simp)
 rw [if_pos c4] at H
 have c4b0 := eq_true c4
 have c4b1 : decide (0 ≤ (ji3)) = true := decide_eq_true c4
 clear c4
 obtain ⟨ji5, hji5⟩ : ∃ j_ : Int, (shr .u64 18446744073709551615 (ji3)) = j_ := ⟨_, rfl⟩
 replace H : (some ji5) = some r := by first | (rw [hji5] at H; exact H) | (simp only [hji5] at H ⊢; exact H)
 (try rw [hji5] at A2)
 have hji5_ : (18446744073709551615 / 2 ^ min (ji3).toNat 64) = ji5 := hji5
 have hji5z : (ji3) ≤ 64 → (18446744073709551615 / 2 ^ (ji3).toNat) = ji5 := shr_small hji5
 obtain rfl := Option.some.inj H
 go_enter Try.func128, Try.ntmps128
 go_wp2_with (first | ((with_reducible refine gate_callee (f := 90) rfl ?_); refine goesL_ (some 4) rfl rfl Try.func90 (by kernel_rfl) rfl #[.int .i64 a0] rfl zm ?_; (with_reducible refine (spec_l04Rows.calls a0 t221 _ A2.out).mono ?_); rintro e w' ⟨rfl, ⟨nd, rfl⟩⟩; refine ⟨_, rfl, ?_⟩))
 go_ret
 exact ⟨by first | rfl | (simp; done) | (simp only [← hji3, ← hji5] <;> (first | rfl | simp)) | (simp [*]; done) | (exact congrArg (Value.int .i64) (wrap_eq (by omega))), zdr⟩
def spec_l04Input.l0 : Nat → Int → Int → Int → Int → Option (Int)
  | 0, _, _, _, _ => none
  | k + 1, x0, x1, x5, x6 => (spec_l04Rows.f x0).bind fun t222 => (if x6 < t222 then (if 0 ≤ (IntKind.u64.wrap (x1)) then (if 0 ≤ (IntKind.u64.wrap (x6)) then (spec_l04Input.l0 k x0 x1 (Go.bits .or .u64 x5 (shl .u64 (IntKind.u64.wrap (Go.bits .and .i64 (shr .i64 x6 (IntKind.u64.wrap (x1))) 1)) (IntKind.u64.wrap (x6)))) (wrap64 (x6 + 1))) else (none)) else (none)) else (some x5))
def spec_l04Input.f (k : Nat) (a0 : Int) (a1 : Int) : Option (Int) := spec_l04Input.l0 k a0 a1 0 0
theorem spec_l04Input.mono_l : ∀ k, (∀ y0 y1 y2 y3, LeO (spec_l04Input.l0 k y0 y1 y2 y3) (spec_l04Input.l0 (k + 1) y0 y1 y2 y3))
  | 0 => fun _ _ _ _ r h => by simp [spec_l04Input.l0] at h
  | k + 1 => by
    have ih0 := spec_l04Input.mono_l k
    · intro y0 y1 y2 y3
      unfold spec_l04Input.l0
      repeat' first | (with_reducible first | apply ih0 | exact LeO.refl _ | exact LeO.none _ | refine LeO.ite ?_ ?_ | refine LeO.bind ?_ (fun _ => ?_)) | apply ih0 | exact LeO.none _ | refine LeO.ite ?_ ?_ | refine LeO.bind ?_ (fun _ => ?_)
theorem spec_l04Input.mono : ∀ a0 a1 k, LeO (spec_l04Input.f k a0 a1) (spec_l04Input.f (k + 1) a0 a1) := by
 intro a0 a1 k
 have ih0 := spec_l04Input.mono_l k
 unfold spec_l04Input.f
 repeat' first | (with_reducible first | apply ih0 | exact LeO.refl _ | exact LeO.none _ | refine LeO.ite ?_ ?_ | refine LeO.bind ?_ (fun _ => ?_)) | apply ih0 | exact LeO.none _ | refine LeO.ite ?_ ?_ | refine LeO.bind ?_ (fun _ => ?_)
theorem spec_l04Input.calls (k : Nat) (a0 : Int) (a1 : Int) (r : Int) (w : World) (h : spec_l04Input.f k a0 a1 = some r) :
    Calls Try.prog 129 #[.int .i64 a0, .int .i64 a1] w fun e w' => e = .returned (.int .u64 r) ∧ Drawn0 w w' := by
 have H : (spec_l04Input.l0 k a0 a1 0 0) = some r := h
 clear h
 have H' := Aside0.mk H
 clear H
 go_enter Try.func129, Try.ntmps129
 go_wp2
 go_loopg [5, 6] k (fun kq v5 v6 w' => ∃ (x5_1 : Int) (x6_1 : Int), v5 = .int .u64 x5_1 ∧ v6 = .int .i64 x6_1 ∧ Aside0 (spec_l04Input.l0 kq a0 a1 x5_1 x6_1 = some r) ∧ Aside0 (kq ≤ k) ∧ Drawn0 w w')
 case atStart => exact ⟨(0), (0), zi, zi, H', ⟨Nat.le_refl _⟩, zdr⟩
 clear H'
 try clear c1
 try clear p2
 obtain ⟨x5_1, x6_1, rfl, rfl, HA, HK1, ⟨m1, rfl⟩⟩ := hrel
 cases gk with
 | zero => exact absurd HA.out (by simp [spec_l04Input.l0])
 | succ k1 => ?_
 have H := HA.out
 clear HA
 simp only [spec_l04Input.l0] at H
 replace H := zob H
 obtain ⟨t222, A30, H⟩ := H
 replace H : (if x6_1 < t222 then (if 0 ≤ (IntKind.u64.wrap (a1)) then (if 0 ≤ (IntKind.u64.wrap (x6_1)) then (spec_l04Input.l0 k1 a0 a1 (Go.bits .or .u64 x5_1 (shl .u64 (IntKind.u64.wrap (Go.bits .and .i64 (shr .i64 x6_1 (IntKind.u64.wrap (a1))) 1)) (IntKind.u64.wrap (x6_1)))) (wrap64 (x6_1 + 1))) else (none)) else (none)) else (some x5_1)) = some r := H
 have A3 := Aside0.mk A30
 clear A30
 by_cases c4 : x6_1 < t222
 rotate_left
 ·rw [if_neg c4] at H
  have c4b0 : decide (x6_1 < t222) = false := decide_eq_false c4
  clear c4
  obtain rfl := Option.some.inj H
  go_wp2_with (first | ((with_reducible refine gate_callee (f := 90) rfl ?_); refine goesL_ (some 9) rfl rfl Try.func90 (by kernel_rfl) rfl #[.int .i64 a0] rfl zm ?_; (with_reducible refine (spec_l04Rows.calls a0 t222 _ A3.out).mono ?_); rintro e w' ⟨rfl, ⟨nd, rfl⟩⟩; refine ⟨_, rfl, ?_⟩))
  go_ret
  exact ⟨zi, zdr⟩
 rw [if_pos c4] at H
 have c4b0 : decide (x6_1 < t222) = true := decide_eq_true c4
 clear c4
 obtain ⟨ji5, hji5⟩ : ∃ j_ : Int, (IntKind.u64.wrap (a1)) = j_ := ⟨_, rfl⟩
 replace H : (if 0 ≤ (ji5) then (if 0 ≤ (IntKind.u64.wrap (x6_1)) then (spec_l04Input.l0 k1 a0 a1 (Go.bits .or .u64 x5_1 (shl .u64 (IntKind.u64.wrap (Go.bits .and .i64 (shr .i64 x6_1 (ji5)) 1)) (IntKind.u64.wrap (x6_1)))) (wrap64 (x6_1 + 1))) else (none)) else (none)) = some r := by first | (rw [hji5] at H; exact H) | (simp only [hji5] at H ⊢; exact H)
 (try rw [hji5] at A3)
 by_cases c6 : 0 ≤ (ji5)
 rotate_left
 ·rw [if_neg c6] at H
  exact absurd H (by simp)
 rw [if_pos c6] at H
 have c6b0 := eq_true c6
 have c6b1 : decide (0 ≤ (ji5)) = true := decide_eq_true c6
 clear c6
 obtain ⟨ji7, hji7⟩ : ∃ j_ : Int, (shr .i64 x6_1 (ji5)) = j_ := ⟨_, rfl⟩
 replace H : (if 0 ≤ (IntKind.u64.wrap (x6_1)) then (spec_l04Input.l0 k1 a0 a1 (Go.bits .or .u64 x5_1 (shl .u64 (IntKind.u64.wrap (Go.bits .and .i64 (ji7) 1)) (IntKind.u64.wrap (x6_1)))) (wrap64 (x6_1 + 1))) else (none)) = some r := by first | (rw [hji7] at H; exact H) | (simp only [hji7] at H ⊢; exact H)
 (try rw [hji7] at A3)
 have hji7_ : (x6_1 / 2 ^ min (ji5).toNat 64) = ji7 := hji7
 have hji7z : (ji5) ≤ 64 → (x6_1 / 2 ^ (ji5).toNat) = ji7 := shr_small hji7
 obtain ⟨ji8, hji8⟩ : ∃ j_ : Int, (IntKind.u64.wrap (x6_1)) = j_ := ⟨_, rfl⟩
 replace H : (if 0 ≤ (ji8) then (spec_l04Input.l0 k1 a0 a1 (Go.bits .or .u64 x5_1 (shl .u64 (IntKind.u64.wrap (Go.bits .and .i64 (ji7) 1)) (ji8))) (wrap64 (x6_1 + 1))) else (none)) = some r := by first | (rw [hji8] at H; exact H) | (simp only [hji8] at H ⊢; exact H)
 (try rw [hji8] at A3)
 by_cases c9 : 0 ≤ (ji8)
 rotate_left
 ·rw [if_neg c9] at H
  exact absurd H (by simp)
 rw [if_pos c9] at H
 have c9b0 := eq_true c9
 have c9b1 : decide (0 ≤ (ji8)) = true := decide_eq_true c9
 clear c9
 obtain ⟨ji10, hji10⟩ : ∃ j_ : Int, (shl .u64 (IntKind.u64.wrap (Go.bits .and .i64 (ji7) 1)) (ji8)) = j_ := ⟨_, rfl⟩
 replace H : (spec_l04Input.l0 k1 a0 a1 (Go.bits .or .u64 x5_1 (ji10)) (wrap64 (x6_1 + 1))) = some r := by first | (rw [hji10] at H; exact H) | (simp only [hji10] at H ⊢; exact H)
 (try rw [hji10] at A3)
 have hji10_ : (IntKind.u64.wrap ((IntKind.u64.wrap (Go.bits .and .i64 (ji7) 1)) * 2 ^ min (ji8).toNat 64)) = ji10 := hji10
 have hji10z : (ji8) ≤ 64 → (IntKind.u64.wrap ((IntKind.u64.wrap (Go.bits .and .i64 (ji7) 1)) * 2 ^ (ji8).toNat)) = ji10 := shl_small hji10
 have H' := Aside0.mk H
 clear H
 go_wp2_with (first | ((with_reducible refine gate_callee (f := 90) rfl ?_); refine goesL_ (some 9) rfl rfl Try.func90 (by kernel_rfl) rfl #[.int .i64 a0] rfl zm ?_; (with_reducible refine (spec_l04Rows.calls a0 t222 _ A3.out).mono ?_); rintro e w' ⟨rfl, ⟨nd, rfl⟩⟩; refine ⟨_, rfl, ?_⟩))
 go_roundg k1
 case measure => have := HK1.out; omega
 case rel => exact ⟨(Go.bits .or .u64 x5_1 (ji10)), (wrap64 (x6_1 + 1)), (by first | rfl | (simp; done) | (simp only [← hji10] <;> (first | rfl | simp)) | (simp [*]; done) | (exact congrArg (Value.int .i64) (wrap_eq (by omega)))), zi, H', ⟨by have := HK1.out; omega⟩, zdr⟩
def spec_l04Tables.l0 : Nat → List (S31) → Int → List Int → Int → Option (List Int)
  | 0, _, _, _, _ => none
  | k + 1, x0, x3, x4, x5 => if 0 < (x0.length : Int) then (if x5 < (((rd_T31 x0 0).f1).length : Int) then (if 0 ≤ x5 then (if ((rd_T81 ((rd_T31 x0 0).f1) x5).f0) = 0 then ((spec_l04Input.f k (wrap64 ((rd_T31 x0 0).f0)) (wrap64 ((rd_T81 ((rd_T31 x0 0).f1) x5).f1))).bind fun t233 => (if x4.length < 17592186044416 then (spec_l04Tables.l0 k x0 x3 (x4 ++ [t233]) (wrap64 (x5 + 1))) else (none))) else (if ((rd_T81 ((rd_T31 x0 0).f1) x5).f0) = 2 then (if 0 ≤ ((rd_T81 ((rd_T31 x0 0).f1) x5).f1) then (if ((rd_T81 ((rd_T31 x0 0).f1) x5).f1) < (x4.length : Int) then (if 0 ≤ ((rd_T81 ((rd_T31 x0 0).f1) x5).f2) then (if ((rd_T81 ((rd_T31 x0 0).f1) x5).f2) < (x4.length : Int) then (if x4.length < 17592186044416 then (spec_l04Tables.l0 k x0 x3 (x4 ++ [Go.bits .or .u64 (rd x4 ((rd_T81 ((rd_T31 x0 0).f1) x5).f1)) (rd x4 ((rd_T81 ((rd_T31 x0 0).f1) x5).f2))]) (wrap64 (x5 + 1))) else (none)) else (none)) else (none)) else (none)) else (none)) else (if ((rd_T81 ((rd_T31 x0 0).f1) x5).f0) = 3 then (if 0 ≤ ((rd_T81 ((rd_T31 x0 0).f1) x5).f1) then (if ((rd_T81 ((rd_T31 x0 0).f1) x5).f1) < (x4.length : Int) then (if 0 ≤ ((rd_T81 ((rd_T31 x0 0).f1) x5).f2) then (if ((rd_T81 ((rd_T31 x0 0).f1) x5).f2) < (x4.length : Int) then (if x4.length < 17592186044416 then (spec_l04Tables.l0 k x0 x3 (x4 ++ [Go.bits .andNot .u64 (rd x4 ((rd_T81 ((rd_T31 x0 0).f1) x5).f1)) (rd x4 ((rd_T81 ((rd_T31 x0 0).f1) x5).f2))]) (wrap64 (x5 + 1))) else (none)) else (none)) else (none)) else (none)) else (none)) else (if x4.length < 17592186044416 then (spec_l04Tables.l0 k x0 x3 (x4 ++ [x3]) (wrap64 (x5 + 1))) else (none))))) else (none)) else (some x4)) else (none)
def spec_l04Tables.f (k : Nat) (l0 : List (S31)) : Option (List Int) := if 0 < (l0.length : Int) then ((spec_l04Full.f (wrap64 ((rd_T31 l0 0).f0))).bind fun t224 => (spec_l04Tables.l0 k l0 t224 (([] : List Int)) 0)) else (none)
theorem spec_l04Tables.mono_l : ∀ k, (∀ y0 y1 y2 y3, LeO (spec_l04Tables.l0 k y0 y1 y2 y3) (spec_l04Tables.l0 (k + 1) y0 y1 y2 y3))
  | 0 => fun _ _ _ _ r h => by simp [spec_l04Tables.l0] at h
  | k + 1 => by
    have ih0 := spec_l04Tables.mono_l k
    · intro y0 y1 y2 y3
      unfold spec_l04Tables.l0
      repeat' first | (with_reducible first | apply ih0 | apply spec_l04Input.mono | exact LeO.refl _ | exact LeO.none _ | refine LeO.ite ?_ ?_ | refine LeO.bind ?_ (fun _ => ?_)) | apply ih0 | apply spec_l04Input.mono | exact LeO.none _ | refine LeO.ite ?_ ?_ | refine LeO.bind ?_ (fun _ => ?_)
theorem spec_l04Tables.mono : ∀ a0 k, LeO (spec_l04Tables.f k a0) (spec_l04Tables.f (k + 1) a0) := by
 intro a0 k
 have ih0 := spec_l04Tables.mono_l k
 unfold spec_l04Tables.f
 repeat' first | (with_reducible first | apply ih0 | apply spec_l04Input.mono | exact LeO.refl _ | exact LeO.none _ | refine LeO.ite ?_ ?_ | refine LeO.bind ?_ (fun _ => ?_)) | apply ih0 | apply spec_l04Input.mono | exact LeO.none _ | refine LeO.ite ?_ ?_ | refine LeO.bind ?_ (fun _ => ?_)
theorem spec_l04Tables.calls (k : Nat) (adp0 : Addr) (l0 : List (S31)) (r : List Int) (w : World) (hr0 : Kd.C k31 w (some adp0) l0.length l0) (h : spec_l04Tables.f k l0 = some r) :
    Calls Try.prog 96 #[.pointer (some adp0)] w fun e w' => ∃ v0_ : Value, e = .returned (v0_) ∧ Kd.R (Kd.int .u64) 98 w' w.heap.size (fun _ => True) v0_ r ∧ Below w.heap.size w w' := by
 have hu81 := Try.underlying81
 have HR0 := Aside0.mk hr0
 clear hr0
 have HB := Aside0.mk (Below.refl w.heap.size w)
 have H : (if 0 < (l0.length : Int) then ((spec_l04Full.f (wrap64 ((rd_T31 l0 0).f0))).bind fun t224 => (spec_l04Tables.l0 k l0 t224 (([] : List Int)) 0)) else (none)) = some r := h
 clear h
 by_cases c2 : 0 < (l0.length : Int)
 rotate_left
 ·rw [if_neg c2] at H
  exact absurd H (by simp)
 rw [if_pos c2] at H
 have c2b0 : decide (0 < (l0.length : Int)) = true := decide_eq_true c2
 have c2b1 : decide (0 < l0.length) = true := decide_eq_true (by omega)
 clear c2
 replace H := zob H
 obtain ⟨t224, A30, H⟩ := H
 replace H : (spec_l04Tables.l0 k l0 t224 (([] : List Int)) 0) = some r := H
 have A3 := Aside0.mk A30
 clear A30
 obtain ⟨y225, hy225⟩ : ∃ y_ : List Int, y_ = (([] : List Int)) := ⟨_, rfl⟩
 replace H : (spec_l04Tables.l0 k l0 t224 y225 0) = some r := by first | (rw [hy225]; with_reducible exact H) | (have H2_ := (Option.bind_some _ _).symm.trans H; rw [hy225]; with_reducible exact H2_) | (have H2_ := (Option.bind_some _ _).symm.trans H; with_reducible exact H2_) | with_reducible exact H | (rw [hy225]; exact H) | exact H
 have Ny225 := Aside0.mk hy225
 clear hy225
 have H' := Aside0.mk H
 clear H
 have p223 : 0 ≤ (0 : Int) := (by omega)
 have q223 : 0 < (l0.length : Int) := of_decide_eq_true zA
 obtain ⟨ad223, A223_1, c223_1, A223_2, c223_2, e223, hx223_0, hx223_1, hx223_2, hl223_1, hi223_1, hl223_2, hi223_2⟩ := at_T31 HR0.out 0 p223 q223
 obtain rfl : adp0 = ad223 := (by injection e223)
 have qi223 : (0 < l0.length) = True := eq_true (by omega)
 try simp only [z00, Nat.zero_mul, Addr.add_zero'] at hx223_0 hx223_1 hx223_2
 have HR223_1 := Aside0.mk hi223_1
 have HC223_1 := Aside0.mk hl223_1
 clear hi223_1 hl223_1
 have HR223_2 := Aside0.mk hi223_2
 have HC223_2 := Aside0.mk hl223_2
 clear hi223_2 hl223_2
 replace p223 := eq_true p223
 replace q223 := eq_true q223
 go_enter Try.func96, Try.ntmps96
 go_wp2_with (first | (go_at_call 128; (with_reducible refine (spec_l04Full.calls (wrap64 ((rd_T31 l0 0).f0)) t224 _ A3.out).mono ?_); rintro e w' ⟨rfl, ⟨nd, rfl⟩⟩; (try first | exact ⟨rfl, _, World.drewN_drewN _ _ _⟩ | exact ⟨rfl, _, Eq.trans (World.drewN_drewN _ _ _) (congrArg (World.drewN _) (Nat.add_assoc _ _ _))⟩)) | ((with_reducible refine gate_dst (N := 14) rfl ?_); refine Kd.R_lit (Kd.int .u64) _ 98 ?hg (N := 14) ?hd (xs := ([] : List Int)) (inner := []) (ok := fun _ => True) (okp := fun _ => True) ?hr ?hp (fun _ hk => hk) trivial (Below.refl _ _) (Nat.le_refl _) (by simp) ?_; (case hd => rfl); (case hg => rfl); (case hr => exact zgs); (case hp => exact (Reps.none _ _)); intro v226 w4 ho5 hb hg_ hnew_; clear hg_ hnew_; (first | rw [← Ny225.out] at ho5 | (simp only [Int.reduceToNat] at ho5; rw [← Ny225.out] at ho5)); have n_ : _ ∧ _ := ⟨Aside0.mk (Kd.R_lower ho5 (zz HB)), zb HB hb⟩; clear HB; obtain ⟨HO227, HB⟩ := n_; clear hb ho5) | go_quiet (first | (go_at_call 128; (with_reducible refine (spec_l04Full.calls (wrap64 ((rd_T31 l0 0).f0)) t224 _ A3.out).mono ?_); rintro e w' ⟨rfl, ⟨nd, rfl⟩⟩; (try first | exact ⟨rfl, _, World.drewN_drewN _ _ _⟩ | exact ⟨rfl, _, Eq.trans (World.drewN_drewN _ _ _) (congrArg (World.drewN _) (Nat.add_assoc _ _ _))⟩))))
 go_loopg [4, 5] k (fun kq v4 v5 w' => ∃ (x4_1 : List Int) (x5_1 : Int), v5 = .int .i64 x5_1 ∧ Aside0 (spec_l04Tables.l0 kq l0 t224 x4_1 x5_1 = some r) ∧ Aside0 (kq ≤ k) ∧ Aside0 (Kd.R (Kd.int .u64) 98 w' w.heap.size (fun _ => True) v4 x4_1) ∧ Aside0 (Below w.heap.size w w'))
 case atStart => exact ⟨(y225), (0), zi, H', ⟨Nat.le_refl _⟩, ze HO227, zl HB⟩
 clear H'
 try clear c2
 try clear c2b0
 try clear c2b1
 try clear p2
 try clear q2
 try clear hx2
 try clear qi2
 try clear hx223_0
 try clear hx223_1
 try clear hx223_2
 try clear p223
 try clear q223
 obtain ⟨x4_1, x5_1, rfl, HA, HK1, HO_4, HB⟩ := hrel
 cases gk with
 | zero => exact absurd HA.out (by simp [spec_l04Tables.l0])
 | succ k1 => ?_
 have H := HA.out
 clear HA
 simp only [spec_l04Tables.l0] at H
 by_cases c6 : 0 < (l0.length : Int)
 rotate_left
 ·rw [if_neg c6] at H
  exact absurd H (by simp)
 rw [if_pos c6] at H
 have c6b0 : decide (0 < (l0.length : Int)) = true := decide_eq_true c6
 have c6b1 : decide (0 < l0.length) = true := decide_eq_true (by omega)
 clear c6
 by_cases c7 : x5_1 < (((rd_T31 l0 0).f1).length : Int)
 rotate_left
 ·rw [if_neg c7] at H
  have c7b0 : decide (x5_1 < (((rd_T31 l0 0).f1).length : Int)) = false := decide_eq_false c7
  clear c7
  obtain rfl := Option.some.inj H
  have p228 : 0 ≤ (0 : Int) := (by omega)
  have q228 : 0 < (l0.length : Int) := of_decide_eq_true zA
  obtain ⟨ad228, A228_1, c228_1, A228_2, c228_2, e228, hx228_0, hx228_1, hx228_2, hl228_1, hi228_1, hl228_2, hi228_2⟩ := at_T31 HR0.out 0 p228 q228
  obtain rfl : adp0 = ad228 := (by injection e228)
  have qi228 : (0 < l0.length) = True := eq_true (by omega)
  try simp only [z00, Nat.zero_mul, Addr.add_zero'] at hx228_0 hx228_1 hx228_2
  replace hx228_0 := zc HB hx228_0
  replace hx228_1 := zc HB hx228_1
  replace hx228_2 := zc HB hx228_2
  have HR228_1 := Aside0.mk hi228_1
  have HC228_1 := Aside0.mk hl228_1
  clear hi228_1 hl228_1
  have HR228_2 := Aside0.mk hi228_2
  have HC228_2 := Aside0.mk hl228_2
  clear hi228_2 hl228_2
  replace p228 := eq_true p228
  replace q228 := eq_true q228
  go_wp2
  repeat (go_quiet (fail); try go_wp2)
  go_ret
  exact ⟨_, zv, by (with_reducible repeat (first | apply Kd.R_alloc | apply Kd.R_drewN | apply Kd.R_drew)); exact HO_4.out, zbo⟩
 rw [if_pos c7] at H
 have c7b0 : decide (x5_1 < (((rd_T31 l0 0).f1).length : Int)) = true := decide_eq_true c7
 clear c7
 by_cases c8 : 0 ≤ x5_1
 rotate_left
 ·rw [if_neg c8] at H
  exact absurd H (by simp)
 rw [if_pos c8] at H
 have c8b0 : decide (0 ≤ x5_1) = true := decide_eq_true c8
 clear c8
 by_cases c9 : ((rd_T81 ((rd_T31 l0 0).f1) x5_1).f0) = 0
 ·rw [if_pos c9] at H
  have c9b0 : (((rd_T81 ((rd_T31 l0 0).f1) x5_1).f0) == 0) = true := beq_iff_eq.mpr c9
  have c9b1 : (((rd_T81 ((rd_T31 l0 0).f1) x5_1).f0) != 0) = false := bne_eq_false_iff_eq.mpr c9
  clear c9
  replace H := zob H
  obtain ⟨t233, A100, H⟩ := H
  replace H : (if x4_1.length < 17592186044416 then (spec_l04Tables.l0 k1 l0 t224 (x4_1 ++ [t233]) (wrap64 (x5_1 + 1))) else (none)) = some r := H
  have A10 := Aside0.mk A100
  clear A100
  by_cases c11 : x4_1.length < 17592186044416
  rotate_left
  ·rw [if_neg c11] at H
   exact absurd H (by simp)
  rw [if_pos c11] at H
  have LMc11 := Aside0.mk c11
  clear c11
  obtain ⟨y234, hy234⟩ : ∃ y_ : List Int, y_ = (x4_1 ++ [t233]) := ⟨_, rfl⟩
  replace H : (spec_l04Tables.l0 k1 l0 t224 y234 (wrap64 (x5_1 + 1))) = some r := by first | (rw [hy234]; with_reducible exact H) | (have H2_ := (Option.bind_some _ _).symm.trans H; rw [hy234]; with_reducible exact H2_) | (have H2_ := (Option.bind_some _ _).symm.trans H; with_reducible exact H2_) | with_reducible exact H | (rw [hy234]; exact H) | exact H
  have Ny234 := Aside0.mk hy234
  clear hy234
  have H' := Aside0.mk H
  clear H
  have p228 : 0 ≤ (0 : Int) := (by omega)
  have q228 : 0 < (l0.length : Int) := of_decide_eq_true zA
  obtain ⟨ad228, A228_1, c228_1, A228_2, c228_2, e228, hx228_0, hx228_1, hx228_2, hl228_1, hi228_1, hl228_2, hi228_2⟩ := at_T31 HR0.out 0 p228 q228
  obtain rfl : adp0 = ad228 := (by injection e228)
  have qi228 : (0 < l0.length) = True := eq_true (by omega)
  try simp only [z00, Nat.zero_mul, Addr.add_zero'] at hx228_0 hx228_1 hx228_2
  replace hx228_0 := zc HB hx228_0
  replace hx228_1 := zc HB hx228_1
  replace hx228_2 := zc HB hx228_2
  have HR228_1 := Aside0.mk hi228_1
  have HC228_1 := Aside0.mk hl228_1
  clear hi228_1 hl228_1
  have HR228_2 := Aside0.mk hi228_2
  have HC228_2 := Aside0.mk hl228_2
  clear hi228_2 hl228_2
  replace p228 := eq_true p228
  replace q228 := eq_true q228
  have p229 : 0 ≤ (0 : Int) := (by omega)
  have q229 : 0 < (l0.length : Int) := of_decide_eq_true zA
  obtain ⟨ad229, A229_1, c229_1, A229_2, c229_2, e229, hx229_0, hx229_1, hx229_2, hl229_1, hi229_1, hl229_2, hi229_2⟩ := at_T31 HR0.out 0 p229 q229
  obtain rfl : adp0 = ad229 := (by injection e229)
  have qi229 : (0 < l0.length) = True := eq_true (by omega)
  try simp only [z00, Nat.zero_mul, Addr.add_zero'] at hx229_0 hx229_1 hx229_2
  replace hx229_0 := zc HB hx229_0
  replace hx229_1 := zc HB hx229_1
  replace hx229_2 := zc HB hx229_2
  have HR229_1 := Aside0.mk hi229_1
  have HC229_1 := Aside0.mk hl229_1
  clear hi229_1 hl229_1
  have HR229_2 := Aside0.mk hi229_2
  have HC229_2 := Aside0.mk hl229_2
  clear hi229_2 hl229_2
  replace p229 := eq_true p229
  replace q229 := eq_true q229
  have ea_ := Option.some.inj (hx228_1.symm.trans hx229_1)
  injection ea_ with ea_ en_ ec_
  subst ea_
  subst ec_
  clear en_
  have ea_ := Option.some.inj (hx228_2.symm.trans hx229_2)
  injection ea_ with ea_ en_ ec_
  subst ea_
  subst ec_
  clear en_
  have p230 : 0 ≤ (x5_1 : Int) := of_decide_eq_true zA
  have q230 : x5_1 < (((rd_T31 l0 0).f1).length : Int) := of_decide_eq_true zA
  obtain ⟨ad230, e230, hx230_0, hx230_1, hx230_2⟩ := at_T81 HR229_1.out x5_1 p230 q230
  cases e230
  replace hx230_0 := zc HB hx230_0
  replace hx230_1 := zc HB hx230_1
  replace hx230_2 := zc HB hx230_2
  replace p230 := eq_true p230
  replace q230 := eq_true q230
  go_wp2_with (first | ((with_reducible refine gate_dst (N := 6) rfl ?_); refine zbx 6 #[.int .i8 0, .int .i16 0, .int .i16 0] 81 ?_; intro gb231 hg w12 hbox hb; have n_ : _ ∧ _ ∧ _ ∧ _ ∧ _ := ⟨zr HO_4 hb, zb HB hb, Aside0.mk (hbox), zg HB hg, zg HB hg⟩; clear HO_4 HB; obtain ⟨HO_4, HB, BK231, GW231, GE231⟩ := n_; clear hb hbox hg; obtain ⟨z13_0, z13_1, z13_2, y13_0, y13_1, y13_2⟩ := zB3 BK231; have p232 : 0 ≤ (0 : Int) := (by omega); have q232 : 0 < (l0.length : Int) := of_decide_eq_true zA; obtain ⟨ad232, A232_1, c232_1, A232_2, c232_2, e232, hx232_0, hx232_1, hx232_2, hl232_1, hi232_1, hl232_2, hi232_2⟩ := at_T31 HR0.out 0 p232 q232; obtain rfl : adp0 = ad232 := (by injection e232); have qi232 : (0 < l0.length) = True := eq_true (by omega); (try simp only [z00, Nat.zero_mul, Addr.add_zero'] at hx232_0 hx232_1 hx232_2); have hn232_0 : adp0.block ≠ gb231 := Nat.ne_of_lt (Nat.lt_of_lt_of_le (by have := World.block_lt_of_cell? _ _ hx232_0; first | rwa [add_block] at this | exact this) GW231.out); have hn232_1 : adp0.block ≠ gb231 := Nat.ne_of_lt (Nat.lt_of_lt_of_le (by have := World.block_lt_of_cell? _ _ hx232_0; first | rwa [add_block] at this | exact this) GW231.out); have hn232_2 : adp0.block ≠ gb231 := Nat.ne_of_lt (Nat.lt_of_lt_of_le (by have := World.block_lt_of_cell? _ _ hx232_0; first | rwa [add_block] at this | exact this) GW231.out); replace hx232_0 := zc HB hx232_0; replace hx232_1 := zc HB hx232_1; replace hx232_2 := zc HB hx232_2; have HR232_1 := Aside0.mk hi232_1; have HC232_1 := Aside0.mk hl232_1; clear hi232_1 hl232_1; have HR232_2 := Aside0.mk hi232_2; have HC232_2 := Aside0.mk hl232_2; clear hi232_2 hl232_2; replace hx232_0 := (cell_far (p := ⟨gb231, 0, none⟩) (by first | (rw [add_block]; exact hn232_0) | (show (Addr.add _ _).block ≠ _; rw [add_block]; exact hn232_0) | exact hn232_0) (.int .i8 ((rd_T81 ((rd_T31 l0 0).f1) x5_1).f0))).trans hx232_0; replace hx232_1 := (cell_far (p := ⟨gb231, 0, none⟩) (by first | (rw [add_block]; exact hn232_0) | (show (Addr.add _ _).block ≠ _; rw [add_block]; exact hn232_0) | exact hn232_0) (.int .i8 ((rd_T81 ((rd_T31 l0 0).f1) x5_1).f0))).trans hx232_1; replace hx232_2 := (cell_far (p := ⟨gb231, 0, none⟩) (by first | (rw [add_block]; exact hn232_0) | (show (Addr.add _ _).block ≠ _; rw [add_block]; exact hn232_0) | exact hn232_0) (.int .i8 ((rd_T81 ((rd_T31 l0 0).f1) x5_1).f0))).trans hx232_2; replace hx232_0 := (cell_far (p := ⟨gb231, 1, none⟩) (by first | (rw [add_block]; exact hn232_1) | (show (Addr.add _ _).block ≠ _; rw [add_block]; exact hn232_1) | exact hn232_1) (.int .i16 ((rd_T81 ((rd_T31 l0 0).f1) x5_1).f1))).trans hx232_0; replace hx232_1 := (cell_far (p := ⟨gb231, 1, none⟩) (by first | (rw [add_block]; exact hn232_1) | (show (Addr.add _ _).block ≠ _; rw [add_block]; exact hn232_1) | exact hn232_1) (.int .i16 ((rd_T81 ((rd_T31 l0 0).f1) x5_1).f1))).trans hx232_1; replace hx232_2 := (cell_far (p := ⟨gb231, 1, none⟩) (by first | (rw [add_block]; exact hn232_1) | (show (Addr.add _ _).block ≠ _; rw [add_block]; exact hn232_1) | exact hn232_1) (.int .i16 ((rd_T81 ((rd_T31 l0 0).f1) x5_1).f1))).trans hx232_2; replace hx232_0 := (cell_far (p := ⟨gb231, 2, none⟩) (by first | (rw [add_block]; exact hn232_2) | (show (Addr.add _ _).block ≠ _; rw [add_block]; exact hn232_2) | exact hn232_2) (.int .i16 ((rd_T81 ((rd_T31 l0 0).f1) x5_1).f2))).trans hx232_0; replace hx232_1 := (cell_far (p := ⟨gb231, 2, none⟩) (by first | (rw [add_block]; exact hn232_2) | (show (Addr.add _ _).block ≠ _; rw [add_block]; exact hn232_2) | exact hn232_2) (.int .i16 ((rd_T81 ((rd_T31 l0 0).f1) x5_1).f2))).trans hx232_1; replace hx232_2 := (cell_far (p := ⟨gb231, 2, none⟩) (by first | (rw [add_block]; exact hn232_2) | (show (Addr.add _ _).block ≠ _; rw [add_block]; exact hn232_2) | exact hn232_2) (.int .i16 ((rd_T81 ((rd_T31 l0 0).f1) x5_1).f2))).trans hx232_2; (try have hy232_0 := fun (n_ : Nat) => (show (((((w12.drewN n_).setCell ⟨gb231, 0, none⟩ (.int .i8 ((rd_T81 ((rd_T31 l0 0).f1) x5_1).f0))).setCell ⟨gb231, 1, none⟩ (.int .i16 ((rd_T81 ((rd_T31 l0 0).f1) x5_1).f1))).setCell ⟨gb231, 2, none⟩ (.int .i16 ((rd_T81 ((rd_T31 l0 0).f1) x5_1).f2)))).cell? _ = some _ from hx232_0)); (try have hy232_1 := fun (n_ : Nat) => (show (((((w12.drewN n_).setCell ⟨gb231, 0, none⟩ (.int .i8 ((rd_T81 ((rd_T31 l0 0).f1) x5_1).f0))).setCell ⟨gb231, 1, none⟩ (.int .i16 ((rd_T81 ((rd_T31 l0 0).f1) x5_1).f1))).setCell ⟨gb231, 2, none⟩ (.int .i16 ((rd_T81 ((rd_T31 l0 0).f1) x5_1).f2)))).cell? _ = some _ from hx232_1)); (try have hy232_2 := fun (n_ : Nat) => (show (((((w12.drewN n_).setCell ⟨gb231, 0, none⟩ (.int .i8 ((rd_T81 ((rd_T31 l0 0).f1) x5_1).f0))).setCell ⟨gb231, 1, none⟩ (.int .i16 ((rd_T81 ((rd_T31 l0 0).f1) x5_1).f1))).setCell ⟨gb231, 2, none⟩ (.int .i16 ((rd_T81 ((rd_T31 l0 0).f1) x5_1).f2)))).cell? _ = some _ from hx232_2)); clear hn232_0; clear hn232_1; clear hn232_2; replace p232 := eq_true p232; replace q232 := eq_true q232) | (go_at_call 129; (with_reducible refine (spec_l04Input.calls k1 (wrap64 ((rd_T31 l0 0).f0)) (wrap64 ((rd_T81 ((rd_T31 l0 0).f1) x5_1).f1)) t233 _ A10.out).mono ?_); rintro e w' ⟨rfl, ⟨nd, rfl⟩⟩; (try first | exact ⟨rfl, _, World.drewN_drewN _ _ _⟩ | exact ⟨rfl, _, Eq.trans (World.drewN_drewN _ _ _) (congrArg (World.drewN _) (Nat.add_assoc _ _ _))⟩)) | ((with_reducible refine gate_builtin (b := .append) (xs := #[.tmp 71, .tmp 73]) rfl ?_); at_builtin; refine Kd.R_append (Kd.int .u64) (w0 := w) w.heap.size rfl (.tmp 71) (.tmp 73) 53 98 (.int .u64 0) 8 rfl Try.underlying53 info98 rfl (by decide) (by omega) u4 x4_1 t233 [.int .u64 t233] (fun _ => True) (fun _ => False) rfl (by first | (go_simp; done) | (go_simp; rfl)) ?aP (fun _ hk => hk.elim) ?aF ?aO ?aB ?aS ?aL ?_; (case aP => exact rfl); (case aB => exact zbo); (case aF => exact (fun _ _ => trivial)); (case aO => exact (Kd.R_mono (zs HO_4 BK231).out (fun _ hk => trivial))); (case aS => exact (zz HB)); (case aL => have := LMc11.out; omega); intro v235 w14 ho hb hg hat; rw [← Ny234.out] at ho; have n_ : _ ∧ _ ∧ _ := ⟨Aside0.mk (blk_grown (g := gb231) (o := .cells #[.int .i8 ((rd_T81 ((rd_T31 l0 0).f1) x5_1).f0), .int .i16 ((rd_T81 ((rd_T31 l0 0).f1) x5_1).f1), .int .i16 ((rd_T81 ((rd_T31 l0 0).f1) x5_1).f2)] 81 (0, 0)) (zp BK231) hg (Kd.R_ne HO_4.out BK231.out (by decide))), Aside0.mk (hb), Aside0.mk (ho)⟩; clear BK231 HB HO_4; obtain ⟨BK231, HB, HO236⟩ := n_; clear ho hb hg hat) | go_quiet (first | (go_at_call 129; (with_reducible refine (spec_l04Input.calls k1 (wrap64 ((rd_T31 l0 0).f0)) (wrap64 ((rd_T81 ((rd_T31 l0 0).f1) x5_1).f1)) t233 _ A10.out).mono ?_); rintro e w' ⟨rfl, ⟨nd, rfl⟩⟩; (try first | exact ⟨rfl, _, World.drewN_drewN _ _ _⟩ | exact ⟨rfl, _, Eq.trans (World.drewN_drewN _ _ _) (congrArg (World.drewN _) (Nat.add_assoc _ _ _))⟩))))
  go_roundg k1
  case measure => have := HK1.out; omega
  case rel => exact ⟨(y234), (wrap64 (x5_1 + 1)), zi, H', ⟨by have := HK1.out; omega⟩, ze HO236, zba⟩
 rw [if_neg c9] at H
 have c9b0 : (((rd_T81 ((rd_T31 l0 0).f1) x5_1).f0) == 0) = false := beq_eq_false_iff_ne.mpr c9
 have c9b1 : (((rd_T81 ((rd_T31 l0 0).f1) x5_1).f0) != 0) = true := bne_iff_ne.mpr c9
 by_cases c15 : ((rd_T81 ((rd_T31 l0 0).f1) x5_1).f0) = 2
 ·rw [if_pos c15] at H
  have c15b0 : (((rd_T81 ((rd_T31 l0 0).f1) x5_1).f0) == 2) = true := beq_iff_eq.mpr c15
  have c15b1 : (((rd_T81 ((rd_T31 l0 0).f1) x5_1).f0) != 2) = false := bne_eq_false_iff_eq.mpr c15
  clear c15
  by_cases c16 : 0 ≤ ((rd_T81 ((rd_T31 l0 0).f1) x5_1).f1)
  rotate_left
  ·rw [if_neg c16] at H
   exact absurd H (by simp)
  rw [if_pos c16] at H
  have c16b0 : decide (0 ≤ ((rd_T81 ((rd_T31 l0 0).f1) x5_1).f1)) = true := decide_eq_true c16
  clear c16
  by_cases c17 : ((rd_T81 ((rd_T31 l0 0).f1) x5_1).f1) < (x4_1.length : Int)
  rotate_left
  ·rw [if_neg c17] at H
   exact absurd H (by simp)
  rw [if_pos c17] at H
  have c17b0 : decide (((rd_T81 ((rd_T31 l0 0).f1) x5_1).f1) < (x4_1.length : Int)) = true := decide_eq_true c17
  clear c17
  by_cases c18 : 0 ≤ ((rd_T81 ((rd_T31 l0 0).f1) x5_1).f2)
  rotate_left
  ·rw [if_neg c18] at H
   exact absurd H (by simp)
  rw [if_pos c18] at H
  have c18b0 : decide (0 ≤ ((rd_T81 ((rd_T31 l0 0).f1) x5_1).f2)) = true := decide_eq_true c18
  clear c18
  by_cases c19 : ((rd_T81 ((rd_T31 l0 0).f1) x5_1).f2) < (x4_1.length : Int)
  rotate_left
  ·rw [if_neg c19] at H
   exact absurd H (by simp)
  rw [if_pos c19] at H
  have c19b0 : decide (((rd_T81 ((rd_T31 l0 0).f1) x5_1).f2) < (x4_1.length : Int)) = true := decide_eq_true c19
  clear c19
  by_cases c20 : x4_1.length < 17592186044416
  rotate_left
  ·rw [if_neg c20] at H
   exact absurd H (by simp)
  rw [if_pos c20] at H
  have LMc20 := Aside0.mk c20
  clear c20
  obtain ⟨y239, hy239⟩ : ∃ y_ : List Int, y_ = (x4_1 ++ [Go.bits .or .u64 (rd x4_1 ((rd_T81 ((rd_T31 l0 0).f1) x5_1).f1)) (rd x4_1 ((rd_T81 ((rd_T31 l0 0).f1) x5_1).f2))]) := ⟨_, rfl⟩
  replace H : (spec_l04Tables.l0 k1 l0 t224 y239 (wrap64 (x5_1 + 1))) = some r := by first | (rw [hy239]; with_reducible exact H) | (have H2_ := (Option.bind_some _ _).symm.trans H; rw [hy239]; with_reducible exact H2_) | (have H2_ := (Option.bind_some _ _).symm.trans H; with_reducible exact H2_) | with_reducible exact H | (rw [hy239]; exact H) | exact H
  have Ny239 := Aside0.mk hy239
  clear hy239
  have H' := Aside0.mk H
  clear H
  have p228 : 0 ≤ (0 : Int) := (by omega)
  have q228 : 0 < (l0.length : Int) := of_decide_eq_true zA
  obtain ⟨ad228, A228_1, c228_1, A228_2, c228_2, e228, hx228_0, hx228_1, hx228_2, hl228_1, hi228_1, hl228_2, hi228_2⟩ := at_T31 HR0.out 0 p228 q228
  obtain rfl : adp0 = ad228 := (by injection e228)
  have qi228 : (0 < l0.length) = True := eq_true (by omega)
  try simp only [z00, Nat.zero_mul, Addr.add_zero'] at hx228_0 hx228_1 hx228_2
  replace hx228_0 := zc HB hx228_0
  replace hx228_1 := zc HB hx228_1
  replace hx228_2 := zc HB hx228_2
  have HR228_1 := Aside0.mk hi228_1
  have HC228_1 := Aside0.mk hl228_1
  clear hi228_1 hl228_1
  have HR228_2 := Aside0.mk hi228_2
  have HC228_2 := Aside0.mk hl228_2
  clear hi228_2 hl228_2
  replace p228 := eq_true p228
  replace q228 := eq_true q228
  have p229 : 0 ≤ (0 : Int) := (by omega)
  have q229 : 0 < (l0.length : Int) := of_decide_eq_true zA
  obtain ⟨ad229, A229_1, c229_1, A229_2, c229_2, e229, hx229_0, hx229_1, hx229_2, hl229_1, hi229_1, hl229_2, hi229_2⟩ := at_T31 HR0.out 0 p229 q229
  obtain rfl : adp0 = ad229 := (by injection e229)
  have qi229 : (0 < l0.length) = True := eq_true (by omega)
  try simp only [z00, Nat.zero_mul, Addr.add_zero'] at hx229_0 hx229_1 hx229_2
  replace hx229_0 := zc HB hx229_0
  replace hx229_1 := zc HB hx229_1
  replace hx229_2 := zc HB hx229_2
  have HR229_1 := Aside0.mk hi229_1
  have HC229_1 := Aside0.mk hl229_1
  clear hi229_1 hl229_1
  have HR229_2 := Aside0.mk hi229_2
  have HC229_2 := Aside0.mk hl229_2
  clear hi229_2 hl229_2
  replace p229 := eq_true p229
  replace q229 := eq_true q229
  have ea_ := Option.some.inj (hx228_1.symm.trans hx229_1)
  injection ea_ with ea_ en_ ec_
  subst ea_
  subst ec_
  clear en_
  have ea_ := Option.some.inj (hx228_2.symm.trans hx229_2)
  injection ea_ with ea_ en_ ec_
  subst ea_
  subst ec_
  clear en_
  have p230 : 0 ≤ (x5_1 : Int) := of_decide_eq_true zA
  have q230 : x5_1 < (((rd_T31 l0 0).f1).length : Int) := of_decide_eq_true zA
  obtain ⟨ad230, e230, hx230_0, hx230_1, hx230_2⟩ := at_T81 HR229_1.out x5_1 p230 q230
  cases e230
  replace hx230_0 := zc HB hx230_0
  replace hx230_1 := zc HB hx230_1
  replace hx230_2 := zc HB hx230_2
  replace p230 := eq_true p230
  replace q230 := eq_true q230
  go_wp2_with (first | ((with_reducible refine gate_dst (N := 6) rfl ?_); refine zbx 6 #[.int .i8 0, .int .i16 0, .int .i16 0] 81 ?_; intro gb231 hg w21 hbox hb; have n_ : _ ∧ _ ∧ _ ∧ _ ∧ _ := ⟨zr HO_4 hb, zb HB hb, Aside0.mk (hbox), zg HB hg, zg HB hg⟩; clear HO_4 HB; obtain ⟨HO_4, HB, BK231, GW231, GE231⟩ := n_; clear hb hbox hg; obtain ⟨z22_0, z22_1, z22_2, y22_0, y22_1, y22_2⟩ := zB3 BK231; obtain ⟨Ao23, co23, eo23⟩ := Kd.R_slice HO_4.out; subst eo23; have p237 : 0 ≤ (((rd_T81 ((rd_T31 l0 0).f1) x5_1).f1) : Int) := of_decide_eq_true zA; have q237 : ((rd_T81 ((rd_T31 l0 0).f1) x5_1).f1) < (x4_1.length : Int) := of_decide_eq_true zA; obtain ⟨ad237, e237, hx237_0⟩ := Kd.at_int (Kd.R_reads' HO_4.out).2.2 ((rd_T81 ((rd_T31 l0 0).f1) x5_1).f1) p237 q237; cases e237; have hn237_0 : ad237.block ≠ gb231 := Kd.own_blk (Kd.R_ne HO_4.out BK231.out (by decide)); have hn237_1 : ad237.block ≠ gb231 := Kd.own_blk (Kd.R_ne HO_4.out BK231.out (by decide)); have hn237_2 : ad237.block ≠ gb231 := Kd.own_blk (Kd.R_ne HO_4.out BK231.out (by decide)); replace hx237_0 := (cell_far (p := ⟨gb231, 0, none⟩) (by first | (rw [add_block]; exact hn237_0) | (show (Addr.add _ _).block ≠ _; rw [add_block]; exact hn237_0) | exact hn237_0) (.int .i8 ((rd_T81 ((rd_T31 l0 0).f1) x5_1).f0))).trans hx237_0; replace hx237_0 := (cell_far (p := ⟨gb231, 1, none⟩) (by first | (rw [add_block]; exact hn237_1) | (show (Addr.add _ _).block ≠ _; rw [add_block]; exact hn237_1) | exact hn237_1) (.int .i16 ((rd_T81 ((rd_T31 l0 0).f1) x5_1).f1))).trans hx237_0; replace hx237_0 := (cell_far (p := ⟨gb231, 2, none⟩) (by first | (rw [add_block]; exact hn237_2) | (show (Addr.add _ _).block ≠ _; rw [add_block]; exact hn237_2) | exact hn237_2) (.int .i16 ((rd_T81 ((rd_T31 l0 0).f1) x5_1).f2))).trans hx237_0; (try have hy237_0 := fun (n_ : Nat) => (show (((((w21.drewN n_).setCell ⟨gb231, 0, none⟩ (.int .i8 ((rd_T81 ((rd_T31 l0 0).f1) x5_1).f0))).setCell ⟨gb231, 1, none⟩ (.int .i16 ((rd_T81 ((rd_T31 l0 0).f1) x5_1).f1))).setCell ⟨gb231, 2, none⟩ (.int .i16 ((rd_T81 ((rd_T31 l0 0).f1) x5_1).f2)))).cell? _ = some _ from hx237_0)); clear hn237_0; clear hn237_1; clear hn237_2; replace p237 := eq_true p237; replace q237 := eq_true q237; have p238 : 0 ≤ (((rd_T81 ((rd_T31 l0 0).f1) x5_1).f2) : Int) := of_decide_eq_true zA; have q238 : ((rd_T81 ((rd_T31 l0 0).f1) x5_1).f2) < (x4_1.length : Int) := of_decide_eq_true zA; obtain ⟨ad238, e238, hx238_0⟩ := Kd.at_int (Kd.R_reads' HO_4.out).2.2 ((rd_T81 ((rd_T31 l0 0).f1) x5_1).f2) p238 q238; obtain rfl : ad237 = ad238 := (by injection e238); have hn238_0 : ad237.block ≠ gb231 := Kd.own_blk (Kd.R_ne HO_4.out BK231.out (by decide)); have hn238_1 : ad237.block ≠ gb231 := Kd.own_blk (Kd.R_ne HO_4.out BK231.out (by decide)); have hn238_2 : ad237.block ≠ gb231 := Kd.own_blk (Kd.R_ne HO_4.out BK231.out (by decide)); replace hx238_0 := (cell_far (p := ⟨gb231, 0, none⟩) (by first | (rw [add_block]; exact hn238_0) | (show (Addr.add _ _).block ≠ _; rw [add_block]; exact hn238_0) | exact hn238_0) (.int .i8 ((rd_T81 ((rd_T31 l0 0).f1) x5_1).f0))).trans hx238_0; replace hx238_0 := (cell_far (p := ⟨gb231, 1, none⟩) (by first | (rw [add_block]; exact hn238_1) | (show (Addr.add _ _).block ≠ _; rw [add_block]; exact hn238_1) | exact hn238_1) (.int .i16 ((rd_T81 ((rd_T31 l0 0).f1) x5_1).f1))).trans hx238_0; replace hx238_0 := (cell_far (p := ⟨gb231, 2, none⟩) (by first | (rw [add_block]; exact hn238_2) | (show (Addr.add _ _).block ≠ _; rw [add_block]; exact hn238_2) | exact hn238_2) (.int .i16 ((rd_T81 ((rd_T31 l0 0).f1) x5_1).f2))).trans hx238_0; (try have hy238_0 := fun (n_ : Nat) => (show (((((w21.drewN n_).setCell ⟨gb231, 0, none⟩ (.int .i8 ((rd_T81 ((rd_T31 l0 0).f1) x5_1).f0))).setCell ⟨gb231, 1, none⟩ (.int .i16 ((rd_T81 ((rd_T31 l0 0).f1) x5_1).f1))).setCell ⟨gb231, 2, none⟩ (.int .i16 ((rd_T81 ((rd_T31 l0 0).f1) x5_1).f2)))).cell? _ = some _ from hx238_0)); clear hn238_0; clear hn238_1; clear hn238_2; replace p238 := eq_true p238; replace q238 := eq_true q238) | ((with_reducible refine gate_builtin (b := .append) (xs := #[.tmp 71, .tmp 73]) rfl ?_); at_builtin; refine Kd.R_append (Kd.int .u64) (w0 := w) w.heap.size rfl (.tmp 71) (.tmp 73) 53 98 (.int .u64 0) 8 rfl Try.underlying53 info98 rfl (by decide) (by omega) (.slice (some ad237) x4_1.length co23) x4_1 (Go.bits .or .u64 (rd x4_1 ((rd_T81 ((rd_T31 l0 0).f1) x5_1).f1)) (rd x4_1 ((rd_T81 ((rd_T31 l0 0).f1) x5_1).f2))) [.int .u64 (Go.bits .or .u64 (rd x4_1 ((rd_T81 ((rd_T31 l0 0).f1) x5_1).f1)) (rd x4_1 ((rd_T81 ((rd_T31 l0 0).f1) x5_1).f2)))] (fun _ => True) (fun _ => False) rfl (by first | (go_simp; done) | (go_simp; rfl)) ?aP (fun _ hk => hk.elim) ?aF ?aO ?aB ?aS ?aL ?_; (case aP => exact rfl); (case aB => exact zbo); (case aF => exact (fun _ _ => trivial)); (case aO => exact (Kd.R_mono (zs HO_4 BK231).out (fun _ hk => trivial))); (case aS => exact (zz HB)); (case aL => have := LMc20.out; omega); intro v240 w24 ho hb hg hat; rw [← Ny239.out] at ho; have n_ : _ ∧ _ ∧ _ := ⟨Aside0.mk (blk_grown (g := gb231) (o := .cells #[.int .i8 ((rd_T81 ((rd_T31 l0 0).f1) x5_1).f0), .int .i16 ((rd_T81 ((rd_T31 l0 0).f1) x5_1).f1), .int .i16 ((rd_T81 ((rd_T31 l0 0).f1) x5_1).f2)] 81 (0, 0)) (zp BK231) hg (Kd.R_ne HO_4.out BK231.out (by decide))), Aside0.mk (hb), Aside0.mk (ho)⟩; clear BK231 HB HO_4; obtain ⟨BK231, HB, HO241⟩ := n_; clear ho hb hg hat) | go_quiet (fail))
  go_roundg k1
  case measure => have := HK1.out; omega
  case rel => exact ⟨(y239), (wrap64 (x5_1 + 1)), zi, H', ⟨by have := HK1.out; omega⟩, ze HO241, zba⟩
 rw [if_neg c15] at H
 have c15b0 : (((rd_T81 ((rd_T31 l0 0).f1) x5_1).f0) == 2) = false := beq_eq_false_iff_ne.mpr c15
 have c15b1 : (((rd_T81 ((rd_T31 l0 0).f1) x5_1).f0) != 2) = true := bne_iff_ne.mpr c15
 by_cases c25 : ((rd_T81 ((rd_T31 l0 0).f1) x5_1).f0) = 3
 rotate_left
 ·rw [if_neg c25] at H
  have c25b0 : (((rd_T81 ((rd_T31 l0 0).f1) x5_1).f0) == 3) = false := beq_eq_false_iff_ne.mpr c25
  have c25b1 : (((rd_T81 ((rd_T31 l0 0).f1) x5_1).f0) != 3) = true := bne_iff_ne.mpr c25
  by_cases c35 : x4_1.length < 17592186044416
  rotate_left
  ·rw [if_neg c35] at H
   exact absurd H (by simp)
  rw [if_pos c35] at H
  have LMc35 := Aside0.mk c35
  clear c35
  obtain ⟨y247, hy247⟩ : ∃ y_ : List Int, y_ = (x4_1 ++ [t224]) := ⟨_, rfl⟩
  replace H : (spec_l04Tables.l0 k1 l0 t224 y247 (wrap64 (x5_1 + 1))) = some r := by first | (rw [hy247]; with_reducible exact H) | (have H2_ := (Option.bind_some _ _).symm.trans H; rw [hy247]; with_reducible exact H2_) | (have H2_ := (Option.bind_some _ _).symm.trans H; with_reducible exact H2_) | with_reducible exact H | (rw [hy247]; exact H) | exact H
  have Ny247 := Aside0.mk hy247
  clear hy247
  have H' := Aside0.mk H
  clear H
  have p228 : 0 ≤ (0 : Int) := (by omega)
  have q228 : 0 < (l0.length : Int) := of_decide_eq_true zA
  obtain ⟨ad228, A228_1, c228_1, A228_2, c228_2, e228, hx228_0, hx228_1, hx228_2, hl228_1, hi228_1, hl228_2, hi228_2⟩ := at_T31 HR0.out 0 p228 q228
  obtain rfl : adp0 = ad228 := (by injection e228)
  have qi228 : (0 < l0.length) = True := eq_true (by omega)
  try simp only [z00, Nat.zero_mul, Addr.add_zero'] at hx228_0 hx228_1 hx228_2
  replace hx228_0 := zc HB hx228_0
  replace hx228_1 := zc HB hx228_1
  replace hx228_2 := zc HB hx228_2
  have HR228_1 := Aside0.mk hi228_1
  have HC228_1 := Aside0.mk hl228_1
  clear hi228_1 hl228_1
  have HR228_2 := Aside0.mk hi228_2
  have HC228_2 := Aside0.mk hl228_2
  clear hi228_2 hl228_2
  replace p228 := eq_true p228
  replace q228 := eq_true q228
  have p229 : 0 ≤ (0 : Int) := (by omega)
  have q229 : 0 < (l0.length : Int) := of_decide_eq_true zA
  obtain ⟨ad229, A229_1, c229_1, A229_2, c229_2, e229, hx229_0, hx229_1, hx229_2, hl229_1, hi229_1, hl229_2, hi229_2⟩ := at_T31 HR0.out 0 p229 q229
  obtain rfl : adp0 = ad229 := (by injection e229)
  have qi229 : (0 < l0.length) = True := eq_true (by omega)
  try simp only [z00, Nat.zero_mul, Addr.add_zero'] at hx229_0 hx229_1 hx229_2
  replace hx229_0 := zc HB hx229_0
  replace hx229_1 := zc HB hx229_1
  replace hx229_2 := zc HB hx229_2
  have HR229_1 := Aside0.mk hi229_1
  have HC229_1 := Aside0.mk hl229_1
  clear hi229_1 hl229_1
  have HR229_2 := Aside0.mk hi229_2
  have HC229_2 := Aside0.mk hl229_2
  clear hi229_2 hl229_2
  replace p229 := eq_true p229
  replace q229 := eq_true q229
  have ea_ := Option.some.inj (hx228_1.symm.trans hx229_1)
  injection ea_ with ea_ en_ ec_
  subst ea_
  subst ec_
  clear en_
  have ea_ := Option.some.inj (hx228_2.symm.trans hx229_2)
  injection ea_ with ea_ en_ ec_
  subst ea_
  subst ec_
  clear en_
  have p230 : 0 ≤ (x5_1 : Int) := of_decide_eq_true zA
  have q230 : x5_1 < (((rd_T31 l0 0).f1).length : Int) := of_decide_eq_true zA
  obtain ⟨ad230, e230, hx230_0, hx230_1, hx230_2⟩ := at_T81 HR229_1.out x5_1 p230 q230
  cases e230
  replace hx230_0 := zc HB hx230_0
  replace hx230_1 := zc HB hx230_1
  replace hx230_2 := zc HB hx230_2
  replace p230 := eq_true p230
  replace q230 := eq_true q230
  go_wp2_with (first | ((with_reducible refine gate_dst (N := 6) rfl ?_); refine zbx 6 #[.int .i8 0, .int .i16 0, .int .i16 0] 81 ?_; intro gb231 hg w36 hbox hb; have n_ : _ ∧ _ ∧ _ ∧ _ ∧ _ := ⟨zr HO_4 hb, zb HB hb, Aside0.mk (hbox), zg HB hg, zg HB hg⟩; clear HO_4 HB; obtain ⟨HO_4, HB, BK231, GW231, GE231⟩ := n_; clear hb hbox hg; obtain ⟨z37_0, z37_1, z37_2, y37_0, y37_1, y37_2⟩ := zB3 BK231) | ((with_reducible refine gate_builtin (b := .append) (xs := #[.tmp 71, .tmp 73]) rfl ?_); at_builtin; refine Kd.R_append (Kd.int .u64) (w0 := w) w.heap.size rfl (.tmp 71) (.tmp 73) 53 98 (.int .u64 0) 8 rfl Try.underlying53 info98 rfl (by decide) (by omega) u4 x4_1 t224 [.int .u64 t224] (fun _ => True) (fun _ => False) rfl (by first | (go_simp; done) | (go_simp; rfl)) ?aP (fun _ hk => hk.elim) ?aF ?aO ?aB ?aS ?aL ?_; (case aP => exact rfl); (case aB => exact zbo); (case aF => exact (fun _ _ => trivial)); (case aO => exact (Kd.R_mono (zs HO_4 BK231).out (fun _ hk => trivial))); (case aS => exact (zz HB)); (case aL => have := LMc35.out; omega); intro v248 w38 ho hb hg hat; rw [← Ny247.out] at ho; have n_ : _ ∧ _ ∧ _ := ⟨Aside0.mk (blk_grown (g := gb231) (o := .cells #[.int .i8 ((rd_T81 ((rd_T31 l0 0).f1) x5_1).f0), .int .i16 ((rd_T81 ((rd_T31 l0 0).f1) x5_1).f1), .int .i16 ((rd_T81 ((rd_T31 l0 0).f1) x5_1).f2)] 81 (0, 0)) (zp BK231) hg (Kd.R_ne HO_4.out BK231.out (by decide))), Aside0.mk (hb), Aside0.mk (ho)⟩; clear BK231 HB HO_4; obtain ⟨BK231, HB, HO249⟩ := n_; clear ho hb hg hat) | go_quiet (fail))
  go_roundg k1
  case measure => have := HK1.out; omega
  case rel => exact ⟨(y247), (wrap64 (x5_1 + 1)), zi, H', ⟨by have := HK1.out; omega⟩, ze HO249, zba⟩
 rw [if_pos c25] at H
 have c25b0 : (((rd_T81 ((rd_T31 l0 0).f1) x5_1).f0) == 3) = true := beq_iff_eq.mpr c25
 have c25b1 : (((rd_T81 ((rd_T31 l0 0).f1) x5_1).f0) != 3) = false := bne_eq_false_iff_eq.mpr c25
 clear c25
 by_cases c26 : 0 ≤ ((rd_T81 ((rd_T31 l0 0).f1) x5_1).f1)
 rotate_left
 ·rw [if_neg c26] at H
  exact absurd H (by simp)
 rw [if_pos c26] at H
 have c26b0 : decide (0 ≤ ((rd_T81 ((rd_T31 l0 0).f1) x5_1).f1)) = true := decide_eq_true c26
 clear c26
 by_cases c27 : ((rd_T81 ((rd_T31 l0 0).f1) x5_1).f1) < (x4_1.length : Int)
 rotate_left
 ·rw [if_neg c27] at H
  exact absurd H (by simp)
 rw [if_pos c27] at H
 have c27b0 : decide (((rd_T81 ((rd_T31 l0 0).f1) x5_1).f1) < (x4_1.length : Int)) = true := decide_eq_true c27
 clear c27
 by_cases c28 : 0 ≤ ((rd_T81 ((rd_T31 l0 0).f1) x5_1).f2)
 rotate_left
 ·rw [if_neg c28] at H
  exact absurd H (by simp)
 rw [if_pos c28] at H
 have c28b0 : decide (0 ≤ ((rd_T81 ((rd_T31 l0 0).f1) x5_1).f2)) = true := decide_eq_true c28
 clear c28
 by_cases c29 : ((rd_T81 ((rd_T31 l0 0).f1) x5_1).f2) < (x4_1.length : Int)
 rotate_left
 ·rw [if_neg c29] at H
  exact absurd H (by simp)
 rw [if_pos c29] at H
 have c29b0 : decide (((rd_T81 ((rd_T31 l0 0).f1) x5_1).f2) < (x4_1.length : Int)) = true := decide_eq_true c29
 clear c29
 by_cases c30 : x4_1.length < 17592186044416
 rotate_left
 ·rw [if_neg c30] at H
  exact absurd H (by simp)
 rw [if_pos c30] at H
 have LMc30 := Aside0.mk c30
 clear c30
 obtain ⟨y244, hy244⟩ : ∃ y_ : List Int, y_ = (x4_1 ++ [Go.bits .andNot .u64 (rd x4_1 ((rd_T81 ((rd_T31 l0 0).f1) x5_1).f1)) (rd x4_1 ((rd_T81 ((rd_T31 l0 0).f1) x5_1).f2))]) := ⟨_, rfl⟩
 replace H : (spec_l04Tables.l0 k1 l0 t224 y244 (wrap64 (x5_1 + 1))) = some r := by first | (rw [hy244]; with_reducible exact H) | (have H2_ := (Option.bind_some _ _).symm.trans H; rw [hy244]; with_reducible exact H2_) | (have H2_ := (Option.bind_some _ _).symm.trans H; with_reducible exact H2_) | with_reducible exact H | (rw [hy244]; exact H) | exact H
 have Ny244 := Aside0.mk hy244
 clear hy244
 have H' := Aside0.mk H
 clear H
 have p228 : 0 ≤ (0 : Int) := (by omega)
 have q228 : 0 < (l0.length : Int) := of_decide_eq_true zA
 obtain ⟨ad228, A228_1, c228_1, A228_2, c228_2, e228, hx228_0, hx228_1, hx228_2, hl228_1, hi228_1, hl228_2, hi228_2⟩ := at_T31 HR0.out 0 p228 q228
 obtain rfl : adp0 = ad228 := (by injection e228)
 have qi228 : (0 < l0.length) = True := eq_true (by omega)
 try simp only [z00, Nat.zero_mul, Addr.add_zero'] at hx228_0 hx228_1 hx228_2
 replace hx228_0 := zc HB hx228_0
 replace hx228_1 := zc HB hx228_1
 replace hx228_2 := zc HB hx228_2
 have HR228_1 := Aside0.mk hi228_1
 have HC228_1 := Aside0.mk hl228_1
 clear hi228_1 hl228_1
 have HR228_2 := Aside0.mk hi228_2
 have HC228_2 := Aside0.mk hl228_2
 clear hi228_2 hl228_2
 replace p228 := eq_true p228
 replace q228 := eq_true q228
 have p229 : 0 ≤ (0 : Int) := (by omega)
 have q229 : 0 < (l0.length : Int) := of_decide_eq_true zA
 obtain ⟨ad229, A229_1, c229_1, A229_2, c229_2, e229, hx229_0, hx229_1, hx229_2, hl229_1, hi229_1, hl229_2, hi229_2⟩ := at_T31 HR0.out 0 p229 q229
 obtain rfl : adp0 = ad229 := (by injection e229)
 have qi229 : (0 < l0.length) = True := eq_true (by omega)
 try simp only [z00, Nat.zero_mul, Addr.add_zero'] at hx229_0 hx229_1 hx229_2
 replace hx229_0 := zc HB hx229_0
 replace hx229_1 := zc HB hx229_1
 replace hx229_2 := zc HB hx229_2
 have HR229_1 := Aside0.mk hi229_1
 have HC229_1 := Aside0.mk hl229_1
 clear hi229_1 hl229_1
 have HR229_2 := Aside0.mk hi229_2
 have HC229_2 := Aside0.mk hl229_2
 clear hi229_2 hl229_2
 replace p229 := eq_true p229
 replace q229 := eq_true q229
 have ea_ := Option.some.inj (hx228_1.symm.trans hx229_1)
 injection ea_ with ea_ en_ ec_
 subst ea_
 subst ec_
 clear en_
 have ea_ := Option.some.inj (hx228_2.symm.trans hx229_2)
 injection ea_ with ea_ en_ ec_
 subst ea_
 subst ec_
 clear en_
 have p230 : 0 ≤ (x5_1 : Int) := of_decide_eq_true zA
 have q230 : x5_1 < (((rd_T31 l0 0).f1).length : Int) := of_decide_eq_true zA
 obtain ⟨ad230, e230, hx230_0, hx230_1, hx230_2⟩ := at_T81 HR229_1.out x5_1 p230 q230
 cases e230
 replace hx230_0 := zc HB hx230_0
 replace hx230_1 := zc HB hx230_1
 replace hx230_2 := zc HB hx230_2
 replace p230 := eq_true p230
 replace q230 := eq_true q230
 go_wp2_with (first | ((with_reducible refine gate_dst (N := 6) rfl ?_); refine zbx 6 #[.int .i8 0, .int .i16 0, .int .i16 0] 81 ?_; intro gb231 hg w31 hbox hb; have n_ : _ ∧ _ ∧ _ ∧ _ ∧ _ := ⟨zr HO_4 hb, zb HB hb, Aside0.mk (hbox), zg HB hg, zg HB hg⟩; clear HO_4 HB; obtain ⟨HO_4, HB, BK231, GW231, GE231⟩ := n_; clear hb hbox hg; obtain ⟨z32_0, z32_1, z32_2, y32_0, y32_1, y32_2⟩ := zB3 BK231; obtain ⟨Ao33, co33, eo33⟩ := Kd.R_slice HO_4.out; subst eo33; have p242 : 0 ≤ (((rd_T81 ((rd_T31 l0 0).f1) x5_1).f1) : Int) := of_decide_eq_true zA; have q242 : ((rd_T81 ((rd_T31 l0 0).f1) x5_1).f1) < (x4_1.length : Int) := of_decide_eq_true zA; obtain ⟨ad242, e242, hx242_0⟩ := Kd.at_int (Kd.R_reads' HO_4.out).2.2 ((rd_T81 ((rd_T31 l0 0).f1) x5_1).f1) p242 q242; cases e242; have hn242_0 : ad242.block ≠ gb231 := Kd.own_blk (Kd.R_ne HO_4.out BK231.out (by decide)); have hn242_1 : ad242.block ≠ gb231 := Kd.own_blk (Kd.R_ne HO_4.out BK231.out (by decide)); have hn242_2 : ad242.block ≠ gb231 := Kd.own_blk (Kd.R_ne HO_4.out BK231.out (by decide)); replace hx242_0 := (cell_far (p := ⟨gb231, 0, none⟩) (by first | (rw [add_block]; exact hn242_0) | (show (Addr.add _ _).block ≠ _; rw [add_block]; exact hn242_0) | exact hn242_0) (.int .i8 ((rd_T81 ((rd_T31 l0 0).f1) x5_1).f0))).trans hx242_0; replace hx242_0 := (cell_far (p := ⟨gb231, 1, none⟩) (by first | (rw [add_block]; exact hn242_1) | (show (Addr.add _ _).block ≠ _; rw [add_block]; exact hn242_1) | exact hn242_1) (.int .i16 ((rd_T81 ((rd_T31 l0 0).f1) x5_1).f1))).trans hx242_0; replace hx242_0 := (cell_far (p := ⟨gb231, 2, none⟩) (by first | (rw [add_block]; exact hn242_2) | (show (Addr.add _ _).block ≠ _; rw [add_block]; exact hn242_2) | exact hn242_2) (.int .i16 ((rd_T81 ((rd_T31 l0 0).f1) x5_1).f2))).trans hx242_0; (try have hy242_0 := fun (n_ : Nat) => (show (((((w31.drewN n_).setCell ⟨gb231, 0, none⟩ (.int .i8 ((rd_T81 ((rd_T31 l0 0).f1) x5_1).f0))).setCell ⟨gb231, 1, none⟩ (.int .i16 ((rd_T81 ((rd_T31 l0 0).f1) x5_1).f1))).setCell ⟨gb231, 2, none⟩ (.int .i16 ((rd_T81 ((rd_T31 l0 0).f1) x5_1).f2)))).cell? _ = some _ from hx242_0)); clear hn242_0; clear hn242_1; clear hn242_2; replace p242 := eq_true p242; replace q242 := eq_true q242; have p243 : 0 ≤ (((rd_T81 ((rd_T31 l0 0).f1) x5_1).f2) : Int) := of_decide_eq_true zA; have q243 : ((rd_T81 ((rd_T31 l0 0).f1) x5_1).f2) < (x4_1.length : Int) := of_decide_eq_true zA; obtain ⟨ad243, e243, hx243_0⟩ := Kd.at_int (Kd.R_reads' HO_4.out).2.2 ((rd_T81 ((rd_T31 l0 0).f1) x5_1).f2) p243 q243; obtain rfl : ad242 = ad243 := (by injection e243); have hn243_0 : ad242.block ≠ gb231 := Kd.own_blk (Kd.R_ne HO_4.out BK231.out (by decide)); have hn243_1 : ad242.block ≠ gb231 := Kd.own_blk (Kd.R_ne HO_4.out BK231.out (by decide)); have hn243_2 : ad242.block ≠ gb231 := Kd.own_blk (Kd.R_ne HO_4.out BK231.out (by decide)); replace hx243_0 := (cell_far (p := ⟨gb231, 0, none⟩) (by first | (rw [add_block]; exact hn243_0) | (show (Addr.add _ _).block ≠ _; rw [add_block]; exact hn243_0) | exact hn243_0) (.int .i8 ((rd_T81 ((rd_T31 l0 0).f1) x5_1).f0))).trans hx243_0; replace hx243_0 := (cell_far (p := ⟨gb231, 1, none⟩) (by first | (rw [add_block]; exact hn243_1) | (show (Addr.add _ _).block ≠ _; rw [add_block]; exact hn243_1) | exact hn243_1) (.int .i16 ((rd_T81 ((rd_T31 l0 0).f1) x5_1).f1))).trans hx243_0; replace hx243_0 := (cell_far (p := ⟨gb231, 2, none⟩) (by first | (rw [add_block]; exact hn243_2) | (show (Addr.add _ _).block ≠ _; rw [add_block]; exact hn243_2) | exact hn243_2) (.int .i16 ((rd_T81 ((rd_T31 l0 0).f1) x5_1).f2))).trans hx243_0; (try have hy243_0 := fun (n_ : Nat) => (show (((((w31.drewN n_).setCell ⟨gb231, 0, none⟩ (.int .i8 ((rd_T81 ((rd_T31 l0 0).f1) x5_1).f0))).setCell ⟨gb231, 1, none⟩ (.int .i16 ((rd_T81 ((rd_T31 l0 0).f1) x5_1).f1))).setCell ⟨gb231, 2, none⟩ (.int .i16 ((rd_T81 ((rd_T31 l0 0).f1) x5_1).f2)))).cell? _ = some _ from hx243_0)); clear hn243_0; clear hn243_1; clear hn243_2; replace p243 := eq_true p243; replace q243 := eq_true q243) | ((with_reducible refine gate_builtin (b := .append) (xs := #[.tmp 71, .tmp 73]) rfl ?_); at_builtin; refine Kd.R_append (Kd.int .u64) (w0 := w) w.heap.size rfl (.tmp 71) (.tmp 73) 53 98 (.int .u64 0) 8 rfl Try.underlying53 info98 rfl (by decide) (by omega) (.slice (some ad242) x4_1.length co33) x4_1 (Go.bits .andNot .u64 (rd x4_1 ((rd_T81 ((rd_T31 l0 0).f1) x5_1).f1)) (rd x4_1 ((rd_T81 ((rd_T31 l0 0).f1) x5_1).f2))) [.int .u64 (Go.bits .andNot .u64 (rd x4_1 ((rd_T81 ((rd_T31 l0 0).f1) x5_1).f1)) (rd x4_1 ((rd_T81 ((rd_T31 l0 0).f1) x5_1).f2)))] (fun _ => True) (fun _ => False) rfl (by first | (go_simp; done) | (go_simp; rfl)) ?aP (fun _ hk => hk.elim) ?aF ?aO ?aB ?aS ?aL ?_; (case aP => exact rfl); (case aB => exact zbo); (case aF => exact (fun _ _ => trivial)); (case aO => exact (Kd.R_mono (zs HO_4 BK231).out (fun _ hk => trivial))); (case aS => exact (zz HB)); (case aL => have := LMc30.out; omega); intro v245 w34 ho hb hg hat; rw [← Ny244.out] at ho; have n_ : _ ∧ _ ∧ _ := ⟨Aside0.mk (blk_grown (g := gb231) (o := .cells #[.int .i8 ((rd_T81 ((rd_T31 l0 0).f1) x5_1).f0), .int .i16 ((rd_T81 ((rd_T31 l0 0).f1) x5_1).f1), .int .i16 ((rd_T81 ((rd_T31 l0 0).f1) x5_1).f2)] 81 (0, 0)) (zp BK231) hg (Kd.R_ne HO_4.out BK231.out (by decide))), Aside0.mk (hb), Aside0.mk (ho)⟩; clear BK231 HB HO_4; obtain ⟨BK231, HB, HO246⟩ := n_; clear ho hb hg hat) | go_quiet (fail))
 go_roundg k1
 case measure => have := HK1.out; omega
 case rel => exact ⟨(y244), (wrap64 (x5_1 + 1)), zi, H', ⟨by have := HK1.out; omega⟩, ze HO246, zba⟩
end Go.Proofs.Ytmpmanfoiocfgaa.PFnExactSimplifyNetwork
