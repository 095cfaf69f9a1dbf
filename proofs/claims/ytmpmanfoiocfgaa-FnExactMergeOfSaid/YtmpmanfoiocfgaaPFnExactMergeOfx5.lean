-- WRITTEN by xprint.py, a program of this session's. Not trusted: Lean checks it.
-- packed by pack.py
import Derived.Test.YtmpmanfoiocfgaaPFnExactMergeOfx0
import Derived.Test.YtmpmanfoiocfgaaTFnExactMergeOfa
namespace Go.Proofs.Ytmpmanfoiocfgaa.PFnExactMergeOf
open Go.RowKit Go.Proofs.YtmpmanfoiocfgaaW.PrintWords Go.Proofs.YtmpmanfoiocfgaaW.PrintLast Go.Proofs.YtmpmanfoiocfgaaW.PrintMore Go.Proofs.YtmpmanfoiocfgaaX
attribute [local go_sem] max2_int min2_int max_two min_two max_three min_three max_four min_four   -- for this text's walks alone
set_option linter.unusedVariables false
set_option linter.unusedSimpArgs false

/-! ### spec_l04Rows: function 90 -/
def spec_l04Rows.f (a0 : Int) : Option (Int) := if 0 ≤ (IntKind.u64.wrap (a0)) then (some (shl .i64 1 (IntKind.u64.wrap (a0)))) else (none)
set_option maxHeartbeats 8000000 in
set_option maxRecDepth 100000 in
theorem spec_l04Rows.calls (a0 : Int) (r : Int) (w : World) (h : spec_l04Rows.f a0 = some r) :
    Calls Try.prog 90 #[.int .i64 a0] w fun e w' => e = .returned (.int .i64 r) ∧ Drawn0 w w' := by
 have H : (if 0 ≤ (IntKind.u64.wrap (a0)) then (some (shl .i64 1 (IntKind.u64.wrap (a0)))) else (none)) = some r := h
 clear h
 obtain ⟨ji2, hji2⟩ : ∃ j_ : Int, (IntKind.u64.wrap (a0)) = j_ := ⟨_, rfl⟩
 replace H : (if 0 ≤ (ji2) then (some (shl .i64 1 (ji2))) else (none)) = some r := by first | (rw [hji2] at H; exact H) | (simp only [hji2] at H ⊢; exact H)
 by_cases c3 : 0 ≤ (ji2)
 rotate_left
 ·rw [if_neg c3] at H
  exact absurd H (by simp)
 rw [if_pos c3] at H
 have c3b0 := eq_true c3
 have c3b1 : decide (0 ≤ (ji2)) = true := decide_eq_true c3
 clear c3
 obtain ⟨ji4, hji4⟩ : ∃ j_ : Int, (shl .i64 1 (ji2)) = j_ := ⟨_, rfl⟩
 replace H : (some ji4) = some r := by first | (rw [hji4] at H; exact H) | (simp only [hji4] at H ⊢; exact H)
 have hji4_ : (IntKind.i64.wrap (1 * 2 ^ min (ji2).toNat 64)) = ji4 := hji4
 have hji4z : (ji2) ≤ 64 → (IntKind.i64.wrap (1 * 2 ^ (ji2).toNat)) = ji4 := shl_small hji4
 have hji4u : (IntKind.i64.wrap (2 ^ min (ji2).toNat 64)) = ji4 := by have h_ := hji4_; rw [Int.one_mul] at h_; exact h_
 have hji4v : (ji2) ≤ 64 → (IntKind.i64.wrap (2 ^ (ji2).toNat)) = ji4 := fun hle_ => by have h_ := hji4z hle_; rw [Int.one_mul] at h_; exact h_
 have hji4y : (wrap64 (1 * 2 ^ min (ji2).toNat 64)) = ji4 := (i64_w _).symm.trans hji4_
 have hji4x : (ji2) ≤ 64 → (wrap64 (1 * 2 ^ (ji2).toNat)) = ji4 := fun h_ => (i64_w _).symm.trans (hji4z h_)
 obtain rfl := Option.some.inj H
 go_enter Try.func90, Try.ntmps90
 go_wp2
 go_ret
 exact ⟨by first | rfl | (simp; done) | (simp only [← hji2, ← hji4] <;> (first | rfl | simp)) | (simp [*]; done) | (exact congrArg (Value.int .i64) (wrap_eq (by omega))), by repeat (first | exact Drawn0.refl _ | apply Drawn0.step)⟩
/-! ### spec_l04Full: function 128 -/
def spec_l04Full.f (a0 : Int) : Option (Int) := (spec_l04Rows.f a0).bind fun t176 => (if 0 ≤ (IntKind.u64.wrap (wrap64 (64 - t176))) then (some (shr .u64 18446744073709551615 (IntKind.u64.wrap (wrap64 (64 - t176))))) else (none))
set_option maxHeartbeats 8000000 in
set_option maxRecDepth 100000 in
theorem spec_l04Full.calls (a0 : Int) (r : Int) (w : World) (h : spec_l04Full.f a0 = some r) :
    Calls Try.prog 128 #[.int .i64 a0] w fun e w' => e = .returned (.int .u64 r) ∧ Drawn0 w w' := by
 have H : ((spec_l04Rows.f a0).bind fun t176 => (if 0 ≤ (IntKind.u64.wrap (wrap64 (64 - t176))) then (some (shr .u64 18446744073709551615 (IntKind.u64.wrap (wrap64 (64 - t176))))) else (none))) = some r := h
 clear h
 replace H := Option.bind_eq_some_iff.mp H
 obtain ⟨t176, A20, H⟩ := H
 replace H : (if 0 ≤ (IntKind.u64.wrap (wrap64 (64 - t176))) then (some (shr .u64 18446744073709551615 (IntKind.u64.wrap (wrap64 (64 - t176))))) else (none)) = some r := H
 have A2 := Aside0.mk A20
 clear A20
 obtain ⟨ji3, hji3⟩ : ∃ j_ : Int, (IntKind.u64.wrap (wrap64 (64 - t176))) = j_ := ⟨_, rfl⟩
 replace H : (if 0 ≤ (ji3) then (some (shr .u64 18446744073709551615 (ji3))) else (none)) = some r := by first | (rw [hji3] at H; exact H) | (simp only [hji3] at H ⊢; exact H)
 (try rw [hji3] at A2)
 by_cases c4 : 0 ≤ (ji3)
 rotate_left
 ·rw [if_neg c4] at H
  exact absurd H (by simp)
 rw [if_pos c4] at H
 have c4b0 := eq_true c4
 have c4b1 : decide (0 ≤ (ji3)) = true := decide_eq_true c4
 clear c4
 obtain ⟨ji5, hji5⟩ : ∃ j_ : Int, (shr .u64 18446744073709551615 (ji3)) = j_ := ⟨_, rfl⟩
 replace H : (some ji5) = some r := by first | (rw [hji5] at H; exact H) | (simp only [hji5] at H ⊢; exact H)
 (try rw [hji5] at A2)
 have hji5_ : (18446744073709551615 / 2 ^ min (ji3).toNat 64) = ji5 := hji5
 have hji5z : (ji3) ≤ 64 → (18446744073709551615 / 2 ^ (ji3).toNat) = ji5 := shr_small hji5
 obtain rfl := Option.some.inj H
 go_enter Try.func128, Try.ntmps128
 go_wp2_with (first | ((with_reducible refine gate_callee (f := 90) rfl ?_); refine goesL_ (some 4) rfl rfl Try.func90 (by kernel_rfl) rfl #[.int .i64 a0] rfl (by (try simp only [List.map_toArray, List.map_cons, List.map_nil]); first | done | rfl | (simp only [List.length_drop, List.length_take]; rfl)) ?_; (with_reducible refine (spec_l04Rows.calls a0 t176 _ A2.out).mono ?_); rintro e w' ⟨rfl, ⟨nd, rfl⟩⟩; refine ⟨_, rfl, ?_⟩))
 go_ret
 exact ⟨by first | rfl | (simp; done) | (simp only [← hji3, ← hji5] <;> (first | rfl | simp)) | (simp [*]; done) | (exact congrArg (Value.int .i64) (wrap_eq (by omega))), by repeat (first | exact Drawn0.refl _ | apply Drawn0.step)⟩
/-! ### spec_l04Input: function 129 -/
def spec_l04Input.l0 : Nat → Int → Int → Int → Int → Option (Int)
  | 0, _, _, _, _ => none
  | k + 1, x0, x1, x5, x6 => (spec_l04Rows.f x0).bind fun t177 => (if x6 < t177 then (if 0 ≤ (IntKind.u64.wrap (x1)) then (if 0 ≤ (IntKind.u64.wrap (x6)) then (spec_l04Input.l0 k x0 x1 (Go.bits .or .u64 x5 (shl .u64 (IntKind.u64.wrap (Go.bits .and .i64 (shr .i64 x6 (IntKind.u64.wrap (x1))) 1)) (IntKind.u64.wrap (x6)))) (wrap64 (x6 + 1))) else (none)) else (none)) else (some x5))
def spec_l04Input.f (k : Nat) (a0 : Int) (a1 : Int) : Option (Int) := spec_l04Input.l0 k a0 a1 0 0
theorem spec_l04Input.mono_l : ∀ k, (∀ y0 y1 y2 y3, LeO (spec_l04Input.l0 k y0 y1 y2 y3) (spec_l04Input.l0 (k + 1) y0 y1 y2 y3))
  | 0 => fun _ _ _ _ r h => by simp [spec_l04Input.l0] at h
  | k + 1 => by
    have ih0 := spec_l04Input.mono_l k
    · intro y0 y1 y2 y3
      unfold spec_l04Input.l0
      repeat' first | (with_reducible first | apply ih0 | exact LeO.refl _ | exact LeO.none _ | refine LeO.ite ?_ ?_ | refine LeO.bind ?_ (fun _ => ?_)) | apply ih0 | exact LeO.none _ | refine LeO.ite ?_ ?_ | refine LeO.bind ?_ (fun _ => ?_)
theorem spec_l04Input.mono : ∀ a0 a1 k, LeO (spec_l04Input.f k a0 a1) (spec_l04Input.f (k + 1) a0 a1) := by
 intro a0 a1 k
 have ih0 := spec_l04Input.mono_l k
 unfold spec_l04Input.f
 repeat' first | (with_reducible first | apply ih0 | exact LeO.refl _ | exact LeO.none _ | refine LeO.ite ?_ ?_ | refine LeO.bind ?_ (fun _ => ?_)) | apply ih0 | exact LeO.none _ | refine LeO.ite ?_ ?_ | refine LeO.bind ?_ (fun _ => ?_)
set_option maxHeartbeats 8000000 in
set_option maxRecDepth 100000 in
theorem spec_l04Input.calls (k : Nat) (a0 : Int) (a1 : Int) (r : Int) (w : World) (h : spec_l04Input.f k a0 a1 = some r) :
    Calls Try.prog 129 #[.int .i64 a0, .int .i64 a1] w fun e w' => e = .returned (.int .u64 r) ∧ Drawn0 w w' := by
 have H : (spec_l04Input.l0 k a0 a1 0 0) = some r := h
 clear h
 have H' := Aside0.mk H
 clear H
 go_enter Try.func129, Try.ntmps129
 go_wp2
 go_loopg [5, 6] k (fun kq v5 v6 w' => ∃ (x5_1 : Int) (x6_1 : Int), v5 = .int .u64 x5_1 ∧ v6 = .int .i64 x6_1 ∧ Aside0 (spec_l04Input.l0 kq a0 a1 x5_1 x6_1 = some r) ∧ Aside0 (kq ≤ k) ∧ Drawn0 w w')
 case atStart => exact ⟨(0), (0), (by first | rfl | (simp; done) | (simp [*]; done) | (exact congrArg (Value.int .i64) (wrap_eq (by omega)))), (by first | rfl | (simp; done) | (simp [*]; done) | (exact congrArg (Value.int .i64) (wrap_eq (by omega)))), H', ⟨Nat.le_refl _⟩, by repeat (first | exact Drawn0.refl _ | apply Drawn0.step)⟩
 clear H'
 try clear c1
 try clear p2
 obtain ⟨x5_1, x6_1, rfl, rfl, HA, HK1, ⟨m1, rfl⟩⟩ := hrel
 cases gk with
 | zero => exact absurd HA.out (by simp [spec_l04Input.l0])
 | succ k1 => ?_
 have H := HA.out
 clear HA
 simp only [spec_l04Input.l0] at H
 replace H := Option.bind_eq_some_iff.mp H
 obtain ⟨t177, A30, H⟩ := H
 replace H : (if x6_1 < t177 then (if 0 ≤ (IntKind.u64.wrap (a1)) then (if 0 ≤ (IntKind.u64.wrap (x6_1)) then (spec_l04Input.l0 k1 a0 a1 (Go.bits .or .u64 x5_1 (shl .u64 (IntKind.u64.wrap (Go.bits .and .i64 (shr .i64 x6_1 (IntKind.u64.wrap (a1))) 1)) (IntKind.u64.wrap (x6_1)))) (wrap64 (x6_1 + 1))) else (none)) else (none)) else (some x5_1)) = some r := H
 have A3 := Aside0.mk A30
 clear A30
 by_cases c4 : x6_1 < t177
 rotate_left
 ·rw [if_neg c4] at H
  have c4b0 : decide (x6_1 < t177) = false := decide_eq_false c4
  clear c4
  obtain rfl := Option.some.inj H
  go_wp2_with (first | ((with_reducible refine gate_callee (f := 90) rfl ?_); refine goesL_ (some 9) rfl rfl Try.func90 (by kernel_rfl) rfl #[.int .i64 a0] rfl (by (try simp only [List.map_toArray, List.map_cons, List.map_nil]); first | done | rfl | (simp only [List.length_drop, List.length_take]; rfl)) ?_; (with_reducible refine (spec_l04Rows.calls a0 t177 _ A3.out).mono ?_); rintro e w' ⟨rfl, ⟨nd, rfl⟩⟩; refine ⟨_, rfl, ?_⟩))
  go_ret
  exact ⟨by first | rfl | (simp; done) | (simp [*]; done) | (exact congrArg (Value.int .i64) (wrap_eq (by omega))), by repeat (first | exact Drawn0.refl _ | apply Drawn0.step)⟩
 rw [if_pos c4] at H
 have c4b0 : decide (x6_1 < t177) = true := decide_eq_true c4
 clear c4
 obtain ⟨ji5, hji5⟩ : ∃ j_ : Int, (IntKind.u64.wrap (a1)) = j_ := ⟨_, rfl⟩
 replace H : (if 0 ≤ (ji5) then (if 0 ≤ (IntKind.u64.wrap (x6_1)) then (spec_l04Input.l0 k1 a0 a1 (Go.bits .or .u64 x5_1 (shl .u64 (IntKind.u64.wrap (Go.bits .and .i64 (shr .i64 x6_1 (ji5)) 1)) (IntKind.u64.wrap (x6_1)))) (wrap64 (x6_1 + 1))) else (none)) else (none)) = some r := by first | (rw [hji5] at H; exact H) | (simp only [hji5] at H ⊢; exact H)
 (try rw [hji5] at A3)
 by_cases c6 : 0 ≤ (ji5)
 rotate_left
 ·rw [if_neg c6] at H
  exact absurd H (by simp)
 rw [if_pos c6] at H
 have c6b0 := eq_true c6
 have c6b1 : decide (0 ≤ (ji5)) = true := decide_eq_true c6
 clear c6
 obtain ⟨ji7, hji7⟩ : ∃ j_ : Int, (shr .i64 x6_1 (ji5)) = j_ := ⟨_, rfl⟩
 replace H : (if 0 ≤ (IntKind.u64.wrap (x6_1)) then (spec_l04Input.l0 k1 a0 a1 (Go.bits .or .u64 x5_1 (shl .u64 (IntKind.u64.wrap (Go.bits .and .i64 (ji7) 1)) (IntKind.u64.wrap (x6_1)))) (wrap64 (x6_1 + 1))) else (none)) = some r := by first | (rw [hji7] at H; exact H) | (simp only [hji7] at H ⊢; exact H)
 (try rw [hji7] at A3)
 have hji7_ : (x6_1 / 2 ^ min (ji5).toNat 64) = ji7 := hji7
 have hji7z : (ji5) ≤ 64 → (x6_1 / 2 ^ (ji5).toNat) = ji7 := shr_small hji7
 obtain ⟨ji8, hji8⟩ : ∃ j_ : Int, (IntKind.u64.wrap (x6_1)) = j_ := ⟨_, rfl⟩
 replace H : (if 0 ≤ (ji8) then (spec_l04Input.l0 k1 a0 a1 (Go.bits .or .u64 x5_1 (shl .u64 (IntKind.u64.wrap (Go.bits .and .i64 (ji7) 1)) (ji8))) (wrap64 (x6_1 + 1))) else (none)) = some r := by first | (rw [hji8] at H; exact H) | (simp only [hji8] at H ⊢; exact H)
 (try rw [hji8] at A3)
 by_cases c9 : 0 ≤ (ji8)
 rotate_left
 ·rw [if_neg c9] at H
  exact absurd H (by simp)
 rw [if_pos c9] at H
 have c9b0 := eq_true c9
 have c9b1 : decide (0 ≤ (ji8)) = true := decide_eq_true c9
 clear c9
 obtain ⟨ji10, hji10⟩ : ∃ j_ : Int, (shl .u64 (IntKind.u64.wrap (Go.bits .and .i64 (ji7) 1)) (ji8)) = j_ := ⟨_, rfl⟩
 replace H : (spec_l04Input.l0 k1 a0 a1 (Go.bits .or .u64 x5_1 (ji10)) (wrap64 (x6_1 + 1))) = some r := by first | (rw [hji10] at H; exact H) | (simp only [hji10] at H ⊢; exact H)
 (try rw [hji10] at A3)
 have hji10_ : (IntKind.u64.wrap ((IntKind.u64.wrap (Go.bits .and .i64 (ji7) 1)) * 2 ^ min (ji8).toNat 64)) = ji10 := hji10
 have hji10z : (ji8) ≤ 64 → (IntKind.u64.wrap ((IntKind.u64.wrap (Go.bits .and .i64 (ji7) 1)) * 2 ^ (ji8).toNat)) = ji10 := shl_small hji10
 have H' := Aside0.mk H
 clear H
 go_wp2_with (first | ((with_reducible refine gate_callee (f := 90) rfl ?_); refine goesL_ (some 9) rfl rfl Try.func90 (by kernel_rfl) rfl #[.int .i64 a0] rfl (by (try simp only [List.map_toArray, List.map_cons, List.map_nil]); first | done | rfl | (simp only [List.length_drop, List.length_take]; rfl)) ?_; (with_reducible refine (spec_l04Rows.calls a0 t177 _ A3.out).mono ?_); rintro e w' ⟨rfl, ⟨nd, rfl⟩⟩; refine ⟨_, rfl, ?_⟩))
 go_roundg k1
 case measure => have := HK1.out; omega
 case rel => exact ⟨(Go.bits .or .u64 x5_1 (ji10)), (wrap64 (x6_1 + 1)), (by first | rfl | (simp; done) | (simp only [← hji10] <;> (first | rfl | simp)) | (simp [*]; done) | (exact congrArg (Value.int .i64) (wrap_eq (by omega)))), (by first | rfl | (simp; done) | (simp [*]; done) | (exact congrArg (Value.int .i64) (wrap_eq (by omega)))), H', ⟨by have := HK1.out; omega⟩, by repeat (first | exact Drawn0.refl _ | apply Drawn0.step)⟩
/-! ### spec_l04Tables: function 96 -/
def spec_l04Tables.l0 : Nat → List (S31) → Int → List Int → Int → Option (List Int)
  | 0, _, _, _, _ => none
  | k + 1, x0, x3, x4, x5 => if 0 < (x0.length : Int) then (if x5 < (((rd_T31 x0 0).f1).length : Int) then (if 0 ≤ x5 then (if ((rd_T81 ((rd_T31 x0 0).f1) x5).f0) = 0 then ((spec_l04Input.f k (wrap64 ((rd_T31 x0 0).f0)) (wrap64 ((rd_T81 ((rd_T31 x0 0).f1) x5).f1))).bind fun t188 => (if x4.length < 17592186044416 then (spec_l04Tables.l0 k x0 x3 (x4 ++ [t188]) (wrap64 (x5 + 1))) else (none))) else (if ((rd_T81 ((rd_T31 x0 0).f1) x5).f0) = 2 then (if 0 ≤ ((rd_T81 ((rd_T31 x0 0).f1) x5).f1) then (if ((rd_T81 ((rd_T31 x0 0).f1) x5).f1) < (x4.length : Int) then (if 0 ≤ ((rd_T81 ((rd_T31 x0 0).f1) x5).f2) then (if ((rd_T81 ((rd_T31 x0 0).f1) x5).f2) < (x4.length : Int) then (if x4.length < 17592186044416 then (spec_l04Tables.l0 k x0 x3 (x4 ++ [Go.bits .or .u64 (rd x4 ((rd_T81 ((rd_T31 x0 0).f1) x5).f1)) (rd x4 ((rd_T81 ((rd_T31 x0 0).f1) x5).f2))]) (wrap64 (x5 + 1))) else (none)) else (none)) else (none)) else (none)) else (none)) else (if ((rd_T81 ((rd_T31 x0 0).f1) x5).f0) = 3 then (if 0 ≤ ((rd_T81 ((rd_T31 x0 0).f1) x5).f1) then (if ((rd_T81 ((rd_T31 x0 0).f1) x5).f1) < (x4.length : Int) then (if 0 ≤ ((rd_T81 ((rd_T31 x0 0).f1) x5).f2) then (if ((rd_T81 ((rd_T31 x0 0).f1) x5).f2) < (x4.length : Int) then (if x4.length < 17592186044416 then (spec_l04Tables.l0 k x0 x3 (x4 ++ [Go.bits .andNot .u64 (rd x4 ((rd_T81 ((rd_T31 x0 0).f1) x5).f1)) (rd x4 ((rd_T81 ((rd_T31 x0 0).f1) x5).f2))]) (wrap64 (x5 + 1))) else (none)) else (none)) else (none)) else (none)) else (none)) else (if x4.length < 17592186044416 then (spec_l04Tables.l0 k x0 x3 (x4 ++ [x3]) (wrap64 (x5 + 1))) else (none))))) else (none)) else (some x4)) else (none)
def spec_l04Tables.f (k : Nat) (l0 : List (S31)) : Option (List Int) := if 0 < (l0.length : Int) then ((spec_l04Full.f (wrap64 ((rd_T31 l0 0).f0))).bind fun t179 => (spec_l04Tables.l0 k l0 t179 (([] : List Int)) 0)) else (none)
theorem spec_l04Tables.mono_l : ∀ k, (∀ y0 y1 y2 y3, LeO (spec_l04Tables.l0 k y0 y1 y2 y3) (spec_l04Tables.l0 (k + 1) y0 y1 y2 y3))
  | 0 => fun _ _ _ _ r h => by simp [spec_l04Tables.l0] at h
  | k + 1 => by
    have ih0 := spec_l04Tables.mono_l k
    · intro y0 y1 y2 y3
      unfold spec_l04Tables.l0
      repeat' first | (with_reducible first | apply ih0 | apply spec_l04Input.mono | exact LeO.refl _ | exact LeO.none _ | refine LeO.ite ?_ ?_ | refine LeO.bind ?_ (fun _ => ?_)) | apply ih0 | apply spec_l04Input.mono | exact LeO.none _ | refine LeO.ite ?_ ?_ | refine LeO.bind ?_ (fun _ => ?_)
theorem spec_l04Tables.mono : ∀ a0 k, LeO (spec_l04Tables.f k a0) (spec_l04Tables.f (k + 1) a0) := by
 intro a0 k
 have ih0 := spec_l04Tables.mono_l k
 unfold spec_l04Tables.f
 repeat' first | (with_reducible first | apply ih0 | apply spec_l04Input.mono | exact LeO.refl _ | exact LeO.none _ | refine LeO.ite ?_ ?_ | refine LeO.bind ?_ (fun _ => ?_)) | apply ih0 | apply spec_l04Input.mono | exact LeO.none _ | refine LeO.ite ?_ ?_ | refine LeO.bind ?_ (fun _ => ?_)
set_option maxHeartbeats 8000000 in
set_option maxRecDepth 100000 in
theorem spec_l04Tables.calls (k : Nat) (adp0 : Addr) (l0 : List (S31)) (r : List Int) (w : World) (hr0 : Kd.C k31 w (some adp0) l0.length l0) (h : spec_l04Tables.f k l0 = some r) :
    Calls Try.prog 96 #[.pointer (some adp0)] w fun e w' => ∃ v0_ : Value, e = .returned (v0_) ∧ Kd.R (Kd.int .u64) 98 w' w.heap.size (fun _ => True) v0_ r ∧ Below w.heap.size w w' := by
 have hu81 := Try.underlying81
 have HR0 := Aside0.mk hr0
 clear hr0
 have HB := Aside0.mk (Below.refl w.heap.size w)
 have H : (if 0 < (l0.length : Int) then ((spec_l04Full.f (wrap64 ((rd_T31 l0 0).f0))).bind fun t179 => (spec_l04Tables.l0 k l0 t179 (([] : List Int)) 0)) else (none)) = some r := h
 clear h
 by_cases c2 : 0 < (l0.length : Int)
 rotate_left
 ·rw [if_neg c2] at H
  exact absurd H (by simp)
 rw [if_pos c2] at H
 have c2b0 : decide (0 < (l0.length : Int)) = true := decide_eq_true c2
 have c2b1 : decide (0 < l0.length) = true := decide_eq_true (by omega)
 clear c2
 replace H := Option.bind_eq_some_iff.mp H
 obtain ⟨t179, A30, H⟩ := H
 replace H : (spec_l04Tables.l0 k l0 t179 (([] : List Int)) 0) = some r := H
 have A3 := Aside0.mk A30
 clear A30
 obtain ⟨y180, hy180⟩ : ∃ y_ : List Int, y_ = (([] : List Int)) := ⟨_, rfl⟩
 replace H : (spec_l04Tables.l0 k l0 t179 y180 0) = some r := by first | (rw [hy180]; with_reducible exact H) | (have H2_ := (Option.bind_some _ _).symm.trans H; rw [hy180]; with_reducible exact H2_) | (have H2_ := (Option.bind_some _ _).symm.trans H; with_reducible exact H2_) | with_reducible exact H | (rw [hy180]; exact H) | exact H
 have Ny180 := Aside0.mk hy180
 clear hy180
 have H' := Aside0.mk H
 clear H
 have p178 : 0 ≤ (0 : Int) := (by omega)
 have q178 : 0 < (l0.length : Int) := of_decide_eq_true (by first | (with_reducible assumption) | assumption)
 obtain ⟨ad178, A178_1, c178_1, A178_2, c178_2, e178, hx178_0, hx178_1, hx178_2, hl178_1, hi178_1, hl178_2, hi178_2⟩ := at_T31 HR0.out 0 p178 q178
 obtain rfl : adp0 = ad178 := (by injection e178)
 have qi178 : (0 < l0.length) = True := eq_true (by omega)
 (try rw [show ((0 : Int)).toNat = 0 from rfl] at hx178_0)
 (try rw [show 0 * 3 = 0 from rfl] at hx178_0)
 (try rw [Addr.add_zero'] at hx178_0)
 (try rw [show ((0 : Int)).toNat = 0 from rfl] at hx178_1)
 (try rw [show 0 * 3 = 0 from rfl] at hx178_1)
 (try rw [Addr.add_zero'] at hx178_1)
 (try rw [show ((0 : Int)).toNat = 0 from rfl] at hx178_2)
 (try rw [show 0 * 3 = 0 from rfl] at hx178_2)
 (try rw [Addr.add_zero'] at hx178_2)
 have HR178_1 := Aside0.mk hi178_1
 have HC178_1 := Aside0.mk hl178_1
 clear hi178_1 hl178_1
 have HR178_2 := Aside0.mk hi178_2
 have HC178_2 := Aside0.mk hl178_2
 clear hi178_2 hl178_2
 replace p178 := eq_true p178
 replace q178 := eq_true q178
 go_enter Try.func96, Try.ntmps96
 go_wp2_with (first | (go_at_call 128; (with_reducible refine (spec_l04Full.calls (wrap64 ((rd_T31 l0 0).f0)) t179 _ A3.out).mono ?_); rintro e w' ⟨rfl, ⟨nd, rfl⟩⟩; (try first | exact ⟨rfl, _, World.drewN_drewN _ _ _⟩ | exact ⟨rfl, _, Eq.trans (World.drewN_drewN _ _ _) (congrArg (World.drewN _) (Nat.add_assoc _ _ _))⟩)) | ((with_reducible refine gate_dst (N := 14) rfl ?_); refine Kd.R_lit (Kd.int .u64) _ 98 ?hg (N := 14) ?hd (xs := ([] : List Int)) (inner := []) (ok := fun _ => True) (okp := fun _ => True) ?hr ?hp (fun _ hk => hk) trivial (Below.refl _ _) (Nat.le_refl _) (by simp) ?_; (case hd => rfl); (case hg => rfl); (case hr => first | (go_simp; done) | (go_simp; rfl)); (case hp => exact (Reps.none _ _)); intro v181 w4 ho5 hb hg_ hnew_; clear hg_ hnew_; (first | rw [← Ny180.out] at ho5 | (simp only [Int.reduceToNat] at ho5; rw [← Ny180.out] at ho5)); have n_ : _ ∧ _ := ⟨Aside0.mk (Kd.R_lower ho5 (zz HB)), zb HB hb⟩; clear HB; obtain ⟨HO182, HB⟩ := n_; clear hb ho5) | go_quiet (first | (go_at_call 128; (with_reducible refine (spec_l04Full.calls (wrap64 ((rd_T31 l0 0).f0)) t179 _ A3.out).mono ?_); rintro e w' ⟨rfl, ⟨nd, rfl⟩⟩; (try first | exact ⟨rfl, _, World.drewN_drewN _ _ _⟩ | exact ⟨rfl, _, Eq.trans (World.drewN_drewN _ _ _) (congrArg (World.drewN _) (Nat.add_assoc _ _ _))⟩))))
 go_loopg [4, 5] k (fun kq v4 v5 w' => ∃ (x4_1 : List Int) (x5_1 : Int), v5 = .int .i64 x5_1 ∧ Aside0 (spec_l04Tables.l0 kq l0 t179 x4_1 x5_1 = some r) ∧ Aside0 (kq ≤ k) ∧ Aside0 (Kd.R (Kd.int .u64) 98 w' w.heap.size (fun _ => True) v4 x4_1) ∧ Aside0 (Below w.heap.size w w'))
 case atStart => exact ⟨(y180), (0), (by first | rfl | (simp; done) | (simp [*]; done) | (exact congrArg (Value.int .i64) (wrap_eq (by omega)))), H', ⟨Nat.le_refl _⟩, ze HO182, zl HB⟩
 clear H'
 try clear c1
 try clear p1
 try clear q1
 try clear hx1
 try clear qi1
 try clear c2
 try clear c2b0
 try clear c2b1
 try clear p2
 try clear hx178_0
 try clear hx178_1
 try clear hx178_2
 try clear p178
 try clear q178
 obtain ⟨x4_1, x5_1, rfl, HA, HK1, HO_4, HB⟩ := hrel
 cases gk with
 | zero => exact absurd HA.out (by simp [spec_l04Tables.l0])
 | succ k1 => ?_
 have H := HA.out
 clear HA
 simp only [spec_l04Tables.l0] at H
 by_cases c6 : 0 < (l0.length : Int)
 rotate_left
 ·rw [if_neg c6] at H
  exact absurd H (by simp)
 rw [if_pos c6] at H
 have c6b0 : decide (0 < (l0.length : Int)) = true := decide_eq_true c6
 have c6b1 : decide (0 < l0.length) = true := decide_eq_true (by omega)
 clear c6
 by_cases c7 : x5_1 < (((rd_T31 l0 0).f1).length : Int)
 rotate_left
 ·rw [if_neg c7] at H
  have c7b0 : decide (x5_1 < (((rd_T31 l0 0).f1).length : Int)) = false := decide_eq_false c7
  clear c7
  obtain rfl := Option.some.inj H
  have p183 : 0 ≤ (0 : Int) := (by omega)
  have q183 : 0 < (l0.length : Int) := of_decide_eq_true (by first | (with_reducible assumption) | assumption)
  obtain ⟨ad183, A183_1, c183_1, A183_2, c183_2, e183, hx183_0, hx183_1, hx183_2, hl183_1, hi183_1, hl183_2, hi183_2⟩ := at_T31 HR0.out 0 p183 q183
  obtain rfl : adp0 = ad183 := (by injection e183)
  have qi183 : (0 < l0.length) = True := eq_true (by omega)
  (try rw [show ((0 : Int)).toNat = 0 from rfl] at hx183_0)
  (try rw [show 0 * 3 = 0 from rfl] at hx183_0)
  (try rw [Addr.add_zero'] at hx183_0)
  (try rw [show ((0 : Int)).toNat = 0 from rfl] at hx183_1)
  (try rw [show 0 * 3 = 0 from rfl] at hx183_1)
  (try rw [Addr.add_zero'] at hx183_1)
  (try rw [show ((0 : Int)).toNat = 0 from rfl] at hx183_2)
  (try rw [show 0 * 3 = 0 from rfl] at hx183_2)
  (try rw [Addr.add_zero'] at hx183_2)
  replace hx183_0 := zc HB hx183_0
  replace hx183_1 := zc HB hx183_1
  replace hx183_2 := zc HB hx183_2
  have HR183_1 := Aside0.mk hi183_1
  have HC183_1 := Aside0.mk hl183_1
  clear hi183_1 hl183_1
  have HR183_2 := Aside0.mk hi183_2
  have HC183_2 := Aside0.mk hl183_2
  clear hi183_2 hl183_2
  replace p183 := eq_true p183
  replace q183 := eq_true q183
  go_wp2
  repeat (go_quiet (fail); try go_wp2)
  go_ret
  exact ⟨_, by first | rfl | (simp [errW_none, errW_some] <;> rfl) | (simp [*, errW_none, errW_some] <;> rfl), by (with_reducible repeat (first | apply Kd.R_alloc | apply Kd.R_drewN | apply Kd.R_drew)); exact HO_4.out, by repeat (first | (with_reducible first | exact HB.out | apply below_alloc | apply pw_below_drewN | apply below_drew1) | exact HB.out)⟩
 rw [if_pos c7] at H
 have c7b0 : decide (x5_1 < (((rd_T31 l0 0).f1).length : Int)) = true := decide_eq_true c7
 clear c7
 by_cases c8 : 0 ≤ x5_1
 rotate_left
 ·rw [if_neg c8] at H
  exact absurd H (by simp)
 rw [if_pos c8] at H
 have c8b0 : decide (0 ≤ x5_1) = true := decide_eq_true c8
 clear c8
 by_cases c9 : ((rd_T81 ((rd_T31 l0 0).f1) x5_1).f0) = 0
 ·rw [if_pos c9] at H
  have c9b0 : (((rd_T81 ((rd_T31 l0 0).f1) x5_1).f0) == 0) = true := beq_iff_eq.mpr c9
  have c9b1 : (((rd_T81 ((rd_T31 l0 0).f1) x5_1).f0) != 0) = false := bne_eq_false_iff_eq.mpr c9
  clear c9
  replace H := Option.bind_eq_some_iff.mp H
  obtain ⟨t188, A100, H⟩ := H
  replace H : (if x4_1.length < 17592186044416 then (spec_l04Tables.l0 k1 l0 t179 (x4_1 ++ [t188]) (wrap64 (x5_1 + 1))) else (none)) = some r := H
  have A10 := Aside0.mk A100
  clear A100
  by_cases c11 : x4_1.length < 17592186044416
  rotate_left
  ·rw [if_neg c11] at H
   exact absurd H (by simp)
  rw [if_pos c11] at H
  have LMc11 := Aside0.mk c11
  clear c11
  obtain ⟨y189, hy189⟩ : ∃ y_ : List Int, y_ = (x4_1 ++ [t188]) := ⟨_, rfl⟩
  replace H : (spec_l04Tables.l0 k1 l0 t179 y189 (wrap64 (x5_1 + 1))) = some r := by first | (rw [hy189]; with_reducible exact H) | (have H2_ := (Option.bind_some _ _).symm.trans H; rw [hy189]; with_reducible exact H2_) | (have H2_ := (Option.bind_some _ _).symm.trans H; with_reducible exact H2_) | with_reducible exact H | (rw [hy189]; exact H) | exact H
  have Ny189 := Aside0.mk hy189
  clear hy189
  have H' := Aside0.mk H
  clear H
  have p183 : 0 ≤ (0 : Int) := (by omega)
  have q183 : 0 < (l0.length : Int) := of_decide_eq_true (by first | (with_reducible assumption) | assumption)
  obtain ⟨ad183, A183_1, c183_1, A183_2, c183_2, e183, hx183_0, hx183_1, hx183_2, hl183_1, hi183_1, hl183_2, hi183_2⟩ := at_T31 HR0.out 0 p183 q183
  obtain rfl : adp0 = ad183 := (by injection e183)
  have qi183 : (0 < l0.length) = True := eq_true (by omega)
  (try rw [show ((0 : Int)).toNat = 0 from rfl] at hx183_0)
  (try rw [show 0 * 3 = 0 from rfl] at hx183_0)
  (try rw [Addr.add_zero'] at hx183_0)
  (try rw [show ((0 : Int)).toNat = 0 from rfl] at hx183_1)
  (try rw [show 0 * 3 = 0 from rfl] at hx183_1)
  (try rw [Addr.add_zero'] at hx183_1)
  (try rw [show ((0 : Int)).toNat = 0 from rfl] at hx183_2)
  (try rw [show 0 * 3 = 0 from rfl] at hx183_2)
  (try rw [Addr.add_zero'] at hx183_2)
  replace hx183_0 := zc HB hx183_0
  replace hx183_1 := zc HB hx183_1
  replace hx183_2 := zc HB hx183_2
  have HR183_1 := Aside0.mk hi183_1
  have HC183_1 := Aside0.mk hl183_1
  clear hi183_1 hl183_1
  have HR183_2 := Aside0.mk hi183_2
  have HC183_2 := Aside0.mk hl183_2
  clear hi183_2 hl183_2
  replace p183 := eq_true p183
  replace q183 := eq_true q183
  have p184 : 0 ≤ (0 : Int) := (by omega)
  have q184 : 0 < (l0.length : Int) := of_decide_eq_true (by first | (with_reducible assumption) | assumption)
  obtain ⟨ad184, A184_1, c184_1, A184_2, c184_2, e184, hx184_0, hx184_1, hx184_2, hl184_1, hi184_1, hl184_2, hi184_2⟩ := at_T31 HR0.out 0 p184 q184
  obtain rfl : adp0 = ad184 := (by injection e184)
  have qi184 : (0 < l0.length) = True := eq_true (by omega)
  (try rw [show ((0 : Int)).toNat = 0 from rfl] at hx184_0)
  (try rw [show 0 * 3 = 0 from rfl] at hx184_0)
  (try rw [Addr.add_zero'] at hx184_0)
  (try rw [show ((0 : Int)).toNat = 0 from rfl] at hx184_1)
  (try rw [show 0 * 3 = 0 from rfl] at hx184_1)
  (try rw [Addr.add_zero'] at hx184_1)
  (try rw [show ((0 : Int)).toNat = 0 from rfl] at hx184_2)
  (try rw [show 0 * 3 = 0 from rfl] at hx184_2)
  (try rw [Addr.add_zero'] at hx184_2)
  replace hx184_0 := zc HB hx184_0
  replace hx184_1 := zc HB hx184_1
  replace hx184_2 := zc HB hx184_2
  have HR184_1 := Aside0.mk hi184_1
  have HC184_1 := Aside0.mk hl184_1
  clear hi184_1 hl184_1
  have HR184_2 := Aside0.mk hi184_2
  have HC184_2 := Aside0.mk hl184_2
  clear hi184_2 hl184_2
  replace p184 := eq_true p184
  replace q184 := eq_true q184
  have ea_ := Option.some.inj (hx183_1.symm.trans hx184_1)
  injection ea_ with ea_ en_ ec_
  subst ea_
  subst ec_
  clear en_
  have ea_ := Option.some.inj (hx183_2.symm.trans hx184_2)
  injection ea_ with ea_ en_ ec_
  subst ea_
  subst ec_
  clear en_
  have p185 : 0 ≤ (x5_1 : Int) := of_decide_eq_true (by first | (with_reducible assumption) | assumption)
  have q185 : x5_1 < (((rd_T31 l0 0).f1).length : Int) := of_decide_eq_true (by first | (with_reducible assumption) | assumption)
  obtain ⟨ad185, e185, hx185_0, hx185_1, hx185_2⟩ := at_T81 HR184_1.out x5_1 p185 q185
  cases e185
  replace hx185_0 := zc HB hx185_0
  replace hx185_1 := zc HB hx185_1
  replace hx185_2 := zc HB hx185_2
  replace p185 := eq_true p185
  replace q185 := eq_true q185
  go_wp2_with (first | ((with_reducible refine gate_dst (N := 6) rfl ?_); refine box_event ?hg (N := 6) ?hd (cs := #[.int .i8 0, .int .i16 0, .int .i16 0]) (t := 81) ?hr ?_; (case hd => rfl); (case hg => rfl); (case hr => first | (go_simp; done) | (go_simp; rfl)); intro gb186 hg w12 hbox hb; have n_ : _ ∧ _ ∧ _ ∧ _ ∧ _ := ⟨zr HO_4 hb, zb HB hb, Aside0.mk (hbox), zg HB hg, zg HB hg⟩; clear HO_4 HB; obtain ⟨HO_4, HB, BK186, GW186, GE186⟩ := n_; clear hb hbox hg; obtain ⟨z13_0, z13_1, z13_2, y13_0, y13_1, y13_2⟩ := zB3 BK186; have p187 : 0 ≤ (0 : Int) := (by omega); have q187 : 0 < (l0.length : Int) := of_decide_eq_true (by first | (with_reducible assumption) | assumption); obtain ⟨ad187, A187_1, c187_1, A187_2, c187_2, e187, hx187_0, hx187_1, hx187_2, hl187_1, hi187_1, hl187_2, hi187_2⟩ := at_T31 HR0.out 0 p187 q187; obtain rfl : adp0 = ad187 := (by injection e187); have qi187 : (0 < l0.length) = True := eq_true (by omega); (try rw [show ((0 : Int)).toNat = 0 from rfl] at hx187_0); (try rw [show 0 * 3 = 0 from rfl] at hx187_0); (try rw [Addr.add_zero'] at hx187_0); (try rw [show ((0 : Int)).toNat = 0 from rfl] at hx187_1); (try rw [show 0 * 3 = 0 from rfl] at hx187_1); (try rw [Addr.add_zero'] at hx187_1); (try rw [show ((0 : Int)).toNat = 0 from rfl] at hx187_2); (try rw [show 0 * 3 = 0 from rfl] at hx187_2); (try rw [Addr.add_zero'] at hx187_2); have hn187_0 : adp0.block ≠ gb186 := Nat.ne_of_lt (Nat.lt_of_lt_of_le (by have := World.block_lt_of_cell? _ _ hx187_0; first | rwa [add_block] at this | exact this) GW186.out); have hn187_1 : adp0.block ≠ gb186 := Nat.ne_of_lt (Nat.lt_of_lt_of_le (by have := World.block_lt_of_cell? _ _ hx187_0; first | rwa [add_block] at this | exact this) GW186.out); have hn187_2 : adp0.block ≠ gb186 := Nat.ne_of_lt (Nat.lt_of_lt_of_le (by have := World.block_lt_of_cell? _ _ hx187_0; first | rwa [add_block] at this | exact this) GW186.out); replace hx187_0 := zc HB hx187_0; replace hx187_1 := zc HB hx187_1; replace hx187_2 := zc HB hx187_2; have HR187_1 := Aside0.mk hi187_1; have HC187_1 := Aside0.mk hl187_1; clear hi187_1 hl187_1; have HR187_2 := Aside0.mk hi187_2; have HC187_2 := Aside0.mk hl187_2; clear hi187_2 hl187_2; replace hx187_0 := (cell_far (p := ⟨gb186, 0, none⟩) (by first | (rw [add_block]; exact hn187_0) | (show (Addr.add _ _).block ≠ _; rw [add_block]; exact hn187_0) | exact hn187_0) (.int .i8 ((rd_T81 ((rd_T31 l0 0).f1) x5_1).f0))).trans hx187_0; replace hx187_1 := (cell_far (p := ⟨gb186, 0, none⟩) (by first | (rw [add_block]; exact hn187_0) | (show (Addr.add _ _).block ≠ _; rw [add_block]; exact hn187_0) | exact hn187_0) (.int .i8 ((rd_T81 ((rd_T31 l0 0).f1) x5_1).f0))).trans hx187_1; replace hx187_2 := (cell_far (p := ⟨gb186, 0, none⟩) (by first | (rw [add_block]; exact hn187_0) | (show (Addr.add _ _).block ≠ _; rw [add_block]; exact hn187_0) | exact hn187_0) (.int .i8 ((rd_T81 ((rd_T31 l0 0).f1) x5_1).f0))).trans hx187_2; replace hx187_0 := (cell_far (p := ⟨gb186, 1, none⟩) (by first | (rw [add_block]; exact hn187_1) | (show (Addr.add _ _).block ≠ _; rw [add_block]; exact hn187_1) | exact hn187_1) (.int .i16 ((rd_T81 ((rd_T31 l0 0).f1) x5_1).f1))).trans hx187_0; replace hx187_1 := (cell_far (p := ⟨gb186, 1, none⟩) (by first | (rw [add_block]; exact hn187_1) | (show (Addr.add _ _).block ≠ _; rw [add_block]; exact hn187_1) | exact hn187_1) (.int .i16 ((rd_T81 ((rd_T31 l0 0).f1) x5_1).f1))).trans hx187_1; replace hx187_2 := (cell_far (p := ⟨gb186, 1, none⟩) (by first | (rw [add_block]; exact hn187_1) | (show (Addr.add _ _).block ≠ _; rw [add_block]; exact hn187_1) | exact hn187_1) (.int .i16 ((rd_T81 ((rd_T31 l0 0).f1) x5_1).f1))).trans hx187_2; replace hx187_0 := (cell_far (p := ⟨gb186, 2, none⟩) (by first | (rw [add_block]; exact hn187_2) | (show (Addr.add _ _).block ≠ _; rw [add_block]; exact hn187_2) | exact hn187_2) (.int .i16 ((rd_T81 ((rd_T31 l0 0).f1) x5_1).f2))).trans hx187_0; replace hx187_1 := (cell_far (p := ⟨gb186, 2, none⟩) (by first | (rw [add_block]; exact hn187_2) | (show (Addr.add _ _).block ≠ _; rw [add_block]; exact hn187_2) | exact hn187_2) (.int .i16 ((rd_T81 ((rd_T31 l0 0).f1) x5_1).f2))).trans hx187_1; replace hx187_2 := (cell_far (p := ⟨gb186, 2, none⟩) (by first | (rw [add_block]; exact hn187_2) | (show (Addr.add _ _).block ≠ _; rw [add_block]; exact hn187_2) | exact hn187_2) (.int .i16 ((rd_T81 ((rd_T31 l0 0).f1) x5_1).f2))).trans hx187_2; (try have hy187_0 := fun (n_ : Nat) => (show (((((w12.drewN n_).setCell ⟨gb186, 0, none⟩ (.int .i8 ((rd_T81 ((rd_T31 l0 0).f1) x5_1).f0))).setCell ⟨gb186, 1, none⟩ (.int .i16 ((rd_T81 ((rd_T31 l0 0).f1) x5_1).f1))).setCell ⟨gb186, 2, none⟩ (.int .i16 ((rd_T81 ((rd_T31 l0 0).f1) x5_1).f2)))).cell? _ = some _ from hx187_0)); (try have hy187_1 := fun (n_ : Nat) => (show (((((w12.drewN n_).setCell ⟨gb186, 0, none⟩ (.int .i8 ((rd_T81 ((rd_T31 l0 0).f1) x5_1).f0))).setCell ⟨gb186, 1, none⟩ (.int .i16 ((rd_T81 ((rd_T31 l0 0).f1) x5_1).f1))).setCell ⟨gb186, 2, none⟩ (.int .i16 ((rd_T81 ((rd_T31 l0 0).f1) x5_1).f2)))).cell? _ = some _ from hx187_1)); (try have hy187_2 := fun (n_ : Nat) => (show (((((w12.drewN n_).setCell ⟨gb186, 0, none⟩ (.int .i8 ((rd_T81 ((rd_T31 l0 0).f1) x5_1).f0))).setCell ⟨gb186, 1, none⟩ (.int .i16 ((rd_T81 ((rd_T31 l0 0).f1) x5_1).f1))).setCell ⟨gb186, 2, none⟩ (.int .i16 ((rd_T81 ((rd_T31 l0 0).f1) x5_1).f2)))).cell? _ = some _ from hx187_2)); clear hn187_0; clear hn187_1; clear hn187_2; replace p187 := eq_true p187; replace q187 := eq_true q187) | (go_at_call 129; (with_reducible refine (spec_l04Input.calls k1 (wrap64 ((rd_T31 l0 0).f0)) (wrap64 ((rd_T81 ((rd_T31 l0 0).f1) x5_1).f1)) t188 _ A10.out).mono ?_); rintro e w' ⟨rfl, ⟨nd, rfl⟩⟩; (try first | exact ⟨rfl, _, World.drewN_drewN _ _ _⟩ | exact ⟨rfl, _, Eq.trans (World.drewN_drewN _ _ _) (congrArg (World.drewN _) (Nat.add_assoc _ _ _))⟩)) | ((with_reducible refine gate_builtin (b := .append) (xs := #[.tmp 71, .tmp 73]) rfl ?_); at_builtin; refine Kd.R_append (Kd.int .u64) (w0 := w) w.heap.size rfl (.tmp 71) (.tmp 73) 53 98 (.int .u64 0) 8 rfl Try.underlying53 info98 rfl (by decide) (by omega) u4 x4_1 t188 [.int .u64 t188] (fun _ => True) (fun _ => False) rfl (by first | (go_simp; done) | (go_simp; rfl)) ?aP (fun _ hk => hk.elim) ?aF ?aO ?aB ?aS ?aL ?_; (case aP => exact rfl); (case aB => exact (by repeat (first | (with_reducible first | exact HB.out | apply below_alloc | apply pw_below_drewN | apply below_drew1 | refine below_set ?_ GE186.out) | exact HB.out))); (case aF => exact (fun _ _ => trivial)); (case aO => exact (by (with_reducible repeat (first | apply Kd.R_alloc | apply Kd.R_drewN | apply Kd.R_drew)); exact Kd.R_mono (Kd.R_far (p := ⟨gb186, 2, none⟩) (Kd.R_far (p := ⟨gb186, 1, none⟩) (Kd.R_far (p := ⟨gb186, 0, none⟩) (Kd.R_types HO_4.out BK186.out (by decide)) (fun _ hk => hk.2) (.int .i8 ((rd_T81 ((rd_T31 l0 0).f1) x5_1).f0))) (fun _ hk => hk.2) (.int .i16 ((rd_T81 ((rd_T31 l0 0).f1) x5_1).f1))) (fun _ hk => hk.2) (.int .i16 ((rd_T81 ((rd_T31 l0 0).f1) x5_1).f2))) (fun _ hk => trivial))); (case aS => exact (zz HB)); (case aL => have := LMc11.out; omega); intro v190 w14 ho hb hg hat; rw [← Ny189.out] at ho; have n_ : _ ∧ _ ∧ _ := ⟨Aside0.mk (blk_grown (g := gb186) (o := .cells #[.int .i8 ((rd_T81 ((rd_T31 l0 0).f1) x5_1).f0), .int .i16 ((rd_T81 ((rd_T31 l0 0).f1) x5_1).f1), .int .i16 ((rd_T81 ((rd_T31 l0 0).f1) x5_1).f2)] 81 (0, 0)) (by (with_reducible repeat (first | refine blk_drewN ?_ _ | refine blk_drew ?_ | refine blk_alloc ?_ _)); refine blk_put (cs := #[.int .i8 ((rd_T81 ((rd_T31 l0 0).f1) x5_1).f0), .int .i16 ((rd_T81 ((rd_T31 l0 0).f1) x5_1).f1), .int .i16 0]) ?_ 2 _ rfl; (with_reducible repeat (first | refine blk_drewN ?_ _ | refine blk_drew ?_ | refine blk_alloc ?_ _)); refine blk_put (cs := #[.int .i8 ((rd_T81 ((rd_T31 l0 0).f1) x5_1).f0), .int .i16 0, .int .i16 0]) ?_ 1 _ rfl; (with_reducible repeat (first | refine blk_drewN ?_ _ | refine blk_drew ?_ | refine blk_alloc ?_ _)); refine blk_put (cs := #[.int .i8 0, .int .i16 0, .int .i16 0]) ?_ 0 _ rfl; (with_reducible repeat (first | refine blk_drewN ?_ _ | refine blk_drew ?_ | refine blk_alloc ?_ _)); exact BK186.out) hg (Kd.R_ne HO_4.out BK186.out (by decide))), Aside0.mk (hb), Aside0.mk (ho)⟩; clear BK186 HB HO_4; obtain ⟨BK186, HB, HO191⟩ := n_; clear ho hb hg hat) | go_quiet (first | (go_at_call 129; (with_reducible refine (spec_l04Input.calls k1 (wrap64 ((rd_T31 l0 0).f0)) (wrap64 ((rd_T81 ((rd_T31 l0 0).f1) x5_1).f1)) t188 _ A10.out).mono ?_); rintro e w' ⟨rfl, ⟨nd, rfl⟩⟩; (try first | exact ⟨rfl, _, World.drewN_drewN _ _ _⟩ | exact ⟨rfl, _, Eq.trans (World.drewN_drewN _ _ _) (congrArg (World.drewN _) (Nat.add_assoc _ _ _))⟩))))
  go_roundg k1
  case measure => have := HK1.out; omega
  case rel => exact ⟨(y189), (wrap64 (x5_1 + 1)), (by first | rfl | (simp; done) | (simp [*]; done) | (exact congrArg (Value.int .i64) (wrap_eq (by omega)))), H', ⟨by have := HK1.out; omega⟩, ze HO191, zba⟩
 rw [if_neg c9] at H
 have c9b0 : (((rd_T81 ((rd_T31 l0 0).f1) x5_1).f0) == 0) = false := beq_eq_false_iff_ne.mpr c9
 have c9b1 : (((rd_T81 ((rd_T31 l0 0).f1) x5_1).f0) != 0) = true := bne_iff_ne.mpr c9
 by_cases c15 : ((rd_T81 ((rd_T31 l0 0).f1) x5_1).f0) = 2
 ·rw [if_pos c15] at H
  have c15b0 : (((rd_T81 ((rd_T31 l0 0).f1) x5_1).f0) == 2) = true := beq_iff_eq.mpr c15
  have c15b1 : (((rd_T81 ((rd_T31 l0 0).f1) x5_1).f0) != 2) = false := bne_eq_false_iff_eq.mpr c15
  clear c15
  by_cases c16 : 0 ≤ ((rd_T81 ((rd_T31 l0 0).f1) x5_1).f1)
  rotate_left
  ·rw [if_neg c16] at H
   exact absurd H (by simp)
  rw [if_pos c16] at H
  have c16b0 : decide (0 ≤ ((rd_T81 ((rd_T31 l0 0).f1) x5_1).f1)) = true := decide_eq_true c16
  clear c16
  by_cases c17 : ((rd_T81 ((rd_T31 l0 0).f1) x5_1).f1) < (x4_1.length : Int)
  rotate_left
  ·rw [if_neg c17] at H
   exact absurd H (by simp)
  rw [if_pos c17] at H
  have c17b0 : decide (((rd_T81 ((rd_T31 l0 0).f1) x5_1).f1) < (x4_1.length : Int)) = true := decide_eq_true c17
  clear c17
  by_cases c18 : 0 ≤ ((rd_T81 ((rd_T31 l0 0).f1) x5_1).f2)
  rotate_left
  ·rw [if_neg c18] at H
   exact absurd H (by simp)
  rw [if_pos c18] at H
  have c18b0 : decide (0 ≤ ((rd_T81 ((rd_T31 l0 0).f1) x5_1).f2)) = true := decide_eq_true c18
  clear c18
  by_cases c19 : ((rd_T81 ((rd_T31 l0 0).f1) x5_1).f2) < (x4_1.length : Int)
  rotate_left
  ·rw [if_neg c19] at H
   exact absurd H (by simp)
  rw [if_pos c19] at H
  have c19b0 : decide (((rd_T81 ((rd_T31 l0 0).f1) x5_1).f2) < (x4_1.length : Int)) = true := decide_eq_true c19
  clear c19
  by_cases c20 : x4_1.length < 17592186044416
  rotate_left
  ·rw [if_neg c20] at H
   exact absurd H (by simp)
  rw [if_pos c20] at H
  have LMc20 := Aside0.mk c20
  clear c20
  obtain ⟨y194, hy194⟩ : ∃ y_ : List Int, y_ = (x4_1 ++ [Go.bits .or .u64 (rd x4_1 ((rd_T81 ((rd_T31 l0 0).f1) x5_1).f1)) (rd x4_1 ((rd_T81 ((rd_T31 l0 0).f1) x5_1).f2))]) := ⟨_, rfl⟩
  replace H : (spec_l04Tables.l0 k1 l0 t179 y194 (wrap64 (x5_1 + 1))) = some r := by first | (rw [hy194]; with_reducible exact H) | (have H2_ := (Option.bind_some _ _).symm.trans H; rw [hy194]; with_reducible exact H2_) | (have H2_ := (Option.bind_some _ _).symm.trans H; with_reducible exact H2_) | with_reducible exact H | (rw [hy194]; exact H) | exact H
  have Ny194 := Aside0.mk hy194
  clear hy194
  have H' := Aside0.mk H
  clear H
  have p183 : 0 ≤ (0 : Int) := (by omega)
  have q183 : 0 < (l0.length : Int) := of_decide_eq_true (by first | (with_reducible assumption) | assumption)
  obtain ⟨ad183, A183_1, c183_1, A183_2, c183_2, e183, hx183_0, hx183_1, hx183_2, hl183_1, hi183_1, hl183_2, hi183_2⟩ := at_T31 HR0.out 0 p183 q183
  obtain rfl : adp0 = ad183 := (by injection e183)
  have qi183 : (0 < l0.length) = True := eq_true (by omega)
  (try rw [show ((0 : Int)).toNat = 0 from rfl] at hx183_0)
  (try rw [show 0 * 3 = 0 from rfl] at hx183_0)
  (try rw [Addr.add_zero'] at hx183_0)
  (try rw [show ((0 : Int)).toNat = 0 from rfl] at hx183_1)
  (try rw [show 0 * 3 = 0 from rfl] at hx183_1)
  (try rw [Addr.add_zero'] at hx183_1)
  (try rw [show ((0 : Int)).toNat = 0 from rfl] at hx183_2)
  (try rw [show 0 * 3 = 0 from rfl] at hx183_2)
  (try rw [Addr.add_zero'] at hx183_2)
  replace hx183_0 := zc HB hx183_0
  replace hx183_1 := zc HB hx183_1
  replace hx183_2 := zc HB hx183_2
  have HR183_1 := Aside0.mk hi183_1
  have HC183_1 := Aside0.mk hl183_1
  clear hi183_1 hl183_1
  have HR183_2 := Aside0.mk hi183_2
  have HC183_2 := Aside0.mk hl183_2
  clear hi183_2 hl183_2
  replace p183 := eq_true p183
  replace q183 := eq_true q183
  have p184 : 0 ≤ (0 : Int) := (by omega)
  have q184 : 0 < (l0.length : Int) := of_decide_eq_true (by first | (with_reducible assumption) | assumption)
  obtain ⟨ad184, A184_1, c184_1, A184_2, c184_2, e184, hx184_0, hx184_1, hx184_2, hl184_1, hi184_1, hl184_2, hi184_2⟩ := at_T31 HR0.out 0 p184 q184
  obtain rfl : adp0 = ad184 := (by injection e184)
  have qi184 : (0 < l0.length) = True := eq_true (by omega)
  (try rw [show ((0 : Int)).toNat = 0 from rfl] at hx184_0)
  (try rw [show 0 * 3 = 0 from rfl] at hx184_0)
  (try rw [Addr.add_zero'] at hx184_0)
  (try rw [show ((0 : Int)).toNat = 0 from rfl] at hx184_1)
  (try rw [show 0 * 3 = 0 from rfl] at hx184_1)
  (try rw [Addr.add_zero'] at hx184_1)
  (try rw [show ((0 : Int)).toNat = 0 from rfl] at hx184_2)
  (try rw [show 0 * 3 = 0 from rfl] at hx184_2)
  (try rw [Addr.add_zero'] at hx184_2)
  replace hx184_0 := zc HB hx184_0
  replace hx184_1 := zc HB hx184_1
  replace hx184_2 := zc HB hx184_2
  have HR184_1 := Aside0.mk hi184_1
  have HC184_1 := Aside0.mk hl184_1
  clear hi184_1 hl184_1
  have HR184_2 := Aside0.mk hi184_2
  have HC184_2 := Aside0.mk hl184_2
  clear hi184_2 hl184_2
  replace p184 := eq_true p184
  replace q184 := eq_true q184
  have ea_ := Option.some.inj (hx183_1.symm.trans hx184_1)
  injection ea_ with ea_ en_ ec_
  subst ea_
  subst ec_
  clear en_
  have ea_ := Option.some.inj (hx183_2.symm.trans hx184_2)
  injection ea_ with ea_ en_ ec_
  subst ea_
  subst ec_
  clear en_
  have p185 : 0 ≤ (x5_1 : Int) := of_decide_eq_true (by first | (with_reducible assumption) | assumption)
  have q185 : x5_1 < (((rd_T31 l0 0).f1).length : Int) := of_decide_eq_true (by first | (with_reducible assumption) | assumption)
  obtain ⟨ad185, e185, hx185_0, hx185_1, hx185_2⟩ := at_T81 HR184_1.out x5_1 p185 q185
  cases e185
  replace hx185_0 := zc HB hx185_0
  replace hx185_1 := zc HB hx185_1
  replace hx185_2 := zc HB hx185_2
  replace p185 := eq_true p185
  replace q185 := eq_true q185
  go_wp2_with (first | ((with_reducible refine gate_dst (N := 6) rfl ?_); refine box_event ?hg (N := 6) ?hd (cs := #[.int .i8 0, .int .i16 0, .int .i16 0]) (t := 81) ?hr ?_; (case hd => rfl); (case hg => rfl); (case hr => first | (go_simp; done) | (go_simp; rfl)); intro gb186 hg w21 hbox hb; have n_ : _ ∧ _ ∧ _ ∧ _ ∧ _ := ⟨zr HO_4 hb, zb HB hb, Aside0.mk (hbox), zg HB hg, zg HB hg⟩; clear HO_4 HB; obtain ⟨HO_4, HB, BK186, GW186, GE186⟩ := n_; clear hb hbox hg; obtain ⟨z22_0, z22_1, z22_2, y22_0, y22_1, y22_2⟩ := zB3 BK186; obtain ⟨Ao23, co23, eo23⟩ := Kd.R_slice HO_4.out; subst eo23; have p192 : 0 ≤ (((rd_T81 ((rd_T31 l0 0).f1) x5_1).f1) : Int) := of_decide_eq_true (by first | (with_reducible assumption) | assumption); have q192 : ((rd_T81 ((rd_T31 l0 0).f1) x5_1).f1) < (x4_1.length : Int) := of_decide_eq_true (by first | (with_reducible assumption) | assumption); obtain ⟨ad192, e192, hx192_0⟩ := Kd.at_int (Kd.R_reads' HO_4.out).2.2 ((rd_T81 ((rd_T31 l0 0).f1) x5_1).f1) p192 q192; cases e192; have hn192_0 : ad192.block ≠ gb186 := Kd.own_blk (Kd.R_ne HO_4.out BK186.out (by decide)); have hn192_1 : ad192.block ≠ gb186 := Kd.own_blk (Kd.R_ne HO_4.out BK186.out (by decide)); have hn192_2 : ad192.block ≠ gb186 := Kd.own_blk (Kd.R_ne HO_4.out BK186.out (by decide)); replace hx192_0 := (cell_far (p := ⟨gb186, 0, none⟩) (by first | (rw [add_block]; exact hn192_0) | (show (Addr.add _ _).block ≠ _; rw [add_block]; exact hn192_0) | exact hn192_0) (.int .i8 ((rd_T81 ((rd_T31 l0 0).f1) x5_1).f0))).trans hx192_0; replace hx192_0 := (cell_far (p := ⟨gb186, 1, none⟩) (by first | (rw [add_block]; exact hn192_1) | (show (Addr.add _ _).block ≠ _; rw [add_block]; exact hn192_1) | exact hn192_1) (.int .i16 ((rd_T81 ((rd_T31 l0 0).f1) x5_1).f1))).trans hx192_0; replace hx192_0 := (cell_far (p := ⟨gb186, 2, none⟩) (by first | (rw [add_block]; exact hn192_2) | (show (Addr.add _ _).block ≠ _; rw [add_block]; exact hn192_2) | exact hn192_2) (.int .i16 ((rd_T81 ((rd_T31 l0 0).f1) x5_1).f2))).trans hx192_0; (try have hy192_0 := fun (n_ : Nat) => (show (((((w21.drewN n_).setCell ⟨gb186, 0, none⟩ (.int .i8 ((rd_T81 ((rd_T31 l0 0).f1) x5_1).f0))).setCell ⟨gb186, 1, none⟩ (.int .i16 ((rd_T81 ((rd_T31 l0 0).f1) x5_1).f1))).setCell ⟨gb186, 2, none⟩ (.int .i16 ((rd_T81 ((rd_T31 l0 0).f1) x5_1).f2)))).cell? _ = some _ from hx192_0)); clear hn192_0; clear hn192_1; clear hn192_2; replace p192 := eq_true p192; replace q192 := eq_true q192; have p193 : 0 ≤ (((rd_T81 ((rd_T31 l0 0).f1) x5_1).f2) : Int) := of_decide_eq_true (by first | (with_reducible assumption) | assumption); have q193 : ((rd_T81 ((rd_T31 l0 0).f1) x5_1).f2) < (x4_1.length : Int) := of_decide_eq_true (by first | (with_reducible assumption) | assumption); obtain ⟨ad193, e193, hx193_0⟩ := Kd.at_int (Kd.R_reads' HO_4.out).2.2 ((rd_T81 ((rd_T31 l0 0).f1) x5_1).f2) p193 q193; obtain rfl : ad192 = ad193 := (by injection e193); have hn193_0 : ad192.block ≠ gb186 := Kd.own_blk (Kd.R_ne HO_4.out BK186.out (by decide)); have hn193_1 : ad192.block ≠ gb186 := Kd.own_blk (Kd.R_ne HO_4.out BK186.out (by decide)); have hn193_2 : ad192.block ≠ gb186 := Kd.own_blk (Kd.R_ne HO_4.out BK186.out (by decide)); replace hx193_0 := (cell_far (p := ⟨gb186, 0, none⟩) (by first | (rw [add_block]; exact hn193_0) | (show (Addr.add _ _).block ≠ _; rw [add_block]; exact hn193_0) | exact hn193_0) (.int .i8 ((rd_T81 ((rd_T31 l0 0).f1) x5_1).f0))).trans hx193_0; replace hx193_0 := (cell_far (p := ⟨gb186, 1, none⟩) (by first | (rw [add_block]; exact hn193_1) | (show (Addr.add _ _).block ≠ _; rw [add_block]; exact hn193_1) | exact hn193_1) (.int .i16 ((rd_T81 ((rd_T31 l0 0).f1) x5_1).f1))).trans hx193_0; replace hx193_0 := (cell_far (p := ⟨gb186, 2, none⟩) (by first | (rw [add_block]; exact hn193_2) | (show (Addr.add _ _).block ≠ _; rw [add_block]; exact hn193_2) | exact hn193_2) (.int .i16 ((rd_T81 ((rd_T31 l0 0).f1) x5_1).f2))).trans hx193_0; (try have hy193_0 := fun (n_ : Nat) => (show (((((w21.drewN n_).setCell ⟨gb186, 0, none⟩ (.int .i8 ((rd_T81 ((rd_T31 l0 0).f1) x5_1).f0))).setCell ⟨gb186, 1, none⟩ (.int .i16 ((rd_T81 ((rd_T31 l0 0).f1) x5_1).f1))).setCell ⟨gb186, 2, none⟩ (.int .i16 ((rd_T81 ((rd_T31 l0 0).f1) x5_1).f2)))).cell? _ = some _ from hx193_0)); clear hn193_0; clear hn193_1; clear hn193_2; replace p193 := eq_true p193; replace q193 := eq_true q193) | ((with_reducible refine gate_builtin (b := .append) (xs := #[.tmp 71, .tmp 73]) rfl ?_); at_builtin; refine Kd.R_append (Kd.int .u64) (w0 := w) w.heap.size rfl (.tmp 71) (.tmp 73) 53 98 (.int .u64 0) 8 rfl Try.underlying53 info98 rfl (by decide) (by omega) (.slice (some ad192) x4_1.length co23) x4_1 (Go.bits .or .u64 (rd x4_1 ((rd_T81 ((rd_T31 l0 0).f1) x5_1).f1)) (rd x4_1 ((rd_T81 ((rd_T31 l0 0).f1) x5_1).f2))) [.int .u64 (Go.bits .or .u64 (rd x4_1 ((rd_T81 ((rd_T31 l0 0).f1) x5_1).f1)) (rd x4_1 ((rd_T81 ((rd_T31 l0 0).f1) x5_1).f2)))] (fun _ => True) (fun _ => False) rfl (by first | (go_simp; done) | (go_simp; rfl)) ?aP (fun _ hk => hk.elim) ?aF ?aO ?aB ?aS ?aL ?_; (case aP => exact rfl); (case aB => exact (by repeat (first | (with_reducible first | exact HB.out | apply below_alloc | apply pw_below_drewN | apply below_drew1 | refine below_set ?_ GE186.out) | exact HB.out))); (case aF => exact (fun _ _ => trivial)); (case aO => exact (by (with_reducible repeat (first | apply Kd.R_alloc | apply Kd.R_drewN | apply Kd.R_drew)); exact Kd.R_mono (Kd.R_far (p := ⟨gb186, 2, none⟩) (Kd.R_far (p := ⟨gb186, 1, none⟩) (Kd.R_far (p := ⟨gb186, 0, none⟩) (Kd.R_types HO_4.out BK186.out (by decide)) (fun _ hk => hk.2) (.int .i8 ((rd_T81 ((rd_T31 l0 0).f1) x5_1).f0))) (fun _ hk => hk.2) (.int .i16 ((rd_T81 ((rd_T31 l0 0).f1) x5_1).f1))) (fun _ hk => hk.2) (.int .i16 ((rd_T81 ((rd_T31 l0 0).f1) x5_1).f2))) (fun _ hk => trivial))); (case aS => exact (zz HB)); (case aL => have := LMc20.out; omega); intro v195 w24 ho hb hg hat; rw [← Ny194.out] at ho; have n_ : _ ∧ _ ∧ _ := ⟨Aside0.mk (blk_grown (g := gb186) (o := .cells #[.int .i8 ((rd_T81 ((rd_T31 l0 0).f1) x5_1).f0), .int .i16 ((rd_T81 ((rd_T31 l0 0).f1) x5_1).f1), .int .i16 ((rd_T81 ((rd_T31 l0 0).f1) x5_1).f2)] 81 (0, 0)) (by (with_reducible repeat (first | refine blk_drewN ?_ _ | refine blk_drew ?_ | refine blk_alloc ?_ _)); refine blk_put (cs := #[.int .i8 ((rd_T81 ((rd_T31 l0 0).f1) x5_1).f0), .int .i16 ((rd_T81 ((rd_T31 l0 0).f1) x5_1).f1), .int .i16 0]) ?_ 2 _ rfl; (with_reducible repeat (first | refine blk_drewN ?_ _ | refine blk_drew ?_ | refine blk_alloc ?_ _)); refine blk_put (cs := #[.int .i8 ((rd_T81 ((rd_T31 l0 0).f1) x5_1).f0), .int .i16 0, .int .i16 0]) ?_ 1 _ rfl; (with_reducible repeat (first | refine blk_drewN ?_ _ | refine blk_drew ?_ | refine blk_alloc ?_ _)); refine blk_put (cs := #[.int .i8 0, .int .i16 0, .int .i16 0]) ?_ 0 _ rfl; (with_reducible repeat (first | refine blk_drewN ?_ _ | refine blk_drew ?_ | refine blk_alloc ?_ _)); exact BK186.out) hg (Kd.R_ne HO_4.out BK186.out (by decide))), Aside0.mk (hb), Aside0.mk (ho)⟩; clear BK186 HB HO_4; obtain ⟨BK186, HB, HO196⟩ := n_; clear ho hb hg hat) | go_quiet (fail))
  go_roundg k1
  case measure => have := HK1.out; omega
  case rel => exact ⟨(y194), (wrap64 (x5_1 + 1)), (by first | rfl | (simp; done) | (simp [*]; done) | (exact congrArg (Value.int .i64) (wrap_eq (by omega)))), H', ⟨by have := HK1.out; omega⟩, ze HO196, zba⟩
 rw [if_neg c15] at H
 have c15b0 : (((rd_T81 ((rd_T31 l0 0).f1) x5_1).f0) == 2) = false := beq_eq_false_iff_ne.mpr c15
 have c15b1 : (((rd_T81 ((rd_T31 l0 0).f1) x5_1).f0) != 2) = true := bne_iff_ne.mpr c15
 by_cases c25 : ((rd_T81 ((rd_T31 l0 0).f1) x5_1).f0) = 3
 rotate_left
 ·rw [if_neg c25] at H
  have c25b0 : (((rd_T81 ((rd_T31 l0 0).f1) x5_1).f0) == 3) = false := beq_eq_false_iff_ne.mpr c25
  have c25b1 : (((rd_T81 ((rd_T31 l0 0).f1) x5_1).f0) != 3) = true := bne_iff_ne.mpr c25
  by_cases c35 : x4_1.length < 17592186044416
  rotate_left
  ·rw [if_neg c35] at H
   exact absurd H (by simp)
  rw [if_pos c35] at H
  have LMc35 := Aside0.mk c35
  clear c35
  obtain ⟨y202, hy202⟩ : ∃ y_ : List Int, y_ = (x4_1 ++ [t179]) := ⟨_, rfl⟩
  replace H : (spec_l04Tables.l0 k1 l0 t179 y202 (wrap64 (x5_1 + 1))) = some r := by first | (rw [hy202]; with_reducible exact H) | (have H2_ := (Option.bind_some _ _).symm.trans H; rw [hy202]; with_reducible exact H2_) | (have H2_ := (Option.bind_some _ _).symm.trans H; with_reducible exact H2_) | with_reducible exact H | (rw [hy202]; exact H) | exact H
  have Ny202 := Aside0.mk hy202
  clear hy202
  have H' := Aside0.mk H
  clear H
  have p183 : 0 ≤ (0 : Int) := (by omega)
  have q183 : 0 < (l0.length : Int) := of_decide_eq_true (by first | (with_reducible assumption) | assumption)
  obtain ⟨ad183, A183_1, c183_1, A183_2, c183_2, e183, hx183_0, hx183_1, hx183_2, hl183_1, hi183_1, hl183_2, hi183_2⟩ := at_T31 HR0.out 0 p183 q183
  obtain rfl : adp0 = ad183 := (by injection e183)
  have qi183 : (0 < l0.length) = True := eq_true (by omega)
  (try rw [show ((0 : Int)).toNat = 0 from rfl] at hx183_0)
  (try rw [show 0 * 3 = 0 from rfl] at hx183_0)
  (try rw [Addr.add_zero'] at hx183_0)
  (try rw [show ((0 : Int)).toNat = 0 from rfl] at hx183_1)
  (try rw [show 0 * 3 = 0 from rfl] at hx183_1)
  (try rw [Addr.add_zero'] at hx183_1)
  (try rw [show ((0 : Int)).toNat = 0 from rfl] at hx183_2)
  (try rw [show 0 * 3 = 0 from rfl] at hx183_2)
  (try rw [Addr.add_zero'] at hx183_2)
  replace hx183_0 := zc HB hx183_0
  replace hx183_1 := zc HB hx183_1
  replace hx183_2 := zc HB hx183_2
  have HR183_1 := Aside0.mk hi183_1
  have HC183_1 := Aside0.mk hl183_1
  clear hi183_1 hl183_1
  have HR183_2 := Aside0.mk hi183_2
  have HC183_2 := Aside0.mk hl183_2
  clear hi183_2 hl183_2
  replace p183 := eq_true p183
  replace q183 := eq_true q183
  have p184 : 0 ≤ (0 : Int) := (by omega)
  have q184 : 0 < (l0.length : Int) := of_decide_eq_true (by first | (with_reducible assumption) | assumption)
  obtain ⟨ad184, A184_1, c184_1, A184_2, c184_2, e184, hx184_0, hx184_1, hx184_2, hl184_1, hi184_1, hl184_2, hi184_2⟩ := at_T31 HR0.out 0 p184 q184
  obtain rfl : adp0 = ad184 := (by injection e184)
  have qi184 : (0 < l0.length) = True := eq_true (by omega)
  (try rw [show ((0 : Int)).toNat = 0 from rfl] at hx184_0)
  (try rw [show 0 * 3 = 0 from rfl] at hx184_0)
  (try rw [Addr.add_zero'] at hx184_0)
  (try rw [show ((0 : Int)).toNat = 0 from rfl] at hx184_1)
  (try rw [show 0 * 3 = 0 from rfl] at hx184_1)
  (try rw [Addr.add_zero'] at hx184_1)
  (try rw [show ((0 : Int)).toNat = 0 from rfl] at hx184_2)
  (try rw [show 0 * 3 = 0 from rfl] at hx184_2)
  (try rw [Addr.add_zero'] at hx184_2)
  replace hx184_0 := zc HB hx184_0
  replace hx184_1 := zc HB hx184_1
  replace hx184_2 := zc HB hx184_2
  have HR184_1 := Aside0.mk hi184_1
  have HC184_1 := Aside0.mk hl184_1
  clear hi184_1 hl184_1
  have HR184_2 := Aside0.mk hi184_2
  have HC184_2 := Aside0.mk hl184_2
  clear hi184_2 hl184_2
  replace p184 := eq_true p184
  replace q184 := eq_true q184
  have ea_ := Option.some.inj (hx183_1.symm.trans hx184_1)
  injection ea_ with ea_ en_ ec_
  subst ea_
  subst ec_
  clear en_
  have ea_ := Option.some.inj (hx183_2.symm.trans hx184_2)
  injection ea_ with ea_ en_ ec_
  subst ea_
  subst ec_
  clear en_
  have p185 : 0 ≤ (x5_1 : Int) := of_decide_eq_true (by first | (with_reducible assumption) | assumption)
  have q185 : x5_1 < (((rd_T31 l0 0).f1).length : Int) := of_decide_eq_true (by first | (with_reducible assumption) | assumption)
  obtain ⟨ad185, e185, hx185_0, hx185_1, hx185_2⟩ := at_T81 HR184_1.out x5_1 p185 q185
  cases e185
  replace hx185_0 := zc HB hx185_0
  replace hx185_1 := zc HB hx185_1
  replace hx185_2 := zc HB hx185_2
  replace p185 := eq_true p185
  replace q185 := eq_true q185
  go_wp2_with (first | ((with_reducible refine gate_dst (N := 6) rfl ?_); refine box_event ?hg (N := 6) ?hd (cs := #[.int .i8 0, .int .i16 0, .int .i16 0]) (t := 81) ?hr ?_; (case hd => rfl); (case hg => rfl); (case hr => first | (go_simp; done) | (go_simp; rfl)); intro gb186 hg w36 hbox hb; have n_ : _ ∧ _ ∧ _ ∧ _ ∧ _ := ⟨zr HO_4 hb, zb HB hb, Aside0.mk (hbox), zg HB hg, zg HB hg⟩; clear HO_4 HB; obtain ⟨HO_4, HB, BK186, GW186, GE186⟩ := n_; clear hb hbox hg; obtain ⟨z37_0, z37_1, z37_2, y37_0, y37_1, y37_2⟩ := zB3 BK186) | ((with_reducible refine gate_builtin (b := .append) (xs := #[.tmp 71, .tmp 73]) rfl ?_); at_builtin; refine Kd.R_append (Kd.int .u64) (w0 := w) w.heap.size rfl (.tmp 71) (.tmp 73) 53 98 (.int .u64 0) 8 rfl Try.underlying53 info98 rfl (by decide) (by omega) u4 x4_1 t179 [.int .u64 t179] (fun _ => True) (fun _ => False) rfl (by first | (go_simp; done) | (go_simp; rfl)) ?aP (fun _ hk => hk.elim) ?aF ?aO ?aB ?aS ?aL ?_; (case aP => exact rfl); (case aB => exact (by repeat (first | (with_reducible first | exact HB.out | apply below_alloc | apply pw_below_drewN | apply below_drew1 | refine below_set ?_ GE186.out) | exact HB.out))); (case aF => exact (fun _ _ => trivial)); (case aO => exact (by (with_reducible repeat (first | apply Kd.R_alloc | apply Kd.R_drewN | apply Kd.R_drew)); exact Kd.R_mono (Kd.R_far (p := ⟨gb186, 2, none⟩) (Kd.R_far (p := ⟨gb186, 1, none⟩) (Kd.R_far (p := ⟨gb186, 0, none⟩) (Kd.R_types HO_4.out BK186.out (by decide)) (fun _ hk => hk.2) (.int .i8 ((rd_T81 ((rd_T31 l0 0).f1) x5_1).f0))) (fun _ hk => hk.2) (.int .i16 ((rd_T81 ((rd_T31 l0 0).f1) x5_1).f1))) (fun _ hk => hk.2) (.int .i16 ((rd_T81 ((rd_T31 l0 0).f1) x5_1).f2))) (fun _ hk => trivial))); (case aS => exact (zz HB)); (case aL => have := LMc35.out; omega); intro v203 w38 ho hb hg hat; rw [← Ny202.out] at ho; have n_ : _ ∧ _ ∧ _ := ⟨Aside0.mk (blk_grown (g := gb186) (o := .cells #[.int .i8 ((rd_T81 ((rd_T31 l0 0).f1) x5_1).f0), .int .i16 ((rd_T81 ((rd_T31 l0 0).f1) x5_1).f1), .int .i16 ((rd_T81 ((rd_T31 l0 0).f1) x5_1).f2)] 81 (0, 0)) (by (with_reducible repeat (first | refine blk_drewN ?_ _ | refine blk_drew ?_ | refine blk_alloc ?_ _)); refine blk_put (cs := #[.int .i8 ((rd_T81 ((rd_T31 l0 0).f1) x5_1).f0), .int .i16 ((rd_T81 ((rd_T31 l0 0).f1) x5_1).f1), .int .i16 0]) ?_ 2 _ rfl; (with_reducible repeat (first | refine blk_drewN ?_ _ | refine blk_drew ?_ | refine blk_alloc ?_ _)); refine blk_put (cs := #[.int .i8 ((rd_T81 ((rd_T31 l0 0).f1) x5_1).f0), .int .i16 0, .int .i16 0]) ?_ 1 _ rfl; (with_reducible repeat (first | refine blk_drewN ?_ _ | refine blk_drew ?_ | refine blk_alloc ?_ _)); refine blk_put (cs := #[.int .i8 0, .int .i16 0, .int .i16 0]) ?_ 0 _ rfl; (with_reducible repeat (first | refine blk_drewN ?_ _ | refine blk_drew ?_ | refine blk_alloc ?_ _)); exact BK186.out) hg (Kd.R_ne HO_4.out BK186.out (by decide))), Aside0.mk (hb), Aside0.mk (ho)⟩; clear BK186 HB HO_4; obtain ⟨BK186, HB, HO204⟩ := n_; clear ho hb hg hat) | go_quiet (fail))
  go_roundg k1
  case measure => have := HK1.out; omega
  case rel => exact ⟨(y202), (wrap64 (x5_1 + 1)), (by first | rfl | (simp; done) | (simp [*]; done) | (exact congrArg (Value.int .i64) (wrap_eq (by omega)))), H', ⟨by have := HK1.out; omega⟩, ze HO204, zba⟩
 rw [if_pos c25] at H
 have c25b0 : (((rd_T81 ((rd_T31 l0 0).f1) x5_1).f0) == 3) = true := beq_iff_eq.mpr c25
 have c25b1 : (((rd_T81 ((rd_T31 l0 0).f1) x5_1).f0) != 3) = false := bne_eq_false_iff_eq.mpr c25
 clear c25
 by_cases c26 : 0 ≤ ((rd_T81 ((rd_T31 l0 0).f1) x5_1).f1)
 rotate_left
 ·rw [if_neg c26] at H
  exact absurd H (by simp)
 rw [if_pos c26] at H
 have c26b0 : decide (0 ≤ ((rd_T81 ((rd_T31 l0 0).f1) x5_1).f1)) = true := decide_eq_true c26
 clear c26
 by_cases c27 : ((rd_T81 ((rd_T31 l0 0).f1) x5_1).f1) < (x4_1.length : Int)
 rotate_left
 ·rw [if_neg c27] at H
  exact absurd H (by simp)
 rw [if_pos c27] at H
 have c27b0 : decide (((rd_T81 ((rd_T31 l0 0).f1) x5_1).f1) < (x4_1.length : Int)) = true := decide_eq_true c27
 clear c27
 by_cases c28 : 0 ≤ ((rd_T81 ((rd_T31 l0 0).f1) x5_1).f2)
 rotate_left
 ·rw [if_neg c28] at H
  exact absurd H (by simp)
 rw [if_pos c28] at H
 have c28b0 : decide (0 ≤ ((rd_T81 ((rd_T31 l0 0).f1) x5_1).f2)) = true := decide_eq_true c28
 clear c28
 by_cases c29 : ((rd_T81 ((rd_T31 l0 0).f1) x5_1).f2) < (x4_1.length : Int)
 rotate_left
 ·rw [if_neg c29] at H
  exact absurd H (by simp)
 rw [if_pos c29] at H
 have c29b0 : decide (((rd_T81 ((rd_T31 l0 0).f1) x5_1).f2) < (x4_1.length : Int)) = true := decide_eq_true c29
 clear c29
 by_cases c30 : x4_1.length < 17592186044416
 rotate_left
 ·rw [if_neg c30] at H
  exact absurd H (by simp)
 rw [if_pos c30] at H
 have LMc30 := Aside0.mk c30
 clear c30
 obtain ⟨y199, hy199⟩ : ∃ y_ : List Int, y_ = (x4_1 ++ [Go.bits .andNot .u64 (rd x4_1 ((rd_T81 ((rd_T31 l0 0).f1) x5_1).f1)) (rd x4_1 ((rd_T81 ((rd_T31 l0 0).f1) x5_1).f2))]) := ⟨_, rfl⟩
 replace H : (spec_l04Tables.l0 k1 l0 t179 y199 (wrap64 (x5_1 + 1))) = some r := by first | (rw [hy199]; with_reducible exact H) | (have H2_ := (Option.bind_some _ _).symm.trans H; rw [hy199]; with_reducible exact H2_) | (have H2_ := (Option.bind_some _ _).symm.trans H; with_reducible exact H2_) | with_reducible exact H | (rw [hy199]; exact H) | exact H
 have Ny199 := Aside0.mk hy199
 clear hy199
 have H' := Aside0.mk H
 clear H
 have p183 : 0 ≤ (0 : Int) := (by omega)
 have q183 : 0 < (l0.length : Int) := of_decide_eq_true (by first | (with_reducible assumption) | assumption)
 obtain ⟨ad183, A183_1, c183_1, A183_2, c183_2, e183, hx183_0, hx183_1, hx183_2, hl183_1, hi183_1, hl183_2, hi183_2⟩ := at_T31 HR0.out 0 p183 q183
 obtain rfl : adp0 = ad183 := (by injection e183)
 have qi183 : (0 < l0.length) = True := eq_true (by omega)
 (try rw [show ((0 : Int)).toNat = 0 from rfl] at hx183_0)
 (try rw [show 0 * 3 = 0 from rfl] at hx183_0)
 (try rw [Addr.add_zero'] at hx183_0)
 (try rw [show ((0 : Int)).toNat = 0 from rfl] at hx183_1)
 (try rw [show 0 * 3 = 0 from rfl] at hx183_1)
 (try rw [Addr.add_zero'] at hx183_1)
 (try rw [show ((0 : Int)).toNat = 0 from rfl] at hx183_2)
 (try rw [show 0 * 3 = 0 from rfl] at hx183_2)
 (try rw [Addr.add_zero'] at hx183_2)
 replace hx183_0 := zc HB hx183_0
 replace hx183_1 := zc HB hx183_1
 replace hx183_2 := zc HB hx183_2
 have HR183_1 := Aside0.mk hi183_1
 have HC183_1 := Aside0.mk hl183_1
 clear hi183_1 hl183_1
 have HR183_2 := Aside0.mk hi183_2
 have HC183_2 := Aside0.mk hl183_2
 clear hi183_2 hl183_2
 replace p183 := eq_true p183
 replace q183 := eq_true q183
 have p184 : 0 ≤ (0 : Int) := (by omega)
 have q184 : 0 < (l0.length : Int) := of_decide_eq_true (by first | (with_reducible assumption) | assumption)
 obtain ⟨ad184, A184_1, c184_1, A184_2, c184_2, e184, hx184_0, hx184_1, hx184_2, hl184_1, hi184_1, hl184_2, hi184_2⟩ := at_T31 HR0.out 0 p184 q184
 obtain rfl : adp0 = ad184 := (by injection e184)
 have qi184 : (0 < l0.length) = True := eq_true (by omega)
 (try rw [show ((0 : Int)).toNat = 0 from rfl] at hx184_0)
 (try rw [show 0 * 3 = 0 from rfl] at hx184_0)
 (try rw [Addr.add_zero'] at hx184_0)
 (try rw [show ((0 : Int)).toNat = 0 from rfl] at hx184_1)
 (try rw [show 0 * 3 = 0 from rfl] at hx184_1)
 (try rw [Addr.add_zero'] at hx184_1)
 (try rw [show ((0 : Int)).toNat = 0 from rfl] at hx184_2)
 (try rw [show 0 * 3 = 0 from rfl] at hx184_2)
 (try rw [Addr.add_zero'] at hx184_2)
 replace hx184_0 := zc HB hx184_0
 replace hx184_1 := zc HB hx184_1
 replace hx184_2 := zc HB hx184_2
 have HR184_1 := Aside0.mk hi184_1
 have HC184_1 := Aside0.mk hl184_1
 clear hi184_1 hl184_1
 have HR184_2 := Aside0.mk hi184_2
 have HC184_2 := Aside0.mk hl184_2
 clear hi184_2 hl184_2
 replace p184 := eq_true p184
 replace q184 := eq_true q184
 have ea_ := Option.some.inj (hx183_1.symm.trans hx184_1)
 injection ea_ with ea_ en_ ec_
 subst ea_
 subst ec_
 clear en_
 have ea_ := Option.some.inj (hx183_2.symm.trans hx184_2)
 injection ea_ with ea_ en_ ec_
 subst ea_
 subst ec_
 clear en_
 have p185 : 0 ≤ (x5_1 : Int) := of_decide_eq_true (by first | (with_reducible assumption) | assumption)
 have q185 : x5_1 < (((rd_T31 l0 0).f1).length : Int) := of_decide_eq_true (by first | (with_reducible assumption) | assumption)
 obtain ⟨ad185, e185, hx185_0, hx185_1, hx185_2⟩ := at_T81 HR184_1.out x5_1 p185 q185
 cases e185
 replace hx185_0 := zc HB hx185_0
 replace hx185_1 := zc HB hx185_1
 replace hx185_2 := zc HB hx185_2
 replace p185 := eq_true p185
 replace q185 := eq_true q185
 go_wp2_with (first | ((with_reducible refine gate_dst (N := 6) rfl ?_); refine box_event ?hg (N := 6) ?hd (cs := #[.int .i8 0, .int .i16 0, .int .i16 0]) (t := 81) ?hr ?_; (case hd => rfl); (case hg => rfl); (case hr => first | (go_simp; done) | (go_simp; rfl)); intro gb186 hg w31 hbox hb; have n_ : _ ∧ _ ∧ _ ∧ _ ∧ _ := ⟨zr HO_4 hb, zb HB hb, Aside0.mk (hbox), zg HB hg, zg HB hg⟩; clear HO_4 HB; obtain ⟨HO_4, HB, BK186, GW186, GE186⟩ := n_; clear hb hbox hg; obtain ⟨z32_0, z32_1, z32_2, y32_0, y32_1, y32_2⟩ := zB3 BK186; obtain ⟨Ao33, co33, eo33⟩ := Kd.R_slice HO_4.out; subst eo33; have p197 : 0 ≤ (((rd_T81 ((rd_T31 l0 0).f1) x5_1).f1) : Int) := of_decide_eq_true (by first | (with_reducible assumption) | assumption); have q197 : ((rd_T81 ((rd_T31 l0 0).f1) x5_1).f1) < (x4_1.length : Int) := of_decide_eq_true (by first | (with_reducible assumption) | assumption); obtain ⟨ad197, e197, hx197_0⟩ := Kd.at_int (Kd.R_reads' HO_4.out).2.2 ((rd_T81 ((rd_T31 l0 0).f1) x5_1).f1) p197 q197; cases e197; have hn197_0 : ad197.block ≠ gb186 := Kd.own_blk (Kd.R_ne HO_4.out BK186.out (by decide)); have hn197_1 : ad197.block ≠ gb186 := Kd.own_blk (Kd.R_ne HO_4.out BK186.out (by decide)); have hn197_2 : ad197.block ≠ gb186 := Kd.own_blk (Kd.R_ne HO_4.out BK186.out (by decide)); replace hx197_0 := (cell_far (p := ⟨gb186, 0, none⟩) (by first | (rw [add_block]; exact hn197_0) | (show (Addr.add _ _).block ≠ _; rw [add_block]; exact hn197_0) | exact hn197_0) (.int .i8 ((rd_T81 ((rd_T31 l0 0).f1) x5_1).f0))).trans hx197_0; replace hx197_0 := (cell_far (p := ⟨gb186, 1, none⟩) (by first | (rw [add_block]; exact hn197_1) | (show (Addr.add _ _).block ≠ _; rw [add_block]; exact hn197_1) | exact hn197_1) (.int .i16 ((rd_T81 ((rd_T31 l0 0).f1) x5_1).f1))).trans hx197_0; replace hx197_0 := (cell_far (p := ⟨gb186, 2, none⟩) (by first | (rw [add_block]; exact hn197_2) | (show (Addr.add _ _).block ≠ _; rw [add_block]; exact hn197_2) | exact hn197_2) (.int .i16 ((rd_T81 ((rd_T31 l0 0).f1) x5_1).f2))).trans hx197_0; (try have hy197_0 := fun (n_ : Nat) => (show (((((w31.drewN n_).setCell ⟨gb186, 0, none⟩ (.int .i8 ((rd_T81 ((rd_T31 l0 0).f1) x5_1).f0))).setCell ⟨gb186, 1, none⟩ (.int .i16 ((rd_T81 ((rd_T31 l0 0).f1) x5_1).f1))).setCell ⟨gb186, 2, none⟩ (.int .i16 ((rd_T81 ((rd_T31 l0 0).f1) x5_1).f2)))).cell? _ = some _ from hx197_0)); clear hn197_0; clear hn197_1; clear hn197_2; replace p197 := eq_true p197; replace q197 := eq_true q197; have p198 : 0 ≤ (((rd_T81 ((rd_T31 l0 0).f1) x5_1).f2) : Int) := of_decide_eq_true (by first | (with_reducible assumption) | assumption); have q198 : ((rd_T81 ((rd_T31 l0 0).f1) x5_1).f2) < (x4_1.length : Int) := of_decide_eq_true (by first | (with_reducible assumption) | assumption); obtain ⟨ad198, e198, hx198_0⟩ := Kd.at_int (Kd.R_reads' HO_4.out).2.2 ((rd_T81 ((rd_T31 l0 0).f1) x5_1).f2) p198 q198; obtain rfl : ad197 = ad198 := (by injection e198); have hn198_0 : ad197.block ≠ gb186 := Kd.own_blk (Kd.R_ne HO_4.out BK186.out (by decide)); have hn198_1 : ad197.block ≠ gb186 := Kd.own_blk (Kd.R_ne HO_4.out BK186.out (by decide)); have hn198_2 : ad197.block ≠ gb186 := Kd.own_blk (Kd.R_ne HO_4.out BK186.out (by decide)); replace hx198_0 := (cell_far (p := ⟨gb186, 0, none⟩) (by first | (rw [add_block]; exact hn198_0) | (show (Addr.add _ _).block ≠ _; rw [add_block]; exact hn198_0) | exact hn198_0) (.int .i8 ((rd_T81 ((rd_T31 l0 0).f1) x5_1).f0))).trans hx198_0; replace hx198_0 := (cell_far (p := ⟨gb186, 1, none⟩) (by first | (rw [add_block]; exact hn198_1) | (show (Addr.add _ _).block ≠ _; rw [add_block]; exact hn198_1) | exact hn198_1) (.int .i16 ((rd_T81 ((rd_T31 l0 0).f1) x5_1).f1))).trans hx198_0; replace hx198_0 := (cell_far (p := ⟨gb186, 2, none⟩) (by first | (rw [add_block]; exact hn198_2) | (show (Addr.add _ _).block ≠ _; rw [add_block]; exact hn198_2) | exact hn198_2) (.int .i16 ((rd_T81 ((rd_T31 l0 0).f1) x5_1).f2))).trans hx198_0; (try have hy198_0 := fun (n_ : Nat) => (show (((((w31.drewN n_).setCell ⟨gb186, 0, none⟩ (.int .i8 ((rd_T81 ((rd_T31 l0 0).f1) x5_1).f0))).setCell ⟨gb186, 1, none⟩ (.int .i16 ((rd_T81 ((rd_T31 l0 0).f1) x5_1).f1))).setCell ⟨gb186, 2, none⟩ (.int .i16 ((rd_T81 ((rd_T31 l0 0).f1) x5_1).f2)))).cell? _ = some _ from hx198_0)); clear hn198_0; clear hn198_1; clear hn198_2; replace p198 := eq_true p198; replace q198 := eq_true q198) | ((with_reducible refine gate_builtin (b := .append) (xs := #[.tmp 71, .tmp 73]) rfl ?_); at_builtin; refine Kd.R_append (Kd.int .u64) (w0 := w) w.heap.size rfl (.tmp 71) (.tmp 73) 53 98 (.int .u64 0) 8 rfl Try.underlying53 info98 rfl (by decide) (by omega) (.slice (some ad197) x4_1.length co33) x4_1 (Go.bits .andNot .u64 (rd x4_1 ((rd_T81 ((rd_T31 l0 0).f1) x5_1).f1)) (rd x4_1 ((rd_T81 ((rd_T31 l0 0).f1) x5_1).f2))) [.int .u64 (Go.bits .andNot .u64 (rd x4_1 ((rd_T81 ((rd_T31 l0 0).f1) x5_1).f1)) (rd x4_1 ((rd_T81 ((rd_T31 l0 0).f1) x5_1).f2)))] (fun _ => True) (fun _ => False) rfl (by first | (go_simp; done) | (go_simp; rfl)) ?aP (fun _ hk => hk.elim) ?aF ?aO ?aB ?aS ?aL ?_; (case aP => exact rfl); (case aB => exact (by repeat (first | (with_reducible first | exact HB.out | apply below_alloc | apply pw_below_drewN | apply below_drew1 | refine below_set ?_ GE186.out) | exact HB.out))); (case aF => exact (fun _ _ => trivial)); (case aO => exact (by (with_reducible repeat (first | apply Kd.R_alloc | apply Kd.R_drewN | apply Kd.R_drew)); exact Kd.R_mono (Kd.R_far (p := ⟨gb186, 2, none⟩) (Kd.R_far (p := ⟨gb186, 1, none⟩) (Kd.R_far (p := ⟨gb186, 0, none⟩) (Kd.R_types HO_4.out BK186.out (by decide)) (fun _ hk => hk.2) (.int .i8 ((rd_T81 ((rd_T31 l0 0).f1) x5_1).f0))) (fun _ hk => hk.2) (.int .i16 ((rd_T81 ((rd_T31 l0 0).f1) x5_1).f1))) (fun _ hk => hk.2) (.int .i16 ((rd_T81 ((rd_T31 l0 0).f1) x5_1).f2))) (fun _ hk => trivial))); (case aS => exact (zz HB)); (case aL => have := LMc30.out; omega); intro v200 w34 ho hb hg hat; rw [← Ny199.out] at ho; have n_ : _ ∧ _ ∧ _ := ⟨Aside0.mk (blk_grown (g := gb186) (o := .cells #[.int .i8 ((rd_T81 ((rd_T31 l0 0).f1) x5_1).f0), .int .i16 ((rd_T81 ((rd_T31 l0 0).f1) x5_1).f1), .int .i16 ((rd_T81 ((rd_T31 l0 0).f1) x5_1).f2)] 81 (0, 0)) (by (with_reducible repeat (first | refine blk_drewN ?_ _ | refine blk_drew ?_ | refine blk_alloc ?_ _)); refine blk_put (cs := #[.int .i8 ((rd_T81 ((rd_T31 l0 0).f1) x5_1).f0), .int .i16 ((rd_T81 ((rd_T31 l0 0).f1) x5_1).f1), .int .i16 0]) ?_ 2 _ rfl; (with_reducible repeat (first | refine blk_drewN ?_ _ | refine blk_drew ?_ | refine blk_alloc ?_ _)); refine blk_put (cs := #[.int .i8 ((rd_T81 ((rd_T31 l0 0).f1) x5_1).f0), .int .i16 0, .int .i16 0]) ?_ 1 _ rfl; (with_reducible repeat (first | refine blk_drewN ?_ _ | refine blk_drew ?_ | refine blk_alloc ?_ _)); refine blk_put (cs := #[.int .i8 0, .int .i16 0, .int .i16 0]) ?_ 0 _ rfl; (with_reducible repeat (first | refine blk_drewN ?_ _ | refine blk_drew ?_ | refine blk_alloc ?_ _)); exact BK186.out) hg (Kd.R_ne HO_4.out BK186.out (by decide))), Aside0.mk (hb), Aside0.mk (ho)⟩; clear BK186 HB HO_4; obtain ⟨BK186, HB, HO201⟩ := n_; clear ho hb hg hat) | go_quiet (fail))
 go_roundg k1
 case measure => have := HK1.out; omega
 case rel => exact ⟨(y199), (wrap64 (x5_1 + 1)), (by first | rfl | (simp; done) | (simp [*]; done) | (exact congrArg (Value.int .i64) (wrap_eq (by omega)))), H', ⟨by have := HK1.out; omega⟩, ze HO201, zba⟩
end Go.Proofs.Ytmpmanfoiocfgaa.PFnExactMergeOf
