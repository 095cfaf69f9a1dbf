-- WRITTEN by xprint.py, a program of this session's. Not trusted: Lean checks it.
import Derived.Test.YtmpmanfoiocfgaaPFnExactCheckMergex0
namespace Go.Proofs.Ytmpmanfoiocfgaa.PFnExactCheckMerge
open Go.RowKit Go.Proofs.YtmpmanfoiocfgaaW.PrintWords Go.Proofs.YtmpmanfoiocfgaaW.PrintLast Go.Proofs.YtmpmanfoiocfgaaW.PrintMore Go.Proofs.YtmpmanfoiocfgaaX
attribute [local go_sem] max2_int min2_int max_two min_two max_three min_three max_four min_four   -- for this text's walks alone
set_option linter.unusedVariables false
set_option linter.unusedSimpArgs false

/-! ### spec_l04Rows: function 90 -/
def spec_l04Rows.f (a0 : Int) : Option (Int) := if 0 ≤ (IntKind.u64.wrap (a0)) then (some (shl .i64 1 (IntKind.u64.wrap (a0)))) else (none)
set_option maxHeartbeats 8000000 in
set_option maxRecDepth 100000 in
theorem spec_l04Rows.calls (a0 : Int) (r : Int) (w : World) (h : spec_l04Rows.f a0 = some r) :
    Calls Try.prog 90 #[.int .i64 a0] w fun e w' => e = .returned (.int .i64 r) ∧ Drawn0 w w' := by
  have H : (if 0 ≤ (IntKind.u64.wrap (a0)) then (some (shl .i64 1 (IntKind.u64.wrap (a0)))) else (none)) = some r := h
  clear h
  obtain ⟨ji2, hji2⟩ : ∃ j_ : Int, (IntKind.u64.wrap (a0)) = j_ := ⟨_, rfl⟩
  replace H : (if 0 ≤ (ji2) then (some (shl .i64 1 (ji2))) else (none)) = some r := by first | (rw [hji2] at H; exact H) | (simp only [hji2] at H ⊢; exact H)
  by_cases c3 : 0 ≤ (ji2)
  · rw [if_pos c3] at H
    have c3b0 := eq_true c3
    have c3b1 : decide (0 ≤ (ji2)) = true := decide_eq_true c3
    clear c3
    obtain ⟨ji4, hji4⟩ : ∃ j_ : Int, (shl .i64 1 (ji2)) = j_ := ⟨_, rfl⟩
    replace H : (some ji4) = some r := by first | (rw [hji4] at H; exact H) | (simp only [hji4] at H ⊢; exact H)
    have hji4_ : (IntKind.i64.wrap (1 * 2 ^ min (ji2).toNat 64)) = ji4 := hji4
    have hji4z : (ji2) ≤ 64 → (IntKind.i64.wrap (1 * 2 ^ (ji2).toNat)) = ji4 := shl_small hji4
    have hji4u : (IntKind.i64.wrap (2 ^ min (ji2).toNat 64)) = ji4 := by have h_ := hji4_; rw [Int.one_mul] at h_; exact h_
    have hji4v : (ji2) ≤ 64 → (IntKind.i64.wrap (2 ^ (ji2).toNat)) = ji4 := fun hle_ => by have h_ := hji4z hle_; rw [Int.one_mul] at h_; exact h_
    have hji4y : (wrap64 (1 * 2 ^ min (ji2).toNat 64)) = ji4 := (i64_w _).symm.trans hji4_
    have hji4x : (ji2) ≤ 64 → (wrap64 (1 * 2 ^ (ji2).toNat)) = ji4 := fun h_ => (i64_w _).symm.trans (hji4z h_)
    obtain rfl := Option.some.inj H
    go_enter Try.func90, Try.ntmps90
    go_wp2
    go_ret
    exact ⟨by first | rfl | (simp; done) | (simp only [← hji2, ← hji4] <;> (first | rfl | simp)) | (simp [*]; done) | (exact congrArg (Value.int .i64) (wrap_eq (by omega))), by repeat (first | exact Drawn0.refl _ | apply Drawn0.step)⟩
  · rw [if_neg c3] at H
    exact absurd H (by simp)

/-! ### spec_l04Full: function 128 -/
def spec_l04Full.f (a0 : Int) : Option (Int) := (spec_l04Rows.f a0).bind fun t158 => (if 0 ≤ (IntKind.u64.wrap (wrap64 (64 - t158))) then (some (shr .u64 18446744073709551615 (IntKind.u64.wrap (wrap64 (64 - t158))))) else (none))
set_option maxHeartbeats 8000000 in
set_option maxRecDepth 100000 in
theorem spec_l04Full.calls (a0 : Int) (r : Int) (w : World) (h : spec_l04Full.f a0 = some r) :
    Calls Try.prog 128 #[.int .i64 a0] w fun e w' => e = .returned (.int .u64 r) ∧ Drawn0 w w' := by
  have H : ((spec_l04Rows.f a0).bind fun t158 => (if 0 ≤ (IntKind.u64.wrap (wrap64 (64 - t158))) then (some (shr .u64 18446744073709551615 (IntKind.u64.wrap (wrap64 (64 - t158))))) else (none))) = some r := h
  clear h
  replace H := Option.bind_eq_some_iff.mp H
  obtain ⟨t158, A20, H⟩ := H
  replace H : (if 0 ≤ (IntKind.u64.wrap (wrap64 (64 - t158))) then (some (shr .u64 18446744073709551615 (IntKind.u64.wrap (wrap64 (64 - t158))))) else (none)) = some r := H
  have A2 := Aside0.mk A20
  clear A20
  obtain ⟨ji3, hji3⟩ : ∃ j_ : Int, (IntKind.u64.wrap (wrap64 (64 - t158))) = j_ := ⟨_, rfl⟩
  replace H : (if 0 ≤ (ji3) then (some (shr .u64 18446744073709551615 (ji3))) else (none)) = some r := by first | (rw [hji3] at H; exact H) | (simp only [hji3] at H ⊢; exact H)
  (try rw [hji3] at A2)
  by_cases c4 : 0 ≤ (ji3)
  · rw [if_pos c4] at H
    have c4b0 := eq_true c4
    have c4b1 : decide (0 ≤ (ji3)) = true := decide_eq_true c4
    clear c4
    obtain ⟨ji5, hji5⟩ : ∃ j_ : Int, (shr .u64 18446744073709551615 (ji3)) = j_ := ⟨_, rfl⟩
    replace H : (some ji5) = some r := by first | (rw [hji5] at H; exact H) | (simp only [hji5] at H ⊢; exact H)
    (try rw [hji5] at A2)
    have hji5_ : (18446744073709551615 / 2 ^ min (ji3).toNat 64) = ji5 := hji5
    have hji5z : (ji3) ≤ 64 → (18446744073709551615 / 2 ^ (ji3).toNat) = ji5 := shr_small hji5
    obtain rfl := Option.some.inj H
    go_enter Try.func128, Try.ntmps128
    go_wp2_with (first | ((with_reducible refine gate_callee (f := 90) rfl ?_); refine goesL_ (some 4) rfl rfl Try.func90 (by kernel_rfl) rfl #[.int .i64 a0] rfl (by (try simp only [List.map_toArray, List.map_cons, List.map_nil]); first | done | rfl | (simp only [List.length_drop, List.length_take]; rfl)) ?_; (with_reducible refine (spec_l04Rows.calls a0 t158 _ A2.out).mono ?_); rintro e w' ⟨rfl, ⟨nd, rfl⟩⟩; refine ⟨_, rfl, ?_⟩))
    go_ret
    exact ⟨by first | rfl | (simp; done) | (simp only [← hji3, ← hji5] <;> (first | rfl | simp)) | (simp [*]; done) | (exact congrArg (Value.int .i64) (wrap_eq (by omega))), by repeat (first | exact Drawn0.refl _ | apply Drawn0.step)⟩
  · rw [if_neg c4] at H
    exact absurd H (by simp)

/-! ### spec_l04Input: function 129 -/
def spec_l04Input.l0 : Nat → Int → Int → Int → Int → Option (Int)
  | 0, _, _, _, _ => none
  | k + 1, x0, x1, x5, x6 => (spec_l04Rows.f x0).bind fun t159 => (if x6 < t159 then (if 0 ≤ (IntKind.u64.wrap (x1)) then (if 0 ≤ (IntKind.u64.wrap (x6)) then (spec_l04Input.l0 k x0 x1 (Go.bits .or .u64 x5 (shl .u64 (IntKind.u64.wrap (Go.bits .and .i64 (shr .i64 x6 (IntKind.u64.wrap (x1))) 1)) (IntKind.u64.wrap (x6)))) (wrap64 (x6 + 1))) else (none)) else (none)) else (some x5))
def spec_l04Input.f (k : Nat) (a0 : Int) (a1 : Int) : Option (Int) := spec_l04Input.l0 k a0 a1 0 0
theorem spec_l04Input.mono_l : ∀ k, (∀ y0 y1 y2 y3, LeO (spec_l04Input.l0 k y0 y1 y2 y3) (spec_l04Input.l0 (k + 1) y0 y1 y2 y3))
  | 0 => fun _ _ _ _ r h => by simp [spec_l04Input.l0] at h
  | k + 1 => by
    have ih0 := spec_l04Input.mono_l k
    · intro y0 y1 y2 y3
      unfold spec_l04Input.l0
      repeat' first
      | (with_reducible exact ih0 _ _ _ _)
      | (with_reducible exact LeO.refl _)
      | (with_reducible exact LeO.none _)
      | (with_reducible refine LeO.ite ?_ ?_)
      | (with_reducible refine LeO.bind ?_ (fun _ => ?_))
      | exact ih0 _ _ _ _
      | exact LeO.none _
      | refine LeO.ite ?_ ?_
      | refine LeO.bind ?_ (fun _ => ?_)
theorem spec_l04Input.mono : ∀ a0 a1 k, LeO (spec_l04Input.f k a0 a1) (spec_l04Input.f (k + 1) a0 a1) := by
  intro a0 a1 k
  have ih0 := spec_l04Input.mono_l k
  unfold spec_l04Input.f
  repeat' first
      | (with_reducible exact ih0 _ _ _ _)
      | (with_reducible exact LeO.refl _)
      | (with_reducible exact LeO.none _)
      | (with_reducible refine LeO.ite ?_ ?_)
      | (with_reducible refine LeO.bind ?_ (fun _ => ?_))
      | exact ih0 _ _ _ _
      | exact LeO.none _
      | refine LeO.ite ?_ ?_
      | refine LeO.bind ?_ (fun _ => ?_)
set_option maxHeartbeats 8000000 in
set_option maxRecDepth 100000 in
theorem spec_l04Input.calls (k : Nat) (a0 : Int) (a1 : Int) (r : Int) (w : World) (h : spec_l04Input.f k a0 a1 = some r) :
    Calls Try.prog 129 #[.int .i64 a0, .int .i64 a1] w fun e w' => e = .returned (.int .u64 r) ∧ Drawn0 w w' := by
  have H : (spec_l04Input.l0 k a0 a1 0 0) = some r := h
  clear h
  have H' := Aside0.mk H
  clear H
  go_enter Try.func129, Try.ntmps129
  go_wp2
  go_loopg [5, 6] k (fun kq v5 v6 w' => ∃ (x5_1 : Int) (x6_1 : Int), v5 = .int .u64 x5_1 ∧ v6 = .int .i64 x6_1 ∧ Aside0 (spec_l04Input.l0 kq a0 a1 x5_1 x6_1 = some r) ∧ Aside0 (kq ≤ k) ∧ Drawn0 w w')
  case atStart => exact ⟨(0), (0), (by first | rfl | (simp; done) | (simp [*]; done) | (exact congrArg (Value.int .i64) (wrap_eq (by omega)))), (by first | rfl | (simp; done) | (simp [*]; done) | (exact congrArg (Value.int .i64) (wrap_eq (by omega)))), H', ⟨Nat.le_refl _⟩, by repeat (first | exact Drawn0.refl _ | apply Drawn0.step)⟩
  case round =>
    clear H'
    try clear c1
    try clear p2
    obtain ⟨x5_1, x6_1, rfl, rfl, HA, HK1, ⟨m1, rfl⟩⟩ := hrel
    cases gk with
    | zero => exact absurd HA.out (by simp [spec_l04Input.l0])
    | succ k1 =>
      have H := HA.out
      clear HA
      simp only [spec_l04Input.l0] at H
      replace H := Option.bind_eq_some_iff.mp H
      obtain ⟨t159, A30, H⟩ := H
      replace H : (if x6_1 < t159 then (if 0 ≤ (IntKind.u64.wrap (a1)) then (if 0 ≤ (IntKind.u64.wrap (x6_1)) then (spec_l04Input.l0 k1 a0 a1 (Go.bits .or .u64 x5_1 (shl .u64 (IntKind.u64.wrap (Go.bits .and .i64 (shr .i64 x6_1 (IntKind.u64.wrap (a1))) 1)) (IntKind.u64.wrap (x6_1)))) (wrap64 (x6_1 + 1))) else (none)) else (none)) else (some x5_1)) = some r := H
      have A3 := Aside0.mk A30
      clear A30
      by_cases c4 : x6_1 < t159
      · rw [if_pos c4] at H
        have c4b0 : decide (x6_1 < t159) = true := decide_eq_true c4
        clear c4
        obtain ⟨ji5, hji5⟩ : ∃ j_ : Int, (IntKind.u64.wrap (a1)) = j_ := ⟨_, rfl⟩
        replace H : (if 0 ≤ (ji5) then (if 0 ≤ (IntKind.u64.wrap (x6_1)) then (spec_l04Input.l0 k1 a0 a1 (Go.bits .or .u64 x5_1 (shl .u64 (IntKind.u64.wrap (Go.bits .and .i64 (shr .i64 x6_1 (ji5)) 1)) (IntKind.u64.wrap (x6_1)))) (wrap64 (x6_1 + 1))) else (none)) else (none)) = some r := by first | (rw [hji5] at H; exact H) | (simp only [hji5] at H ⊢; exact H)
        (try rw [hji5] at A3)
        by_cases c6 : 0 ≤ (ji5)
        · rw [if_pos c6] at H
          have c6b0 := eq_true c6
          have c6b1 : decide (0 ≤ (ji5)) = true := decide_eq_true c6
          clear c6
          obtain ⟨ji7, hji7⟩ : ∃ j_ : Int, (shr .i64 x6_1 (ji5)) = j_ := ⟨_, rfl⟩
          replace H : (if 0 ≤ (IntKind.u64.wrap (x6_1)) then (spec_l04Input.l0 k1 a0 a1 (Go.bits .or .u64 x5_1 (shl .u64 (IntKind.u64.wrap (Go.bits .and .i64 (ji7) 1)) (IntKind.u64.wrap (x6_1)))) (wrap64 (x6_1 + 1))) else (none)) = some r := by first | (rw [hji7] at H; exact H) | (simp only [hji7] at H ⊢; exact H)
          (try rw [hji7] at A3)
          have hji7_ : (x6_1 / 2 ^ min (ji5).toNat 64) = ji7 := hji7
          have hji7z : (ji5) ≤ 64 → (x6_1 / 2 ^ (ji5).toNat) = ji7 := shr_small hji7
          obtain ⟨ji8, hji8⟩ : ∃ j_ : Int, (IntKind.u64.wrap (x6_1)) = j_ := ⟨_, rfl⟩
          replace H : (if 0 ≤ (ji8) then (spec_l04Input.l0 k1 a0 a1 (Go.bits .or .u64 x5_1 (shl .u64 (IntKind.u64.wrap (Go.bits .and .i64 (ji7) 1)) (ji8))) (wrap64 (x6_1 + 1))) else (none)) = some r := by first | (rw [hji8] at H; exact H) | (simp only [hji8] at H ⊢; exact H)
          (try rw [hji8] at A3)
          by_cases c9 : 0 ≤ (ji8)
          · rw [if_pos c9] at H
            have c9b0 := eq_true c9
            have c9b1 : decide (0 ≤ (ji8)) = true := decide_eq_true c9
            clear c9
            obtain ⟨ji10, hji10⟩ : ∃ j_ : Int, (shl .u64 (IntKind.u64.wrap (Go.bits .and .i64 (ji7) 1)) (ji8)) = j_ := ⟨_, rfl⟩
            replace H : (spec_l04Input.l0 k1 a0 a1 (Go.bits .or .u64 x5_1 (ji10)) (wrap64 (x6_1 + 1))) = some r := by first | (rw [hji10] at H; exact H) | (simp only [hji10] at H ⊢; exact H)
            (try rw [hji10] at A3)
            have hji10_ : (IntKind.u64.wrap ((IntKind.u64.wrap (Go.bits .and .i64 (ji7) 1)) * 2 ^ min (ji8).toNat 64)) = ji10 := hji10
            have hji10z : (ji8) ≤ 64 → (IntKind.u64.wrap ((IntKind.u64.wrap (Go.bits .and .i64 (ji7) 1)) * 2 ^ (ji8).toNat)) = ji10 := shl_small hji10
            have H' := Aside0.mk H
            clear H
            go_wp2_with (first | ((with_reducible refine gate_callee (f := 90) rfl ?_); refine goesL_ (some 9) rfl rfl Try.func90 (by kernel_rfl) rfl #[.int .i64 a0] rfl (by (try simp only [List.map_toArray, List.map_cons, List.map_nil]); first | done | rfl | (simp only [List.length_drop, List.length_take]; rfl)) ?_; (with_reducible refine (spec_l04Rows.calls a0 t159 _ A3.out).mono ?_); rintro e w' ⟨rfl, ⟨nd, rfl⟩⟩; refine ⟨_, rfl, ?_⟩))
            go_roundg k1
            case measure => have := HK1.out; omega
            case rel => exact ⟨(Go.bits .or .u64 x5_1 (ji10)), (wrap64 (x6_1 + 1)), (by first | rfl | (simp; done) | (simp only [← hji10] <;> (first | rfl | simp)) | (simp [*]; done) | (exact congrArg (Value.int .i64) (wrap_eq (by omega)))), (by first | rfl | (simp; done) | (simp [*]; done) | (exact congrArg (Value.int .i64) (wrap_eq (by omega)))), H', ⟨by have := HK1.out; omega⟩, by repeat (first | exact Drawn0.refl _ | apply Drawn0.step)⟩
          · rw [if_neg c9] at H
            exact absurd H (by simp)
        · rw [if_neg c6] at H
          exact absurd H (by simp)
      · rw [if_neg c4] at H
        have c4b0 : decide (x6_1 < t159) = false := decide_eq_false c4
        clear c4
        obtain rfl := Option.some.inj H
        go_wp2_with (first | ((with_reducible refine gate_callee (f := 90) rfl ?_); refine goesL_ (some 9) rfl rfl Try.func90 (by kernel_rfl) rfl #[.int .i64 a0] rfl (by (try simp only [List.map_toArray, List.map_cons, List.map_nil]); first | done | rfl | (simp only [List.length_drop, List.length_take]; rfl)) ?_; (with_reducible refine (spec_l04Rows.calls a0 t159 _ A3.out).mono ?_); rintro e w' ⟨rfl, ⟨nd, rfl⟩⟩; refine ⟨_, rfl, ?_⟩))
        go_ret
        exact ⟨by first | rfl | (simp; done) | (simp [*]; done) | (exact congrArg (Value.int .i64) (wrap_eq (by omega))), by repeat (first | exact Drawn0.refl _ | apply Drawn0.step)⟩

/-! ### spec_l04Tables: function 96 -/
def spec_l04Tables.l0 : Nat → List (S31) → Int → List Int → Int → Option (List Int)
  | 0, _, _, _, _ => none
  | k + 1, x0, x3, x4, x5 => if 0 < (x0.length : Int) then (if x5 < (((rd_T31 x0 0).f1).length : Int) then (if 0 ≤ x5 then (if ((rd_T81 ((rd_T31 x0 0).f1) x5).f0) = 0 then ((spec_l04Input.f k (wrap64 ((rd_T31 x0 0).f0)) (wrap64 ((rd_T81 ((rd_T31 x0 0).f1) x5).f1))).bind fun t170 => (if x4.length < 17592186044416 then (spec_l04Tables.l0 k x0 x3 (x4 ++ [t170]) (wrap64 (x5 + 1))) else (none))) else (if ((rd_T81 ((rd_T31 x0 0).f1) x5).f0) = 2 then (if 0 ≤ ((rd_T81 ((rd_T31 x0 0).f1) x5).f1) then (if ((rd_T81 ((rd_T31 x0 0).f1) x5).f1) < (x4.length : Int) then (if 0 ≤ ((rd_T81 ((rd_T31 x0 0).f1) x5).f2) then (if ((rd_T81 ((rd_T31 x0 0).f1) x5).f2) < (x4.length : Int) then (if x4.length < 17592186044416 then (spec_l04Tables.l0 k x0 x3 (x4 ++ [Go.bits .or .u64 (rd x4 ((rd_T81 ((rd_T31 x0 0).f1) x5).f1)) (rd x4 ((rd_T81 ((rd_T31 x0 0).f1) x5).f2))]) (wrap64 (x5 + 1))) else (none)) else (none)) else (none)) else (none)) else (none)) else (if ((rd_T81 ((rd_T31 x0 0).f1) x5).f0) = 3 then (if 0 ≤ ((rd_T81 ((rd_T31 x0 0).f1) x5).f1) then (if ((rd_T81 ((rd_T31 x0 0).f1) x5).f1) < (x4.length : Int) then (if 0 ≤ ((rd_T81 ((rd_T31 x0 0).f1) x5).f2) then (if ((rd_T81 ((rd_T31 x0 0).f1) x5).f2) < (x4.length : Int) then (if x4.length < 17592186044416 then (spec_l04Tables.l0 k x0 x3 (x4 ++ [Go.bits .andNot .u64 (rd x4 ((rd_T81 ((rd_T31 x0 0).f1) x5).f1)) (rd x4 ((rd_T81 ((rd_T31 x0 0).f1) x5).f2))]) (wrap64 (x5 + 1))) else (none)) else (none)) else (none)) else (none)) else (none)) else (if x4.length < 17592186044416 then (spec_l04Tables.l0 k x0 x3 (x4 ++ [x3]) (wrap64 (x5 + 1))) else (none))))) else (none)) else (some x4)) else (none)
def spec_l04Tables.f (k : Nat) (l0 : List (S31)) : Option (List Int) := if 0 < (l0.length : Int) then ((spec_l04Full.f (wrap64 ((rd_T31 l0 0).f0))).bind fun t161 => (spec_l04Tables.l0 k l0 t161 (([] : List Int)) 0)) else (none)
theorem spec_l04Tables.mono_l : ∀ k, (∀ y0 y1 y2 y3, LeO (spec_l04Tables.l0 k y0 y1 y2 y3) (spec_l04Tables.l0 (k + 1) y0 y1 y2 y3))
  | 0 => fun _ _ _ _ r h => by simp [spec_l04Tables.l0] at h
  | k + 1 => by
    have ih0 := spec_l04Tables.mono_l k
    · intro y0 y1 y2 y3
      unfold spec_l04Tables.l0
      repeat' first
      | (with_reducible exact ih0 _ _ _ _)
      | (with_reducible exact spec_l04Input.mono _ _ _)
      | (with_reducible exact LeO.refl _)
      | (with_reducible exact LeO.none _)
      | (with_reducible refine LeO.ite ?_ ?_)
      | (with_reducible refine LeO.bind ?_ (fun _ => ?_))
      | exact ih0 _ _ _ _
      | exact spec_l04Input.mono _ _ _
      | exact LeO.none _
      | refine LeO.ite ?_ ?_
      | refine LeO.bind ?_ (fun _ => ?_)
theorem spec_l04Tables.mono : ∀ a0 k, LeO (spec_l04Tables.f k a0) (spec_l04Tables.f (k + 1) a0) := by
  intro a0 k
  have ih0 := spec_l04Tables.mono_l k
  unfold spec_l04Tables.f
  repeat' first
      | (with_reducible exact ih0 _ _ _ _)
      | (with_reducible exact spec_l04Input.mono _ _ _)
      | (with_reducible exact LeO.refl _)
      | (with_reducible exact LeO.none _)
      | (with_reducible refine LeO.ite ?_ ?_)
      | (with_reducible refine LeO.bind ?_ (fun _ => ?_))
      | exact ih0 _ _ _ _
      | exact spec_l04Input.mono _ _ _
      | exact LeO.none _
      | refine LeO.ite ?_ ?_
      | refine LeO.bind ?_ (fun _ => ?_)
set_option maxHeartbeats 8000000 in
set_option maxRecDepth 100000 in
theorem spec_l04Tables.calls (k : Nat) (adp0 : Addr) (l0 : List (S31)) (r : List Int) (w : World) (hr0 : Kd.C k31 w (some adp0) l0.length l0) (h : spec_l04Tables.f k l0 = some r) :
    Calls Try.prog 96 #[.pointer (some adp0)] w fun e w' => ∃ v0_ : Value, e = .returned (v0_) ∧ Kd.R (Kd.int .u64) 98 w' w.heap.size (fun _ => True) v0_ r ∧ Below w.heap.size w w' := by
  have hu81 := Try.underlying81
  have HR0 := Aside0.mk hr0
  clear hr0
  have HB := Aside0.mk (Below.refl w.heap.size w)
  have H : (if 0 < (l0.length : Int) then ((spec_l04Full.f (wrap64 ((rd_T31 l0 0).f0))).bind fun t161 => (spec_l04Tables.l0 k l0 t161 (([] : List Int)) 0)) else (none)) = some r := h
  clear h
  by_cases c2 : 0 < (l0.length : Int)
  · rw [if_pos c2] at H
    have c2b0 : decide (0 < (l0.length : Int)) = true := decide_eq_true c2
    have c2b1 : decide (0 < l0.length) = true := decide_eq_true (by omega)
    clear c2
    replace H := Option.bind_eq_some_iff.mp H
    obtain ⟨t161, A30, H⟩ := H
    replace H : (spec_l04Tables.l0 k l0 t161 (([] : List Int)) 0) = some r := H
    have A3 := Aside0.mk A30
    clear A30
    obtain ⟨y162, hy162⟩ : ∃ y_ : List Int, y_ = (([] : List Int)) := ⟨_, rfl⟩
    replace H : (spec_l04Tables.l0 k l0 t161 y162 0) = some r := by first | (rw [hy162]; with_reducible exact H) | (have H2_ := (Option.bind_some _ _).symm.trans H; rw [hy162]; with_reducible exact H2_) | (have H2_ := (Option.bind_some _ _).symm.trans H; with_reducible exact H2_) | with_reducible exact H | (rw [hy162]; exact H) | exact H
    have Ny162 := Aside0.mk hy162
    clear hy162
    have H' := Aside0.mk H
    clear H
    have p160 : 0 ≤ (0 : Int) := (by omega)
    have q160 : 0 < (l0.length : Int) := of_decide_eq_true (by first | (with_reducible assumption) | assumption)
    obtain ⟨ad160, A160_1, c160_1, A160_2, c160_2, e160, hx160_0, hx160_1, hx160_2, hl160_1, hi160_1, hl160_2, hi160_2⟩ := at_T31 HR0.out 0 p160 q160
    obtain rfl : adp0 = ad160 := (by injection e160)
    have qi160 : (0 < l0.length) = True := eq_true (by omega)
    (try rw [show ((0 : Int)).toNat = 0 from rfl] at hx160_0)
    (try rw [show 0 * 3 = 0 from rfl] at hx160_0)
    (try rw [Addr.add_zero'] at hx160_0)
    (try rw [show ((0 : Int)).toNat = 0 from rfl] at hx160_1)
    (try rw [show 0 * 3 = 0 from rfl] at hx160_1)
    (try rw [Addr.add_zero'] at hx160_1)
    (try rw [show ((0 : Int)).toNat = 0 from rfl] at hx160_2)
    (try rw [show 0 * 3 = 0 from rfl] at hx160_2)
    (try rw [Addr.add_zero'] at hx160_2)
    have HR160_1 := Aside0.mk hi160_1
    have HC160_1 := Aside0.mk hl160_1
    clear hi160_1 hl160_1
    have HR160_2 := Aside0.mk hi160_2
    have HC160_2 := Aside0.mk hl160_2
    clear hi160_2 hl160_2
    replace p160 := eq_true p160
    replace q160 := eq_true q160
    go_enter Try.func96, Try.ntmps96
    go_wp2_with (first | (go_at_call 128; (with_reducible refine (spec_l04Full.calls (wrap64 ((rd_T31 l0 0).f0)) t161 _ A3.out).mono ?_); rintro e w' ⟨rfl, ⟨nd, rfl⟩⟩; (try first | exact ⟨rfl, _, World.drewN_drewN _ _ _⟩ | exact ⟨rfl, _, Eq.trans (World.drewN_drewN _ _ _) (congrArg (World.drewN _) (Nat.add_assoc _ _ _))⟩)) | ((with_reducible refine gate_dst (N := 14) rfl ?_); refine Kd.R_lit (Kd.int .u64) _ 98 ?hg (N := 14) ?hd (xs := ([] : List Int)) (inner := []) (ok := fun _ => True) (okp := fun _ => True) ?hr ?hp (fun _ hk => hk) trivial (Below.refl _ _) (Nat.le_refl _) (by simp) ?_; (case hd => rfl); (case hg => rfl); (case hr => first | (go_simp; done) | (go_simp; rfl)); (case hp => exact (Reps.none _ _)); intro v163 w4 ho5 hb hg_ hnew_; clear hg_ hnew_; (first | rw [← Ny162.out] at ho5 | (simp only [Int.reduceToNat] at ho5; rw [← Ny162.out] at ho5)); have n0_ := Aside0.mk (Kd.R_lower ho5 (below_size (by repeat (first | (with_reducible first | exact HB.out | apply below_alloc | apply pw_below_drewN | apply below_drew1) | exact HB.out)))); have n1_ := Aside0.mk (below_step (by repeat (first | (with_reducible first | exact HB.out | apply below_alloc | apply pw_below_drewN | apply below_drew1) | exact HB.out)) hb); clear HB; have HO164 := n0_; have HB := n1_; clear n0_ n1_; clear hb ho5))
    repeat (go_quiet (first | (go_at_call 128; (with_reducible refine (spec_l04Full.calls (wrap64 ((rd_T31 l0 0).f0)) t161 _ A3.out).mono ?_); rintro e w' ⟨rfl, ⟨nd, rfl⟩⟩; (try first | exact ⟨rfl, _, World.drewN_drewN _ _ _⟩ | exact ⟨rfl, _, Eq.trans (World.drewN_drewN _ _ _) (congrArg (World.drewN _) (Nat.add_assoc _ _ _))⟩)) | ((with_reducible refine gate_dst (N := 14) rfl ?_); refine Kd.R_lit (Kd.int .u64) _ 98 ?hg (N := 14) ?hd (xs := ([] : List Int)) (inner := []) (ok := fun _ => True) (okp := fun _ => True) ?hr ?hp (fun _ hk => hk) trivial (Below.refl _ _) (Nat.le_refl _) (by simp) ?_; (case hd => rfl); (case hg => rfl); (case hr => first | (go_simp; done) | (go_simp; rfl)); (case hp => exact (Reps.none _ _)); intro v163 w4 ho5 hb hg_ hnew_; clear hg_ hnew_; (first | rw [← Ny162.out] at ho5 | (simp only [Int.reduceToNat] at ho5; rw [← Ny162.out] at ho5)); have n0_ := Aside0.mk (Kd.R_lower ho5 (below_size (by repeat (first | (with_reducible first | exact HB.out | apply below_alloc | apply pw_below_drewN | apply below_drew1) | exact HB.out)))); have n1_ := Aside0.mk (below_step (by repeat (first | (with_reducible first | exact HB.out | apply below_alloc | apply pw_below_drewN | apply below_drew1) | exact HB.out)) hb); clear HB; have HO164 := n0_; have HB := n1_; clear n0_ n1_; clear hb ho5)); try go_wp2_with (first | (go_at_call 128; (with_reducible refine (spec_l04Full.calls (wrap64 ((rd_T31 l0 0).f0)) t161 _ A3.out).mono ?_); rintro e w' ⟨rfl, ⟨nd, rfl⟩⟩; (try first | exact ⟨rfl, _, World.drewN_drewN _ _ _⟩ | exact ⟨rfl, _, Eq.trans (World.drewN_drewN _ _ _) (congrArg (World.drewN _) (Nat.add_assoc _ _ _))⟩)) | ((with_reducible refine gate_dst (N := 14) rfl ?_); refine Kd.R_lit (Kd.int .u64) _ 98 ?hg (N := 14) ?hd (xs := ([] : List Int)) (inner := []) (ok := fun _ => True) (okp := fun _ => True) ?hr ?hp (fun _ hk => hk) trivial (Below.refl _ _) (Nat.le_refl _) (by simp) ?_; (case hd => rfl); (case hg => rfl); (case hr => first | (go_simp; done) | (go_simp; rfl)); (case hp => exact (Reps.none _ _)); intro v163 w4 ho5 hb hg_ hnew_; clear hg_ hnew_; (first | rw [← Ny162.out] at ho5 | (simp only [Int.reduceToNat] at ho5; rw [← Ny162.out] at ho5)); have n0_ := Aside0.mk (Kd.R_lower ho5 (below_size (by repeat (first | (with_reducible first | exact HB.out | apply below_alloc | apply pw_below_drewN | apply below_drew1) | exact HB.out)))); have n1_ := Aside0.mk (below_step (by repeat (first | (with_reducible first | exact HB.out | apply below_alloc | apply pw_below_drewN | apply below_drew1) | exact HB.out)) hb); clear HB; have HO164 := n0_; have HB := n1_; clear n0_ n1_; clear hb ho5)))
    go_loopg [4, 5] k (fun kq v4 v5 w' => ∃ (x4_1 : List Int) (x5_1 : Int), v5 = .int .i64 x5_1 ∧ Aside0 (spec_l04Tables.l0 kq l0 t161 x4_1 x5_1 = some r) ∧ Aside0 (kq ≤ k) ∧ Aside0 (Kd.R (Kd.int .u64) 98 w' w.heap.size (fun _ => True) v4 x4_1) ∧ Aside0 (Below w.heap.size w w'))
    case atStart => exact ⟨(y162), (0), (by first | rfl | (simp; done) | (simp [*]; done) | (exact congrArg (Value.int .i64) (wrap_eq (by omega)))), H', ⟨Nat.le_refl _⟩, ⟨by (with_reducible repeat (first | apply Kd.R_alloc | apply Kd.R_drewN | apply Kd.R_drew)); exact HO164.out⟩, ⟨by repeat (first | (with_reducible first | exact HB.out | apply below_alloc | apply pw_below_drewN | apply below_drew1) | exact HB.out)⟩⟩
    case round =>
      clear H'
      try clear c1
      try clear p1
      try clear q1
      try clear hx1
      try clear qi1
      try clear c2
      try clear c2b0
      try clear c2b1
      try clear p2
      try clear hx160_0
      try clear hx160_1
      try clear hx160_2
      try clear p160
      try clear q160
      obtain ⟨x4_1, x5_1, rfl, HA, HK1, HO_4, HB⟩ := hrel
      cases gk with
      | zero => exact absurd HA.out (by simp [spec_l04Tables.l0])
      | succ k1 =>
        have H := HA.out
        clear HA
        simp only [spec_l04Tables.l0] at H
        by_cases c6 : 0 < (l0.length : Int)
        · rw [if_pos c6] at H
          have c6b0 : decide (0 < (l0.length : Int)) = true := decide_eq_true c6
          have c6b1 : decide (0 < l0.length) = true := decide_eq_true (by omega)
          clear c6
          by_cases c7 : x5_1 < (((rd_T31 l0 0).f1).length : Int)
          · rw [if_pos c7] at H
            have c7b0 : decide (x5_1 < (((rd_T31 l0 0).f1).length : Int)) = true := decide_eq_true c7
            clear c7
            by_cases c8 : 0 ≤ x5_1
            · rw [if_pos c8] at H
              have c8b0 : decide (0 ≤ x5_1) = true := decide_eq_true c8
              clear c8
              by_cases c9 : ((rd_T81 ((rd_T31 l0 0).f1) x5_1).f0) = 0
              · rw [if_pos c9] at H
                have c9b0 : (((rd_T81 ((rd_T31 l0 0).f1) x5_1).f0) == 0) = true := beq_iff_eq.mpr c9
                have c9b1 : (((rd_T81 ((rd_T31 l0 0).f1) x5_1).f0) != 0) = false := bne_eq_false_iff_eq.mpr c9
                clear c9
                replace H := Option.bind_eq_some_iff.mp H
                obtain ⟨t170, A100, H⟩ := H
                replace H : (if x4_1.length < 17592186044416 then (spec_l04Tables.l0 k1 l0 t161 (x4_1 ++ [t170]) (wrap64 (x5_1 + 1))) else (none)) = some r := H
                have A10 := Aside0.mk A100
                clear A100
                by_cases c11 : x4_1.length < 17592186044416
                · rw [if_pos c11] at H
                  have LMc11 := Aside0.mk c11
                  clear c11
                  obtain ⟨y171, hy171⟩ : ∃ y_ : List Int, y_ = (x4_1 ++ [t170]) := ⟨_, rfl⟩
                  replace H : (spec_l04Tables.l0 k1 l0 t161 y171 (wrap64 (x5_1 + 1))) = some r := by first | (rw [hy171]; with_reducible exact H) | (have H2_ := (Option.bind_some _ _).symm.trans H; rw [hy171]; with_reducible exact H2_) | (have H2_ := (Option.bind_some _ _).symm.trans H; with_reducible exact H2_) | with_reducible exact H | (rw [hy171]; exact H) | exact H
                  have Ny171 := Aside0.mk hy171
                  clear hy171
                  have H' := Aside0.mk H
                  clear H
                  have p165 : 0 ≤ (0 : Int) := (by omega)
                  have q165 : 0 < (l0.length : Int) := of_decide_eq_true (by first | (with_reducible assumption) | assumption)
                  obtain ⟨ad165, A165_1, c165_1, A165_2, c165_2, e165, hx165_0, hx165_1, hx165_2, hl165_1, hi165_1, hl165_2, hi165_2⟩ := at_T31 HR0.out 0 p165 q165
                  obtain rfl : adp0 = ad165 := (by injection e165)
                  have qi165 : (0 < l0.length) = True := eq_true (by omega)
                  (try rw [show ((0 : Int)).toNat = 0 from rfl] at hx165_0)
                  (try rw [show 0 * 3 = 0 from rfl] at hx165_0)
                  (try rw [Addr.add_zero'] at hx165_0)
                  (try rw [show ((0 : Int)).toNat = 0 from rfl] at hx165_1)
                  (try rw [show 0 * 3 = 0 from rfl] at hx165_1)
                  (try rw [Addr.add_zero'] at hx165_1)
                  (try rw [show ((0 : Int)).toNat = 0 from rfl] at hx165_2)
                  (try rw [show 0 * 3 = 0 from rfl] at hx165_2)
                  (try rw [Addr.add_zero'] at hx165_2)
                  replace hx165_0 := (HB.out.cell (World.block_lt_of_cell? w _ hx165_0)).trans hx165_0
                  replace hx165_1 := (HB.out.cell (World.block_lt_of_cell? w _ hx165_1)).trans hx165_1
                  replace hx165_2 := (HB.out.cell (World.block_lt_of_cell? w _ hx165_2)).trans hx165_2
                  have HR165_1 := Aside0.mk hi165_1
                  have HC165_1 := Aside0.mk hl165_1
                  clear hi165_1 hl165_1
                  have HR165_2 := Aside0.mk hi165_2
                  have HC165_2 := Aside0.mk hl165_2
                  clear hi165_2 hl165_2
                  replace p165 := eq_true p165
                  replace q165 := eq_true q165
                  have p166 : 0 ≤ (0 : Int) := (by omega)
                  have q166 : 0 < (l0.length : Int) := of_decide_eq_true (by first | (with_reducible assumption) | assumption)
                  obtain ⟨ad166, A166_1, c166_1, A166_2, c166_2, e166, hx166_0, hx166_1, hx166_2, hl166_1, hi166_1, hl166_2, hi166_2⟩ := at_T31 HR0.out 0 p166 q166
                  obtain rfl : adp0 = ad166 := (by injection e166)
                  have qi166 : (0 < l0.length) = True := eq_true (by omega)
                  (try rw [show ((0 : Int)).toNat = 0 from rfl] at hx166_0)
                  (try rw [show 0 * 3 = 0 from rfl] at hx166_0)
                  (try rw [Addr.add_zero'] at hx166_0)
                  (try rw [show ((0 : Int)).toNat = 0 from rfl] at hx166_1)
                  (try rw [show 0 * 3 = 0 from rfl] at hx166_1)
                  (try rw [Addr.add_zero'] at hx166_1)
                  (try rw [show ((0 : Int)).toNat = 0 from rfl] at hx166_2)
                  (try rw [show 0 * 3 = 0 from rfl] at hx166_2)
                  (try rw [Addr.add_zero'] at hx166_2)
                  replace hx166_0 := (HB.out.cell (World.block_lt_of_cell? w _ hx166_0)).trans hx166_0
                  replace hx166_1 := (HB.out.cell (World.block_lt_of_cell? w _ hx166_1)).trans hx166_1
                  replace hx166_2 := (HB.out.cell (World.block_lt_of_cell? w _ hx166_2)).trans hx166_2
                  have HR166_1 := Aside0.mk hi166_1
                  have HC166_1 := Aside0.mk hl166_1
                  clear hi166_1 hl166_1
                  have HR166_2 := Aside0.mk hi166_2
                  have HC166_2 := Aside0.mk hl166_2
                  clear hi166_2 hl166_2
                  replace p166 := eq_true p166
                  replace q166 := eq_true q166
                  have ea_ := Option.some.inj (hx165_1.symm.trans hx166_1)
                  injection ea_ with ea_ en_ ec_
                  subst ea_
                  subst ec_
                  clear en_
                  have ea_ := Option.some.inj (hx165_2.symm.trans hx166_2)
                  injection ea_ with ea_ en_ ec_
                  subst ea_
                  subst ec_
                  clear en_
                  have p167 : 0 ≤ (x5_1 : Int) := of_decide_eq_true (by first | (with_reducible assumption) | assumption)
                  have q167 : x5_1 < (((rd_T31 l0 0).f1).length : Int) := of_decide_eq_true (by first | (with_reducible assumption) | assumption)
                  obtain ⟨ad167, e167, hx167_0, hx167_1, hx167_2⟩ := at_T81 HR166_1.out x5_1 p167 q167
                  cases e167
                  replace hx167_0 := (HB.out.cell (World.block_lt_of_cell? w _ hx167_0)).trans hx167_0
                  replace hx167_1 := (HB.out.cell (World.block_lt_of_cell? w _ hx167_1)).trans hx167_1
                  replace hx167_2 := (HB.out.cell (World.block_lt_of_cell? w _ hx167_2)).trans hx167_2
                  replace p167 := eq_true p167
                  replace q167 := eq_true q167
                  go_wp2_with (first | ((with_reducible refine gate_dst (N := 6) rfl ?_); refine box_event ?hg (N := 6) ?hd (cs := #[.int .i8 0, .int .i16 0, .int .i16 0]) (t := 81) ?hr ?_; (case hd => rfl); (case hg => rfl); (case hr => first | (go_simp; done) | (go_simp; rfl)); intro gb168 hg w12 hbox hb; have n0_ := Aside0.mk (Kd.R_below (by (with_reducible repeat (first | apply Kd.R_alloc | apply Kd.R_drewN | apply Kd.R_drew)); exact HO_4.out) hb); have n1_ := Aside0.mk (below_step (by repeat (first | (with_reducible first | exact HB.out | apply below_alloc | apply pw_below_drewN | apply below_drew1) | exact HB.out)) hb); have n2_ := Aside0.mk (hbox); have n3_ := Aside0.mk ((by rw [hg]; exact (below_size (by repeat (first | (with_reducible first | exact HB.out | apply below_alloc | apply pw_below_drewN | apply below_drew1) | exact HB.out))) : w.heap.size ≤ gb168)); have n4_ := Aside0.mk ((by rw [hg]; exact (below_size (by repeat (first | (with_reducible first | exact HB.out | apply below_alloc | apply pw_below_drewN | apply below_drew1) | exact HB.out))) : w.heap.size ≤ gb168)); clear HO_4; clear HB; have HO_4 := n0_; have HB := n1_; have BK168 := n2_; have GW168 := n3_; have GE168 := n4_; clear n0_ n1_ n2_ n3_ n4_; clear hb hbox hg; have hcz13_0 : w12.cell? ⟨gb168, 0, none⟩ = some (.int .i8 0) := (blk_cell BK168.out 0).trans rfl; have hcz13_1 : w12.cell? ⟨gb168, 1, none⟩ = some (.int .i16 0) := (blk_cell BK168.out 1).trans rfl; have hcz13_2 : w12.cell? ⟨gb168, 2, none⟩ = some (.int .i16 0) := (blk_cell BK168.out 2).trans rfl; have hfz13_0 := blk_frozen BK168.out 0; have hfz13_1 := blk_frozen BK168.out 1; have hfz13_2 := blk_frozen BK168.out 2; have p169 : 0 ≤ (0 : Int) := (by omega); have q169 : 0 < (l0.length : Int) := of_decide_eq_true (by first | (with_reducible assumption) | assumption); obtain ⟨ad169, A169_1, c169_1, A169_2, c169_2, e169, hx169_0, hx169_1, hx169_2, hl169_1, hi169_1, hl169_2, hi169_2⟩ := at_T31 HR0.out 0 p169 q169; obtain rfl : adp0 = ad169 := (by injection e169); have qi169 : (0 < l0.length) = True := eq_true (by omega); (try rw [show ((0 : Int)).toNat = 0 from rfl] at hx169_0); (try rw [show 0 * 3 = 0 from rfl] at hx169_0); (try rw [Addr.add_zero'] at hx169_0); (try rw [show ((0 : Int)).toNat = 0 from rfl] at hx169_1); (try rw [show 0 * 3 = 0 from rfl] at hx169_1); (try rw [Addr.add_zero'] at hx169_1); (try rw [show ((0 : Int)).toNat = 0 from rfl] at hx169_2); (try rw [show 0 * 3 = 0 from rfl] at hx169_2); (try rw [Addr.add_zero'] at hx169_2); have hn169_0 : adp0.block ≠ gb168 := Nat.ne_of_lt (Nat.lt_of_lt_of_le (by have := World.block_lt_of_cell? _ _ hx169_0; first | rwa [add_block] at this | exact this) GW168.out); have hn169_1 : adp0.block ≠ gb168 := Nat.ne_of_lt (Nat.lt_of_lt_of_le (by have := World.block_lt_of_cell? _ _ hx169_0; first | rwa [add_block] at this | exact this) GW168.out); have hn169_2 : adp0.block ≠ gb168 := Nat.ne_of_lt (Nat.lt_of_lt_of_le (by have := World.block_lt_of_cell? _ _ hx169_0; first | rwa [add_block] at this | exact this) GW168.out); replace hx169_0 := (HB.out.cell (World.block_lt_of_cell? w _ hx169_0)).trans hx169_0; replace hx169_1 := (HB.out.cell (World.block_lt_of_cell? w _ hx169_1)).trans hx169_1; replace hx169_2 := (HB.out.cell (World.block_lt_of_cell? w _ hx169_2)).trans hx169_2; have HR169_1 := Aside0.mk hi169_1; have HC169_1 := Aside0.mk hl169_1; clear hi169_1 hl169_1; have HR169_2 := Aside0.mk hi169_2; have HC169_2 := Aside0.mk hl169_2; clear hi169_2 hl169_2; replace hx169_0 := (cell_far (p := ⟨gb168, 0, none⟩) (by first | (rw [add_block]; exact hn169_0) | (show (Addr.add _ _).block ≠ _; rw [add_block]; exact hn169_0) | exact hn169_0) (.int .i8 ((rd_T81 ((rd_T31 l0 0).f1) x5_1).f0))).trans hx169_0; replace hx169_1 := (cell_far (p := ⟨gb168, 0, none⟩) (by first | (rw [add_block]; exact hn169_0) | (show (Addr.add _ _).block ≠ _; rw [add_block]; exact hn169_0) | exact hn169_0) (.int .i8 ((rd_T81 ((rd_T31 l0 0).f1) x5_1).f0))).trans hx169_1; replace hx169_2 := (cell_far (p := ⟨gb168, 0, none⟩) (by first | (rw [add_block]; exact hn169_0) | (show (Addr.add _ _).block ≠ _; rw [add_block]; exact hn169_0) | exact hn169_0) (.int .i8 ((rd_T81 ((rd_T31 l0 0).f1) x5_1).f0))).trans hx169_2; replace hx169_0 := (cell_far (p := ⟨gb168, 1, none⟩) (by first | (rw [add_block]; exact hn169_1) | (show (Addr.add _ _).block ≠ _; rw [add_block]; exact hn169_1) | exact hn169_1) (.int .i16 ((rd_T81 ((rd_T31 l0 0).f1) x5_1).f1))).trans hx169_0; replace hx169_1 := (cell_far (p := ⟨gb168, 1, none⟩) (by first | (rw [add_block]; exact hn169_1) | (show (Addr.add _ _).block ≠ _; rw [add_block]; exact hn169_1) | exact hn169_1) (.int .i16 ((rd_T81 ((rd_T31 l0 0).f1) x5_1).f1))).trans hx169_1; replace hx169_2 := (cell_far (p := ⟨gb168, 1, none⟩) (by first | (rw [add_block]; exact hn169_1) | (show (Addr.add _ _).block ≠ _; rw [add_block]; exact hn169_1) | exact hn169_1) (.int .i16 ((rd_T81 ((rd_T31 l0 0).f1) x5_1).f1))).trans hx169_2; replace hx169_0 := (cell_far (p := ⟨gb168, 2, none⟩) (by first | (rw [add_block]; exact hn169_2) | (show (Addr.add _ _).block ≠ _; rw [add_block]; exact hn169_2) | exact hn169_2) (.int .i16 ((rd_T81 ((rd_T31 l0 0).f1) x5_1).f2))).trans hx169_0; replace hx169_1 := (cell_far (p := ⟨gb168, 2, none⟩) (by first | (rw [add_block]; exact hn169_2) | (show (Addr.add _ _).block ≠ _; rw [add_block]; exact hn169_2) | exact hn169_2) (.int .i16 ((rd_T81 ((rd_T31 l0 0).f1) x5_1).f2))).trans hx169_1; replace hx169_2 := (cell_far (p := ⟨gb168, 2, none⟩) (by first | (rw [add_block]; exact hn169_2) | (show (Addr.add _ _).block ≠ _; rw [add_block]; exact hn169_2) | exact hn169_2) (.int .i16 ((rd_T81 ((rd_T31 l0 0).f1) x5_1).f2))).trans hx169_2; (try have hy169_0 := fun (n_ : Nat) => (show (((((w12.drewN n_).setCell ⟨gb168, 0, none⟩ (.int .i8 ((rd_T81 ((rd_T31 l0 0).f1) x5_1).f0))).setCell ⟨gb168, 1, none⟩ (.int .i16 ((rd_T81 ((rd_T31 l0 0).f1) x5_1).f1))).setCell ⟨gb168, 2, none⟩ (.int .i16 ((rd_T81 ((rd_T31 l0 0).f1) x5_1).f2)))).cell? _ = some _ from hx169_0)); (try have hy169_1 := fun (n_ : Nat) => (show (((((w12.drewN n_).setCell ⟨gb168, 0, none⟩ (.int .i8 ((rd_T81 ((rd_T31 l0 0).f1) x5_1).f0))).setCell ⟨gb168, 1, none⟩ (.int .i16 ((rd_T81 ((rd_T31 l0 0).f1) x5_1).f1))).setCell ⟨gb168, 2, none⟩ (.int .i16 ((rd_T81 ((rd_T31 l0 0).f1) x5_1).f2)))).cell? _ = some _ from hx169_1)); (try have hy169_2 := fun (n_ : Nat) => (show (((((w12.drewN n_).setCell ⟨gb168, 0, none⟩ (.int .i8 ((rd_T81 ((rd_T31 l0 0).f1) x5_1).f0))).setCell ⟨gb168, 1, none⟩ (.int .i16 ((rd_T81 ((rd_T31 l0 0).f1) x5_1).f1))).setCell ⟨gb168, 2, none⟩ (.int .i16 ((rd_T81 ((rd_T31 l0 0).f1) x5_1).f2)))).cell? _ = some _ from hx169_2)); clear hn169_0; clear hn169_1; clear hn169_2; replace p169 := eq_true p169; replace q169 := eq_true q169) | (go_at_call 129; (with_reducible refine (spec_l04Input.calls k1 (wrap64 ((rd_T31 l0 0).f0)) (wrap64 ((rd_T81 ((rd_T31 l0 0).f1) x5_1).f1)) t170 _ A10.out).mono ?_); rintro e w' ⟨rfl, ⟨nd, rfl⟩⟩; (try first | exact ⟨rfl, _, World.drewN_drewN _ _ _⟩ | exact ⟨rfl, _, Eq.trans (World.drewN_drewN _ _ _) (congrArg (World.drewN _) (Nat.add_assoc _ _ _))⟩)) | ((with_reducible refine gate_builtin (b := .append) (xs := #[.tmp 71, .tmp 73]) rfl ?_); at_builtin; refine Kd.R_append (Kd.int .u64) (w0 := w) w.heap.size rfl (.tmp 71) (.tmp 73) 53 98 (.int .u64 0) 8 rfl Try.underlying53 info98 rfl (by decide) (by omega) u4 x4_1 t170 [.int .u64 t170] (fun _ => True) (fun _ => False) rfl (by first | (go_simp; done) | (go_simp; rfl)) ?aP (fun _ hk => hk.elim) ?aF ?aO ?aB ?aS ?aL ?_; (case aP => exact rfl); (case aB => exact (by repeat (first | (with_reducible first | exact HB.out | apply below_alloc | apply pw_below_drewN | apply below_drew1 | refine below_set ?_ GE168.out) | exact HB.out))); (case aF => exact (fun _ _ => trivial)); (case aO => exact (by (with_reducible repeat (first | apply Kd.R_alloc | apply Kd.R_drewN | apply Kd.R_drew)); exact Kd.R_mono (Kd.R_far (p := ⟨gb168, 2, none⟩) (Kd.R_far (p := ⟨gb168, 1, none⟩) (Kd.R_far (p := ⟨gb168, 0, none⟩) (Kd.R_types HO_4.out BK168.out (by decide)) (fun _ hk => hk.2) (.int .i8 ((rd_T81 ((rd_T31 l0 0).f1) x5_1).f0))) (fun _ hk => hk.2) (.int .i16 ((rd_T81 ((rd_T31 l0 0).f1) x5_1).f1))) (fun _ hk => hk.2) (.int .i16 ((rd_T81 ((rd_T31 l0 0).f1) x5_1).f2))) (fun _ hk => trivial))); (case aS => exact (below_size (by repeat (first | (with_reducible first | exact HB.out | apply below_alloc | apply pw_below_drewN | apply below_drew1 | refine below_set ?_ GE168.out) | exact HB.out)))); (case aL => have := LMc11.out; omega); intro v172 w14 ho hb hg hat; rw [← Ny171.out] at ho; have n0_ := Aside0.mk (blk_grown (g := gb168) (o := .cells #[.int .i8 ((rd_T81 ((rd_T31 l0 0).f1) x5_1).f0), .int .i16 ((rd_T81 ((rd_T31 l0 0).f1) x5_1).f1), .int .i16 ((rd_T81 ((rd_T31 l0 0).f1) x5_1).f2)] 81 (0, 0)) (by (with_reducible repeat (first | refine blk_drewN ?_ _ | refine blk_drew ?_ | refine blk_alloc ?_ _)); refine blk_put (cs := #[.int .i8 ((rd_T81 ((rd_T31 l0 0).f1) x5_1).f0), .int .i16 ((rd_T81 ((rd_T31 l0 0).f1) x5_1).f1), .int .i16 0]) ?_ 2 _ rfl; (with_reducible repeat (first | refine blk_drewN ?_ _ | refine blk_drew ?_ | refine blk_alloc ?_ _)); refine blk_put (cs := #[.int .i8 ((rd_T81 ((rd_T31 l0 0).f1) x5_1).f0), .int .i16 0, .int .i16 0]) ?_ 1 _ rfl; (with_reducible repeat (first | refine blk_drewN ?_ _ | refine blk_drew ?_ | refine blk_alloc ?_ _)); refine blk_put (cs := #[.int .i8 0, .int .i16 0, .int .i16 0]) ?_ 0 _ rfl; (with_reducible repeat (first | refine blk_drewN ?_ _ | refine blk_drew ?_ | refine blk_alloc ?_ _)); exact BK168.out) hg (Kd.R_ne HO_4.out BK168.out (by decide))); have n1_ := Aside0.mk (hb); have n2_ := Aside0.mk (ho); clear BK168; clear HB; clear HO_4; have BK168 := n0_; have HB := n1_; have HO173 := n2_; clear n0_ n1_ n2_; clear ho hb hg hat))
                  repeat (go_quiet (first | ((with_reducible refine gate_dst (N := 6) rfl ?_); refine box_event ?hg (N := 6) ?hd (cs := #[.int .i8 0, .int .i16 0, .int .i16 0]) (t := 81) ?hr ?_; (case hd => rfl); (case hg => rfl); (case hr => first | (go_simp; done) | (go_simp; rfl)); intro gb168 hg w12 hbox hb; have n0_ := Aside0.mk (Kd.R_below (by (with_reducible repeat (first | apply Kd.R_alloc | apply Kd.R_drewN | apply Kd.R_drew)); exact HO_4.out) hb); have n1_ := Aside0.mk (below_step (by repeat (first | (with_reducible first | exact HB.out | apply below_alloc | apply pw_below_drewN | apply below_drew1) | exact HB.out)) hb); have n2_ := Aside0.mk (hbox); have n3_ := Aside0.mk ((by rw [hg]; exact (below_size (by repeat (first | (with_reducible first | exact HB.out | apply below_alloc | apply pw_below_drewN | apply below_drew1) | exact HB.out))) : w.heap.size ≤ gb168)); have n4_ := Aside0.mk ((by rw [hg]; exact (below_size (by repeat (first | (with_reducible first | exact HB.out | apply below_alloc | apply pw_below_drewN | apply below_drew1) | exact HB.out))) : w.heap.size ≤ gb168)); clear HO_4; clear HB; have HO_4 := n0_; have HB := n1_; have BK168 := n2_; have GW168 := n3_; have GE168 := n4_; clear n0_ n1_ n2_ n3_ n4_; clear hb hbox hg; have hcz13_0 : w12.cell? ⟨gb168, 0, none⟩ = some (.int .i8 0) := (blk_cell BK168.out 0).trans rfl; have hcz13_1 : w12.cell? ⟨gb168, 1, none⟩ = some (.int .i16 0) := (blk_cell BK168.out 1).trans rfl; have hcz13_2 : w12.cell? ⟨gb168, 2, none⟩ = some (.int .i16 0) := (blk_cell BK168.out 2).trans rfl; have hfz13_0 := blk_frozen BK168.out 0; have hfz13_1 := blk_frozen BK168.out 1; have hfz13_2 := blk_frozen BK168.out 2; have p169 : 0 ≤ (0 : Int) := (by omega); have q169 : 0 < (l0.length : Int) := of_decide_eq_true (by first | (with_reducible assumption) | assumption); obtain ⟨ad169, A169_1, c169_1, A169_2, c169_2, e169, hx169_0, hx169_1, hx169_2, hl169_1, hi169_1, hl169_2, hi169_2⟩ := at_T31 HR0.out 0 p169 q169; obtain rfl : adp0 = ad169 := (by injection e169); have qi169 : (0 < l0.length) = True := eq_true (by omega); (try rw [show ((0 : Int)).toNat = 0 from rfl] at hx169_0); (try rw [show 0 * 3 = 0 from rfl] at hx169_0); (try rw [Addr.add_zero'] at hx169_0); (try rw [show ((0 : Int)).toNat = 0 from rfl] at hx169_1); (try rw [show 0 * 3 = 0 from rfl] at hx169_1); (try rw [Addr.add_zero'] at hx169_1); (try rw [show ((0 : Int)).toNat = 0 from rfl] at hx169_2); (try rw [show 0 * 3 = 0 from rfl] at hx169_2); (try rw [Addr.add_zero'] at hx169_2); have hn169_0 : adp0.block ≠ gb168 := Nat.ne_of_lt (Nat.lt_of_lt_of_le (by have := World.block_lt_of_cell? _ _ hx169_0; first | rwa [add_block] at this | exact this) GW168.out); have hn169_1 : adp0.block ≠ gb168 := Nat.ne_of_lt (Nat.lt_of_lt_of_le (by have := World.block_lt_of_cell? _ _ hx169_0; first | rwa [add_block] at this | exact this) GW168.out); have hn169_2 : adp0.block ≠ gb168 := Nat.ne_of_lt (Nat.lt_of_lt_of_le (by have := World.block_lt_of_cell? _ _ hx169_0; first | rwa [add_block] at this | exact this) GW168.out); replace hx169_0 := (HB.out.cell (World.block_lt_of_cell? w _ hx169_0)).trans hx169_0; replace hx169_1 := (HB.out.cell (World.block_lt_of_cell? w _ hx169_1)).trans hx169_1; replace hx169_2 := (HB.out.cell (World.block_lt_of_cell? w _ hx169_2)).trans hx169_2; have HR169_1 := Aside0.mk hi169_1; have HC169_1 := Aside0.mk hl169_1; clear hi169_1 hl169_1; have HR169_2 := Aside0.mk hi169_2; have HC169_2 := Aside0.mk hl169_2; clear hi169_2 hl169_2; replace hx169_0 := (cell_far (p := ⟨gb168, 0, none⟩) (by first | (rw [add_block]; exact hn169_0) | (show (Addr.add _ _).block ≠ _; rw [add_block]; exact hn169_0) | exact hn169_0) (.int .i8 ((rd_T81 ((rd_T31 l0 0).f1) x5_1).f0))).trans hx169_0; replace hx169_1 := (cell_far (p := ⟨gb168, 0, none⟩) (by first | (rw [add_block]; exact hn169_0) | (show (Addr.add _ _).block ≠ _; rw [add_block]; exact hn169_0) | exact hn169_0) (.int .i8 ((rd_T81 ((rd_T31 l0 0).f1) x5_1).f0))).trans hx169_1; replace hx169_2 := (cell_far (p := ⟨gb168, 0, none⟩) (by first | (rw [add_block]; exact hn169_0) | (show (Addr.add _ _).block ≠ _; rw [add_block]; exact hn169_0) | exact hn169_0) (.int .i8 ((rd_T81 ((rd_T31 l0 0).f1) x5_1).f0))).trans hx169_2; replace hx169_0 := (cell_far (p := ⟨gb168, 1, none⟩) (by first | (rw [add_block]; exact hn169_1) | (show (Addr.add _ _).block ≠ _; rw [add_block]; exact hn169_1) | exact hn169_1) (.int .i16 ((rd_T81 ((rd_T31 l0 0).f1) x5_1).f1))).trans hx169_0; replace hx169_1 := (cell_far (p := ⟨gb168, 1, none⟩) (by first | (rw [add_block]; exact hn169_1) | (show (Addr.add _ _).block ≠ _; rw [add_block]; exact hn169_1) | exact hn169_1) (.int .i16 ((rd_T81 ((rd_T31 l0 0).f1) x5_1).f1))).trans hx169_1; replace hx169_2 := (cell_far (p := ⟨gb168, 1, none⟩) (by first | (rw [add_block]; exact hn169_1) | (show (Addr.add _ _).block ≠ _; rw [add_block]; exact hn169_1) | exact hn169_1) (.int .i16 ((rd_T81 ((rd_T31 l0 0).f1) x5_1).f1))).trans hx169_2; replace hx169_0 := (cell_far (p := ⟨gb168, 2, none⟩) (by first | (rw [add_block]; exact hn169_2) | (show (Addr.add _ _).block ≠ _; rw [add_block]; exact hn169_2) | exact hn169_2) (.int .i16 ((rd_T81 ((rd_T31 l0 0).f1) x5_1).f2))).trans hx169_0; replace hx169_1 := (cell_far (p := ⟨gb168, 2, none⟩) (by first | (rw [add_block]; exact hn169_2) | (show (Addr.add _ _).block ≠ _; rw [add_block]; exact hn169_2) | exact hn169_2) (.int .i16 ((rd_T81 ((rd_T31 l0 0).f1) x5_1).f2))).trans hx169_1; replace hx169_2 := (cell_far (p := ⟨gb168, 2, none⟩) (by first | (rw [add_block]; exact hn169_2) | (show (Addr.add _ _).block ≠ _; rw [add_block]; exact hn169_2) | exact hn169_2) (.int .i16 ((rd_T81 ((rd_T31 l0 0).f1) x5_1).f2))).trans hx169_2; (try have hy169_0 := fun (n_ : Nat) => (show (((((w12.drewN n_).setCell ⟨gb168, 0, none⟩ (.int .i8 ((rd_T81 ((rd_T31 l0 0).f1) x5_1).f0))).setCell ⟨gb168, 1, none⟩ (.int .i16 ((rd_T81 ((rd_T31 l0 0).f1) x5_1).f1))).setCell ⟨gb168, 2, none⟩ (.int .i16 ((rd_T81 ((rd_T31 l0 0).f1) x5_1).f2)))).cell? _ = some _ from hx169_0)); (try have hy169_1 := fun (n_ : Nat) => (show (((((w12.drewN n_).setCell ⟨gb168, 0, none⟩ (.int .i8 ((rd_T81 ((rd_T31 l0 0).f1) x5_1).f0))).setCell ⟨gb168, 1, none⟩ (.int .i16 ((rd_T81 ((rd_T31 l0 0).f1) x5_1).f1))).setCell ⟨gb168, 2, none⟩ (.int .i16 ((rd_T81 ((rd_T31 l0 0).f1) x5_1).f2)))).cell? _ = some _ from hx169_1)); (try have hy169_2 := fun (n_ : Nat) => (show (((((w12.drewN n_).setCell ⟨gb168, 0, none⟩ (.int .i8 ((rd_T81 ((rd_T31 l0 0).f1) x5_1).f0))).setCell ⟨gb168, 1, none⟩ (.int .i16 ((rd_T81 ((rd_T31 l0 0).f1) x5_1).f1))).setCell ⟨gb168, 2, none⟩ (.int .i16 ((rd_T81 ((rd_T31 l0 0).f1) x5_1).f2)))).cell? _ = some _ from hx169_2)); clear hn169_0; clear hn169_1; clear hn169_2; replace p169 := eq_true p169; replace q169 := eq_true q169) | (go_at_call 129; (with_reducible refine (spec_l04Input.calls k1 (wrap64 ((rd_T31 l0 0).f0)) (wrap64 ((rd_T81 ((rd_T31 l0 0).f1) x5_1).f1)) t170 _ A10.out).mono ?_); rintro e w' ⟨rfl, ⟨nd, rfl⟩⟩; (try first | exact ⟨rfl, _, World.drewN_drewN _ _ _⟩ | exact ⟨rfl, _, Eq.trans (World.drewN_drewN _ _ _) (congrArg (World.drewN _) (Nat.add_assoc _ _ _))⟩)) | ((with_reducible refine gate_builtin (b := .append) (xs := #[.tmp 71, .tmp 73]) rfl ?_); at_builtin; refine Kd.R_append (Kd.int .u64) (w0 := w) w.heap.size rfl (.tmp 71) (.tmp 73) 53 98 (.int .u64 0) 8 rfl Try.underlying53 info98 rfl (by decide) (by omega) u4 x4_1 t170 [.int .u64 t170] (fun _ => True) (fun _ => False) rfl (by first | (go_simp; done) | (go_simp; rfl)) ?aP (fun _ hk => hk.elim) ?aF ?aO ?aB ?aS ?aL ?_; (case aP => exact rfl); (case aB => exact (by repeat (first | (with_reducible first | exact HB.out | apply below_alloc | apply pw_below_drewN | apply below_drew1 | refine below_set ?_ GE168.out) | exact HB.out))); (case aF => exact (fun _ _ => trivial)); (case aO => exact (by (with_reducible repeat (first | apply Kd.R_alloc | apply Kd.R_drewN | apply Kd.R_drew)); exact Kd.R_mono (Kd.R_far (p := ⟨gb168, 2, none⟩) (Kd.R_far (p := ⟨gb168, 1, none⟩) (Kd.R_far (p := ⟨gb168, 0, none⟩) (Kd.R_types HO_4.out BK168.out (by decide)) (fun _ hk => hk.2) (.int .i8 ((rd_T81 ((rd_T31 l0 0).f1) x5_1).f0))) (fun _ hk => hk.2) (.int .i16 ((rd_T81 ((rd_T31 l0 0).f1) x5_1).f1))) (fun _ hk => hk.2) (.int .i16 ((rd_T81 ((rd_T31 l0 0).f1) x5_1).f2))) (fun _ hk => trivial))); (case aS => exact (below_size (by repeat (first | (with_reducible first | exact HB.out | apply below_alloc | apply pw_below_drewN | apply below_drew1 | refine below_set ?_ GE168.out) | exact HB.out)))); (case aL => have := LMc11.out; omega); intro v172 w14 ho hb hg hat; rw [← Ny171.out] at ho; have n0_ := Aside0.mk (blk_grown (g := gb168) (o := .cells #[.int .i8 ((rd_T81 ((rd_T31 l0 0).f1) x5_1).f0), .int .i16 ((rd_T81 ((rd_T31 l0 0).f1) x5_1).f1), .int .i16 ((rd_T81 ((rd_T31 l0 0).f1) x5_1).f2)] 81 (0, 0)) (by (with_reducible repeat (first | refine blk_drewN ?_ _ | refine blk_drew ?_ | refine blk_alloc ?_ _)); refine blk_put (cs := #[.int .i8 ((rd_T81 ((rd_T31 l0 0).f1) x5_1).f0), .int .i16 ((rd_T81 ((rd_T31 l0 0).f1) x5_1).f1), .int .i16 0]) ?_ 2 _ rfl; (with_reducible repeat (first | refine blk_drewN ?_ _ | refine blk_drew ?_ | refine blk_alloc ?_ _)); refine blk_put (cs := #[.int .i8 ((rd_T81 ((rd_T31 l0 0).f1) x5_1).f0), .int .i16 0, .int .i16 0]) ?_ 1 _ rfl; (with_reducible repeat (first | refine blk_drewN ?_ _ | refine blk_drew ?_ | refine blk_alloc ?_ _)); refine blk_put (cs := #[.int .i8 0, .int .i16 0, .int .i16 0]) ?_ 0 _ rfl; (with_reducible repeat (first | refine blk_drewN ?_ _ | refine blk_drew ?_ | refine blk_alloc ?_ _)); exact BK168.out) hg (Kd.R_ne HO_4.out BK168.out (by decide))); have n1_ := Aside0.mk (hb); have n2_ := Aside0.mk (ho); clear BK168; clear HB; clear HO_4; have BK168 := n0_; have HB := n1_; have HO173 := n2_; clear n0_ n1_ n2_; clear ho hb hg hat)); try go_wp2_with (first | ((with_reducible refine gate_dst (N := 6) rfl ?_); refine box_event ?hg (N := 6) ?hd (cs := #[.int .i8 0, .int .i16 0, .int .i16 0]) (t := 81) ?hr ?_; (case hd => rfl); (case hg => rfl); (case hr => first | (go_simp; done) | (go_simp; rfl)); intro gb168 hg w12 hbox hb; have n0_ := Aside0.mk (Kd.R_below (by (with_reducible repeat (first | apply Kd.R_alloc | apply Kd.R_drewN | apply Kd.R_drew)); exact HO_4.out) hb); have n1_ := Aside0.mk (below_step (by repeat (first | (with_reducible first | exact HB.out | apply below_alloc | apply pw_below_drewN | apply below_drew1) | exact HB.out)) hb); have n2_ := Aside0.mk (hbox); have n3_ := Aside0.mk ((by rw [hg]; exact (below_size (by repeat (first | (with_reducible first | exact HB.out | apply below_alloc | apply pw_below_drewN | apply below_drew1) | exact HB.out))) : w.heap.size ≤ gb168)); have n4_ := Aside0.mk ((by rw [hg]; exact (below_size (by repeat (first | (with_reducible first | exact HB.out | apply below_alloc | apply pw_below_drewN | apply below_drew1) | exact HB.out))) : w.heap.size ≤ gb168)); clear HO_4; clear HB; have HO_4 := n0_; have HB := n1_; have BK168 := n2_; have GW168 := n3_; have GE168 := n4_; clear n0_ n1_ n2_ n3_ n4_; clear hb hbox hg; have hcz13_0 : w12.cell? ⟨gb168, 0, none⟩ = some (.int .i8 0) := (blk_cell BK168.out 0).trans rfl; have hcz13_1 : w12.cell? ⟨gb168, 1, none⟩ = some (.int .i16 0) := (blk_cell BK168.out 1).trans rfl; have hcz13_2 : w12.cell? ⟨gb168, 2, none⟩ = some (.int .i16 0) := (blk_cell BK168.out 2).trans rfl; have hfz13_0 := blk_frozen BK168.out 0; have hfz13_1 := blk_frozen BK168.out 1; have hfz13_2 := blk_frozen BK168.out 2; have p169 : 0 ≤ (0 : Int) := (by omega); have q169 : 0 < (l0.length : Int) := of_decide_eq_true (by first | (with_reducible assumption) | assumption); obtain ⟨ad169, A169_1, c169_1, A169_2, c169_2, e169, hx169_0, hx169_1, hx169_2, hl169_1, hi169_1, hl169_2, hi169_2⟩ := at_T31 HR0.out 0 p169 q169; obtain rfl : adp0 = ad169 := (by injection e169); have qi169 : (0 < l0.length) = True := eq_true (by omega); (try rw [show ((0 : Int)).toNat = 0 from rfl] at hx169_0); (try rw [show 0 * 3 = 0 from rfl] at hx169_0); (try rw [Addr.add_zero'] at hx169_0); (try rw [show ((0 : Int)).toNat = 0 from rfl] at hx169_1); (try rw [show 0 * 3 = 0 from rfl] at hx169_1); (try rw [Addr.add_zero'] at hx169_1); (try rw [show ((0 : Int)).toNat = 0 from rfl] at hx169_2); (try rw [show 0 * 3 = 0 from rfl] at hx169_2); (try rw [Addr.add_zero'] at hx169_2); have hn169_0 : adp0.block ≠ gb168 := Nat.ne_of_lt (Nat.lt_of_lt_of_le (by have := World.block_lt_of_cell? _ _ hx169_0; first | rwa [add_block] at this | exact this) GW168.out); have hn169_1 : adp0.block ≠ gb168 := Nat.ne_of_lt (Nat.lt_of_lt_of_le (by have := World.block_lt_of_cell? _ _ hx169_0; first | rwa [add_block] at this | exact this) GW168.out); have hn169_2 : adp0.block ≠ gb168 := Nat.ne_of_lt (Nat.lt_of_lt_of_le (by have := World.block_lt_of_cell? _ _ hx169_0; first | rwa [add_block] at this | exact this) GW168.out); replace hx169_0 := (HB.out.cell (World.block_lt_of_cell? w _ hx169_0)).trans hx169_0; replace hx169_1 := (HB.out.cell (World.block_lt_of_cell? w _ hx169_1)).trans hx169_1; replace hx169_2 := (HB.out.cell (World.block_lt_of_cell? w _ hx169_2)).trans hx169_2; have HR169_1 := Aside0.mk hi169_1; have HC169_1 := Aside0.mk hl169_1; clear hi169_1 hl169_1; have HR169_2 := Aside0.mk hi169_2; have HC169_2 := Aside0.mk hl169_2; clear hi169_2 hl169_2; replace hx169_0 := (cell_far (p := ⟨gb168, 0, none⟩) (by first | (rw [add_block]; exact hn169_0) | (show (Addr.add _ _).block ≠ _; rw [add_block]; exact hn169_0) | exact hn169_0) (.int .i8 ((rd_T81 ((rd_T31 l0 0).f1) x5_1).f0))).trans hx169_0; replace hx169_1 := (cell_far (p := ⟨gb168, 0, none⟩) (by first | (rw [add_block]; exact hn169_0) | (show (Addr.add _ _).block ≠ _; rw [add_block]; exact hn169_0) | exact hn169_0) (.int .i8 ((rd_T81 ((rd_T31 l0 0).f1) x5_1).f0))).trans hx169_1; replace hx169_2 := (cell_far (p := ⟨gb168, 0, none⟩) (by first | (rw [add_block]; exact hn169_0) | (show (Addr.add _ _).block ≠ _; rw [add_block]; exact hn169_0) | exact hn169_0) (.int .i8 ((rd_T81 ((rd_T31 l0 0).f1) x5_1).f0))).trans hx169_2; replace hx169_0 := (cell_far (p := ⟨gb168, 1, none⟩) (by first | (rw [add_block]; exact hn169_1) | (show (Addr.add _ _).block ≠ _; rw [add_block]; exact hn169_1) | exact hn169_1) (.int .i16 ((rd_T81 ((rd_T31 l0 0).f1) x5_1).f1))).trans hx169_0; replace hx169_1 := (cell_far (p := ⟨gb168, 1, none⟩) (by first | (rw [add_block]; exact hn169_1) | (show (Addr.add _ _).block ≠ _; rw [add_block]; exact hn169_1) | exact hn169_1) (.int .i16 ((rd_T81 ((rd_T31 l0 0).f1) x5_1).f1))).trans hx169_1; replace hx169_2 := (cell_far (p := ⟨gb168, 1, none⟩) (by first | (rw [add_block]; exact hn169_1) | (show (Addr.add _ _).block ≠ _; rw [add_block]; exact hn169_1) | exact hn169_1) (.int .i16 ((rd_T81 ((rd_T31 l0 0).f1) x5_1).f1))).trans hx169_2; replace hx169_0 := (cell_far (p := ⟨gb168, 2, none⟩) (by first | (rw [add_block]; exact hn169_2) | (show (Addr.add _ _).block ≠ _; rw [add_block]; exact hn169_2) | exact hn169_2) (.int .i16 ((rd_T81 ((rd_T31 l0 0).f1) x5_1).f2))).trans hx169_0; replace hx169_1 := (cell_far (p := ⟨gb168, 2, none⟩) (by first | (rw [add_block]; exact hn169_2) | (show (Addr.add _ _).block ≠ _; rw [add_block]; exact hn169_2) | exact hn169_2) (.int .i16 ((rd_T81 ((rd_T31 l0 0).f1) x5_1).f2))).trans hx169_1; replace hx169_2 := (cell_far (p := ⟨gb168, 2, none⟩) (by first | (rw [add_block]; exact hn169_2) | (show (Addr.add _ _).block ≠ _; rw [add_block]; exact hn169_2) | exact hn169_2) (.int .i16 ((rd_T81 ((rd_T31 l0 0).f1) x5_1).f2))).trans hx169_2; (try have hy169_0 := fun (n_ : Nat) => (show (((((w12.drewN n_).setCell ⟨gb168, 0, none⟩ (.int .i8 ((rd_T81 ((rd_T31 l0 0).f1) x5_1).f0))).setCell ⟨gb168, 1, none⟩ (.int .i16 ((rd_T81 ((rd_T31 l0 0).f1) x5_1).f1))).setCell ⟨gb168, 2, none⟩ (.int .i16 ((rd_T81 ((rd_T31 l0 0).f1) x5_1).f2)))).cell? _ = some _ from hx169_0)); (try have hy169_1 := fun (n_ : Nat) => (show (((((w12.drewN n_).setCell ⟨gb168, 0, none⟩ (.int .i8 ((rd_T81 ((rd_T31 l0 0).f1) x5_1).f0))).setCell ⟨gb168, 1, none⟩ (.int .i16 ((rd_T81 ((rd_T31 l0 0).f1) x5_1).f1))).setCell ⟨gb168, 2, none⟩ (.int .i16 ((rd_T81 ((rd_T31 l0 0).f1) x5_1).f2)))).cell? _ = some _ from hx169_1)); (try have hy169_2 := fun (n_ : Nat) => (show (((((w12.drewN n_).setCell ⟨gb168, 0, none⟩ (.int .i8 ((rd_T81 ((rd_T31 l0 0).f1) x5_1).f0))).setCell ⟨gb168, 1, none⟩ (.int .i16 ((rd_T81 ((rd_T31 l0 0).f1) x5_1).f1))).setCell ⟨gb168, 2, none⟩ (.int .i16 ((rd_T81 ((rd_T31 l0 0).f1) x5_1).f2)))).cell? _ = some _ from hx169_2)); clear hn169_0; clear hn169_1; clear hn169_2; replace p169 := eq_true p169; replace q169 := eq_true q169) | (go_at_call 129; (with_reducible refine (spec_l04Input.calls k1 (wrap64 ((rd_T31 l0 0).f0)) (wrap64 ((rd_T81 ((rd_T31 l0 0).f1) x5_1).f1)) t170 _ A10.out).mono ?_); rintro e w' ⟨rfl, ⟨nd, rfl⟩⟩; (try first | exact ⟨rfl, _, World.drewN_drewN _ _ _⟩ | exact ⟨rfl, _, Eq.trans (World.drewN_drewN _ _ _) (congrArg (World.drewN _) (Nat.add_assoc _ _ _))⟩)) | ((with_reducible refine gate_builtin (b := .append) (xs := #[.tmp 71, .tmp 73]) rfl ?_); at_builtin; refine Kd.R_append (Kd.int .u64) (w0 := w) w.heap.size rfl (.tmp 71) (.tmp 73) 53 98 (.int .u64 0) 8 rfl Try.underlying53 info98 rfl (by decide) (by omega) u4 x4_1 t170 [.int .u64 t170] (fun _ => True) (fun _ => False) rfl (by first | (go_simp; done) | (go_simp; rfl)) ?aP (fun _ hk => hk.elim) ?aF ?aO ?aB ?aS ?aL ?_; (case aP => exact rfl); (case aB => exact (by repeat (first | (with_reducible first | exact HB.out | apply below_alloc | apply pw_below_drewN | apply below_drew1 | refine below_set ?_ GE168.out) | exact HB.out))); (case aF => exact (fun _ _ => trivial)); (case aO => exact (by (with_reducible repeat (first | apply Kd.R_alloc | apply Kd.R_drewN | apply Kd.R_drew)); exact Kd.R_mono (Kd.R_far (p := ⟨gb168, 2, none⟩) (Kd.R_far (p := ⟨gb168, 1, none⟩) (Kd.R_far (p := ⟨gb168, 0, none⟩) (Kd.R_types HO_4.out BK168.out (by decide)) (fun _ hk => hk.2) (.int .i8 ((rd_T81 ((rd_T31 l0 0).f1) x5_1).f0))) (fun _ hk => hk.2) (.int .i16 ((rd_T81 ((rd_T31 l0 0).f1) x5_1).f1))) (fun _ hk => hk.2) (.int .i16 ((rd_T81 ((rd_T31 l0 0).f1) x5_1).f2))) (fun _ hk => trivial))); (case aS => exact (below_size (by repeat (first | (with_reducible first | exact HB.out | apply below_alloc | apply pw_below_drewN | apply below_drew1 | refine below_set ?_ GE168.out) | exact HB.out)))); (case aL => have := LMc11.out; omega); intro v172 w14 ho hb hg hat; rw [← Ny171.out] at ho; have n0_ := Aside0.mk (blk_grown (g := gb168) (o := .cells #[.int .i8 ((rd_T81 ((rd_T31 l0 0).f1) x5_1).f0), .int .i16 ((rd_T81 ((rd_T31 l0 0).f1) x5_1).f1), .int .i16 ((rd_T81 ((rd_T31 l0 0).f1) x5_1).f2)] 81 (0, 0)) (by (with_reducible repeat (first | refine blk_drewN ?_ _ | refine blk_drew ?_ | refine blk_alloc ?_ _)); refine blk_put (cs := #[.int .i8 ((rd_T81 ((rd_T31 l0 0).f1) x5_1).f0), .int .i16 ((rd_T81 ((rd_T31 l0 0).f1) x5_1).f1), .int .i16 0]) ?_ 2 _ rfl; (with_reducible repeat (first | refine blk_drewN ?_ _ | refine blk_drew ?_ | refine blk_alloc ?_ _)); refine blk_put (cs := #[.int .i8 ((rd_T81 ((rd_T31 l0 0).f1) x5_1).f0), .int .i16 0, .int .i16 0]) ?_ 1 _ rfl; (with_reducible repeat (first | refine blk_drewN ?_ _ | refine blk_drew ?_ | refine blk_alloc ?_ _)); refine blk_put (cs := #[.int .i8 0, .int .i16 0, .int .i16 0]) ?_ 0 _ rfl; (with_reducible repeat (first | refine blk_drewN ?_ _ | refine blk_drew ?_ | refine blk_alloc ?_ _)); exact BK168.out) hg (Kd.R_ne HO_4.out BK168.out (by decide))); have n1_ := Aside0.mk (hb); have n2_ := Aside0.mk (ho); clear BK168; clear HB; clear HO_4; have BK168 := n0_; have HB := n1_; have HO173 := n2_; clear n0_ n1_ n2_; clear ho hb hg hat)))
                  go_roundg k1
                  case measure => have := HK1.out; omega
                  case rel => exact ⟨(y171), (wrap64 (x5_1 + 1)), (by first | rfl | (simp; done) | (simp [*]; done) | (exact congrArg (Value.int .i64) (wrap_eq (by omega)))), H', ⟨by have := HK1.out; omega⟩, ⟨by (with_reducible repeat (first | apply Kd.R_alloc | apply Kd.R_drewN | apply Kd.R_drew)); exact HO173.out⟩, ⟨by repeat (first | (with_reducible first | exact HB.out | apply below_alloc | apply pw_below_drewN | apply below_drew1 | refine below_set ?_ GE168.out) | exact HB.out)⟩⟩
                · rw [if_neg c11] at H
                  exact absurd H (by simp)
              · rw [if_neg c9] at H
                have c9b0 : (((rd_T81 ((rd_T31 l0 0).f1) x5_1).f0) == 0) = false := beq_eq_false_iff_ne.mpr c9
                have c9b1 : (((rd_T81 ((rd_T31 l0 0).f1) x5_1).f0) != 0) = true := bne_iff_ne.mpr c9
                by_cases c15 : ((rd_T81 ((rd_T31 l0 0).f1) x5_1).f0) = 2
                · rw [if_pos c15] at H
                  have c15b0 : (((rd_T81 ((rd_T31 l0 0).f1) x5_1).f0) == 2) = true := beq_iff_eq.mpr c15
                  have c15b1 : (((rd_T81 ((rd_T31 l0 0).f1) x5_1).f0) != 2) = false := bne_eq_false_iff_eq.mpr c15
                  clear c15
                  by_cases c16 : 0 ≤ ((rd_T81 ((rd_T31 l0 0).f1) x5_1).f1)
                  · rw [if_pos c16] at H
                    have c16b0 : decide (0 ≤ ((rd_T81 ((rd_T31 l0 0).f1) x5_1).f1)) = true := decide_eq_true c16
                    clear c16
                    by_cases c17 : ((rd_T81 ((rd_T31 l0 0).f1) x5_1).f1) < (x4_1.length : Int)
                    · rw [if_pos c17] at H
                      have c17b0 : decide (((rd_T81 ((rd_T31 l0 0).f1) x5_1).f1) < (x4_1.length : Int)) = true := decide_eq_true c17
                      clear c17
                      by_cases c18 : 0 ≤ ((rd_T81 ((rd_T31 l0 0).f1) x5_1).f2)
                      · rw [if_pos c18] at H
                        have c18b0 : decide (0 ≤ ((rd_T81 ((rd_T31 l0 0).f1) x5_1).f2)) = true := decide_eq_true c18
                        clear c18
                        by_cases c19 : ((rd_T81 ((rd_T31 l0 0).f1) x5_1).f2) < (x4_1.length : Int)
                        · rw [if_pos c19] at H
                          have c19b0 : decide (((rd_T81 ((rd_T31 l0 0).f1) x5_1).f2) < (x4_1.length : Int)) = true := decide_eq_true c19
                          clear c19
                          by_cases c20 : x4_1.length < 17592186044416
                          · rw [if_pos c20] at H
                            have LMc20 := Aside0.mk c20
                            clear c20
                            obtain ⟨y176, hy176⟩ : ∃ y_ : List Int, y_ = (x4_1 ++ [Go.bits .or .u64 (rd x4_1 ((rd_T81 ((rd_T31 l0 0).f1) x5_1).f1)) (rd x4_1 ((rd_T81 ((rd_T31 l0 0).f1) x5_1).f2))]) := ⟨_, rfl⟩
                            replace H : (spec_l04Tables.l0 k1 l0 t161 y176 (wrap64 (x5_1 + 1))) = some r := by first | (rw [hy176]; with_reducible exact H) | (have H2_ := (Option.bind_some _ _).symm.trans H; rw [hy176]; with_reducible exact H2_) | (have H2_ := (Option.bind_some _ _).symm.trans H; with_reducible exact H2_) | with_reducible exact H | (rw [hy176]; exact H) | exact H
                            have Ny176 := Aside0.mk hy176
                            clear hy176
                            have H' := Aside0.mk H
                            clear H
                            have p165 : 0 ≤ (0 : Int) := (by omega)
                            have q165 : 0 < (l0.length : Int) := of_decide_eq_true (by first | (with_reducible assumption) | assumption)
                            obtain ⟨ad165, A165_1, c165_1, A165_2, c165_2, e165, hx165_0, hx165_1, hx165_2, hl165_1, hi165_1, hl165_2, hi165_2⟩ := at_T31 HR0.out 0 p165 q165
                            obtain rfl : adp0 = ad165 := (by injection e165)
                            have qi165 : (0 < l0.length) = True := eq_true (by omega)
                            (try rw [show ((0 : Int)).toNat = 0 from rfl] at hx165_0)
                            (try rw [show 0 * 3 = 0 from rfl] at hx165_0)
                            (try rw [Addr.add_zero'] at hx165_0)
                            (try rw [show ((0 : Int)).toNat = 0 from rfl] at hx165_1)
                            (try rw [show 0 * 3 = 0 from rfl] at hx165_1)
                            (try rw [Addr.add_zero'] at hx165_1)
                            (try rw [show ((0 : Int)).toNat = 0 from rfl] at hx165_2)
                            (try rw [show 0 * 3 = 0 from rfl] at hx165_2)
                            (try rw [Addr.add_zero'] at hx165_2)
                            replace hx165_0 := (HB.out.cell (World.block_lt_of_cell? w _ hx165_0)).trans hx165_0
                            replace hx165_1 := (HB.out.cell (World.block_lt_of_cell? w _ hx165_1)).trans hx165_1
                            replace hx165_2 := (HB.out.cell (World.block_lt_of_cell? w _ hx165_2)).trans hx165_2
                            have HR165_1 := Aside0.mk hi165_1
                            have HC165_1 := Aside0.mk hl165_1
                            clear hi165_1 hl165_1
                            have HR165_2 := Aside0.mk hi165_2
                            have HC165_2 := Aside0.mk hl165_2
                            clear hi165_2 hl165_2
                            replace p165 := eq_true p165
                            replace q165 := eq_true q165
                            have p166 : 0 ≤ (0 : Int) := (by omega)
                            have q166 : 0 < (l0.length : Int) := of_decide_eq_true (by first | (with_reducible assumption) | assumption)
                            obtain ⟨ad166, A166_1, c166_1, A166_2, c166_2, e166, hx166_0, hx166_1, hx166_2, hl166_1, hi166_1, hl166_2, hi166_2⟩ := at_T31 HR0.out 0 p166 q166
                            obtain rfl : adp0 = ad166 := (by injection e166)
                            have qi166 : (0 < l0.length) = True := eq_true (by omega)
                            (try rw [show ((0 : Int)).toNat = 0 from rfl] at hx166_0)
                            (try rw [show 0 * 3 = 0 from rfl] at hx166_0)
                            (try rw [Addr.add_zero'] at hx166_0)
                            (try rw [show ((0 : Int)).toNat = 0 from rfl] at hx166_1)
                            (try rw [show 0 * 3 = 0 from rfl] at hx166_1)
                            (try rw [Addr.add_zero'] at hx166_1)
                            (try rw [show ((0 : Int)).toNat = 0 from rfl] at hx166_2)
                            (try rw [show 0 * 3 = 0 from rfl] at hx166_2)
                            (try rw [Addr.add_zero'] at hx166_2)
                            replace hx166_0 := (HB.out.cell (World.block_lt_of_cell? w _ hx166_0)).trans hx166_0
                            replace hx166_1 := (HB.out.cell (World.block_lt_of_cell? w _ hx166_1)).trans hx166_1
                            replace hx166_2 := (HB.out.cell (World.block_lt_of_cell? w _ hx166_2)).trans hx166_2
                            have HR166_1 := Aside0.mk hi166_1
                            have HC166_1 := Aside0.mk hl166_1
                            clear hi166_1 hl166_1
                            have HR166_2 := Aside0.mk hi166_2
                            have HC166_2 := Aside0.mk hl166_2
                            clear hi166_2 hl166_2
                            replace p166 := eq_true p166
                            replace q166 := eq_true q166
                            have ea_ := Option.some.inj (hx165_1.symm.trans hx166_1)
                            injection ea_ with ea_ en_ ec_
                            subst ea_
                            subst ec_
                            clear en_
                            have ea_ := Option.some.inj (hx165_2.symm.trans hx166_2)
                            injection ea_ with ea_ en_ ec_
                            subst ea_
                            subst ec_
                            clear en_
                            have p167 : 0 ≤ (x5_1 : Int) := of_decide_eq_true (by first | (with_reducible assumption) | assumption)
                            have q167 : x5_1 < (((rd_T31 l0 0).f1).length : Int) := of_decide_eq_true (by first | (with_reducible assumption) | assumption)
                            obtain ⟨ad167, e167, hx167_0, hx167_1, hx167_2⟩ := at_T81 HR166_1.out x5_1 p167 q167
                            cases e167
                            replace hx167_0 := (HB.out.cell (World.block_lt_of_cell? w _ hx167_0)).trans hx167_0
                            replace hx167_1 := (HB.out.cell (World.block_lt_of_cell? w _ hx167_1)).trans hx167_1
                            replace hx167_2 := (HB.out.cell (World.block_lt_of_cell? w _ hx167_2)).trans hx167_2
                            replace p167 := eq_true p167
                            replace q167 := eq_true q167
                            go_wp2_with (first | ((with_reducible refine gate_dst (N := 6) rfl ?_); refine box_event ?hg (N := 6) ?hd (cs := #[.int .i8 0, .int .i16 0, .int .i16 0]) (t := 81) ?hr ?_; (case hd => rfl); (case hg => rfl); (case hr => first | (go_simp; done) | (go_simp; rfl)); intro gb168 hg w21 hbox hb; have n0_ := Aside0.mk (Kd.R_below (by (with_reducible repeat (first | apply Kd.R_alloc | apply Kd.R_drewN | apply Kd.R_drew)); exact HO_4.out) hb); have n1_ := Aside0.mk (below_step (by repeat (first | (with_reducible first | exact HB.out | apply below_alloc | apply pw_below_drewN | apply below_drew1) | exact HB.out)) hb); have n2_ := Aside0.mk (hbox); have n3_ := Aside0.mk ((by rw [hg]; exact (below_size (by repeat (first | (with_reducible first | exact HB.out | apply below_alloc | apply pw_below_drewN | apply below_drew1) | exact HB.out))) : w.heap.size ≤ gb168)); have n4_ := Aside0.mk ((by rw [hg]; exact (below_size (by repeat (first | (with_reducible first | exact HB.out | apply below_alloc | apply pw_below_drewN | apply below_drew1) | exact HB.out))) : w.heap.size ≤ gb168)); clear HO_4; clear HB; have HO_4 := n0_; have HB := n1_; have BK168 := n2_; have GW168 := n3_; have GE168 := n4_; clear n0_ n1_ n2_ n3_ n4_; clear hb hbox hg; have hcz22_0 : w21.cell? ⟨gb168, 0, none⟩ = some (.int .i8 0) := (blk_cell BK168.out 0).trans rfl; have hcz22_1 : w21.cell? ⟨gb168, 1, none⟩ = some (.int .i16 0) := (blk_cell BK168.out 1).trans rfl; have hcz22_2 : w21.cell? ⟨gb168, 2, none⟩ = some (.int .i16 0) := (blk_cell BK168.out 2).trans rfl; have hfz22_0 := blk_frozen BK168.out 0; have hfz22_1 := blk_frozen BK168.out 1; have hfz22_2 := blk_frozen BK168.out 2; obtain ⟨Ao23, co23, eo23⟩ := Kd.R_slice HO_4.out; subst eo23; have p174 : 0 ≤ (((rd_T81 ((rd_T31 l0 0).f1) x5_1).f1) : Int) := of_decide_eq_true (by first | (with_reducible assumption) | assumption); have q174 : ((rd_T81 ((rd_T31 l0 0).f1) x5_1).f1) < (x4_1.length : Int) := of_decide_eq_true (by first | (with_reducible assumption) | assumption); obtain ⟨ad174, e174, hx174_0⟩ := Kd.at_int (Kd.R_reads' HO_4.out).2.2 ((rd_T81 ((rd_T31 l0 0).f1) x5_1).f1) p174 q174; cases e174; have hn174_0 : ad174.block ≠ gb168 := Kd.own_blk (Kd.R_ne HO_4.out BK168.out (by decide)); have hn174_1 : ad174.block ≠ gb168 := Kd.own_blk (Kd.R_ne HO_4.out BK168.out (by decide)); have hn174_2 : ad174.block ≠ gb168 := Kd.own_blk (Kd.R_ne HO_4.out BK168.out (by decide)); replace hx174_0 := (cell_far (p := ⟨gb168, 0, none⟩) (by first | (rw [add_block]; exact hn174_0) | (show (Addr.add _ _).block ≠ _; rw [add_block]; exact hn174_0) | exact hn174_0) (.int .i8 ((rd_T81 ((rd_T31 l0 0).f1) x5_1).f0))).trans hx174_0; replace hx174_0 := (cell_far (p := ⟨gb168, 1, none⟩) (by first | (rw [add_block]; exact hn174_1) | (show (Addr.add _ _).block ≠ _; rw [add_block]; exact hn174_1) | exact hn174_1) (.int .i16 ((rd_T81 ((rd_T31 l0 0).f1) x5_1).f1))).trans hx174_0; replace hx174_0 := (cell_far (p := ⟨gb168, 2, none⟩) (by first | (rw [add_block]; exact hn174_2) | (show (Addr.add _ _).block ≠ _; rw [add_block]; exact hn174_2) | exact hn174_2) (.int .i16 ((rd_T81 ((rd_T31 l0 0).f1) x5_1).f2))).trans hx174_0; (try have hy174_0 := fun (n_ : Nat) => (show (((((w21.drewN n_).setCell ⟨gb168, 0, none⟩ (.int .i8 ((rd_T81 ((rd_T31 l0 0).f1) x5_1).f0))).setCell ⟨gb168, 1, none⟩ (.int .i16 ((rd_T81 ((rd_T31 l0 0).f1) x5_1).f1))).setCell ⟨gb168, 2, none⟩ (.int .i16 ((rd_T81 ((rd_T31 l0 0).f1) x5_1).f2)))).cell? _ = some _ from hx174_0)); clear hn174_0; clear hn174_1; clear hn174_2; replace p174 := eq_true p174; replace q174 := eq_true q174; have p175 : 0 ≤ (((rd_T81 ((rd_T31 l0 0).f1) x5_1).f2) : Int) := of_decide_eq_true (by first | (with_reducible assumption) | assumption); have q175 : ((rd_T81 ((rd_T31 l0 0).f1) x5_1).f2) < (x4_1.length : Int) := of_decide_eq_true (by first | (with_reducible assumption) | assumption); obtain ⟨ad175, e175, hx175_0⟩ := Kd.at_int (Kd.R_reads' HO_4.out).2.2 ((rd_T81 ((rd_T31 l0 0).f1) x5_1).f2) p175 q175; obtain rfl : ad174 = ad175 := (by injection e175); have hn175_0 : ad174.block ≠ gb168 := Kd.own_blk (Kd.R_ne HO_4.out BK168.out (by decide)); have hn175_1 : ad174.block ≠ gb168 := Kd.own_blk (Kd.R_ne HO_4.out BK168.out (by decide)); have hn175_2 : ad174.block ≠ gb168 := Kd.own_blk (Kd.R_ne HO_4.out BK168.out (by decide)); replace hx175_0 := (cell_far (p := ⟨gb168, 0, none⟩) (by first | (rw [add_block]; exact hn175_0) | (show (Addr.add _ _).block ≠ _; rw [add_block]; exact hn175_0) | exact hn175_0) (.int .i8 ((rd_T81 ((rd_T31 l0 0).f1) x5_1).f0))).trans hx175_0; replace hx175_0 := (cell_far (p := ⟨gb168, 1, none⟩) (by first | (rw [add_block]; exact hn175_1) | (show (Addr.add _ _).block ≠ _; rw [add_block]; exact hn175_1) | exact hn175_1) (.int .i16 ((rd_T81 ((rd_T31 l0 0).f1) x5_1).f1))).trans hx175_0; replace hx175_0 := (cell_far (p := ⟨gb168, 2, none⟩) (by first | (rw [add_block]; exact hn175_2) | (show (Addr.add _ _).block ≠ _; rw [add_block]; exact hn175_2) | exact hn175_2) (.int .i16 ((rd_T81 ((rd_T31 l0 0).f1) x5_1).f2))).trans hx175_0; (try have hy175_0 := fun (n_ : Nat) => (show (((((w21.drewN n_).setCell ⟨gb168, 0, none⟩ (.int .i8 ((rd_T81 ((rd_T31 l0 0).f1) x5_1).f0))).setCell ⟨gb168, 1, none⟩ (.int .i16 ((rd_T81 ((rd_T31 l0 0).f1) x5_1).f1))).setCell ⟨gb168, 2, none⟩ (.int .i16 ((rd_T81 ((rd_T31 l0 0).f1) x5_1).f2)))).cell? _ = some _ from hx175_0)); clear hn175_0; clear hn175_1; clear hn175_2; replace p175 := eq_true p175; replace q175 := eq_true q175) | ((with_reducible refine gate_builtin (b := .append) (xs := #[.tmp 71, .tmp 73]) rfl ?_); at_builtin; refine Kd.R_append (Kd.int .u64) (w0 := w) w.heap.size rfl (.tmp 71) (.tmp 73) 53 98 (.int .u64 0) 8 rfl Try.underlying53 info98 rfl (by decide) (by omega) (.slice (some ad174) x4_1.length co23) x4_1 (Go.bits .or .u64 (rd x4_1 ((rd_T81 ((rd_T31 l0 0).f1) x5_1).f1)) (rd x4_1 ((rd_T81 ((rd_T31 l0 0).f1) x5_1).f2))) [.int .u64 (Go.bits .or .u64 (rd x4_1 ((rd_T81 ((rd_T31 l0 0).f1) x5_1).f1)) (rd x4_1 ((rd_T81 ((rd_T31 l0 0).f1) x5_1).f2)))] (fun _ => True) (fun _ => False) rfl (by first | (go_simp; done) | (go_simp; rfl)) ?aP (fun _ hk => hk.elim) ?aF ?aO ?aB ?aS ?aL ?_; (case aP => exact rfl); (case aB => exact (by repeat (first | (with_reducible first | exact HB.out | apply below_alloc | apply pw_below_drewN | apply below_drew1 | refine below_set ?_ GE168.out) | exact HB.out))); (case aF => exact (fun _ _ => trivial)); (case aO => exact (by (with_reducible repeat (first | apply Kd.R_alloc | apply Kd.R_drewN | apply Kd.R_drew)); exact Kd.R_mono (Kd.R_far (p := ⟨gb168, 2, none⟩) (Kd.R_far (p := ⟨gb168, 1, none⟩) (Kd.R_far (p := ⟨gb168, 0, none⟩) (Kd.R_types HO_4.out BK168.out (by decide)) (fun _ hk => hk.2) (.int .i8 ((rd_T81 ((rd_T31 l0 0).f1) x5_1).f0))) (fun _ hk => hk.2) (.int .i16 ((rd_T81 ((rd_T31 l0 0).f1) x5_1).f1))) (fun _ hk => hk.2) (.int .i16 ((rd_T81 ((rd_T31 l0 0).f1) x5_1).f2))) (fun _ hk => trivial))); (case aS => exact (below_size (by repeat (first | (with_reducible first | exact HB.out | apply below_alloc | apply pw_below_drewN | apply below_drew1 | refine below_set ?_ GE168.out) | exact HB.out)))); (case aL => have := LMc20.out; omega); intro v177 w24 ho hb hg hat; rw [← Ny176.out] at ho; have n0_ := Aside0.mk (blk_grown (g := gb168) (o := .cells #[.int .i8 ((rd_T81 ((rd_T31 l0 0).f1) x5_1).f0), .int .i16 ((rd_T81 ((rd_T31 l0 0).f1) x5_1).f1), .int .i16 ((rd_T81 ((rd_T31 l0 0).f1) x5_1).f2)] 81 (0, 0)) (by (with_reducible repeat (first | refine blk_drewN ?_ _ | refine blk_drew ?_ | refine blk_alloc ?_ _)); refine blk_put (cs := #[.int .i8 ((rd_T81 ((rd_T31 l0 0).f1) x5_1).f0), .int .i16 ((rd_T81 ((rd_T31 l0 0).f1) x5_1).f1), .int .i16 0]) ?_ 2 _ rfl; (with_reducible repeat (first | refine blk_drewN ?_ _ | refine blk_drew ?_ | refine blk_alloc ?_ _)); refine blk_put (cs := #[.int .i8 ((rd_T81 ((rd_T31 l0 0).f1) x5_1).f0), .int .i16 0, .int .i16 0]) ?_ 1 _ rfl; (with_reducible repeat (first | refine blk_drewN ?_ _ | refine blk_drew ?_ | refine blk_alloc ?_ _)); refine blk_put (cs := #[.int .i8 0, .int .i16 0, .int .i16 0]) ?_ 0 _ rfl; (with_reducible repeat (first | refine blk_drewN ?_ _ | refine blk_drew ?_ | refine blk_alloc ?_ _)); exact BK168.out) hg (Kd.R_ne HO_4.out BK168.out (by decide))); have n1_ := Aside0.mk (hb); have n2_ := Aside0.mk (ho); clear BK168; clear HB; clear HO_4; have BK168 := n0_; have HB := n1_; have HO178 := n2_; clear n0_ n1_ n2_; clear ho hb hg hat))
                            repeat (go_quiet (first | ((with_reducible refine gate_dst (N := 6) rfl ?_); refine box_event ?hg (N := 6) ?hd (cs := #[.int .i8 0, .int .i16 0, .int .i16 0]) (t := 81) ?hr ?_; (case hd => rfl); (case hg => rfl); (case hr => first | (go_simp; done) | (go_simp; rfl)); intro gb168 hg w21 hbox hb; have n0_ := Aside0.mk (Kd.R_below (by (with_reducible repeat (first | apply Kd.R_alloc | apply Kd.R_drewN | apply Kd.R_drew)); exact HO_4.out) hb); have n1_ := Aside0.mk (below_step (by repeat (first | (with_reducible first | exact HB.out | apply below_alloc | apply pw_below_drewN | apply below_drew1) | exact HB.out)) hb); have n2_ := Aside0.mk (hbox); have n3_ := Aside0.mk ((by rw [hg]; exact (below_size (by repeat (first | (with_reducible first | exact HB.out | apply below_alloc | apply pw_below_drewN | apply below_drew1) | exact HB.out))) : w.heap.size ≤ gb168)); have n4_ := Aside0.mk ((by rw [hg]; exact (below_size (by repeat (first | (with_reducible first | exact HB.out | apply below_alloc | apply pw_below_drewN | apply below_drew1) | exact HB.out))) : w.heap.size ≤ gb168)); clear HO_4; clear HB; have HO_4 := n0_; have HB := n1_; have BK168 := n2_; have GW168 := n3_; have GE168 := n4_; clear n0_ n1_ n2_ n3_ n4_; clear hb hbox hg; have hcz22_0 : w21.cell? ⟨gb168, 0, none⟩ = some (.int .i8 0) := (blk_cell BK168.out 0).trans rfl; have hcz22_1 : w21.cell? ⟨gb168, 1, none⟩ = some (.int .i16 0) := (blk_cell BK168.out 1).trans rfl; have hcz22_2 : w21.cell? ⟨gb168, 2, none⟩ = some (.int .i16 0) := (blk_cell BK168.out 2).trans rfl; have hfz22_0 := blk_frozen BK168.out 0; have hfz22_1 := blk_frozen BK168.out 1; have hfz22_2 := blk_frozen BK168.out 2; obtain ⟨Ao23, co23, eo23⟩ := Kd.R_slice HO_4.out; subst eo23; have p174 : 0 ≤ (((rd_T81 ((rd_T31 l0 0).f1) x5_1).f1) : Int) := of_decide_eq_true (by first | (with_reducible assumption) | assumption); have q174 : ((rd_T81 ((rd_T31 l0 0).f1) x5_1).f1) < (x4_1.length : Int) := of_decide_eq_true (by first | (with_reducible assumption) | assumption); obtain ⟨ad174, e174, hx174_0⟩ := Kd.at_int (Kd.R_reads' HO_4.out).2.2 ((rd_T81 ((rd_T31 l0 0).f1) x5_1).f1) p174 q174; cases e174; have hn174_0 : ad174.block ≠ gb168 := Kd.own_blk (Kd.R_ne HO_4.out BK168.out (by decide)); have hn174_1 : ad174.block ≠ gb168 := Kd.own_blk (Kd.R_ne HO_4.out BK168.out (by decide)); have hn174_2 : ad174.block ≠ gb168 := Kd.own_blk (Kd.R_ne HO_4.out BK168.out (by decide)); replace hx174_0 := (cell_far (p := ⟨gb168, 0, none⟩) (by first | (rw [add_block]; exact hn174_0) | (show (Addr.add _ _).block ≠ _; rw [add_block]; exact hn174_0) | exact hn174_0) (.int .i8 ((rd_T81 ((rd_T31 l0 0).f1) x5_1).f0))).trans hx174_0; replace hx174_0 := (cell_far (p := ⟨gb168, 1, none⟩) (by first | (rw [add_block]; exact hn174_1) | (show (Addr.add _ _).block ≠ _; rw [add_block]; exact hn174_1) | exact hn174_1) (.int .i16 ((rd_T81 ((rd_T31 l0 0).f1) x5_1).f1))).trans hx174_0; replace hx174_0 := (cell_far (p := ⟨gb168, 2, none⟩) (by first | (rw [add_block]; exact hn174_2) | (show (Addr.add _ _).block ≠ _; rw [add_block]; exact hn174_2) | exact hn174_2) (.int .i16 ((rd_T81 ((rd_T31 l0 0).f1) x5_1).f2))).trans hx174_0; (try have hy174_0 := fun (n_ : Nat) => (show (((((w21.drewN n_).setCell ⟨gb168, 0, none⟩ (.int .i8 ((rd_T81 ((rd_T31 l0 0).f1) x5_1).f0))).setCell ⟨gb168, 1, none⟩ (.int .i16 ((rd_T81 ((rd_T31 l0 0).f1) x5_1).f1))).setCell ⟨gb168, 2, none⟩ (.int .i16 ((rd_T81 ((rd_T31 l0 0).f1) x5_1).f2)))).cell? _ = some _ from hx174_0)); clear hn174_0; clear hn174_1; clear hn174_2; replace p174 := eq_true p174; replace q174 := eq_true q174; have p175 : 0 ≤ (((rd_T81 ((rd_T31 l0 0).f1) x5_1).f2) : Int) := of_decide_eq_true (by first | (with_reducible assumption) | assumption); have q175 : ((rd_T81 ((rd_T31 l0 0).f1) x5_1).f2) < (x4_1.length : Int) := of_decide_eq_true (by first | (with_reducible assumption) | assumption); obtain ⟨ad175, e175, hx175_0⟩ := Kd.at_int (Kd.R_reads' HO_4.out).2.2 ((rd_T81 ((rd_T31 l0 0).f1) x5_1).f2) p175 q175; obtain rfl : ad174 = ad175 := (by injection e175); have hn175_0 : ad174.block ≠ gb168 := Kd.own_blk (Kd.R_ne HO_4.out BK168.out (by decide)); have hn175_1 : ad174.block ≠ gb168 := Kd.own_blk (Kd.R_ne HO_4.out BK168.out (by decide)); have hn175_2 : ad174.block ≠ gb168 := Kd.own_blk (Kd.R_ne HO_4.out BK168.out (by decide)); replace hx175_0 := (cell_far (p := ⟨gb168, 0, none⟩) (by first | (rw [add_block]; exact hn175_0) | (show (Addr.add _ _).block ≠ _; rw [add_block]; exact hn175_0) | exact hn175_0) (.int .i8 ((rd_T81 ((rd_T31 l0 0).f1) x5_1).f0))).trans hx175_0; replace hx175_0 := (cell_far (p := ⟨gb168, 1, none⟩) (by first | (rw [add_block]; exact hn175_1) | (show (Addr.add _ _).block ≠ _; rw [add_block]; exact hn175_1) | exact hn175_1) (.int .i16 ((rd_T81 ((rd_T31 l0 0).f1) x5_1).f1))).trans hx175_0; replace hx175_0 := (cell_far (p := ⟨gb168, 2, none⟩) (by first | (rw [add_block]; exact hn175_2) | (show (Addr.add _ _).block ≠ _; rw [add_block]; exact hn175_2) | exact hn175_2) (.int .i16 ((rd_T81 ((rd_T31 l0 0).f1) x5_1).f2))).trans hx175_0; (try have hy175_0 := fun (n_ : Nat) => (show (((((w21.drewN n_).setCell ⟨gb168, 0, none⟩ (.int .i8 ((rd_T81 ((rd_T31 l0 0).f1) x5_1).f0))).setCell ⟨gb168, 1, none⟩ (.int .i16 ((rd_T81 ((rd_T31 l0 0).f1) x5_1).f1))).setCell ⟨gb168, 2, none⟩ (.int .i16 ((rd_T81 ((rd_T31 l0 0).f1) x5_1).f2)))).cell? _ = some _ from hx175_0)); clear hn175_0; clear hn175_1; clear hn175_2; replace p175 := eq_true p175; replace q175 := eq_true q175) | ((with_reducible refine gate_builtin (b := .append) (xs := #[.tmp 71, .tmp 73]) rfl ?_); at_builtin; refine Kd.R_append (Kd.int .u64) (w0 := w) w.heap.size rfl (.tmp 71) (.tmp 73) 53 98 (.int .u64 0) 8 rfl Try.underlying53 info98 rfl (by decide) (by omega) (.slice (some ad174) x4_1.length co23) x4_1 (Go.bits .or .u64 (rd x4_1 ((rd_T81 ((rd_T31 l0 0).f1) x5_1).f1)) (rd x4_1 ((rd_T81 ((rd_T31 l0 0).f1) x5_1).f2))) [.int .u64 (Go.bits .or .u64 (rd x4_1 ((rd_T81 ((rd_T31 l0 0).f1) x5_1).f1)) (rd x4_1 ((rd_T81 ((rd_T31 l0 0).f1) x5_1).f2)))] (fun _ => True) (fun _ => False) rfl (by first | (go_simp; done) | (go_simp; rfl)) ?aP (fun _ hk => hk.elim) ?aF ?aO ?aB ?aS ?aL ?_; (case aP => exact rfl); (case aB => exact (by repeat (first | (with_reducible first | exact HB.out | apply below_alloc | apply pw_below_drewN | apply below_drew1 | refine below_set ?_ GE168.out) | exact HB.out))); (case aF => exact (fun _ _ => trivial)); (case aO => exact (by (with_reducible repeat (first | apply Kd.R_alloc | apply Kd.R_drewN | apply Kd.R_drew)); exact Kd.R_mono (Kd.R_far (p := ⟨gb168, 2, none⟩) (Kd.R_far (p := ⟨gb168, 1, none⟩) (Kd.R_far (p := ⟨gb168, 0, none⟩) (Kd.R_types HO_4.out BK168.out (by decide)) (fun _ hk => hk.2) (.int .i8 ((rd_T81 ((rd_T31 l0 0).f1) x5_1).f0))) (fun _ hk => hk.2) (.int .i16 ((rd_T81 ((rd_T31 l0 0).f1) x5_1).f1))) (fun _ hk => hk.2) (.int .i16 ((rd_T81 ((rd_T31 l0 0).f1) x5_1).f2))) (fun _ hk => trivial))); (case aS => exact (below_size (by repeat (first | (with_reducible first | exact HB.out | apply below_alloc | apply pw_below_drewN | apply below_drew1 | refine below_set ?_ GE168.out) | exact HB.out)))); (case aL => have := LMc20.out; omega); intro v177 w24 ho hb hg hat; rw [← Ny176.out] at ho; have n0_ := Aside0.mk (blk_grown (g := gb168) (o := .cells #[.int .i8 ((rd_T81 ((rd_T31 l0 0).f1) x5_1).f0), .int .i16 ((rd_T81 ((rd_T31 l0 0).f1) x5_1).f1), .int .i16 ((rd_T81 ((rd_T31 l0 0).f1) x5_1).f2)] 81 (0, 0)) (by (with_reducible repeat (first | refine blk_drewN ?_ _ | refine blk_drew ?_ | refine blk_alloc ?_ _)); refine blk_put (cs := #[.int .i8 ((rd_T81 ((rd_T31 l0 0).f1) x5_1).f0), .int .i16 ((rd_T81 ((rd_T31 l0 0).f1) x5_1).f1), .int .i16 0]) ?_ 2 _ rfl; (with_reducible repeat (first | refine blk_drewN ?_ _ | refine blk_drew ?_ | refine blk_alloc ?_ _)); refine blk_put (cs := #[.int .i8 ((rd_T81 ((rd_T31 l0 0).f1) x5_1).f0), .int .i16 0, .int .i16 0]) ?_ 1 _ rfl; (with_reducible repeat (first | refine blk_drewN ?_ _ | refine blk_drew ?_ | refine blk_alloc ?_ _)); refine blk_put (cs := #[.int .i8 0, .int .i16 0, .int .i16 0]) ?_ 0 _ rfl; (with_reducible repeat (first | refine blk_drewN ?_ _ | refine blk_drew ?_ | refine blk_alloc ?_ _)); exact BK168.out) hg (Kd.R_ne HO_4.out BK168.out (by decide))); have n1_ := Aside0.mk (hb); have n2_ := Aside0.mk (ho); clear BK168; clear HB; clear HO_4; have BK168 := n0_; have HB := n1_; have HO178 := n2_; clear n0_ n1_ n2_; clear ho hb hg hat)); try go_wp2_with (first | ((with_reducible refine gate_dst (N := 6) rfl ?_); refine box_event ?hg (N := 6) ?hd (cs := #[.int .i8 0, .int .i16 0, .int .i16 0]) (t := 81) ?hr ?_; (case hd => rfl); (case hg => rfl); (case hr => first | (go_simp; done) | (go_simp; rfl)); intro gb168 hg w21 hbox hb; have n0_ := Aside0.mk (Kd.R_below (by (with_reducible repeat (first | apply Kd.R_alloc | apply Kd.R_drewN | apply Kd.R_drew)); exact HO_4.out) hb); have n1_ := Aside0.mk (below_step (by repeat (first | (with_reducible first | exact HB.out | apply below_alloc | apply pw_below_drewN | apply below_drew1) | exact HB.out)) hb); have n2_ := Aside0.mk (hbox); have n3_ := Aside0.mk ((by rw [hg]; exact (below_size (by repeat (first | (with_reducible first | exact HB.out | apply below_alloc | apply pw_below_drewN | apply below_drew1) | exact HB.out))) : w.heap.size ≤ gb168)); have n4_ := Aside0.mk ((by rw [hg]; exact (below_size (by repeat (first | (with_reducible first | exact HB.out | apply below_alloc | apply pw_below_drewN | apply below_drew1) | exact HB.out))) : w.heap.size ≤ gb168)); clear HO_4; clear HB; have HO_4 := n0_; have HB := n1_; have BK168 := n2_; have GW168 := n3_; have GE168 := n4_; clear n0_ n1_ n2_ n3_ n4_; clear hb hbox hg; have hcz22_0 : w21.cell? ⟨gb168, 0, none⟩ = some (.int .i8 0) := (blk_cell BK168.out 0).trans rfl; have hcz22_1 : w21.cell? ⟨gb168, 1, none⟩ = some (.int .i16 0) := (blk_cell BK168.out 1).trans rfl; have hcz22_2 : w21.cell? ⟨gb168, 2, none⟩ = some (.int .i16 0) := (blk_cell BK168.out 2).trans rfl; have hfz22_0 := blk_frozen BK168.out 0; have hfz22_1 := blk_frozen BK168.out 1; have hfz22_2 := blk_frozen BK168.out 2; obtain ⟨Ao23, co23, eo23⟩ := Kd.R_slice HO_4.out; subst eo23; have p174 : 0 ≤ (((rd_T81 ((rd_T31 l0 0).f1) x5_1).f1) : Int) := of_decide_eq_true (by first | (with_reducible assumption) | assumption); have q174 : ((rd_T81 ((rd_T31 l0 0).f1) x5_1).f1) < (x4_1.length : Int) := of_decide_eq_true (by first | (with_reducible assumption) | assumption); obtain ⟨ad174, e174, hx174_0⟩ := Kd.at_int (Kd.R_reads' HO_4.out).2.2 ((rd_T81 ((rd_T31 l0 0).f1) x5_1).f1) p174 q174; cases e174; have hn174_0 : ad174.block ≠ gb168 := Kd.own_blk (Kd.R_ne HO_4.out BK168.out (by decide)); have hn174_1 : ad174.block ≠ gb168 := Kd.own_blk (Kd.R_ne HO_4.out BK168.out (by decide)); have hn174_2 : ad174.block ≠ gb168 := Kd.own_blk (Kd.R_ne HO_4.out BK168.out (by decide)); replace hx174_0 := (cell_far (p := ⟨gb168, 0, none⟩) (by first | (rw [add_block]; exact hn174_0) | (show (Addr.add _ _).block ≠ _; rw [add_block]; exact hn174_0) | exact hn174_0) (.int .i8 ((rd_T81 ((rd_T31 l0 0).f1) x5_1).f0))).trans hx174_0; replace hx174_0 := (cell_far (p := ⟨gb168, 1, none⟩) (by first | (rw [add_block]; exact hn174_1) | (show (Addr.add _ _).block ≠ _; rw [add_block]; exact hn174_1) | exact hn174_1) (.int .i16 ((rd_T81 ((rd_T31 l0 0).f1) x5_1).f1))).trans hx174_0; replace hx174_0 := (cell_far (p := ⟨gb168, 2, none⟩) (by first | (rw [add_block]; exact hn174_2) | (show (Addr.add _ _).block ≠ _; rw [add_block]; exact hn174_2) | exact hn174_2) (.int .i16 ((rd_T81 ((rd_T31 l0 0).f1) x5_1).f2))).trans hx174_0; (try have hy174_0 := fun (n_ : Nat) => (show (((((w21.drewN n_).setCell ⟨gb168, 0, none⟩ (.int .i8 ((rd_T81 ((rd_T31 l0 0).f1) x5_1).f0))).setCell ⟨gb168, 1, none⟩ (.int .i16 ((rd_T81 ((rd_T31 l0 0).f1) x5_1).f1))).setCell ⟨gb168, 2, none⟩ (.int .i16 ((rd_T81 ((rd_T31 l0 0).f1) x5_1).f2)))).cell? _ = some _ from hx174_0)); clear hn174_0; clear hn174_1; clear hn174_2; replace p174 := eq_true p174; replace q174 := eq_true q174; have p175 : 0 ≤ (((rd_T81 ((rd_T31 l0 0).f1) x5_1).f2) : Int) := of_decide_eq_true (by first | (with_reducible assumption) | assumption); have q175 : ((rd_T81 ((rd_T31 l0 0).f1) x5_1).f2) < (x4_1.length : Int) := of_decide_eq_true (by first | (with_reducible assumption) | assumption); obtain ⟨ad175, e175, hx175_0⟩ := Kd.at_int (Kd.R_reads' HO_4.out).2.2 ((rd_T81 ((rd_T31 l0 0).f1) x5_1).f2) p175 q175; obtain rfl : ad174 = ad175 := (by injection e175); have hn175_0 : ad174.block ≠ gb168 := Kd.own_blk (Kd.R_ne HO_4.out BK168.out (by decide)); have hn175_1 : ad174.block ≠ gb168 := Kd.own_blk (Kd.R_ne HO_4.out BK168.out (by decide)); have hn175_2 : ad174.block ≠ gb168 := Kd.own_blk (Kd.R_ne HO_4.out BK168.out (by decide)); replace hx175_0 := (cell_far (p := ⟨gb168, 0, none⟩) (by first | (rw [add_block]; exact hn175_0) | (show (Addr.add _ _).block ≠ _; rw [add_block]; exact hn175_0) | exact hn175_0) (.int .i8 ((rd_T81 ((rd_T31 l0 0).f1) x5_1).f0))).trans hx175_0; replace hx175_0 := (cell_far (p := ⟨gb168, 1, none⟩) (by first | (rw [add_block]; exact hn175_1) | (show (Addr.add _ _).block ≠ _; rw [add_block]; exact hn175_1) | exact hn175_1) (.int .i16 ((rd_T81 ((rd_T31 l0 0).f1) x5_1).f1))).trans hx175_0; replace hx175_0 := (cell_far (p := ⟨gb168, 2, none⟩) (by first | (rw [add_block]; exact hn175_2) | (show (Addr.add _ _).block ≠ _; rw [add_block]; exact hn175_2) | exact hn175_2) (.int .i16 ((rd_T81 ((rd_T31 l0 0).f1) x5_1).f2))).trans hx175_0; (try have hy175_0 := fun (n_ : Nat) => (show (((((w21.drewN n_).setCell ⟨gb168, 0, none⟩ (.int .i8 ((rd_T81 ((rd_T31 l0 0).f1) x5_1).f0))).setCell ⟨gb168, 1, none⟩ (.int .i16 ((rd_T81 ((rd_T31 l0 0).f1) x5_1).f1))).setCell ⟨gb168, 2, none⟩ (.int .i16 ((rd_T81 ((rd_T31 l0 0).f1) x5_1).f2)))).cell? _ = some _ from hx175_0)); clear hn175_0; clear hn175_1; clear hn175_2; replace p175 := eq_true p175; replace q175 := eq_true q175) | ((with_reducible refine gate_builtin (b := .append) (xs := #[.tmp 71, .tmp 73]) rfl ?_); at_builtin; refine Kd.R_append (Kd.int .u64) (w0 := w) w.heap.size rfl (.tmp 71) (.tmp 73) 53 98 (.int .u64 0) 8 rfl Try.underlying53 info98 rfl (by decide) (by omega) (.slice (some ad174) x4_1.length co23) x4_1 (Go.bits .or .u64 (rd x4_1 ((rd_T81 ((rd_T31 l0 0).f1) x5_1).f1)) (rd x4_1 ((rd_T81 ((rd_T31 l0 0).f1) x5_1).f2))) [.int .u64 (Go.bits .or .u64 (rd x4_1 ((rd_T81 ((rd_T31 l0 0).f1) x5_1).f1)) (rd x4_1 ((rd_T81 ((rd_T31 l0 0).f1) x5_1).f2)))] (fun _ => True) (fun _ => False) rfl (by first | (go_simp; done) | (go_simp; rfl)) ?aP (fun _ hk => hk.elim) ?aF ?aO ?aB ?aS ?aL ?_; (case aP => exact rfl); (case aB => exact (by repeat (first | (with_reducible first | exact HB.out | apply below_alloc | apply pw_below_drewN | apply below_drew1 | refine below_set ?_ GE168.out) | exact HB.out))); (case aF => exact (fun _ _ => trivial)); (case aO => exact (by (with_reducible repeat (first | apply Kd.R_alloc | apply Kd.R_drewN | apply Kd.R_drew)); exact Kd.R_mono (Kd.R_far (p := ⟨gb168, 2, none⟩) (Kd.R_far (p := ⟨gb168, 1, none⟩) (Kd.R_far (p := ⟨gb168, 0, none⟩) (Kd.R_types HO_4.out BK168.out (by decide)) (fun _ hk => hk.2) (.int .i8 ((rd_T81 ((rd_T31 l0 0).f1) x5_1).f0))) (fun _ hk => hk.2) (.int .i16 ((rd_T81 ((rd_T31 l0 0).f1) x5_1).f1))) (fun _ hk => hk.2) (.int .i16 ((rd_T81 ((rd_T31 l0 0).f1) x5_1).f2))) (fun _ hk => trivial))); (case aS => exact (below_size (by repeat (first | (with_reducible first | exact HB.out | apply below_alloc | apply pw_below_drewN | apply below_drew1 | refine below_set ?_ GE168.out) | exact HB.out)))); (case aL => have := LMc20.out; omega); intro v177 w24 ho hb hg hat; rw [← Ny176.out] at ho; have n0_ := Aside0.mk (blk_grown (g := gb168) (o := .cells #[.int .i8 ((rd_T81 ((rd_T31 l0 0).f1) x5_1).f0), .int .i16 ((rd_T81 ((rd_T31 l0 0).f1) x5_1).f1), .int .i16 ((rd_T81 ((rd_T31 l0 0).f1) x5_1).f2)] 81 (0, 0)) (by (with_reducible repeat (first | refine blk_drewN ?_ _ | refine blk_drew ?_ | refine blk_alloc ?_ _)); refine blk_put (cs := #[.int .i8 ((rd_T81 ((rd_T31 l0 0).f1) x5_1).f0), .int .i16 ((rd_T81 ((rd_T31 l0 0).f1) x5_1).f1), .int .i16 0]) ?_ 2 _ rfl; (with_reducible repeat (first | refine blk_drewN ?_ _ | refine blk_drew ?_ | refine blk_alloc ?_ _)); refine blk_put (cs := #[.int .i8 ((rd_T81 ((rd_T31 l0 0).f1) x5_1).f0), .int .i16 0, .int .i16 0]) ?_ 1 _ rfl; (with_reducible repeat (first | refine blk_drewN ?_ _ | refine blk_drew ?_ | refine blk_alloc ?_ _)); refine blk_put (cs := #[.int .i8 0, .int .i16 0, .int .i16 0]) ?_ 0 _ rfl; (with_reducible repeat (first | refine blk_drewN ?_ _ | refine blk_drew ?_ | refine blk_alloc ?_ _)); exact BK168.out) hg (Kd.R_ne HO_4.out BK168.out (by decide))); have n1_ := Aside0.mk (hb); have n2_ := Aside0.mk (ho); clear BK168; clear HB; clear HO_4; have BK168 := n0_; have HB := n1_; have HO178 := n2_; clear n0_ n1_ n2_; clear ho hb hg hat)))
                            go_roundg k1
                            case measure => have := HK1.out; omega
                            case rel => exact ⟨(y176), (wrap64 (x5_1 + 1)), (by first | rfl | (simp; done) | (simp [*]; done) | (exact congrArg (Value.int .i64) (wrap_eq (by omega)))), H', ⟨by have := HK1.out; omega⟩, ⟨by (with_reducible repeat (first | apply Kd.R_alloc | apply Kd.R_drewN | apply Kd.R_drew)); exact HO178.out⟩, ⟨by repeat (first | (with_reducible first | exact HB.out | apply below_alloc | apply pw_below_drewN | apply below_drew1 | refine below_set ?_ GE168.out) | exact HB.out)⟩⟩
                          · rw [if_neg c20] at H
                            exact absurd H (by simp)
                        · rw [if_neg c19] at H
                          exact absurd H (by simp)
                      · rw [if_neg c18] at H
                        exact absurd H (by simp)
                    · rw [if_neg c17] at H
                      exact absurd H (by simp)
                  · rw [if_neg c16] at H
                    exact absurd H (by simp)
                · rw [if_neg c15] at H
                  have c15b0 : (((rd_T81 ((rd_T31 l0 0).f1) x5_1).f0) == 2) = false := beq_eq_false_iff_ne.mpr c15
                  have c15b1 : (((rd_T81 ((rd_T31 l0 0).f1) x5_1).f0) != 2) = true := bne_iff_ne.mpr c15
                  by_cases c25 : ((rd_T81 ((rd_T31 l0 0).f1) x5_1).f0) = 3
                  · rw [if_pos c25] at H
                    have c25b0 : (((rd_T81 ((rd_T31 l0 0).f1) x5_1).f0) == 3) = true := beq_iff_eq.mpr c25
                    have c25b1 : (((rd_T81 ((rd_T31 l0 0).f1) x5_1).f0) != 3) = false := bne_eq_false_iff_eq.mpr c25
                    clear c25
                    by_cases c26 : 0 ≤ ((rd_T81 ((rd_T31 l0 0).f1) x5_1).f1)
                    · rw [if_pos c26] at H
                      have c26b0 : decide (0 ≤ ((rd_T81 ((rd_T31 l0 0).f1) x5_1).f1)) = true := decide_eq_true c26
                      clear c26
                      by_cases c27 : ((rd_T81 ((rd_T31 l0 0).f1) x5_1).f1) < (x4_1.length : Int)
                      · rw [if_pos c27] at H
                        have c27b0 : decide (((rd_T81 ((rd_T31 l0 0).f1) x5_1).f1) < (x4_1.length : Int)) = true := decide_eq_true c27
                        clear c27
                        by_cases c28 : 0 ≤ ((rd_T81 ((rd_T31 l0 0).f1) x5_1).f2)
                        · rw [if_pos c28] at H
                          have c28b0 : decide (0 ≤ ((rd_T81 ((rd_T31 l0 0).f1) x5_1).f2)) = true := decide_eq_true c28
                          clear c28
                          by_cases c29 : ((rd_T81 ((rd_T31 l0 0).f1) x5_1).f2) < (x4_1.length : Int)
                          · rw [if_pos c29] at H
                            have c29b0 : decide (((rd_T81 ((rd_T31 l0 0).f1) x5_1).f2) < (x4_1.length : Int)) = true := decide_eq_true c29
                            clear c29
                            by_cases c30 : x4_1.length < 17592186044416
                            · rw [if_pos c30] at H
                              have LMc30 := Aside0.mk c30
                              clear c30
                              obtain ⟨y181, hy181⟩ : ∃ y_ : List Int, y_ = (x4_1 ++ [Go.bits .andNot .u64 (rd x4_1 ((rd_T81 ((rd_T31 l0 0).f1) x5_1).f1)) (rd x4_1 ((rd_T81 ((rd_T31 l0 0).f1) x5_1).f2))]) := ⟨_, rfl⟩
                              replace H : (spec_l04Tables.l0 k1 l0 t161 y181 (wrap64 (x5_1 + 1))) = some r := by first | (rw [hy181]; with_reducible exact H) | (have H2_ := (Option.bind_some _ _).symm.trans H; rw [hy181]; with_reducible exact H2_) | (have H2_ := (Option.bind_some _ _).symm.trans H; with_reducible exact H2_) | with_reducible exact H | (rw [hy181]; exact H) | exact H
                              have Ny181 := Aside0.mk hy181
                              clear hy181
                              have H' := Aside0.mk H
                              clear H
                              have p165 : 0 ≤ (0 : Int) := (by omega)
                              have q165 : 0 < (l0.length : Int) := of_decide_eq_true (by first | (with_reducible assumption) | assumption)
                              obtain ⟨ad165, A165_1, c165_1, A165_2, c165_2, e165, hx165_0, hx165_1, hx165_2, hl165_1, hi165_1, hl165_2, hi165_2⟩ := at_T31 HR0.out 0 p165 q165
                              obtain rfl : adp0 = ad165 := (by injection e165)
                              have qi165 : (0 < l0.length) = True := eq_true (by omega)
                              (try rw [show ((0 : Int)).toNat = 0 from rfl] at hx165_0)
                              (try rw [show 0 * 3 = 0 from rfl] at hx165_0)
                              (try rw [Addr.add_zero'] at hx165_0)
                              (try rw [show ((0 : Int)).toNat = 0 from rfl] at hx165_1)
                              (try rw [show 0 * 3 = 0 from rfl] at hx165_1)
                              (try rw [Addr.add_zero'] at hx165_1)
                              (try rw [show ((0 : Int)).toNat = 0 from rfl] at hx165_2)
                              (try rw [show 0 * 3 = 0 from rfl] at hx165_2)
                              (try rw [Addr.add_zero'] at hx165_2)
                              replace hx165_0 := (HB.out.cell (World.block_lt_of_cell? w _ hx165_0)).trans hx165_0
                              replace hx165_1 := (HB.out.cell (World.block_lt_of_cell? w _ hx165_1)).trans hx165_1
                              replace hx165_2 := (HB.out.cell (World.block_lt_of_cell? w _ hx165_2)).trans hx165_2
                              have HR165_1 := Aside0.mk hi165_1
                              have HC165_1 := Aside0.mk hl165_1
                              clear hi165_1 hl165_1
                              have HR165_2 := Aside0.mk hi165_2
                              have HC165_2 := Aside0.mk hl165_2
                              clear hi165_2 hl165_2
                              replace p165 := eq_true p165
                              replace q165 := eq_true q165
                              have p166 : 0 ≤ (0 : Int) := (by omega)
                              have q166 : 0 < (l0.length : Int) := of_decide_eq_true (by first | (with_reducible assumption) | assumption)
                              obtain ⟨ad166, A166_1, c166_1, A166_2, c166_2, e166, hx166_0, hx166_1, hx166_2, hl166_1, hi166_1, hl166_2, hi166_2⟩ := at_T31 HR0.out 0 p166 q166
                              obtain rfl : adp0 = ad166 := (by injection e166)
                              have qi166 : (0 < l0.length) = True := eq_true (by omega)
                              (try rw [show ((0 : Int)).toNat = 0 from rfl] at hx166_0)
                              (try rw [show 0 * 3 = 0 from rfl] at hx166_0)
                              (try rw [Addr.add_zero'] at hx166_0)
                              (try rw [show ((0 : Int)).toNat = 0 from rfl] at hx166_1)
                              (try rw [show 0 * 3 = 0 from rfl] at hx166_1)
                              (try rw [Addr.add_zero'] at hx166_1)
                              (try rw [show ((0 : Int)).toNat = 0 from rfl] at hx166_2)
                              (try rw [show 0 * 3 = 0 from rfl] at hx166_2)
                              (try rw [Addr.add_zero'] at hx166_2)
                              replace hx166_0 := (HB.out.cell (World.block_lt_of_cell? w _ hx166_0)).trans hx166_0
                              replace hx166_1 := (HB.out.cell (World.block_lt_of_cell? w _ hx166_1)).trans hx166_1
                              replace hx166_2 := (HB.out.cell (World.block_lt_of_cell? w _ hx166_2)).trans hx166_2
                              have HR166_1 := Aside0.mk hi166_1
                              have HC166_1 := Aside0.mk hl166_1
                              clear hi166_1 hl166_1
                              have HR166_2 := Aside0.mk hi166_2
                              have HC166_2 := Aside0.mk hl166_2
                              clear hi166_2 hl166_2
                              replace p166 := eq_true p166
                              replace q166 := eq_true q166
                              have ea_ := Option.some.inj (hx165_1.symm.trans hx166_1)
                              injection ea_ with ea_ en_ ec_
                              subst ea_
                              subst ec_
                              clear en_
                              have ea_ := Option.some.inj (hx165_2.symm.trans hx166_2)
                              injection ea_ with ea_ en_ ec_
                              subst ea_
                              subst ec_
                              clear en_
                              have p167 : 0 ≤ (x5_1 : Int) := of_decide_eq_true (by first | (with_reducible assumption) | assumption)
                              have q167 : x5_1 < (((rd_T31 l0 0).f1).length : Int) := of_decide_eq_true (by first | (with_reducible assumption) | assumption)
                              obtain ⟨ad167, e167, hx167_0, hx167_1, hx167_2⟩ := at_T81 HR166_1.out x5_1 p167 q167
                              cases e167
                              replace hx167_0 := (HB.out.cell (World.block_lt_of_cell? w _ hx167_0)).trans hx167_0
                              replace hx167_1 := (HB.out.cell (World.block_lt_of_cell? w _ hx167_1)).trans hx167_1
                              replace hx167_2 := (HB.out.cell (World.block_lt_of_cell? w _ hx167_2)).trans hx167_2
                              replace p167 := eq_true p167
                              replace q167 := eq_true q167
                              go_wp2_with (first | ((with_reducible refine gate_dst (N := 6) rfl ?_); refine box_event ?hg (N := 6) ?hd (cs := #[.int .i8 0, .int .i16 0, .int .i16 0]) (t := 81) ?hr ?_; (case hd => rfl); (case hg => rfl); (case hr => first | (go_simp; done) | (go_simp; rfl)); intro gb168 hg w31 hbox hb; have n0_ := Aside0.mk (Kd.R_below (by (with_reducible repeat (first | apply Kd.R_alloc | apply Kd.R_drewN | apply Kd.R_drew)); exact HO_4.out) hb); have n1_ := Aside0.mk (below_step (by repeat (first | (with_reducible first | exact HB.out | apply below_alloc | apply pw_below_drewN | apply below_drew1) | exact HB.out)) hb); have n2_ := Aside0.mk (hbox); have n3_ := Aside0.mk ((by rw [hg]; exact (below_size (by repeat (first | (with_reducible first | exact HB.out | apply below_alloc | apply pw_below_drewN | apply below_drew1) | exact HB.out))) : w.heap.size ≤ gb168)); have n4_ := Aside0.mk ((by rw [hg]; exact (below_size (by repeat (first | (with_reducible first | exact HB.out | apply below_alloc | apply pw_below_drewN | apply below_drew1) | exact HB.out))) : w.heap.size ≤ gb168)); clear HO_4; clear HB; have HO_4 := n0_; have HB := n1_; have BK168 := n2_; have GW168 := n3_; have GE168 := n4_; clear n0_ n1_ n2_ n3_ n4_; clear hb hbox hg; have hcz32_0 : w31.cell? ⟨gb168, 0, none⟩ = some (.int .i8 0) := (blk_cell BK168.out 0).trans rfl; have hcz32_1 : w31.cell? ⟨gb168, 1, none⟩ = some (.int .i16 0) := (blk_cell BK168.out 1).trans rfl; have hcz32_2 : w31.cell? ⟨gb168, 2, none⟩ = some (.int .i16 0) := (blk_cell BK168.out 2).trans rfl; have hfz32_0 := blk_frozen BK168.out 0; have hfz32_1 := blk_frozen BK168.out 1; have hfz32_2 := blk_frozen BK168.out 2; obtain ⟨Ao33, co33, eo33⟩ := Kd.R_slice HO_4.out; subst eo33; have p179 : 0 ≤ (((rd_T81 ((rd_T31 l0 0).f1) x5_1).f1) : Int) := of_decide_eq_true (by first | (with_reducible assumption) | assumption); have q179 : ((rd_T81 ((rd_T31 l0 0).f1) x5_1).f1) < (x4_1.length : Int) := of_decide_eq_true (by first | (with_reducible assumption) | assumption); obtain ⟨ad179, e179, hx179_0⟩ := Kd.at_int (Kd.R_reads' HO_4.out).2.2 ((rd_T81 ((rd_T31 l0 0).f1) x5_1).f1) p179 q179; cases e179; have hn179_0 : ad179.block ≠ gb168 := Kd.own_blk (Kd.R_ne HO_4.out BK168.out (by decide)); have hn179_1 : ad179.block ≠ gb168 := Kd.own_blk (Kd.R_ne HO_4.out BK168.out (by decide)); have hn179_2 : ad179.block ≠ gb168 := Kd.own_blk (Kd.R_ne HO_4.out BK168.out (by decide)); replace hx179_0 := (cell_far (p := ⟨gb168, 0, none⟩) (by first | (rw [add_block]; exact hn179_0) | (show (Addr.add _ _).block ≠ _; rw [add_block]; exact hn179_0) | exact hn179_0) (.int .i8 ((rd_T81 ((rd_T31 l0 0).f1) x5_1).f0))).trans hx179_0; replace hx179_0 := (cell_far (p := ⟨gb168, 1, none⟩) (by first | (rw [add_block]; exact hn179_1) | (show (Addr.add _ _).block ≠ _; rw [add_block]; exact hn179_1) | exact hn179_1) (.int .i16 ((rd_T81 ((rd_T31 l0 0).f1) x5_1).f1))).trans hx179_0; replace hx179_0 := (cell_far (p := ⟨gb168, 2, none⟩) (by first | (rw [add_block]; exact hn179_2) | (show (Addr.add _ _).block ≠ _; rw [add_block]; exact hn179_2) | exact hn179_2) (.int .i16 ((rd_T81 ((rd_T31 l0 0).f1) x5_1).f2))).trans hx179_0; (try have hy179_0 := fun (n_ : Nat) => (show (((((w31.drewN n_).setCell ⟨gb168, 0, none⟩ (.int .i8 ((rd_T81 ((rd_T31 l0 0).f1) x5_1).f0))).setCell ⟨gb168, 1, none⟩ (.int .i16 ((rd_T81 ((rd_T31 l0 0).f1) x5_1).f1))).setCell ⟨gb168, 2, none⟩ (.int .i16 ((rd_T81 ((rd_T31 l0 0).f1) x5_1).f2)))).cell? _ = some _ from hx179_0)); clear hn179_0; clear hn179_1; clear hn179_2; replace p179 := eq_true p179; replace q179 := eq_true q179; have p180 : 0 ≤ (((rd_T81 ((rd_T31 l0 0).f1) x5_1).f2) : Int) := of_decide_eq_true (by first | (with_reducible assumption) | assumption); have q180 : ((rd_T81 ((rd_T31 l0 0).f1) x5_1).f2) < (x4_1.length : Int) := of_decide_eq_true (by first | (with_reducible assumption) | assumption); obtain ⟨ad180, e180, hx180_0⟩ := Kd.at_int (Kd.R_reads' HO_4.out).2.2 ((rd_T81 ((rd_T31 l0 0).f1) x5_1).f2) p180 q180; obtain rfl : ad179 = ad180 := (by injection e180); have hn180_0 : ad179.block ≠ gb168 := Kd.own_blk (Kd.R_ne HO_4.out BK168.out (by decide)); have hn180_1 : ad179.block ≠ gb168 := Kd.own_blk (Kd.R_ne HO_4.out BK168.out (by decide)); have hn180_2 : ad179.block ≠ gb168 := Kd.own_blk (Kd.R_ne HO_4.out BK168.out (by decide)); replace hx180_0 := (cell_far (p := ⟨gb168, 0, none⟩) (by first | (rw [add_block]; exact hn180_0) | (show (Addr.add _ _).block ≠ _; rw [add_block]; exact hn180_0) | exact hn180_0) (.int .i8 ((rd_T81 ((rd_T31 l0 0).f1) x5_1).f0))).trans hx180_0; replace hx180_0 := (cell_far (p := ⟨gb168, 1, none⟩) (by first | (rw [add_block]; exact hn180_1) | (show (Addr.add _ _).block ≠ _; rw [add_block]; exact hn180_1) | exact hn180_1) (.int .i16 ((rd_T81 ((rd_T31 l0 0).f1) x5_1).f1))).trans hx180_0; replace hx180_0 := (cell_far (p := ⟨gb168, 2, none⟩) (by first | (rw [add_block]; exact hn180_2) | (show (Addr.add _ _).block ≠ _; rw [add_block]; exact hn180_2) | exact hn180_2) (.int .i16 ((rd_T81 ((rd_T31 l0 0).f1) x5_1).f2))).trans hx180_0; (try have hy180_0 := fun (n_ : Nat) => (show (((((w31.drewN n_).setCell ⟨gb168, 0, none⟩ (.int .i8 ((rd_T81 ((rd_T31 l0 0).f1) x5_1).f0))).setCell ⟨gb168, 1, none⟩ (.int .i16 ((rd_T81 ((rd_T31 l0 0).f1) x5_1).f1))).setCell ⟨gb168, 2, none⟩ (.int .i16 ((rd_T81 ((rd_T31 l0 0).f1) x5_1).f2)))).cell? _ = some _ from hx180_0)); clear hn180_0; clear hn180_1; clear hn180_2; replace p180 := eq_true p180; replace q180 := eq_true q180) | ((with_reducible refine gate_builtin (b := .append) (xs := #[.tmp 71, .tmp 73]) rfl ?_); at_builtin; refine Kd.R_append (Kd.int .u64) (w0 := w) w.heap.size rfl (.tmp 71) (.tmp 73) 53 98 (.int .u64 0) 8 rfl Try.underlying53 info98 rfl (by decide) (by omega) (.slice (some ad179) x4_1.length co33) x4_1 (Go.bits .andNot .u64 (rd x4_1 ((rd_T81 ((rd_T31 l0 0).f1) x5_1).f1)) (rd x4_1 ((rd_T81 ((rd_T31 l0 0).f1) x5_1).f2))) [.int .u64 (Go.bits .andNot .u64 (rd x4_1 ((rd_T81 ((rd_T31 l0 0).f1) x5_1).f1)) (rd x4_1 ((rd_T81 ((rd_T31 l0 0).f1) x5_1).f2)))] (fun _ => True) (fun _ => False) rfl (by first | (go_simp; done) | (go_simp; rfl)) ?aP (fun _ hk => hk.elim) ?aF ?aO ?aB ?aS ?aL ?_; (case aP => exact rfl); (case aB => exact (by repeat (first | (with_reducible first | exact HB.out | apply below_alloc | apply pw_below_drewN | apply below_drew1 | refine below_set ?_ GE168.out) | exact HB.out))); (case aF => exact (fun _ _ => trivial)); (case aO => exact (by (with_reducible repeat (first | apply Kd.R_alloc | apply Kd.R_drewN | apply Kd.R_drew)); exact Kd.R_mono (Kd.R_far (p := ⟨gb168, 2, none⟩) (Kd.R_far (p := ⟨gb168, 1, none⟩) (Kd.R_far (p := ⟨gb168, 0, none⟩) (Kd.R_types HO_4.out BK168.out (by decide)) (fun _ hk => hk.2) (.int .i8 ((rd_T81 ((rd_T31 l0 0).f1) x5_1).f0))) (fun _ hk => hk.2) (.int .i16 ((rd_T81 ((rd_T31 l0 0).f1) x5_1).f1))) (fun _ hk => hk.2) (.int .i16 ((rd_T81 ((rd_T31 l0 0).f1) x5_1).f2))) (fun _ hk => trivial))); (case aS => exact (below_size (by repeat (first | (with_reducible first | exact HB.out | apply below_alloc | apply pw_below_drewN | apply below_drew1 | refine below_set ?_ GE168.out) | exact HB.out)))); (case aL => have := LMc30.out; omega); intro v182 w34 ho hb hg hat; rw [← Ny181.out] at ho; have n0_ := Aside0.mk (blk_grown (g := gb168) (o := .cells #[.int .i8 ((rd_T81 ((rd_T31 l0 0).f1) x5_1).f0), .int .i16 ((rd_T81 ((rd_T31 l0 0).f1) x5_1).f1), .int .i16 ((rd_T81 ((rd_T31 l0 0).f1) x5_1).f2)] 81 (0, 0)) (by (with_reducible repeat (first | refine blk_drewN ?_ _ | refine blk_drew ?_ | refine blk_alloc ?_ _)); refine blk_put (cs := #[.int .i8 ((rd_T81 ((rd_T31 l0 0).f1) x5_1).f0), .int .i16 ((rd_T81 ((rd_T31 l0 0).f1) x5_1).f1), .int .i16 0]) ?_ 2 _ rfl; (with_reducible repeat (first | refine blk_drewN ?_ _ | refine blk_drew ?_ | refine blk_alloc ?_ _)); refine blk_put (cs := #[.int .i8 ((rd_T81 ((rd_T31 l0 0).f1) x5_1).f0), .int .i16 0, .int .i16 0]) ?_ 1 _ rfl; (with_reducible repeat (first | refine blk_drewN ?_ _ | refine blk_drew ?_ | refine blk_alloc ?_ _)); refine blk_put (cs := #[.int .i8 0, .int .i16 0, .int .i16 0]) ?_ 0 _ rfl; (with_reducible repeat (first | refine blk_drewN ?_ _ | refine blk_drew ?_ | refine blk_alloc ?_ _)); exact BK168.out) hg (Kd.R_ne HO_4.out BK168.out (by decide))); have n1_ := Aside0.mk (hb); have n2_ := Aside0.mk (ho); clear BK168; clear HB; clear HO_4; have BK168 := n0_; have HB := n1_; have HO183 := n2_; clear n0_ n1_ n2_; clear ho hb hg hat))
                              repeat (go_quiet (first | ((with_reducible refine gate_dst (N := 6) rfl ?_); refine box_event ?hg (N := 6) ?hd (cs := #[.int .i8 0, .int .i16 0, .int .i16 0]) (t := 81) ?hr ?_; (case hd => rfl); (case hg => rfl); (case hr => first | (go_simp; done) | (go_simp; rfl)); intro gb168 hg w31 hbox hb; have n0_ := Aside0.mk (Kd.R_below (by (with_reducible repeat (first | apply Kd.R_alloc | apply Kd.R_drewN | apply Kd.R_drew)); exact HO_4.out) hb); have n1_ := Aside0.mk (below_step (by repeat (first | (with_reducible first | exact HB.out | apply below_alloc | apply pw_below_drewN | apply below_drew1) | exact HB.out)) hb); have n2_ := Aside0.mk (hbox); have n3_ := Aside0.mk ((by rw [hg]; exact (below_size (by repeat (first | (with_reducible first | exact HB.out | apply below_alloc | apply pw_below_drewN | apply below_drew1) | exact HB.out))) : w.heap.size ≤ gb168)); have n4_ := Aside0.mk ((by rw [hg]; exact (below_size (by repeat (first | (with_reducible first | exact HB.out | apply below_alloc | apply pw_below_drewN | apply below_drew1) | exact HB.out))) : w.heap.size ≤ gb168)); clear HO_4; clear HB; have HO_4 := n0_; have HB := n1_; have BK168 := n2_; have GW168 := n3_; have GE168 := n4_; clear n0_ n1_ n2_ n3_ n4_; clear hb hbox hg; have hcz32_0 : w31.cell? ⟨gb168, 0, none⟩ = some (.int .i8 0) := (blk_cell BK168.out 0).trans rfl; have hcz32_1 : w31.cell? ⟨gb168, 1, none⟩ = some (.int .i16 0) := (blk_cell BK168.out 1).trans rfl; have hcz32_2 : w31.cell? ⟨gb168, 2, none⟩ = some (.int .i16 0) := (blk_cell BK168.out 2).trans rfl; have hfz32_0 := blk_frozen BK168.out 0; have hfz32_1 := blk_frozen BK168.out 1; have hfz32_2 := blk_frozen BK168.out 2; obtain ⟨Ao33, co33, eo33⟩ := Kd.R_slice HO_4.out; subst eo33; have p179 : 0 ≤ (((rd_T81 ((rd_T31 l0 0).f1) x5_1).f1) : Int) := of_decide_eq_true (by first | (with_reducible assumption) | assumption); have q179 : ((rd_T81 ((rd_T31 l0 0).f1) x5_1).f1) < (x4_1.length : Int) := of_decide_eq_true (by first | (with_reducible assumption) | assumption); obtain ⟨ad179, e179, hx179_0⟩ := Kd.at_int (Kd.R_reads' HO_4.out).2.2 ((rd_T81 ((rd_T31 l0 0).f1) x5_1).f1) p179 q179; cases e179; have hn179_0 : ad179.block ≠ gb168 := Kd.own_blk (Kd.R_ne HO_4.out BK168.out (by decide)); have hn179_1 : ad179.block ≠ gb168 := Kd.own_blk (Kd.R_ne HO_4.out BK168.out (by decide)); have hn179_2 : ad179.block ≠ gb168 := Kd.own_blk (Kd.R_ne HO_4.out BK168.out (by decide)); replace hx179_0 := (cell_far (p := ⟨gb168, 0, none⟩) (by first | (rw [add_block]; exact hn179_0) | (show (Addr.add _ _).block ≠ _; rw [add_block]; exact hn179_0) | exact hn179_0) (.int .i8 ((rd_T81 ((rd_T31 l0 0).f1) x5_1).f0))).trans hx179_0; replace hx179_0 := (cell_far (p := ⟨gb168, 1, none⟩) (by first | (rw [add_block]; exact hn179_1) | (show (Addr.add _ _).block ≠ _; rw [add_block]; exact hn179_1) | exact hn179_1) (.int .i16 ((rd_T81 ((rd_T31 l0 0).f1) x5_1).f1))).trans hx179_0; replace hx179_0 := (cell_far (p := ⟨gb168, 2, none⟩) (by first | (rw [add_block]; exact hn179_2) | (show (Addr.add _ _).block ≠ _; rw [add_block]; exact hn179_2) | exact hn179_2) (.int .i16 ((rd_T81 ((rd_T31 l0 0).f1) x5_1).f2))).trans hx179_0; (try have hy179_0 := fun (n_ : Nat) => (show (((((w31.drewN n_).setCell ⟨gb168, 0, none⟩ (.int .i8 ((rd_T81 ((rd_T31 l0 0).f1) x5_1).f0))).setCell ⟨gb168, 1, none⟩ (.int .i16 ((rd_T81 ((rd_T31 l0 0).f1) x5_1).f1))).setCell ⟨gb168, 2, none⟩ (.int .i16 ((rd_T81 ((rd_T31 l0 0).f1) x5_1).f2)))).cell? _ = some _ from hx179_0)); clear hn179_0; clear hn179_1; clear hn179_2; replace p179 := eq_true p179; replace q179 := eq_true q179; have p180 : 0 ≤ (((rd_T81 ((rd_T31 l0 0).f1) x5_1).f2) : Int) := of_decide_eq_true (by first | (with_reducible assumption) | assumption); have q180 : ((rd_T81 ((rd_T31 l0 0).f1) x5_1).f2) < (x4_1.length : Int) := of_decide_eq_true (by first | (with_reducible assumption) | assumption); obtain ⟨ad180, e180, hx180_0⟩ := Kd.at_int (Kd.R_reads' HO_4.out).2.2 ((rd_T81 ((rd_T31 l0 0).f1) x5_1).f2) p180 q180; obtain rfl : ad179 = ad180 := (by injection e180); have hn180_0 : ad179.block ≠ gb168 := Kd.own_blk (Kd.R_ne HO_4.out BK168.out (by decide)); have hn180_1 : ad179.block ≠ gb168 := Kd.own_blk (Kd.R_ne HO_4.out BK168.out (by decide)); have hn180_2 : ad179.block ≠ gb168 := Kd.own_blk (Kd.R_ne HO_4.out BK168.out (by decide)); replace hx180_0 := (cell_far (p := ⟨gb168, 0, none⟩) (by first | (rw [add_block]; exact hn180_0) | (show (Addr.add _ _).block ≠ _; rw [add_block]; exact hn180_0) | exact hn180_0) (.int .i8 ((rd_T81 ((rd_T31 l0 0).f1) x5_1).f0))).trans hx180_0; replace hx180_0 := (cell_far (p := ⟨gb168, 1, none⟩) (by first | (rw [add_block]; exact hn180_1) | (show (Addr.add _ _).block ≠ _; rw [add_block]; exact hn180_1) | exact hn180_1) (.int .i16 ((rd_T81 ((rd_T31 l0 0).f1) x5_1).f1))).trans hx180_0; replace hx180_0 := (cell_far (p := ⟨gb168, 2, none⟩) (by first | (rw [add_block]; exact hn180_2) | (show (Addr.add _ _).block ≠ _; rw [add_block]; exact hn180_2) | exact hn180_2) (.int .i16 ((rd_T81 ((rd_T31 l0 0).f1) x5_1).f2))).trans hx180_0; (try have hy180_0 := fun (n_ : Nat) => (show (((((w31.drewN n_).setCell ⟨gb168, 0, none⟩ (.int .i8 ((rd_T81 ((rd_T31 l0 0).f1) x5_1).f0))).setCell ⟨gb168, 1, none⟩ (.int .i16 ((rd_T81 ((rd_T31 l0 0).f1) x5_1).f1))).setCell ⟨gb168, 2, none⟩ (.int .i16 ((rd_T81 ((rd_T31 l0 0).f1) x5_1).f2)))).cell? _ = some _ from hx180_0)); clear hn180_0; clear hn180_1; clear hn180_2; replace p180 := eq_true p180; replace q180 := eq_true q180) | ((with_reducible refine gate_builtin (b := .append) (xs := #[.tmp 71, .tmp 73]) rfl ?_); at_builtin; refine Kd.R_append (Kd.int .u64) (w0 := w) w.heap.size rfl (.tmp 71) (.tmp 73) 53 98 (.int .u64 0) 8 rfl Try.underlying53 info98 rfl (by decide) (by omega) (.slice (some ad179) x4_1.length co33) x4_1 (Go.bits .andNot .u64 (rd x4_1 ((rd_T81 ((rd_T31 l0 0).f1) x5_1).f1)) (rd x4_1 ((rd_T81 ((rd_T31 l0 0).f1) x5_1).f2))) [.int .u64 (Go.bits .andNot .u64 (rd x4_1 ((rd_T81 ((rd_T31 l0 0).f1) x5_1).f1)) (rd x4_1 ((rd_T81 ((rd_T31 l0 0).f1) x5_1).f2)))] (fun _ => True) (fun _ => False) rfl (by first | (go_simp; done) | (go_simp; rfl)) ?aP (fun _ hk => hk.elim) ?aF ?aO ?aB ?aS ?aL ?_; (case aP => exact rfl); (case aB => exact (by repeat (first | (with_reducible first | exact HB.out | apply below_alloc | apply pw_below_drewN | apply below_drew1 | refine below_set ?_ GE168.out) | exact HB.out))); (case aF => exact (fun _ _ => trivial)); (case aO => exact (by (with_reducible repeat (first | apply Kd.R_alloc | apply Kd.R_drewN | apply Kd.R_drew)); exact Kd.R_mono (Kd.R_far (p := ⟨gb168, 2, none⟩) (Kd.R_far (p := ⟨gb168, 1, none⟩) (Kd.R_far (p := ⟨gb168, 0, none⟩) (Kd.R_types HO_4.out BK168.out (by decide)) (fun _ hk => hk.2) (.int .i8 ((rd_T81 ((rd_T31 l0 0).f1) x5_1).f0))) (fun _ hk => hk.2) (.int .i16 ((rd_T81 ((rd_T31 l0 0).f1) x5_1).f1))) (fun _ hk => hk.2) (.int .i16 ((rd_T81 ((rd_T31 l0 0).f1) x5_1).f2))) (fun _ hk => trivial))); (case aS => exact (below_size (by repeat (first | (with_reducible first | exact HB.out | apply below_alloc | apply pw_below_drewN | apply below_drew1 | refine below_set ?_ GE168.out) | exact HB.out)))); (case aL => have := LMc30.out; omega); intro v182 w34 ho hb hg hat; rw [← Ny181.out] at ho; have n0_ := Aside0.mk (blk_grown (g := gb168) (o := .cells #[.int .i8 ((rd_T81 ((rd_T31 l0 0).f1) x5_1).f0), .int .i16 ((rd_T81 ((rd_T31 l0 0).f1) x5_1).f1), .int .i16 ((rd_T81 ((rd_T31 l0 0).f1) x5_1).f2)] 81 (0, 0)) (by (with_reducible repeat (first | refine blk_drewN ?_ _ | refine blk_drew ?_ | refine blk_alloc ?_ _)); refine blk_put (cs := #[.int .i8 ((rd_T81 ((rd_T31 l0 0).f1) x5_1).f0), .int .i16 ((rd_T81 ((rd_T31 l0 0).f1) x5_1).f1), .int .i16 0]) ?_ 2 _ rfl; (with_reducible repeat (first | refine blk_drewN ?_ _ | refine blk_drew ?_ | refine blk_alloc ?_ _)); refine blk_put (cs := #[.int .i8 ((rd_T81 ((rd_T31 l0 0).f1) x5_1).f0), .int .i16 0, .int .i16 0]) ?_ 1 _ rfl; (with_reducible repeat (first | refine blk_drewN ?_ _ | refine blk_drew ?_ | refine blk_alloc ?_ _)); refine blk_put (cs := #[.int .i8 0, .int .i16 0, .int .i16 0]) ?_ 0 _ rfl; (with_reducible repeat (first | refine blk_drewN ?_ _ | refine blk_drew ?_ | refine blk_alloc ?_ _)); exact BK168.out) hg (Kd.R_ne HO_4.out BK168.out (by decide))); have n1_ := Aside0.mk (hb); have n2_ := Aside0.mk (ho); clear BK168; clear HB; clear HO_4; have BK168 := n0_; have HB := n1_; have HO183 := n2_; clear n0_ n1_ n2_; clear ho hb hg hat)); try go_wp2_with (first | ((with_reducible refine gate_dst (N := 6) rfl ?_); refine box_event ?hg (N := 6) ?hd (cs := #[.int .i8 0, .int .i16 0, .int .i16 0]) (t := 81) ?hr ?_; (case hd => rfl); (case hg => rfl); (case hr => first | (go_simp; done) | (go_simp; rfl)); intro gb168 hg w31 hbox hb; have n0_ := Aside0.mk (Kd.R_below (by (with_reducible repeat (first | apply Kd.R_alloc | apply Kd.R_drewN | apply Kd.R_drew)); exact HO_4.out) hb); have n1_ := Aside0.mk (below_step (by repeat (first | (with_reducible first | exact HB.out | apply below_alloc | apply pw_below_drewN | apply below_drew1) | exact HB.out)) hb); have n2_ := Aside0.mk (hbox); have n3_ := Aside0.mk ((by rw [hg]; exact (below_size (by repeat (first | (with_reducible first | exact HB.out | apply below_alloc | apply pw_below_drewN | apply below_drew1) | exact HB.out))) : w.heap.size ≤ gb168)); have n4_ := Aside0.mk ((by rw [hg]; exact (below_size (by repeat (first | (with_reducible first | exact HB.out | apply below_alloc | apply pw_below_drewN | apply below_drew1) | exact HB.out))) : w.heap.size ≤ gb168)); clear HO_4; clear HB; have HO_4 := n0_; have HB := n1_; have BK168 := n2_; have GW168 := n3_; have GE168 := n4_; clear n0_ n1_ n2_ n3_ n4_; clear hb hbox hg; have hcz32_0 : w31.cell? ⟨gb168, 0, none⟩ = some (.int .i8 0) := (blk_cell BK168.out 0).trans rfl; have hcz32_1 : w31.cell? ⟨gb168, 1, none⟩ = some (.int .i16 0) := (blk_cell BK168.out 1).trans rfl; have hcz32_2 : w31.cell? ⟨gb168, 2, none⟩ = some (.int .i16 0) := (blk_cell BK168.out 2).trans rfl; have hfz32_0 := blk_frozen BK168.out 0; have hfz32_1 := blk_frozen BK168.out 1; have hfz32_2 := blk_frozen BK168.out 2; obtain ⟨Ao33, co33, eo33⟩ := Kd.R_slice HO_4.out; subst eo33; have p179 : 0 ≤ (((rd_T81 ((rd_T31 l0 0).f1) x5_1).f1) : Int) := of_decide_eq_true (by first | (with_reducible assumption) | assumption); have q179 : ((rd_T81 ((rd_T31 l0 0).f1) x5_1).f1) < (x4_1.length : Int) := of_decide_eq_true (by first | (with_reducible assumption) | assumption); obtain ⟨ad179, e179, hx179_0⟩ := Kd.at_int (Kd.R_reads' HO_4.out).2.2 ((rd_T81 ((rd_T31 l0 0).f1) x5_1).f1) p179 q179; cases e179; have hn179_0 : ad179.block ≠ gb168 := Kd.own_blk (Kd.R_ne HO_4.out BK168.out (by decide)); have hn179_1 : ad179.block ≠ gb168 := Kd.own_blk (Kd.R_ne HO_4.out BK168.out (by decide)); have hn179_2 : ad179.block ≠ gb168 := Kd.own_blk (Kd.R_ne HO_4.out BK168.out (by decide)); replace hx179_0 := (cell_far (p := ⟨gb168, 0, none⟩) (by first | (rw [add_block]; exact hn179_0) | (show (Addr.add _ _).block ≠ _; rw [add_block]; exact hn179_0) | exact hn179_0) (.int .i8 ((rd_T81 ((rd_T31 l0 0).f1) x5_1).f0))).trans hx179_0; replace hx179_0 := (cell_far (p := ⟨gb168, 1, none⟩) (by first | (rw [add_block]; exact hn179_1) | (show (Addr.add _ _).block ≠ _; rw [add_block]; exact hn179_1) | exact hn179_1) (.int .i16 ((rd_T81 ((rd_T31 l0 0).f1) x5_1).f1))).trans hx179_0; replace hx179_0 := (cell_far (p := ⟨gb168, 2, none⟩) (by first | (rw [add_block]; exact hn179_2) | (show (Addr.add _ _).block ≠ _; rw [add_block]; exact hn179_2) | exact hn179_2) (.int .i16 ((rd_T81 ((rd_T31 l0 0).f1) x5_1).f2))).trans hx179_0; (try have hy179_0 := fun (n_ : Nat) => (show (((((w31.drewN n_).setCell ⟨gb168, 0, none⟩ (.int .i8 ((rd_T81 ((rd_T31 l0 0).f1) x5_1).f0))).setCell ⟨gb168, 1, none⟩ (.int .i16 ((rd_T81 ((rd_T31 l0 0).f1) x5_1).f1))).setCell ⟨gb168, 2, none⟩ (.int .i16 ((rd_T81 ((rd_T31 l0 0).f1) x5_1).f2)))).cell? _ = some _ from hx179_0)); clear hn179_0; clear hn179_1; clear hn179_2; replace p179 := eq_true p179; replace q179 := eq_true q179; have p180 : 0 ≤ (((rd_T81 ((rd_T31 l0 0).f1) x5_1).f2) : Int) := of_decide_eq_true (by first | (with_reducible assumption) | assumption); have q180 : ((rd_T81 ((rd_T31 l0 0).f1) x5_1).f2) < (x4_1.length : Int) := of_decide_eq_true (by first | (with_reducible assumption) | assumption); obtain ⟨ad180, e180, hx180_0⟩ := Kd.at_int (Kd.R_reads' HO_4.out).2.2 ((rd_T81 ((rd_T31 l0 0).f1) x5_1).f2) p180 q180; obtain rfl : ad179 = ad180 := (by injection e180); have hn180_0 : ad179.block ≠ gb168 := Kd.own_blk (Kd.R_ne HO_4.out BK168.out (by decide)); have hn180_1 : ad179.block ≠ gb168 := Kd.own_blk (Kd.R_ne HO_4.out BK168.out (by decide)); have hn180_2 : ad179.block ≠ gb168 := Kd.own_blk (Kd.R_ne HO_4.out BK168.out (by decide)); replace hx180_0 := (cell_far (p := ⟨gb168, 0, none⟩) (by first | (rw [add_block]; exact hn180_0) | (show (Addr.add _ _).block ≠ _; rw [add_block]; exact hn180_0) | exact hn180_0) (.int .i8 ((rd_T81 ((rd_T31 l0 0).f1) x5_1).f0))).trans hx180_0; replace hx180_0 := (cell_far (p := ⟨gb168, 1, none⟩) (by first | (rw [add_block]; exact hn180_1) | (show (Addr.add _ _).block ≠ _; rw [add_block]; exact hn180_1) | exact hn180_1) (.int .i16 ((rd_T81 ((rd_T31 l0 0).f1) x5_1).f1))).trans hx180_0; replace hx180_0 := (cell_far (p := ⟨gb168, 2, none⟩) (by first | (rw [add_block]; exact hn180_2) | (show (Addr.add _ _).block ≠ _; rw [add_block]; exact hn180_2) | exact hn180_2) (.int .i16 ((rd_T81 ((rd_T31 l0 0).f1) x5_1).f2))).trans hx180_0; (try have hy180_0 := fun (n_ : Nat) => (show (((((w31.drewN n_).setCell ⟨gb168, 0, none⟩ (.int .i8 ((rd_T81 ((rd_T31 l0 0).f1) x5_1).f0))).setCell ⟨gb168, 1, none⟩ (.int .i16 ((rd_T81 ((rd_T31 l0 0).f1) x5_1).f1))).setCell ⟨gb168, 2, none⟩ (.int .i16 ((rd_T81 ((rd_T31 l0 0).f1) x5_1).f2)))).cell? _ = some _ from hx180_0)); clear hn180_0; clear hn180_1; clear hn180_2; replace p180 := eq_true p180; replace q180 := eq_true q180) | ((with_reducible refine gate_builtin (b := .append) (xs := #[.tmp 71, .tmp 73]) rfl ?_); at_builtin; refine Kd.R_append (Kd.int .u64) (w0 := w) w.heap.size rfl (.tmp 71) (.tmp 73) 53 98 (.int .u64 0) 8 rfl Try.underlying53 info98 rfl (by decide) (by omega) (.slice (some ad179) x4_1.length co33) x4_1 (Go.bits .andNot .u64 (rd x4_1 ((rd_T81 ((rd_T31 l0 0).f1) x5_1).f1)) (rd x4_1 ((rd_T81 ((rd_T31 l0 0).f1) x5_1).f2))) [.int .u64 (Go.bits .andNot .u64 (rd x4_1 ((rd_T81 ((rd_T31 l0 0).f1) x5_1).f1)) (rd x4_1 ((rd_T81 ((rd_T31 l0 0).f1) x5_1).f2)))] (fun _ => True) (fun _ => False) rfl (by first | (go_simp; done) | (go_simp; rfl)) ?aP (fun _ hk => hk.elim) ?aF ?aO ?aB ?aS ?aL ?_; (case aP => exact rfl); (case aB => exact (by repeat (first | (with_reducible first | exact HB.out | apply below_alloc | apply pw_below_drewN | apply below_drew1 | refine below_set ?_ GE168.out) | exact HB.out))); (case aF => exact (fun _ _ => trivial)); (case aO => exact (by (with_reducible repeat (first | apply Kd.R_alloc | apply Kd.R_drewN | apply Kd.R_drew)); exact Kd.R_mono (Kd.R_far (p := ⟨gb168, 2, none⟩) (Kd.R_far (p := ⟨gb168, 1, none⟩) (Kd.R_far (p := ⟨gb168, 0, none⟩) (Kd.R_types HO_4.out BK168.out (by decide)) (fun _ hk => hk.2) (.int .i8 ((rd_T81 ((rd_T31 l0 0).f1) x5_1).f0))) (fun _ hk => hk.2) (.int .i16 ((rd_T81 ((rd_T31 l0 0).f1) x5_1).f1))) (fun _ hk => hk.2) (.int .i16 ((rd_T81 ((rd_T31 l0 0).f1) x5_1).f2))) (fun _ hk => trivial))); (case aS => exact (below_size (by repeat (first | (with_reducible first | exact HB.out | apply below_alloc | apply pw_below_drewN | apply below_drew1 | refine below_set ?_ GE168.out) | exact HB.out)))); (case aL => have := LMc30.out; omega); intro v182 w34 ho hb hg hat; rw [← Ny181.out] at ho; have n0_ := Aside0.mk (blk_grown (g := gb168) (o := .cells #[.int .i8 ((rd_T81 ((rd_T31 l0 0).f1) x5_1).f0), .int .i16 ((rd_T81 ((rd_T31 l0 0).f1) x5_1).f1), .int .i16 ((rd_T81 ((rd_T31 l0 0).f1) x5_1).f2)] 81 (0, 0)) (by (with_reducible repeat (first | refine blk_drewN ?_ _ | refine blk_drew ?_ | refine blk_alloc ?_ _)); refine blk_put (cs := #[.int .i8 ((rd_T81 ((rd_T31 l0 0).f1) x5_1).f0), .int .i16 ((rd_T81 ((rd_T31 l0 0).f1) x5_1).f1), .int .i16 0]) ?_ 2 _ rfl; (with_reducible repeat (first | refine blk_drewN ?_ _ | refine blk_drew ?_ | refine blk_alloc ?_ _)); refine blk_put (cs := #[.int .i8 ((rd_T81 ((rd_T31 l0 0).f1) x5_1).f0), .int .i16 0, .int .i16 0]) ?_ 1 _ rfl; (with_reducible repeat (first | refine blk_drewN ?_ _ | refine blk_drew ?_ | refine blk_alloc ?_ _)); refine blk_put (cs := #[.int .i8 0, .int .i16 0, .int .i16 0]) ?_ 0 _ rfl; (with_reducible repeat (first | refine blk_drewN ?_ _ | refine blk_drew ?_ | refine blk_alloc ?_ _)); exact BK168.out) hg (Kd.R_ne HO_4.out BK168.out (by decide))); have n1_ := Aside0.mk (hb); have n2_ := Aside0.mk (ho); clear BK168; clear HB; clear HO_4; have BK168 := n0_; have HB := n1_; have HO183 := n2_; clear n0_ n1_ n2_; clear ho hb hg hat)))
                              go_roundg k1
                              case measure => have := HK1.out; omega
                              case rel => exact ⟨(y181), (wrap64 (x5_1 + 1)), (by first | rfl | (simp; done) | (simp [*]; done) | (exact congrArg (Value.int .i64) (wrap_eq (by omega)))), H', ⟨by have := HK1.out; omega⟩, ⟨by (with_reducible repeat (first | apply Kd.R_alloc | apply Kd.R_drewN | apply Kd.R_drew)); exact HO183.out⟩, ⟨by repeat (first | (with_reducible first | exact HB.out | apply below_alloc | apply pw_below_drewN | apply below_drew1 | refine below_set ?_ GE168.out) | exact HB.out)⟩⟩
                            · rw [if_neg c30] at H
                              exact absurd H (by simp)
                          · rw [if_neg c29] at H
                            exact absurd H (by simp)
                        · rw [if_neg c28] at H
                          exact absurd H (by simp)
                      · rw [if_neg c27] at H
                        exact absurd H (by simp)
                    · rw [if_neg c26] at H
                      exact absurd H (by simp)
                  · rw [if_neg c25] at H
                    have c25b0 : (((rd_T81 ((rd_T31 l0 0).f1) x5_1).f0) == 3) = false := beq_eq_false_iff_ne.mpr c25
                    have c25b1 : (((rd_T81 ((rd_T31 l0 0).f1) x5_1).f0) != 3) = true := bne_iff_ne.mpr c25
                    by_cases c35 : x4_1.length < 17592186044416
                    · rw [if_pos c35] at H
                      have LMc35 := Aside0.mk c35
                      clear c35
                      obtain ⟨y184, hy184⟩ : ∃ y_ : List Int, y_ = (x4_1 ++ [t161]) := ⟨_, rfl⟩
                      replace H : (spec_l04Tables.l0 k1 l0 t161 y184 (wrap64 (x5_1 + 1))) = some r := by first | (rw [hy184]; with_reducible exact H) | (have H2_ := (Option.bind_some _ _).symm.trans H; rw [hy184]; with_reducible exact H2_) | (have H2_ := (Option.bind_some _ _).symm.trans H; with_reducible exact H2_) | with_reducible exact H | (rw [hy184]; exact H) | exact H
                      have Ny184 := Aside0.mk hy184
                      clear hy184
                      have H' := Aside0.mk H
                      clear H
                      have p165 : 0 ≤ (0 : Int) := (by omega)
                      have q165 : 0 < (l0.length : Int) := of_decide_eq_true (by first | (with_reducible assumption) | assumption)
                      obtain ⟨ad165, A165_1, c165_1, A165_2, c165_2, e165, hx165_0, hx165_1, hx165_2, hl165_1, hi165_1, hl165_2, hi165_2⟩ := at_T31 HR0.out 0 p165 q165
                      obtain rfl : adp0 = ad165 := (by injection e165)
                      have qi165 : (0 < l0.length) = True := eq_true (by omega)
                      (try rw [show ((0 : Int)).toNat = 0 from rfl] at hx165_0)
                      (try rw [show 0 * 3 = 0 from rfl] at hx165_0)
                      (try rw [Addr.add_zero'] at hx165_0)
                      (try rw [show ((0 : Int)).toNat = 0 from rfl] at hx165_1)
                      (try rw [show 0 * 3 = 0 from rfl] at hx165_1)
                      (try rw [Addr.add_zero'] at hx165_1)
                      (try rw [show ((0 : Int)).toNat = 0 from rfl] at hx165_2)
                      (try rw [show 0 * 3 = 0 from rfl] at hx165_2)
                      (try rw [Addr.add_zero'] at hx165_2)
                      replace hx165_0 := (HB.out.cell (World.block_lt_of_cell? w _ hx165_0)).trans hx165_0
                      replace hx165_1 := (HB.out.cell (World.block_lt_of_cell? w _ hx165_1)).trans hx165_1
                      replace hx165_2 := (HB.out.cell (World.block_lt_of_cell? w _ hx165_2)).trans hx165_2
                      have HR165_1 := Aside0.mk hi165_1
                      have HC165_1 := Aside0.mk hl165_1
                      clear hi165_1 hl165_1
                      have HR165_2 := Aside0.mk hi165_2
                      have HC165_2 := Aside0.mk hl165_2
                      clear hi165_2 hl165_2
                      replace p165 := eq_true p165
                      replace q165 := eq_true q165
                      have p166 : 0 ≤ (0 : Int) := (by omega)
                      have q166 : 0 < (l0.length : Int) := of_decide_eq_true (by first | (with_reducible assumption) | assumption)
                      obtain ⟨ad166, A166_1, c166_1, A166_2, c166_2, e166, hx166_0, hx166_1, hx166_2, hl166_1, hi166_1, hl166_2, hi166_2⟩ := at_T31 HR0.out 0 p166 q166
                      obtain rfl : adp0 = ad166 := (by injection e166)
                      have qi166 : (0 < l0.length) = True := eq_true (by omega)
                      (try rw [show ((0 : Int)).toNat = 0 from rfl] at hx166_0)
                      (try rw [show 0 * 3 = 0 from rfl] at hx166_0)
                      (try rw [Addr.add_zero'] at hx166_0)
                      (try rw [show ((0 : Int)).toNat = 0 from rfl] at hx166_1)
                      (try rw [show 0 * 3 = 0 from rfl] at hx166_1)
                      (try rw [Addr.add_zero'] at hx166_1)
                      (try rw [show ((0 : Int)).toNat = 0 from rfl] at hx166_2)
                      (try rw [show 0 * 3 = 0 from rfl] at hx166_2)
                      (try rw [Addr.add_zero'] at hx166_2)
                      replace hx166_0 := (HB.out.cell (World.block_lt_of_cell? w _ hx166_0)).trans hx166_0
                      replace hx166_1 := (HB.out.cell (World.block_lt_of_cell? w _ hx166_1)).trans hx166_1
                      replace hx166_2 := (HB.out.cell (World.block_lt_of_cell? w _ hx166_2)).trans hx166_2
                      have HR166_1 := Aside0.mk hi166_1
                      have HC166_1 := Aside0.mk hl166_1
                      clear hi166_1 hl166_1
                      have HR166_2 := Aside0.mk hi166_2
                      have HC166_2 := Aside0.mk hl166_2
                      clear hi166_2 hl166_2
                      replace p166 := eq_true p166
                      replace q166 := eq_true q166
                      have ea_ := Option.some.inj (hx165_1.symm.trans hx166_1)
                      injection ea_ with ea_ en_ ec_
                      subst ea_
                      subst ec_
                      clear en_
                      have ea_ := Option.some.inj (hx165_2.symm.trans hx166_2)
                      injection ea_ with ea_ en_ ec_
                      subst ea_
                      subst ec_
                      clear en_
                      have p167 : 0 ≤ (x5_1 : Int) := of_decide_eq_true (by first | (with_reducible assumption) | assumption)
                      have q167 : x5_1 < (((rd_T31 l0 0).f1).length : Int) := of_decide_eq_true (by first | (with_reducible assumption) | assumption)
                      obtain ⟨ad167, e167, hx167_0, hx167_1, hx167_2⟩ := at_T81 HR166_1.out x5_1 p167 q167
                      cases e167
                      replace hx167_0 := (HB.out.cell (World.block_lt_of_cell? w _ hx167_0)).trans hx167_0
                      replace hx167_1 := (HB.out.cell (World.block_lt_of_cell? w _ hx167_1)).trans hx167_1
                      replace hx167_2 := (HB.out.cell (World.block_lt_of_cell? w _ hx167_2)).trans hx167_2
                      replace p167 := eq_true p167
                      replace q167 := eq_true q167
                      go_wp2_with (first | ((with_reducible refine gate_dst (N := 6) rfl ?_); refine box_event ?hg (N := 6) ?hd (cs := #[.int .i8 0, .int .i16 0, .int .i16 0]) (t := 81) ?hr ?_; (case hd => rfl); (case hg => rfl); (case hr => first | (go_simp; done) | (go_simp; rfl)); intro gb168 hg w36 hbox hb; have n0_ := Aside0.mk (Kd.R_below (by (with_reducible repeat (first | apply Kd.R_alloc | apply Kd.R_drewN | apply Kd.R_drew)); exact HO_4.out) hb); have n1_ := Aside0.mk (below_step (by repeat (first | (with_reducible first | exact HB.out | apply below_alloc | apply pw_below_drewN | apply below_drew1) | exact HB.out)) hb); have n2_ := Aside0.mk (hbox); have n3_ := Aside0.mk ((by rw [hg]; exact (below_size (by repeat (first | (with_reducible first | exact HB.out | apply below_alloc | apply pw_below_drewN | apply below_drew1) | exact HB.out))) : w.heap.size ≤ gb168)); have n4_ := Aside0.mk ((by rw [hg]; exact (below_size (by repeat (first | (with_reducible first | exact HB.out | apply below_alloc | apply pw_below_drewN | apply below_drew1) | exact HB.out))) : w.heap.size ≤ gb168)); clear HO_4; clear HB; have HO_4 := n0_; have HB := n1_; have BK168 := n2_; have GW168 := n3_; have GE168 := n4_; clear n0_ n1_ n2_ n3_ n4_; clear hb hbox hg; have hcz37_0 : w36.cell? ⟨gb168, 0, none⟩ = some (.int .i8 0) := (blk_cell BK168.out 0).trans rfl; have hcz37_1 : w36.cell? ⟨gb168, 1, none⟩ = some (.int .i16 0) := (blk_cell BK168.out 1).trans rfl; have hcz37_2 : w36.cell? ⟨gb168, 2, none⟩ = some (.int .i16 0) := (blk_cell BK168.out 2).trans rfl; have hfz37_0 := blk_frozen BK168.out 0; have hfz37_1 := blk_frozen BK168.out 1; have hfz37_2 := blk_frozen BK168.out 2) | ((with_reducible refine gate_builtin (b := .append) (xs := #[.tmp 71, .tmp 73]) rfl ?_); at_builtin; refine Kd.R_append (Kd.int .u64) (w0 := w) w.heap.size rfl (.tmp 71) (.tmp 73) 53 98 (.int .u64 0) 8 rfl Try.underlying53 info98 rfl (by decide) (by omega) u4 x4_1 t161 [.int .u64 t161] (fun _ => True) (fun _ => False) rfl (by first | (go_simp; done) | (go_simp; rfl)) ?aP (fun _ hk => hk.elim) ?aF ?aO ?aB ?aS ?aL ?_; (case aP => exact rfl); (case aB => exact (by repeat (first | (with_reducible first | exact HB.out | apply below_alloc | apply pw_below_drewN | apply below_drew1 | refine below_set ?_ GE168.out) | exact HB.out))); (case aF => exact (fun _ _ => trivial)); (case aO => exact (by (with_reducible repeat (first | apply Kd.R_alloc | apply Kd.R_drewN | apply Kd.R_drew)); exact Kd.R_mono (Kd.R_far (p := ⟨gb168, 2, none⟩) (Kd.R_far (p := ⟨gb168, 1, none⟩) (Kd.R_far (p := ⟨gb168, 0, none⟩) (Kd.R_types HO_4.out BK168.out (by decide)) (fun _ hk => hk.2) (.int .i8 ((rd_T81 ((rd_T31 l0 0).f1) x5_1).f0))) (fun _ hk => hk.2) (.int .i16 ((rd_T81 ((rd_T31 l0 0).f1) x5_1).f1))) (fun _ hk => hk.2) (.int .i16 ((rd_T81 ((rd_T31 l0 0).f1) x5_1).f2))) (fun _ hk => trivial))); (case aS => exact (below_size (by repeat (first | (with_reducible first | exact HB.out | apply below_alloc | apply pw_below_drewN | apply below_drew1 | refine below_set ?_ GE168.out) | exact HB.out)))); (case aL => have := LMc35.out; omega); intro v185 w38 ho hb hg hat; rw [← Ny184.out] at ho; have n0_ := Aside0.mk (blk_grown (g := gb168) (o := .cells #[.int .i8 ((rd_T81 ((rd_T31 l0 0).f1) x5_1).f0), .int .i16 ((rd_T81 ((rd_T31 l0 0).f1) x5_1).f1), .int .i16 ((rd_T81 ((rd_T31 l0 0).f1) x5_1).f2)] 81 (0, 0)) (by (with_reducible repeat (first | refine blk_drewN ?_ _ | refine blk_drew ?_ | refine blk_alloc ?_ _)); refine blk_put (cs := #[.int .i8 ((rd_T81 ((rd_T31 l0 0).f1) x5_1).f0), .int .i16 ((rd_T81 ((rd_T31 l0 0).f1) x5_1).f1), .int .i16 0]) ?_ 2 _ rfl; (with_reducible repeat (first | refine blk_drewN ?_ _ | refine blk_drew ?_ | refine blk_alloc ?_ _)); refine blk_put (cs := #[.int .i8 ((rd_T81 ((rd_T31 l0 0).f1) x5_1).f0), .int .i16 0, .int .i16 0]) ?_ 1 _ rfl; (with_reducible repeat (first | refine blk_drewN ?_ _ | refine blk_drew ?_ | refine blk_alloc ?_ _)); refine blk_put (cs := #[.int .i8 0, .int .i16 0, .int .i16 0]) ?_ 0 _ rfl; (with_reducible repeat (first | refine blk_drewN ?_ _ | refine blk_drew ?_ | refine blk_alloc ?_ _)); exact BK168.out) hg (Kd.R_ne HO_4.out BK168.out (by decide))); have n1_ := Aside0.mk (hb); have n2_ := Aside0.mk (ho); clear BK168; clear HB; clear HO_4; have BK168 := n0_; have HB := n1_; have HO186 := n2_; clear n0_ n1_ n2_; clear ho hb hg hat))
                      repeat (go_quiet (first | ((with_reducible refine gate_dst (N := 6) rfl ?_); refine box_event ?hg (N := 6) ?hd (cs := #[.int .i8 0, .int .i16 0, .int .i16 0]) (t := 81) ?hr ?_; (case hd => rfl); (case hg => rfl); (case hr => first | (go_simp; done) | (go_simp; rfl)); intro gb168 hg w36 hbox hb; have n0_ := Aside0.mk (Kd.R_below (by (with_reducible repeat (first | apply Kd.R_alloc | apply Kd.R_drewN | apply Kd.R_drew)); exact HO_4.out) hb); have n1_ := Aside0.mk (below_step (by repeat (first | (with_reducible first | exact HB.out | apply below_alloc | apply pw_below_drewN | apply below_drew1) | exact HB.out)) hb); have n2_ := Aside0.mk (hbox); have n3_ := Aside0.mk ((by rw [hg]; exact (below_size (by repeat (first | (with_reducible first | exact HB.out | apply below_alloc | apply pw_below_drewN | apply below_drew1) | exact HB.out))) : w.heap.size ≤ gb168)); have n4_ := Aside0.mk ((by rw [hg]; exact (below_size (by repeat (first | (with_reducible first | exact HB.out | apply below_alloc | apply pw_below_drewN | apply below_drew1) | exact HB.out))) : w.heap.size ≤ gb168)); clear HO_4; clear HB; have HO_4 := n0_; have HB := n1_; have BK168 := n2_; have GW168 := n3_; have GE168 := n4_; clear n0_ n1_ n2_ n3_ n4_; clear hb hbox hg; have hcz37_0 : w36.cell? ⟨gb168, 0, none⟩ = some (.int .i8 0) := (blk_cell BK168.out 0).trans rfl; have hcz37_1 : w36.cell? ⟨gb168, 1, none⟩ = some (.int .i16 0) := (blk_cell BK168.out 1).trans rfl; have hcz37_2 : w36.cell? ⟨gb168, 2, none⟩ = some (.int .i16 0) := (blk_cell BK168.out 2).trans rfl; have hfz37_0 := blk_frozen BK168.out 0; have hfz37_1 := blk_frozen BK168.out 1; have hfz37_2 := blk_frozen BK168.out 2) | ((with_reducible refine gate_builtin (b := .append) (xs := #[.tmp 71, .tmp 73]) rfl ?_); at_builtin; refine Kd.R_append (Kd.int .u64) (w0 := w) w.heap.size rfl (.tmp 71) (.tmp 73) 53 98 (.int .u64 0) 8 rfl Try.underlying53 info98 rfl (by decide) (by omega) u4 x4_1 t161 [.int .u64 t161] (fun _ => True) (fun _ => False) rfl (by first | (go_simp; done) | (go_simp; rfl)) ?aP (fun _ hk => hk.elim) ?aF ?aO ?aB ?aS ?aL ?_; (case aP => exact rfl); (case aB => exact (by repeat (first | (with_reducible first | exact HB.out | apply below_alloc | apply pw_below_drewN | apply below_drew1 | refine below_set ?_ GE168.out) | exact HB.out))); (case aF => exact (fun _ _ => trivial)); (case aO => exact (by (with_reducible repeat (first | apply Kd.R_alloc | apply Kd.R_drewN | apply Kd.R_drew)); exact Kd.R_mono (Kd.R_far (p := ⟨gb168, 2, none⟩) (Kd.R_far (p := ⟨gb168, 1, none⟩) (Kd.R_far (p := ⟨gb168, 0, none⟩) (Kd.R_types HO_4.out BK168.out (by decide)) (fun _ hk => hk.2) (.int .i8 ((rd_T81 ((rd_T31 l0 0).f1) x5_1).f0))) (fun _ hk => hk.2) (.int .i16 ((rd_T81 ((rd_T31 l0 0).f1) x5_1).f1))) (fun _ hk => hk.2) (.int .i16 ((rd_T81 ((rd_T31 l0 0).f1) x5_1).f2))) (fun _ hk => trivial))); (case aS => exact (below_size (by repeat (first | (with_reducible first | exact HB.out | apply below_alloc | apply pw_below_drewN | apply below_drew1 | refine below_set ?_ GE168.out) | exact HB.out)))); (case aL => have := LMc35.out; omega); intro v185 w38 ho hb hg hat; rw [← Ny184.out] at ho; have n0_ := Aside0.mk (blk_grown (g := gb168) (o := .cells #[.int .i8 ((rd_T81 ((rd_T31 l0 0).f1) x5_1).f0), .int .i16 ((rd_T81 ((rd_T31 l0 0).f1) x5_1).f1), .int .i16 ((rd_T81 ((rd_T31 l0 0).f1) x5_1).f2)] 81 (0, 0)) (by (with_reducible repeat (first | refine blk_drewN ?_ _ | refine blk_drew ?_ | refine blk_alloc ?_ _)); refine blk_put (cs := #[.int .i8 ((rd_T81 ((rd_T31 l0 0).f1) x5_1).f0), .int .i16 ((rd_T81 ((rd_T31 l0 0).f1) x5_1).f1), .int .i16 0]) ?_ 2 _ rfl; (with_reducible repeat (first | refine blk_drewN ?_ _ | refine blk_drew ?_ | refine blk_alloc ?_ _)); refine blk_put (cs := #[.int .i8 ((rd_T81 ((rd_T31 l0 0).f1) x5_1).f0), .int .i16 0, .int .i16 0]) ?_ 1 _ rfl; (with_reducible repeat (first | refine blk_drewN ?_ _ | refine blk_drew ?_ | refine blk_alloc ?_ _)); refine blk_put (cs := #[.int .i8 0, .int .i16 0, .int .i16 0]) ?_ 0 _ rfl; (with_reducible repeat (first | refine blk_drewN ?_ _ | refine blk_drew ?_ | refine blk_alloc ?_ _)); exact BK168.out) hg (Kd.R_ne HO_4.out BK168.out (by decide))); have n1_ := Aside0.mk (hb); have n2_ := Aside0.mk (ho); clear BK168; clear HB; clear HO_4; have BK168 := n0_; have HB := n1_; have HO186 := n2_; clear n0_ n1_ n2_; clear ho hb hg hat)); try go_wp2_with (first | ((with_reducible refine gate_dst (N := 6) rfl ?_); refine box_event ?hg (N := 6) ?hd (cs := #[.int .i8 0, .int .i16 0, .int .i16 0]) (t := 81) ?hr ?_; (case hd => rfl); (case hg => rfl); (case hr => first | (go_simp; done) | (go_simp; rfl)); intro gb168 hg w36 hbox hb; have n0_ := Aside0.mk (Kd.R_below (by (with_reducible repeat (first | apply Kd.R_alloc | apply Kd.R_drewN | apply Kd.R_drew)); exact HO_4.out) hb); have n1_ := Aside0.mk (below_step (by repeat (first | (with_reducible first | exact HB.out | apply below_alloc | apply pw_below_drewN | apply below_drew1) | exact HB.out)) hb); have n2_ := Aside0.mk (hbox); have n3_ := Aside0.mk ((by rw [hg]; exact (below_size (by repeat (first | (with_reducible first | exact HB.out | apply below_alloc | apply pw_below_drewN | apply below_drew1) | exact HB.out))) : w.heap.size ≤ gb168)); have n4_ := Aside0.mk ((by rw [hg]; exact (below_size (by repeat (first | (with_reducible first | exact HB.out | apply below_alloc | apply pw_below_drewN | apply below_drew1) | exact HB.out))) : w.heap.size ≤ gb168)); clear HO_4; clear HB; have HO_4 := n0_; have HB := n1_; have BK168 := n2_; have GW168 := n3_; have GE168 := n4_; clear n0_ n1_ n2_ n3_ n4_; clear hb hbox hg; have hcz37_0 : w36.cell? ⟨gb168, 0, none⟩ = some (.int .i8 0) := (blk_cell BK168.out 0).trans rfl; have hcz37_1 : w36.cell? ⟨gb168, 1, none⟩ = some (.int .i16 0) := (blk_cell BK168.out 1).trans rfl; have hcz37_2 : w36.cell? ⟨gb168, 2, none⟩ = some (.int .i16 0) := (blk_cell BK168.out 2).trans rfl; have hfz37_0 := blk_frozen BK168.out 0; have hfz37_1 := blk_frozen BK168.out 1; have hfz37_2 := blk_frozen BK168.out 2) | ((with_reducible refine gate_builtin (b := .append) (xs := #[.tmp 71, .tmp 73]) rfl ?_); at_builtin; refine Kd.R_append (Kd.int .u64) (w0 := w) w.heap.size rfl (.tmp 71) (.tmp 73) 53 98 (.int .u64 0) 8 rfl Try.underlying53 info98 rfl (by decide) (by omega) u4 x4_1 t161 [.int .u64 t161] (fun _ => True) (fun _ => False) rfl (by first | (go_simp; done) | (go_simp; rfl)) ?aP (fun _ hk => hk.elim) ?aF ?aO ?aB ?aS ?aL ?_; (case aP => exact rfl); (case aB => exact (by repeat (first | (with_reducible first | exact HB.out | apply below_alloc | apply pw_below_drewN | apply below_drew1 | refine below_set ?_ GE168.out) | exact HB.out))); (case aF => exact (fun _ _ => trivial)); (case aO => exact (by (with_reducible repeat (first | apply Kd.R_alloc | apply Kd.R_drewN | apply Kd.R_drew)); exact Kd.R_mono (Kd.R_far (p := ⟨gb168, 2, none⟩) (Kd.R_far (p := ⟨gb168, 1, none⟩) (Kd.R_far (p := ⟨gb168, 0, none⟩) (Kd.R_types HO_4.out BK168.out (by decide)) (fun _ hk => hk.2) (.int .i8 ((rd_T81 ((rd_T31 l0 0).f1) x5_1).f0))) (fun _ hk => hk.2) (.int .i16 ((rd_T81 ((rd_T31 l0 0).f1) x5_1).f1))) (fun _ hk => hk.2) (.int .i16 ((rd_T81 ((rd_T31 l0 0).f1) x5_1).f2))) (fun _ hk => trivial))); (case aS => exact (below_size (by repeat (first | (with_reducible first | exact HB.out | apply below_alloc | apply pw_below_drewN | apply below_drew1 | refine below_set ?_ GE168.out) | exact HB.out)))); (case aL => have := LMc35.out; omega); intro v185 w38 ho hb hg hat; rw [← Ny184.out] at ho; have n0_ := Aside0.mk (blk_grown (g := gb168) (o := .cells #[.int .i8 ((rd_T81 ((rd_T31 l0 0).f1) x5_1).f0), .int .i16 ((rd_T81 ((rd_T31 l0 0).f1) x5_1).f1), .int .i16 ((rd_T81 ((rd_T31 l0 0).f1) x5_1).f2)] 81 (0, 0)) (by (with_reducible repeat (first | refine blk_drewN ?_ _ | refine blk_drew ?_ | refine blk_alloc ?_ _)); refine blk_put (cs := #[.int .i8 ((rd_T81 ((rd_T31 l0 0).f1) x5_1).f0), .int .i16 ((rd_T81 ((rd_T31 l0 0).f1) x5_1).f1), .int .i16 0]) ?_ 2 _ rfl; (with_reducible repeat (first | refine blk_drewN ?_ _ | refine blk_drew ?_ | refine blk_alloc ?_ _)); refine blk_put (cs := #[.int .i8 ((rd_T81 ((rd_T31 l0 0).f1) x5_1).f0), .int .i16 0, .int .i16 0]) ?_ 1 _ rfl; (with_reducible repeat (first | refine blk_drewN ?_ _ | refine blk_drew ?_ | refine blk_alloc ?_ _)); refine blk_put (cs := #[.int .i8 0, .int .i16 0, .int .i16 0]) ?_ 0 _ rfl; (with_reducible repeat (first | refine blk_drewN ?_ _ | refine blk_drew ?_ | refine blk_alloc ?_ _)); exact BK168.out) hg (Kd.R_ne HO_4.out BK168.out (by decide))); have n1_ := Aside0.mk (hb); have n2_ := Aside0.mk (ho); clear BK168; clear HB; clear HO_4; have BK168 := n0_; have HB := n1_; have HO186 := n2_; clear n0_ n1_ n2_; clear ho hb hg hat)))
                      go_roundg k1
                      case measure => have := HK1.out; omega
                      case rel => exact ⟨(y184), (wrap64 (x5_1 + 1)), (by first | rfl | (simp; done) | (simp [*]; done) | (exact congrArg (Value.int .i64) (wrap_eq (by omega)))), H', ⟨by have := HK1.out; omega⟩, ⟨by (with_reducible repeat (first | apply Kd.R_alloc | apply Kd.R_drewN | apply Kd.R_drew)); exact HO186.out⟩, ⟨by repeat (first | (with_reducible first | exact HB.out | apply below_alloc | apply pw_below_drewN | apply below_drew1 | refine below_set ?_ GE168.out) | exact HB.out)⟩⟩
                    · rw [if_neg c35] at H
                      exact absurd H (by simp)
            · rw [if_neg c8] at H
              exact absurd H (by simp)
          · rw [if_neg c7] at H
            have c7b0 : decide (x5_1 < (((rd_T31 l0 0).f1).length : Int)) = false := decide_eq_false c7
            clear c7
            obtain rfl := Option.some.inj H
            have p165 : 0 ≤ (0 : Int) := (by omega)
            have q165 : 0 < (l0.length : Int) := of_decide_eq_true (by first | (with_reducible assumption) | assumption)
            obtain ⟨ad165, A165_1, c165_1, A165_2, c165_2, e165, hx165_0, hx165_1, hx165_2, hl165_1, hi165_1, hl165_2, hi165_2⟩ := at_T31 HR0.out 0 p165 q165
            obtain rfl : adp0 = ad165 := (by injection e165)
            have qi165 : (0 < l0.length) = True := eq_true (by omega)
            (try rw [show ((0 : Int)).toNat = 0 from rfl] at hx165_0)
            (try rw [show 0 * 3 = 0 from rfl] at hx165_0)
            (try rw [Addr.add_zero'] at hx165_0)
            (try rw [show ((0 : Int)).toNat = 0 from rfl] at hx165_1)
            (try rw [show 0 * 3 = 0 from rfl] at hx165_1)
            (try rw [Addr.add_zero'] at hx165_1)
            (try rw [show ((0 : Int)).toNat = 0 from rfl] at hx165_2)
            (try rw [show 0 * 3 = 0 from rfl] at hx165_2)
            (try rw [Addr.add_zero'] at hx165_2)
            replace hx165_0 := (HB.out.cell (World.block_lt_of_cell? w _ hx165_0)).trans hx165_0
            replace hx165_1 := (HB.out.cell (World.block_lt_of_cell? w _ hx165_1)).trans hx165_1
            replace hx165_2 := (HB.out.cell (World.block_lt_of_cell? w _ hx165_2)).trans hx165_2
            have HR165_1 := Aside0.mk hi165_1
            have HC165_1 := Aside0.mk hl165_1
            clear hi165_1 hl165_1
            have HR165_2 := Aside0.mk hi165_2
            have HC165_2 := Aside0.mk hl165_2
            clear hi165_2 hl165_2
            replace p165 := eq_true p165
            replace q165 := eq_true q165
            go_wp2
            repeat (go_quiet (fail); try go_wp2)
            go_ret
            exact ⟨_, by first | rfl | (simp [errW_none, errW_some] <;> rfl) | (simp [*, errW_none, errW_some] <;> rfl), by (with_reducible repeat (first | apply Kd.R_alloc | apply Kd.R_drewN | apply Kd.R_drew)); exact HO_4.out, by repeat (first | (with_reducible first | exact HB.out | apply below_alloc | apply pw_below_drewN | apply below_drew1) | exact HB.out)⟩
        · rw [if_neg c6] at H
          exact absurd H (by simp)
  · rw [if_neg c2] at H
    exact absurd H (by simp)

end Go.Proofs.Ytmpmanfoiocfgaa.PFnExactCheckMerge
