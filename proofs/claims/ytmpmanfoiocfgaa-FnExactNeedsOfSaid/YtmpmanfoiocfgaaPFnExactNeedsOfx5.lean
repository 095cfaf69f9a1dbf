-- WRITTEN by xprint.py, a program of this session's. Not trusted: Lean checks it.
import Derived.Test.YtmpmanfoiocfgaaPFnExactNeedsOfx0
namespace Go.Proofs.Ytmpmanfoiocfgaa.PFnExactNeedsOf
open Go.RowKit Go.Proofs.YtmpmanfoiocfgaaW.PrintWords Go.Proofs.YtmpmanfoiocfgaaW.PrintLast Go.Proofs.YtmpmanfoiocfgaaW.PrintMore Go.Proofs.YtmpmanfoiocfgaaX
attribute [local go_sem] max2_int min2_int max_two min_two max_three min_three max_four min_four   -- for this text's walks alone
set_option linter.unusedVariables false
set_option linter.unusedSimpArgs false

/-! ### spec_l04Rows: function 90 -/
def spec_l04Rows.f (a0 : Int) : Option (Int) := if 0 ≤ (IntKind.u64.wrap (a0)) then (some (shl .i64 1 (IntKind.u64.wrap (a0)))) else (none)
set_option maxHeartbeats 8000000 in
set_option maxRecDepth 100000 in
theorem spec_l04Rows.calls (a0 : Int) (r : Int) (w : World) (h : spec_l04Rows.f a0 = some r) :
    Calls Try.prog 90 #[.int .i64 a0] w fun e w' => e = .returned (.int .i64 r) ∧ Drawn0 w w' := by
  have H : (if 0 ≤ (IntKind.u64.wrap (a0)) then (some (shl .i64 1 (IntKind.u64.wrap (a0)))) else (none)) = some r := h
  clear h
  obtain ⟨ji2, hji2⟩ : ∃ j_ : Int, (IntKind.u64.wrap (a0)) = j_ := ⟨_, rfl⟩
  replace H : (if 0 ≤ (ji2) then (some (shl .i64 1 (ji2))) else (none)) = some r := by first | (rw [hji2] at H; exact H) | (simp only [hji2] at H ⊢; exact H)
  by_cases c3 : 0 ≤ (ji2)
  · rw [if_pos c3] at H
    have c3b0 := eq_true c3
    have c3b1 : decide (0 ≤ (ji2)) = true := decide_eq_true c3
    clear c3
    obtain ⟨ji4, hji4⟩ : ∃ j_ : Int, (shl .i64 1 (ji2)) = j_ := ⟨_, rfl⟩
    replace H : (some ji4) = some r := by first | (rw [hji4] at H; exact H) | (simp only [hji4] at H ⊢; exact H)
    have hji4_ : (IntKind.i64.wrap (1 * 2 ^ min (ji2).toNat 64)) = ji4 := hji4
    have hji4z : (ji2) ≤ 64 → (IntKind.i64.wrap (1 * 2 ^ (ji2).toNat)) = ji4 := shl_small hji4
    have hji4u : (IntKind.i64.wrap (2 ^ min (ji2).toNat 64)) = ji4 := by have h_ := hji4_; rw [Int.one_mul] at h_; exact h_
    have hji4v : (ji2) ≤ 64 → (IntKind.i64.wrap (2 ^ (ji2).toNat)) = ji4 := fun hle_ => by have h_ := hji4z hle_; rw [Int.one_mul] at h_; exact h_
    have hji4y : (wrap64 (1 * 2 ^ min (ji2).toNat 64)) = ji4 := (i64_w _).symm.trans hji4_
    have hji4x : (ji2) ≤ 64 → (wrap64 (1 * 2 ^ (ji2).toNat)) = ji4 := fun h_ => (i64_w _).symm.trans (hji4z h_)
    obtain rfl := Option.some.inj H
    go_enter Try.func90, Try.ntmps90
    go_wp2
    go_ret
    exact ⟨by first | rfl | (simp; done) | (simp only [← hji2, ← hji4] <;> (first | rfl | simp)) | (simp [*]; done) | (exact congrArg (Value.int .i64) (wrap_eq (by omega))), by repeat (first | exact Drawn0.refl _ | apply Drawn0.step)⟩
  · rw [if_neg c3] at H
    exact absurd H (by simp)

/-! ### spec_l04Full: function 128 -/
def spec_l04Full.f (a0 : Int) : Option (Int) := (spec_l04Rows.f a0).bind fun t167 => (if 0 ≤ (IntKind.u64.wrap (wrap64 (64 - t167))) then (some (shr .u64 18446744073709551615 (IntKind.u64.wrap (wrap64 (64 - t167))))) else (none))
set_option maxHeartbeats 8000000 in
set_option maxRecDepth 100000 in
theorem spec_l04Full.calls (a0 : Int) (r : Int) (w : World) (h : spec_l04Full.f a0 = some r) :
    Calls Try.prog 128 #[.int .i64 a0] w fun e w' => e = .returned (.int .u64 r) ∧ Drawn0 w w' := by
  have H : ((spec_l04Rows.f a0).bind fun t167 => (if 0 ≤ (IntKind.u64.wrap (wrap64 (64 - t167))) then (some (shr .u64 18446744073709551615 (IntKind.u64.wrap (wrap64 (64 - t167))))) else (none))) = some r := h
  clear h
  replace H := Option.bind_eq_some_iff.mp H
  obtain ⟨t167, A20, H⟩ := H
  replace H : (if 0 ≤ (IntKind.u64.wrap (wrap64 (64 - t167))) then (some (shr .u64 18446744073709551615 (IntKind.u64.wrap (wrap64 (64 - t167))))) else (none)) = some r := H
  have A2 := Aside0.mk A20
  clear A20
  obtain ⟨ji3, hji3⟩ : ∃ j_ : Int, (IntKind.u64.wrap (wrap64 (64 - t167))) = j_ := ⟨_, rfl⟩
  replace H : (if 0 ≤ (ji3) then (some (shr .u64 18446744073709551615 (ji3))) else (none)) = some r := by first | (rw [hji3] at H; exact H) | (simp only [hji3] at H ⊢; exact H)
  (try rw [hji3] at A2)
  by_cases c4 : 0 ≤ (ji3)
  · rw [if_pos c4] at H
    have c4b0 := eq_true c4
    have c4b1 : decide (0 ≤ (ji3)) = true := decide_eq_true c4
    clear c4
    obtain ⟨ji5, hji5⟩ : ∃ j_ : Int, (shr .u64 18446744073709551615 (ji3)) = j_ := ⟨_, rfl⟩
    replace H : (some ji5) = some r := by first | (rw [hji5] at H; exact H) | (simp only [hji5] at H ⊢; exact H)
    (try rw [hji5] at A2)
    have hji5_ : (18446744073709551615 / 2 ^ min (ji3).toNat 64) = ji5 := hji5
    have hji5z : (ji3) ≤ 64 → (18446744073709551615 / 2 ^ (ji3).toNat) = ji5 := shr_small hji5
    obtain rfl := Option.some.inj H
    go_enter Try.func128, Try.ntmps128
    go_wp2_with (first | ((with_reducible refine gate_callee (f := 90) rfl ?_); refine goesL_ (some 4) rfl rfl Try.func90 (by kernel_rfl) rfl #[.int .i64 a0] rfl (by (try simp only [List.map_toArray, List.map_cons, List.map_nil]); first | done | rfl | (simp only [List.length_drop, List.length_take]; rfl)) ?_; (with_reducible refine (spec_l04Rows.calls a0 t167 _ A2.out).mono ?_); rintro e w' ⟨rfl, ⟨nd, rfl⟩⟩; refine ⟨_, rfl, ?_⟩))
    go_ret
    exact ⟨by first | rfl | (simp; done) | (simp only [← hji3, ← hji5] <;> (first | rfl | simp)) | (simp [*]; done) | (exact congrArg (Value.int .i64) (wrap_eq (by omega))), by repeat (first | exact Drawn0.refl _ | apply Drawn0.step)⟩
  · rw [if_neg c4] at H
    exact absurd H (by simp)

/-! ### spec_l04Input: function 129 -/
def spec_l04Input.l0 : Nat → Int → Int → Int → Int → Option (Int)
  | 0, _, _, _, _ => none
  | k + 1, x0, x1, x5, x6 => (spec_l04Rows.f x0).bind fun t168 => (if x6 < t168 then (if 0 ≤ (IntKind.u64.wrap (x1)) then (if 0 ≤ (IntKind.u64.wrap (x6)) then (spec_l04Input.l0 k x0 x1 (Go.bits .or .u64 x5 (shl .u64 (IntKind.u64.wrap (Go.bits .and .i64 (shr .i64 x6 (IntKind.u64.wrap (x1))) 1)) (IntKind.u64.wrap (x6)))) (wrap64 (x6 + 1))) else (none)) else (none)) else (some x5))
def spec_l04Input.f (k : Nat) (a0 : Int) (a1 : Int) : Option (Int) := spec_l04Input.l0 k a0 a1 0 0
theorem spec_l04Input.mono_l : ∀ k, (∀ y0 y1 y2 y3, LeO (spec_l04Input.l0 k y0 y1 y2 y3) (spec_l04Input.l0 (k + 1) y0 y1 y2 y3))
  | 0 => fun _ _ _ _ r h => by simp [spec_l04Input.l0] at h
  | k + 1 => by
    have ih0 := spec_l04Input.mono_l k
    · intro y0 y1 y2 y3
      unfold spec_l04Input.l0
      repeat' first
      | (with_reducible exact ih0 _ _ _ _)
      | (with_reducible exact LeO.refl _)
      | (with_reducible exact LeO.none _)
      | (with_reducible refine LeO.ite ?_ ?_)
      | (with_reducible refine LeO.bind ?_ (fun _ => ?_))
      | exact ih0 _ _ _ _
      | exact LeO.none _
      | refine LeO.ite ?_ ?_
      | refine LeO.bind ?_ (fun _ => ?_)
theorem spec_l04Input.mono : ∀ a0 a1 k, LeO (spec_l04Input.f k a0 a1) (spec_l04Input.f (k + 1) a0 a1) := by
  intro a0 a1 k
  have ih0 := spec_l04Input.mono_l k
  unfold spec_l04Input.f
  repeat' first
      | (with_reducible exact ih0 _ _ _ _)
      | (with_reducible exact LeO.refl _)
      | (with_reducible exact LeO.none _)
      | (with_reducible refine LeO.ite ?_ ?_)
      | (with_reducible refine LeO.bind ?_ (fun _ => ?_))
      | exact ih0 _ _ _ _
      | exact LeO.none _
      | refine LeO.ite ?_ ?_
      | refine LeO.bind ?_ (fun _ => ?_)
set_option maxHeartbeats 8000000 in
set_option maxRecDepth 100000 in
theorem spec_l04Input.calls (k : Nat) (a0 : Int) (a1 : Int) (r : Int) (w : World) (h : spec_l04Input.f k a0 a1 = some r) :
    Calls Try.prog 129 #[.int .i64 a0, .int .i64 a1] w fun e w' => e = .returned (.int .u64 r) ∧ Drawn0 w w' := by
  have H : (spec_l04Input.l0 k a0 a1 0 0) = some r := h
  clear h
  have H' := Aside0.mk H
  clear H
  go_enter Try.func129, Try.ntmps129
  go_wp2
  go_loopg [5, 6] k (fun kq v5 v6 w' => ∃ (x5_1 : Int) (x6_1 : Int), v5 = .int .u64 x5_1 ∧ v6 = .int .i64 x6_1 ∧ Aside0 (spec_l04Input.l0 kq a0 a1 x5_1 x6_1 = some r) ∧ Aside0 (kq ≤ k) ∧ Drawn0 w w')
  case atStart => exact ⟨(0), (0), (by first | rfl | (simp; done) | (simp [*]; done) | (exact congrArg (Value.int .i64) (wrap_eq (by omega)))), (by first | rfl | (simp; done) | (simp [*]; done) | (exact congrArg (Value.int .i64) (wrap_eq (by omega)))), H', ⟨Nat.le_refl _⟩, by repeat (first | exact Drawn0.refl _ | apply Drawn0.step)⟩
  case round =>
    clear H'
    try clear c1
    try clear p2
    obtain ⟨x5_1, x6_1, rfl, rfl, HA, HK1, ⟨m1, rfl⟩⟩ := hrel
    cases gk with
    | zero => exact absurd HA.out (by simp [spec_l04Input.l0])
    | succ k1 =>
      have H := HA.out
      clear HA
      simp only [spec_l04Input.l0] at H
      replace H := Option.bind_eq_some_iff.mp H
      obtain ⟨t168, A30, H⟩ := H
      replace H : (if x6_1 < t168 then (if 0 ≤ (IntKind.u64.wrap (a1)) then (if 0 ≤ (IntKind.u64.wrap (x6_1)) then (spec_l04Input.l0 k1 a0 a1 (Go.bits .or .u64 x5_1 (shl .u64 (IntKind.u64.wrap (Go.bits .and .i64 (shr .i64 x6_1 (IntKind.u64.wrap (a1))) 1)) (IntKind.u64.wrap (x6_1)))) (wrap64 (x6_1 + 1))) else (none)) else (none)) else (some x5_1)) = some r := H
      have A3 := Aside0.mk A30
      clear A30
      by_cases c4 : x6_1 < t168
      · rw [if_pos c4] at H
        have c4b0 : decide (x6_1 < t168) = true := decide_eq_true c4
        clear c4
        obtain ⟨ji5, hji5⟩ : ∃ j_ : Int, (IntKind.u64.wrap (a1)) = j_ := ⟨_, rfl⟩
        replace H : (if 0 ≤ (ji5) then (if 0 ≤ (IntKind.u64.wrap (x6_1)) then (spec_l04Input.l0 k1 a0 a1 (Go.bits .or .u64 x5_1 (shl .u64 (IntKind.u64.wrap (Go.bits .and .i64 (shr .i64 x6_1 (ji5)) 1)) (IntKind.u64.wrap (x6_1)))) (wrap64 (x6_1 + 1))) else (none)) else (none)) = some r := by first | (rw [hji5] at H; exact H) | (simp only [hji5] at H ⊢; exact H)
        (try rw [hji5] at A3)
        by_cases c6 : 0 ≤ (ji5)
        · rw [if_pos c6] at H
          have c6b0 := eq_true c6
          have c6b1 : decide (0 ≤ (ji5)) = true := decide_eq_true c6
          clear c6
          obtain ⟨ji7, hji7⟩ : ∃ j_ : Int, (shr .i64 x6_1 (ji5)) = j_ := ⟨_, rfl⟩
          replace H : (if 0 ≤ (IntKind.u64.wrap (x6_1)) then (spec_l04Input.l0 k1 a0 a1 (Go.bits .or .u64 x5_1 (shl .u64 (IntKind.u64.wrap (Go.bits .and .i64 (ji7) 1)) (IntKind.u64.wrap (x6_1)))) (wrap64 (x6_1 + 1))) else (none)) = some r := by first | (rw [hji7] at H; exact H) | (simp only [hji7] at H ⊢; exact H)
          (try rw [hji7] at A3)
          have hji7_ : (x6_1 / 2 ^ min (ji5).toNat 64) = ji7 := hji7
          have hji7z : (ji5) ≤ 64 → (x6_1 / 2 ^ (ji5).toNat) = ji7 := shr_small hji7
          obtain ⟨ji8, hji8⟩ : ∃ j_ : Int, (IntKind.u64.wrap (x6_1)) = j_ := ⟨_, rfl⟩
          replace H : (if 0 ≤ (ji8) then (spec_l04Input.l0 k1 a0 a1 (Go.bits .or .u64 x5_1 (shl .u64 (IntKind.u64.wrap (Go.bits .and .i64 (ji7) 1)) (ji8))) (wrap64 (x6_1 + 1))) else (none)) = some r := by first | (rw [hji8] at H; exact H) | (simp only [hji8] at H ⊢; exact H)
          (try rw [hji8] at A3)
          by_cases c9 : 0 ≤ (ji8)
          · rw [if_pos c9] at H
            have c9b0 := eq_true c9
            have c9b1 : decide (0 ≤ (ji8)) = true := decide_eq_true c9
            clear c9
            obtain ⟨ji10, hji10⟩ : ∃ j_ : Int, (shl .u64 (IntKind.u64.wrap (Go.bits .and .i64 (ji7) 1)) (ji8)) = j_ := ⟨_, rfl⟩
            replace H : (spec_l04Input.l0 k1 a0 a1 (Go.bits .or .u64 x5_1 (ji10)) (wrap64 (x6_1 + 1))) = some r := by first | (rw [hji10] at H; exact H) | (simp only [hji10] at H ⊢; exact H)
            (try rw [hji10] at A3)
            have hji10_ : (IntKind.u64.wrap ((IntKind.u64.wrap (Go.bits .and .i64 (ji7) 1)) * 2 ^ min (ji8).toNat 64)) = ji10 := hji10
            have hji10z : (ji8) ≤ 64 → (IntKind.u64.wrap ((IntKind.u64.wrap (Go.bits .and .i64 (ji7) 1)) * 2 ^ (ji8).toNat)) = ji10 := shl_small hji10
            have H' := Aside0.mk H
            clear H
            go_wp2_with (first | ((with_reducible refine gate_callee (f := 90) rfl ?_); refine goesL_ (some 9) rfl rfl Try.func90 (by kernel_rfl) rfl #[.int .i64 a0] rfl (by (try simp only [List.map_toArray, List.map_cons, List.map_nil]); first | done | rfl | (simp only [List.length_drop, List.length_take]; rfl)) ?_; (with_reducible refine (spec_l04Rows.calls a0 t168 _ A3.out).mono ?_); rintro e w' ⟨rfl, ⟨nd, rfl⟩⟩; refine ⟨_, rfl, ?_⟩))
            go_roundg k1
            case measure => have := HK1.out; omega
            case rel => exact ⟨(Go.bits .or .u64 x5_1 (ji10)), (wrap64 (x6_1 + 1)), (by first | rfl | (simp; done) | (simp only [← hji10] <;> (first | rfl | simp)) | (simp [*]; done) | (exact congrArg (Value.int .i64) (wrap_eq (by omega)))), (by first | rfl | (simp; done) | (simp [*]; done) | (exact congrArg (Value.int .i64) (wrap_eq (by omega)))), H', ⟨by have := HK1.out; omega⟩, by repeat (first | exact Drawn0.refl _ | apply Drawn0.step)⟩
          · rw [if_neg c9] at H
            exact absurd H (by simp)
        · rw [if_neg c6] at H
          exact absurd H (by simp)
      · rw [if_neg c4] at H
        have c4b0 : decide (x6_1 < t168) = false := decide_eq_false c4
        clear c4
        obtain rfl := Option.some.inj H
        go_wp2_with (first | ((with_reducible refine gate_callee (f := 90) rfl ?_); refine goesL_ (some 9) rfl rfl Try.func90 (by kernel_rfl) rfl #[.int .i64 a0] rfl (by (try simp only [List.map_toArray, List.map_cons, List.map_nil]); first | done | rfl | (simp only [List.length_drop, List.length_take]; rfl)) ?_; (with_reducible refine (spec_l04Rows.calls a0 t168 _ A3.out).mono ?_); rintro e w' ⟨rfl, ⟨nd, rfl⟩⟩; refine ⟨_, rfl, ?_⟩))
        go_ret
        exact ⟨by first | rfl | (simp; done) | (simp [*]; done) | (exact congrArg (Value.int .i64) (wrap_eq (by omega))), by repeat (first | exact Drawn0.refl _ | apply Drawn0.step)⟩

/-! ### spec_l04Tables: function 96 -/
def spec_l04Tables.l0 : Nat → List (S31) → Int → List Int → Int → Option (List Int)
  | 0, _, _, _, _ => none
  | k + 1, x0, x3, x4, x5 => if 0 < (x0.length : Int) then (if x5 < (((rd_T31 x0 0).f1).length : Int) then (if 0 ≤ x5 then (if ((rd_T81 ((rd_T31 x0 0).f1) x5).f0) = 0 then ((spec_l04Input.f k (wrap64 ((rd_T31 x0 0).f0)) (wrap64 ((rd_T81 ((rd_T31 x0 0).f1) x5).f1))).bind fun t179 => (if x4.length < 17592186044416 then (spec_l04Tables.l0 k x0 x3 (x4 ++ [t179]) (wrap64 (x5 + 1))) else (none))) else (if ((rd_T81 ((rd_T31 x0 0).f1) x5).f0) = 2 then (if 0 ≤ ((rd_T81 ((rd_T31 x0 0).f1) x5).f1) then (if ((rd_T81 ((rd_T31 x0 0).f1) x5).f1) < (x4.length : Int) then (if 0 ≤ ((rd_T81 ((rd_T31 x0 0).f1) x5).f2) then (if ((rd_T81 ((rd_T31 x0 0).f1) x5).f2) < (x4.length : Int) then (if x4.length < 17592186044416 then (spec_l04Tables.l0 k x0 x3 (x4 ++ [Go.bits .or .u64 (rd x4 ((rd_T81 ((rd_T31 x0 0).f1) x5).f1)) (rd x4 ((rd_T81 ((rd_T31 x0 0).f1) x5).f2))]) (wrap64 (x5 + 1))) else (none)) else (none)) else (none)) else (none)) else (none)) else (if ((rd_T81 ((rd_T31 x0 0).f1) x5).f0) = 3 then (if 0 ≤ ((rd_T81 ((rd_T31 x0 0).f1) x5).f1) then (if ((rd_T81 ((rd_T31 x0 0).f1) x5).f1) < (x4.length : Int) then (if 0 ≤ ((rd_T81 ((rd_T31 x0 0).f1) x5).f2) then (if ((rd_T81 ((rd_T31 x0 0).f1) x5).f2) < (x4.length : Int) then (if x4.length < 17592186044416 then (spec_l04Tables.l0 k x0 x3 (x4 ++ [Go.bits .andNot .u64 (rd x4 ((rd_T81 ((rd_T31 x0 0).f1) x5).f1)) (rd x4 ((rd_T81 ((rd_T31 x0 0).f1) x5).f2))]) (wrap64 (x5 + 1))) else (none)) else (none)) else (none)) else (none)) else (none)) else (if x4.length < 17592186044416 then (spec_l04Tables.l0 k x0 x3 (x4 ++ [x3]) (wrap64 (x5 + 1))) else (none))))) else (none)) else (some x4)) else (none)
def spec_l04Tables.f (k : Nat) (l0 : List (S31)) : Option (List Int) := if 0 < (l0.length : Int) then ((spec_l04Full.f (wrap64 ((rd_T31 l0 0).f0))).bind fun t170 => (spec_l04Tables.l0 k l0 t170 (([] : List Int)) 0)) else (none)
theorem spec_l04Tables.mono_l : ∀ k, (∀ y0 y1 y2 y3, LeO (spec_l04Tables.l0 k y0 y1 y2 y3) (spec_l04Tables.l0 (k + 1) y0 y1 y2 y3))
  | 0 => fun _ _ _ _ r h => by simp [spec_l04Tables.l0] at h
  | k + 1 => by
    have ih0 := spec_l04Tables.mono_l k
    · intro y0 y1 y2 y3
      unfold spec_l04Tables.l0
      repeat' first
      | (with_reducible exact ih0 _ _ _ _)
      | (with_reducible exact spec_l04Input.mono _ _ _)
      | (with_reducible exact LeO.refl _)
      | (with_reducible exact LeO.none _)
      | (with_reducible refine LeO.ite ?_ ?_)
      | (with_reducible refine LeO.bind ?_ (fun _ => ?_))
      | exact ih0 _ _ _ _
      | exact spec_l04Input.mono _ _ _
      | exact LeO.none _
      | refine LeO.ite ?_ ?_
      | refine LeO.bind ?_ (fun _ => ?_)
theorem spec_l04Tables.mono : ∀ a0 k, LeO (spec_l04Tables.f k a0) (spec_l04Tables.f (k + 1) a0) := by
  intro a0 k
  have ih0 := spec_l04Tables.mono_l k
  unfold spec_l04Tables.f
  repeat' first
      | (with_reducible exact ih0 _ _ _ _)
      | (with_reducible exact spec_l04Input.mono _ _ _)
      | (with_reducible exact LeO.refl _)
      | (with_reducible exact LeO.none _)
      | (with_reducible refine LeO.ite ?_ ?_)
      | (with_reducible refine LeO.bind ?_ (fun _ => ?_))
      | exact ih0 _ _ _ _
      | exact spec_l04Input.mono _ _ _
      | exact LeO.none _
      | refine LeO.ite ?_ ?_
      | refine LeO.bind ?_ (fun _ => ?_)
set_option maxHeartbeats 8000000 in
set_option maxRecDepth 100000 in
theorem spec_l04Tables.calls (k : Nat) (adp0 : Addr) (l0 : List (S31)) (r : List Int) (w : World) (hr0 : Kd.C k31 w (some adp0) l0.length l0) (h : spec_l04Tables.f k l0 = some r) :
    Calls Try.prog 96 #[.pointer (some adp0)] w fun e w' => ∃ v0_ : Value, e = .returned (v0_) ∧ Kd.R (Kd.int .u64) 98 w' w.heap.size (fun _ => True) v0_ r ∧ Below w.heap.size w w' := by
  have hu81 := Try.underlying81
  have HR0 := Aside0.mk hr0
  clear hr0
  have HB := Aside0.mk (Below.refl w.heap.size w)
  have H : (if 0 < (l0.length : Int) then ((spec_l04Full.f (wrap64 ((rd_T31 l0 0).f0))).bind fun t170 => (spec_l04Tables.l0 k l0 t170 (([] : List Int)) 0)) else (none)) = some r := h
  clear h
  by_cases c2 : 0 < (l0.length : Int)
  · rw [if_pos c2] at H
    have c2b0 : decide (0 < (l0.length : Int)) = true := decide_eq_true c2
    have c2b1 : decide (0 < l0.length) = true := decide_eq_true (by omega)
    clear c2
    replace H := Option.bind_eq_some_iff.mp H
    obtain ⟨t170, A30, H⟩ := H
    replace H : (spec_l04Tables.l0 k l0 t170 (([] : List Int)) 0) = some r := H
    have A3 := Aside0.mk A30
    clear A30
    obtain ⟨y171, hy171⟩ : ∃ y_ : List Int, y_ = (([] : List Int)) := ⟨_, rfl⟩
    replace H : (spec_l04Tables.l0 k l0 t170 y171 0) = some r := by first | (rw [hy171]; with_reducible exact H) | (have H2_ := (Option.bind_some _ _).symm.trans H; rw [hy171]; with_reducible exact H2_) | (have H2_ := (Option.bind_some _ _).symm.trans H; with_reducible exact H2_) | with_reducible exact H | (rw [hy171]; exact H) | exact H
    have Ny171 := Aside0.mk hy171
    clear hy171
    have H' := Aside0.mk H
    clear H
    have p169 : 0 ≤ (0 : Int) := (by omega)
    have q169 : 0 < (l0.length : Int) := of_decide_eq_true (by first | (with_reducible assumption) | assumption)
    obtain ⟨ad169, A169_1, c169_1, A169_2, c169_2, e169, hx169_0, hx169_1, hx169_2, hl169_1, hi169_1, hl169_2, hi169_2⟩ := at_T31 HR0.out 0 p169 q169
    obtain rfl : adp0 = ad169 := (by injection e169)
    have qi169 : (0 < l0.length) = True := eq_true (by omega)
    (try rw [show ((0 : Int)).toNat = 0 from rfl] at hx169_0)
    (try rw [show 0 * 3 = 0 from rfl] at hx169_0)
    (try rw [Addr.add_zero'] at hx169_0)
    (try rw [show ((0 : Int)).toNat = 0 from rfl] at hx169_1)
    (try rw [show 0 * 3 = 0 from rfl] at hx169_1)
    (try rw [Addr.add_zero'] at hx169_1)
    (try rw [show ((0 : Int)).toNat = 0 from rfl] at hx169_2)
    (try rw [show 0 * 3 = 0 from rfl] at hx169_2)
    (try rw [Addr.add_zero'] at hx169_2)
    have HR169_1 := Aside0.mk hi169_1
    have HC169_1 := Aside0.mk hl169_1
    clear hi169_1 hl169_1
    have HR169_2 := Aside0.mk hi169_2
    have HC169_2 := Aside0.mk hl169_2
    clear hi169_2 hl169_2
    replace p169 := eq_true p169
    replace q169 := eq_true q169
    go_enter Try.func96, Try.ntmps96
    go_wp2_with (first | (go_at_call 128; (with_reducible refine (spec_l04Full.calls (wrap64 ((rd_T31 l0 0).f0)) t170 _ A3.out).mono ?_); rintro e w' ⟨rfl, ⟨nd, rfl⟩⟩; (try first | exact ⟨rfl, _, World.drewN_drewN _ _ _⟩ | exact ⟨rfl, _, Eq.trans (World.drewN_drewN _ _ _) (congrArg (World.drewN _) (Nat.add_assoc _ _ _))⟩)) | ((with_reducible refine gate_dst (N := 14) rfl ?_); refine Kd.R_lit (Kd.int .u64) _ 98 ?hg (N := 14) ?hd (xs := ([] : List Int)) (inner := []) (ok := fun _ => True) (okp := fun _ => True) ?hr ?hp (fun _ hk => hk) trivial (Below.refl _ _) (Nat.le_refl _) (by simp) ?_; (case hd => rfl); (case hg => rfl); (case hr => first | (go_simp; done) | (go_simp; rfl)); (case hp => exact (Reps.none _ _)); intro v172 w4 ho5 hb hg_ hnew_; clear hg_ hnew_; (first | rw [← Ny171.out] at ho5 | (simp only [Int.reduceToNat] at ho5; rw [← Ny171.out] at ho5)); have n0_ := Aside0.mk (Kd.R_lower ho5 (below_size (by repeat (first | (with_reducible first | exact HB.out | apply below_alloc | apply pw_below_drewN | apply below_drew1) | exact HB.out)))); have n1_ := Aside0.mk (below_step (by repeat (first | (with_reducible first | exact HB.out | apply below_alloc | apply pw_below_drewN | apply below_drew1) | exact HB.out)) hb); clear HB; have HO173 := n0_; have HB := n1_; clear n0_ n1_; clear hb ho5))
    repeat (go_quiet (first | (go_at_call 128; (with_reducible refine (spec_l04Full.calls (wrap64 ((rd_T31 l0 0).f0)) t170 _ A3.out).mono ?_); rintro e w' ⟨rfl, ⟨nd, rfl⟩⟩; (try first | exact ⟨rfl, _, World.drewN_drewN _ _ _⟩ | exact ⟨rfl, _, Eq.trans (World.drewN_drewN _ _ _) (congrArg (World.drewN _) (Nat.add_assoc _ _ _))⟩)) | ((with_reducible refine gate_dst (N := 14) rfl ?_); refine Kd.R_lit (Kd.int .u64) _ 98 ?hg (N := 14) ?hd (xs := ([] : List Int)) (inner := []) (ok := fun _ => True) (okp := fun _ => True) ?hr ?hp (fun _ hk => hk) trivial (Below.refl _ _) (Nat.le_refl _) (by simp) ?_; (case hd => rfl); (case hg => rfl); (case hr => first | (go_simp; done) | (go_simp; rfl)); (case hp => exact (Reps.none _ _)); intro v172 w4 ho5 hb hg_ hnew_; clear hg_ hnew_; (first | rw [← Ny171.out] at ho5 | (simp only [Int.reduceToNat] at ho5; rw [← Ny171.out] at ho5)); have n0_ := Aside0.mk (Kd.R_lower ho5 (below_size (by repeat (first | (with_reducible first | exact HB.out | apply below_alloc | apply pw_below_drewN | apply below_drew1) | exact HB.out)))); have n1_ := Aside0.mk (below_step (by repeat (first | (with_reducible first | exact HB.out | apply below_alloc | apply pw_below_drewN | apply below_drew1) | exact HB.out)) hb); clear HB; have HO173 := n0_; have HB := n1_; clear n0_ n1_; clear hb ho5)); try go_wp2_with (first | (go_at_call 128; (with_reducible refine (spec_l04Full.calls (wrap64 ((rd_T31 l0 0).f0)) t170 _ A3.out).mono ?_); rintro e w' ⟨rfl, ⟨nd, rfl⟩⟩; (try first | exact ⟨rfl, _, World.drewN_drewN _ _ _⟩ | exact ⟨rfl, _, Eq.trans (World.drewN_drewN _ _ _) (congrArg (World.drewN _) (Nat.add_assoc _ _ _))⟩)) | ((with_reducible refine gate_dst (N := 14) rfl ?_); refine Kd.R_lit (Kd.int .u64) _ 98 ?hg (N := 14) ?hd (xs := ([] : List Int)) (inner := []) (ok := fun _ => True) (okp := fun _ => True) ?hr ?hp (fun _ hk => hk) trivial (Below.refl _ _) (Nat.le_refl _) (by simp) ?_; (case hd => rfl); (case hg => rfl); (case hr => first | (go_simp; done) | (go_simp; rfl)); (case hp => exact (Reps.none _ _)); intro v172 w4 ho5 hb hg_ hnew_; clear hg_ hnew_; (first | rw [← Ny171.out] at ho5 | (simp only [Int.reduceToNat] at ho5; rw [← Ny171.out] at ho5)); have n0_ := Aside0.mk (Kd.R_lower ho5 (below_size (by repeat (first | (with_reducible first | exact HB.out | apply below_alloc | apply pw_below_drewN | apply below_drew1) | exact HB.out)))); have n1_ := Aside0.mk (below_step (by repeat (first | (with_reducible first | exact HB.out | apply below_alloc | apply pw_below_drewN | apply below_drew1) | exact HB.out)) hb); clear HB; have HO173 := n0_; have HB := n1_; clear n0_ n1_; clear hb ho5)))
    go_loopg [4, 5] k (fun kq v4 v5 w' => ∃ (x4_1 : List Int) (x5_1 : Int), v5 = .int .i64 x5_1 ∧ Aside0 (spec_l04Tables.l0 kq l0 t170 x4_1 x5_1 = some r) ∧ Aside0 (kq ≤ k) ∧ Aside0 (Kd.R (Kd.int .u64) 98 w' w.heap.size (fun _ => True) v4 x4_1) ∧ Aside0 (Below w.heap.size w w'))
    case atStart => exact ⟨(y171), (0), (by first | rfl | (simp; done) | (simp [*]; done) | (exact congrArg (Value.int .i64) (wrap_eq (by omega)))), H', ⟨Nat.le_refl _⟩, ⟨by (with_reducible repeat (first | apply Kd.R_alloc | apply Kd.R_drewN | apply Kd.R_drew)); exact HO173.out⟩, ⟨by repeat (first | (with_reducible first | exact HB.out | apply below_alloc | apply pw_below_drewN | apply below_drew1) | exact HB.out)⟩⟩
    case round =>
      clear H'
      try clear c1
      try clear p1
      try clear q1
      try clear hx1
      try clear qi1
      try clear c2
      try clear c2b0
      try clear c2b1
      try clear p2
      try clear hx169_0
      try clear hx169_1
      try clear hx169_2
      try clear p169
      try clear q169
      obtain ⟨x4_1, x5_1, rfl, HA, HK1, HO_4, HB⟩ := hrel
      cases gk with
      | zero => exact absurd HA.out (by simp [spec_l04Tables.l0])
      | succ k1 =>
        have H := HA.out
        clear HA
        simp only [spec_l04Tables.l0] at H
        by_cases c6 : 0 < (l0.length : Int)
        · rw [if_pos c6] at H
          have c6b0 : decide (0 < (l0.length : Int)) = true := decide_eq_true c6
          have c6b1 : decide (0 < l0.length) = true := decide_eq_true (by omega)
          clear c6
          by_cases c7 : x5_1 < (((rd_T31 l0 0).f1).length : Int)
          · rw [if_pos c7] at H
            have c7b0 : decide (x5_1 < (((rd_T31 l0 0).f1).length : Int)) = true := decide_eq_true c7
            clear c7
            by_cases c8 : 0 ≤ x5_1
            · rw [if_pos c8] at H
              have c8b0 : decide (0 ≤ x5_1) = true := decide_eq_true c8
              clear c8
              by_cases c9 : ((rd_T81 ((rd_T31 l0 0).f1) x5_1).f0) = 0
              · rw [if_pos c9] at H
                have c9b0 : (((rd_T81 ((rd_T31 l0 0).f1) x5_1).f0) == 0) = true := beq_iff_eq.mpr c9
                have c9b1 : (((rd_T81 ((rd_T31 l0 0).f1) x5_1).f0) != 0) = false := bne_eq_false_iff_eq.mpr c9
                clear c9
                replace H := Option.bind_eq_some_iff.mp H
                obtain ⟨t179, A100, H⟩ := H
                replace H : (if x4_1.length < 17592186044416 then (spec_l04Tables.l0 k1 l0 t170 (x4_1 ++ [t179]) (wrap64 (x5_1 + 1))) else (none)) = some r := H
                have A10 := Aside0.mk A100
                clear A100
                by_cases c11 : x4_1.length < 17592186044416
                · rw [if_pos c11] at H
                  have LMc11 := Aside0.mk c11
                  clear c11
                  obtain ⟨y180, hy180⟩ : ∃ y_ : List Int, y_ = (x4_1 ++ [t179]) := ⟨_, rfl⟩
                  replace H : (spec_l04Tables.l0 k1 l0 t170 y180 (wrap64 (x5_1 + 1))) = some r := by first | (rw [hy180]; with_reducible exact H) | (have H2_ := (Option.bind_some _ _).symm.trans H; rw [hy180]; with_reducible exact H2_) | (have H2_ := (Option.bind_some _ _).symm.trans H; with_reducible exact H2_) | with_reducible exact H | (rw [hy180]; exact H) | exact H
                  have Ny180 := Aside0.mk hy180
                  clear hy180
                  have H' := Aside0.mk H
                  clear H
                  have p174 : 0 ≤ (0 : Int) := (by omega)
                  have q174 : 0 < (l0.length : Int) := of_decide_eq_true (by first | (with_reducible assumption) | assumption)
                  obtain ⟨ad174, A174_1, c174_1, A174_2, c174_2, e174, hx174_0, hx174_1, hx174_2, hl174_1, hi174_1, hl174_2, hi174_2⟩ := at_T31 HR0.out 0 p174 q174
                  obtain rfl : adp0 = ad174 := (by injection e174)
                  have qi174 : (0 < l0.length) = True := eq_true (by omega)
                  (try rw [show ((0 : Int)).toNat = 0 from rfl] at hx174_0)
                  (try rw [show 0 * 3 = 0 from rfl] at hx174_0)
                  (try rw [Addr.add_zero'] at hx174_0)
                  (try rw [show ((0 : Int)).toNat = 0 from rfl] at hx174_1)
                  (try rw [show 0 * 3 = 0 from rfl] at hx174_1)
                  (try rw [Addr.add_zero'] at hx174_1)
                  (try rw [show ((0 : Int)).toNat = 0 from rfl] at hx174_2)
                  (try rw [show 0 * 3 = 0 from rfl] at hx174_2)
                  (try rw [Addr.add_zero'] at hx174_2)
                  replace hx174_0 := (HB.out.cell (World.block_lt_of_cell? w _ hx174_0)).trans hx174_0
                  replace hx174_1 := (HB.out.cell (World.block_lt_of_cell? w _ hx174_1)).trans hx174_1
                  replace hx174_2 := (HB.out.cell (World.block_lt_of_cell? w _ hx174_2)).trans hx174_2
                  have HR174_1 := Aside0.mk hi174_1
                  have HC174_1 := Aside0.mk hl174_1
                  clear hi174_1 hl174_1
                  have HR174_2 := Aside0.mk hi174_2
                  have HC174_2 := Aside0.mk hl174_2
                  clear hi174_2 hl174_2
                  replace p174 := eq_true p174
                  replace q174 := eq_true q174
                  have p175 : 0 ≤ (0 : Int) := (by omega)
                  have q175 : 0 < (l0.length : Int) := of_decide_eq_true (by first | (with_reducible assumption) | assumption)
                  obtain ⟨ad175, A175_1, c175_1, A175_2, c175_2, e175, hx175_0, hx175_1, hx175_2, hl175_1, hi175_1, hl175_2, hi175_2⟩ := at_T31 HR0.out 0 p175 q175
                  obtain rfl : adp0 = ad175 := (by injection e175)
                  have qi175 : (0 < l0.length) = True := eq_true (by omega)
                  (try rw [show ((0 : Int)).toNat = 0 from rfl] at hx175_0)
                  (try rw [show 0 * 3 = 0 from rfl] at hx175_0)
                  (try rw [Addr.add_zero'] at hx175_0)
                  (try rw [show ((0 : Int)).toNat = 0 from rfl] at hx175_1)
                  (try rw [show 0 * 3 = 0 from rfl] at hx175_1)
                  (try rw [Addr.add_zero'] at hx175_1)
                  (try rw [show ((0 : Int)).toNat = 0 from rfl] at hx175_2)
                  (try rw [show 0 * 3 = 0 from rfl] at hx175_2)
                  (try rw [Addr.add_zero'] at hx175_2)
                  replace hx175_0 := (HB.out.cell (World.block_lt_of_cell? w _ hx175_0)).trans hx175_0
                  replace hx175_1 := (HB.out.cell (World.block_lt_of_cell? w _ hx175_1)).trans hx175_1
                  replace hx175_2 := (HB.out.cell (World.block_lt_of_cell? w _ hx175_2)).trans hx175_2
                  have HR175_1 := Aside0.mk hi175_1
                  have HC175_1 := Aside0.mk hl175_1
                  clear hi175_1 hl175_1
                  have HR175_2 := Aside0.mk hi175_2
                  have HC175_2 := Aside0.mk hl175_2
                  clear hi175_2 hl175_2
                  replace p175 := eq_true p175
                  replace q175 := eq_true q175
                  have ea_ := Option.some.inj (hx174_1.symm.trans hx175_1)
                  injection ea_ with ea_ en_ ec_
                  subst ea_
                  subst ec_
                  clear en_
                  have ea_ := Option.some.inj (hx174_2.symm.trans hx175_2)
                  injection ea_ with ea_ en_ ec_
                  subst ea_
                  subst ec_
                  clear en_
                  have p176 : 0 ≤ (x5_1 : Int) := of_decide_eq_true (by first | (with_reducible assumption) | assumption)
                  have q176 : x5_1 < (((rd_T31 l0 0).f1).length : Int) := of_decide_eq_true (by first | (with_reducible assumption) | assumption)
                  obtain ⟨ad176, e176, hx176_0, hx176_1, hx176_2⟩ := at_T81 HR175_1.out x5_1 p176 q176
                  cases e176
                  replace hx176_0 := (HB.out.cell (World.block_lt_of_cell? w _ hx176_0)).trans hx176_0
                  replace hx176_1 := (HB.out.cell (World.block_lt_of_cell? w _ hx176_1)).trans hx176_1
                  replace hx176_2 := (HB.out.cell (World.block_lt_of_cell? w _ hx176_2)).trans hx176_2
                  replace p176 := eq_true p176
                  replace q176 := eq_true q176
                  go_wp2_with (first | ((with_reducible refine gate_dst (N := 6) rfl ?_); refine box_event ?hg (N := 6) ?hd (cs := #[.int .i8 0, .int .i16 0, .int .i16 0]) (t := 81) ?hr ?_; (case hd => rfl); (case hg => rfl); (case hr => first | (go_simp; done) | (go_simp; rfl)); intro gb177 hg w12 hbox hb; have n0_ := Aside0.mk (Kd.R_below (by (with_reducible repeat (first | apply Kd.R_alloc | apply Kd.R_drewN | apply Kd.R_drew)); exact HO_4.out) hb); have n1_ := Aside0.mk (below_step (by repeat (first | (with_reducible first | exact HB.out | apply below_alloc | apply pw_below_drewN | apply below_drew1) | exact HB.out)) hb); have n2_ := Aside0.mk (hbox); have n3_ := Aside0.mk ((by rw [hg]; exact (below_size (by repeat (first | (with_reducible first | exact HB.out | apply below_alloc | apply pw_below_drewN | apply below_drew1) | exact HB.out))) : w.heap.size ≤ gb177)); have n4_ := Aside0.mk ((by rw [hg]; exact (below_size (by repeat (first | (with_reducible first | exact HB.out | apply below_alloc | apply pw_below_drewN | apply below_drew1) | exact HB.out))) : w.heap.size ≤ gb177)); clear HO_4; clear HB; have HO_4 := n0_; have HB := n1_; have BK177 := n2_; have GW177 := n3_; have GE177 := n4_; clear n0_ n1_ n2_ n3_ n4_; clear hb hbox hg; have hcz13_0 : w12.cell? ⟨gb177, 0, none⟩ = some (.int .i8 0) := (blk_cell BK177.out 0).trans rfl; have hcz13_1 : w12.cell? ⟨gb177, 1, none⟩ = some (.int .i16 0) := (blk_cell BK177.out 1).trans rfl; have hcz13_2 : w12.cell? ⟨gb177, 2, none⟩ = some (.int .i16 0) := (blk_cell BK177.out 2).trans rfl; have hfz13_0 := blk_frozen BK177.out 0; have hfz13_1 := blk_frozen BK177.out 1; have hfz13_2 := blk_frozen BK177.out 2; have p178 : 0 ≤ (0 : Int) := (by omega); have q178 : 0 < (l0.length : Int) := of_decide_eq_true (by first | (with_reducible assumption) | assumption); obtain ⟨ad178, A178_1, c178_1, A178_2, c178_2, e178, hx178_0, hx178_1, hx178_2, hl178_1, hi178_1, hl178_2, hi178_2⟩ := at_T31 HR0.out 0 p178 q178; obtain rfl : adp0 = ad178 := (by injection e178); have qi178 : (0 < l0.length) = True := eq_true (by omega); (try rw [show ((0 : Int)).toNat = 0 from rfl] at hx178_0); (try rw [show 0 * 3 = 0 from rfl] at hx178_0); (try rw [Addr.add_zero'] at hx178_0); (try rw [show ((0 : Int)).toNat = 0 from rfl] at hx178_1); (try rw [show 0 * 3 = 0 from rfl] at hx178_1); (try rw [Addr.add_zero'] at hx178_1); (try rw [show ((0 : Int)).toNat = 0 from rfl] at hx178_2); (try rw [show 0 * 3 = 0 from rfl] at hx178_2); (try rw [Addr.add_zero'] at hx178_2); have hn178_0 : adp0.block ≠ gb177 := Nat.ne_of_lt (Nat.lt_of_lt_of_le (by have := World.block_lt_of_cell? _ _ hx178_0; first | rwa [add_block] at this | exact this) GW177.out); have hn178_1 : adp0.block ≠ gb177 := Nat.ne_of_lt (Nat.lt_of_lt_of_le (by have := World.block_lt_of_cell? _ _ hx178_0; first | rwa [add_block] at this | exact this) GW177.out); have hn178_2 : adp0.block ≠ gb177 := Nat.ne_of_lt (Nat.lt_of_lt_of_le (by have := World.block_lt_of_cell? _ _ hx178_0; first | rwa [add_block] at this | exact this) GW177.out); replace hx178_0 := (HB.out.cell (World.block_lt_of_cell? w _ hx178_0)).trans hx178_0; replace hx178_1 := (HB.out.cell (World.block_lt_of_cell? w _ hx178_1)).trans hx178_1; replace hx178_2 := (HB.out.cell (World.block_lt_of_cell? w _ hx178_2)).trans hx178_2; have HR178_1 := Aside0.mk hi178_1; have HC178_1 := Aside0.mk hl178_1; clear hi178_1 hl178_1; have HR178_2 := Aside0.mk hi178_2; have HC178_2 := Aside0.mk hl178_2; clear hi178_2 hl178_2; replace hx178_0 := (cell_far (p := ⟨gb177, 0, none⟩) (by first | (rw [add_block]; exact hn178_0) | (show (Addr.add _ _).block ≠ _; rw [add_block]; exact hn178_0) | exact hn178_0) (.int .i8 ((rd_T81 ((rd_T31 l0 0).f1) x5_1).f0))).trans hx178_0; replace hx178_1 := (cell_far (p := ⟨gb177, 0, none⟩) (by first | (rw [add_block]; exact hn178_0) | (show (Addr.add _ _).block ≠ _; rw [add_block]; exact hn178_0) | exact hn178_0) (.int .i8 ((rd_T81 ((rd_T31 l0 0).f1) x5_1).f0))).trans hx178_1; replace hx178_2 := (cell_far (p := ⟨gb177, 0, none⟩) (by first | (rw [add_block]; exact hn178_0) | (show (Addr.add _ _).block ≠ _; rw [add_block]; exact hn178_0) | exact hn178_0) (.int .i8 ((rd_T81 ((rd_T31 l0 0).f1) x5_1).f0))).trans hx178_2; replace hx178_0 := (cell_far (p := ⟨gb177, 1, none⟩) (by first | (rw [add_block]; exact hn178_1) | (show (Addr.add _ _).block ≠ _; rw [add_block]; exact hn178_1) | exact hn178_1) (.int .i16 ((rd_T81 ((rd_T31 l0 0).f1) x5_1).f1))).trans hx178_0; replace hx178_1 := (cell_far (p := ⟨gb177, 1, none⟩) (by first | (rw [add_block]; exact hn178_1) | (show (Addr.add _ _).block ≠ _; rw [add_block]; exact hn178_1) | exact hn178_1) (.int .i16 ((rd_T81 ((rd_T31 l0 0).f1) x5_1).f1))).trans hx178_1; replace hx178_2 := (cell_far (p := ⟨gb177, 1, none⟩) (by first | (rw [add_block]; exact hn178_1) | (show (Addr.add _ _).block ≠ _; rw [add_block]; exact hn178_1) | exact hn178_1) (.int .i16 ((rd_T81 ((rd_T31 l0 0).f1) x5_1).f1))).trans hx178_2; replace hx178_0 := (cell_far (p := ⟨gb177, 2, none⟩) (by first | (rw [add_block]; exact hn178_2) | (show (Addr.add _ _).block ≠ _; rw [add_block]; exact hn178_2) | exact hn178_2) (.int .i16 ((rd_T81 ((rd_T31 l0 0).f1) x5_1).f2))).trans hx178_0; replace hx178_1 := (cell_far (p := ⟨gb177, 2, none⟩) (by first | (rw [add_block]; exact hn178_2) | (show (Addr.add _ _).block ≠ _; rw [add_block]; exact hn178_2) | exact hn178_2) (.int .i16 ((rd_T81 ((rd_T31 l0 0).f1) x5_1).f2))).trans hx178_1; replace hx178_2 := (cell_far (p := ⟨gb177, 2, none⟩) (by first | (rw [add_block]; exact hn178_2) | (show (Addr.add _ _).block ≠ _; rw [add_block]; exact hn178_2) | exact hn178_2) (.int .i16 ((rd_T81 ((rd_T31 l0 0).f1) x5_1).f2))).trans hx178_2; (try have hy178_0 := fun (n_ : Nat) => (show (((((w12.drewN n_).setCell ⟨gb177, 0, none⟩ (.int .i8 ((rd_T81 ((rd_T31 l0 0).f1) x5_1).f0))).setCell ⟨gb177, 1, none⟩ (.int .i16 ((rd_T81 ((rd_T31 l0 0).f1) x5_1).f1))).setCell ⟨gb177, 2, none⟩ (.int .i16 ((rd_T81 ((rd_T31 l0 0).f1) x5_1).f2)))).cell? _ = some _ from hx178_0)); (try have hy178_1 := fun (n_ : Nat) => (show (((((w12.drewN n_).setCell ⟨gb177, 0, none⟩ (.int .i8 ((rd_T81 ((rd_T31 l0 0).f1) x5_1).f0))).setCell ⟨gb177, 1, none⟩ (.int .i16 ((rd_T81 ((rd_T31 l0 0).f1) x5_1).f1))).setCell ⟨gb177, 2, none⟩ (.int .i16 ((rd_T81 ((rd_T31 l0 0).f1) x5_1).f2)))).cell? _ = some _ from hx178_1)); (try have hy178_2 := fun (n_ : Nat) => (show (((((w12.drewN n_).setCell ⟨gb177, 0, none⟩ (.int .i8 ((rd_T81 ((rd_T31 l0 0).f1) x5_1).f0))).setCell ⟨gb177, 1, none⟩ (.int .i16 ((rd_T81 ((rd_T31 l0 0).f1) x5_1).f1))).setCell ⟨gb177, 2, none⟩ (.int .i16 ((rd_T81 ((rd_T31 l0 0).f1) x5_1).f2)))).cell? _ = some _ from hx178_2)); clear hn178_0; clear hn178_1; clear hn178_2; replace p178 := eq_true p178; replace q178 := eq_true q178) | (go_at_call 129; (with_reducible refine (spec_l04Input.calls k1 (wrap64 ((rd_T31 l0 0).f0)) (wrap64 ((rd_T81 ((rd_T31 l0 0).f1) x5_1).f1)) t179 _ A10.out).mono ?_); rintro e w' ⟨rfl, ⟨nd, rfl⟩⟩; (try first | exact ⟨rfl, _, World.drewN_drewN _ _ _⟩ | exact ⟨rfl, _, Eq.trans (World.drewN_drewN _ _ _) (congrArg (World.drewN _) (Nat.add_assoc _ _ _))⟩)) | ((with_reducible refine gate_builtin (b := .append) (xs := #[.tmp 71, .tmp 73]) rfl ?_); at_builtin; refine Kd.R_append (Kd.int .u64) (w0 := w) w.heap.size rfl (.tmp 71) (.tmp 73) 53 98 (.int .u64 0) 8 rfl Try.underlying53 info98 rfl (by decide) (by omega) u4 x4_1 t179 [.int .u64 t179] (fun _ => True) (fun _ => False) rfl (by first | (go_simp; done) | (go_simp; rfl)) ?aP (fun _ hk => hk.elim) ?aF ?aO ?aB ?aS ?aL ?_; (case aP => exact rfl); (case aB => exact (by repeat (first | (with_reducible first | exact HB.out | apply below_alloc | apply pw_below_drewN | apply below_drew1 | refine below_set ?_ GE177.out) | exact HB.out))); (case aF => exact (fun _ _ => trivial)); (case aO => exact (by (with_reducible repeat (first | apply Kd.R_alloc | apply Kd.R_drewN | apply Kd.R_drew)); exact Kd.R_mono (Kd.R_far (p := ⟨gb177, 2, none⟩) (Kd.R_far (p := ⟨gb177, 1, none⟩) (Kd.R_far (p := ⟨gb177, 0, none⟩) (Kd.R_types HO_4.out BK177.out (by decide)) (fun _ hk => hk.2) (.int .i8 ((rd_T81 ((rd_T31 l0 0).f1) x5_1).f0))) (fun _ hk => hk.2) (.int .i16 ((rd_T81 ((rd_T31 l0 0).f1) x5_1).f1))) (fun _ hk => hk.2) (.int .i16 ((rd_T81 ((rd_T31 l0 0).f1) x5_1).f2))) (fun _ hk => trivial))); (case aS => exact (below_size (by repeat (first | (with_reducible first | exact HB.out | apply below_alloc | apply pw_below_drewN | apply below_drew1 | refine below_set ?_ GE177.out) | exact HB.out)))); (case aL => have := LMc11.out; omega); intro v181 w14 ho hb hg hat; rw [← Ny180.out] at ho; have n0_ := Aside0.mk (blk_grown (g := gb177) (o := .cells #[.int .i8 ((rd_T81 ((rd_T31 l0 0).f1) x5_1).f0), .int .i16 ((rd_T81 ((rd_T31 l0 0).f1) x5_1).f1), .int .i16 ((rd_T81 ((rd_T31 l0 0).f1) x5_1).f2)] 81 (0, 0)) (by (with_reducible repeat (first | refine blk_drewN ?_ _ | refine blk_drew ?_ | refine blk_alloc ?_ _)); refine blk_put (cs := #[.int .i8 ((rd_T81 ((rd_T31 l0 0).f1) x5_1).f0), .int .i16 ((rd_T81 ((rd_T31 l0 0).f1) x5_1).f1), .int .i16 0]) ?_ 2 _ rfl; (with_reducible repeat (first | refine blk_drewN ?_ _ | refine blk_drew ?_ | refine blk_alloc ?_ _)); refine blk_put (cs := #[.int .i8 ((rd_T81 ((rd_T31 l0 0).f1) x5_1).f0), .int .i16 0, .int .i16 0]) ?_ 1 _ rfl; (with_reducible repeat (first | refine blk_drewN ?_ _ | refine blk_drew ?_ | refine blk_alloc ?_ _)); refine blk_put (cs := #[.int .i8 0, .int .i16 0, .int .i16 0]) ?_ 0 _ rfl; (with_reducible repeat (first | refine blk_drewN ?_ _ | refine blk_drew ?_ | refine blk_alloc ?_ _)); exact BK177.out) hg (Kd.R_ne HO_4.out BK177.out (by decide))); have n1_ := Aside0.mk (hb); have n2_ := Aside0.mk (ho); clear BK177; clear HB; clear HO_4; have BK177 := n0_; have HB := n1_; have HO182 := n2_; clear n0_ n1_ n2_; clear ho hb hg hat))
                  repeat (go_quiet (first | ((with_reducible refine gate_dst (N := 6) rfl ?_); refine box_event ?hg (N := 6) ?hd (cs := #[.int .i8 0, .int .i16 0, .int .i16 0]) (t := 81) ?hr ?_; (case hd => rfl); (case hg => rfl); (case hr => first | (go_simp; done) | (go_simp; rfl)); intro gb177 hg w12 hbox hb; have n0_ := Aside0.mk (Kd.R_below (by (with_reducible repeat (first | apply Kd.R_alloc | apply Kd.R_drewN | apply Kd.R_drew)); exact HO_4.out) hb); have n1_ := Aside0.mk (below_step (by repeat (first | (with_reducible first | exact HB.out | apply below_alloc | apply pw_below_drewN | apply below_drew1) | exact HB.out)) hb); have n2_ := Aside0.mk (hbox); have n3_ := Aside0.mk ((by rw [hg]; exact (below_size (by repeat (first | (with_reducible first | exact HB.out | apply below_alloc | apply pw_below_drewN | apply below_drew1) | exact HB.out))) : w.heap.size ≤ gb177)); have n4_ := Aside0.mk ((by rw [hg]; exact (below_size (by repeat (first | (with_reducible first | exact HB.out | apply below_alloc | apply pw_below_drewN | apply below_drew1) | exact HB.out))) : w.heap.size ≤ gb177)); clear HO_4; clear HB; have HO_4 := n0_; have HB := n1_; have BK177 := n2_; have GW177 := n3_; have GE177 := n4_; clear n0_ n1_ n2_ n3_ n4_; clear hb hbox hg; have hcz13_0 : w12.cell? ⟨gb177, 0, none⟩ = some (.int .i8 0) := (blk_cell BK177.out 0).trans rfl; have hcz13_1 : w12.cell? ⟨gb177, 1, none⟩ = some (.int .i16 0) := (blk_cell BK177.out 1).trans rfl; have hcz13_2 : w12.cell? ⟨gb177, 2, none⟩ = some (.int .i16 0) := (blk_cell BK177.out 2).trans rfl; have hfz13_0 := blk_frozen BK177.out 0; have hfz13_1 := blk_frozen BK177.out 1; have hfz13_2 := blk_frozen BK177.out 2; have p178 : 0 ≤ (0 : Int) := (by omega); have q178 : 0 < (l0.length : Int) := of_decide_eq_true (by first | (with_reducible assumption) | assumption); obtain ⟨ad178, A178_1, c178_1, A178_2, c178_2, e178, hx178_0, hx178_1, hx178_2, hl178_1, hi178_1, hl178_2, hi178_2⟩ := at_T31 HR0.out 0 p178 q178; obtain rfl : adp0 = ad178 := (by injection e178); have qi178 : (0 < l0.length) = True := eq_true (by omega); (try rw [show ((0 : Int)).toNat = 0 from rfl] at hx178_0); (try rw [show 0 * 3 = 0 from rfl] at hx178_0); (try rw [Addr.add_zero'] at hx178_0); (try rw [show ((0 : Int)).toNat = 0 from rfl] at hx178_1); (try rw [show 0 * 3 = 0 from rfl] at hx178_1); (try rw [Addr.add_zero'] at hx178_1); (try rw [show ((0 : Int)).toNat = 0 from rfl] at hx178_2); (try rw [show 0 * 3 = 0 from rfl] at hx178_2); (try rw [Addr.add_zero'] at hx178_2); have hn178_0 : adp0.block ≠ gb177 := Nat.ne_of_lt (Nat.lt_of_lt_of_le (by have := World.block_lt_of_cell? _ _ hx178_0; first | rwa [add_block] at this | exact this) GW177.out); have hn178_1 : adp0.block ≠ gb177 := Nat.ne_of_lt (Nat.lt_of_lt_of_le (by have := World.block_lt_of_cell? _ _ hx178_0; first | rwa [add_block] at this | exact this) GW177.out); have hn178_2 : adp0.block ≠ gb177 := Nat.ne_of_lt (Nat.lt_of_lt_of_le (by have := World.block_lt_of_cell? _ _ hx178_0; first | rwa [add_block] at this | exact this) GW177.out); replace hx178_0 := (HB.out.cell (World.block_lt_of_cell? w _ hx178_0)).trans hx178_0; replace hx178_1 := (HB.out.cell (World.block_lt_of_cell? w _ hx178_1)).trans hx178_1; replace hx178_2 := (HB.out.cell (World.block_lt_of_cell? w _ hx178_2)).trans hx178_2; have HR178_1 := Aside0.mk hi178_1; have HC178_1 := Aside0.mk hl178_1; clear hi178_1 hl178_1; have HR178_2 := Aside0.mk hi178_2; have HC178_2 := Aside0.mk hl178_2; clear hi178_2 hl178_2; replace hx178_0 := (cell_far (p := ⟨gb177, 0, none⟩) (by first | (rw [add_block]; exact hn178_0) | (show (Addr.add _ _).block ≠ _; rw [add_block]; exact hn178_0) | exact hn178_0) (.int .i8 ((rd_T81 ((rd_T31 l0 0).f1) x5_1).f0))).trans hx178_0; replace hx178_1 := (cell_far (p := ⟨gb177, 0, none⟩) (by first | (rw [add_block]; exact hn178_0) | (show (Addr.add _ _).block ≠ _; rw [add_block]; exact hn178_0) | exact hn178_0) (.int .i8 ((rd_T81 ((rd_T31 l0 0).f1) x5_1).f0))).trans hx178_1; replace hx178_2 := (cell_far (p := ⟨gb177, 0, none⟩) (by first | (rw [add_block]; exact hn178_0) | (show (Addr.add _ _).block ≠ _; rw [add_block]; exact hn178_0) | exact hn178_0) (.int .i8 ((rd_T81 ((rd_T31 l0 0).f1) x5_1).f0))).trans hx178_2; replace hx178_0 := (cell_far (p := ⟨gb177, 1, none⟩) (by first | (rw [add_block]; exact hn178_1) | (show (Addr.add _ _).block ≠ _; rw [add_block]; exact hn178_1) | exact hn178_1) (.int .i16 ((rd_T81 ((rd_T31 l0 0).f1) x5_1).f1))).trans hx178_0; replace hx178_1 := (cell_far (p := ⟨gb177, 1, none⟩) (by first | (rw [add_block]; exact hn178_1) | (show (Addr.add _ _).block ≠ _; rw [add_block]; exact hn178_1) | exact hn178_1) (.int .i16 ((rd_T81 ((rd_T31 l0 0).f1) x5_1).f1))).trans hx178_1; replace hx178_2 := (cell_far (p := ⟨gb177, 1, none⟩) (by first | (rw [add_block]; exact hn178_1) | (show (Addr.add _ _).block ≠ _; rw [add_block]; exact hn178_1) | exact hn178_1) (.int .i16 ((rd_T81 ((rd_T31 l0 0).f1) x5_1).f1))).trans hx178_2; replace hx178_0 := (cell_far (p := ⟨gb177, 2, none⟩) (by first | (rw [add_block]; exact hn178_2) | (show (Addr.add _ _).block ≠ _; rw [add_block]; exact hn178_2) | exact hn178_2) (.int .i16 ((rd_T81 ((rd_T31 l0 0).f1) x5_1).f2))).trans hx178_0; replace hx178_1 := (cell_far (p := ⟨gb177, 2, none⟩) (by first | (rw [add_block]; exact hn178_2) | (show (Addr.add _ _).block ≠ _; rw [add_block]; exact hn178_2) | exact hn178_2) (.int .i16 ((rd_T81 ((rd_T31 l0 0).f1) x5_1).f2))).trans hx178_1; replace hx178_2 := (cell_far (p := ⟨gb177, 2, none⟩) (by first | (rw [add_block]; exact hn178_2) | (show (Addr.add _ _).block ≠ _; rw [add_block]; exact hn178_2) | exact hn178_2) (.int .i16 ((rd_T81 ((rd_T31 l0 0).f1) x5_1).f2))).trans hx178_2; (try have hy178_0 := fun (n_ : Nat) => (show (((((w12.drewN n_).setCell ⟨gb177, 0, none⟩ (.int .i8 ((rd_T81 ((rd_T31 l0 0).f1) x5_1).f0))).setCell ⟨gb177, 1, none⟩ (.int .i16 ((rd_T81 ((rd_T31 l0 0).f1) x5_1).f1))).setCell ⟨gb177, 2, none⟩ (.int .i16 ((rd_T81 ((rd_T31 l0 0).f1) x5_1).f2)))).cell? _ = some _ from hx178_0)); (try have hy178_1 := fun (n_ : Nat) => (show (((((w12.drewN n_).setCell ⟨gb177, 0, none⟩ (.int .i8 ((rd_T81 ((rd_T31 l0 0).f1) x5_1).f0))).setCell ⟨gb177, 1, none⟩ (.int .i16 ((rd_T81 ((rd_T31 l0 0).f1) x5_1).f1))).setCell ⟨gb177, 2, none⟩ (.int .i16 ((rd_T81 ((rd_T31 l0 0).f1) x5_1).f2)))).cell? _ = some _ from hx178_1)); (try have hy178_2 := fun (n_ : Nat) => (show (((((w12.drewN n_).setCell ⟨gb177, 0, none⟩ (.int .i8 ((rd_T81 ((rd_T31 l0 0).f1) x5_1).f0))).setCell ⟨gb177, 1, none⟩ (.int .i16 ((rd_T81 ((rd_T31 l0 0).f1) x5_1).f1))).setCell ⟨gb177, 2, none⟩ (.int .i16 ((rd_T81 ((rd_T31 l0 0).f1) x5_1).f2)))).cell? _ = some _ from hx178_2)); clear hn178_0; clear hn178_1; clear hn178_2; replace p178 := eq_true p178; replace q178 := eq_true q178) | (go_at_call 129; (with_reducible refine (spec_l04Input.calls k1 (wrap64 ((rd_T31 l0 0).f0)) (wrap64 ((rd_T81 ((rd_T31 l0 0).f1) x5_1).f1)) t179 _ A10.out).mono ?_); rintro e w' ⟨rfl, ⟨nd, rfl⟩⟩; (try first | exact ⟨rfl, _, World.drewN_drewN _ _ _⟩ | exact ⟨rfl, _, Eq.trans (World.drewN_drewN _ _ _) (congrArg (World.drewN _) (Nat.add_assoc _ _ _))⟩)) | ((with_reducible refine gate_builtin (b := .append) (xs := #[.tmp 71, .tmp 73]) rfl ?_); at_builtin; refine Kd.R_append (Kd.int .u64) (w0 := w) w.heap.size rfl (.tmp 71) (.tmp 73) 53 98 (.int .u64 0) 8 rfl Try.underlying53 info98 rfl (by decide) (by omega) u4 x4_1 t179 [.int .u64 t179] (fun _ => True) (fun _ => False) rfl (by first | (go_simp; done) | (go_simp; rfl)) ?aP (fun _ hk => hk.elim) ?aF ?aO ?aB ?aS ?aL ?_; (case aP => exact rfl); (case aB => exact (by repeat (first | (with_reducible first | exact HB.out | apply below_alloc | apply pw_below_drewN | apply below_drew1 | refine below_set ?_ GE177.out) | exact HB.out))); (case aF => exact (fun _ _ => trivial)); (case aO => exact (by (with_reducible repeat (first | apply Kd.R_alloc | apply Kd.R_drewN | apply Kd.R_drew)); exact Kd.R_mono (Kd.R_far (p := ⟨gb177, 2, none⟩) (Kd.R_far (p := ⟨gb177, 1, none⟩) (Kd.R_far (p := ⟨gb177, 0, none⟩) (Kd.R_types HO_4.out BK177.out (by decide)) (fun _ hk => hk.2) (.int .i8 ((rd_T81 ((rd_T31 l0 0).f1) x5_1).f0))) (fun _ hk => hk.2) (.int .i16 ((rd_T81 ((rd_T31 l0 0).f1) x5_1).f1))) (fun _ hk => hk.2) (.int .i16 ((rd_T81 ((rd_T31 l0 0).f1) x5_1).f2))) (fun _ hk => trivial))); (case aS => exact (below_size (by repeat (first | (with_reducible first | exact HB.out | apply below_alloc | apply pw_below_drewN | apply below_drew1 | refine below_set ?_ GE177.out) | exact HB.out)))); (case aL => have := LMc11.out; omega); intro v181 w14 ho hb hg hat; rw [← Ny180.out] at ho; have n0_ := Aside0.mk (blk_grown (g := gb177) (o := .cells #[.int .i8 ((rd_T81 ((rd_T31 l0 0).f1) x5_1).f0), .int .i16 ((rd_T81 ((rd_T31 l0 0).f1) x5_1).f1), .int .i16 ((rd_T81 ((rd_T31 l0 0).f1) x5_1).f2)] 81 (0, 0)) (by (with_reducible repeat (first | refine blk_drewN ?_ _ | refine blk_drew ?_ | refine blk_alloc ?_ _)); refine blk_put (cs := #[.int .i8 ((rd_T81 ((rd_T31 l0 0).f1) x5_1).f0), .int .i16 ((rd_T81 ((rd_T31 l0 0).f1) x5_1).f1), .int .i16 0]) ?_ 2 _ rfl; (with_reducible repeat (first | refine blk_drewN ?_ _ | refine blk_drew ?_ | refine blk_alloc ?_ _)); refine blk_put (cs := #[.int .i8 ((rd_T81 ((rd_T31 l0 0).f1) x5_1).f0), .int .i16 0, .int .i16 0]) ?_ 1 _ rfl; (with_reducible repeat (first | refine blk_drewN ?_ _ | refine blk_drew ?_ | refine blk_alloc ?_ _)); refine blk_put (cs := #[.int .i8 0, .int .i16 0, .int .i16 0]) ?_ 0 _ rfl; (with_reducible repeat (first | refine blk_drewN ?_ _ | refine blk_drew ?_ | refine blk_alloc ?_ _)); exact BK177.out) hg (Kd.R_ne HO_4.out BK177.out (by decide))); have n1_ := Aside0.mk (hb); have n2_ := Aside0.mk (ho); clear BK177; clear HB; clear HO_4; have BK177 := n0_; have HB := n1_; have HO182 := n2_; clear n0_ n1_ n2_; clear ho hb hg hat)); try go_wp2_with (first | ((with_reducible refine gate_dst (N := 6) rfl ?_); refine box_event ?hg (N := 6) ?hd (cs := #[.int .i8 0, .int .i16 0, .int .i16 0]) (t := 81) ?hr ?_; (case hd => rfl); (case hg => rfl); (case hr => first | (go_simp; done) | (go_simp; rfl)); intro gb177 hg w12 hbox hb; have n0_ := Aside0.mk (Kd.R_below (by (with_reducible repeat (first | apply Kd.R_alloc | apply Kd.R_drewN | apply Kd.R_drew)); exact HO_4.out) hb); have n1_ := Aside0.mk (below_step (by repeat (first | (with_reducible first | exact HB.out | apply below_alloc | apply pw_below_drewN | apply below_drew1) | exact HB.out)) hb); have n2_ := Aside0.mk (hbox); have n3_ := Aside0.mk ((by rw [hg]; exact (below_size (by repeat (first | (with_reducible first | exact HB.out | apply below_alloc | apply pw_below_drewN | apply below_drew1) | exact HB.out))) : w.heap.size ≤ gb177)); have n4_ := Aside0.mk ((by rw [hg]; exact (below_size (by repeat (first | (with_reducible first | exact HB.out | apply below_alloc | apply pw_below_drewN | apply below_drew1) | exact HB.out))) : w.heap.size ≤ gb177)); clear HO_4; clear HB; have HO_4 := n0_; have HB := n1_; have BK177 := n2_; have GW177 := n3_; have GE177 := n4_; clear n0_ n1_ n2_ n3_ n4_; clear hb hbox hg; have hcz13_0 : w12.cell? ⟨gb177, 0, none⟩ = some (.int .i8 0) := (blk_cell BK177.out 0).trans rfl; have hcz13_1 : w12.cell? ⟨gb177, 1, none⟩ = some (.int .i16 0) := (blk_cell BK177.out 1).trans rfl; have hcz13_2 : w12.cell? ⟨gb177, 2, none⟩ = some (.int .i16 0) := (blk_cell BK177.out 2).trans rfl; have hfz13_0 := blk_frozen BK177.out 0; have hfz13_1 := blk_frozen BK177.out 1; have hfz13_2 := blk_frozen BK177.out 2; have p178 : 0 ≤ (0 : Int) := (by omega); have q178 : 0 < (l0.length : Int) := of_decide_eq_true (by first | (with_reducible assumption) | assumption); obtain ⟨ad178, A178_1, c178_1, A178_2, c178_2, e178, hx178_0, hx178_1, hx178_2, hl178_1, hi178_1, hl178_2, hi178_2⟩ := at_T31 HR0.out 0 p178 q178; obtain rfl : adp0 = ad178 := (by injection e178); have qi178 : (0 < l0.length) = True := eq_true (by omega); (try rw [show ((0 : Int)).toNat = 0 from rfl] at hx178_0); (try rw [show 0 * 3 = 0 from rfl] at hx178_0); (try rw [Addr.add_zero'] at hx178_0); (try rw [show ((0 : Int)).toNat = 0 from rfl] at hx178_1); (try rw [show 0 * 3 = 0 from rfl] at hx178_1); (try rw [Addr.add_zero'] at hx178_1); (try rw [show ((0 : Int)).toNat = 0 from rfl] at hx178_2); (try rw [show 0 * 3 = 0 from rfl] at hx178_2); (try rw [Addr.add_zero'] at hx178_2); have hn178_0 : adp0.block ≠ gb177 := Nat.ne_of_lt (Nat.lt_of_lt_of_le (by have := World.block_lt_of_cell? _ _ hx178_0; first | rwa [add_block] at this | exact this) GW177.out); have hn178_1 : adp0.block ≠ gb177 := Nat.ne_of_lt (Nat.lt_of_lt_of_le (by have := World.block_lt_of_cell? _ _ hx178_0; first | rwa [add_block] at this | exact this) GW177.out); have hn178_2 : adp0.block ≠ gb177 := Nat.ne_of_lt (Nat.lt_of_lt_of_le (by have := World.block_lt_of_cell? _ _ hx178_0; first | rwa [add_block] at this | exact this) GW177.out); replace hx178_0 := (HB.out.cell (World.block_lt_of_cell? w _ hx178_0)).trans hx178_0; replace hx178_1 := (HB.out.cell (World.block_lt_of_cell? w _ hx178_1)).trans hx178_1; replace hx178_2 := (HB.out.cell (World.block_lt_of_cell? w _ hx178_2)).trans hx178_2; have HR178_1 := Aside0.mk hi178_1; have HC178_1 := Aside0.mk hl178_1; clear hi178_1 hl178_1; have HR178_2 := Aside0.mk hi178_2; have HC178_2 := Aside0.mk hl178_2; clear hi178_2 hl178_2; replace hx178_0 := (cell_far (p := ⟨gb177, 0, none⟩) (by first | (rw [add_block]; exact hn178_0) | (show (Addr.add _ _).block ≠ _; rw [add_block]; exact hn178_0) | exact hn178_0) (.int .i8 ((rd_T81 ((rd_T31 l0 0).f1) x5_1).f0))).trans hx178_0; replace hx178_1 := (cell_far (p := ⟨gb177, 0, none⟩) (by first | (rw [add_block]; exact hn178_0) | (show (Addr.add _ _).block ≠ _; rw [add_block]; exact hn178_0) | exact hn178_0) (.int .i8 ((rd_T81 ((rd_T31 l0 0).f1) x5_1).f0))).trans hx178_1; replace hx178_2 := (cell_far (p := ⟨gb177, 0, none⟩) (by first | (rw [add_block]; exact hn178_0) | (show (Addr.add _ _).block ≠ _; rw [add_block]; exact hn178_0) | exact hn178_0) (.int .i8 ((rd_T81 ((rd_T31 l0 0).f1) x5_1).f0))).trans hx178_2; replace hx178_0 := (cell_far (p := ⟨gb177, 1, none⟩) (by first | (rw [add_block]; exact hn178_1) | (show (Addr.add _ _).block ≠ _; rw [add_block]; exact hn178_1) | exact hn178_1) (.int .i16 ((rd_T81 ((rd_T31 l0 0).f1) x5_1).f1))).trans hx178_0; replace hx178_1 := (cell_far (p := ⟨gb177, 1, none⟩) (by first | (rw [add_block]; exact hn178_1) | (show (Addr.add _ _).block ≠ _; rw [add_block]; exact hn178_1) | exact hn178_1) (.int .i16 ((rd_T81 ((rd_T31 l0 0).f1) x5_1).f1))).trans hx178_1; replace hx178_2 := (cell_far (p := ⟨gb177, 1, none⟩) (by first | (rw [add_block]; exact hn178_1) | (show (Addr.add _ _).block ≠ _; rw [add_block]; exact hn178_1) | exact hn178_1) (.int .i16 ((rd_T81 ((rd_T31 l0 0).f1) x5_1).f1))).trans hx178_2; replace hx178_0 := (cell_far (p := ⟨gb177, 2, none⟩) (by first | (rw [add_block]; exact hn178_2) | (show (Addr.add _ _).block ≠ _; rw [add_block]; exact hn178_2) | exact hn178_2) (.int .i16 ((rd_T81 ((rd_T31 l0 0).f1) x5_1).f2))).trans hx178_0; replace hx178_1 := (cell_far (p := ⟨gb177, 2, none⟩) (by first | (rw [add_block]; exact hn178_2) | (show (Addr.add _ _).block ≠ _; rw [add_block]; exact hn178_2) | exact hn178_2) (.int .i16 ((rd_T81 ((rd_T31 l0 0).f1) x5_1).f2))).trans hx178_1; replace hx178_2 := (cell_far (p := ⟨gb177, 2, none⟩) (by first | (rw [add_block]; exact hn178_2) | (show (Addr.add _ _).block ≠ _; rw [add_block]; exact hn178_2) | exact hn178_2) (.int .i16 ((rd_T81 ((rd_T31 l0 0).f1) x5_1).f2))).trans hx178_2; (try have hy178_0 := fun (n_ : Nat) => (show (((((w12.drewN n_).setCell ⟨gb177, 0, none⟩ (.int .i8 ((rd_T81 ((rd_T31 l0 0).f1) x5_1).f0))).setCell ⟨gb177, 1, none⟩ (.int .i16 ((rd_T81 ((rd_T31 l0 0).f1) x5_1).f1))).setCell ⟨gb177, 2, none⟩ (.int .i16 ((rd_T81 ((rd_T31 l0 0).f1) x5_1).f2)))).cell? _ = some _ from hx178_0)); (try have hy178_1 := fun (n_ : Nat) => (show (((((w12.drewN n_).setCell ⟨gb177, 0, none⟩ (.int .i8 ((rd_T81 ((rd_T31 l0 0).f1) x5_1).f0))).setCell ⟨gb177, 1, none⟩ (.int .i16 ((rd_T81 ((rd_T31 l0 0).f1) x5_1).f1))).setCell ⟨gb177, 2, none⟩ (.int .i16 ((rd_T81 ((rd_T31 l0 0).f1) x5_1).f2)))).cell? _ = some _ from hx178_1)); (try have hy178_2 := fun (n_ : Nat) => (show (((((w12.drewN n_).setCell ⟨gb177, 0, none⟩ (.int .i8 ((rd_T81 ((rd_T31 l0 0).f1) x5_1).f0))).setCell ⟨gb177, 1, none⟩ (.int .i16 ((rd_T81 ((rd_T31 l0 0).f1) x5_1).f1))).setCell ⟨gb177, 2, none⟩ (.int .i16 ((rd_T81 ((rd_T31 l0 0).f1) x5_1).f2)))).cell? _ = some _ from hx178_2)); clear hn178_0; clear hn178_1; clear hn178_2; replace p178 := eq_true p178; replace q178 := eq_true q178) | (go_at_call 129; (with_reducible refine (spec_l04Input.calls k1 (wrap64 ((rd_T31 l0 0).f0)) (wrap64 ((rd_T81 ((rd_T31 l0 0).f1) x5_1).f1)) t179 _ A10.out).mono ?_); rintro e w' ⟨rfl, ⟨nd, rfl⟩⟩; (try first | exact ⟨rfl, _, World.drewN_drewN _ _ _⟩ | exact ⟨rfl, _, Eq.trans (World.drewN_drewN _ _ _) (congrArg (World.drewN _) (Nat.add_assoc _ _ _))⟩)) | ((with_reducible refine gate_builtin (b := .append) (xs := #[.tmp 71, .tmp 73]) rfl ?_); at_builtin; refine Kd.R_append (Kd.int .u64) (w0 := w) w.heap.size rfl (.tmp 71) (.tmp 73) 53 98 (.int .u64 0) 8 rfl Try.underlying53 info98 rfl (by decide) (by omega) u4 x4_1 t179 [.int .u64 t179] (fun _ => True) (fun _ => False) rfl (by first | (go_simp; done) | (go_simp; rfl)) ?aP (fun _ hk => hk.elim) ?aF ?aO ?aB ?aS ?aL ?_; (case aP => exact rfl); (case aB => exact (by repeat (first | (with_reducible first | exact HB.out | apply below_alloc | apply pw_below_drewN | apply below_drew1 | refine below_set ?_ GE177.out) | exact HB.out))); (case aF => exact (fun _ _ => trivial)); (case aO => exact (by (with_reducible repeat (first | apply Kd.R_alloc | apply Kd.R_drewN | apply Kd.R_drew)); exact Kd.R_mono (Kd.R_far (p := ⟨gb177, 2, none⟩) (Kd.R_far (p := ⟨gb177, 1, none⟩) (Kd.R_far (p := ⟨gb177, 0, none⟩) (Kd.R_types HO_4.out BK177.out (by decide)) (fun _ hk => hk.2) (.int .i8 ((rd_T81 ((rd_T31 l0 0).f1) x5_1).f0))) (fun _ hk => hk.2) (.int .i16 ((rd_T81 ((rd_T31 l0 0).f1) x5_1).f1))) (fun _ hk => hk.2) (.int .i16 ((rd_T81 ((rd_T31 l0 0).f1) x5_1).f2))) (fun _ hk => trivial))); (case aS => exact (below_size (by repeat (first | (with_reducible first | exact HB.out | apply below_alloc | apply pw_below_drewN | apply below_drew1 | refine below_set ?_ GE177.out) | exact HB.out)))); (case aL => have := LMc11.out; omega); intro v181 w14 ho hb hg hat; rw [← Ny180.out] at ho; have n0_ := Aside0.mk (blk_grown (g := gb177) (o := .cells #[.int .i8 ((rd_T81 ((rd_T31 l0 0).f1) x5_1).f0), .int .i16 ((rd_T81 ((rd_T31 l0 0).f1) x5_1).f1), .int .i16 ((rd_T81 ((rd_T31 l0 0).f1) x5_1).f2)] 81 (0, 0)) (by (with_reducible repeat (first | refine blk_drewN ?_ _ | refine blk_drew ?_ | refine blk_alloc ?_ _)); refine blk_put (cs := #[.int .i8 ((rd_T81 ((rd_T31 l0 0).f1) x5_1).f0), .int .i16 ((rd_T81 ((rd_T31 l0 0).f1) x5_1).f1), .int .i16 0]) ?_ 2 _ rfl; (with_reducible repeat (first | refine blk_drewN ?_ _ | refine blk_drew ?_ | refine blk_alloc ?_ _)); refine blk_put (cs := #[.int .i8 ((rd_T81 ((rd_T31 l0 0).f1) x5_1).f0), .int .i16 0, .int .i16 0]) ?_ 1 _ rfl; (with_reducible repeat (first | refine blk_drewN ?_ _ | refine blk_drew ?_ | refine blk_alloc ?_ _)); refine blk_put (cs := #[.int .i8 0, .int .i16 0, .int .i16 0]) ?_ 0 _ rfl; (with_reducible repeat (first | refine blk_drewN ?_ _ | refine blk_drew ?_ | refine blk_alloc ?_ _)); exact BK177.out) hg (Kd.R_ne HO_4.out BK177.out (by decide))); have n1_ := Aside0.mk (hb); have n2_ := Aside0.mk (ho); clear BK177; clear HB; clear HO_4; have BK177 := n0_; have HB := n1_; have HO182 := n2_; clear n0_ n1_ n2_; clear ho hb hg hat)))
                  go_roundg k1
                  case measure => have := HK1.out; omega
                  case rel => exact ⟨(y180), (wrap64 (x5_1 + 1)), (by first | rfl | (simp; done) | (simp [*]; done) | (exact congrArg (Value.int .i64) (wrap_eq (by omega)))), H', ⟨by have := HK1.out; omega⟩, ⟨by (with_reducible repeat (first | apply Kd.R_alloc | apply Kd.R_drewN | apply Kd.R_drew)); exact HO182.out⟩, ⟨by repeat (first | (with_reducible first | exact HB.out | apply below_alloc | apply pw_below_drewN | apply below_drew1 | refine below_set ?_ GE177.out) | exact HB.out)⟩⟩
                · rw [if_neg c11] at H
                  exact absurd H (by simp)
              · rw [if_neg c9] at H
                have c9b0 : (((rd_T81 ((rd_T31 l0 0).f1) x5_1).f0) == 0) = false := beq_eq_false_iff_ne.mpr c9
                have c9b1 : (((rd_T81 ((rd_T31 l0 0).f1) x5_1).f0) != 0) = true := bne_iff_ne.mpr c9
                by_cases c15 : ((rd_T81 ((rd_T31 l0 0).f1) x5_1).f0) = 2
                · rw [if_pos c15] at H
                  have c15b0 : (((rd_T81 ((rd_T31 l0 0).f1) x5_1).f0) == 2) = true := beq_iff_eq.mpr c15
                  have c15b1 : (((rd_T81 ((rd_T31 l0 0).f1) x5_1).f0) != 2) = false := bne_eq_false_iff_eq.mpr c15
                  clear c15
                  by_cases c16 : 0 ≤ ((rd_T81 ((rd_T31 l0 0).f1) x5_1).f1)
                  · rw [if_pos c16] at H
                    have c16b0 : decide (0 ≤ ((rd_T81 ((rd_T31 l0 0).f1) x5_1).f1)) = true := decide_eq_true c16
                    clear c16
                    by_cases c17 : ((rd_T81 ((rd_T31 l0 0).f1) x5_1).f1) < (x4_1.length : Int)
                    · rw [if_pos c17] at H
                      have c17b0 : decide (((rd_T81 ((rd_T31 l0 0).f1) x5_1).f1) < (x4_1.length : Int)) = true := decide_eq_true c17
                      clear c17
                      by_cases c18 : 0 ≤ ((rd_T81 ((rd_T31 l0 0).f1) x5_1).f2)
                      · rw [if_pos c18] at H
                        have c18b0 : decide (0 ≤ ((rd_T81 ((rd_T31 l0 0).f1) x5_1).f2)) = true := decide_eq_true c18
                        clear c18
                        by_cases c19 : ((rd_T81 ((rd_T31 l0 0).f1) x5_1).f2) < (x4_1.length : Int)
                        · rw [if_pos c19] at H
                          have c19b0 : decide (((rd_T81 ((rd_T31 l0 0).f1) x5_1).f2) < (x4_1.length : Int)) = true := decide_eq_true c19
                          clear c19
                          by_cases c20 : x4_1.length < 17592186044416
                          · rw [if_pos c20] at H
                            have LMc20 := Aside0.mk c20
                            clear c20
                            obtain ⟨y185, hy185⟩ : ∃ y_ : List Int, y_ = (x4_1 ++ [Go.bits .or .u64 (rd x4_1 ((rd_T81 ((rd_T31 l0 0).f1) x5_1).f1)) (rd x4_1 ((rd_T81 ((rd_T31 l0 0).f1) x5_1).f2))]) := ⟨_, rfl⟩
                            replace H : (spec_l04Tables.l0 k1 l0 t170 y185 (wrap64 (x5_1 + 1))) = some r := by first | (rw [hy185]; with_reducible exact H) | (have H2_ := (Option.bind_some _ _).symm.trans H; rw [hy185]; with_reducible exact H2_) | (have H2_ := (Option.bind_some _ _).symm.trans H; with_reducible exact H2_) | with_reducible exact H | (rw [hy185]; exact H) | exact H
                            have Ny185 := Aside0.mk hy185
                            clear hy185
                            have H' := Aside0.mk H
                            clear H
                            have p174 : 0 ≤ (0 : Int) := (by omega)
                            have q174 : 0 < (l0.length : Int) := of_decide_eq_true (by first | (with_reducible assumption) | assumption)
                            obtain ⟨ad174, A174_1, c174_1, A174_2, c174_2, e174, hx174_0, hx174_1, hx174_2, hl174_1, hi174_1, hl174_2, hi174_2⟩ := at_T31 HR0.out 0 p174 q174
                            obtain rfl : adp0 = ad174 := (by injection e174)
                            have qi174 : (0 < l0.length) = True := eq_true (by omega)
                            (try rw [show ((0 : Int)).toNat = 0 from rfl] at hx174_0)
                            (try rw [show 0 * 3 = 0 from rfl] at hx174_0)
                            (try rw [Addr.add_zero'] at hx174_0)
                            (try rw [show ((0 : Int)).toNat = 0 from rfl] at hx174_1)
                            (try rw [show 0 * 3 = 0 from rfl] at hx174_1)
                            (try rw [Addr.add_zero'] at hx174_1)
                            (try rw [show ((0 : Int)).toNat = 0 from rfl] at hx174_2)
                            (try rw [show 0 * 3 = 0 from rfl] at hx174_2)
                            (try rw [Addr.add_zero'] at hx174_2)
                            replace hx174_0 := (HB.out.cell (World.block_lt_of_cell? w _ hx174_0)).trans hx174_0
                            replace hx174_1 := (HB.out.cell (World.block_lt_of_cell? w _ hx174_1)).trans hx174_1
                            replace hx174_2 := (HB.out.cell (World.block_lt_of_cell? w _ hx174_2)).trans hx174_2
                            have HR174_1 := Aside0.mk hi174_1
                            have HC174_1 := Aside0.mk hl174_1
                            clear hi174_1 hl174_1
                            have HR174_2 := Aside0.mk hi174_2
                            have HC174_2 := Aside0.mk hl174_2
                            clear hi174_2 hl174_2
                            replace p174 := eq_true p174
                            replace q174 := eq_true q174
                            have p175 : 0 ≤ (0 : Int) := (by omega)
                            have q175 : 0 < (l0.length : Int) := of_decide_eq_true (by first | (with_reducible assumption) | assumption)
                            obtain ⟨ad175, A175_1, c175_1, A175_2, c175_2, e175, hx175_0, hx175_1, hx175_2, hl175_1, hi175_1, hl175_2, hi175_2⟩ := at_T31 HR0.out 0 p175 q175
                            obtain rfl : adp0 = ad175 := (by injection e175)
                            have qi175 : (0 < l0.length) = True := eq_true (by omega)
                            (try rw [show ((0 : Int)).toNat = 0 from rfl] at hx175_0)
                            (try rw [show 0 * 3 = 0 from rfl] at hx175_0)
                            (try rw [Addr.add_zero'] at hx175_0)
                            (try rw [show ((0 : Int)).toNat = 0 from rfl] at hx175_1)
                            (try rw [show 0 * 3 = 0 from rfl] at hx175_1)
                            (try rw [Addr.add_zero'] at hx175_1)
                            (try rw [show ((0 : Int)).toNat = 0 from rfl] at hx175_2)
                            (try rw [show 0 * 3 = 0 from rfl] at hx175_2)
                            (try rw [Addr.add_zero'] at hx175_2)
                            replace hx175_0 := (HB.out.cell (World.block_lt_of_cell? w _ hx175_0)).trans hx175_0
                            replace hx175_1 := (HB.out.cell (World.block_lt_of_cell? w _ hx175_1)).trans hx175_1
                            replace hx175_2 := (HB.out.cell (World.block_lt_of_cell? w _ hx175_2)).trans hx175_2
                            have HR175_1 := Aside0.mk hi175_1
                            have HC175_1 := Aside0.mk hl175_1
                            clear hi175_1 hl175_1
                            have HR175_2 := Aside0.mk hi175_2
                            have HC175_2 := Aside0.mk hl175_2
                            clear hi175_2 hl175_2
                            replace p175 := eq_true p175
                            replace q175 := eq_true q175
                            have ea_ := Option.some.inj (hx174_1.symm.trans hx175_1)
                            injection ea_ with ea_ en_ ec_
                            subst ea_
                            subst ec_
                            clear en_
                            have ea_ := Option.some.inj (hx174_2.symm.trans hx175_2)
                            injection ea_ with ea_ en_ ec_
                            subst ea_
                            subst ec_
                            clear en_
                            have p176 : 0 ≤ (x5_1 : Int) := of_decide_eq_true (by first | (with_reducible assumption) | assumption)
                            have q176 : x5_1 < (((rd_T31 l0 0).f1).length : Int) := of_decide_eq_true (by first | (with_reducible assumption) | assumption)
                            obtain ⟨ad176, e176, hx176_0, hx176_1, hx176_2⟩ := at_T81 HR175_1.out x5_1 p176 q176
                            cases e176
                            replace hx176_0 := (HB.out.cell (World.block_lt_of_cell? w _ hx176_0)).trans hx176_0
                            replace hx176_1 := (HB.out.cell (World.block_lt_of_cell? w _ hx176_1)).trans hx176_1
                            replace hx176_2 := (HB.out.cell (World.block_lt_of_cell? w _ hx176_2)).trans hx176_2
                            replace p176 := eq_true p176
                            replace q176 := eq_true q176
                            go_wp2_with (first | ((with_reducible refine gate_dst (N := 6) rfl ?_); refine box_event ?hg (N := 6) ?hd (cs := #[.int .i8 0, .int .i16 0, .int .i16 0]) (t := 81) ?hr ?_; (case hd => rfl); (case hg => rfl); (case hr => first | (go_simp; done) | (go_simp; rfl)); intro gb177 hg w21 hbox hb; have n0_ := Aside0.mk (Kd.R_below (by (with_reducible repeat (first | apply Kd.R_alloc | apply Kd.R_drewN | apply Kd.R_drew)); exact HO_4.out) hb); have n1_ := Aside0.mk (below_step (by repeat (first | (with_reducible first | exact HB.out | apply below_alloc | apply pw_below_drewN | apply below_drew1) | exact HB.out)) hb); have n2_ := Aside0.mk (hbox); have n3_ := Aside0.mk ((by rw [hg]; exact (below_size (by repeat (first | (with_reducible first | exact HB.out | apply below_alloc | apply pw_below_drewN | apply below_drew1) | exact HB.out))) : w.heap.size ≤ gb177)); have n4_ := Aside0.mk ((by rw [hg]; exact (below_size (by repeat (first | (with_reducible first | exact HB.out | apply below_alloc | apply pw_below_drewN | apply below_drew1) | exact HB.out))) : w.heap.size ≤ gb177)); clear HO_4; clear HB; have HO_4 := n0_; have HB := n1_; have BK177 := n2_; have GW177 := n3_; have GE177 := n4_; clear n0_ n1_ n2_ n3_ n4_; clear hb hbox hg; have hcz22_0 : w21.cell? ⟨gb177, 0, none⟩ = some (.int .i8 0) := (blk_cell BK177.out 0).trans rfl; have hcz22_1 : w21.cell? ⟨gb177, 1, none⟩ = some (.int .i16 0) := (blk_cell BK177.out 1).trans rfl; have hcz22_2 : w21.cell? ⟨gb177, 2, none⟩ = some (.int .i16 0) := (blk_cell BK177.out 2).trans rfl; have hfz22_0 := blk_frozen BK177.out 0; have hfz22_1 := blk_frozen BK177.out 1; have hfz22_2 := blk_frozen BK177.out 2; obtain ⟨Ao23, co23, eo23⟩ := Kd.R_slice HO_4.out; subst eo23; have p183 : 0 ≤ (((rd_T81 ((rd_T31 l0 0).f1) x5_1).f1) : Int) := of_decide_eq_true (by first | (with_reducible assumption) | assumption); have q183 : ((rd_T81 ((rd_T31 l0 0).f1) x5_1).f1) < (x4_1.length : Int) := of_decide_eq_true (by first | (with_reducible assumption) | assumption); obtain ⟨ad183, e183, hx183_0⟩ := Kd.at_int (Kd.R_reads' HO_4.out).2.2 ((rd_T81 ((rd_T31 l0 0).f1) x5_1).f1) p183 q183; cases e183; have hn183_0 : ad183.block ≠ gb177 := Kd.own_blk (Kd.R_ne HO_4.out BK177.out (by decide)); have hn183_1 : ad183.block ≠ gb177 := Kd.own_blk (Kd.R_ne HO_4.out BK177.out (by decide)); have hn183_2 : ad183.block ≠ gb177 := Kd.own_blk (Kd.R_ne HO_4.out BK177.out (by decide)); replace hx183_0 := (cell_far (p := ⟨gb177, 0, none⟩) (by first | (rw [add_block]; exact hn183_0) | (show (Addr.add _ _).block ≠ _; rw [add_block]; exact hn183_0) | exact hn183_0) (.int .i8 ((rd_T81 ((rd_T31 l0 0).f1) x5_1).f0))).trans hx183_0; replace hx183_0 := (cell_far (p := ⟨gb177, 1, none⟩) (by first | (rw [add_block]; exact hn183_1) | (show (Addr.add _ _).block ≠ _; rw [add_block]; exact hn183_1) | exact hn183_1) (.int .i16 ((rd_T81 ((rd_T31 l0 0).f1) x5_1).f1))).trans hx183_0; replace hx183_0 := (cell_far (p := ⟨gb177, 2, none⟩) (by first | (rw [add_block]; exact hn183_2) | (show (Addr.add _ _).block ≠ _; rw [add_block]; exact hn183_2) | exact hn183_2) (.int .i16 ((rd_T81 ((rd_T31 l0 0).f1) x5_1).f2))).trans hx183_0; (try have hy183_0 := fun (n_ : Nat) => (show (((((w21.drewN n_).setCell ⟨gb177, 0, none⟩ (.int .i8 ((rd_T81 ((rd_T31 l0 0).f1) x5_1).f0))).setCell ⟨gb177, 1, none⟩ (.int .i16 ((rd_T81 ((rd_T31 l0 0).f1) x5_1).f1))).setCell ⟨gb177, 2, none⟩ (.int .i16 ((rd_T81 ((rd_T31 l0 0).f1) x5_1).f2)))).cell? _ = some _ from hx183_0)); clear hn183_0; clear hn183_1; clear hn183_2; replace p183 := eq_true p183; replace q183 := eq_true q183; have p184 : 0 ≤ (((rd_T81 ((rd_T31 l0 0).f1) x5_1).f2) : Int) := of_decide_eq_true (by first | (with_reducible assumption) | assumption); have q184 : ((rd_T81 ((rd_T31 l0 0).f1) x5_1).f2) < (x4_1.length : Int) := of_decide_eq_true (by first | (with_reducible assumption) | assumption); obtain ⟨ad184, e184, hx184_0⟩ := Kd.at_int (Kd.R_reads' HO_4.out).2.2 ((rd_T81 ((rd_T31 l0 0).f1) x5_1).f2) p184 q184; obtain rfl : ad183 = ad184 := (by injection e184); have hn184_0 : ad183.block ≠ gb177 := Kd.own_blk (Kd.R_ne HO_4.out BK177.out (by decide)); have hn184_1 : ad183.block ≠ gb177 := Kd.own_blk (Kd.R_ne HO_4.out BK177.out (by decide)); have hn184_2 : ad183.block ≠ gb177 := Kd.own_blk (Kd.R_ne HO_4.out BK177.out (by decide)); replace hx184_0 := (cell_far (p := ⟨gb177, 0, none⟩) (by first | (rw [add_block]; exact hn184_0) | (show (Addr.add _ _).block ≠ _; rw [add_block]; exact hn184_0) | exact hn184_0) (.int .i8 ((rd_T81 ((rd_T31 l0 0).f1) x5_1).f0))).trans hx184_0; replace hx184_0 := (cell_far (p := ⟨gb177, 1, none⟩) (by first | (rw [add_block]; exact hn184_1) | (show (Addr.add _ _).block ≠ _; rw [add_block]; exact hn184_1) | exact hn184_1) (.int .i16 ((rd_T81 ((rd_T31 l0 0).f1) x5_1).f1))).trans hx184_0; replace hx184_0 := (cell_far (p := ⟨gb177, 2, none⟩) (by first | (rw [add_block]; exact hn184_2) | (show (Addr.add _ _).block ≠ _; rw [add_block]; exact hn184_2) | exact hn184_2) (.int .i16 ((rd_T81 ((rd_T31 l0 0).f1) x5_1).f2))).trans hx184_0; (try have hy184_0 := fun (n_ : Nat) => (show (((((w21.drewN n_).setCell ⟨gb177, 0, none⟩ (.int .i8 ((rd_T81 ((rd_T31 l0 0).f1) x5_1).f0))).setCell ⟨gb177, 1, none⟩ (.int .i16 ((rd_T81 ((rd_T31 l0 0).f1) x5_1).f1))).setCell ⟨gb177, 2, none⟩ (.int .i16 ((rd_T81 ((rd_T31 l0 0).f1) x5_1).f2)))).cell? _ = some _ from hx184_0)); clear hn184_0; clear hn184_1; clear hn184_2; replace p184 := eq_true p184; replace q184 := eq_true q184) | ((with_reducible refine gate_builtin (b := .append) (xs := #[.tmp 71, .tmp 73]) rfl ?_); at_builtin; refine Kd.R_append (Kd.int .u64) (w0 := w) w.heap.size rfl (.tmp 71) (.tmp 73) 53 98 (.int .u64 0) 8 rfl Try.underlying53 info98 rfl (by decide) (by omega) (.slice (some ad183) x4_1.length co23) x4_1 (Go.bits .or .u64 (rd x4_1 ((rd_T81 ((rd_T31 l0 0).f1) x5_1).f1)) (rd x4_1 ((rd_T81 ((rd_T31 l0 0).f1) x5_1).f2))) [.int .u64 (Go.bits .or .u64 (rd x4_1 ((rd_T81 ((rd_T31 l0 0).f1) x5_1).f1)) (rd x4_1 ((rd_T81 ((rd_T31 l0 0).f1) x5_1).f2)))] (fun _ => True) (fun _ => False) rfl (by first | (go_simp; done) | (go_simp; rfl)) ?aP (fun _ hk => hk.elim) ?aF ?aO ?aB ?aS ?aL ?_; (case aP => exact rfl); (case aB => exact (by repeat (first | (with_reducible first | exact HB.out | apply below_alloc | apply pw_below_drewN | apply below_drew1 | refine below_set ?_ GE177.out) | exact HB.out))); (case aF => exact (fun _ _ => trivial)); (case aO => exact (by (with_reducible repeat (first | apply Kd.R_alloc | apply Kd.R_drewN | apply Kd.R_drew)); exact Kd.R_mono (Kd.R_far (p := ⟨gb177, 2, none⟩) (Kd.R_far (p := ⟨gb177, 1, none⟩) (Kd.R_far (p := ⟨gb177, 0, none⟩) (Kd.R_types HO_4.out BK177.out (by decide)) (fun _ hk => hk.2) (.int .i8 ((rd_T81 ((rd_T31 l0 0).f1) x5_1).f0))) (fun _ hk => hk.2) (.int .i16 ((rd_T81 ((rd_T31 l0 0).f1) x5_1).f1))) (fun _ hk => hk.2) (.int .i16 ((rd_T81 ((rd_T31 l0 0).f1) x5_1).f2))) (fun _ hk => trivial))); (case aS => exact (below_size (by repeat (first | (with_reducible first | exact HB.out | apply below_alloc | apply pw_below_drewN | apply below_drew1 | refine below_set ?_ GE177.out) | exact HB.out)))); (case aL => have := LMc20.out; omega); intro v186 w24 ho hb hg hat; rw [← Ny185.out] at ho; have n0_ := Aside0.mk (blk_grown (g := gb177) (o := .cells #[.int .i8 ((rd_T81 ((rd_T31 l0 0).f1) x5_1).f0), .int .i16 ((rd_T81 ((rd_T31 l0 0).f1) x5_1).f1), .int .i16 ((rd_T81 ((rd_T31 l0 0).f1) x5_1).f2)] 81 (0, 0)) (by (with_reducible repeat (first | refine blk_drewN ?_ _ | refine blk_drew ?_ | refine blk_alloc ?_ _)); refine blk_put (cs := #[.int .i8 ((rd_T81 ((rd_T31 l0 0).f1) x5_1).f0), .int .i16 ((rd_T81 ((rd_T31 l0 0).f1) x5_1).f1), .int .i16 0]) ?_ 2 _ rfl; (with_reducible repeat (first | refine blk_drewN ?_ _ | refine blk_drew ?_ | refine blk_alloc ?_ _)); refine blk_put (cs := #[.int .i8 ((rd_T81 ((rd_T31 l0 0).f1) x5_1).f0), .int .i16 0, .int .i16 0]) ?_ 1 _ rfl; (with_reducible repeat (first | refine blk_drewN ?_ _ | refine blk_drew ?_ | refine blk_alloc ?_ _)); refine blk_put (cs := #[.int .i8 0, .int .i16 0, .int .i16 0]) ?_ 0 _ rfl; (with_reducible repeat (first | refine blk_drewN ?_ _ | refine blk_drew ?_ | refine blk_alloc ?_ _)); exact BK177.out) hg (Kd.R_ne HO_4.out BK177.out (by decide))); have n1_ := Aside0.mk (hb); have n2_ := Aside0.mk (ho); clear BK177; clear HB; clear HO_4; have BK177 := n0_; have HB := n1_; have HO187 := n2_; clear n0_ n1_ n2_; clear ho hb hg hat))
                            repeat (go_quiet (first | ((with_reducible refine gate_dst (N := 6) rfl ?_); refine box_event ?hg (N := 6) ?hd (cs := #[.int .i8 0, .int .i16 0, .int .i16 0]) (t := 81) ?hr ?_; (case hd => rfl); (case hg => rfl); (case hr => first | (go_simp; done) | (go_simp; rfl)); intro gb177 hg w21 hbox hb; have n0_ := Aside0.mk (Kd.R_below (by (with_reducible repeat (first | apply Kd.R_alloc | apply Kd.R_drewN | apply Kd.R_drew)); exact HO_4.out) hb); have n1_ := Aside0.mk (below_step (by repeat (first | (with_reducible first | exact HB.out | apply below_alloc | apply pw_below_drewN | apply below_drew1) | exact HB.out)) hb); have n2_ := Aside0.mk (hbox); have n3_ := Aside0.mk ((by rw [hg]; exact (below_size (by repeat (first | (with_reducible first | exact HB.out | apply below_alloc | apply pw_below_drewN | apply below_drew1) | exact HB.out))) : w.heap.size ≤ gb177)); have n4_ := Aside0.mk ((by rw [hg]; exact (below_size (by repeat (first | (with_reducible first | exact HB.out | apply below_alloc | apply pw_below_drewN | apply below_drew1) | exact HB.out))) : w.heap.size ≤ gb177)); clear HO_4; clear HB; have HO_4 := n0_; have HB := n1_; have BK177 := n2_; have GW177 := n3_; have GE177 := n4_; clear n0_ n1_ n2_ n3_ n4_; clear hb hbox hg; have hcz22_0 : w21.cell? ⟨gb177, 0, none⟩ = some (.int .i8 0) := (blk_cell BK177.out 0).trans rfl; have hcz22_1 : w21.cell? ⟨gb177, 1, none⟩ = some (.int .i16 0) := (blk_cell BK177.out 1).trans rfl; have hcz22_2 : w21.cell? ⟨gb177, 2, none⟩ = some (.int .i16 0) := (blk_cell BK177.out 2).trans rfl; have hfz22_0 := blk_frozen BK177.out 0; have hfz22_1 := blk_frozen BK177.out 1; have hfz22_2 := blk_frozen BK177.out 2; obtain ⟨Ao23, co23, eo23⟩ := Kd.R_slice HO_4.out; subst eo23; have p183 : 0 ≤ (((rd_T81 ((rd_T31 l0 0).f1) x5_1).f1) : Int) := of_decide_eq_true (by first | (with_reducible assumption) | assumption); have q183 : ((rd_T81 ((rd_T31 l0 0).f1) x5_1).f1) < (x4_1.length : Int) := of_decide_eq_true (by first | (with_reducible assumption) | assumption); obtain ⟨ad183, e183, hx183_0⟩ := Kd.at_int (Kd.R_reads' HO_4.out).2.2 ((rd_T81 ((rd_T31 l0 0).f1) x5_1).f1) p183 q183; cases e183; have hn183_0 : ad183.block ≠ gb177 := Kd.own_blk (Kd.R_ne HO_4.out BK177.out (by decide)); have hn183_1 : ad183.block ≠ gb177 := Kd.own_blk (Kd.R_ne HO_4.out BK177.out (by decide)); have hn183_2 : ad183.block ≠ gb177 := Kd.own_blk (Kd.R_ne HO_4.out BK177.out (by decide)); replace hx183_0 := (cell_far (p := ⟨gb177, 0, none⟩) (by first | (rw [add_block]; exact hn183_0) | (show (Addr.add _ _).block ≠ _; rw [add_block]; exact hn183_0) | exact hn183_0) (.int .i8 ((rd_T81 ((rd_T31 l0 0).f1) x5_1).f0))).trans hx183_0; replace hx183_0 := (cell_far (p := ⟨gb177, 1, none⟩) (by first | (rw [add_block]; exact hn183_1) | (show (Addr.add _ _).block ≠ _; rw [add_block]; exact hn183_1) | exact hn183_1) (.int .i16 ((rd_T81 ((rd_T31 l0 0).f1) x5_1).f1))).trans hx183_0; replace hx183_0 := (cell_far (p := ⟨gb177, 2, none⟩) (by first | (rw [add_block]; exact hn183_2) | (show (Addr.add _ _).block ≠ _; rw [add_block]; exact hn183_2) | exact hn183_2) (.int .i16 ((rd_T81 ((rd_T31 l0 0).f1) x5_1).f2))).trans hx183_0; (try have hy183_0 := fun (n_ : Nat) => (show (((((w21.drewN n_).setCell ⟨gb177, 0, none⟩ (.int .i8 ((rd_T81 ((rd_T31 l0 0).f1) x5_1).f0))).setCell ⟨gb177, 1, none⟩ (.int .i16 ((rd_T81 ((rd_T31 l0 0).f1) x5_1).f1))).setCell ⟨gb177, 2, none⟩ (.int .i16 ((rd_T81 ((rd_T31 l0 0).f1) x5_1).f2)))).cell? _ = some _ from hx183_0)); clear hn183_0; clear hn183_1; clear hn183_2; replace p183 := eq_true p183; replace q183 := eq_true q183; have p184 : 0 ≤ (((rd_T81 ((rd_T31 l0 0).f1) x5_1).f2) : Int) := of_decide_eq_true (by first | (with_reducible assumption) | assumption); have q184 : ((rd_T81 ((rd_T31 l0 0).f1) x5_1).f2) < (x4_1.length : Int) := of_decide_eq_true (by first | (with_reducible assumption) | assumption); obtain ⟨ad184, e184, hx184_0⟩ := Kd.at_int (Kd.R_reads' HO_4.out).2.2 ((rd_T81 ((rd_T31 l0 0).f1) x5_1).f2) p184 q184; obtain rfl : ad183 = ad184 := (by injection e184); have hn184_0 : ad183.block ≠ gb177 := Kd.own_blk (Kd.R_ne HO_4.out BK177.out (by decide)); have hn184_1 : ad183.block ≠ gb177 := Kd.own_blk (Kd.R_ne HO_4.out BK177.out (by decide)); have hn184_2 : ad183.block ≠ gb177 := Kd.own_blk (Kd.R_ne HO_4.out BK177.out (by decide)); replace hx184_0 := (cell_far (p := ⟨gb177, 0, none⟩) (by first | (rw [add_block]; exact hn184_0) | (show (Addr.add _ _).block ≠ _; rw [add_block]; exact hn184_0) | exact hn184_0) (.int .i8 ((rd_T81 ((rd_T31 l0 0).f1) x5_1).f0))).trans hx184_0; replace hx184_0 := (cell_far (p := ⟨gb177, 1, none⟩) (by first | (rw [add_block]; exact hn184_1) | (show (Addr.add _ _).block ≠ _; rw [add_block]; exact hn184_1) | exact hn184_1) (.int .i16 ((rd_T81 ((rd_T31 l0 0).f1) x5_1).f1))).trans hx184_0; replace hx184_0 := (cell_far (p := ⟨gb177, 2, none⟩) (by first | (rw [add_block]; exact hn184_2) | (show (Addr.add _ _).block ≠ _; rw [add_block]; exact hn184_2) | exact hn184_2) (.int .i16 ((rd_T81 ((rd_T31 l0 0).f1) x5_1).f2))).trans hx184_0; (try have hy184_0 := fun (n_ : Nat) => (show (((((w21.drewN n_).setCell ⟨gb177, 0, none⟩ (.int .i8 ((rd_T81 ((rd_T31 l0 0).f1) x5_1).f0))).setCell ⟨gb177, 1, none⟩ (.int .i16 ((rd_T81 ((rd_T31 l0 0).f1) x5_1).f1))).setCell ⟨gb177, 2, none⟩ (.int .i16 ((rd_T81 ((rd_T31 l0 0).f1) x5_1).f2)))).cell? _ = some _ from hx184_0)); clear hn184_0; clear hn184_1; clear hn184_2; replace p184 := eq_true p184; replace q184 := eq_true q184) | ((with_reducible refine gate_builtin (b := .append) (xs := #[.tmp 71, .tmp 73]) rfl ?_); at_builtin; refine Kd.R_append (Kd.int .u64) (w0 := w) w.heap.size rfl (.tmp 71) (.tmp 73) 53 98 (.int .u64 0) 8 rfl Try.underlying53 info98 rfl (by decide) (by omega) (.slice (some ad183) x4_1.length co23) x4_1 (Go.bits .or .u64 (rd x4_1 ((rd_T81 ((rd_T31 l0 0).f1) x5_1).f1)) (rd x4_1 ((rd_T81 ((rd_T31 l0 0).f1) x5_1).f2))) [.int .u64 (Go.bits .or .u64 (rd x4_1 ((rd_T81 ((rd_T31 l0 0).f1) x5_1).f1)) (rd x4_1 ((rd_T81 ((rd_T31 l0 0).f1) x5_1).f2)))] (fun _ => True) (fun _ => False) rfl (by first | (go_simp; done) | (go_simp; rfl)) ?aP (fun _ hk => hk.elim) ?aF ?aO ?aB ?aS ?aL ?_; (case aP => exact rfl); (case aB => exact (by repeat (first | (with_reducible first | exact HB.out | apply below_alloc | apply pw_below_drewN | apply below_drew1 | refine below_set ?_ GE177.out) | exact HB.out))); (case aF => exact (fun _ _ => trivial)); (case aO => exact (by (with_reducible repeat (first | apply Kd.R_alloc | apply Kd.R_drewN | apply Kd.R_drew)); exact Kd.R_mono (Kd.R_far (p := ⟨gb177, 2, none⟩) (Kd.R_far (p := ⟨gb177, 1, none⟩) (Kd.R_far (p := ⟨gb177, 0, none⟩) (Kd.R_types HO_4.out BK177.out (by decide)) (fun _ hk => hk.2) (.int .i8 ((rd_T81 ((rd_T31 l0 0).f1) x5_1).f0))) (fun _ hk => hk.2) (.int .i16 ((rd_T81 ((rd_T31 l0 0).f1) x5_1).f1))) (fun _ hk => hk.2) (.int .i16 ((rd_T81 ((rd_T31 l0 0).f1) x5_1).f2))) (fun _ hk => trivial))); (case aS => exact (below_size (by repeat (first | (with_reducible first | exact HB.out | apply below_alloc | apply pw_below_drewN | apply below_drew1 | refine below_set ?_ GE177.out) | exact HB.out)))); (case aL => have := LMc20.out; omega); intro v186 w24 ho hb hg hat; rw [← Ny185.out] at ho; have n0_ := Aside0.mk (blk_grown (g := gb177) (o := .cells #[.int .i8 ((rd_T81 ((rd_T31 l0 0).f1) x5_1).f0), .int .i16 ((rd_T81 ((rd_T31 l0 0).f1) x5_1).f1), .int .i16 ((rd_T81 ((rd_T31 l0 0).f1) x5_1).f2)] 81 (0, 0)) (by (with_reducible repeat (first | refine blk_drewN ?_ _ | refine blk_drew ?_ | refine blk_alloc ?_ _)); refine blk_put (cs := #[.int .i8 ((rd_T81 ((rd_T31 l0 0).f1) x5_1).f0), .int .i16 ((rd_T81 ((rd_T31 l0 0).f1) x5_1).f1), .int .i16 0]) ?_ 2 _ rfl; (with_reducible repeat (first | refine blk_drewN ?_ _ | refine blk_drew ?_ | refine blk_alloc ?_ _)); refine blk_put (cs := #[.int .i8 ((rd_T81 ((rd_T31 l0 0).f1) x5_1).f0), .int .i16 0, .int .i16 0]) ?_ 1 _ rfl; (with_reducible repeat (first | refine blk_drewN ?_ _ | refine blk_drew ?_ | refine blk_alloc ?_ _)); refine blk_put (cs := #[.int .i8 0, .int .i16 0, .int .i16 0]) ?_ 0 _ rfl; (with_reducible repeat (first | refine blk_drewN ?_ _ | refine blk_drew ?_ | refine blk_alloc ?_ _)); exact BK177.out) hg (Kd.R_ne HO_4.out BK177.out (by decide))); have n1_ := Aside0.mk (hb); have n2_ := Aside0.mk (ho); clear BK177; clear HB; clear HO_4; have BK177 := n0_; have HB := n1_; have HO187 := n2_; clear n0_ n1_ n2_; clear ho hb hg hat)); try go_wp2_with (first | ((with_reducible refine gate_dst (N := 6) rfl ?_); refine box_event ?hg (N := 6) ?hd (cs := #[.int .i8 0, .int .i16 0, .int .i16 0]) (t := 81) ?hr ?_; (case hd => rfl); (case hg => rfl); (case hr => first | (go_simp; done) | (go_simp; rfl)); intro gb177 hg w21 hbox hb; have n0_ := Aside0.mk (Kd.R_below (by (with_reducible repeat (first | apply Kd.R_alloc | apply Kd.R_drewN | apply Kd.R_drew)); exact HO_4.out) hb); have n1_ := Aside0.mk (below_step (by repeat (first | (with_reducible first | exact HB.out | apply below_alloc | apply pw_below_drewN | apply below_drew1) | exact HB.out)) hb); have n2_ := Aside0.mk (hbox); have n3_ := Aside0.mk ((by rw [hg]; exact (below_size (by repeat (first | (with_reducible first | exact HB.out | apply below_alloc | apply pw_below_drewN | apply below_drew1) | exact HB.out))) : w.heap.size ≤ gb177)); have n4_ := Aside0.mk ((by rw [hg]; exact (below_size (by repeat (first | (with_reducible first | exact HB.out | apply below_alloc | apply pw_below_drewN | apply below_drew1) | exact HB.out))) : w.heap.size ≤ gb177)); clear HO_4; clear HB; have HO_4 := n0_; have HB := n1_; have BK177 := n2_; have GW177 := n3_; have GE177 := n4_; clear n0_ n1_ n2_ n3_ n4_; clear hb hbox hg; have hcz22_0 : w21.cell? ⟨gb177, 0, none⟩ = some (.int .i8 0) := (blk_cell BK177.out 0).trans rfl; have hcz22_1 : w21.cell? ⟨gb177, 1, none⟩ = some (.int .i16 0) := (blk_cell BK177.out 1).trans rfl; have hcz22_2 : w21.cell? ⟨gb177, 2, none⟩ = some (.int .i16 0) := (blk_cell BK177.out 2).trans rfl; have hfz22_0 := blk_frozen BK177.out 0; have hfz22_1 := blk_frozen BK177.out 1; have hfz22_2 := blk_frozen BK177.out 2; obtain ⟨Ao23, co23, eo23⟩ := Kd.R_slice HO_4.out; subst eo23; have p183 : 0 ≤ (((rd_T81 ((rd_T31 l0 0).f1) x5_1).f1) : Int) := of_decide_eq_true (by first | (with_reducible assumption) | assumption); have q183 : ((rd_T81 ((rd_T31 l0 0).f1) x5_1).f1) < (x4_1.length : Int) := of_decide_eq_true (by first | (with_reducible assumption) | assumption); obtain ⟨ad183, e183, hx183_0⟩ := Kd.at_int (Kd.R_reads' HO_4.out).2.2 ((rd_T81 ((rd_T31 l0 0).f1) x5_1).f1) p183 q183; cases e183; have hn183_0 : ad183.block ≠ gb177 := Kd.own_blk (Kd.R_ne HO_4.out BK177.out (by decide)); have hn183_1 : ad183.block ≠ gb177 := Kd.own_blk (Kd.R_ne HO_4.out BK177.out (by decide)); have hn183_2 : ad183.block ≠ gb177 := Kd.own_blk (Kd.R_ne HO_4.out BK177.out (by decide)); replace hx183_0 := (cell_far (p := ⟨gb177, 0, none⟩) (by first | (rw [add_block]; exact hn183_0) | (show (Addr.add _ _).block ≠ _; rw [add_block]; exact hn183_0) | exact hn183_0) (.int .i8 ((rd_T81 ((rd_T31 l0 0).f1) x5_1).f0))).trans hx183_0; replace hx183_0 := (cell_far (p := ⟨gb177, 1, none⟩) (by first | (rw [add_block]; exact hn183_1) | (show (Addr.add _ _).block ≠ _; rw [add_block]; exact hn183_1) | exact hn183_1) (.int .i16 ((rd_T81 ((rd_T31 l0 0).f1) x5_1).f1))).trans hx183_0; replace hx183_0 := (cell_far (p := ⟨gb177, 2, none⟩) (by first | (rw [add_block]; exact hn183_2) | (show (Addr.add _ _).block ≠ _; rw [add_block]; exact hn183_2) | exact hn183_2) (.int .i16 ((rd_T81 ((rd_T31 l0 0).f1) x5_1).f2))).trans hx183_0; (try have hy183_0 := fun (n_ : Nat) => (show (((((w21.drewN n_).setCell ⟨gb177, 0, none⟩ (.int .i8 ((rd_T81 ((rd_T31 l0 0).f1) x5_1).f0))).setCell ⟨gb177, 1, none⟩ (.int .i16 ((rd_T81 ((rd_T31 l0 0).f1) x5_1).f1))).setCell ⟨gb177, 2, none⟩ (.int .i16 ((rd_T81 ((rd_T31 l0 0).f1) x5_1).f2)))).cell? _ = some _ from hx183_0)); clear hn183_0; clear hn183_1; clear hn183_2; replace p183 := eq_true p183; replace q183 := eq_true q183; have p184 : 0 ≤ (((rd_T81 ((rd_T31 l0 0).f1) x5_1).f2) : Int) := of_decide_eq_true (by first | (with_reducible assumption) | assumption); have q184 : ((rd_T81 ((rd_T31 l0 0).f1) x5_1).f2) < (x4_1.length : Int) := of_decide_eq_true (by first | (with_reducible assumption) | assumption); obtain ⟨ad184, e184, hx184_0⟩ := Kd.at_int (Kd.R_reads' HO_4.out).2.2 ((rd_T81 ((rd_T31 l0 0).f1) x5_1).f2) p184 q184; obtain rfl : ad183 = ad184 := (by injection e184); have hn184_0 : ad183.block ≠ gb177 := Kd.own_blk (Kd.R_ne HO_4.out BK177.out (by decide)); have hn184_1 : ad183.block ≠ gb177 := Kd.own_blk (Kd.R_ne HO_4.out BK177.out (by decide)); have hn184_2 : ad183.block ≠ gb177 := Kd.own_blk (Kd.R_ne HO_4.out BK177.out (by decide)); replace hx184_0 := (cell_far (p := ⟨gb177, 0, none⟩) (by first | (rw [add_block]; exact hn184_0) | (show (Addr.add _ _).block ≠ _; rw [add_block]; exact hn184_0) | exact hn184_0) (.int .i8 ((rd_T81 ((rd_T31 l0 0).f1) x5_1).f0))).trans hx184_0; replace hx184_0 := (cell_far (p := ⟨gb177, 1, none⟩) (by first | (rw [add_block]; exact hn184_1) | (show (Addr.add _ _).block ≠ _; rw [add_block]; exact hn184_1) | exact hn184_1) (.int .i16 ((rd_T81 ((rd_T31 l0 0).f1) x5_1).f1))).trans hx184_0; replace hx184_0 := (cell_far (p := ⟨gb177, 2, none⟩) (by first | (rw [add_block]; exact hn184_2) | (show (Addr.add _ _).block ≠ _; rw [add_block]; exact hn184_2) | exact hn184_2) (.int .i16 ((rd_T81 ((rd_T31 l0 0).f1) x5_1).f2))).trans hx184_0; (try have hy184_0 := fun (n_ : Nat) => (show (((((w21.drewN n_).setCell ⟨gb177, 0, none⟩ (.int .i8 ((rd_T81 ((rd_T31 l0 0).f1) x5_1).f0))).setCell ⟨gb177, 1, none⟩ (.int .i16 ((rd_T81 ((rd_T31 l0 0).f1) x5_1).f1))).setCell ⟨gb177, 2, none⟩ (.int .i16 ((rd_T81 ((rd_T31 l0 0).f1) x5_1).f2)))).cell? _ = some _ from hx184_0)); clear hn184_0; clear hn184_1; clear hn184_2; replace p184 := eq_true p184; replace q184 := eq_true q184) | ((with_reducible refine gate_builtin (b := .append) (xs := #[.tmp 71, .tmp 73]) rfl ?_); at_builtin; refine Kd.R_append (Kd.int .u64) (w0 := w) w.heap.size rfl (.tmp 71) (.tmp 73) 53 98 (.int .u64 0) 8 rfl Try.underlying53 info98 rfl (by decide) (by omega) (.slice (some ad183) x4_1.length co23) x4_1 (Go.bits .or .u64 (rd x4_1 ((rd_T81 ((rd_T31 l0 0).f1) x5_1).f1)) (rd x4_1 ((rd_T81 ((rd_T31 l0 0).f1) x5_1).f2))) [.int .u64 (Go.bits .or .u64 (rd x4_1 ((rd_T81 ((rd_T31 l0 0).f1) x5_1).f1)) (rd x4_1 ((rd_T81 ((rd_T31 l0 0).f1) x5_1).f2)))] (fun _ => True) (fun _ => False) rfl (by first | (go_simp; done) | (go_simp; rfl)) ?aP (fun _ hk => hk.elim) ?aF ?aO ?aB ?aS ?aL ?_; (case aP => exact rfl); (case aB => exact (by repeat (first | (with_reducible first | exact HB.out | apply below_alloc | apply pw_below_drewN | apply below_drew1 | refine below_set ?_ GE177.out) | exact HB.out))); (case aF => exact (fun _ _ => trivial)); (case aO => exact (by (with_reducible repeat (first | apply Kd.R_alloc | apply Kd.R_drewN | apply Kd.R_drew)); exact Kd.R_mono (Kd.R_far (p := ⟨gb177, 2, none⟩) (Kd.R_far (p := ⟨gb177, 1, none⟩) (Kd.R_far (p := ⟨gb177, 0, none⟩) (Kd.R_types HO_4.out BK177.out (by decide)) (fun _ hk => hk.2) (.int .i8 ((rd_T81 ((rd_T31 l0 0).f1) x5_1).f0))) (fun _ hk => hk.2) (.int .i16 ((rd_T81 ((rd_T31 l0 0).f1) x5_1).f1))) (fun _ hk => hk.2) (.int .i16 ((rd_T81 ((rd_T31 l0 0).f1) x5_1).f2))) (fun _ hk => trivial))); (case aS => exact (below_size (by repeat (first | (with_reducible first | exact HB.out | apply below_alloc | apply pw_below_drewN | apply below_drew1 | refine below_set ?_ GE177.out) | exact HB.out)))); (case aL => have := LMc20.out; omega); intro v186 w24 ho hb hg hat; rw [← Ny185.out] at ho; have n0_ := Aside0.mk (blk_grown (g := gb177) (o := .cells #[.int .i8 ((rd_T81 ((rd_T31 l0 0).f1) x5_1).f0), .int .i16 ((rd_T81 ((rd_T31 l0 0).f1) x5_1).f1), .int .i16 ((rd_T81 ((rd_T31 l0 0).f1) x5_1).f2)] 81 (0, 0)) (by (with_reducible repeat (first | refine blk_drewN ?_ _ | refine blk_drew ?_ | refine blk_alloc ?_ _)); refine blk_put (cs := #[.int .i8 ((rd_T81 ((rd_T31 l0 0).f1) x5_1).f0), .int .i16 ((rd_T81 ((rd_T31 l0 0).f1) x5_1).f1), .int .i16 0]) ?_ 2 _ rfl; (with_reducible repeat (first | refine blk_drewN ?_ _ | refine blk_drew ?_ | refine blk_alloc ?_ _)); refine blk_put (cs := #[.int .i8 ((rd_T81 ((rd_T31 l0 0).f1) x5_1).f0), .int .i16 0, .int .i16 0]) ?_ 1 _ rfl; (with_reducible repeat (first | refine blk_drewN ?_ _ | refine blk_drew ?_ | refine blk_alloc ?_ _)); refine blk_put (cs := #[.int .i8 0, .int .i16 0, .int .i16 0]) ?_ 0 _ rfl; (with_reducible repeat (first | refine blk_drewN ?_ _ | refine blk_drew ?_ | refine blk_alloc ?_ _)); exact BK177.out) hg (Kd.R_ne HO_4.out BK177.out (by decide))); have n1_ := Aside0.mk (hb); have n2_ := Aside0.mk (ho); clear BK177; clear HB; clear HO_4; have BK177 := n0_; have HB := n1_; have HO187 := n2_; clear n0_ n1_ n2_; clear ho hb hg hat)))
                            go_roundg k1
                            case measure => have := HK1.out; omega
                            case rel => exact ⟨(y185), (wrap64 (x5_1 + 1)), (by first | rfl | (simp; done) | (simp [*]; done) | (exact congrArg (Value.int .i64) (wrap_eq (by omega)))), H', ⟨by have := HK1.out; omega⟩, ⟨by (with_reducible repeat (first | apply Kd.R_alloc | apply Kd.R_drewN | apply Kd.R_drew)); exact HO187.out⟩, ⟨by repeat (first | (with_reducible first | exact HB.out | apply below_alloc | apply pw_below_drewN | apply below_drew1 | refine below_set ?_ GE177.out) | exact HB.out)⟩⟩
                          · rw [if_neg c20] at H
                            exact absurd H (by simp)
                        · rw [if_neg c19] at H
                          exact absurd H (by simp)
                      · rw [if_neg c18] at H
                        exact absurd H (by simp)
                    · rw [if_neg c17] at H
                      exact absurd H (by simp)
                  · rw [if_neg c16] at H
                    exact absurd H (by simp)
                · rw [if_neg c15] at H
                  have c15b0 : (((rd_T81 ((rd_T31 l0 0).f1) x5_1).f0) == 2) = false := beq_eq_false_iff_ne.mpr c15
                  have c15b1 : (((rd_T81 ((rd_T31 l0 0).f1) x5_1).f0) != 2) = true := bne_iff_ne.mpr c15
                  by_cases c25 : ((rd_T81 ((rd_T31 l0 0).f1) x5_1).f0) = 3
                  · rw [if_pos c25] at H
                    have c25b0 : (((rd_T81 ((rd_T31 l0 0).f1) x5_1).f0) == 3) = true := beq_iff_eq.mpr c25
                    have c25b1 : (((rd_T81 ((rd_T31 l0 0).f1) x5_1).f0) != 3) = false := bne_eq_false_iff_eq.mpr c25
                    clear c25
                    by_cases c26 : 0 ≤ ((rd_T81 ((rd_T31 l0 0).f1) x5_1).f1)
                    · rw [if_pos c26] at H
                      have c26b0 : decide (0 ≤ ((rd_T81 ((rd_T31 l0 0).f1) x5_1).f1)) = true := decide_eq_true c26
                      clear c26
                      by_cases c27 : ((rd_T81 ((rd_T31 l0 0).f1) x5_1).f1) < (x4_1.length : Int)
                      · rw [if_pos c27] at H
                        have c27b0 : decide (((rd_T81 ((rd_T31 l0 0).f1) x5_1).f1) < (x4_1.length : Int)) = true := decide_eq_true c27
                        clear c27
                        by_cases c28 : 0 ≤ ((rd_T81 ((rd_T31 l0 0).f1) x5_1).f2)
                        · rw [if_pos c28] at H
                          have c28b0 : decide (0 ≤ ((rd_T81 ((rd_T31 l0 0).f1) x5_1).f2)) = true := decide_eq_true c28
                          clear c28
                          by_cases c29 : ((rd_T81 ((rd_T31 l0 0).f1) x5_1).f2) < (x4_1.length : Int)
                          · rw [if_pos c29] at H
                            have c29b0 : decide (((rd_T81 ((rd_T31 l0 0).f1) x5_1).f2) < (x4_1.length : Int)) = true := decide_eq_true c29
                            clear c29
                            by_cases c30 : x4_1.length < 17592186044416
                            · rw [if_pos c30] at H
                              have LMc30 := Aside0.mk c30
                              clear c30
                              obtain ⟨y190, hy190⟩ : ∃ y_ : List Int, y_ = (x4_1 ++ [Go.bits .andNot .u64 (rd x4_1 ((rd_T81 ((rd_T31 l0 0).f1) x5_1).f1)) (rd x4_1 ((rd_T81 ((rd_T31 l0 0).f1) x5_1).f2))]) := ⟨_, rfl⟩
                              replace H : (spec_l04Tables.l0 k1 l0 t170 y190 (wrap64 (x5_1 + 1))) = some r := by first | (rw [hy190]; with_reducible exact H) | (have H2_ := (Option.bind_some _ _).symm.trans H; rw [hy190]; with_reducible exact H2_) | (have H2_ := (Option.bind_some _ _).symm.trans H; with_reducible exact H2_) | with_reducible exact H | (rw [hy190]; exact H) | exact H
                              have Ny190 := Aside0.mk hy190
                              clear hy190
                              have H' := Aside0.mk H
                              clear H
                              have p174 : 0 ≤ (0 : Int) := (by omega)
                              have q174 : 0 < (l0.length : Int) := of_decide_eq_true (by first | (with_reducible assumption) | assumption)
                              obtain ⟨ad174, A174_1, c174_1, A174_2, c174_2, e174, hx174_0, hx174_1, hx174_2, hl174_1, hi174_1, hl174_2, hi174_2⟩ := at_T31 HR0.out 0 p174 q174
                              obtain rfl : adp0 = ad174 := (by injection e174)
                              have qi174 : (0 < l0.length) = True := eq_true (by omega)
                              (try rw [show ((0 : Int)).toNat = 0 from rfl] at hx174_0)
                              (try rw [show 0 * 3 = 0 from rfl] at hx174_0)
                              (try rw [Addr.add_zero'] at hx174_0)
                              (try rw [show ((0 : Int)).toNat = 0 from rfl] at hx174_1)
                              (try rw [show 0 * 3 = 0 from rfl] at hx174_1)
                              (try rw [Addr.add_zero'] at hx174_1)
                              (try rw [show ((0 : Int)).toNat = 0 from rfl] at hx174_2)
                              (try rw [show 0 * 3 = 0 from rfl] at hx174_2)
                              (try rw [Addr.add_zero'] at hx174_2)
                              replace hx174_0 := (HB.out.cell (World.block_lt_of_cell? w _ hx174_0)).trans hx174_0
                              replace hx174_1 := (HB.out.cell (World.block_lt_of_cell? w _ hx174_1)).trans hx174_1
                              replace hx174_2 := (HB.out.cell (World.block_lt_of_cell? w _ hx174_2)).trans hx174_2
                              have HR174_1 := Aside0.mk hi174_1
                              have HC174_1 := Aside0.mk hl174_1
                              clear hi174_1 hl174_1
                              have HR174_2 := Aside0.mk hi174_2
                              have HC174_2 := Aside0.mk hl174_2
                              clear hi174_2 hl174_2
                              replace p174 := eq_true p174
                              replace q174 := eq_true q174
                              have p175 : 0 ≤ (0 : Int) := (by omega)
                              have q175 : 0 < (l0.length : Int) := of_decide_eq_true (by first | (with_reducible assumption) | assumption)
                              obtain ⟨ad175, A175_1, c175_1, A175_2, c175_2, e175, hx175_0, hx175_1, hx175_2, hl175_1, hi175_1, hl175_2, hi175_2⟩ := at_T31 HR0.out 0 p175 q175
                              obtain rfl : adp0 = ad175 := (by injection e175)
                              have qi175 : (0 < l0.length) = True := eq_true (by omega)
                              (try rw [show ((0 : Int)).toNat = 0 from rfl] at hx175_0)
                              (try rw [show 0 * 3 = 0 from rfl] at hx175_0)
                              (try rw [Addr.add_zero'] at hx175_0)
                              (try rw [show ((0 : Int)).toNat = 0 from rfl] at hx175_1)
                              (try rw [show 0 * 3 = 0 from rfl] at hx175_1)
                              (try rw [Addr.add_zero'] at hx175_1)
                              (try rw [show ((0 : Int)).toNat = 0 from rfl] at hx175_2)
                              (try rw [show 0 * 3 = 0 from rfl] at hx175_2)
                              (try rw [Addr.add_zero'] at hx175_2)
                              replace hx175_0 := (HB.out.cell (World.block_lt_of_cell? w _ hx175_0)).trans hx175_0
                              replace hx175_1 := (HB.out.cell (World.block_lt_of_cell? w _ hx175_1)).trans hx175_1
                              replace hx175_2 := (HB.out.cell (World.block_lt_of_cell? w _ hx175_2)).trans hx175_2
                              have HR175_1 := Aside0.mk hi175_1
                              have HC175_1 := Aside0.mk hl175_1
                              clear hi175_1 hl175_1
                              have HR175_2 := Aside0.mk hi175_2
                              have HC175_2 := Aside0.mk hl175_2
                              clear hi175_2 hl175_2
                              replace p175 := eq_true p175
                              replace q175 := eq_true q175
                              have ea_ := Option.some.inj (hx174_1.symm.trans hx175_1)
                              injection ea_ with ea_ en_ ec_
                              subst ea_
                              subst ec_
                              clear en_
                              have ea_ := Option.some.inj (hx174_2.symm.trans hx175_2)
                              injection ea_ with ea_ en_ ec_
                              subst ea_
                              subst ec_
                              clear en_
                              have p176 : 0 ≤ (x5_1 : Int) := of_decide_eq_true (by first | (with_reducible assumption) | assumption)
                              have q176 : x5_1 < (((rd_T31 l0 0).f1).length : Int) := of_decide_eq_true (by first | (with_reducible assumption) | assumption)
                              obtain ⟨ad176, e176, hx176_0, hx176_1, hx176_2⟩ := at_T81 HR175_1.out x5_1 p176 q176
                              cases e176
                              replace hx176_0 := (HB.out.cell (World.block_lt_of_cell? w _ hx176_0)).trans hx176_0
                              replace hx176_1 := (HB.out.cell (World.block_lt_of_cell? w _ hx176_1)).trans hx176_1
                              replace hx176_2 := (HB.out.cell (World.block_lt_of_cell? w _ hx176_2)).trans hx176_2
                              replace p176 := eq_true p176
                              replace q176 := eq_true q176
                              go_wp2_with (first | ((with_reducible refine gate_dst (N := 6) rfl ?_); refine box_event ?hg (N := 6) ?hd (cs := #[.int .i8 0, .int .i16 0, .int .i16 0]) (t := 81) ?hr ?_; (case hd => rfl); (case hg => rfl); (case hr => first | (go_simp; done) | (go_simp; rfl)); intro gb177 hg w31 hbox hb; have n0_ := Aside0.mk (Kd.R_below (by (with_reducible repeat (first | apply Kd.R_alloc | apply Kd.R_drewN | apply Kd.R_drew)); exact HO_4.out) hb); have n1_ := Aside0.mk (below_step (by repeat (first | (with_reducible first | exact HB.out | apply below_alloc | apply pw_below_drewN | apply below_drew1) | exact HB.out)) hb); have n2_ := Aside0.mk (hbox); have n3_ := Aside0.mk ((by rw [hg]; exact (below_size (by repeat (first | (with_reducible first | exact HB.out | apply below_alloc | apply pw_below_drewN | apply below_drew1) | exact HB.out))) : w.heap.size ≤ gb177)); have n4_ := Aside0.mk ((by rw [hg]; exact (below_size (by repeat (first | (with_reducible first | exact HB.out | apply below_alloc | apply pw_below_drewN | apply below_drew1) | exact HB.out))) : w.heap.size ≤ gb177)); clear HO_4; clear HB; have HO_4 := n0_; have HB := n1_; have BK177 := n2_; have GW177 := n3_; have GE177 := n4_; clear n0_ n1_ n2_ n3_ n4_; clear hb hbox hg; have hcz32_0 : w31.cell? ⟨gb177, 0, none⟩ = some (.int .i8 0) := (blk_cell BK177.out 0).trans rfl; have hcz32_1 : w31.cell? ⟨gb177, 1, none⟩ = some (.int .i16 0) := (blk_cell BK177.out 1).trans rfl; have hcz32_2 : w31.cell? ⟨gb177, 2, none⟩ = some (.int .i16 0) := (blk_cell BK177.out 2).trans rfl; have hfz32_0 := blk_frozen BK177.out 0; have hfz32_1 := blk_frozen BK177.out 1; have hfz32_2 := blk_frozen BK177.out 2; obtain ⟨Ao33, co33, eo33⟩ := Kd.R_slice HO_4.out; subst eo33; have p188 : 0 ≤ (((rd_T81 ((rd_T31 l0 0).f1) x5_1).f1) : Int) := of_decide_eq_true (by first | (with_reducible assumption) | assumption); have q188 : ((rd_T81 ((rd_T31 l0 0).f1) x5_1).f1) < (x4_1.length : Int) := of_decide_eq_true (by first | (with_reducible assumption) | assumption); obtain ⟨ad188, e188, hx188_0⟩ := Kd.at_int (Kd.R_reads' HO_4.out).2.2 ((rd_T81 ((rd_T31 l0 0).f1) x5_1).f1) p188 q188; cases e188; have hn188_0 : ad188.block ≠ gb177 := Kd.own_blk (Kd.R_ne HO_4.out BK177.out (by decide)); have hn188_1 : ad188.block ≠ gb177 := Kd.own_blk (Kd.R_ne HO_4.out BK177.out (by decide)); have hn188_2 : ad188.block ≠ gb177 := Kd.own_blk (Kd.R_ne HO_4.out BK177.out (by decide)); replace hx188_0 := (cell_far (p := ⟨gb177, 0, none⟩) (by first | (rw [add_block]; exact hn188_0) | (show (Addr.add _ _).block ≠ _; rw [add_block]; exact hn188_0) | exact hn188_0) (.int .i8 ((rd_T81 ((rd_T31 l0 0).f1) x5_1).f0))).trans hx188_0; replace hx188_0 := (cell_far (p := ⟨gb177, 1, none⟩) (by first | (rw [add_block]; exact hn188_1) | (show (Addr.add _ _).block ≠ _; rw [add_block]; exact hn188_1) | exact hn188_1) (.int .i16 ((rd_T81 ((rd_T31 l0 0).f1) x5_1).f1))).trans hx188_0; replace hx188_0 := (cell_far (p := ⟨gb177, 2, none⟩) (by first | (rw [add_block]; exact hn188_2) | (show (Addr.add _ _).block ≠ _; rw [add_block]; exact hn188_2) | exact hn188_2) (.int .i16 ((rd_T81 ((rd_T31 l0 0).f1) x5_1).f2))).trans hx188_0; (try have hy188_0 := fun (n_ : Nat) => (show (((((w31.drewN n_).setCell ⟨gb177, 0, none⟩ (.int .i8 ((rd_T81 ((rd_T31 l0 0).f1) x5_1).f0))).setCell ⟨gb177, 1, none⟩ (.int .i16 ((rd_T81 ((rd_T31 l0 0).f1) x5_1).f1))).setCell ⟨gb177, 2, none⟩ (.int .i16 ((rd_T81 ((rd_T31 l0 0).f1) x5_1).f2)))).cell? _ = some _ from hx188_0)); clear hn188_0; clear hn188_1; clear hn188_2; replace p188 := eq_true p188; replace q188 := eq_true q188; have p189 : 0 ≤ (((rd_T81 ((rd_T31 l0 0).f1) x5_1).f2) : Int) := of_decide_eq_true (by first | (with_reducible assumption) | assumption); have q189 : ((rd_T81 ((rd_T31 l0 0).f1) x5_1).f2) < (x4_1.length : Int) := of_decide_eq_true (by first | (with_reducible assumption) | assumption); obtain ⟨ad189, e189, hx189_0⟩ := Kd.at_int (Kd.R_reads' HO_4.out).2.2 ((rd_T81 ((rd_T31 l0 0).f1) x5_1).f2) p189 q189; obtain rfl : ad188 = ad189 := (by injection e189); have hn189_0 : ad188.block ≠ gb177 := Kd.own_blk (Kd.R_ne HO_4.out BK177.out (by decide)); have hn189_1 : ad188.block ≠ gb177 := Kd.own_blk (Kd.R_ne HO_4.out BK177.out (by decide)); have hn189_2 : ad188.block ≠ gb177 := Kd.own_blk (Kd.R_ne HO_4.out BK177.out (by decide)); replace hx189_0 := (cell_far (p := ⟨gb177, 0, none⟩) (by first | (rw [add_block]; exact hn189_0) | (show (Addr.add _ _).block ≠ _; rw [add_block]; exact hn189_0) | exact hn189_0) (.int .i8 ((rd_T81 ((rd_T31 l0 0).f1) x5_1).f0))).trans hx189_0; replace hx189_0 := (cell_far (p := ⟨gb177, 1, none⟩) (by first | (rw [add_block]; exact hn189_1) | (show (Addr.add _ _).block ≠ _; rw [add_block]; exact hn189_1) | exact hn189_1) (.int .i16 ((rd_T81 ((rd_T31 l0 0).f1) x5_1).f1))).trans hx189_0; replace hx189_0 := (cell_far (p := ⟨gb177, 2, none⟩) (by first | (rw [add_block]; exact hn189_2) | (show (Addr.add _ _).block ≠ _; rw [add_block]; exact hn189_2) | exact hn189_2) (.int .i16 ((rd_T81 ((rd_T31 l0 0).f1) x5_1).f2))).trans hx189_0; (try have hy189_0 := fun (n_ : Nat) => (show (((((w31.drewN n_).setCell ⟨gb177, 0, none⟩ (.int .i8 ((rd_T81 ((rd_T31 l0 0).f1) x5_1).f0))).setCell ⟨gb177, 1, none⟩ (.int .i16 ((rd_T81 ((rd_T31 l0 0).f1) x5_1).f1))).setCell ⟨gb177, 2, none⟩ (.int .i16 ((rd_T81 ((rd_T31 l0 0).f1) x5_1).f2)))).cell? _ = some _ from hx189_0)); clear hn189_0; clear hn189_1; clear hn189_2; replace p189 := eq_true p189; replace q189 := eq_true q189) | ((with_reducible refine gate_builtin (b := .append) (xs := #[.tmp 71, .tmp 73]) rfl ?_); at_builtin; refine Kd.R_append (Kd.int .u64) (w0 := w) w.heap.size rfl (.tmp 71) (.tmp 73) 53 98 (.int .u64 0) 8 rfl Try.underlying53 info98 rfl (by decide) (by omega) (.slice (some ad188) x4_1.length co33) x4_1 (Go.bits .andNot .u64 (rd x4_1 ((rd_T81 ((rd_T31 l0 0).f1) x5_1).f1)) (rd x4_1 ((rd_T81 ((rd_T31 l0 0).f1) x5_1).f2))) [.int .u64 (Go.bits .andNot .u64 (rd x4_1 ((rd_T81 ((rd_T31 l0 0).f1) x5_1).f1)) (rd x4_1 ((rd_T81 ((rd_T31 l0 0).f1) x5_1).f2)))] (fun _ => True) (fun _ => False) rfl (by first | (go_simp; done) | (go_simp; rfl)) ?aP (fun _ hk => hk.elim) ?aF ?aO ?aB ?aS ?aL ?_; (case aP => exact rfl); (case aB => exact (by repeat (first | (with_reducible first | exact HB.out | apply below_alloc | apply pw_below_drewN | apply below_drew1 | refine below_set ?_ GE177.out) | exact HB.out))); (case aF => exact (fun _ _ => trivial)); (case aO => exact (by (with_reducible repeat (first | apply Kd.R_alloc | apply Kd.R_drewN | apply Kd.R_drew)); exact Kd.R_mono (Kd.R_far (p := ⟨gb177, 2, none⟩) (Kd.R_far (p := ⟨gb177, 1, none⟩) (Kd.R_far (p := ⟨gb177, 0, none⟩) (Kd.R_types HO_4.out BK177.out (by decide)) (fun _ hk => hk.2) (.int .i8 ((rd_T81 ((rd_T31 l0 0).f1) x5_1).f0))) (fun _ hk => hk.2) (.int .i16 ((rd_T81 ((rd_T31 l0 0).f1) x5_1).f1))) (fun _ hk => hk.2) (.int .i16 ((rd_T81 ((rd_T31 l0 0).f1) x5_1).f2))) (fun _ hk => trivial))); (case aS => exact (below_size (by repeat (first | (with_reducible first | exact HB.out | apply below_alloc | apply pw_below_drewN | apply below_drew1 | refine below_set ?_ GE177.out) | exact HB.out)))); (case aL => have := LMc30.out; omega); intro v191 w34 ho hb hg hat; rw [← Ny190.out] at ho; have n0_ := Aside0.mk (blk_grown (g := gb177) (o := .cells #[.int .i8 ((rd_T81 ((rd_T31 l0 0).f1) x5_1).f0), .int .i16 ((rd_T81 ((rd_T31 l0 0).f1) x5_1).f1), .int .i16 ((rd_T81 ((rd_T31 l0 0).f1) x5_1).f2)] 81 (0, 0)) (by (with_reducible repeat (first | refine blk_drewN ?_ _ | refine blk_drew ?_ | refine blk_alloc ?_ _)); refine blk_put (cs := #[.int .i8 ((rd_T81 ((rd_T31 l0 0).f1) x5_1).f0), .int .i16 ((rd_T81 ((rd_T31 l0 0).f1) x5_1).f1), .int .i16 0]) ?_ 2 _ rfl; (with_reducible repeat (first | refine blk_drewN ?_ _ | refine blk_drew ?_ | refine blk_alloc ?_ _)); refine blk_put (cs := #[.int .i8 ((rd_T81 ((rd_T31 l0 0).f1) x5_1).f0), .int .i16 0, .int .i16 0]) ?_ 1 _ rfl; (with_reducible repeat (first | refine blk_drewN ?_ _ | refine blk_drew ?_ | refine blk_alloc ?_ _)); refine blk_put (cs := #[.int .i8 0, .int .i16 0, .int .i16 0]) ?_ 0 _ rfl; (with_reducible repeat (first | refine blk_drewN ?_ _ | refine blk_drew ?_ | refine blk_alloc ?_ _)); exact BK177.out) hg (Kd.R_ne HO_4.out BK177.out (by decide))); have n1_ := Aside0.mk (hb); have n2_ := Aside0.mk (ho); clear BK177; clear HB; clear HO_4; have BK177 := n0_; have HB := n1_; have HO192 := n2_; clear n0_ n1_ n2_; clear ho hb hg hat))
                              repeat (go_quiet (first | ((with_reducible refine gate_dst (N := 6) rfl ?_); refine box_event ?hg (N := 6) ?hd (cs := #[.int .i8 0, .int .i16 0, .int .i16 0]) (t := 81) ?hr ?_; (case hd => rfl); (case hg => rfl); (case hr => first | (go_simp; done) | (go_simp; rfl)); intro gb177 hg w31 hbox hb; have n0_ := Aside0.mk (Kd.R_below (by (with_reducible repeat (first | apply Kd.R_alloc | apply Kd.R_drewN | apply Kd.R_drew)); exact HO_4.out) hb); have n1_ := Aside0.mk (below_step (by repeat (first | (with_reducible first | exact HB.out | apply below_alloc | apply pw_below_drewN | apply below_drew1) | exact HB.out)) hb); have n2_ := Aside0.mk (hbox); have n3_ := Aside0.mk ((by rw [hg]; exact (below_size (by repeat (first | (with_reducible first | exact HB.out | apply below_alloc | apply pw_below_drewN | apply below_drew1) | exact HB.out))) : w.heap.size ≤ gb177)); have n4_ := Aside0.mk ((by rw [hg]; exact (below_size (by repeat (first | (with_reducible first | exact HB.out | apply below_alloc | apply pw_below_drewN | apply below_drew1) | exact HB.out))) : w.heap.size ≤ gb177)); clear HO_4; clear HB; have HO_4 := n0_; have HB := n1_; have BK177 := n2_; have GW177 := n3_; have GE177 := n4_; clear n0_ n1_ n2_ n3_ n4_; clear hb hbox hg; have hcz32_0 : w31.cell? ⟨gb177, 0, none⟩ = some (.int .i8 0) := (blk_cell BK177.out 0).trans rfl; have hcz32_1 : w31.cell? ⟨gb177, 1, none⟩ = some (.int .i16 0) := (blk_cell BK177.out 1).trans rfl; have hcz32_2 : w31.cell? ⟨gb177, 2, none⟩ = some (.int .i16 0) := (blk_cell BK177.out 2).trans rfl; have hfz32_0 := blk_frozen BK177.out 0; have hfz32_1 := blk_frozen BK177.out 1; have hfz32_2 := blk_frozen BK177.out 2; obtain ⟨Ao33, co33, eo33⟩ := Kd.R_slice HO_4.out; subst eo33; have p188 : 0 ≤ (((rd_T81 ((rd_T31 l0 0).f1) x5_1).f1) : Int) := of_decide_eq_true (by first | (with_reducible assumption) | assumption); have q188 : ((rd_T81 ((rd_T31 l0 0).f1) x5_1).f1) < (x4_1.length : Int) := of_decide_eq_true (by first | (with_reducible assumption) | assumption); obtain ⟨ad188, e188, hx188_0⟩ := Kd.at_int (Kd.R_reads' HO_4.out).2.2 ((rd_T81 ((rd_T31 l0 0).f1) x5_1).f1) p188 q188; cases e188; have hn188_0 : ad188.block ≠ gb177 := Kd.own_blk (Kd.R_ne HO_4.out BK177.out (by decide)); have hn188_1 : ad188.block ≠ gb177 := Kd.own_blk (Kd.R_ne HO_4.out BK177.out (by decide)); have hn188_2 : ad188.block ≠ gb177 := Kd.own_blk (Kd.R_ne HO_4.out BK177.out (by decide)); replace hx188_0 := (cell_far (p := ⟨gb177, 0, none⟩) (by first | (rw [add_block]; exact hn188_0) | (show (Addr.add _ _).block ≠ _; rw [add_block]; exact hn188_0) | exact hn188_0) (.int .i8 ((rd_T81 ((rd_T31 l0 0).f1) x5_1).f0))).trans hx188_0; replace hx188_0 := (cell_far (p := ⟨gb177, 1, none⟩) (by first | (rw [add_block]; exact hn188_1) | (show (Addr.add _ _).block ≠ _; rw [add_block]; exact hn188_1) | exact hn188_1) (.int .i16 ((rd_T81 ((rd_T31 l0 0).f1) x5_1).f1))).trans hx188_0; replace hx188_0 := (cell_far (p := ⟨gb177, 2, none⟩) (by first | (rw [add_block]; exact hn188_2) | (show (Addr.add _ _).block ≠ _; rw [add_block]; exact hn188_2) | exact hn188_2) (.int .i16 ((rd_T81 ((rd_T31 l0 0).f1) x5_1).f2))).trans hx188_0; (try have hy188_0 := fun (n_ : Nat) => (show (((((w31.drewN n_).setCell ⟨gb177, 0, none⟩ (.int .i8 ((rd_T81 ((rd_T31 l0 0).f1) x5_1).f0))).setCell ⟨gb177, 1, none⟩ (.int .i16 ((rd_T81 ((rd_T31 l0 0).f1) x5_1).f1))).setCell ⟨gb177, 2, none⟩ (.int .i16 ((rd_T81 ((rd_T31 l0 0).f1) x5_1).f2)))).cell? _ = some _ from hx188_0)); clear hn188_0; clear hn188_1; clear hn188_2; replace p188 := eq_true p188; replace q188 := eq_true q188; have p189 : 0 ≤ (((rd_T81 ((rd_T31 l0 0).f1) x5_1).f2) : Int) := of_decide_eq_true (by first | (with_reducible assumption) | assumption); have q189 : ((rd_T81 ((rd_T31 l0 0).f1) x5_1).f2) < (x4_1.length : Int) := of_decide_eq_true (by first | (with_reducible assumption) | assumption); obtain ⟨ad189, e189, hx189_0⟩ := Kd.at_int (Kd.R_reads' HO_4.out).2.2 ((rd_T81 ((rd_T31 l0 0).f1) x5_1).f2) p189 q189; obtain rfl : ad188 = ad189 := (by injection e189); have hn189_0 : ad188.block ≠ gb177 := Kd.own_blk (Kd.R_ne HO_4.out BK177.out (by decide)); have hn189_1 : ad188.block ≠ gb177 := Kd.own_blk (Kd.R_ne HO_4.out BK177.out (by decide)); have hn189_2 : ad188.block ≠ gb177 := Kd.own_blk (Kd.R_ne HO_4.out BK177.out (by decide)); replace hx189_0 := (cell_far (p := ⟨gb177, 0, none⟩) (by first | (rw [add_block]; exact hn189_0) | (show (Addr.add _ _).block ≠ _; rw [add_block]; exact hn189_0) | exact hn189_0) (.int .i8 ((rd_T81 ((rd_T31 l0 0).f1) x5_1).f0))).trans hx189_0; replace hx189_0 := (cell_far (p := ⟨gb177, 1, none⟩) (by first | (rw [add_block]; exact hn189_1) | (show (Addr.add _ _).block ≠ _; rw [add_block]; exact hn189_1) | exact hn189_1) (.int .i16 ((rd_T81 ((rd_T31 l0 0).f1) x5_1).f1))).trans hx189_0; replace hx189_0 := (cell_far (p := ⟨gb177, 2, none⟩) (by first | (rw [add_block]; exact hn189_2) | (show (Addr.add _ _).block ≠ _; rw [add_block]; exact hn189_2) | exact hn189_2) (.int .i16 ((rd_T81 ((rd_T31 l0 0).f1) x5_1).f2))).trans hx189_0; (try have hy189_0 := fun (n_ : Nat) => (show (((((w31.drewN n_).setCell ⟨gb177, 0, none⟩ (.int .i8 ((rd_T81 ((rd_T31 l0 0).f1) x5_1).f0))).setCell ⟨gb177, 1, none⟩ (.int .i16 ((rd_T81 ((rd_T31 l0 0).f1) x5_1).f1))).setCell ⟨gb177, 2, none⟩ (.int .i16 ((rd_T81 ((rd_T31 l0 0).f1) x5_1).f2)))).cell? _ = some _ from hx189_0)); clear hn189_0; clear hn189_1; clear hn189_2; replace p189 := eq_true p189; replace q189 := eq_true q189) | ((with_reducible refine gate_builtin (b := .append) (xs := #[.tmp 71, .tmp 73]) rfl ?_); at_builtin; refine Kd.R_append (Kd.int .u64) (w0 := w) w.heap.size rfl (.tmp 71) (.tmp 73) 53 98 (.int .u64 0) 8 rfl Try.underlying53 info98 rfl (by decide) (by omega) (.slice (some ad188) x4_1.length co33) x4_1 (Go.bits .andNot .u64 (rd x4_1 ((rd_T81 ((rd_T31 l0 0).f1) x5_1).f1)) (rd x4_1 ((rd_T81 ((rd_T31 l0 0).f1) x5_1).f2))) [.int .u64 (Go.bits .andNot .u64 (rd x4_1 ((rd_T81 ((rd_T31 l0 0).f1) x5_1).f1)) (rd x4_1 ((rd_T81 ((rd_T31 l0 0).f1) x5_1).f2)))] (fun _ => True) (fun _ => False) rfl (by first | (go_simp; done) | (go_simp; rfl)) ?aP (fun _ hk => hk.elim) ?aF ?aO ?aB ?aS ?aL ?_; (case aP => exact rfl); (case aB => exact (by repeat (first | (with_reducible first | exact HB.out | apply below_alloc | apply pw_below_drewN | apply below_drew1 | refine below_set ?_ GE177.out) | exact HB.out))); (case aF => exact (fun _ _ => trivial)); (case aO => exact (by (with_reducible repeat (first | apply Kd.R_alloc | apply Kd.R_drewN | apply Kd.R_drew)); exact Kd.R_mono (Kd.R_far (p := ⟨gb177, 2, none⟩) (Kd.R_far (p := ⟨gb177, 1, none⟩) (Kd.R_far (p := ⟨gb177, 0, none⟩) (Kd.R_types HO_4.out BK177.out (by decide)) (fun _ hk => hk.2) (.int .i8 ((rd_T81 ((rd_T31 l0 0).f1) x5_1).f0))) (fun _ hk => hk.2) (.int .i16 ((rd_T81 ((rd_T31 l0 0).f1) x5_1).f1))) (fun _ hk => hk.2) (.int .i16 ((rd_T81 ((rd_T31 l0 0).f1) x5_1).f2))) (fun _ hk => trivial))); (case aS => exact (below_size (by repeat (first | (with_reducible first | exact HB.out | apply below_alloc | apply pw_below_drewN | apply below_drew1 | refine below_set ?_ GE177.out) | exact HB.out)))); (case aL => have := LMc30.out; omega); intro v191 w34 ho hb hg hat; rw [← Ny190.out] at ho; have n0_ := Aside0.mk (blk_grown (g := gb177) (o := .cells #[.int .i8 ((rd_T81 ((rd_T31 l0 0).f1) x5_1).f0), .int .i16 ((rd_T81 ((rd_T31 l0 0).f1) x5_1).f1), .int .i16 ((rd_T81 ((rd_T31 l0 0).f1) x5_1).f2)] 81 (0, 0)) (by (with_reducible repeat (first | refine blk_drewN ?_ _ | refine blk_drew ?_ | refine blk_alloc ?_ _)); refine blk_put (cs := #[.int .i8 ((rd_T81 ((rd_T31 l0 0).f1) x5_1).f0), .int .i16 ((rd_T81 ((rd_T31 l0 0).f1) x5_1).f1), .int .i16 0]) ?_ 2 _ rfl; (with_reducible repeat (first | refine blk_drewN ?_ _ | refine blk_drew ?_ | refine blk_alloc ?_ _)); refine blk_put (cs := #[.int .i8 ((rd_T81 ((rd_T31 l0 0).f1) x5_1).f0), .int .i16 0, .int .i16 0]) ?_ 1 _ rfl; (with_reducible repeat (first | refine blk_drewN ?_ _ | refine blk_drew ?_ | refine blk_alloc ?_ _)); refine blk_put (cs := #[.int .i8 0, .int .i16 0, .int .i16 0]) ?_ 0 _ rfl; (with_reducible repeat (first | refine blk_drewN ?_ _ | refine blk_drew ?_ | refine blk_alloc ?_ _)); exact BK177.out) hg (Kd.R_ne HO_4.out BK177.out (by decide))); have n1_ := Aside0.mk (hb); have n2_ := Aside0.mk (ho); clear BK177; clear HB; clear HO_4; have BK177 := n0_; have HB := n1_; have HO192 := n2_; clear n0_ n1_ n2_; clear ho hb hg hat)); try go_wp2_with (first | ((with_reducible refine gate_dst (N := 6) rfl ?_); refine box_event ?hg (N := 6) ?hd (cs := #[.int .i8 0, .int .i16 0, .int .i16 0]) (t := 81) ?hr ?_; (case hd => rfl); (case hg => rfl); (case hr => first | (go_simp; done) | (go_simp; rfl)); intro gb177 hg w31 hbox hb; have n0_ := Aside0.mk (Kd.R_below (by (with_reducible repeat (first | apply Kd.R_alloc | apply Kd.R_drewN | apply Kd.R_drew)); exact HO_4.out) hb); have n1_ := Aside0.mk (below_step (by repeat (first | (with_reducible first | exact HB.out | apply below_alloc | apply pw_below_drewN | apply below_drew1) | exact HB.out)) hb); have n2_ := Aside0.mk (hbox); have n3_ := Aside0.mk ((by rw [hg]; exact (below_size (by repeat (first | (with_reducible first | exact HB.out | apply below_alloc | apply pw_below_drewN | apply below_drew1) | exact HB.out))) : w.heap.size ≤ gb177)); have n4_ := Aside0.mk ((by rw [hg]; exact (below_size (by repeat (first | (with_reducible first | exact HB.out | apply below_alloc | apply pw_below_drewN | apply below_drew1) | exact HB.out))) : w.heap.size ≤ gb177)); clear HO_4; clear HB; have HO_4 := n0_; have HB := n1_; have BK177 := n2_; have GW177 := n3_; have GE177 := n4_; clear n0_ n1_ n2_ n3_ n4_; clear hb hbox hg; have hcz32_0 : w31.cell? ⟨gb177, 0, none⟩ = some (.int .i8 0) := (blk_cell BK177.out 0).trans rfl; have hcz32_1 : w31.cell? ⟨gb177, 1, none⟩ = some (.int .i16 0) := (blk_cell BK177.out 1).trans rfl; have hcz32_2 : w31.cell? ⟨gb177, 2, none⟩ = some (.int .i16 0) := (blk_cell BK177.out 2).trans rfl; have hfz32_0 := blk_frozen BK177.out 0; have hfz32_1 := blk_frozen BK177.out 1; have hfz32_2 := blk_frozen BK177.out 2; obtain ⟨Ao33, co33, eo33⟩ := Kd.R_slice HO_4.out; subst eo33; have p188 : 0 ≤ (((rd_T81 ((rd_T31 l0 0).f1) x5_1).f1) : Int) := of_decide_eq_true (by first | (with_reducible assumption) | assumption); have q188 : ((rd_T81 ((rd_T31 l0 0).f1) x5_1).f1) < (x4_1.length : Int) := of_decide_eq_true (by first | (with_reducible assumption) | assumption); obtain ⟨ad188, e188, hx188_0⟩ := Kd.at_int (Kd.R_reads' HO_4.out).2.2 ((rd_T81 ((rd_T31 l0 0).f1) x5_1).f1) p188 q188; cases e188; have hn188_0 : ad188.block ≠ gb177 := Kd.own_blk (Kd.R_ne HO_4.out BK177.out (by decide)); have hn188_1 : ad188.block ≠ gb177 := Kd.own_blk (Kd.R_ne HO_4.out BK177.out (by decide)); have hn188_2 : ad188.block ≠ gb177 := Kd.own_blk (Kd.R_ne HO_4.out BK177.out (by decide)); replace hx188_0 := (cell_far (p := ⟨gb177, 0, none⟩) (by first | (rw [add_block]; exact hn188_0) | (show (Addr.add _ _).block ≠ _; rw [add_block]; exact hn188_0) | exact hn188_0) (.int .i8 ((rd_T81 ((rd_T31 l0 0).f1) x5_1).f0))).trans hx188_0; replace hx188_0 := (cell_far (p := ⟨gb177, 1, none⟩) (by first | (rw [add_block]; exact hn188_1) | (show (Addr.add _ _).block ≠ _; rw [add_block]; exact hn188_1) | exact hn188_1) (.int .i16 ((rd_T81 ((rd_T31 l0 0).f1) x5_1).f1))).trans hx188_0; replace hx188_0 := (cell_far (p := ⟨gb177, 2, none⟩) (by first | (rw [add_block]; exact hn188_2) | (show (Addr.add _ _).block ≠ _; rw [add_block]; exact hn188_2) | exact hn188_2) (.int .i16 ((rd_T81 ((rd_T31 l0 0).f1) x5_1).f2))).trans hx188_0; (try have hy188_0 := fun (n_ : Nat) => (show (((((w31.drewN n_).setCell ⟨gb177, 0, none⟩ (.int .i8 ((rd_T81 ((rd_T31 l0 0).f1) x5_1).f0))).setCell ⟨gb177, 1, none⟩ (.int .i16 ((rd_T81 ((rd_T31 l0 0).f1) x5_1).f1))).setCell ⟨gb177, 2, none⟩ (.int .i16 ((rd_T81 ((rd_T31 l0 0).f1) x5_1).f2)))).cell? _ = some _ from hx188_0)); clear hn188_0; clear hn188_1; clear hn188_2; replace p188 := eq_true p188; replace q188 := eq_true q188; have p189 : 0 ≤ (((rd_T81 ((rd_T31 l0 0).f1) x5_1).f2) : Int) := of_decide_eq_true (by first | (with_reducible assumption) | assumption); have q189 : ((rd_T81 ((rd_T31 l0 0).f1) x5_1).f2) < (x4_1.length : Int) := of_decide_eq_true (by first | (with_reducible assumption) | assumption); obtain ⟨ad189, e189, hx189_0⟩ := Kd.at_int (Kd.R_reads' HO_4.out).2.2 ((rd_T81 ((rd_T31 l0 0).f1) x5_1).f2) p189 q189; obtain rfl : ad188 = ad189 := (by injection e189); have hn189_0 : ad188.block ≠ gb177 := Kd.own_blk (Kd.R_ne HO_4.out BK177.out (by decide)); have hn189_1 : ad188.block ≠ gb177 := Kd.own_blk (Kd.R_ne HO_4.out BK177.out (by decide)); have hn189_2 : ad188.block ≠ gb177 := Kd.own_blk (Kd.R_ne HO_4.out BK177.out (by decide)); replace hx189_0 := (cell_far (p := ⟨gb177, 0, none⟩) (by first | (rw [add_block]; exact hn189_0) | (show (Addr.add _ _).block ≠ _; rw [add_block]; exact hn189_0) | exact hn189_0) (.int .i8 ((rd_T81 ((rd_T31 l0 0).f1) x5_1).f0))).trans hx189_0; replace hx189_0 := (cell_far (p := ⟨gb177, 1, none⟩) (by first | (rw [add_block]; exact hn189_1) | (show (Addr.add _ _).block ≠ _; rw [add_block]; exact hn189_1) | exact hn189_1) (.int .i16 ((rd_T81 ((rd_T31 l0 0).f1) x5_1).f1))).trans hx189_0; replace hx189_0 := (cell_far (p := ⟨gb177, 2, none⟩) (by first | (rw [add_block]; exact hn189_2) | (show (Addr.add _ _).block ≠ _; rw [add_block]; exact hn189_2) | exact hn189_2) (.int .i16 ((rd_T81 ((rd_T31 l0 0).f1) x5_1).f2))).trans hx189_0; (try have hy189_0 := fun (n_ : Nat) => (show (((((w31.drewN n_).setCell ⟨gb177, 0, none⟩ (.int .i8 ((rd_T81 ((rd_T31 l0 0).f1) x5_1).f0))).setCell ⟨gb177, 1, none⟩ (.int .i16 ((rd_T81 ((rd_T31 l0 0).f1) x5_1).f1))).setCell ⟨gb177, 2, none⟩ (.int .i16 ((rd_T81 ((rd_T31 l0 0).f1) x5_1).f2)))).cell? _ = some _ from hx189_0)); clear hn189_0; clear hn189_1; clear hn189_2; replace p189 := eq_true p189; replace q189 := eq_true q189) | ((with_reducible refine gate_builtin (b := .append) (xs := #[.tmp 71, .tmp 73]) rfl ?_); at_builtin; refine Kd.R_append (Kd.int .u64) (w0 := w) w.heap.size rfl (.tmp 71) (.tmp 73) 53 98 (.int .u64 0) 8 rfl Try.underlying53 info98 rfl (by decide) (by omega) (.slice (some ad188) x4_1.length co33) x4_1 (Go.bits .andNot .u64 (rd x4_1 ((rd_T81 ((rd_T31 l0 0).f1) x5_1).f1)) (rd x4_1 ((rd_T81 ((rd_T31 l0 0).f1) x5_1).f2))) [.int .u64 (Go.bits .andNot .u64 (rd x4_1 ((rd_T81 ((rd_T31 l0 0).f1) x5_1).f1)) (rd x4_1 ((rd_T81 ((rd_T31 l0 0).f1) x5_1).f2)))] (fun _ => True) (fun _ => False) rfl (by first | (go_simp; done) | (go_simp; rfl)) ?aP (fun _ hk => hk.elim) ?aF ?aO ?aB ?aS ?aL ?_; (case aP => exact rfl); (case aB => exact (by repeat (first | (with_reducible first | exact HB.out | apply below_alloc | apply pw_below_drewN | apply below_drew1 | refine below_set ?_ GE177.out) | exact HB.out))); (case aF => exact (fun _ _ => trivial)); (case aO => exact (by (with_reducible repeat (first | apply Kd.R_alloc | apply Kd.R_drewN | apply Kd.R_drew)); exact Kd.R_mono (Kd.R_far (p := ⟨gb177, 2, none⟩) (Kd.R_far (p := ⟨gb177, 1, none⟩) (Kd.R_far (p := ⟨gb177, 0, none⟩) (Kd.R_types HO_4.out BK177.out (by decide)) (fun _ hk => hk.2) (.int .i8 ((rd_T81 ((rd_T31 l0 0).f1) x5_1).f0))) (fun _ hk => hk.2) (.int .i16 ((rd_T81 ((rd_T31 l0 0).f1) x5_1).f1))) (fun _ hk => hk.2) (.int .i16 ((rd_T81 ((rd_T31 l0 0).f1) x5_1).f2))) (fun _ hk => trivial))); (case aS => exact (below_size (by repeat (first | (with_reducible first | exact HB.out | apply below_alloc | apply pw_below_drewN | apply below_drew1 | refine below_set ?_ GE177.out) | exact HB.out)))); (case aL => have := LMc30.out; omega); intro v191 w34 ho hb hg hat; rw [← Ny190.out] at ho; have n0_ := Aside0.mk (blk_grown (g := gb177) (o := .cells #[.int .i8 ((rd_T81 ((rd_T31 l0 0).f1) x5_1).f0), .int .i16 ((rd_T81 ((rd_T31 l0 0).f1) x5_1).f1), .int .i16 ((rd_T81 ((rd_T31 l0 0).f1) x5_1).f2)] 81 (0, 0)) (by (with_reducible repeat (first | refine blk_drewN ?_ _ | refine blk_drew ?_ | refine blk_alloc ?_ _)); refine blk_put (cs := #[.int .i8 ((rd_T81 ((rd_T31 l0 0).f1) x5_1).f0), .int .i16 ((rd_T81 ((rd_T31 l0 0).f1) x5_1).f1), .int .i16 0]) ?_ 2 _ rfl; (with_reducible repeat (first | refine blk_drewN ?_ _ | refine blk_drew ?_ | refine blk_alloc ?_ _)); refine blk_put (cs := #[.int .i8 ((rd_T81 ((rd_T31 l0 0).f1) x5_1).f0), .int .i16 0, .int .i16 0]) ?_ 1 _ rfl; (with_reducible repeat (first | refine blk_drewN ?_ _ | refine blk_drew ?_ | refine blk_alloc ?_ _)); refine blk_put (cs := #[.int .i8 0, .int .i16 0, .int .i16 0]) ?_ 0 _ rfl; (with_reducible repeat (first | refine blk_drewN ?_ _ | refine blk_drew ?_ | refine blk_alloc ?_ _)); exact BK177.out) hg (Kd.R_ne HO_4.out BK177.out (by decide))); have n1_ := Aside0.mk (hb); have n2_ := Aside0.mk (ho); clear BK177; clear HB; clear HO_4; have BK177 := n0_; have HB := n1_; have HO192 := n2_; clear n0_ n1_ n2_; clear ho hb hg hat)))
                              go_roundg k1
                              case measure => have := HK1.out; omega
                              case rel => exact ⟨(y190), (wrap64 (x5_1 + 1)), (by first | rfl | (simp; done) | (simp [*]; done) | (exact congrArg (Value.int .i64) (wrap_eq (by omega)))), H', ⟨by have := HK1.out; omega⟩, ⟨by (with_reducible repeat (first | apply Kd.R_alloc | apply Kd.R_drewN | apply Kd.R_drew)); exact HO192.out⟩, ⟨by repeat (first | (with_reducible first | exact HB.out | apply below_alloc | apply pw_below_drewN | apply below_drew1 | refine below_set ?_ GE177.out) | exact HB.out)⟩⟩
                            · rw [if_neg c30] at H
                              exact absurd H (by simp)
                          · rw [if_neg c29] at H
                            exact absurd H (by simp)
                        · rw [if_neg c28] at H
                          exact absurd H (by simp)
                      · rw [if_neg c27] at H
                        exact absurd H (by simp)
                    · rw [if_neg c26] at H
                      exact absurd H (by simp)
                  · rw [if_neg c25] at H
                    have c25b0 : (((rd_T81 ((rd_T31 l0 0).f1) x5_1).f0) == 3) = false := beq_eq_false_iff_ne.mpr c25
                    have c25b1 : (((rd_T81 ((rd_T31 l0 0).f1) x5_1).f0) != 3) = true := bne_iff_ne.mpr c25
                    by_cases c35 : x4_1.length < 17592186044416
                    · rw [if_pos c35] at H
                      have LMc35 := Aside0.mk c35
                      clear c35
                      obtain ⟨y193, hy193⟩ : ∃ y_ : List Int, y_ = (x4_1 ++ [t170]) := ⟨_, rfl⟩
                      replace H : (spec_l04Tables.l0 k1 l0 t170 y193 (wrap64 (x5_1 + 1))) = some r := by first | (rw [hy193]; with_reducible exact H) | (have H2_ := (Option.bind_some _ _).symm.trans H; rw [hy193]; with_reducible exact H2_) | (have H2_ := (Option.bind_some _ _).symm.trans H; with_reducible exact H2_) | with_reducible exact H | (rw [hy193]; exact H) | exact H
                      have Ny193 := Aside0.mk hy193
                      clear hy193
                      have H' := Aside0.mk H
                      clear H
                      have p174 : 0 ≤ (0 : Int) := (by omega)
                      have q174 : 0 < (l0.length : Int) := of_decide_eq_true (by first | (with_reducible assumption) | assumption)
                      obtain ⟨ad174, A174_1, c174_1, A174_2, c174_2, e174, hx174_0, hx174_1, hx174_2, hl174_1, hi174_1, hl174_2, hi174_2⟩ := at_T31 HR0.out 0 p174 q174
                      obtain rfl : adp0 = ad174 := (by injection e174)
                      have qi174 : (0 < l0.length) = True := eq_true (by omega)
                      (try rw [show ((0 : Int)).toNat = 0 from rfl] at hx174_0)
                      (try rw [show 0 * 3 = 0 from rfl] at hx174_0)
                      (try rw [Addr.add_zero'] at hx174_0)
                      (try rw [show ((0 : Int)).toNat = 0 from rfl] at hx174_1)
                      (try rw [show 0 * 3 = 0 from rfl] at hx174_1)
                      (try rw [Addr.add_zero'] at hx174_1)
                      (try rw [show ((0 : Int)).toNat = 0 from rfl] at hx174_2)
                      (try rw [show 0 * 3 = 0 from rfl] at hx174_2)
                      (try rw [Addr.add_zero'] at hx174_2)
                      replace hx174_0 := (HB.out.cell (World.block_lt_of_cell? w _ hx174_0)).trans hx174_0
                      replace hx174_1 := (HB.out.cell (World.block_lt_of_cell? w _ hx174_1)).trans hx174_1
                      replace hx174_2 := (HB.out.cell (World.block_lt_of_cell? w _ hx174_2)).trans hx174_2
                      have HR174_1 := Aside0.mk hi174_1
                      have HC174_1 := Aside0.mk hl174_1
                      clear hi174_1 hl174_1
                      have HR174_2 := Aside0.mk hi174_2
                      have HC174_2 := Aside0.mk hl174_2
                      clear hi174_2 hl174_2
                      replace p174 := eq_true p174
                      replace q174 := eq_true q174
                      have p175 : 0 ≤ (0 : Int) := (by omega)
                      have q175 : 0 < (l0.length : Int) := of_decide_eq_true (by first | (with_reducible assumption) | assumption)
                      obtain ⟨ad175, A175_1, c175_1, A175_2, c175_2, e175, hx175_0, hx175_1, hx175_2, hl175_1, hi175_1, hl175_2, hi175_2⟩ := at_T31 HR0.out 0 p175 q175
                      obtain rfl : adp0 = ad175 := (by injection e175)
                      have qi175 : (0 < l0.length) = True := eq_true (by omega)
                      (try rw [show ((0 : Int)).toNat = 0 from rfl] at hx175_0)
                      (try rw [show 0 * 3 = 0 from rfl] at hx175_0)
                      (try rw [Addr.add_zero'] at hx175_0)
                      (try rw [show ((0 : Int)).toNat = 0 from rfl] at hx175_1)
                      (try rw [show 0 * 3 = 0 from rfl] at hx175_1)
                      (try rw [Addr.add_zero'] at hx175_1)
                      (try rw [show ((0 : Int)).toNat = 0 from rfl] at hx175_2)
                      (try rw [show 0 * 3 = 0 from rfl] at hx175_2)
                      (try rw [Addr.add_zero'] at hx175_2)
                      replace hx175_0 := (HB.out.cell (World.block_lt_of_cell? w _ hx175_0)).trans hx175_0
                      replace hx175_1 := (HB.out.cell (World.block_lt_of_cell? w _ hx175_1)).trans hx175_1
                      replace hx175_2 := (HB.out.cell (World.block_lt_of_cell? w _ hx175_2)).trans hx175_2
                      have HR175_1 := Aside0.mk hi175_1
                      have HC175_1 := Aside0.mk hl175_1
                      clear hi175_1 hl175_1
                      have HR175_2 := Aside0.mk hi175_2
                      have HC175_2 := Aside0.mk hl175_2
                      clear hi175_2 hl175_2
                      replace p175 := eq_true p175
                      replace q175 := eq_true q175
                      have ea_ := Option.some.inj (hx174_1.symm.trans hx175_1)
                      injection ea_ with ea_ en_ ec_
                      subst ea_
                      subst ec_
                      clear en_
                      have ea_ := Option.some.inj (hx174_2.symm.trans hx175_2)
                      injection ea_ with ea_ en_ ec_
                      subst ea_
                      subst ec_
                      clear en_
                      have p176 : 0 ≤ (x5_1 : Int) := of_decide_eq_true (by first | (with_reducible assumption) | assumption)
                      have q176 : x5_1 < (((rd_T31 l0 0).f1).length : Int) := of_decide_eq_true (by first | (with_reducible assumption) | assumption)
                      obtain ⟨ad176, e176, hx176_0, hx176_1, hx176_2⟩ := at_T81 HR175_1.out x5_1 p176 q176
                      cases e176
                      replace hx176_0 := (HB.out.cell (World.block_lt_of_cell? w _ hx176_0)).trans hx176_0
                      replace hx176_1 := (HB.out.cell (World.block_lt_of_cell? w _ hx176_1)).trans hx176_1
                      replace hx176_2 := (HB.out.cell (World.block_lt_of_cell? w _ hx176_2)).trans hx176_2
                      replace p176 := eq_true p176
                      replace q176 := eq_true q176
                      go_wp2_with (first | ((with_reducible refine gate_dst (N := 6) rfl ?_); refine box_event ?hg (N := 6) ?hd (cs := #[.int .i8 0, .int .i16 0, .int .i16 0]) (t := 81) ?hr ?_; (case hd => rfl); (case hg => rfl); (case hr => first | (go_simp; done) | (go_simp; rfl)); intro gb177 hg w36 hbox hb; have n0_ := Aside0.mk (Kd.R_below (by (with_reducible repeat (first | apply Kd.R_alloc | apply Kd.R_drewN | apply Kd.R_drew)); exact HO_4.out) hb); have n1_ := Aside0.mk (below_step (by repeat (first | (with_reducible first | exact HB.out | apply below_alloc | apply pw_below_drewN | apply below_drew1) | exact HB.out)) hb); have n2_ := Aside0.mk (hbox); have n3_ := Aside0.mk ((by rw [hg]; exact (below_size (by repeat (first | (with_reducible first | exact HB.out | apply below_alloc | apply pw_below_drewN | apply below_drew1) | exact HB.out))) : w.heap.size ≤ gb177)); have n4_ := Aside0.mk ((by rw [hg]; exact (below_size (by repeat (first | (with_reducible first | exact HB.out | apply below_alloc | apply pw_below_drewN | apply below_drew1) | exact HB.out))) : w.heap.size ≤ gb177)); clear HO_4; clear HB; have HO_4 := n0_; have HB := n1_; have BK177 := n2_; have GW177 := n3_; have GE177 := n4_; clear n0_ n1_ n2_ n3_ n4_; clear hb hbox hg; have hcz37_0 : w36.cell? ⟨gb177, 0, none⟩ = some (.int .i8 0) := (blk_cell BK177.out 0).trans rfl; have hcz37_1 : w36.cell? ⟨gb177, 1, none⟩ = some (.int .i16 0) := (blk_cell BK177.out 1).trans rfl; have hcz37_2 : w36.cell? ⟨gb177, 2, none⟩ = some (.int .i16 0) := (blk_cell BK177.out 2).trans rfl; have hfz37_0 := blk_frozen BK177.out 0; have hfz37_1 := blk_frozen BK177.out 1; have hfz37_2 := blk_frozen BK177.out 2) | ((with_reducible refine gate_builtin (b := .append) (xs := #[.tmp 71, .tmp 73]) rfl ?_); at_builtin; refine Kd.R_append (Kd.int .u64) (w0 := w) w.heap.size rfl (.tmp 71) (.tmp 73) 53 98 (.int .u64 0) 8 rfl Try.underlying53 info98 rfl (by decide) (by omega) u4 x4_1 t170 [.int .u64 t170] (fun _ => True) (fun _ => False) rfl (by first | (go_simp; done) | (go_simp; rfl)) ?aP (fun _ hk => hk.elim) ?aF ?aO ?aB ?aS ?aL ?_; (case aP => exact rfl); (case aB => exact (by repeat (first | (with_reducible first | exact HB.out | apply below_alloc | apply pw_below_drewN | apply below_drew1 | refine below_set ?_ GE177.out) | exact HB.out))); (case aF => exact (fun _ _ => trivial)); (case aO => exact (by (with_reducible repeat (first | apply Kd.R_alloc | apply Kd.R_drewN | apply Kd.R_drew)); exact Kd.R_mono (Kd.R_far (p := ⟨gb177, 2, none⟩) (Kd.R_far (p := ⟨gb177, 1, none⟩) (Kd.R_far (p := ⟨gb177, 0, none⟩) (Kd.R_types HO_4.out BK177.out (by decide)) (fun _ hk => hk.2) (.int .i8 ((rd_T81 ((rd_T31 l0 0).f1) x5_1).f0))) (fun _ hk => hk.2) (.int .i16 ((rd_T81 ((rd_T31 l0 0).f1) x5_1).f1))) (fun _ hk => hk.2) (.int .i16 ((rd_T81 ((rd_T31 l0 0).f1) x5_1).f2))) (fun _ hk => trivial))); (case aS => exact (below_size (by repeat (first | (with_reducible first | exact HB.out | apply below_alloc | apply pw_below_drewN | apply below_drew1 | refine below_set ?_ GE177.out) | exact HB.out)))); (case aL => have := LMc35.out; omega); intro v194 w38 ho hb hg hat; rw [← Ny193.out] at ho; have n0_ := Aside0.mk (blk_grown (g := gb177) (o := .cells #[.int .i8 ((rd_T81 ((rd_T31 l0 0).f1) x5_1).f0), .int .i16 ((rd_T81 ((rd_T31 l0 0).f1) x5_1).f1), .int .i16 ((rd_T81 ((rd_T31 l0 0).f1) x5_1).f2)] 81 (0, 0)) (by (with_reducible repeat (first | refine blk_drewN ?_ _ | refine blk_drew ?_ | refine blk_alloc ?_ _)); refine blk_put (cs := #[.int .i8 ((rd_T81 ((rd_T31 l0 0).f1) x5_1).f0), .int .i16 ((rd_T81 ((rd_T31 l0 0).f1) x5_1).f1), .int .i16 0]) ?_ 2 _ rfl; (with_reducible repeat (first | refine blk_drewN ?_ _ | refine blk_drew ?_ | refine blk_alloc ?_ _)); refine blk_put (cs := #[.int .i8 ((rd_T81 ((rd_T31 l0 0).f1) x5_1).f0), .int .i16 0, .int .i16 0]) ?_ 1 _ rfl; (with_reducible repeat (first | refine blk_drewN ?_ _ | refine blk_drew ?_ | refine blk_alloc ?_ _)); refine blk_put (cs := #[.int .i8 0, .int .i16 0, .int .i16 0]) ?_ 0 _ rfl; (with_reducible repeat (first | refine blk_drewN ?_ _ | refine blk_drew ?_ | refine blk_alloc ?_ _)); exact BK177.out) hg (Kd.R_ne HO_4.out BK177.out (by decide))); have n1_ := Aside0.mk (hb); have n2_ := Aside0.mk (ho); clear BK177; clear HB; clear HO_4; have BK177 := n0_; have HB := n1_; have HO195 := n2_; clear n0_ n1_ n2_; clear ho hb hg hat))
                      repeat (go_quiet (first | ((with_reducible refine gate_dst (N := 6) rfl ?_); refine box_event ?hg (N := 6) ?hd (cs := #[.int .i8 0, .int .i16 0, .int .i16 0]) (t := 81) ?hr ?_; (case hd => rfl); (case hg => rfl); (case hr => first | (go_simp; done) | (go_simp; rfl)); intro gb177 hg w36 hbox hb; have n0_ := Aside0.mk (Kd.R_below (by (with_reducible repeat (first | apply Kd.R_alloc | apply Kd.R_drewN | apply Kd.R_drew)); exact HO_4.out) hb); have n1_ := Aside0.mk (below_step (by repeat (first | (with_reducible first | exact HB.out | apply below_alloc | apply pw_below_drewN | apply below_drew1) | exact HB.out)) hb); have n2_ := Aside0.mk (hbox); have n3_ := Aside0.mk ((by rw [hg]; exact (below_size (by repeat (first | (with_reducible first | exact HB.out | apply below_alloc | apply pw_below_drewN | apply below_drew1) | exact HB.out))) : w.heap.size ≤ gb177)); have n4_ := Aside0.mk ((by rw [hg]; exact (below_size (by repeat (first | (with_reducible first | exact HB.out | apply below_alloc | apply pw_below_drewN | apply below_drew1) | exact HB.out))) : w.heap.size ≤ gb177)); clear HO_4; clear HB; have HO_4 := n0_; have HB := n1_; have BK177 := n2_; have GW177 := n3_; have GE177 := n4_; clear n0_ n1_ n2_ n3_ n4_; clear hb hbox hg; have hcz37_0 : w36.cell? ⟨gb177, 0, none⟩ = some (.int .i8 0) := (blk_cell BK177.out 0).trans rfl; have hcz37_1 : w36.cell? ⟨gb177, 1, none⟩ = some (.int .i16 0) := (blk_cell BK177.out 1).trans rfl; have hcz37_2 : w36.cell? ⟨gb177, 2, none⟩ = some (.int .i16 0) := (blk_cell BK177.out 2).trans rfl; have hfz37_0 := blk_frozen BK177.out 0; have hfz37_1 := blk_frozen BK177.out 1; have hfz37_2 := blk_frozen BK177.out 2) | ((with_reducible refine gate_builtin (b := .append) (xs := #[.tmp 71, .tmp 73]) rfl ?_); at_builtin; refine Kd.R_append (Kd.int .u64) (w0 := w) w.heap.size rfl (.tmp 71) (.tmp 73) 53 98 (.int .u64 0) 8 rfl Try.underlying53 info98 rfl (by decide) (by omega) u4 x4_1 t170 [.int .u64 t170] (fun _ => True) (fun _ => False) rfl (by first | (go_simp; done) | (go_simp; rfl)) ?aP (fun _ hk => hk.elim) ?aF ?aO ?aB ?aS ?aL ?_; (case aP => exact rfl); (case aB => exact (by repeat (first | (with_reducible first | exact HB.out | apply below_alloc | apply pw_below_drewN | apply below_drew1 | refine below_set ?_ GE177.out) | exact HB.out))); (case aF => exact (fun _ _ => trivial)); (case aO => exact (by (with_reducible repeat (first | apply Kd.R_alloc | apply Kd.R_drewN | apply Kd.R_drew)); exact Kd.R_mono (Kd.R_far (p := ⟨gb177, 2, none⟩) (Kd.R_far (p := ⟨gb177, 1, none⟩) (Kd.R_far (p := ⟨gb177, 0, none⟩) (Kd.R_types HO_4.out BK177.out (by decide)) (fun _ hk => hk.2) (.int .i8 ((rd_T81 ((rd_T31 l0 0).f1) x5_1).f0))) (fun _ hk => hk.2) (.int .i16 ((rd_T81 ((rd_T31 l0 0).f1) x5_1).f1))) (fun _ hk => hk.2) (.int .i16 ((rd_T81 ((rd_T31 l0 0).f1) x5_1).f2))) (fun _ hk => trivial))); (case aS => exact (below_size (by repeat (first | (with_reducible first | exact HB.out | apply below_alloc | apply pw_below_drewN | apply below_drew1 | refine below_set ?_ GE177.out) | exact HB.out)))); (case aL => have := LMc35.out; omega); intro v194 w38 ho hb hg hat; rw [← Ny193.out] at ho; have n0_ := Aside0.mk (blk_grown (g := gb177) (o := .cells #[.int .i8 ((rd_T81 ((rd_T31 l0 0).f1) x5_1).f0), .int .i16 ((rd_T81 ((rd_T31 l0 0).f1) x5_1).f1), .int .i16 ((rd_T81 ((rd_T31 l0 0).f1) x5_1).f2)] 81 (0, 0)) (by (with_reducible repeat (first | refine blk_drewN ?_ _ | refine blk_drew ?_ | refine blk_alloc ?_ _)); refine blk_put (cs := #[.int .i8 ((rd_T81 ((rd_T31 l0 0).f1) x5_1).f0), .int .i16 ((rd_T81 ((rd_T31 l0 0).f1) x5_1).f1), .int .i16 0]) ?_ 2 _ rfl; (with_reducible repeat (first | refine blk_drewN ?_ _ | refine blk_drew ?_ | refine blk_alloc ?_ _)); refine blk_put (cs := #[.int .i8 ((rd_T81 ((rd_T31 l0 0).f1) x5_1).f0), .int .i16 0, .int .i16 0]) ?_ 1 _ rfl; (with_reducible repeat (first | refine blk_drewN ?_ _ | refine blk_drew ?_ | refine blk_alloc ?_ _)); refine blk_put (cs := #[.int .i8 0, .int .i16 0, .int .i16 0]) ?_ 0 _ rfl; (with_reducible repeat (first | refine blk_drewN ?_ _ | refine blk_drew ?_ | refine blk_alloc ?_ _)); exact BK177.out) hg (Kd.R_ne HO_4.out BK177.out (by decide))); have n1_ := Aside0.mk (hb); have n2_ := Aside0.mk (ho); clear BK177; clear HB; clear HO_4; have BK177 := n0_; have HB := n1_; have HO195 := n2_; clear n0_ n1_ n2_; clear ho hb hg hat)); try go_wp2_with (first | ((with_reducible refine gate_dst (N := 6) rfl ?_); refine box_event ?hg (N := 6) ?hd (cs := #[.int .i8 0, .int .i16 0, .int .i16 0]) (t := 81) ?hr ?_; (case hd => rfl); (case hg => rfl); (case hr => first | (go_simp; done) | (go_simp; rfl)); intro gb177 hg w36 hbox hb; have n0_ := Aside0.mk (Kd.R_below (by (with_reducible repeat (first | apply Kd.R_alloc | apply Kd.R_drewN | apply Kd.R_drew)); exact HO_4.out) hb); have n1_ := Aside0.mk (below_step (by repeat (first | (with_reducible first | exact HB.out | apply below_alloc | apply pw_below_drewN | apply below_drew1) | exact HB.out)) hb); have n2_ := Aside0.mk (hbox); have n3_ := Aside0.mk ((by rw [hg]; exact (below_size (by repeat (first | (with_reducible first | exact HB.out | apply below_alloc | apply pw_below_drewN | apply below_drew1) | exact HB.out))) : w.heap.size ≤ gb177)); have n4_ := Aside0.mk ((by rw [hg]; exact (below_size (by repeat (first | (with_reducible first | exact HB.out | apply below_alloc | apply pw_below_drewN | apply below_drew1) | exact HB.out))) : w.heap.size ≤ gb177)); clear HO_4; clear HB; have HO_4 := n0_; have HB := n1_; have BK177 := n2_; have GW177 := n3_; have GE177 := n4_; clear n0_ n1_ n2_ n3_ n4_; clear hb hbox hg; have hcz37_0 : w36.cell? ⟨gb177, 0, none⟩ = some (.int .i8 0) := (blk_cell BK177.out 0).trans rfl; have hcz37_1 : w36.cell? ⟨gb177, 1, none⟩ = some (.int .i16 0) := (blk_cell BK177.out 1).trans rfl; have hcz37_2 : w36.cell? ⟨gb177, 2, none⟩ = some (.int .i16 0) := (blk_cell BK177.out 2).trans rfl; have hfz37_0 := blk_frozen BK177.out 0; have hfz37_1 := blk_frozen BK177.out 1; have hfz37_2 := blk_frozen BK177.out 2) | ((with_reducible refine gate_builtin (b := .append) (xs := #[.tmp 71, .tmp 73]) rfl ?_); at_builtin; refine Kd.R_append (Kd.int .u64) (w0 := w) w.heap.size rfl (.tmp 71) (.tmp 73) 53 98 (.int .u64 0) 8 rfl Try.underlying53 info98 rfl (by decide) (by omega) u4 x4_1 t170 [.int .u64 t170] (fun _ => True) (fun _ => False) rfl (by first | (go_simp; done) | (go_simp; rfl)) ?aP (fun _ hk => hk.elim) ?aF ?aO ?aB ?aS ?aL ?_; (case aP => exact rfl); (case aB => exact (by repeat (first | (with_reducible first | exact HB.out | apply below_alloc | apply pw_below_drewN | apply below_drew1 | refine below_set ?_ GE177.out) | exact HB.out))); (case aF => exact (fun _ _ => trivial)); (case aO => exact (by (with_reducible repeat (first | apply Kd.R_alloc | apply Kd.R_drewN | apply Kd.R_drew)); exact Kd.R_mono (Kd.R_far (p := ⟨gb177, 2, none⟩) (Kd.R_far (p := ⟨gb177, 1, none⟩) (Kd.R_far (p := ⟨gb177, 0, none⟩) (Kd.R_types HO_4.out BK177.out (by decide)) (fun _ hk => hk.2) (.int .i8 ((rd_T81 ((rd_T31 l0 0).f1) x5_1).f0))) (fun _ hk => hk.2) (.int .i16 ((rd_T81 ((rd_T31 l0 0).f1) x5_1).f1))) (fun _ hk => hk.2) (.int .i16 ((rd_T81 ((rd_T31 l0 0).f1) x5_1).f2))) (fun _ hk => trivial))); (case aS => exact (below_size (by repeat (first | (with_reducible first | exact HB.out | apply below_alloc | apply pw_below_drewN | apply below_drew1 | refine below_set ?_ GE177.out) | exact HB.out)))); (case aL => have := LMc35.out; omega); intro v194 w38 ho hb hg hat; rw [← Ny193.out] at ho; have n0_ := Aside0.mk (blk_grown (g := gb177) (o := .cells #[.int .i8 ((rd_T81 ((rd_T31 l0 0).f1) x5_1).f0), .int .i16 ((rd_T81 ((rd_T31 l0 0).f1) x5_1).f1), .int .i16 ((rd_T81 ((rd_T31 l0 0).f1) x5_1).f2)] 81 (0, 0)) (by (with_reducible repeat (first | refine blk_drewN ?_ _ | refine blk_drew ?_ | refine blk_alloc ?_ _)); refine blk_put (cs := #[.int .i8 ((rd_T81 ((rd_T31 l0 0).f1) x5_1).f0), .int .i16 ((rd_T81 ((rd_T31 l0 0).f1) x5_1).f1), .int .i16 0]) ?_ 2 _ rfl; (with_reducible repeat (first | refine blk_drewN ?_ _ | refine blk_drew ?_ | refine blk_alloc ?_ _)); refine blk_put (cs := #[.int .i8 ((rd_T81 ((rd_T31 l0 0).f1) x5_1).f0), .int .i16 0, .int .i16 0]) ?_ 1 _ rfl; (with_reducible repeat (first | refine blk_drewN ?_ _ | refine blk_drew ?_ | refine blk_alloc ?_ _)); refine blk_put (cs := #[.int .i8 0, .int .i16 0, .int .i16 0]) ?_ 0 _ rfl; (with_reducible repeat (first | refine blk_drewN ?_ _ | refine blk_drew ?_ | refine blk_alloc ?_ _)); exact BK177.out) hg (Kd.R_ne HO_4.out BK177.out (by decide))); have n1_ := Aside0.mk (hb); have n2_ := Aside0.mk (ho); clear BK177; clear HB; clear HO_4; have BK177 := n0_; have HB := n1_; have HO195 := n2_; clear n0_ n1_ n2_; clear ho hb hg hat)))
                      go_roundg k1
                      case measure => have := HK1.out; omega
                      case rel => exact ⟨(y193), (wrap64 (x5_1 + 1)), (by first | rfl | (simp; done) | (simp [*]; done) | (exact congrArg (Value.int .i64) (wrap_eq (by omega)))), H', ⟨by have := HK1.out; omega⟩, ⟨by (with_reducible repeat (first | apply Kd.R_alloc | apply Kd.R_drewN | apply Kd.R_drew)); exact HO195.out⟩, ⟨by repeat (first | (with_reducible first | exact HB.out | apply below_alloc | apply pw_below_drewN | apply below_drew1 | refine below_set ?_ GE177.out) | exact HB.out)⟩⟩
                    · rw [if_neg c35] at H
                      exact absurd H (by simp)
            · rw [if_neg c8] at H
              exact absurd H (by simp)
          · rw [if_neg c7] at H
            have c7b0 : decide (x5_1 < (((rd_T31 l0 0).f1).length : Int)) = false := decide_eq_false c7
            clear c7
            obtain rfl := Option.some.inj H
            have p174 : 0 ≤ (0 : Int) := (by omega)
            have q174 : 0 < (l0.length : Int) := of_decide_eq_true (by first | (with_reducible assumption) | assumption)
            obtain ⟨ad174, A174_1, c174_1, A174_2, c174_2, e174, hx174_0, hx174_1, hx174_2, hl174_1, hi174_1, hl174_2, hi174_2⟩ := at_T31 HR0.out 0 p174 q174
            obtain rfl : adp0 = ad174 := (by injection e174)
            have qi174 : (0 < l0.length) = True := eq_true (by omega)
            (try rw [show ((0 : Int)).toNat = 0 from rfl] at hx174_0)
            (try rw [show 0 * 3 = 0 from rfl] at hx174_0)
            (try rw [Addr.add_zero'] at hx174_0)
            (try rw [show ((0 : Int)).toNat = 0 from rfl] at hx174_1)
            (try rw [show 0 * 3 = 0 from rfl] at hx174_1)
            (try rw [Addr.add_zero'] at hx174_1)
            (try rw [show ((0 : Int)).toNat = 0 from rfl] at hx174_2)
            (try rw [show 0 * 3 = 0 from rfl] at hx174_2)
            (try rw [Addr.add_zero'] at hx174_2)
            replace hx174_0 := (HB.out.cell (World.block_lt_of_cell? w _ hx174_0)).trans hx174_0
            replace hx174_1 := (HB.out.cell (World.block_lt_of_cell? w _ hx174_1)).trans hx174_1
            replace hx174_2 := (HB.out.cell (World.block_lt_of_cell? w _ hx174_2)).trans hx174_2
            have HR174_1 := Aside0.mk hi174_1
            have HC174_1 := Aside0.mk hl174_1
            clear hi174_1 hl174_1
            have HR174_2 := Aside0.mk hi174_2
            have HC174_2 := Aside0.mk hl174_2
            clear hi174_2 hl174_2
            replace p174 := eq_true p174
            replace q174 := eq_true q174
            go_wp2
            repeat (go_quiet (fail); try go_wp2)
            go_ret
            exact ⟨_, by first | rfl | (simp [errW_none, errW_some] <;> rfl) | (simp [*, errW_none, errW_some] <;> rfl), by (with_reducible repeat (first | apply Kd.R_alloc | apply Kd.R_drewN | apply Kd.R_drew)); exact HO_4.out, by repeat (first | (with_reducible first | exact HB.out | apply below_alloc | apply pw_below_drewN | apply below_drew1) | exact HB.out)⟩
        · rw [if_neg c6] at H
          exact absurd H (by simp)
  · rw [if_neg c2] at H
    exact absurd H (by simp)

end Go.Proofs.Ytmpmanfoiocfgaa.PFnExactNeedsOf
