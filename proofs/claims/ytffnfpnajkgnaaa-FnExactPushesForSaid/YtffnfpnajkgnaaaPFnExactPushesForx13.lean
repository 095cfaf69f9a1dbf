-- WRITTEN by xprint.py, a program of this session's. Not trusted: Lean checks it.
-- packed by pack.py
import Derived.Test.YtffnfpnajkgnaaaPFnExactPushesForx0
import Derived.Test.YtffnfpnajkgnaaaPFnExactPushesForx9
import Derived.Test.YtffnfpnajkgnaaaPFnExactPushesForx12
import Derived.Test.YtffnfpnajkgnaaaTFnExactPushesFora
namespace Go.Proofs.Ytffnfpnajkgnaaa.PFnExactPushesFor
open Go.RowKit Go.Proofs.YtffnfpnajkgnaaaW.PrintWords Go.Proofs.YtffnfpnajkgnaaaW.PrintLast Go.Proofs.YtffnfpnajkgnaaaW.PrintMore Go.Proofs.YtffnfpnajkgnaaaX
attribute [local go_sem] max2_int min2_int max_two min_two max_three min_three max_four min_four   -- for this text's walks alone
set_option linter.unusedVariables false
set_option linter.unusedSimpArgs false

/-! ### impl_rows: function 156 -/
def impl_rows.f (a0 : Int) : Option (Int) := if 0 ≤ a0 then (some (shl .i64 1 a0)) else (none)
set_option maxHeartbeats 8000000 in
set_option maxRecDepth 100000 in
theorem impl_rows.calls (a0 : Int) (r : Int) (w : World) (h : impl_rows.f a0 = some r) :
    Calls Try.prog 156 #[.int .i64 a0] w fun e w' => e = .returned (.int .i64 r) ∧ Drawn0 w w' := by
 have H : (if 0 ≤ a0 then (some (shl .i64 1 a0)) else (none)) = some r := h
 clear h
 by_cases c2 : 0 ≤ a0
 rotate_left
 ·rw [if_neg c2] at H
  exact absurd H (by simp)
 rw [if_pos c2] at H
 have c2b0 := eq_true c2
 have c2b1 : decide (0 ≤ a0) = true := decide_eq_true c2
 clear c2
 obtain ⟨ji3, hji3⟩ : ∃ j_ : Int, (shl .i64 1 a0) = j_ := ⟨_, rfl⟩
 replace H : (some ji3) = some r := by first | (rw [hji3] at H; exact H) | (simp only [hji3] at H ⊢; exact H)
 have hji3_ : (IntKind.i64.wrap (1 * 2 ^ min a0.toNat 64)) = ji3 := hji3
 have hji3z : a0 ≤ 64 → (IntKind.i64.wrap (1 * 2 ^ a0.toNat)) = ji3 := shl_small hji3
 have hji3u : (IntKind.i64.wrap (2 ^ min a0.toNat 64)) = ji3 := by have h_ := hji3_; rw [Int.one_mul] at h_; exact h_
 have hji3v : a0 ≤ 64 → (IntKind.i64.wrap (2 ^ a0.toNat)) = ji3 := fun hle_ => by have h_ := hji3z hle_; rw [Int.one_mul] at h_; exact h_
 have hji3y : (wrap64 (1 * 2 ^ min a0.toNat 64)) = ji3 := (i64_w _).symm.trans hji3_
 have hji3x : a0 ≤ 64 → (wrap64 (1 * 2 ^ a0.toNat)) = ji3 := fun h_ => (i64_w _).symm.trans (hji3z h_)
 obtain rfl := Option.some.inj H
 go_enter Try.func156, Try.ntmps156
 go_wp2
 go_ret
 exact ⟨by first | rfl | (simp; done) | (simp only [← hji3] <;> (first | rfl | simp)) | (simp [*]; done) | (exact congrArg (Value.int .i64) (wrap_eq (by omega))), by repeat (first | exact Drawn0.refl _ | apply Drawn0.step)⟩
-- NOT PRINTED: function 189 (slices_IndexFunc_int64_int64)

-- NOT PRINTED: function 157 (slices_ContainsFunc_int64_int64)

/-! ### impl_lateOk_1: function 158 -/
def impl_lateOk_1.f (a0 : Int) : Option (Bool) := (impl_in.f a0 0 100).bind fun t296 => (some (!t296))
set_option maxHeartbeats 8000000 in
set_option maxRecDepth 100000 in
theorem impl_lateOk_1.calls (a0 : Int) (r : Bool) (w : World) (h : impl_lateOk_1.f a0 = some r) :
    Calls Try.prog 158 #[.int .i64 a0] w fun e w' => e = .returned (.bool r) ∧ Drawn0 w w' := by
 have H : ((impl_in.f a0 0 100).bind fun t296 => (some (!t296))) = some r := h
 clear h
 replace H := Option.bind_eq_some_iff.mp H
 obtain ⟨t296, A20, H⟩ := H
 replace H : (some (!t296)) = some r := H
 have A2 := Aside0.mk A20
 clear A20
 obtain rfl := Option.some.inj H
 go_enter Try.func158, Try.ntmps158
 go_wp2_with (first | ((with_reducible refine gate_callee (f := 98) rfl ?_); refine goesL_ (some 4) rfl rfl Try.func98 (by kernel_rfl) rfl #[.int .i64 a0, .int .i64 0, .int .i64 100] rfl (by (try simp only [List.map_toArray, List.map_cons, List.map_nil]); first | done | rfl | (simp only [List.length_drop, List.length_take]; rfl)) ?_; (with_reducible refine (impl_in.calls a0 0 100 t296 _ A2.out).mono ?_); rintro e w' ⟨rfl, ⟨nd, rfl⟩⟩; refine ⟨_, rfl, ?_⟩))
 go_ret
 exact ⟨by first | rfl | (simp; done) | (simp [*]; done) | (exact congrArg (Value.int .i64) (wrap_eq (by omega))), by repeat (first | exact Drawn0.refl _ | apply Drawn0.step)⟩
/-! ### slices_IndexFunc__impl_lateOk_1: function 237 -/
def slices_IndexFunc__impl_lateOk_1.l0 : Nat → List Int → Int → Int → Option (Int)
  | 0, _, _, _ => none
  | k + 1, x0, x7, x8 => if x8 < x7 then (if 0 ≤ x8 then (if x8 < (x0.length : Int) then ((impl_lateOk_1.f (rd x0 x8)).bind fun t298 => (if t298 = true then (some x8) else (slices_IndexFunc__impl_lateOk_1.l0 k x0 x7 (wrap64 (x8 + 1))))) else (none)) else (none)) else (some (-1))
def slices_IndexFunc__impl_lateOk_1.f (k : Nat) (l0 : List Int)  : Option (Int) := slices_IndexFunc__impl_lateOk_1.l0 k l0 (l0.length : Int) 0
theorem slices_IndexFunc__impl_lateOk_1.mono_l : ∀ k, (∀ y0 y1 y2, LeO (slices_IndexFunc__impl_lateOk_1.l0 k y0 y1 y2) (slices_IndexFunc__impl_lateOk_1.l0 (k + 1) y0 y1 y2))
  | 0 => fun _ _ _ r h => by simp [slices_IndexFunc__impl_lateOk_1.l0] at h
  | k + 1 => by
    have ih0 := slices_IndexFunc__impl_lateOk_1.mono_l k
    · intro y0 y1 y2
      unfold slices_IndexFunc__impl_lateOk_1.l0
      repeat' first | (with_reducible first | apply ih0 | exact LeO.refl _ | exact LeO.none _ | refine LeO.ite ?_ ?_ | refine LeO.bind ?_ (fun _ => ?_)) | apply ih0 | exact LeO.none _ | refine LeO.ite ?_ ?_ | refine LeO.bind ?_ (fun _ => ?_)
theorem slices_IndexFunc__impl_lateOk_1.mono : ∀ a0 k, LeO (slices_IndexFunc__impl_lateOk_1.f k a0) (slices_IndexFunc__impl_lateOk_1.f (k + 1) a0) := by
 intro a0 k
 have ih0 := slices_IndexFunc__impl_lateOk_1.mono_l k
 unfold slices_IndexFunc__impl_lateOk_1.f
 repeat' first | (with_reducible first | apply ih0 | exact LeO.refl _ | exact LeO.none _ | refine LeO.ite ?_ ?_ | refine LeO.bind ?_ (fun _ => ?_)) | apply ih0 | exact LeO.none _ | refine LeO.ite ?_ ?_ | refine LeO.bind ?_ (fun _ => ?_)
set_option maxHeartbeats 8000000 in
set_option maxRecDepth 100000 in
theorem slices_IndexFunc__impl_lateOk_1.calls (k : Nat) (A0 : Option Addr) (c0 : Nat) (l0 : List Int)  (r : Int) (w : World) (hr0 : Kd.C (Kd.int .i64) w A0 l0.length l0) (hc0 : l0.length ≤ c0) (h : slices_IndexFunc__impl_lateOk_1.f k l0 = some r) :
    Calls Try.prog 189 #[.slice A0 l0.length c0, .func (.func 158) #[] #[]] w fun e w' => e = .returned (.int .i64 r) ∧ Drawn0 w w' := by
 have HR0 := Aside0.mk hr0
 have HC0 := Aside0.mk hc0
 clear hr0 hc0
 have H : (slices_IndexFunc__impl_lateOk_1.l0 k l0 (l0.length : Int) 0) = some r := h
 clear h
 have H' := Aside0.mk H
 clear H
 go_enter Try.func189, Try.ntmps189
 go_wp2
 go_loopg [8] k (fun kq v8 w' => ∃ (x8_1 : Int), v8 = .int .i64 x8_1 ∧ Aside0 (slices_IndexFunc__impl_lateOk_1.l0 kq l0 (l0.length : Int) x8_1 = some r) ∧ Aside0 (kq ≤ k) ∧ Drawn0 w w')
 case atStart => exact ⟨(0), (by first | rfl | (simp; done) | (simp [*]; done) | (exact congrArg (Value.int .i64) (wrap_eq (by omega)))), H', ⟨Nat.le_refl _⟩, by repeat (first | exact Drawn0.refl _ | apply Drawn0.step)⟩
 clear H'
 try clear c2
 try clear p2
 obtain ⟨x8_1, rfl, HA, HK1, ⟨m1, rfl⟩⟩ := hrel
 cases gk with
 | zero => exact absurd HA.out (by simp [slices_IndexFunc__impl_lateOk_1.l0])
 | succ k1 => ?_
 have H := HA.out
 clear HA
 simp only [slices_IndexFunc__impl_lateOk_1.l0] at H
 by_cases c3 : x8_1 < (l0.length : Int)
 rotate_left
 ·rw [if_neg c3] at H
  have c3b0 : decide (x8_1 < (l0.length : Int)) = false := decide_eq_false c3
  clear c3
  obtain rfl := Option.some.inj H
  go_wp2
  go_ret
  exact ⟨by first | rfl | (simp; done) | (simp [*]; done) | (exact congrArg (Value.int .i64) (wrap_eq (by omega))), by repeat (first | exact Drawn0.refl _ | apply Drawn0.step)⟩
 rw [if_pos c3] at H
 have c3b0 : decide (x8_1 < (l0.length : Int)) = true := decide_eq_true c3
 clear c3
 by_cases c4 : 0 ≤ x8_1
 rotate_left
 ·rw [if_neg c4] at H
  exact absurd H (by simp)
 rw [if_pos c4] at H
 have c4b0 : decide (0 ≤ x8_1) = true := decide_eq_true c4
 clear c4
 by_cases c5 : x8_1 < (l0.length : Int)
 rotate_left
 ·rw [if_neg c5] at H
  exact absurd H (by simp)
 rw [if_pos c5] at H
 have c5b0 : decide (x8_1 < (l0.length : Int)) = true := decide_eq_true c5
 clear c5
 replace H := Option.bind_eq_some_iff.mp H
 obtain ⟨t298, A60, H⟩ := H
 replace H : (if t298 = true then (some x8_1) else (slices_IndexFunc__impl_lateOk_1.l0 k1 l0 (l0.length : Int) (wrap64 (x8_1 + 1)))) = some r := H
 have A6 := Aside0.mk A60
 clear A60
 by_cases c7 : t298 = true
 ·subst c7
  have H1 : (some x8_1) = some r := by rw [if_pos rfl] at H; exact H
  clear H
  have H := H1
  clear H1
  obtain rfl := Option.some.inj H
  have p297 : 0 ≤ (x8_1 : Int) := of_decide_eq_true (by first | (with_reducible assumption) | assumption)
  have q297 : x8_1 < (l0.length : Int) := of_decide_eq_true (by first | (with_reducible assumption) | assumption)
  obtain ⟨ad297, e297, hx297_0⟩ := Kd.at_int HR0.out x8_1 p297 q297
  cases e297
  replace p297 := eq_true p297
  replace q297 := eq_true q297
  go_wp2_with (first | (go_at_call 158; (with_reducible refine (impl_lateOk_1.calls (rd l0 x8_1) true _ A6.out).mono ?_); rintro e w' ⟨rfl, ⟨nd, rfl⟩⟩))
  go_ret
  exact ⟨by first | rfl | (simp; done) | (simp [*]; done) | (exact congrArg (Value.int .i64) (wrap_eq (by omega))), by repeat (first | exact Drawn0.refl _ | apply Drawn0.step)⟩
 replace c7 := Bool.eq_false_iff.mpr c7
 subst c7
 have H1 : (slices_IndexFunc__impl_lateOk_1.l0 k1 l0 (l0.length : Int) (wrap64 (x8_1 + 1))) = some r := by rw [if_neg (show ¬ (false = true) by decide)] at H; exact H
 clear H
 have H := H1
 clear H1
 have H' := Aside0.mk H
 clear H
 have p297 : 0 ≤ (x8_1 : Int) := of_decide_eq_true (by first | (with_reducible assumption) | assumption)
 have q297 : x8_1 < (l0.length : Int) := of_decide_eq_true (by first | (with_reducible assumption) | assumption)
 obtain ⟨ad297, e297, hx297_0⟩ := Kd.at_int HR0.out x8_1 p297 q297
 cases e297
 replace p297 := eq_true p297
 replace q297 := eq_true q297
 go_wp2_with (first | (go_at_call 158; (with_reducible refine (impl_lateOk_1.calls (rd l0 x8_1) false _ A6.out).mono ?_); rintro e w' ⟨rfl, ⟨nd, rfl⟩⟩))
 go_roundg k1
 case measure => have := HK1.out; omega
 case rel => exact ⟨(wrap64 (x8_1 + 1)), (by first | rfl | (simp; done) | (simp [*]; done) | (exact congrArg (Value.int .i64) (wrap_eq (by omega)))), H', ⟨by have := HK1.out; omega⟩, by repeat (first | exact Drawn0.refl _ | apply Drawn0.step)⟩
/-! ### slices_ContainsFunc__impl_lateOk_1: function 236 -/
def slices_ContainsFunc__impl_lateOk_1.f (k : Nat) (l0 : List Int)  : Option (Bool) := (slices_IndexFunc__impl_lateOk_1.f k l0).bind fun t299 => (some (decide (t299 ≥ 0)))
theorem slices_ContainsFunc__impl_lateOk_1.mono : ∀ a0 k, LeO (slices_ContainsFunc__impl_lateOk_1.f k a0) (slices_ContainsFunc__impl_lateOk_1.f (k + 1) a0) := by
 intro a0 k
 unfold slices_ContainsFunc__impl_lateOk_1.f
 repeat' first | (with_reducible first | apply slices_IndexFunc__impl_lateOk_1.mono | exact LeO.refl _ | exact LeO.none _ | refine LeO.ite ?_ ?_ | refine LeO.bind ?_ (fun _ => ?_)) | apply slices_IndexFunc__impl_lateOk_1.mono | exact LeO.none _ | refine LeO.ite ?_ ?_ | refine LeO.bind ?_ (fun _ => ?_)
set_option maxHeartbeats 8000000 in
set_option maxRecDepth 100000 in
theorem slices_ContainsFunc__impl_lateOk_1.calls (k : Nat) (A0 : Option Addr) (c0 : Nat) (l0 : List Int)  (r : Bool) (w : World) (hr0 : Kd.C (Kd.int .i64) w A0 l0.length l0) (hc0 : l0.length ≤ c0) (h : slices_ContainsFunc__impl_lateOk_1.f k l0 = some r) :
    Calls Try.prog 157 #[.slice A0 l0.length c0, .func (.func 158) #[] #[]] w fun e w' => e = .returned (.bool r) ∧ Drawn0 w w' := by
 have HR0 := Aside0.mk hr0
 have HC0 := Aside0.mk hc0
 clear hr0 hc0
 have H : ((slices_IndexFunc__impl_lateOk_1.f k l0).bind fun t299 => (some (decide (t299 ≥ 0)))) = some r := h
 clear h
 replace H := Option.bind_eq_some_iff.mp H
 obtain ⟨t299, A30, H⟩ := H
 replace H : (some (decide (t299 ≥ 0))) = some r := H
 have A3 := Aside0.mk A30
 clear A30
 obtain rfl := Option.some.inj H
 go_enter Try.func157, Try.ntmps157
 go_wp2_with (first | ((with_reducible refine gate_callee (f := 189) rfl ?_); refine goesL_ (some 7) rfl rfl Try.func189 (by kernel_rfl) rfl #[.slice A0 l0.length c0, .func (.func 158) #[] #[]] rfl (by (try simp only [List.map_toArray, List.map_cons, List.map_nil]); first | done | rfl | (simp only [List.length_drop, List.length_take]; rfl)) ?_; (with_reducible refine (slices_IndexFunc__impl_lateOk_1.calls k _ _ l0  t299 _ ?side1 ?side2 A3.out).mono ?_); (case side1 => repeat (first | exact HR0.out | (with_reducible refine Kd.C_alloc ?_ _) | (with_reducible refine Kd.C_drewN ?_ _) | (with_reducible refine Kd.C_drew ?_))); (case side2 => exact HC0.out); rintro e w' ⟨rfl, ⟨nd, rfl⟩⟩; refine ⟨_, rfl, ?_⟩))
 go_ret
 exact ⟨by first | rfl | (simp; done) | (simp [*]; done) | (exact congrArg (Value.int .i64) (wrap_eq (by omega))), by repeat (first | exact Drawn0.refl _ | apply Drawn0.step)⟩
/-! ### impl_lateOk: function 89 -/
def impl_lateOk.f (k : Nat) (a0_0 : Int) (a0_1 : Int) (l0_2 : List (S91)) (l0_3 : List (S116)) (l0_4 : List (S74)) (a1 : Int) (l2 : List Int) : Option (Int) := (impl_ValidMachine.f k a0_0 a0_1 l0_2 l0_3 l0_4).bind fun t301 => (if t301 = true then ((impl_rows.f (l0_3.length : Int)).bind fun t302 => ((impl_in.f a1 0 (wrap64 (t302 - 1))).bind fun t303 => (if t303 = true then (if (l2.length : Int) = (l0_3.length : Int) then ((slices_ContainsFunc__impl_lateOk_1.f k l2).bind fun t304 => (if t304 = true then (some 2) else (some 0))) else (some 2)) else (some 2)))) else (some 1))
theorem impl_lateOk.mono : ∀ a0 a1 a2 a3 a4 a5 a6 k, LeO (impl_lateOk.f k a0 a1 a2 a3 a4 a5 a6) (impl_lateOk.f (k + 1) a0 a1 a2 a3 a4 a5 a6) := by
 intro a0 a1 a2 a3 a4 a5 a6 k
 unfold impl_lateOk.f
 repeat' first | (with_reducible first | apply impl_ValidMachine.mono | apply slices_ContainsFunc__impl_lateOk_1.mono | exact LeO.refl _ | exact LeO.none _ | refine LeO.ite ?_ ?_ | refine LeO.bind ?_ (fun _ => ?_)) | apply impl_ValidMachine.mono | apply slices_ContainsFunc__impl_lateOk_1.mono | exact LeO.none _ | refine LeO.ite ?_ ?_ | refine LeO.bind ?_ (fun _ => ?_)
set_option maxHeartbeats 8000000 in
set_option maxRecDepth 100000 in
theorem impl_lateOk.calls (k : Nat) (a0_0 : Int) (a0_1 : Int) (A0_2 : Option Addr) (c0_2 : Nat) (l0_2 : List (S91)) (A0_3 : Option Addr) (c0_3 : Nat) (l0_3 : List (S116)) (A0_4 : Option Addr) (c0_4 : Nat) (l0_4 : List (S74)) (a1 : Int) (A2 : Option Addr) (c2 : Nat) (l2 : List Int) (r : Int) (w : World) (hr0_2 : Kd.C k91 w A0_2 l0_2.length l0_2) (hc0_2 : l0_2.length ≤ c0_2) (hr0_3 : Kd.C k116 w A0_3 l0_3.length l0_3) (hc0_3 : l0_3.length ≤ c0_3) (hr0_4 : Kd.C k74 w A0_4 l0_4.length l0_4) (hc0_4 : l0_4.length ≤ c0_4) (hr2 : Kd.C (Kd.int .i64) w A2 l2.length l2) (hc2 : l2.length ≤ c2) (h : impl_lateOk.f k a0_0 a0_1 l0_2 l0_3 l0_4 a1 l2 = some r) :
    Calls Try.prog 89 #[.agg #[.int .i8 a0_0, .int .i8 a0_1, .slice A0_2 l0_2.length c0_2, .slice A0_3 l0_3.length c0_3, .slice A0_4 l0_4.length c0_4], .int .i64 a1, .slice A2 l2.length c2] w fun e w' => e = .returned (.int .i64 r) ∧ Below w.heap.size w w' := by
 have hu41 := Try.underlying41
 have HR0_2 := Aside0.mk hr0_2
 have HC0_2 := Aside0.mk hc0_2
 clear hr0_2 hc0_2
 have HR0_3 := Aside0.mk hr0_3
 have HC0_3 := Aside0.mk hc0_3
 clear hr0_3 hc0_3
 have HR0_4 := Aside0.mk hr0_4
 have HC0_4 := Aside0.mk hc0_4
 clear hr0_4 hc0_4
 have HR2 := Aside0.mk hr2
 have HC2 := Aside0.mk hc2
 clear hr2 hc2
 have HB := Aside0.mk (Below.refl w.heap.size w)
 have H : ((impl_ValidMachine.f k a0_0 a0_1 l0_2 l0_3 l0_4).bind fun t301 => (if t301 = true then ((impl_rows.f (l0_3.length : Int)).bind fun t302 => ((impl_in.f a1 0 (wrap64 (t302 - 1))).bind fun t303 => (if t303 = true then (if (l2.length : Int) = (l0_3.length : Int) then ((slices_ContainsFunc__impl_lateOk_1.f k l2).bind fun t304 => (if t304 = true then (some 2) else (some 0))) else (some 2)) else (some 2)))) else (some 1))) = some r := h
 clear h
 replace H := Option.bind_eq_some_iff.mp H
 obtain ⟨t301, A40, H⟩ := H
 replace H : (if t301 = true then ((impl_rows.f (l0_3.length : Int)).bind fun t302 => ((impl_in.f a1 0 (wrap64 (t302 - 1))).bind fun t303 => (if t303 = true then (if (l2.length : Int) = (l0_3.length : Int) then ((slices_ContainsFunc__impl_lateOk_1.f k l2).bind fun t304 => (if t304 = true then (some 2) else (some 0))) else (some 2)) else (some 2)))) else (some 1)) = some r := H
 have A4 := Aside0.mk A40
 clear A40
 by_cases c5 : t301 = true
 rotate_left
 ·replace c5 := Bool.eq_false_iff.mpr c5
  subst c5
  have H1 : (some 1) = some r := by rw [if_neg (show ¬ (false = true) by decide)] at H; exact H
  clear H
  have H := H1
  clear H1
  obtain rfl := Option.some.inj H
  go_enter Try.func89, Try.ntmps89
  go_wp2_with (first | ((with_reducible refine gate_dst (N := 3) rfl ?_); (try (refine gate_guard (by rfl) ?_; dsimp only)); refine box_event ?hg (N := 3) ?hd (cs := #[.int .i8 a0_0, .int .i8 a0_1, .slice A0_2 l0_2.length c0_2, .slice A0_3 l0_3.length c0_3, .slice A0_4 l0_4.length c0_4]) (t := 41) ?hr ?_; (case hd => rfl); (case hg => rfl); (case hr => first | (go_simp; done) | (go_simp; rfl)); intro gb300 hg w28 hbox hb; have n_ : _ ∧ _ ∧ _ ∧ _ := ⟨zb HB hb, Aside0.mk (hbox), zg HB hg, zg HB hg⟩; clear HB; obtain ⟨HB, BK300, GW300, GE300⟩ := n_; clear hb hbox hg; obtain ⟨z29_0, z29_1, z29_2, z29_3, z29_4, y29_0, y29_1, y29_2, y29_3, y29_4⟩ := zB5 BK300) | ((with_reducible refine gate_callee (f := 79) rfl ?_); refine goesL_ (some 9) rfl rfl Try.func79 (by kernel_rfl) rfl #[.agg #[.int .i8 a0_0, .int .i8 a0_1, .slice A0_2 l0_2.length c0_2, .slice A0_3 l0_3.length c0_3, .slice A0_4 l0_4.length c0_4]] rfl (by (try simp only [List.map_toArray, List.map_cons, List.map_nil]); first | done | rfl | (simp only [List.length_drop, List.length_take]; rfl)) ?_; (with_reducible refine (impl_ValidMachine.calls k a0_0 a0_1 _ _ l0_2 _ _ l0_3 _ _ l0_4 false _ ?side1 ?side2 ?side3 ?side4 ?side5 ?side6 A4.out).mono ?_); (case side1 => exact zcc HB HR0_2.out); (case side2 => exact HC0_2.out); (case side3 => exact zcc HB HR0_3.out); (case side4 => exact HC0_3.out); (case side5 => exact zcc HB HR0_4.out); (case side6 => exact HC0_4.out); rintro e w30 ⟨rfl, hb⟩; refine ⟨_, rfl, ?_⟩; have n_ : _ ∧ _ := ⟨zk BK300 hb, zbs hb⟩; clear BK300 HB; obtain ⟨BK300, HB⟩ := n_; (try clear hb); (try clear hb2); (try clear hk); (try clear hi)))
  go_ret
  exact ⟨by first | rfl | (simp [errW_none, errW_some] <;> rfl) | (simp [*, errW_none, errW_some] <;> rfl), by repeat (first | (with_reducible first | exact HB.out | apply below_alloc | apply pw_below_drewN | apply below_drew1 | refine below_set ?_ GE300.out) | exact HB.out)⟩
 subst c5
 have H1 : ((impl_rows.f (l0_3.length : Int)).bind fun t302 => ((impl_in.f a1 0 (wrap64 (t302 - 1))).bind fun t303 => (if t303 = true then (if (l2.length : Int) = (l0_3.length : Int) then ((slices_ContainsFunc__impl_lateOk_1.f k l2).bind fun t304 => (if t304 = true then (some 2) else (some 0))) else (some 2)) else (some 2)))) = some r := by rw [if_pos rfl] at H; exact H
 clear H
 have H := H1
 clear H1
 replace H := Option.bind_eq_some_iff.mp H
 obtain ⟨t302, A60, H⟩ := H
 replace H : ((impl_in.f a1 0 (wrap64 (t302 - 1))).bind fun t303 => (if t303 = true then (if (l2.length : Int) = (l0_3.length : Int) then ((slices_ContainsFunc__impl_lateOk_1.f k l2).bind fun t304 => (if t304 = true then (some 2) else (some 0))) else (some 2)) else (some 2))) = some r := H
 have A6 := Aside0.mk A60
 clear A60
 replace H := Option.bind_eq_some_iff.mp H
 obtain ⟨t303, A70, H⟩ := H
 replace H : (if t303 = true then (if (l2.length : Int) = (l0_3.length : Int) then ((slices_ContainsFunc__impl_lateOk_1.f k l2).bind fun t304 => (if t304 = true then (some 2) else (some 0))) else (some 2)) else (some 2)) = some r := H
 have A7 := Aside0.mk A70
 clear A70
 by_cases c8 : t303 = true
 rotate_left
 ·replace c8 := Bool.eq_false_iff.mpr c8
  subst c8
  have H1 : (some 2) = some r := by rw [if_neg (show ¬ (false = true) by decide)] at H; exact H
  clear H
  have H := H1
  clear H1
  obtain rfl := Option.some.inj H
  go_enter Try.func89, Try.ntmps89
  go_wp2_with (first | ((with_reducible refine gate_dst (N := 3) rfl ?_); (try (refine gate_guard (by rfl) ?_; dsimp only)); refine box_event ?hg (N := 3) ?hd (cs := #[.int .i8 a0_0, .int .i8 a0_1, .slice A0_2 l0_2.length c0_2, .slice A0_3 l0_3.length c0_3, .slice A0_4 l0_4.length c0_4]) (t := 41) ?hr ?_; (case hd => rfl); (case hg => rfl); (case hr => first | (go_simp; done) | (go_simp; rfl)); intro gb300 hg w24 hbox hb; have n_ : _ ∧ _ ∧ _ ∧ _ := ⟨zb HB hb, Aside0.mk (hbox), zg HB hg, zg HB hg⟩; clear HB; obtain ⟨HB, BK300, GW300, GE300⟩ := n_; clear hb hbox hg; obtain ⟨z25_0, z25_1, z25_2, z25_3, z25_4, y25_0, y25_1, y25_2, y25_3, y25_4⟩ := zB5 BK300) | ((with_reducible refine gate_callee (f := 79) rfl ?_); refine goesL_ (some 9) rfl rfl Try.func79 (by kernel_rfl) rfl #[.agg #[.int .i8 a0_0, .int .i8 a0_1, .slice A0_2 l0_2.length c0_2, .slice A0_3 l0_3.length c0_3, .slice A0_4 l0_4.length c0_4]] rfl (by (try simp only [List.map_toArray, List.map_cons, List.map_nil]); first | done | rfl | (simp only [List.length_drop, List.length_take]; rfl)) ?_; (with_reducible refine (impl_ValidMachine.calls k a0_0 a0_1 _ _ l0_2 _ _ l0_3 _ _ l0_4 true _ ?side1 ?side2 ?side3 ?side4 ?side5 ?side6 A4.out).mono ?_); (case side1 => exact zcc HB HR0_2.out); (case side2 => exact HC0_2.out); (case side3 => exact zcc HB HR0_3.out); (case side4 => exact HC0_3.out); (case side5 => exact zcc HB HR0_4.out); (case side6 => exact HC0_4.out); rintro e w26 ⟨rfl, hb⟩; refine ⟨_, rfl, ?_⟩; have n_ : _ ∧ _ := ⟨zk BK300 hb, zbs hb⟩; clear BK300 HB; obtain ⟨BK300, HB⟩ := n_; (try clear hb); (try clear hb2); (try clear hk); (try clear hi); obtain ⟨z27_0, z27_1, z27_2, z27_3, z27_4, y27_0, y27_1, y27_2, y27_3, y27_4⟩ := zB5 BK300) | ((with_reducible refine gate_callee (f := 156) rfl ?_); refine goesL_ (some 16) rfl rfl Try.func156 (by kernel_rfl) rfl #[.int .i64 (l0_3.length : Int)] rfl (by (try simp only [List.map_toArray, List.map_cons, List.map_nil]); first | done | rfl | (simp only [List.length_drop, List.length_take]; rfl)) ?_; (with_reducible refine (impl_rows.calls (l0_3.length : Int) t302 _ A6.out).mono ?_); rintro e w' ⟨rfl, ⟨nd, rfl⟩⟩; refine ⟨_, rfl, ?_⟩) | ((with_reducible refine gate_callee (f := 98) rfl ?_); refine goesL_ (some 18) rfl rfl Try.func98 (by kernel_rfl) rfl #[.int .i64 a1, .int .i64 0, .int .i64 (wrap64 (t302 - 1))] rfl (by (try simp only [List.map_toArray, List.map_cons, List.map_nil]); first | done | rfl | (simp only [List.length_drop, List.length_take]; rfl)) ?_; (with_reducible refine (impl_in.calls a1 0 (wrap64 (t302 - 1)) false _ A7.out).mono ?_); rintro e w' ⟨rfl, ⟨nd, rfl⟩⟩; refine ⟨_, rfl, ?_⟩))
  go_ret
  exact ⟨by first | rfl | (simp [errW_none, errW_some] <;> rfl) | (simp [*, errW_none, errW_some] <;> rfl), by repeat (first | (with_reducible first | exact HB.out | apply below_alloc | apply pw_below_drewN | apply below_drew1 | refine below_set ?_ GE300.out) | exact HB.out)⟩
 subst c8
 have H1 : (if (l2.length : Int) = (l0_3.length : Int) then ((slices_ContainsFunc__impl_lateOk_1.f k l2).bind fun t304 => (if t304 = true then (some 2) else (some 0))) else (some 2)) = some r := by rw [if_pos rfl] at H; exact H
 clear H
 have H := H1
 clear H1
 by_cases c9 : (l2.length : Int) = (l0_3.length : Int)
 rotate_left
 ·rw [if_neg c9] at H
  have c9b0 : ((l2.length : Int) == (l0_3.length : Int)) = false := beq_eq_false_iff_ne.mpr c9
  have c9b1 : ((l2.length : Int) != (l0_3.length : Int)) = true := bne_iff_ne.mpr c9
  have c9b2 : (l2.length == l0_3.length) = false := by first | simpa using c9 | (simp at c9 ⊢; omega)
  obtain rfl := Option.some.inj H
  go_enter Try.func89, Try.ntmps89
  go_wp2_with (first | ((with_reducible refine gate_dst (N := 3) rfl ?_); (try (refine gate_guard (by rfl) ?_; dsimp only)); refine box_event ?hg (N := 3) ?hd (cs := #[.int .i8 a0_0, .int .i8 a0_1, .slice A0_2 l0_2.length c0_2, .slice A0_3 l0_3.length c0_3, .slice A0_4 l0_4.length c0_4]) (t := 41) ?hr ?_; (case hd => rfl); (case hg => rfl); (case hr => first | (go_simp; done) | (go_simp; rfl)); intro gb300 hg w20 hbox hb; have n_ : _ ∧ _ ∧ _ ∧ _ := ⟨zb HB hb, Aside0.mk (hbox), zg HB hg, zg HB hg⟩; clear HB; obtain ⟨HB, BK300, GW300, GE300⟩ := n_; clear hb hbox hg; obtain ⟨z21_0, z21_1, z21_2, z21_3, z21_4, y21_0, y21_1, y21_2, y21_3, y21_4⟩ := zB5 BK300) | ((with_reducible refine gate_callee (f := 79) rfl ?_); refine goesL_ (some 9) rfl rfl Try.func79 (by kernel_rfl) rfl #[.agg #[.int .i8 a0_0, .int .i8 a0_1, .slice A0_2 l0_2.length c0_2, .slice A0_3 l0_3.length c0_3, .slice A0_4 l0_4.length c0_4]] rfl (by (try simp only [List.map_toArray, List.map_cons, List.map_nil]); first | done | rfl | (simp only [List.length_drop, List.length_take]; rfl)) ?_; (with_reducible refine (impl_ValidMachine.calls k a0_0 a0_1 _ _ l0_2 _ _ l0_3 _ _ l0_4 true _ ?side1 ?side2 ?side3 ?side4 ?side5 ?side6 A4.out).mono ?_); (case side1 => exact zcc HB HR0_2.out); (case side2 => exact HC0_2.out); (case side3 => exact zcc HB HR0_3.out); (case side4 => exact HC0_3.out); (case side5 => exact zcc HB HR0_4.out); (case side6 => exact HC0_4.out); rintro e w22 ⟨rfl, hb⟩; refine ⟨_, rfl, ?_⟩; have n_ : _ ∧ _ := ⟨zk BK300 hb, zbs hb⟩; clear BK300 HB; obtain ⟨BK300, HB⟩ := n_; (try clear hb); (try clear hb2); (try clear hk); (try clear hi); obtain ⟨z23_0, z23_1, z23_2, z23_3, z23_4, y23_0, y23_1, y23_2, y23_3, y23_4⟩ := zB5 BK300) | ((with_reducible refine gate_callee (f := 156) rfl ?_); refine goesL_ (some 16) rfl rfl Try.func156 (by kernel_rfl) rfl #[.int .i64 (l0_3.length : Int)] rfl (by (try simp only [List.map_toArray, List.map_cons, List.map_nil]); first | done | rfl | (simp only [List.length_drop, List.length_take]; rfl)) ?_; (with_reducible refine (impl_rows.calls (l0_3.length : Int) t302 _ A6.out).mono ?_); rintro e w' ⟨rfl, ⟨nd, rfl⟩⟩; refine ⟨_, rfl, ?_⟩) | ((with_reducible refine gate_callee (f := 98) rfl ?_); refine goesL_ (some 18) rfl rfl Try.func98 (by kernel_rfl) rfl #[.int .i64 a1, .int .i64 0, .int .i64 (wrap64 (t302 - 1))] rfl (by (try simp only [List.map_toArray, List.map_cons, List.map_nil]); first | done | rfl | (simp only [List.length_drop, List.length_take]; rfl)) ?_; (with_reducible refine (impl_in.calls a1 0 (wrap64 (t302 - 1)) true _ A7.out).mono ?_); rintro e w' ⟨rfl, ⟨nd, rfl⟩⟩; refine ⟨_, rfl, ?_⟩))
  go_ret
  exact ⟨by first | rfl | (simp [errW_none, errW_some] <;> rfl) | (simp [*, errW_none, errW_some] <;> rfl), by repeat (first | (with_reducible first | exact HB.out | apply below_alloc | apply pw_below_drewN | apply below_drew1 | refine below_set ?_ GE300.out) | exact HB.out)⟩
 rw [if_pos c9] at H
 have c9b0 : ((l2.length : Int) == (l0_3.length : Int)) = true := beq_iff_eq.mpr c9
 have c9b1 : ((l2.length : Int) != (l0_3.length : Int)) = false := bne_eq_false_iff_eq.mpr c9
 have c9b2 : (l2.length == l0_3.length) = true := by first | simpa using c9 | (simp at c9 ⊢; omega)
 clear c9
 replace H := Option.bind_eq_some_iff.mp H
 obtain ⟨t304, A100, H⟩ := H
 replace H : (if t304 = true then (some 2) else (some 0)) = some r := H
 have A10 := Aside0.mk A100
 clear A100
 by_cases c11 : t304 = true
 ·subst c11
  have H1 : (some 2) = some r := by rw [if_pos rfl] at H; exact H
  clear H
  have H := H1
  clear H1
  obtain rfl := Option.some.inj H
  go_enter Try.func89, Try.ntmps89
  go_wp2_with (first | ((with_reducible refine gate_dst (N := 3) rfl ?_); (try (refine gate_guard (by rfl) ?_; dsimp only)); refine box_event ?hg (N := 3) ?hd (cs := #[.int .i8 a0_0, .int .i8 a0_1, .slice A0_2 l0_2.length c0_2, .slice A0_3 l0_3.length c0_3, .slice A0_4 l0_4.length c0_4]) (t := 41) ?hr ?_; (case hd => rfl); (case hg => rfl); (case hr => first | (go_simp; done) | (go_simp; rfl)); intro gb300 hg w12 hbox hb; have n_ : _ ∧ _ ∧ _ ∧ _ := ⟨zb HB hb, Aside0.mk (hbox), zg HB hg, zg HB hg⟩; clear HB; obtain ⟨HB, BK300, GW300, GE300⟩ := n_; clear hb hbox hg; obtain ⟨z13_0, z13_1, z13_2, z13_3, z13_4, y13_0, y13_1, y13_2, y13_3, y13_4⟩ := zB5 BK300) | ((with_reducible refine gate_callee (f := 79) rfl ?_); refine goesL_ (some 9) rfl rfl Try.func79 (by kernel_rfl) rfl #[.agg #[.int .i8 a0_0, .int .i8 a0_1, .slice A0_2 l0_2.length c0_2, .slice A0_3 l0_3.length c0_3, .slice A0_4 l0_4.length c0_4]] rfl (by (try simp only [List.map_toArray, List.map_cons, List.map_nil]); first | done | rfl | (simp only [List.length_drop, List.length_take]; rfl)) ?_; (with_reducible refine (impl_ValidMachine.calls k a0_0 a0_1 _ _ l0_2 _ _ l0_3 _ _ l0_4 true _ ?side1 ?side2 ?side3 ?side4 ?side5 ?side6 A4.out).mono ?_); (case side1 => exact zcc HB HR0_2.out); (case side2 => exact HC0_2.out); (case side3 => exact zcc HB HR0_3.out); (case side4 => exact HC0_3.out); (case side5 => exact zcc HB HR0_4.out); (case side6 => exact HC0_4.out); rintro e w14 ⟨rfl, hb⟩; refine ⟨_, rfl, ?_⟩; have n_ : _ ∧ _ := ⟨zk BK300 hb, zbs hb⟩; clear BK300 HB; obtain ⟨BK300, HB⟩ := n_; (try clear hb); (try clear hb2); (try clear hk); (try clear hi); obtain ⟨z15_0, z15_1, z15_2, z15_3, z15_4, y15_0, y15_1, y15_2, y15_3, y15_4⟩ := zB5 BK300) | ((with_reducible refine gate_callee (f := 156) rfl ?_); refine goesL_ (some 16) rfl rfl Try.func156 (by kernel_rfl) rfl #[.int .i64 (l0_3.length : Int)] rfl (by (try simp only [List.map_toArray, List.map_cons, List.map_nil]); first | done | rfl | (simp only [List.length_drop, List.length_take]; rfl)) ?_; (with_reducible refine (impl_rows.calls (l0_3.length : Int) t302 _ A6.out).mono ?_); rintro e w' ⟨rfl, ⟨nd, rfl⟩⟩; refine ⟨_, rfl, ?_⟩) | ((with_reducible refine gate_callee (f := 98) rfl ?_); refine goesL_ (some 18) rfl rfl Try.func98 (by kernel_rfl) rfl #[.int .i64 a1, .int .i64 0, .int .i64 (wrap64 (t302 - 1))] rfl (by (try simp only [List.map_toArray, List.map_cons, List.map_nil]); first | done | rfl | (simp only [List.length_drop, List.length_take]; rfl)) ?_; (with_reducible refine (impl_in.calls a1 0 (wrap64 (t302 - 1)) true _ A7.out).mono ?_); rintro e w' ⟨rfl, ⟨nd, rfl⟩⟩; refine ⟨_, rfl, ?_⟩) | (go_at_call 157; (with_reducible refine (slices_ContainsFunc__impl_lateOk_1.calls k _ _ l2  true _ ?side1 ?side2 A10.out).mono ?_); (case side1 => repeat (first | exact (Kd.C_below HR2.out (by repeat (first | (with_reducible first | exact HB.out | apply below_alloc | apply pw_below_drewN | apply below_drew1 | refine below_set ?_ GE300.out) | exact HB.out))) | (with_reducible refine Kd.C_alloc ?_ _) | (with_reducible refine Kd.C_drewN ?_ _) | (with_reducible refine Kd.C_drew ?_))); (case side2 => exact HC2.out); rintro e w' ⟨rfl, ⟨nd, rfl⟩⟩))
  go_ret
  exact ⟨by first | rfl | (simp [errW_none, errW_some] <;> rfl) | (simp [*, errW_none, errW_some] <;> rfl), by repeat (first | (with_reducible first | exact HB.out | apply below_alloc | apply pw_below_drewN | apply below_drew1 | refine below_set ?_ GE300.out) | exact HB.out)⟩
 replace c11 := Bool.eq_false_iff.mpr c11
 subst c11
 have H1 : (some 0) = some r := by rw [if_neg (show ¬ (false = true) by decide)] at H; exact H
 clear H
 have H := H1
 clear H1
 obtain rfl := Option.some.inj H
 go_enter Try.func89, Try.ntmps89
 go_wp2_with (first | ((with_reducible refine gate_dst (N := 3) rfl ?_); (try (refine gate_guard (by rfl) ?_; dsimp only)); refine box_event ?hg (N := 3) ?hd (cs := #[.int .i8 a0_0, .int .i8 a0_1, .slice A0_2 l0_2.length c0_2, .slice A0_3 l0_3.length c0_3, .slice A0_4 l0_4.length c0_4]) (t := 41) ?hr ?_; (case hd => rfl); (case hg => rfl); (case hr => first | (go_simp; done) | (go_simp; rfl)); intro gb300 hg w16 hbox hb; have n_ : _ ∧ _ ∧ _ ∧ _ := ⟨zb HB hb, Aside0.mk (hbox), zg HB hg, zg HB hg⟩; clear HB; obtain ⟨HB, BK300, GW300, GE300⟩ := n_; clear hb hbox hg; obtain ⟨z17_0, z17_1, z17_2, z17_3, z17_4, y17_0, y17_1, y17_2, y17_3, y17_4⟩ := zB5 BK300) | ((with_reducible refine gate_callee (f := 79) rfl ?_); refine goesL_ (some 9) rfl rfl Try.func79 (by kernel_rfl) rfl #[.agg #[.int .i8 a0_0, .int .i8 a0_1, .slice A0_2 l0_2.length c0_2, .slice A0_3 l0_3.length c0_3, .slice A0_4 l0_4.length c0_4]] rfl (by (try simp only [List.map_toArray, List.map_cons, List.map_nil]); first | done | rfl | (simp only [List.length_drop, List.length_take]; rfl)) ?_; (with_reducible refine (impl_ValidMachine.calls k a0_0 a0_1 _ _ l0_2 _ _ l0_3 _ _ l0_4 true _ ?side1 ?side2 ?side3 ?side4 ?side5 ?side6 A4.out).mono ?_); (case side1 => exact zcc HB HR0_2.out); (case side2 => exact HC0_2.out); (case side3 => exact zcc HB HR0_3.out); (case side4 => exact HC0_3.out); (case side5 => exact zcc HB HR0_4.out); (case side6 => exact HC0_4.out); rintro e w18 ⟨rfl, hb⟩; refine ⟨_, rfl, ?_⟩; have n_ : _ ∧ _ := ⟨zk BK300 hb, zbs hb⟩; clear BK300 HB; obtain ⟨BK300, HB⟩ := n_; (try clear hb); (try clear hb2); (try clear hk); (try clear hi); obtain ⟨z19_0, z19_1, z19_2, z19_3, z19_4, y19_0, y19_1, y19_2, y19_3, y19_4⟩ := zB5 BK300) | ((with_reducible refine gate_callee (f := 156) rfl ?_); refine goesL_ (some 16) rfl rfl Try.func156 (by kernel_rfl) rfl #[.int .i64 (l0_3.length : Int)] rfl (by (try simp only [List.map_toArray, List.map_cons, List.map_nil]); first | done | rfl | (simp only [List.length_drop, List.length_take]; rfl)) ?_; (with_reducible refine (impl_rows.calls (l0_3.length : Int) t302 _ A6.out).mono ?_); rintro e w' ⟨rfl, ⟨nd, rfl⟩⟩; refine ⟨_, rfl, ?_⟩) | ((with_reducible refine gate_callee (f := 98) rfl ?_); refine goesL_ (some 18) rfl rfl Try.func98 (by kernel_rfl) rfl #[.int .i64 a1, .int .i64 0, .int .i64 (wrap64 (t302 - 1))] rfl (by (try simp only [List.map_toArray, List.map_cons, List.map_nil]); first | done | rfl | (simp only [List.length_drop, List.length_take]; rfl)) ?_; (with_reducible refine (impl_in.calls a1 0 (wrap64 (t302 - 1)) true _ A7.out).mono ?_); rintro e w' ⟨rfl, ⟨nd, rfl⟩⟩; refine ⟨_, rfl, ?_⟩) | (go_at_call 157; (with_reducible refine (slices_ContainsFunc__impl_lateOk_1.calls k _ _ l2  false _ ?side1 ?side2 A10.out).mono ?_); (case side1 => repeat (first | exact (Kd.C_below HR2.out (by repeat (first | (with_reducible first | exact HB.out | apply below_alloc | apply pw_below_drewN | apply below_drew1 | refine below_set ?_ GE300.out) | exact HB.out))) | (with_reducible refine Kd.C_alloc ?_ _) | (with_reducible refine Kd.C_drewN ?_ _) | (with_reducible refine Kd.C_drew ?_))); (case side2 => exact HC2.out); rintro e w' ⟨rfl, ⟨nd, rfl⟩⟩))
 go_ret
 exact ⟨by first | rfl | (simp [errW_none, errW_some] <;> rfl) | (simp [*, errW_none, errW_some] <;> rfl), by repeat (first | (with_reducible first | exact HB.out | apply below_alloc | apply pw_below_drewN | apply below_drew1 | refine below_set ?_ GE300.out) | exact HB.out)⟩
/-! ### impl_bit_int64: function 90 -/
def impl_bit_int64.f (a0 : Int) (a1 : Int) : Option (Bool) := if 0 ≤ a1 then (some ((Go.bits .and .i64 (shr .i64 a0 a1) 1) == 1)) else (none)
set_option maxHeartbeats 8000000 in
set_option maxRecDepth 100000 in
theorem impl_bit_int64.calls (a0 : Int) (a1 : Int) (r : Bool) (w : World) (h : impl_bit_int64.f a0 a1 = some r) :
    Calls Try.prog 90 #[.int .i64 a0, .int .i64 a1] w fun e w' => e = .returned (.bool r) ∧ Drawn0 w w' := by
 have H : (if 0 ≤ a1 then (some ((Go.bits .and .i64 (shr .i64 a0 a1) 1) == 1)) else (none)) = some r := h
 clear h
 by_cases c3 : 0 ≤ a1
 rotate_left
 ·rw [if_neg c3] at H
  exact absurd H (by simp)
 rw [if_pos c3] at H
 have c3b0 := eq_true c3
 have c3b1 : decide (0 ≤ a1) = true := decide_eq_true c3
 clear c3
 obtain ⟨ji4, hji4⟩ : ∃ j_ : Int, (shr .i64 a0 a1) = j_ := ⟨_, rfl⟩
 replace H : (some ((Go.bits .and .i64 (ji4) 1) == 1)) = some r := by first | (rw [hji4] at H; exact H) | (simp only [hji4] at H ⊢; exact H)
 have hji4_ : (a0 / 2 ^ min a1.toNat 64) = ji4 := hji4
 have hji4z : a1 ≤ 64 → (a0 / 2 ^ a1.toNat) = ji4 := shr_small hji4
 obtain rfl := Option.some.inj H
 go_enter Try.func90, Try.ntmps90
 go_wp2
 go_ret
 exact ⟨by first | rfl | (simp; done) | (simp only [← hji4] <;> (first | rfl | simp)) | (simp [*]; done) | (exact congrArg (Value.int .i64) (wrap_eq (by omega))), by repeat (first | exact Drawn0.refl _ | apply Drawn0.step)⟩
/-! ### impl_PushesFor: function 25 -/
def impl_PushesFor.l0 : Nat → Int → List Int → List (S120) → List (S116) → Int → Int → Option ((List (S120)) × Int)
  | 0, _, _, _, _, _, _ => none
  | k + 1, x1, x2, x9, x21, x22, x23 => if x23 < x22 then (if 0 ≤ x23 then (if x23 < (x21.length : Int) then ((impl_bit_int64.f x1 x23).bind fun t312 => (if t312 = true then (if x23 < (x2.length : Int) then (if x9.length < 23456248059221 then (impl_PushesFor.l0 k x1 x2 (x9 ++ [(⟨(⟨(rd_T116 x21 x23).f0.f0, (rd_T116 x21 x23).f0.f1⟩ : S74), (rd_T116 x21 x23).f1, IntKind.i16.wrap (rd x2 x23)⟩ : S120)]) x21 x22 (wrap64 (x23 + 1))) else (none)) else (none)) else (impl_PushesFor.l0 k x1 x2 x9 x21 x22 (wrap64 (x23 + 1))))) else (none)) else (none)) else (some (x9, 0))
def impl_PushesFor.f (k : Nat) (a0_0 : Int) (a0_1 : Int) (l0_2 : List (S91)) (l0_3 : List (S116)) (l0_4 : List (S74)) (a1 : Int) (l2 : List Int) : Option ((List (S120)) × Int) := (impl_lateOk.f k a0_0 a0_1 l0_2 l0_3 l0_4 a1 l2).bind fun t306 => (if t306 = 0 then (impl_PushesFor.l0 k a1 l2 (([] : List (S120))) l0_3 (l0_3.length : Int) 0) else (some (([] : List (S120)), t306)))
theorem impl_PushesFor.mono_l : ∀ k, (∀ y0 y1 y2 y3 y4 y5, LeO (impl_PushesFor.l0 k y0 y1 y2 y3 y4 y5) (impl_PushesFor.l0 (k + 1) y0 y1 y2 y3 y4 y5))
  | 0 => fun _ _ _ _ _ _ r h => by simp [impl_PushesFor.l0] at h
  | k + 1 => by
    have ih0 := impl_PushesFor.mono_l k
    · intro y0 y1 y2 y3 y4 y5
      unfold impl_PushesFor.l0
      repeat' first | (with_reducible first | apply ih0 | apply impl_lateOk.mono | exact LeO.refl _ | exact LeO.none _ | refine LeO.ite ?_ ?_ | refine LeO.bind ?_ (fun _ => ?_)) | apply ih0 | apply impl_lateOk.mono | exact LeO.none _ | refine LeO.ite ?_ ?_ | refine LeO.bind ?_ (fun _ => ?_)
theorem impl_PushesFor.mono : ∀ a0 a1 a2 a3 a4 a5 a6 k, LeO (impl_PushesFor.f k a0 a1 a2 a3 a4 a5 a6) (impl_PushesFor.f (k + 1) a0 a1 a2 a3 a4 a5 a6) := by
 intro a0 a1 a2 a3 a4 a5 a6 k
 have ih0 := impl_PushesFor.mono_l k
 unfold impl_PushesFor.f
 repeat' first | (with_reducible first | apply ih0 | apply impl_lateOk.mono | exact LeO.refl _ | exact LeO.none _ | refine LeO.ite ?_ ?_ | refine LeO.bind ?_ (fun _ => ?_)) | apply ih0 | apply impl_lateOk.mono | exact LeO.none _ | refine LeO.ite ?_ ?_ | refine LeO.bind ?_ (fun _ => ?_)
def impl_PushesFor.T9 : Bool × List (List Nat × List Nat) := (true, [([], []), ([], []), ([1], [1]), ([], []), ([3], [3]), ([], []), ([], []), ([5, 6], [5, 6]), ([7], [7]), ([8], [8]), ([2, 4, 9], [2, 4, 9]), ([10], [10]), ([0, 11], [0, 11]), ([12, 12, 0, 1, 2, 3, 4, 5, 6, 7, 8, 9, 10, 11, 12], [0, 12])])
def impl_PushesFor.B9 : List Nat := [0, 0, 2, 0, 8, 0, 0, 96, 224, 480, 1022, 2046, 4095, 8191]
theorem impl_PushesFor.tab9 : rtab .any (opsOf Try.f25 9) = impl_PushesFor.T9 := by kernel_rfl
theorem impl_PushesFor.bits9 : waitsOk impl_PushesFor.T9.2 impl_PushesFor.B9 = true := by kernel_rfl
set_option maxHeartbeats 8000000 in
set_option maxRecDepth 100000 in
theorem impl_PushesFor.calls (k : Nat) (a0_0 : Int) (a0_1 : Int) (A0_2 : Option Addr) (c0_2 : Nat) (l0_2 : List (S91)) (A0_3 : Option Addr) (c0_3 : Nat) (l0_3 : List (S116)) (A0_4 : Option Addr) (c0_4 : Nat) (l0_4 : List (S74)) (a1 : Int) (A2 : Option Addr) (c2 : Nat) (l2 : List Int) (r1 : List (S120)) (r2 : Int) (w : World) (hr0_2 : Kd.C k91 w A0_2 l0_2.length l0_2) (hc0_2 : l0_2.length ≤ c0_2) (hr0_3 : Kd.C k116 w A0_3 l0_3.length l0_3) (hc0_3 : l0_3.length ≤ c0_3) (hr0_4 : Kd.C k74 w A0_4 l0_4.length l0_4) (hc0_4 : l0_4.length ≤ c0_4) (hr2 : Kd.C (Kd.int .i64) w A2 l2.length l2) (hc2 : l2.length ≤ c2) (h : impl_PushesFor.f k a0_0 a0_1 l0_2 l0_3 l0_4 a1 l2 = some (r1, r2)) :
    Calls Try.prog 25 #[.agg #[.int .i8 a0_0, .int .i8 a0_1, .slice A0_2 l0_2.length c0_2, .slice A0_3 l0_3.length c0_3, .slice A0_4 l0_4.length c0_4], .int .i64 a1, .slice A2 l2.length c2] w fun e w' => ∃ v0_ : Value, e = .returned (.tuple #[v0_, .int .i64 r2]) ∧ Kd.R k120 120 w' w.heap.size (fun _ => True) v0_ r1 ∧ Below w.heap.size w w' := by
 have hu41 := Try.underlying41
 have hu116 := Try.underlying116
 have hu74 := Try.underlying74
 have hu120 := Try.underlying120
 have HR0_2 := Aside0.mk hr0_2
 have HC0_2 := Aside0.mk hc0_2
 clear hr0_2 hc0_2
 have HR0_3 := Aside0.mk hr0_3
 have HC0_3 := Aside0.mk hc0_3
 clear hr0_3 hc0_3
 have HR0_4 := Aside0.mk hr0_4
 have HC0_4 := Aside0.mk hc0_4
 clear hr0_4 hc0_4
 have HR2 := Aside0.mk hr2
 have HC2 := Aside0.mk hc2
 clear hr2 hc2
 have HB := Aside0.mk (Below.refl w.heap.size w)
 have H : ((impl_lateOk.f k a0_0 a0_1 l0_2 l0_3 l0_4 a1 l2).bind fun t306 => (if t306 = 0 then (impl_PushesFor.l0 k a1 l2 (([] : List (S120))) l0_3 (l0_3.length : Int) 0) else (some (([] : List (S120)), t306)))) = some (r1, r2) := h
 clear h
 replace H := Option.bind_eq_some_iff.mp H
 obtain ⟨t306, A40, H⟩ := H
 replace H : (if t306 = 0 then (impl_PushesFor.l0 k a1 l2 (([] : List (S120))) l0_3 (l0_3.length : Int) 0) else (some (([] : List (S120)), t306))) = some (r1, r2) := H
 have A4 := Aside0.mk A40
 clear A40
 by_cases c5 : t306 = 0
 rotate_left
 ·rw [if_neg c5] at H
  have c5b0 : (t306 == 0) = false := beq_eq_false_iff_ne.mpr c5
  have c5b1 : (t306 != 0) = true := bne_iff_ne.mpr c5
  simp only [Option.some.injEq, Prod.mk.injEq] at H
  obtain ⟨rfl, rfl⟩ := H
  go_enter Try.func25, Try.ntmps25
  go_wp2_with (first | ((with_reducible refine gate_dst (N := 3) rfl ?_); refine box_event ?hg (N := 3) ?hd (cs := #[.int .i8 a0_0, .int .i8 a0_1, .slice A0_2 l0_2.length c0_2, .slice A0_3 l0_3.length c0_3, .slice A0_4 l0_4.length c0_4]) (t := 41) ?hr ?_; (case hd => rfl); (case hg => rfl); (case hr => first | (go_simp; done) | (go_simp; rfl)); intro gb305 hg w28 hbox hb; have n_ : _ ∧ _ ∧ _ ∧ _ := ⟨zb HB hb, Aside0.mk (hbox), zg HB hg, zg HB hg⟩; clear HB; obtain ⟨HB, BK305, GW305, GE305⟩ := n_; clear hb hbox hg; obtain ⟨z29_0, z29_1, z29_2, z29_3, z29_4, y29_0, y29_1, y29_2, y29_3, y29_4⟩ := zB5 BK305) | ((with_reducible refine gate_callee (f := 89) rfl ?_); refine goesL_ (some 15) rfl rfl Try.func89 (by kernel_rfl) rfl #[.agg #[.int .i8 a0_0, .int .i8 a0_1, .slice A0_2 l0_2.length c0_2, .slice A0_3 l0_3.length c0_3, .slice A0_4 l0_4.length c0_4], .int .i64 a1, .slice A2 l2.length c2] rfl (by (try simp only [List.map_toArray, List.map_cons, List.map_nil]); first | done | rfl | (simp only [List.length_drop, List.length_take]; rfl)) ?_; (with_reducible refine (impl_lateOk.calls k a0_0 a0_1 _ _ l0_2 _ _ l0_3 _ _ l0_4 a1 _ _ l2 t306 _ ?side1 ?side2 ?side3 ?side4 ?side5 ?side6 ?side7 ?side8 A4.out).mono ?_); (case side1 => exact zcc HB HR0_2.out); (case side2 => exact HC0_2.out); (case side3 => exact zcc HB HR0_3.out); (case side4 => exact HC0_3.out); (case side5 => exact zcc HB HR0_4.out); (case side6 => exact HC0_4.out); (case side7 => exact zcc HB HR2.out); (case side8 => exact HC2.out); rintro e w30 ⟨rfl, hb⟩; refine ⟨_, rfl, ?_⟩; have n_ : _ ∧ _ := ⟨zk BK305 hb, zbs hb⟩; clear BK305 HB; obtain ⟨BK305, HB⟩ := n_; (try clear hb); (try clear hb2); (try clear hk); (try clear hi)))
  go_ret2
  exact ⟨_, by first | rfl | (simp [errW_none, errW_some] <;> rfl) | (simp [*, errW_none, errW_some] <;> rfl), by first | exact Kd.R_nil _ _ _ _ _ | exact Kd.N_nil _ _ _ _ _ | exact Kd.V_nil _ _ _ _ _ | exact Kd.Q_nil _ _ _ _ _ | exact Kd.S_nil _ _ _ _ _, by repeat (first | (with_reducible first | exact HB.out | apply below_alloc | apply pw_below_drewN | apply below_drew1 | refine below_set ?_ GE305.out) | exact HB.out)⟩
 rw [if_pos c5] at H
 have c5b0 : (t306 == 0) = true := beq_iff_eq.mpr c5
 have c5b1 : (t306 != 0) = false := bne_eq_false_iff_eq.mpr c5
 clear c5
 obtain ⟨y307, hy307⟩ : ∃ y_ : List (S120), y_ = (([] : List (S120))) := ⟨_, rfl⟩
 replace H : (impl_PushesFor.l0 k a1 l2 y307 l0_3 (l0_3.length : Int) 0) = some (r1, r2) := by first | (rw [hy307]; with_reducible exact H) | (have H2_ := (Option.bind_some _ _).symm.trans H; rw [hy307]; with_reducible exact H2_) | (have H2_ := (Option.bind_some _ _).symm.trans H; with_reducible exact H2_) | with_reducible exact H | (rw [hy307]; exact H) | exact H
 have Ny307 := Aside0.mk hy307
 clear hy307
 have H' := Aside0.mk H
 clear H
 go_enter Try.func25, Try.ntmps25
 go_wp2_with (first | ((with_reducible refine gate_dst (N := 3) rfl ?_); refine box_event ?hg (N := 3) ?hd (cs := #[.int .i8 a0_0, .int .i8 a0_1, .slice A0_2 l0_2.length c0_2, .slice A0_3 l0_3.length c0_3, .slice A0_4 l0_4.length c0_4]) (t := 41) ?hr ?_; (case hd => rfl); (case hg => rfl); (case hr => first | (go_simp; done) | (go_simp; rfl)); intro gb305 hg w6 hbox hb; have n_ : _ ∧ _ ∧ _ ∧ _ := ⟨zb HB hb, Aside0.mk (hbox), zg HB hg, zg HB hg⟩; clear HB; obtain ⟨HB, BK305, GW305, GE305⟩ := n_; clear hb hbox hg; obtain ⟨z7_0, z7_1, z7_2, z7_3, z7_4, y7_0, y7_1, y7_2, y7_3, y7_4⟩ := zB5 BK305) | ((with_reducible refine gate_callee (f := 89) rfl ?_); refine goesL_ (some 15) rfl rfl Try.func89 (by kernel_rfl) rfl #[.agg #[.int .i8 a0_0, .int .i8 a0_1, .slice A0_2 l0_2.length c0_2, .slice A0_3 l0_3.length c0_3, .slice A0_4 l0_4.length c0_4], .int .i64 a1, .slice A2 l2.length c2] rfl (by (try simp only [List.map_toArray, List.map_cons, List.map_nil]); first | done | rfl | (simp only [List.length_drop, List.length_take]; rfl)) ?_; (with_reducible refine (impl_lateOk.calls k a0_0 a0_1 _ _ l0_2 _ _ l0_3 _ _ l0_4 a1 _ _ l2 t306 _ ?side1 ?side2 ?side3 ?side4 ?side5 ?side6 ?side7 ?side8 A4.out).mono ?_); (case side1 => exact zcc HB HR0_2.out); (case side2 => exact HC0_2.out); (case side3 => exact zcc HB HR0_3.out); (case side4 => exact HC0_3.out); (case side5 => exact zcc HB HR0_4.out); (case side6 => exact HC0_4.out); (case side7 => exact zcc HB HR2.out); (case side8 => exact HC2.out); rintro e w8 ⟨rfl, hb⟩; refine ⟨_, rfl, ?_⟩; have n_ : _ ∧ _ := ⟨zk BK305 hb, zbs hb⟩; clear BK305 HB; obtain ⟨BK305, HB⟩ := n_; (try clear hb); (try clear hb2); (try clear hk); (try clear hi)) | ((with_reducible refine gate_dst (N := 19) rfl ?_); refine Kd.R_lit k120 _ 120 ?hg (N := 19) ?hd (xs := ([] : List (S120))) (inner := []) (ok := fun _ => True) (okp := fun _ => True) ?hr ?hp (fun _ hk => hk) trivial (Below.refl _ _) (Nat.le_refl _) (by simp) ?_; (case hd => rfl); (case hg => rfl); (case hr => first | (go_simp; done) | (go_simp; rfl)); (case hp => exact (Reps.none _ _)); intro v308 w9 ho10 hb hg_ hnew_; clear hg_ hnew_; (first | rw [← Ny307.out] at ho10 | (simp only [Int.reduceToNat] at ho10; rw [← Ny307.out] at ho10)); have n_ : _ ∧ _ ∧ _ := ⟨Aside0.mk (Kd.R_lower ho10 (zz HB)), zk BK305 hb, zbs hb⟩; clear BK305 HB; obtain ⟨HO309, BK305, HB⟩ := n_; clear hb ho10; obtain ⟨z11_0, z11_1, z11_2, z11_3, z11_4, y11_0, y11_1, y11_2, y11_3, y11_4⟩ := zB5 BK305))
 go_loopg [9, 23] k (fun kq v9 v23 w' => ∃ (x9_1 : List (S120)) (x23_1 : Int), v23 = .int .i64 x23_1 ∧ Aside0 (impl_PushesFor.l0 kq a1 l2 x9_1 l0_3 (l0_3.length : Int) x23_1 = some (r1, r2)) ∧ Aside0 (kq ≤ k) ∧ Aside0 (Kd.R k120 120 w' w.heap.size (fun _ => True) v9 x9_1) ∧ Aside0 (w'.heap[gb305]? = some (.cells #[.int .i8 a0_0, .int .i8 a0_1, (.slice A0_2 l0_2.length c0_2), (.slice A0_3 l0_3.length c0_3), (.slice A0_4 l0_4.length c0_4)] 41 (0, 0))) ∧ Aside0 (Below w.heap.size w w'))
 case atStart => exact ⟨(y307), (0), (by first | rfl | (simp; done) | (simp [*]; done) | (exact congrArg (Value.int .i64) (wrap_eq (by omega)))), H', ⟨Nat.le_refl _⟩, ze HO309, zh BK305, zba⟩
 clear H'
 try clear c2
 try clear p2
 try clear c5
 try clear c5b0
 try clear c5b1
 try clear c8
 try clear z11_0 z11_1 z11_2 z11_3 z11_4
 try clear z7_0 z7_1 z7_2 z7_3 z7_4
 try clear y11_0
 try clear y11_1
 try clear y11_2
 try clear y11_3
 try clear y11_4
 try clear y7_0
 try clear y7_1
 try clear y7_2
 try clear y7_3
 try clear y7_4
 obtain ⟨x9_1, x23_1, rfl, HA, HK1, HO_9, BK305, HB⟩ := hrel
 cases gk with
 | zero => exact absurd HA.out (by simp [impl_PushesFor.l0])
 | succ k1 => ?_
 have H := HA.out
 clear HA
 simp only [impl_PushesFor.l0] at H
 by_cases c12 : x23_1 < (l0_3.length : Int)
 rotate_left
 ·rw [if_neg c12] at H
  have c12b0 : decide (x23_1 < (l0_3.length : Int)) = false := decide_eq_false c12
  clear c12
  simp only [Option.some.injEq, Prod.mk.injEq] at H
  obtain ⟨rfl, rfl⟩ := H
  go_wp2
  go_ret2
  exact ⟨_, by first | rfl | (simp [errW_none, errW_some] <;> rfl) | (simp [*, errW_none, errW_some] <;> rfl), by (with_reducible repeat (first | apply Kd.R_alloc | apply Kd.R_drewN | apply Kd.R_drew)); exact HO_9.out, by repeat (first | (with_reducible first | exact HB.out | apply below_alloc | apply pw_below_drewN | apply below_drew1 | refine below_set ?_ GE305.out) | exact HB.out)⟩
 rw [if_pos c12] at H
 have c12b0 : decide (x23_1 < (l0_3.length : Int)) = true := decide_eq_true c12
 clear c12
 by_cases c13 : 0 ≤ x23_1
 rotate_left
 ·rw [if_neg c13] at H
  exact absurd H (by simp)
 rw [if_pos c13] at H
 have c13b0 : decide (0 ≤ x23_1) = true := decide_eq_true c13
 clear c13
 by_cases c14 : x23_1 < (l0_3.length : Int)
 rotate_left
 ·rw [if_neg c14] at H
  exact absurd H (by simp)
 rw [if_pos c14] at H
 have c14b0 : decide (x23_1 < (l0_3.length : Int)) = true := decide_eq_true c14
 clear c14
 replace H := Option.bind_eq_some_iff.mp H
 obtain ⟨t312, A150, H⟩ := H
 replace H : (if t312 = true then (if x23_1 < (l2.length : Int) then (if x9_1.length < 23456248059221 then (impl_PushesFor.l0 k1 a1 l2 (x9_1 ++ [(⟨(⟨(rd_T116 l0_3 x23_1).f0.f0, (rd_T116 l0_3 x23_1).f0.f1⟩ : S74), (rd_T116 l0_3 x23_1).f1, IntKind.i16.wrap (rd l2 x23_1)⟩ : S120)]) l0_3 (l0_3.length : Int) (wrap64 (x23_1 + 1))) else (none)) else (none)) else (impl_PushesFor.l0 k1 a1 l2 x9_1 l0_3 (l0_3.length : Int) (wrap64 (x23_1 + 1)))) = some (r1, r2) := H
 have A15 := Aside0.mk A150
 clear A150
 by_cases c16 : t312 = true
 rotate_left
 ·replace c16 := Bool.eq_false_iff.mpr c16
  subst c16
  have H1 : (impl_PushesFor.l0 k1 a1 l2 x9_1 l0_3 (l0_3.length : Int) (wrap64 (x23_1 + 1))) = some (r1, r2) := by rw [if_neg (show ¬ (false = true) by decide)] at H; exact H
  clear H
  have H := H1
  clear H1
  have H' := Aside0.mk H
  clear H
  have p310 : 0 ≤ (x23_1 : Int) := of_decide_eq_true (by first | (with_reducible assumption) | assumption)
  have q310 : x23_1 < (l0_3.length : Int) := of_decide_eq_true (by first | (with_reducible assumption) | assumption)
  obtain ⟨ad310, e310, hx310_0, hx310_1, hx310_2⟩ := at_T116 HR0_3.out x23_1 p310 q310
  cases e310
  replace hx310_0 := zc HB hx310_0
  replace hx310_1 := zc HB hx310_1
  replace hx310_2 := zc HB hx310_2
  replace p310 := eq_true p310
  replace q310 := eq_true q310
  go_wp2_with (first | ((with_reducible refine gate_dst (N := 11) rfl ?_); refine box_event ?hg (N := 11) ?hd (cs := #[.int .i8 0, .int .i8 0, .int .i8 0]) (t := 116) ?hr ?_; (case hd => rfl); (case hg => rfl); (case hr => first | (go_simp; done) | (go_simp; rfl)); intro gb311 hg w25 hbox hb; have n_ : _ ∧ _ ∧ _ ∧ _ ∧ _ ∧ _ ∧ _ ∧ _ := ⟨zr HO_9 hb, zk BK305 hb, zbs hb, Aside0.mk (hbox), zg HB hg, zg HB hg, zn1 BK305 hg, zn2 BK305 hg⟩; clear HO_9 BK305 HB; obtain ⟨HO_9, BK305, HB, BK311, GW311, GE311, NB305_311, NB311_305⟩ := n_; clear hb hbox hg; have hnb26 := NB311_305.out; have hnc26 := NB305_311.out; obtain ⟨z27_0, z27_1, z27_2, y27_0, y27_1, y27_2⟩ := zB3 BK311) | ((with_reducible refine gate_callee (f := 90) rfl ?_); refine goesL_ (some 30) rfl rfl Try.func90 (by kernel_rfl) rfl #[.int .i64 a1, .int .i64 x23_1] rfl (by (try simp only [List.map_toArray, List.map_cons, List.map_nil]); first | done | rfl | (simp only [List.length_drop, List.length_take]; rfl)) ?_; (with_reducible refine (impl_bit_int64.calls a1 x23_1 false _ A15.out).mono ?_); rintro e w' ⟨rfl, ⟨nd, rfl⟩⟩; refine ⟨_, rfl, ?_⟩))
  go_roundg k1
  case measure => have := HK1.out; omega
  case rel => exact ⟨(x9_1), (wrap64 (x23_1 + 1)), (by first | rfl | (simp; done) | (simp [*]; done) | (exact congrArg (Value.int .i64) (wrap_eq (by omega)))), H', ⟨by have := HK1.out; omega⟩, ⟨by (with_reducible repeat (first | apply Kd.R_alloc | apply Kd.R_drewN | apply Kd.R_drew)); exact Kd.R_mono (Kd.R_far (p := ⟨gb311, 2, none⟩) (Kd.R_far (p := ⟨gb311, 1, none⟩) (Kd.R_far (p := ⟨gb311, 0, none⟩) (Kd.R_types HO_9.out BK311.out (by decide)) (fun _ hk => hk.2) (.int .i8 ((rd_T116 l0_3 x23_1).f0.f0))) (fun _ hk => hk.2) (.int .i8 ((rd_T116 l0_3 x23_1).f0.f1))) (fun _ hk => hk.2) (.int .i8 ((rd_T116 l0_3 x23_1).f1))) (fun _ hk => trivial)⟩, zf BK305 NB305_311, zba⟩
 subst c16
 have H1 : (if x23_1 < (l2.length : Int) then (if x9_1.length < 23456248059221 then (impl_PushesFor.l0 k1 a1 l2 (x9_1 ++ [(⟨(⟨(rd_T116 l0_3 x23_1).f0.f0, (rd_T116 l0_3 x23_1).f0.f1⟩ : S74), (rd_T116 l0_3 x23_1).f1, IntKind.i16.wrap (rd l2 x23_1)⟩ : S120)]) l0_3 (l0_3.length : Int) (wrap64 (x23_1 + 1))) else (none)) else (none)) = some (r1, r2) := by rw [if_pos rfl] at H; exact H
 clear H
 have H := H1
 clear H1
 by_cases c17 : x23_1 < (l2.length : Int)
 rotate_left
 ·rw [if_neg c17] at H
  exact absurd H (by simp)
 rw [if_pos c17] at H
 have c17b0 : decide (x23_1 < (l2.length : Int)) = true := decide_eq_true c17
 clear c17
 by_cases c18 : x9_1.length < 23456248059221
 rotate_left
 ·rw [if_neg c18] at H
  exact absurd H (by simp)
 rw [if_pos c18] at H
 have LMc18 := Aside0.mk c18
 clear c18
 obtain ⟨y314, hy314⟩ : ∃ y_ : List (S120), y_ = (x9_1 ++ [(⟨(⟨(rd_T116 l0_3 x23_1).f0.f0, (rd_T116 l0_3 x23_1).f0.f1⟩ : S74), (rd_T116 l0_3 x23_1).f1, IntKind.i16.wrap (rd l2 x23_1)⟩ : S120)]) := ⟨_, rfl⟩
 replace H : (impl_PushesFor.l0 k1 a1 l2 y314 l0_3 (l0_3.length : Int) (wrap64 (x23_1 + 1))) = some (r1, r2) := by first | (rw [hy314]; with_reducible exact H) | (have H2_ := (Option.bind_some _ _).symm.trans H; rw [hy314]; with_reducible exact H2_) | (have H2_ := (Option.bind_some _ _).symm.trans H; with_reducible exact H2_) | with_reducible exact H | (rw [hy314]; exact H) | exact H
 have Ny314 := Aside0.mk hy314
 clear hy314
 have H' := Aside0.mk H
 clear H
 have p310 : 0 ≤ (x23_1 : Int) := of_decide_eq_true (by first | (with_reducible assumption) | assumption)
 have q310 : x23_1 < (l0_3.length : Int) := of_decide_eq_true (by first | (with_reducible assumption) | assumption)
 obtain ⟨ad310, e310, hx310_0, hx310_1, hx310_2⟩ := at_T116 HR0_3.out x23_1 p310 q310
 cases e310
 replace hx310_0 := zc HB hx310_0
 replace hx310_1 := zc HB hx310_1
 replace hx310_2 := zc HB hx310_2
 replace p310 := eq_true p310
 replace q310 := eq_true q310
 try go_wp2_with (first | ((with_reducible refine gate_dst (N := 11) rfl ?_); refine box_event ?hg (N := 11) ?hd (cs := #[.int .i8 0, .int .i8 0, .int .i8 0]) (t := 116) ?hr ?_; (case hd => rfl); (case hg => rfl); (case hr => first | (go_simp; done) | (go_simp; rfl)); intro gb311 hg w19 hbox hb; have n_ : _ ∧ _ ∧ _ ∧ _ ∧ _ ∧ _ ∧ _ ∧ _ := ⟨zr HO_9 hb, zk BK305 hb, zbs hb, Aside0.mk (hbox), zg HB hg, zg HB hg, zn1 BK305 hg, zn2 BK305 hg⟩; clear HO_9 BK305 HB; obtain ⟨HO_9, BK305, HB, BK311, GW311, GE311, NB305_311, NB311_305⟩ := n_; clear hb hbox hg; have hnb20 := NB311_305.out; have hnc20 := NB305_311.out; obtain ⟨z21_0, z21_1, z21_2, y21_0, y21_1, y21_2⟩ := zB3 BK311) | ((with_reducible refine gate_callee (f := 90) rfl ?_); refine goesL_ (some 30) rfl rfl Try.func90 (by kernel_rfl) rfl #[.int .i64 a1, .int .i64 x23_1] rfl (by (try simp only [List.map_toArray, List.map_cons, List.map_nil]); first | done | rfl | (simp only [List.length_drop, List.length_take]; rfl)) ?_; (with_reducible refine (impl_bit_int64.calls a1 x23_1 true _ A15.out).mono ?_); rintro e w' ⟨rfl, ⟨nd, rfl⟩⟩; refine ⟨_, rfl, ?_⟩))
 have n0_ : Aside0 (Kd.R k120 120 (((w19.setCell ⟨gb311, 0, none⟩ (.int .i8 ((rd_T116 l0_3 x23_1).f0.f0))).setCell ⟨gb311, 1, none⟩ (.int .i8 ((rd_T116 l0_3 x23_1).f0.f1))).setCell ⟨gb311, 2, none⟩ (.int .i8 ((rd_T116 l0_3 x23_1).f1))) w.heap.size (fun _ => True) u9 x9_1) := ⟨by (with_reducible repeat (first | apply Kd.R_alloc | apply Kd.R_drewN | apply Kd.R_drew)); exact Kd.R_mono (Kd.R_far (p := ⟨gb311, 2, none⟩) (Kd.R_far (p := ⟨gb311, 1, none⟩) (Kd.R_far (p := ⟨gb311, 0, none⟩) (Kd.R_types HO_9.out BK311.out (by decide)) (fun _ hk => hk.2) (.int .i8 ((rd_T116 l0_3 x23_1).f0.f0))) (fun _ hk => hk.2) (.int .i8 ((rd_T116 l0_3 x23_1).f0.f1))) (fun _ hk => hk.2) (.int .i8 ((rd_T116 l0_3 x23_1).f1))) (fun _ hk => trivial)⟩
 have n1_ : Aside0 ((((w19.setCell ⟨gb311, 0, none⟩ (.int .i8 ((rd_T116 l0_3 x23_1).f0.f0))).setCell ⟨gb311, 1, none⟩ (.int .i8 ((rd_T116 l0_3 x23_1).f0.f1))).setCell ⟨gb311, 2, none⟩ (.int .i8 ((rd_T116 l0_3 x23_1).f1))).heap[gb305]? = some (.cells #[.int .i8 a0_0, .int .i8 a0_1, .slice A0_2 l0_2.length c0_2, .slice (some ad310) l0_3.length c0_3, .slice A0_4 l0_4.length c0_4] 41 (0, 0))) := zf BK305 NB305_311
 have n2_ : Aside0 ((((w19.setCell ⟨gb311, 0, none⟩ (.int .i8 ((rd_T116 l0_3 x23_1).f0.f0))).setCell ⟨gb311, 1, none⟩ (.int .i8 ((rd_T116 l0_3 x23_1).f0.f1))).setCell ⟨gb311, 2, none⟩ (.int .i8 ((rd_T116 l0_3 x23_1).f1))).heap[gb311]? = some (.cells #[.int .i8 ((rd_T116 l0_3 x23_1).f0.f0), .int .i8 ((rd_T116 l0_3 x23_1).f0.f1), .int .i8 ((rd_T116 l0_3 x23_1).f1)] 116 (0, 0))) := ⟨by (with_reducible repeat (first | refine blk_drewN ?_ _ | refine blk_drew ?_ | refine blk_alloc ?_ _)); refine blk_put (cs := #[.int .i8 ((rd_T116 l0_3 x23_1).f0.f0), .int .i8 ((rd_T116 l0_3 x23_1).f0.f1), .int .i8 0]) ?_ 2 _ rfl; (with_reducible repeat (first | refine blk_drewN ?_ _ | refine blk_drew ?_ | refine blk_alloc ?_ _)); refine blk_put (cs := #[.int .i8 ((rd_T116 l0_3 x23_1).f0.f0), .int .i8 0, .int .i8 0]) ?_ 1 _ rfl; (with_reducible repeat (first | refine blk_drewN ?_ _ | refine blk_drew ?_ | refine blk_alloc ?_ _)); refine blk_put (cs := #[.int .i8 0, .int .i8 0, .int .i8 0]) ?_ 0 _ rfl; (with_reducible repeat (first | refine blk_drewN ?_ _ | refine blk_drew ?_ | refine blk_alloc ?_ _)); exact BK311.out⟩
 have n3_ : Aside0 (Below w.heap.size w (((w19.setCell ⟨gb311, 0, none⟩ (.int .i8 ((rd_T116 l0_3 x23_1).f0.f0))).setCell ⟨gb311, 1, none⟩ (.int .i8 ((rd_T116 l0_3 x23_1).f0.f1))).setCell ⟨gb311, 2, none⟩ (.int .i8 ((rd_T116 l0_3 x23_1).f1)))) := zba
 (try clear HO_9)
 (try clear BK305)
 (try clear BK311)
 (try clear HB)
 generalize (((w19.setCell ⟨gb311, 0, none⟩ (.int .i8 ((rd_T116 l0_3 x23_1).f0.f0))).setCell ⟨gb311, 1, none⟩ (.int .i8 ((rd_T116 l0_3 x23_1).f0.f1))).setCell ⟨gb311, 2, none⟩ (.int .i8 ((rd_T116 l0_3 x23_1).f1))) = w22 at n0_ n1_ n2_ n3_ ⊢
 have HO_9 := n0_
 have BK305 := n1_
 have BK311 := n2_
 have HB := n3_
 clear n0_ n1_ n2_ n3_
 (try (rw [drewN_self w22]; generalize hq_ : World.drewN w22 _ = w22; have n0_ : Aside0 (Kd.R k120 120 w22 w.heap.size (fun _ => True) u9 x9_1) := ⟨by rw [← hq_]; exact (ze HO_9).out⟩; have n1_ : Aside0 (w22.heap[gb305]? = some (.cells #[.int .i8 a0_0, .int .i8 a0_1, .slice A0_2 l0_2.length c0_2, .slice (some ad310) l0_3.length c0_3, .slice A0_4 l0_4.length c0_4] 41 (0, 0))) := ⟨by rw [← hq_]; exact (zh BK305).out⟩; have n2_ : Aside0 (w22.heap[gb311]? = some (.cells #[.int .i8 ((rd_T116 l0_3 x23_1).f0.f0), .int .i8 ((rd_T116 l0_3 x23_1).f0.f1), .int .i8 ((rd_T116 l0_3 x23_1).f1)] 116 (0, 0))) := ⟨by rw [← hq_]; exact (zh BK311).out⟩; have n3_ : Aside0 (Below w.heap.size w w22) := ⟨by rw [← hq_]; exact (by repeat (first | (with_reducible first | exact HB.out | apply below_alloc | apply pw_below_drewN | apply below_drew1 | refine below_set ?_ GE305.out | refine below_set ?_ GE311.out) | exact HB.out))⟩; clear HO_9 BK305 BK311 HB hq_; have HO_9 := n0_; have BK305 := n1_; have BK311 := n2_; have HB := n3_; clear n0_ n1_ n2_ n3_))
 have n0_ := Aside0.mk (Kd.R_drew HO_9.out)
 have n1_ := Aside0.mk (blk_drew BK305.out)
 have n2_ := Aside0.mk (blk_drew BK311.out)
 have n3_ := Aside0.mk (below_drew1 HB.out)
 clear HO_9
 clear BK305
 clear BK311
 clear HB
 have HO_9 := n0_
 have BK305 := n1_
 have BK311 := n2_
 have HB := n3_
 clear n0_ n1_ n2_ n3_
 have p313 : 0 ≤ (x23_1 : Int) := of_decide_eq_true (by first | (with_reducible assumption) | assumption)
 have q313 : x23_1 < (l2.length : Int) := of_decide_eq_true (by first | (with_reducible assumption) | assumption)
 obtain ⟨ad313, e313, hx313_0⟩ := Kd.at_int HR2.out x23_1 p313 q313
 have hw313_0 := hx313_0
 cases e313
 replace hx313_0 := zc HB hx313_0
 replace p313 := eq_true p313
 replace q313 := eq_true q313
 refine start_ (n := 14) (S := fun w' => w'.cell? ⟨gb311, 0, none⟩ = some (.int .i8 ((rd_T116 l0_3 x23_1).f0.f0)) ∧ w'.cell? ⟨gb311, 1, none⟩ = some (.int .i8 ((rd_T116 l0_3 x23_1).f0.f1)) ∧ w'.cell? ⟨gb311, 2, none⟩ = some (.int .i8 ((rd_T116 l0_3 x23_1).f1)) ∧ w'.cell? (ad313.add (x23_1).toNat) = some (.int .i64 (rd l2 x23_1))) (ds := []) (zq 14 0) (by kernel_rfl) rfl rfl ⟨(blk_cell BK311.out 0).trans rfl, (blk_cell BK311.out 1).trans rfl, (blk_cell BK311.out 2).trans rfl, (zc HB hw313_0)⟩ (fun hHeld => ?_); refine with_tabW impl_PushesFor.tab9 impl_PushesFor.bits9 (fun HT_ HW_ => ?_)
 generalize w22.drew = w23 at HO_9 BK305 BK311 HB hx313_0 hHeld ⊢
 refine zpu 0 (some 31) (zq 14 1) HT_ ?_
 refine zpu 1 (some 32) (zq 14 3) HT_ ?_
 refine zpu 3 (some 34) (zq 14 11) HT_ ?_
 refine zpu 5 (some 36) (zq 14 43) HT_ ?_
 refine zpu 6 (some 37) (zq 14 107) HT_ ?_
 refine zpu 7 (some 38) (zq 14 235) HT_ ?_
 refine ztk 2 (some 33) (zq 14 239) HT_ HW_ rfl hHeld (Or.inl ⟨by rfl, by (rintro w' ⟨s0, s1, s2, s3⟩; go_simp; with_reducible rfl)⟩) ?_
 refine ztk 4 (some 35) (zq 14 255) HT_ HW_ rfl hHeld (Or.inl ⟨by rfl, by (rintro w' ⟨s0, s1, s2, s3⟩; go_simp; with_reducible rfl)⟩) ?_
 refine ztk 8 (some 39) (zq 14 511) HT_ HW_ rfl hHeld (Or.inl ⟨by rfl, by (rintro w' ⟨s0, s1, s2, s3⟩; go_simp; with_reducible rfl)⟩) ?_
 refine zpu 9 (some 40) (zq 14 1023) HT_ ?_
 refine zpu 10 (some 41) (zq 14 2047) HT_ ?_
 refine one_ (i := 11) (N := some 42) (zq 14 4095) rfl rfl (one_of HT_.out (by kernel_rfl)) (by decide) (fun K hK => ?_)
 refine value_ (w1 := ?_) (v := ?_) (by rfl) rfl ?_ ?_
 rotate_left 2
 ·go_simp
  constructor
  rotate_left
  ·rfl
  rfl
 refine hK.out _ _ ⟨(blk_cell (blk_alloc BK311.out _) 0).trans rfl, (blk_cell (blk_alloc BK311.out _) 1).trans rfl, (blk_cell (blk_alloc BK311.out _) 2).trans rfl, (World.cell?_alloc_lt _ _ _ (World.block_lt_of_cell? _ _ ((zc HB hw313_0)))).trans ((zc HB hw313_0))⟩ (fun hHeld => ?_)
 clear hK K
 refine norm_ (a' := ?_) ?_ ?_
 rotate_left
 ·show Act.put _ (some 42) _ = _
  simp only [Act.put, List.setIfInBounds_toArray, List.set_cons_zero, List.set_cons_succ, i64_w, i32_w]
  rfl
 refine one_ (i := 12) (N := some 43) (zq 14 8191) rfl rfl (one_of HT_.out (by kernel_rfl)) (by decide) (fun K hK => ?_)
 refine Kd.R_append_step k120 (w0 := w) w.heap.size (by rfl) (.tmp 31) (.tmp 42) 32 120 (.agg #[(.int .i8 0), (.int .i8 0), (.int .i8 0), (.int .i16 0)]) 6 rfl Try.underlying32 info120 rfl (by decide) (by omega) u9 x9_1 (⟨(⟨(rd_T116 l0_3 x23_1).f0.f0, (rd_T116 l0_3 x23_1).f0.f1⟩ : S74), (rd_T116 l0_3 x23_1).f1, IntKind.i16.wrap (rd l2 x23_1)⟩ : S120) [.int .i8 ((rd_T116 l0_3 x23_1).f0.f0), .int .i8 ((rd_T116 l0_3 x23_1).f0.f1), .int .i8 ((rd_T116 l0_3 x23_1).f1), .int .i16 (IntKind.i16.wrap (rd l2 x23_1))] (fun _ => True) (fun _ => False) rfl rfl ?aP (fun _ hk => hk.elim) ?aF ?aO ?aB ?aS ?aL ?_
 (case aP => exact k120_mkM _ _ _ (⟨(⟨(rd_T116 l0_3 x23_1).f0.f0, (rd_T116 l0_3 x23_1).f0.f1⟩ : S74), (rd_T116 l0_3 x23_1).f1, IntKind.i16.wrap (rd l2 x23_1)⟩ : S120))
 (case aB => exact (by repeat (first | (with_reducible first | exact HB.out | apply below_alloc | apply pw_below_drewN | apply below_drew1 | refine below_set ?_ GE305.out | refine below_set ?_ GE311.out) | exact HB.out)))
 (case aF => exact (fun _ _ => trivial))
 (case aO => exact (ze HO_9).out)
 (case aS => exact (zz HB))
 (case aL => have := LMc18.out; omega)
 intro v315 w24 ho hb hg hat
 rw [← Ny314.out] at ho
 have n0_ := Aside0.mk (blk_grown (g := gb305) (o := .cells #[.int .i8 a0_0, .int .i8 a0_1, .slice A0_2 l0_2.length c0_2, .slice (some ad310) l0_3.length c0_3, .slice A0_4 l0_4.length c0_4] 41 (0, 0)) (zh BK305).out hg (Kd.R_ne HO_9.out BK305.out (by decide)))
 have n1_ := Aside0.mk (blk_grown (g := gb311) (o := .cells #[.int .i8 ((rd_T116 l0_3 x23_1).f0.f0), .int .i8 ((rd_T116 l0_3 x23_1).f0.f1), .int .i8 ((rd_T116 l0_3 x23_1).f1)] 116 (0, 0)) (zh BK311).out hg (Kd.R_ne HO_9.out BK311.out (by decide)))
 have n2_ := Aside0.mk (hb)
 have n3_ := Aside0.mk (ho)
 clear BK305
 clear BK311
 clear HB
 clear HO_9
 have BK305 := n0_
 have BK311 := n1_
 have HB := n2_
 have HO316 := n3_
 clear n0_ n1_ n2_ n3_
 clear ho hb hg hat
 refine hK.out _ _ ⟨(blk_cell BK311.out 0).trans rfl, (blk_cell BK311.out 1).trans rfl, (blk_cell BK311.out 2).trans rfl, (zc HB hw313_0)⟩ (fun hHeld => ?_)
 clear hK K
 refine norm_ (a' := ?_) ?_ ?_
 rotate_left
 ·show Act.put _ (some 43) _ = _
  simp only [Act.put, List.setIfInBounds_toArray, List.set_cons_zero, List.set_cons_succ, i64_w, i32_w]
  rfl
 refine zpu 13 (some 9) (zq 14 16383) HT_ ?_
 refine done_ (done_of HT_.out (by kernel_rfl)) ?_
 try go_wp2
 go_roundg k1
 case measure => have := HK1.out; omega
 case rel => exact ⟨(y314), (wrap64 (x23_1 + 1)), (by first | rfl | (simp; done) | (simp [*]; done) | (exact congrArg (Value.int .i64) (wrap_eq (by omega)))), H', ⟨by have := HK1.out; omega⟩, ze HO316, zh BK305, zba⟩
end Go.Proofs.Ytffnfpnajkgnaaa.PFnExactPushesFor
