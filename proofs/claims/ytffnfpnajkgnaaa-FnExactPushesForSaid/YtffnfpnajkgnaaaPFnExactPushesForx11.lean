-- WRITTEN by xprint.py, a program of this session's. Not trusted: Lean checks it.
-- packed by pack.py
import Derived.Test.YtffnfpnajkgnaaaPFnExactPushesForx0
import Derived.Test.YtffnfpnajkgnaaaPFnExactPushesForx10
import Derived.Test.YtffnfpnajkgnaaaTFnExactPushesFora
namespace Go.Proofs.Ytffnfpnajkgnaaa.PFnExactPushesFor
open Go.RowKit Go.Proofs.YtffnfpnajkgnaaaW.PrintWords Go.Proofs.YtffnfpnajkgnaaaW.PrintLast Go.Proofs.YtffnfpnajkgnaaaW.PrintMore Go.Proofs.YtffnfpnajkgnaaaX
attribute [local go_sem] max2_int min2_int max_two min_two max_three min_three max_four min_four   -- for this text's walks alone
set_option linter.unusedVariables false
set_option linter.unusedSimpArgs false

/-! ### slices_IndexFunc__impl_ValidMachine_1: function 235 -/
def slices_IndexFunc__impl_ValidMachine_1.l0 : Nat → List (S74) → Int → Int → List (S41) → Option (Int)
  | 0, _, _, _, _ => none
  | k + 1, x0, x7, x8, x2000 => if x8 < x7 then (if 0 ≤ x8 then (if x8 < (x0.length : Int) then ((impl_ValidMachine_1.f k ((rd_T74 x0 x8).f0) ((rd_T74 x0 x8).f1) x2000).bind fun t280 => (if t280 = true then (some x8) else (slices_IndexFunc__impl_ValidMachine_1.l0 k x0 x7 (wrap64 (x8 + 1)) x2000))) else (none)) else (none)) else (some (-1))
def slices_IndexFunc__impl_ValidMachine_1.f (k : Nat) (l0 : List (S74)) (l1_0 : List (S41)) : Option (Int) := slices_IndexFunc__impl_ValidMachine_1.l0 k l0 (l0.length : Int) 0 l1_0
theorem slices_IndexFunc__impl_ValidMachine_1.mono_l : ∀ k, (∀ y0 y1 y2 y3, LeO (slices_IndexFunc__impl_ValidMachine_1.l0 k y0 y1 y2 y3) (slices_IndexFunc__impl_ValidMachine_1.l0 (k + 1) y0 y1 y2 y3))
  | 0 => fun _ _ _ _ r h => by simp [slices_IndexFunc__impl_ValidMachine_1.l0] at h
  | k + 1 => by
    have ih0 := slices_IndexFunc__impl_ValidMachine_1.mono_l k
    · intro y0 y1 y2 y3
      unfold slices_IndexFunc__impl_ValidMachine_1.l0
      repeat' first | (with_reducible first | apply ih0 | apply impl_ValidMachine_1.mono | exact LeO.refl _ | exact LeO.none _ | refine LeO.ite ?_ ?_ | refine LeO.bind ?_ (fun _ => ?_)) | apply ih0 | apply impl_ValidMachine_1.mono | exact LeO.none _ | refine LeO.ite ?_ ?_ | refine LeO.bind ?_ (fun _ => ?_)
theorem slices_IndexFunc__impl_ValidMachine_1.mono : ∀ a0 a1 k, LeO (slices_IndexFunc__impl_ValidMachine_1.f k a0 a1) (slices_IndexFunc__impl_ValidMachine_1.f (k + 1) a0 a1) := by
 intro a0 a1 k
 have ih0 := slices_IndexFunc__impl_ValidMachine_1.mono_l k
 unfold slices_IndexFunc__impl_ValidMachine_1.f
 repeat' first | (with_reducible first | apply ih0 | apply impl_ValidMachine_1.mono | exact LeO.refl _ | exact LeO.none _ | refine LeO.ite ?_ ?_ | refine LeO.bind ?_ (fun _ => ?_)) | apply ih0 | apply impl_ValidMachine_1.mono | exact LeO.none _ | refine LeO.ite ?_ ?_ | refine LeO.bind ?_ (fun _ => ?_)
set_option maxHeartbeats 8000000 in
set_option maxRecDepth 100000 in
theorem slices_IndexFunc__impl_ValidMachine_1.calls (k : Nat) (A0 : Option Addr) (c0 : Nat) (l0 : List (S74)) (adp1_0 : Addr) (l1_0 : List (S41)) (r : Int) (w : World) (hr0 : Kd.C k74 w A0 l0.length l0) (hc0 : l0.length ≤ c0) (hr1_0 : Kd.C k41 w (some adp1_0) l1_0.length l1_0) (h : slices_IndexFunc__impl_ValidMachine_1.f k l0 l1_0 = some r) :
    Calls Try.prog 181 #[.slice A0 l0.length c0, .func (.func 149) #[] #[.pointer (some adp1_0)]] w fun e w' => e = .returned (.int .i64 r) ∧ Below w.heap.size w w' := by
 have hu74 := Try.underlying74
 have HR0 := Aside0.mk hr0
 have HC0 := Aside0.mk hc0
 clear hr0 hc0
 have HR1_0 := Aside0.mk hr1_0
 clear hr1_0
 have HB := Aside0.mk (Below.refl w.heap.size w)
 have H : (slices_IndexFunc__impl_ValidMachine_1.l0 k l0 (l0.length : Int) 0 l1_0) = some r := h
 clear h
 have H' := Aside0.mk H
 clear H
 go_enter Try.func181, Try.ntmps181
 go_wp2
 go_loopg [8] k (fun kq v8 w' => ∃ (x8_1 : Int), v8 = .int .i64 x8_1 ∧ Aside0 (slices_IndexFunc__impl_ValidMachine_1.l0 kq l0 (l0.length : Int) x8_1 l1_0 = some r) ∧ Aside0 (kq ≤ k) ∧ Aside0 (Below w.heap.size w w'))
 case atStart => exact ⟨(0), (by first | rfl | (simp; done) | (simp [*]; done) | (exact congrArg (Value.int .i64) (wrap_eq (by omega)))), H', ⟨Nat.le_refl _⟩, zl HB⟩
 clear H'
 try clear c2
 try clear p2
 obtain ⟨x8_1, rfl, HA, HK1, HB⟩ := hrel
 cases gk with
 | zero => exact absurd HA.out (by simp [slices_IndexFunc__impl_ValidMachine_1.l0])
 | succ k1 => ?_
 have H := HA.out
 clear HA
 simp only [slices_IndexFunc__impl_ValidMachine_1.l0] at H
 by_cases c3 : x8_1 < (l0.length : Int)
 rotate_left
 ·rw [if_neg c3] at H
  have c3b0 : decide (x8_1 < (l0.length : Int)) = false := decide_eq_false c3
  clear c3
  obtain rfl := Option.some.inj H
  go_wp2
  go_ret
  exact ⟨by first | rfl | (simp [errW_none, errW_some] <;> rfl) | (simp [*, errW_none, errW_some] <;> rfl), by repeat (first | (with_reducible first | exact HB.out | apply below_alloc | apply pw_below_drewN | apply below_drew1) | exact HB.out)⟩
 rw [if_pos c3] at H
 have c3b0 : decide (x8_1 < (l0.length : Int)) = true := decide_eq_true c3
 clear c3
 by_cases c4 : 0 ≤ x8_1
 rotate_left
 ·rw [if_neg c4] at H
  exact absurd H (by simp)
 rw [if_pos c4] at H
 have c4b0 : decide (0 ≤ x8_1) = true := decide_eq_true c4
 clear c4
 by_cases c5 : x8_1 < (l0.length : Int)
 rotate_left
 ·rw [if_neg c5] at H
  exact absurd H (by simp)
 rw [if_pos c5] at H
 have c5b0 : decide (x8_1 < (l0.length : Int)) = true := decide_eq_true c5
 clear c5
 replace H := Option.bind_eq_some_iff.mp H
 obtain ⟨t280, A60, H⟩ := H
 replace H : (if t280 = true then (some x8_1) else (slices_IndexFunc__impl_ValidMachine_1.l0 k1 l0 (l0.length : Int) (wrap64 (x8_1 + 1)) l1_0)) = some r := H
 have A6 := Aside0.mk A60
 clear A60
 by_cases c7 : t280 = true
 ·subst c7
  have H1 : (some x8_1) = some r := by rw [if_pos rfl] at H; exact H
  clear H
  have H := H1
  clear H1
  obtain rfl := Option.some.inj H
  have p279 : 0 ≤ (x8_1 : Int) := of_decide_eq_true (by first | (with_reducible assumption) | assumption)
  have q279 : x8_1 < (l0.length : Int) := of_decide_eq_true (by first | (with_reducible assumption) | assumption)
  obtain ⟨ad279, e279, hx279_0, hx279_1⟩ := at_T74 HR0.out x8_1 p279 q279
  cases e279
  replace hx279_0 := zc HB hx279_0
  replace hx279_1 := zc HB hx279_1
  replace p279 := eq_true p279
  replace q279 := eq_true q279
  go_wp2_with (first | (go_at_call 149; (with_reducible refine (impl_ValidMachine_1.calls k1 ((rd_T74 l0 x8_1).f0) ((rd_T74 l0 x8_1).f1) _ l1_0 true _ ?side1 A6.out).mono ?_); (case side1 => exact zcc HB HR1_0.out); rintro e w8 ⟨rfl, hb⟩; have n0_ := zb HB hb; clear HB; have HB := n0_; clear n0_; (try clear hb); (try clear hb2); (try clear hk); (try clear hi)))
  go_ret
  exact ⟨by first | rfl | (simp [errW_none, errW_some] <;> rfl) | (simp [*, errW_none, errW_some] <;> rfl), by repeat (first | (with_reducible first | exact HB.out | apply below_alloc | apply pw_below_drewN | apply below_drew1) | exact HB.out)⟩
 replace c7 := Bool.eq_false_iff.mpr c7
 subst c7
 have H1 : (slices_IndexFunc__impl_ValidMachine_1.l0 k1 l0 (l0.length : Int) (wrap64 (x8_1 + 1)) l1_0) = some r := by rw [if_neg (show ¬ (false = true) by decide)] at H; exact H
 clear H
 have H := H1
 clear H1
 have H' := Aside0.mk H
 clear H
 have p279 : 0 ≤ (x8_1 : Int) := of_decide_eq_true (by first | (with_reducible assumption) | assumption)
 have q279 : x8_1 < (l0.length : Int) := of_decide_eq_true (by first | (with_reducible assumption) | assumption)
 obtain ⟨ad279, e279, hx279_0, hx279_1⟩ := at_T74 HR0.out x8_1 p279 q279
 cases e279
 replace hx279_0 := zc HB hx279_0
 replace hx279_1 := zc HB hx279_1
 replace p279 := eq_true p279
 replace q279 := eq_true q279
 go_wp2_with (first | (go_at_call 149; (with_reducible refine (impl_ValidMachine_1.calls k1 ((rd_T74 l0 x8_1).f0) ((rd_T74 l0 x8_1).f1) _ l1_0 false _ ?side1 A6.out).mono ?_); (case side1 => exact zcc HB HR1_0.out); rintro e w9 ⟨rfl, hb⟩; have n0_ := zb HB hb; clear HB; have HB := n0_; clear n0_; (try clear hb); (try clear hb2); (try clear hk); (try clear hi)))
 go_roundg k1
 case measure => have := HK1.out; omega
 case rel => exact ⟨(wrap64 (x8_1 + 1)), (by first | rfl | (simp; done) | (simp [*]; done) | (exact congrArg (Value.int .i64) (wrap_eq (by omega)))), H', ⟨by have := HK1.out; omega⟩, zl HB⟩
/-! ### slices_ContainsFunc__impl_ValidMachine_1: function 234 -/
def slices_ContainsFunc__impl_ValidMachine_1.f (k : Nat) (l0 : List (S74)) (l1_0 : List (S41)) : Option (Bool) := (slices_IndexFunc__impl_ValidMachine_1.f k l0 l1_0).bind fun t281 => (some (decide (t281 ≥ 0)))
theorem slices_ContainsFunc__impl_ValidMachine_1.mono : ∀ a0 a1 k, LeO (slices_ContainsFunc__impl_ValidMachine_1.f k a0 a1) (slices_ContainsFunc__impl_ValidMachine_1.f (k + 1) a0 a1) := by
 intro a0 a1 k
 unfold slices_ContainsFunc__impl_ValidMachine_1.f
 repeat' first | (with_reducible first | apply slices_IndexFunc__impl_ValidMachine_1.mono | exact LeO.refl _ | exact LeO.none _ | refine LeO.ite ?_ ?_ | refine LeO.bind ?_ (fun _ => ?_)) | apply slices_IndexFunc__impl_ValidMachine_1.mono | exact LeO.none _ | refine LeO.ite ?_ ?_ | refine LeO.bind ?_ (fun _ => ?_)
set_option maxHeartbeats 8000000 in
set_option maxRecDepth 100000 in
theorem slices_ContainsFunc__impl_ValidMachine_1.calls (k : Nat) (A0 : Option Addr) (c0 : Nat) (l0 : List (S74)) (adp1_0 : Addr) (l1_0 : List (S41)) (r : Bool) (w : World) (hr0 : Kd.C k74 w A0 l0.length l0) (hc0 : l0.length ≤ c0) (hr1_0 : Kd.C k41 w (some adp1_0) l1_0.length l1_0) (h : slices_ContainsFunc__impl_ValidMachine_1.f k l0 l1_0 = some r) :
    Calls Try.prog 148 #[.slice A0 l0.length c0, .func (.func 149) #[] #[.pointer (some adp1_0)]] w fun e w' => e = .returned (.bool r) ∧ Below w.heap.size w w' := by
 have HR0 := Aside0.mk hr0
 have HC0 := Aside0.mk hc0
 clear hr0 hc0
 have HR1_0 := Aside0.mk hr1_0
 clear hr1_0
 have HB := Aside0.mk (Below.refl w.heap.size w)
 have H : ((slices_IndexFunc__impl_ValidMachine_1.f k l0 l1_0).bind fun t281 => (some (decide (t281 ≥ 0)))) = some r := h
 clear h
 replace H := Option.bind_eq_some_iff.mp H
 obtain ⟨t281, A30, H⟩ := H
 replace H : (some (decide (t281 ≥ 0))) = some r := H
 have A3 := Aside0.mk A30
 clear A30
 obtain rfl := Option.some.inj H
 go_enter Try.func148, Try.ntmps148
 go_wp2_with (first | ((with_reducible refine gate_callee (f := 181) rfl ?_); refine goesL_ (some 7) rfl rfl Try.func181 (by kernel_rfl) rfl #[.slice A0 l0.length c0, .func (.func 149) #[] #[.pointer (some adp1_0)]] rfl (by (try simp only [List.map_toArray, List.map_cons, List.map_nil]); first | done | rfl | (simp only [List.length_drop, List.length_take]; rfl)) ?_; (with_reducible refine (slices_IndexFunc__impl_ValidMachine_1.calls k _ _ l0 _ l1_0 t281 _ ?side1 ?side2 ?side3 A3.out).mono ?_); (case side1 => repeat (first | exact HR0.out | (with_reducible refine Kd.C_alloc ?_ _) | (with_reducible refine Kd.C_drewN ?_ _) | (with_reducible refine Kd.C_drew ?_))); (case side2 => exact HC0.out); (case side3 => repeat (first | exact HR1_0.out | (with_reducible refine Kd.C_alloc ?_ _) | (with_reducible refine Kd.C_drewN ?_ _) | (with_reducible refine Kd.C_drew ?_))); rintro e w4 ⟨rfl, hb⟩; refine ⟨_, rfl, ?_⟩; have n0_ := zb HB hb; clear HB; have HB := n0_; clear n0_; (try clear hb); (try clear hb2); (try clear hk); (try clear hi)))
 go_ret
 exact ⟨by first | rfl | (simp [errW_none, errW_some] <;> rfl) | (simp [*, errW_none, errW_some] <;> rfl), by repeat (first | (with_reducible first | exact HB.out | apply below_alloc | apply pw_below_drewN | apply below_drew1) | exact HB.out)⟩
end Go.Proofs.Ytffnfpnajkgnaaa.PFnExactPushesFor
