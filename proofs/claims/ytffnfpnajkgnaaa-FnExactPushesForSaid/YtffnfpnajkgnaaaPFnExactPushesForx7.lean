-- WRITTEN by xprint.py, a program of this session's. Not trusted: Lean checks it.
-- packed by pack.py
import Derived.Test.YtffnfpnajkgnaaaPFnExactPushesForx0
import Derived.Test.YtffnfpnajkgnaaaPFnExactPushesForx3
import Derived.Test.YtffnfpnajkgnaaaPFnExactPushesForx6
import Derived.Test.YtffnfpnajkgnaaaTFnExactPushesFora
namespace Go.Proofs.Ytffnfpnajkgnaaa.PFnExactPushesFor
open Go.RowKit Go.Proofs.YtffnfpnajkgnaaaW.PrintWords Go.Proofs.YtffnfpnajkgnaaaW.PrintLast Go.Proofs.YtffnfpnajkgnaaaW.PrintMore Go.Proofs.YtffnfpnajkgnaaaX
attribute [local go_sem] max2_int min2_int max_two min_two max_three min_three max_four min_four   -- for this text's walks alone
set_option linter.unusedVariables false
set_option linter.unusedSimpArgs false

/-! ### spec_l04Rows: function 188 -/
def spec_l04Rows.f (a0 : Int) : Option (Int) := if 0 ≤ (IntKind.u64.wrap (a0)) then (some (shl .i64 1 (IntKind.u64.wrap (a0)))) else (none)
set_option maxHeartbeats 8000000 in
set_option maxRecDepth 100000 in
theorem spec_l04Rows.calls (a0 : Int) (r : Int) (w : World) (h : spec_l04Rows.f a0 = some r) :
    Calls Try.prog 188 #[.int .i64 a0] w fun e w' => e = .returned (.int .i64 r) ∧ Drawn0 w w' := by
 have H : (if 0 ≤ (IntKind.u64.wrap (a0)) then (some (shl .i64 1 (IntKind.u64.wrap (a0)))) else (none)) = some r := h
 clear h
 obtain ⟨ji2, hji2⟩ : ∃ j_ : Int, (IntKind.u64.wrap (a0)) = j_ := ⟨_, rfl⟩
 replace H : (if 0 ≤ (ji2) then (some (shl .i64 1 (ji2))) else (none)) = some r := by first | (rw [hji2] at H; exact H) | (simp only [hji2] at H ⊢; exact H)
 by_cases c3 : 0 ≤ (ji2)
 rotate_left
 ·rw [if_neg c3] at H
  exact absurd H (by simp)
 rw [if_pos c3] at H
 have c3b0 := eq_true c3
 have c3b1 : decide (0 ≤ (ji2)) = true := decide_eq_true c3
 clear c3
 obtain ⟨ji4, hji4⟩ : ∃ j_ : Int, (shl .i64 1 (ji2)) = j_ := ⟨_, rfl⟩
 replace H : (some ji4) = some r := by first | (rw [hji4] at H; exact H) | (simp only [hji4] at H ⊢; exact H)
 have hji4_ : (IntKind.i64.wrap (1 * 2 ^ min (ji2).toNat 64)) = ji4 := hji4
 have hji4z : (ji2) ≤ 64 → (IntKind.i64.wrap (1 * 2 ^ (ji2).toNat)) = ji4 := shl_small hji4
 have hji4u : (IntKind.i64.wrap (2 ^ min (ji2).toNat 64)) = ji4 := by have h_ := hji4_; rw [Int.one_mul] at h_; exact h_
 have hji4v : (ji2) ≤ 64 → (IntKind.i64.wrap (2 ^ (ji2).toNat)) = ji4 := fun hle_ => by have h_ := hji4z hle_; rw [Int.one_mul] at h_; exact h_
 have hji4y : (wrap64 (1 * 2 ^ min (ji2).toNat 64)) = ji4 := (i64_w _).symm.trans hji4_
 have hji4x : (ji2) ≤ 64 → (wrap64 (1 * 2 ^ (ji2).toNat)) = ji4 := fun h_ => (i64_w _).symm.trans (hji4z h_)
 obtain rfl := Option.some.inj H
 go_enter Try.func188, Try.ntmps188
 go_wp2
 go_ret
 exact ⟨by first | rfl | (simp; done) | (simp only [← hji2, ← hji4] <;> (first | rfl | simp)) | (simp [*]; done) | (exact congrArg (Value.int .i64) (wrap_eq (by omega))), by repeat (first | exact Drawn0.refl _ | apply Drawn0.step)⟩
/-! ### spec_l03Rows: function 154 -/
def spec_l03Rows.f (l0 : List (S41)) : Option (Int) := if 0 < (l0.length : Int) then ((spec_l04Rows.f (((rd_T41 l0 0).f1).length : Int)).bind fun t163 => (some t163)) else (none)
set_option maxHeartbeats 8000000 in
set_option maxRecDepth 100000 in
theorem spec_l03Rows.calls (adp0 : Addr) (l0 : List (S41)) (r : Int) (w : World) (hr0 : Kd.C k41 w (some adp0) l0.length l0) (h : spec_l03Rows.f l0 = some r) :
    Calls Try.prog 154 #[.pointer (some adp0)] w fun e w' => e = .returned (.int .i64 r) ∧ Drawn0 w w' := by
 have HR0 := Aside0.mk hr0
 clear hr0
 have H : (if 0 < (l0.length : Int) then ((spec_l04Rows.f (((rd_T41 l0 0).f1).length : Int)).bind fun t163 => (some t163)) else (none)) = some r := h
 clear h
 by_cases c2 : 0 < (l0.length : Int)
 rotate_left
 ·rw [if_neg c2] at H
  exact absurd H (by simp)
 rw [if_pos c2] at H
 have c2b0 : decide (0 < (l0.length : Int)) = true := decide_eq_true c2
 have c2b1 : decide (0 < l0.length) = true := decide_eq_true (by omega)
 clear c2
 replace H := Option.bind_eq_some_iff.mp H
 obtain ⟨t163, A30, H⟩ := H
 replace H : (some t163) = some r := H
 have A3 := Aside0.mk A30
 clear A30
 obtain rfl := Option.some.inj H
 have p162 : 0 ≤ (0 : Int) := (by omega)
 have q162 : 0 < (l0.length : Int) := of_decide_eq_true (by first | (with_reducible assumption) | assumption)
 obtain ⟨ad162, A162_2, c162_2, A162_3, c162_3, A162_4, c162_4, e162, hx162_0, hx162_1, hx162_2, hx162_3, hx162_4, hl162_2, hi162_2, hl162_3, hi162_3, hl162_4, hi162_4⟩ := at_T41 HR0.out 0 p162 q162
 obtain rfl : adp0 = ad162 := (by injection e162)
 have qi162 : (0 < l0.length) = True := eq_true (by omega)
 (try rw [show ((0 : Int)).toNat = 0 from rfl] at hx162_0)
 (try rw [show 0 * 5 = 0 from rfl] at hx162_0)
 (try rw [Addr.add_zero'] at hx162_0)
 (try rw [show ((0 : Int)).toNat = 0 from rfl] at hx162_1)
 (try rw [show 0 * 5 = 0 from rfl] at hx162_1)
 (try rw [Addr.add_zero'] at hx162_1)
 (try rw [show ((0 : Int)).toNat = 0 from rfl] at hx162_2)
 (try rw [show 0 * 5 = 0 from rfl] at hx162_2)
 (try rw [Addr.add_zero'] at hx162_2)
 (try rw [show ((0 : Int)).toNat = 0 from rfl] at hx162_3)
 (try rw [show 0 * 5 = 0 from rfl] at hx162_3)
 (try rw [Addr.add_zero'] at hx162_3)
 (try rw [show ((0 : Int)).toNat = 0 from rfl] at hx162_4)
 (try rw [show 0 * 5 = 0 from rfl] at hx162_4)
 (try rw [Addr.add_zero'] at hx162_4)
 have HR162_2 := Aside0.mk hi162_2
 have HC162_2 := Aside0.mk hl162_2
 clear hi162_2 hl162_2
 have HR162_3 := Aside0.mk hi162_3
 have HC162_3 := Aside0.mk hl162_3
 clear hi162_3 hl162_3
 have HR162_4 := Aside0.mk hi162_4
 have HC162_4 := Aside0.mk hl162_4
 clear hi162_4 hl162_4
 replace p162 := eq_true p162
 replace q162 := eq_true q162
 go_enter Try.func154, Try.ntmps154
 go_wp2_with (first | ((with_reducible refine gate_callee (f := 188) rfl ?_); refine goesL_ (some 8) rfl rfl Try.func188 (by kernel_rfl) rfl #[.int .i64 (((rd_T41 l0 0).f1).length : Int)] rfl (by (try simp only [List.map_toArray, List.map_cons, List.map_nil]); first | done | rfl | (simp only [List.length_drop, List.length_take]; rfl)) ?_; (with_reducible refine (spec_l04Rows.calls (((rd_T41 l0 0).f1).length : Int) t163 _ A3.out).mono ?_); rintro e w' ⟨rfl, ⟨nd, rfl⟩⟩; refine ⟨_, rfl, ?_⟩))
 go_ret
 exact ⟨by first | rfl | (simp; done) | (simp [*]; done) | (exact congrArg (Value.int .i64) (wrap_eq (by omega))), by repeat (first | exact Drawn0.refl _ | apply Drawn0.step)⟩
/-! ### spec_l03Asked: function 85 -/
mutual
def spec_l03Asked.j0 : Nat → List Int → Bool → Option (Int)
  | 0, _, _ => none
  | k + 1, x2, x7 => spec_l03Asked.l0 k x2 x7 0
def spec_l03Asked.l0 : Nat → List Int → Bool → Int → Option (Int)
  | 0, _, _, _ => none
  | k + 1, x2, x7, x8 => if x8 < (x2.length : Int) then (if x7 = true then (if 0 ≤ x8 then ((spec_l00In.f (rd x2 x8) 0 100).bind fun t169 => (spec_l03Asked.l0 k x2 t169 (wrap64 (x8 + 1)))) else (none)) else (some 2)) else (if x7 = true then (some 0) else (some 2))
end
def spec_l03Asked.f (k : Nat) (l0 : List (S41)) (a1 : Int) (l2 : List Int) : Option (Int) := (spec_l03Ok.f k l0).bind fun t164 => (if t164 = true then ((spec_l03Rows.f l0).bind fun t165 => ((spec_l00In.f a1 0 (wrap64 (t165 - 1))).bind fun t166 => (if t166 = true then (if 0 < (l0.length : Int) then (spec_l03Asked.j0 k l2 ((l2.length : Int) == (((rd_T41 l0 0).f1).length : Int))) else (none)) else (spec_l03Asked.j0 k l2 false)))) else (some 1))
theorem spec_l03Asked.mono_l : ∀ k, (∀ y0 y1, LeO (spec_l03Asked.j0 k y0 y1) (spec_l03Asked.j0 (k + 1) y0 y1)) ∧ (∀ y0 y1 y2, LeO (spec_l03Asked.l0 k y0 y1 y2) (spec_l03Asked.l0 (k + 1) y0 y1 y2))
  | 0 => ⟨fun _ _ r h => by simp [spec_l03Asked.j0] at h, fun _ _ _ r h => by simp [spec_l03Asked.l0] at h⟩
  | k + 1 => by
    obtain ⟨ih0, ih1⟩ := spec_l03Asked.mono_l k
    refine ⟨?_, ?_⟩
    · intro y0 y1
      unfold spec_l03Asked.j0
      repeat' first | (with_reducible first | apply ih0 | apply ih1 | apply spec_l03Ok.mono | exact LeO.refl _ | exact LeO.none _ | refine LeO.ite ?_ ?_ | refine LeO.bind ?_ (fun _ => ?_)) | apply ih0 | apply ih1 | apply spec_l03Ok.mono | exact LeO.none _ | refine LeO.ite ?_ ?_ | refine LeO.bind ?_ (fun _ => ?_)
    · intro y0 y1 y2
      unfold spec_l03Asked.l0
      repeat' first | (with_reducible first | apply ih0 | apply ih1 | apply spec_l03Ok.mono | exact LeO.refl _ | exact LeO.none _ | refine LeO.ite ?_ ?_ | refine LeO.bind ?_ (fun _ => ?_)) | apply ih0 | apply ih1 | apply spec_l03Ok.mono | exact LeO.none _ | refine LeO.ite ?_ ?_ | refine LeO.bind ?_ (fun _ => ?_)
theorem spec_l03Asked.mono : ∀ a0 a1 a2 k, LeO (spec_l03Asked.f k a0 a1 a2) (spec_l03Asked.f (k + 1) a0 a1 a2) := by
 intro a0 a1 a2 k
 obtain ⟨ih0, ih1⟩ := spec_l03Asked.mono_l k
 unfold spec_l03Asked.f
 repeat' first | (with_reducible first | apply ih0 | apply ih1 | apply spec_l03Ok.mono | exact LeO.refl _ | exact LeO.none _ | refine LeO.ite ?_ ?_ | refine LeO.bind ?_ (fun _ => ?_)) | apply ih0 | apply ih1 | apply spec_l03Ok.mono | exact LeO.none _ | refine LeO.ite ?_ ?_ | refine LeO.bind ?_ (fun _ => ?_)
set_option maxHeartbeats 8000000 in
set_option maxRecDepth 100000 in
theorem spec_l03Asked.calls (k : Nat) (adp0 : Addr) (l0 : List (S41)) (a1 : Int) (A2 : Option Addr) (c2 : Nat) (l2 : List Int) (r : Int) (w : World) (hr0 : Kd.C k41 w (some adp0) l0.length l0) (hr2 : Kd.C (Kd.int .i64) w A2 l2.length l2) (hc2 : l2.length ≤ c2) (h : spec_l03Asked.f k l0 a1 l2 = some r) :
    Calls Try.prog 85 #[.pointer (some adp0), .int .i64 a1, .slice A2 l2.length c2] w fun e w' => e = .returned (.int .i64 r) ∧ Below w.heap.size w w' := by
 have HR0 := Aside0.mk hr0
 clear hr0
 have HR2 := Aside0.mk hr2
 have HC2 := Aside0.mk hc2
 clear hr2 hc2
 have HB := Aside0.mk (Below.refl w.heap.size w)
 have H : ((spec_l03Ok.f k l0).bind fun t164 => (if t164 = true then ((spec_l03Rows.f l0).bind fun t165 => ((spec_l00In.f a1 0 (wrap64 (t165 - 1))).bind fun t166 => (if t166 = true then (if 0 < (l0.length : Int) then (spec_l03Asked.j0 k l2 ((l2.length : Int) == (((rd_T41 l0 0).f1).length : Int))) else (none)) else (spec_l03Asked.j0 k l2 false)))) else (some 1))) = some r := h
 clear h
 replace H := Option.bind_eq_some_iff.mp H
 obtain ⟨t164, A40, H⟩ := H
 replace H : (if t164 = true then ((spec_l03Rows.f l0).bind fun t165 => ((spec_l00In.f a1 0 (wrap64 (t165 - 1))).bind fun t166 => (if t166 = true then (if 0 < (l0.length : Int) then (spec_l03Asked.j0 k l2 ((l2.length : Int) == (((rd_T41 l0 0).f1).length : Int))) else (none)) else (spec_l03Asked.j0 k l2 false)))) else (some 1)) = some r := H
 have A4 := Aside0.mk A40
 clear A40
 by_cases c5 : t164 = true
 rotate_left
 ·replace c5 := Bool.eq_false_iff.mpr c5
  subst c5
  have H1 : (some 1) = some r := by rw [if_neg (show ¬ (false = true) by decide)] at H; exact H
  clear H
  have H := H1
  clear H1
  obtain rfl := Option.some.inj H
  go_enter Try.func85, Try.ntmps85
  go_wp2_with (first | ((with_reducible refine gate_callee (f := 99) rfl ?_); refine goesL_ (some 10) rfl rfl Try.func99 (by kernel_rfl) rfl #[.pointer (some adp0)] rfl (by (try simp only [List.map_toArray, List.map_cons, List.map_nil]); first | done | rfl | (simp only [List.length_drop, List.length_take]; rfl)) ?_; (with_reducible refine (spec_l03Ok.calls k _ l0 false _ ?side1 A4.out).mono ?_); (case side1 => repeat (first | exact HR0.out | (with_reducible refine Kd.C_alloc ?_ _) | (with_reducible refine Kd.C_drewN ?_ _) | (with_reducible refine Kd.C_drew ?_))); rintro e w17 ⟨rfl, hb⟩; refine ⟨_, rfl, ?_⟩; have n0_ := zb HB hb; clear HB; have HB := n0_; clear n0_; (try clear hb); (try clear hb2); (try clear hk); (try clear hi)))
  go_ret
  exact ⟨by first | rfl | (simp [errW_none, errW_some] <;> rfl) | (simp [*, errW_none, errW_some] <;> rfl), by repeat (first | (with_reducible first | exact HB.out | apply below_alloc | apply pw_below_drewN | apply below_drew1) | exact HB.out)⟩
 subst c5
 have H1 : ((spec_l03Rows.f l0).bind fun t165 => ((spec_l00In.f a1 0 (wrap64 (t165 - 1))).bind fun t166 => (if t166 = true then (if 0 < (l0.length : Int) then (spec_l03Asked.j0 k l2 ((l2.length : Int) == (((rd_T41 l0 0).f1).length : Int))) else (none)) else (spec_l03Asked.j0 k l2 false)))) = some r := by rw [if_pos rfl] at H; exact H
 clear H
 have H := H1
 clear H1
 have HC6 := Aside0.mk H
 clear H
 go_enter Try.func85, Try.ntmps85
 go_upto_region 3 with (first | ((with_reducible refine gate_callee (f := 99) rfl ?_); refine goesL_ (some 10) rfl rfl Try.func99 (by kernel_rfl) rfl #[.pointer (some adp0)] rfl (by (try simp only [List.map_toArray, List.map_cons, List.map_nil]); first | done | rfl | (simp only [List.length_drop, List.length_take]; rfl)) ?_; (with_reducible refine (spec_l03Ok.calls k _ l0 true _ ?side1 A4.out).mono ?_); (case side1 => repeat (first | exact HR0.out | (with_reducible refine Kd.C_alloc ?_ _) | (with_reducible refine Kd.C_drewN ?_ _) | (with_reducible refine Kd.C_drew ?_))); rintro e w7 ⟨rfl, hb⟩; refine ⟨_, rfl, ?_⟩; have n0_ := zb HB hb; clear HB; have HB := n0_; clear n0_; (try clear hb); (try clear hb2); (try clear hk); (try clear hi)))
 (try simp only [Act.put, List.setIfInBounds_toArray, List.set_cons_zero, List.set_cons_succ])
 go_cut [7] (fun v7 wc => ∃ (kq : Nat) (x7_5 : Bool), v7 = .bool x7_5 ∧ Aside0 (spec_l03Asked.j0 kq l2 x7_5 = some r) ∧ Aside0 (kq ≤ k) ∧ Aside0 (Below w.heap.size w wc))
 case first =>
  have H := HC6.out
  clear HC6
  replace H := Option.bind_eq_some_iff.mp H
  obtain ⟨t165, A80, H⟩ := H
  replace H : ((spec_l00In.f a1 0 (wrap64 (t165 - 1))).bind fun t166 => (if t166 = true then (if 0 < (l0.length : Int) then (spec_l03Asked.j0 k l2 ((l2.length : Int) == (((rd_T41 l0 0).f1).length : Int))) else (none)) else (spec_l03Asked.j0 k l2 false))) = some r := H
  have A8 := Aside0.mk A80
  clear A80
  replace H := Option.bind_eq_some_iff.mp H
  obtain ⟨t166, A90, H⟩ := H
  replace H : (if t166 = true then (if 0 < (l0.length : Int) then (spec_l03Asked.j0 k l2 ((l2.length : Int) == (((rd_T41 l0 0).f1).length : Int))) else (none)) else (spec_l03Asked.j0 k l2 false)) = some r := H
  have A9 := Aside0.mk A90
  clear A90
  by_cases c10 : t166 = true
  rotate_left
  ·replace c10 := Bool.eq_false_iff.mpr c10
   subst c10
   have H1 : (spec_l03Asked.j0 k l2 false) = some r := by rw [if_neg (show ¬ (false = true) by decide)] at H; exact H
   clear H
   have H := H1
   clear H1
   have H' := Aside0.mk H
   clear H
   go_wp2_with (first | ((with_reducible refine gate_callee (f := 154) rfl ?_); refine goesL_ (some 14) rfl rfl Try.func154 (by kernel_rfl) rfl #[.pointer (some adp0)] rfl (by (try simp only [List.map_toArray, List.map_cons, List.map_nil]); first | done | rfl | (simp only [List.length_drop, List.length_take]; rfl)) ?_; (with_reducible refine (spec_l03Rows.calls _ l0 t165 _ ?side1 A8.out).mono ?_); (case side1 => exact zcc HB HR0.out); rintro e w' ⟨rfl, ⟨nd, rfl⟩⟩; refine ⟨_, rfl, ?_⟩) | ((with_reducible refine gate_callee (f := 96) rfl ?_); refine goesL_ (some 16) rfl rfl Try.func96 (by kernel_rfl) rfl #[.int .i64 a1, .int .i64 0, .int .i64 (wrap64 (t165 - 1))] rfl (by (try simp only [List.map_toArray, List.map_cons, List.map_nil]); first | done | rfl | (simp only [List.length_drop, List.length_take]; rfl)) ?_; (with_reducible refine (spec_l00In.calls a1 0 (wrap64 (t165 - 1)) false _ A9.out).mono ?_); rintro e w' ⟨rfl, ⟨nd, rfl⟩⟩; refine ⟨_, rfl, ?_⟩))
   go_meet
   case rel => exact ⟨_, (false), (by first | rfl | (simp; done) | (simp [*]; done) | (exact congrArg (Value.int .i64) (wrap_eq (by omega)))), H', ⟨by first | omega | exact Nat.le_refl _⟩, zl HB⟩
  subst c10
  have H1 : (if 0 < (l0.length : Int) then (spec_l03Asked.j0 k l2 ((l2.length : Int) == (((rd_T41 l0 0).f1).length : Int))) else (none)) = some r := by rw [if_pos rfl] at H; exact H
  clear H
  have H := H1
  clear H1
  by_cases c11 : 0 < (l0.length : Int)
  rotate_left
  ·rw [if_neg c11] at H
   exact absurd H (by simp)
  rw [if_pos c11] at H
  have c11b0 : decide (0 < (l0.length : Int)) = true := decide_eq_true c11
  have c11b1 : decide (0 < l0.length) = true := decide_eq_true (by omega)
  clear c11
  (first | rw [c11b0] | (simp only [i64_w, i32_w]; rw [c11b0]) | (have h_ := c11b0; simp only [bne] at h_; rw [h_]) | skip)
  have H' := Aside0.mk H
  clear H
  go_wp2_with (first | ((with_reducible refine gate_callee (f := 154) rfl ?_); refine goesL_ (some 14) rfl rfl Try.func154 (by kernel_rfl) rfl #[.pointer (some adp0)] rfl (by (try simp only [List.map_toArray, List.map_cons, List.map_nil]); first | done | rfl | (simp only [List.length_drop, List.length_take]; rfl)) ?_; (with_reducible refine (spec_l03Rows.calls _ l0 t165 _ ?side1 A8.out).mono ?_); (case side1 => exact zcc HB HR0.out); rintro e w' ⟨rfl, ⟨nd, rfl⟩⟩; refine ⟨_, rfl, ?_⟩) | ((with_reducible refine gate_callee (f := 96) rfl ?_); refine goesL_ (some 16) rfl rfl Try.func96 (by kernel_rfl) rfl #[.int .i64 a1, .int .i64 0, .int .i64 (wrap64 (t165 - 1))] rfl (by (try simp only [List.map_toArray, List.map_cons, List.map_nil]); first | done | rfl | (simp only [List.length_drop, List.length_take]; rfl)) ?_; (with_reducible refine (spec_l00In.calls a1 0 (wrap64 (t165 - 1)) true _ A9.out).mono ?_); rintro e w' ⟨rfl, ⟨nd, rfl⟩⟩; refine ⟨_, rfl, ?_⟩; have p167 : 0 ≤ (0 : Int) := (by omega); have q167 : 0 < (l0.length : Int) := of_decide_eq_true (by first | (with_reducible assumption) | assumption); obtain ⟨ad167, A167_2, c167_2, A167_3, c167_3, A167_4, c167_4, e167, hx167_0, hx167_1, hx167_2, hx167_3, hx167_4, hl167_2, hi167_2, hl167_3, hi167_3, hl167_4, hi167_4⟩ := at_T41 HR0.out 0 p167 q167; obtain rfl : adp0 = ad167 := (by injection e167); have qi167 : (0 < l0.length) = True := eq_true (by omega); (try rw [show ((0 : Int)).toNat = 0 from rfl] at hx167_0); (try rw [show 0 * 5 = 0 from rfl] at hx167_0); (try rw [Addr.add_zero'] at hx167_0); (try rw [show ((0 : Int)).toNat = 0 from rfl] at hx167_1); (try rw [show 0 * 5 = 0 from rfl] at hx167_1); (try rw [Addr.add_zero'] at hx167_1); (try rw [show ((0 : Int)).toNat = 0 from rfl] at hx167_2); (try rw [show 0 * 5 = 0 from rfl] at hx167_2); (try rw [Addr.add_zero'] at hx167_2); (try rw [show ((0 : Int)).toNat = 0 from rfl] at hx167_3); (try rw [show 0 * 5 = 0 from rfl] at hx167_3); (try rw [Addr.add_zero'] at hx167_3); (try rw [show ((0 : Int)).toNat = 0 from rfl] at hx167_4); (try rw [show 0 * 5 = 0 from rfl] at hx167_4); (try rw [Addr.add_zero'] at hx167_4); replace hx167_0 := zc HB hx167_0; replace hx167_1 := zc HB hx167_1; replace hx167_2 := zc HB hx167_2; replace hx167_3 := zc HB hx167_3; replace hx167_4 := zc HB hx167_4; have HR167_2 := Aside0.mk hi167_2; have HC167_2 := Aside0.mk hl167_2; clear hi167_2 hl167_2; have HR167_3 := Aside0.mk hi167_3; have HC167_3 := Aside0.mk hl167_3; clear hi167_3 hl167_3; have HR167_4 := Aside0.mk hi167_4; have HC167_4 := Aside0.mk hl167_4; clear hi167_4 hl167_4; replace p167 := eq_true p167; replace q167 := eq_true q167))
  go_meet
  case rel => exact ⟨_, (((l2.length : Int) == (((rd_T41 l0 0).f1).length : Int))), (by first | rfl | (simp; done) | (simp [*]; done) | (exact congrArg (Value.int .i64) (wrap_eq (by omega)))), H', ⟨by first | omega | exact Nat.le_refl _⟩, zl HB⟩
 clear HC6
 try clear c1
 try clear p1
 try clear q1
 try clear hx1
 try clear qi1
 try clear c2
 try clear p2
 try clear c5
 try clear p6
 try clear c8
 try clear c9
 try clear c10
 try clear c11
 try clear c11b0
 try clear c11b1
 try clear hx167_0
 try clear hx167_1
 try clear hx167_2
 try clear hx167_3
 try clear hx167_4
 try clear p167
 try clear q167
 obtain ⟨kq, x7_5, rfl, HA, HJ5, HB⟩ := hcut
 cases kq with
 | zero => exact absurd HA.out (by simp [spec_l03Asked.j0])
 | succ kj5 => ?_
 have H := HA.out
 clear HA
 simp only [spec_l03Asked.j0] at H
 have H' := Aside0.mk H
 clear H
 go_wp2
 go_loopg [7, 8] kj5 (fun kq v7 v8 w' => ∃ (x7_2 : Bool) (x8_2 : Int), v7 = .bool x7_2 ∧ v8 = .int .i64 x8_2 ∧ Aside0 (spec_l03Asked.l0 kq l2 x7_2 x8_2 = some r) ∧ Aside0 (kq ≤ kj5) ∧ Aside0 (Below w.heap.size w w'))
 case atStart => exact ⟨(x7_5), (0), (by first | rfl | (simp; done) | (simp [*]; done) | (exact congrArg (Value.int .i64) (wrap_eq (by omega)))), (by first | rfl | (simp; done) | (simp [*]; done) | (exact congrArg (Value.int .i64) (wrap_eq (by omega)))), H', ⟨Nat.le_refl _⟩, zl HB⟩
 clear H'
 try clear c1
 try clear p1
 try clear q1
 try clear hx1
 try clear qi1
 try clear c2
 try clear p2
 try clear c5
 try clear p6
 try clear c8
 try clear c9
 try clear c10
 try clear c11
 try clear c11b0
 try clear c11b1
 try clear hx167_0
 try clear hx167_1
 try clear hx167_2
 try clear hx167_3
 try clear hx167_4
 try clear p1
 try clear p167
 try clear p2
 try clear p6
 try clear q1
 try clear q167
 obtain ⟨x7_2, x8_2, rfl, rfl, HA, HK2, HB⟩ := hrel
 cases gk with
 | zero => exact absurd HA.out (by simp [spec_l03Asked.l0])
 | succ k2 => ?_
 have H := HA.out
 clear HA
 simp only [spec_l03Asked.l0] at H
 by_cases c12 : x8_2 < (l2.length : Int)
 rotate_left
 ·rw [if_neg c12] at H
  have c12b0 : decide (x8_2 < (l2.length : Int)) = false := decide_eq_false c12
  clear c12
  by_cases c16 : x7_2 = true
  ·subst c16
   have H1 : (some 0) = some r := by rw [if_pos rfl] at H; exact H
   clear H
   have H := H1
   clear H1
   obtain rfl := Option.some.inj H
   go_wp2
   go_ret
   exact ⟨by first | rfl | (simp [errW_none, errW_some] <;> rfl) | (simp [*, errW_none, errW_some] <;> rfl), by repeat (first | (with_reducible first | exact HB.out | apply below_alloc | apply pw_below_drewN | apply below_drew1) | exact HB.out)⟩
  replace c16 := Bool.eq_false_iff.mpr c16
  subst c16
  have H1 : (some 2) = some r := by rw [if_neg (show ¬ (false = true) by decide)] at H; exact H
  clear H
  have H := H1
  clear H1
  obtain rfl := Option.some.inj H
  go_wp2
  go_ret
  exact ⟨by first | rfl | (simp [errW_none, errW_some] <;> rfl) | (simp [*, errW_none, errW_some] <;> rfl), by repeat (first | (with_reducible first | exact HB.out | apply below_alloc | apply pw_below_drewN | apply below_drew1) | exact HB.out)⟩
 rw [if_pos c12] at H
 have c12b0 : decide (x8_2 < (l2.length : Int)) = true := decide_eq_true c12
 clear c12
 by_cases c13 : x7_2 = true
 rotate_left
 ·replace c13 := Bool.eq_false_iff.mpr c13
  subst c13
  have H1 : (some 2) = some r := by rw [if_neg (show ¬ (false = true) by decide)] at H; exact H
  clear H
  have H := H1
  clear H1
  obtain rfl := Option.some.inj H
  go_wp2
  go_ret
  exact ⟨by first | rfl | (simp [errW_none, errW_some] <;> rfl) | (simp [*, errW_none, errW_some] <;> rfl), by repeat (first | (with_reducible first | exact HB.out | apply below_alloc | apply pw_below_drewN | apply below_drew1) | exact HB.out)⟩
 subst c13
 have H1 : (if 0 ≤ x8_2 then ((spec_l00In.f (rd l2 x8_2) 0 100).bind fun t169 => (spec_l03Asked.l0 k2 l2 t169 (wrap64 (x8_2 + 1)))) else (none)) = some r := by rw [if_pos rfl] at H; exact H
 clear H
 have H := H1
 clear H1
 by_cases c14 : 0 ≤ x8_2
 rotate_left
 ·rw [if_neg c14] at H
  exact absurd H (by simp)
 rw [if_pos c14] at H
 have c14b0 : decide (0 ≤ x8_2) = true := decide_eq_true c14
 clear c14
 replace H := Option.bind_eq_some_iff.mp H
 obtain ⟨t169, A150, H⟩ := H
 replace H : (spec_l03Asked.l0 k2 l2 t169 (wrap64 (x8_2 + 1))) = some r := H
 have A15 := Aside0.mk A150
 clear A150
 have H' := Aside0.mk H
 clear H
 have p168 : 0 ≤ (x8_2 : Int) := of_decide_eq_true (by first | (with_reducible assumption) | assumption)
 have q168 : x8_2 < (l2.length : Int) := of_decide_eq_true (by first | (with_reducible assumption) | assumption)
 obtain ⟨ad168, e168, hx168_0⟩ := Kd.at_int HR2.out x8_2 p168 q168
 cases e168
 replace hx168_0 := zc HB hx168_0
 replace p168 := eq_true p168
 replace q168 := eq_true q168
 go_wp2_with (first | ((with_reducible refine gate_callee (f := 96) rfl ?_); refine goesL_ (some 40) rfl rfl Try.func96 (by kernel_rfl) rfl #[.int .i64 (rd l2 x8_2), .int .i64 0, .int .i64 100] rfl (by (try simp only [List.map_toArray, List.map_cons, List.map_nil]); first | done | rfl | (simp only [List.length_drop, List.length_take]; rfl)) ?_; (with_reducible refine (spec_l00In.calls (rd l2 x8_2) 0 100 t169 _ A15.out).mono ?_); rintro e w' ⟨rfl, ⟨nd, rfl⟩⟩; refine ⟨_, rfl, ?_⟩))
 go_roundg k2
 case measure => have := HJ5.out; have := HK2.out; omega
 case rel => exact ⟨(t169), (wrap64 (x8_2 + 1)), (by first | rfl | (simp; done) | (simp [*]; done) | (exact congrArg (Value.int .i64) (wrap_eq (by omega)))), (by first | rfl | (simp; done) | (simp [*]; done) | (exact congrArg (Value.int .i64) (wrap_eq (by omega)))), H', ⟨by have := HJ5.out; have := HK2.out; omega⟩, zl HB⟩
end Go.Proofs.Ytffnfpnajkgnaaa.PFnExactPushesFor
