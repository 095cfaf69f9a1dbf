-- WRITTEN by xprint.py, a program of this session's. Not trusted: Lean checks it.
-- packed by pack.py
import Derived.Test.YtmpmanfoiocfgaaPFnExactMergeOfx0
import Derived.Test.YtmpmanfoiocfgaaPFnExactMergeOfx2
import Derived.Test.YtmpmanfoiocfgaaTFnExactMergeOfa
namespace Go.Proofs.Ytmpmanfoiocfgaa.PFnExactMergeOf
open Go.RowKit Go.Proofs.YtmpmanfoiocfgaaW.PrintWords Go.Proofs.YtmpmanfoiocfgaaW.PrintLast Go.Proofs.YtmpmanfoiocfgaaW.PrintMore Go.Proofs.YtmpmanfoiocfgaaX
attribute [local go_sem] max2_int min2_int max_two min_two max_three min_three max_four min_four   -- for this text's walks alone
set_option linter.unusedVariables false
set_option linter.unusedSimpArgs false

/-! ### laws_heldInt16S: function 103 -/
def laws_heldInt16S.l0 : Nat → List Int → Int → Int → Option (Int)
  | 0, _, _, _ => none
  | k + 1, x0, x1, x5 => if x5 < (x0.length : Int) then (if 0 ≤ x5 then (if (rd x0 x5) = (IntKind.i16.wrap (x1)) then (laws_heldInt16S.l0 k x0 (wrap64 (x1 + 1)) (wrap64 (x5 + 1))) else (some (-1))) else (none)) else (some x1)
def laws_heldInt16S.f (k : Nat) (l0 : List Int) (a1 : Int) : Option (Int) := laws_heldInt16S.l0 k l0 a1 0
theorem laws_heldInt16S.mono_l : ∀ k, (∀ y0 y1 y2, LeO (laws_heldInt16S.l0 k y0 y1 y2) (laws_heldInt16S.l0 (k + 1) y0 y1 y2))
  | 0 => fun _ _ _ r h => by simp [laws_heldInt16S.l0] at h
  | k + 1 => by
    have ih0 := laws_heldInt16S.mono_l k
    · intro y0 y1 y2
      unfold laws_heldInt16S.l0
      repeat' first | (with_reducible first | apply ih0 | exact LeO.refl _ | exact LeO.none _ | refine LeO.ite ?_ ?_ | refine LeO.bind ?_ (fun _ => ?_)) | apply ih0 | exact LeO.none _ | refine LeO.ite ?_ ?_ | refine LeO.bind ?_ (fun _ => ?_)
theorem laws_heldInt16S.mono : ∀ a0 a1 k, LeO (laws_heldInt16S.f k a0 a1) (laws_heldInt16S.f (k + 1) a0 a1) := by
 intro a0 a1 k
 have ih0 := laws_heldInt16S.mono_l k
 unfold laws_heldInt16S.f
 repeat' first | (with_reducible first | apply ih0 | exact LeO.refl _ | exact LeO.none _ | refine LeO.ite ?_ ?_ | refine LeO.bind ?_ (fun _ => ?_)) | apply ih0 | exact LeO.none _ | refine LeO.ite ?_ ?_ | refine LeO.bind ?_ (fun _ => ?_)
set_option maxHeartbeats 8000000 in
set_option maxRecDepth 100000 in
theorem laws_heldInt16S.calls (k : Nat) (A0 : Option Addr) (c0 : Nat) (l0 : List Int) (a1 : Int) (r : Int) (w : World) (hr0 : Kd.C (Kd.int .i16) w A0 l0.length l0) (hc0 : l0.length ≤ c0) (h : laws_heldInt16S.f k l0 a1 = some r) :
    Calls Try.prog 103 #[.slice A0 l0.length c0, .int .i64 a1] w fun e w' => e = .returned (.int .i64 r) ∧ Drawn0 w w' := by
 have HR0 := Aside0.mk hr0
 have HC0 := Aside0.mk hc0
 clear hr0 hc0
 have H : (laws_heldInt16S.l0 k l0 a1 0) = some r := h
 clear h
 have H' := Aside0.mk H
 clear H
 go_enter Try.func103, Try.ntmps103
 go_wp2
 go_loopg [1, 5] k (fun kq v1 v5 w' => ∃ (x1_1 : Int) (x5_1 : Int), v1 = .int .i64 x1_1 ∧ v5 = .int .i64 x5_1 ∧ Aside0 (laws_heldInt16S.l0 kq l0 x1_1 x5_1 = some r) ∧ Aside0 (kq ≤ k) ∧ Drawn0 w w')
 case atStart => exact ⟨(a1), (0), (by first | rfl | (simp; done) | (simp [*]; done) | (exact congrArg (Value.int .i64) (wrap_eq (by omega)))), (by first | rfl | (simp; done) | (simp [*]; done) | (exact congrArg (Value.int .i64) (wrap_eq (by omega)))), H', ⟨Nat.le_refl _⟩, by repeat (first | exact Drawn0.refl _ | apply Drawn0.step)⟩
 clear H'
 try clear c1
 try clear p2
 obtain ⟨x1_1, x5_1, rfl, rfl, HA, HK1, ⟨m1, rfl⟩⟩ := hrel
 cases gk with
 | zero => exact absurd HA.out (by simp [laws_heldInt16S.l0])
 | succ k1 => ?_
 have H := HA.out
 clear HA
 simp only [laws_heldInt16S.l0] at H
 by_cases c3 : x5_1 < (l0.length : Int)
 rotate_left
 ·rw [if_neg c3] at H
  have c3b0 : decide (x5_1 < (l0.length : Int)) = false := decide_eq_false c3
  clear c3
  obtain rfl := Option.some.inj H
  go_wp2
  go_ret
  exact ⟨by first | rfl | (simp; done) | (simp [*]; done) | (exact congrArg (Value.int .i64) (wrap_eq (by omega))), by repeat (first | exact Drawn0.refl _ | apply Drawn0.step)⟩
 rw [if_pos c3] at H
 have c3b0 : decide (x5_1 < (l0.length : Int)) = true := decide_eq_true c3
 clear c3
 by_cases c4 : 0 ≤ x5_1
 rotate_left
 ·rw [if_neg c4] at H
  exact absurd H (by simp)
 rw [if_pos c4] at H
 have c4b0 : decide (0 ≤ x5_1) = true := decide_eq_true c4
 clear c4
 by_cases c5 : (rd l0 x5_1) = (IntKind.i16.wrap (x1_1))
 rotate_left
 ·rw [if_neg c5] at H
  have c5b0 : ((rd l0 x5_1) == (IntKind.i16.wrap (x1_1))) = false := beq_eq_false_iff_ne.mpr c5
  have c5b1 : ((rd l0 x5_1) != (IntKind.i16.wrap (x1_1))) = true := bne_iff_ne.mpr c5
  obtain rfl := Option.some.inj H
  have p154 : 0 ≤ (x5_1 : Int) := of_decide_eq_true (by first | (with_reducible assumption) | assumption)
  have q154 : x5_1 < (l0.length : Int) := of_decide_eq_true (by first | (with_reducible assumption) | assumption)
  obtain ⟨ad154, e154, hx154_0⟩ := Kd.at_int HR0.out x5_1 p154 q154
  cases e154
  replace p154 := eq_true p154
  replace q154 := eq_true q154
  go_wp2
  go_ret
  exact ⟨by first | rfl | (simp; done) | (simp [*]; done) | (exact congrArg (Value.int .i64) (wrap_eq (by omega))), by repeat (first | exact Drawn0.refl _ | apply Drawn0.step)⟩
 rw [if_pos c5] at H
 have c5b0 : ((rd l0 x5_1) == (IntKind.i16.wrap (x1_1))) = true := beq_iff_eq.mpr c5
 have c5b1 : ((rd l0 x5_1) != (IntKind.i16.wrap (x1_1))) = false := bne_eq_false_iff_eq.mpr c5
 clear c5
 have H' := Aside0.mk H
 clear H
 have p154 : 0 ≤ (x5_1 : Int) := of_decide_eq_true (by first | (with_reducible assumption) | assumption)
 have q154 : x5_1 < (l0.length : Int) := of_decide_eq_true (by first | (with_reducible assumption) | assumption)
 obtain ⟨ad154, e154, hx154_0⟩ := Kd.at_int HR0.out x5_1 p154 q154
 cases e154
 replace p154 := eq_true p154
 replace q154 := eq_true q154
 go_wp2
 go_roundg k1
 case measure => have := HK1.out; omega
 case rel => exact ⟨(wrap64 (x1_1 + 1)), (wrap64 (x5_1 + 1)), (by first | rfl | (simp; done) | (simp [*]; done) | (exact congrArg (Value.int .i64) (wrap_eq (by omega)))), (by first | rfl | (simp; done) | (simp [*]; done) | (exact congrArg (Value.int .i64) (wrap_eq (by omega)))), H', ⟨by have := HK1.out; omega⟩, by repeat (first | exact Drawn0.refl _ | apply Drawn0.step)⟩
/-! ### laws_heldNetwork: function 55 -/
def laws_heldNetwork.f (k : Nat) (a0_0 : Int) (l0_1 : List (S81)) (l0_2 : List Int) (a1 : Int) : Option (Int) := (laws_heldNodeS.f k l0_1 a1).bind fun t156 => (if t156 < 0 then (some (-1)) else ((laws_heldInt16S.f k l0_2 t156).bind fun t157 => (if t157 < 0 then (some (-1)) else (some t157))))
theorem laws_heldNetwork.mono : ∀ a0 a1 a2 a3 k, LeO (laws_heldNetwork.f k a0 a1 a2 a3) (laws_heldNetwork.f (k + 1) a0 a1 a2 a3) := by
 intro a0 a1 a2 a3 k
 unfold laws_heldNetwork.f
 repeat' first | (with_reducible first | apply laws_heldInt16S.mono | apply laws_heldNodeS.mono | exact LeO.refl _ | exact LeO.none _ | refine LeO.ite ?_ ?_ | refine LeO.bind ?_ (fun _ => ?_)) | apply laws_heldInt16S.mono | apply laws_heldNodeS.mono | exact LeO.none _ | refine LeO.ite ?_ ?_ | refine LeO.bind ?_ (fun _ => ?_)
set_option maxHeartbeats 8000000 in
set_option maxRecDepth 100000 in
theorem laws_heldNetwork.calls (k : Nat) (a0_0 : Int) (A0_1 : Option Addr) (c0_1 : Nat) (l0_1 : List (S81)) (A0_2 : Option Addr) (c0_2 : Nat) (l0_2 : List Int) (a1 : Int) (r : Int) (w : World) (hr0_1 : Kd.C k81 w A0_1 l0_1.length l0_1) (hc0_1 : l0_1.length ≤ c0_1) (hr0_2 : Kd.C (Kd.int .i16) w A0_2 l0_2.length l0_2) (hc0_2 : l0_2.length ≤ c0_2) (h : laws_heldNetwork.f k a0_0 l0_1 l0_2 a1 = some r) :
    Calls Try.prog 55 #[.agg #[.int .i8 a0_0, .slice A0_1 l0_1.length c0_1, .slice A0_2 l0_2.length c0_2], .int .i64 a1] w fun e w' => e = .returned (.int .i64 r) ∧ Below w.heap.size w w' := by
 have hu31 := Try.underlying31
 have HR0_1 := Aside0.mk hr0_1
 have HC0_1 := Aside0.mk hc0_1
 clear hr0_1 hc0_1
 have HR0_2 := Aside0.mk hr0_2
 have HC0_2 := Aside0.mk hc0_2
 clear hr0_2 hc0_2
 have HB := Aside0.mk (Below.refl w.heap.size w)
 have H : ((laws_heldNodeS.f k l0_1 a1).bind fun t156 => (if t156 < 0 then (some (-1)) else ((laws_heldInt16S.f k l0_2 t156).bind fun t157 => (if t157 < 0 then (some (-1)) else (some t157))))) = some r := h
 clear h
 replace H := Option.bind_eq_some_iff.mp H
 obtain ⟨t156, A30, H⟩ := H
 replace H : (if t156 < 0 then (some (-1)) else ((laws_heldInt16S.f k l0_2 t156).bind fun t157 => (if t157 < 0 then (some (-1)) else (some t157)))) = some r := H
 have A3 := Aside0.mk A30
 clear A30
 by_cases c4 : t156 < 0
 ·rw [if_pos c4] at H
  have c4b0 : decide (t156 < 0) = true := decide_eq_true c4
  clear c4
  obtain rfl := Option.some.inj H
  go_enter Try.func55, Try.ntmps55
  go_wp2_with (first | ((with_reducible refine gate_dst (N := 2) rfl ?_); refine box_event ?hg (N := 2) ?hd (cs := #[.int .i8 a0_0, .slice A0_1 l0_1.length c0_1, .slice A0_2 l0_2.length c0_2]) (t := 31) ?hr ?_; (case hd => rfl); (case hg => rfl); (case hr => first | (go_simp; done) | (go_simp; rfl)); intro gb155 hg w5 hbox hb; have n_ : _ ∧ _ ∧ _ ∧ _ := ⟨zb HB hb, Aside0.mk (hbox), zg HB hg, zg HB hg⟩; clear HB; obtain ⟨HB, BK155, GW155, GE155⟩ := n_; clear hb hbox hg; obtain ⟨z6_0, z6_1, z6_2, y6_0, y6_1, y6_2⟩ := zB3 BK155) | ((with_reducible refine gate_callee (f := 102) rfl ?_); refine goesL_ (some 8) rfl rfl Try.func102 (by kernel_rfl) rfl #[.slice A0_1 l0_1.length c0_1, .int .i64 a1] rfl (by (try simp only [List.map_toArray, List.map_cons, List.map_nil]); first | done | rfl | (simp only [List.length_drop, List.length_take]; rfl)) ?_; (with_reducible refine (laws_heldNodeS.calls k _ _ l0_1 a1 t156 _ ?side1 ?side2 A3.out).mono ?_); (case side1 => exact zcc HB HR0_1.out); (case side2 => exact HC0_1.out); rintro e w' ⟨rfl, ⟨nd, rfl⟩⟩; refine ⟨_, rfl, ?_⟩))
  go_ret
  exact ⟨by first | rfl | (simp [errW_none, errW_some] <;> rfl) | (simp [*, errW_none, errW_some] <;> rfl), by repeat (first | (with_reducible first | exact HB.out | apply below_alloc | apply pw_below_drewN | apply below_drew1 | refine below_set ?_ GE155.out) | exact HB.out)⟩
 rw [if_neg c4] at H
 have c4b0 : decide (t156 < 0) = false := decide_eq_false c4
 clear c4
 replace H := Option.bind_eq_some_iff.mp H
 obtain ⟨t157, A70, H⟩ := H
 replace H : (if t157 < 0 then (some (-1)) else (some t157)) = some r := H
 have A7 := Aside0.mk A70
 clear A70
 by_cases c8 : t157 < 0
 ·rw [if_pos c8] at H
  have c8b0 : decide (t157 < 0) = true := decide_eq_true c8
  clear c8
  obtain rfl := Option.some.inj H
  go_enter Try.func55, Try.ntmps55
  go_wp2_with (first | ((with_reducible refine gate_dst (N := 2) rfl ?_); refine box_event ?hg (N := 2) ?hd (cs := #[.int .i8 a0_0, .slice A0_1 l0_1.length c0_1, .slice A0_2 l0_2.length c0_2]) (t := 31) ?hr ?_; (case hd => rfl); (case hg => rfl); (case hr => first | (go_simp; done) | (go_simp; rfl)); intro gb155 hg w9 hbox hb; have n_ : _ ∧ _ ∧ _ ∧ _ := ⟨zb HB hb, Aside0.mk (hbox), zg HB hg, zg HB hg⟩; clear HB; obtain ⟨HB, BK155, GW155, GE155⟩ := n_; clear hb hbox hg; obtain ⟨z10_0, z10_1, z10_2, y10_0, y10_1, y10_2⟩ := zB3 BK155) | ((with_reducible refine gate_callee (f := 102) rfl ?_); refine goesL_ (some 8) rfl rfl Try.func102 (by kernel_rfl) rfl #[.slice A0_1 l0_1.length c0_1, .int .i64 a1] rfl (by (try simp only [List.map_toArray, List.map_cons, List.map_nil]); first | done | rfl | (simp only [List.length_drop, List.length_take]; rfl)) ?_; (with_reducible refine (laws_heldNodeS.calls k _ _ l0_1 a1 t156 _ ?side1 ?side2 A3.out).mono ?_); (case side1 => exact zcc HB HR0_1.out); (case side2 => exact HC0_1.out); rintro e w' ⟨rfl, ⟨nd, rfl⟩⟩; refine ⟨_, rfl, ?_⟩) | ((with_reducible refine gate_callee (f := 103) rfl ?_); refine goesL_ (some 14) rfl rfl Try.func103 (by kernel_rfl) rfl #[.slice A0_2 l0_2.length c0_2, .int .i64 t156] rfl (by (try simp only [List.map_toArray, List.map_cons, List.map_nil]); first | done | rfl | (simp only [List.length_drop, List.length_take]; rfl)) ?_; (with_reducible refine (laws_heldInt16S.calls k _ _ l0_2 t156 t157 _ ?side1 ?side2 A7.out).mono ?_); (case side1 => repeat (first | exact (Kd.C_below HR0_2.out (by repeat (first | (with_reducible first | exact HB.out | apply below_alloc | apply pw_below_drewN | apply below_drew1 | refine below_set ?_ GE155.out) | exact HB.out))) | (with_reducible refine Kd.C_alloc ?_ _) | (with_reducible refine Kd.C_drewN ?_ _) | (with_reducible refine Kd.C_drew ?_))); (case side2 => exact HC0_2.out); rintro e w' ⟨rfl, ⟨nd, rfl⟩⟩; refine ⟨_, rfl, ?_⟩))
  go_ret
  exact ⟨by first | rfl | (simp [errW_none, errW_some] <;> rfl) | (simp [*, errW_none, errW_some] <;> rfl), by repeat (first | (with_reducible first | exact HB.out | apply below_alloc | apply pw_below_drewN | apply below_drew1 | refine below_set ?_ GE155.out) | exact HB.out)⟩
 rw [if_neg c8] at H
 have c8b0 : decide (t157 < 0) = false := decide_eq_false c8
 clear c8
 obtain rfl := Option.some.inj H
 go_enter Try.func55, Try.ntmps55
 go_wp2_with (first | ((with_reducible refine gate_dst (N := 2) rfl ?_); refine box_event ?hg (N := 2) ?hd (cs := #[.int .i8 a0_0, .slice A0_1 l0_1.length c0_1, .slice A0_2 l0_2.length c0_2]) (t := 31) ?hr ?_; (case hd => rfl); (case hg => rfl); (case hr => first | (go_simp; done) | (go_simp; rfl)); intro gb155 hg w11 hbox hb; have n_ : _ ∧ _ ∧ _ ∧ _ := ⟨zb HB hb, Aside0.mk (hbox), zg HB hg, zg HB hg⟩; clear HB; obtain ⟨HB, BK155, GW155, GE155⟩ := n_; clear hb hbox hg; obtain ⟨z12_0, z12_1, z12_2, y12_0, y12_1, y12_2⟩ := zB3 BK155) | ((with_reducible refine gate_callee (f := 102) rfl ?_); refine goesL_ (some 8) rfl rfl Try.func102 (by kernel_rfl) rfl #[.slice A0_1 l0_1.length c0_1, .int .i64 a1] rfl (by (try simp only [List.map_toArray, List.map_cons, List.map_nil]); first | done | rfl | (simp only [List.length_drop, List.length_take]; rfl)) ?_; (with_reducible refine (laws_heldNodeS.calls k _ _ l0_1 a1 t156 _ ?side1 ?side2 A3.out).mono ?_); (case side1 => exact zcc HB HR0_1.out); (case side2 => exact HC0_1.out); rintro e w' ⟨rfl, ⟨nd, rfl⟩⟩; refine ⟨_, rfl, ?_⟩) | ((with_reducible refine gate_callee (f := 103) rfl ?_); refine goesL_ (some 14) rfl rfl Try.func103 (by kernel_rfl) rfl #[.slice A0_2 l0_2.length c0_2, .int .i64 t156] rfl (by (try simp only [List.map_toArray, List.map_cons, List.map_nil]); first | done | rfl | (simp only [List.length_drop, List.length_take]; rfl)) ?_; (with_reducible refine (laws_heldInt16S.calls k _ _ l0_2 t156 t157 _ ?side1 ?side2 A7.out).mono ?_); (case side1 => repeat (first | exact (Kd.C_below HR0_2.out (by repeat (first | (with_reducible first | exact HB.out | apply below_alloc | apply pw_below_drewN | apply below_drew1 | refine below_set ?_ GE155.out) | exact HB.out))) | (with_reducible refine Kd.C_alloc ?_ _) | (with_reducible refine Kd.C_drewN ?_ _) | (with_reducible refine Kd.C_drew ?_))); (case side2 => exact HC0_2.out); rintro e w' ⟨rfl, ⟨nd, rfl⟩⟩; refine ⟨_, rfl, ?_⟩))
 go_ret
 exact ⟨by first | rfl | (simp [errW_none, errW_some] <;> rfl) | (simp [*, errW_none, errW_some] <;> rfl), by repeat (first | (with_reducible first | exact HB.out | apply below_alloc | apply pw_below_drewN | apply below_drew1 | refine below_set ?_ GE155.out) | exact HB.out)⟩
/-! ### spec_l00In: function 87 -/
def spec_l00In.f (a0 : Int) (a1 : Int) (a2 : Int) : Option (Bool) := if a0 ≥ a1 then (some (decide (a0 ≤ a2))) else (some false)
set_option maxHeartbeats 8000000 in
set_option maxRecDepth 100000 in
theorem spec_l00In.calls (a0 : Int) (a1 : Int) (a2 : Int) (r : Bool) (w : World) (h : spec_l00In.f a0 a1 a2 = some r) :
    Calls Try.prog 87 #[.int .i64 a0, .int .i64 a1, .int .i64 a2] w fun e w' => e = .returned (.bool r) ∧ Drawn0 w w' := by
 have H : (if a0 ≥ a1 then (some (decide (a0 ≤ a2))) else (some false)) = some r := h
 clear h
 by_cases c4 : a0 ≥ a1
 ·rw [if_pos c4] at H
  have c4b0 : decide (a1 ≤ a0) = true := decide_eq_true c4
  clear c4
  obtain rfl := Option.some.inj H
  go_enter Try.func87, Try.ntmps87
  go_wp2
  go_ret
  exact ⟨by first | rfl | (simp; done) | (simp [*]; done) | (exact congrArg (Value.int .i64) (wrap_eq (by omega))), by repeat (first | exact Drawn0.refl _ | apply Drawn0.step)⟩
 rw [if_neg c4] at H
 have c4b0 : decide (a1 ≤ a0) = false := decide_eq_false c4
 clear c4
 obtain rfl := Option.some.inj H
 go_enter Try.func87, Try.ntmps87
 go_wp2
 go_ret
 exact ⟨by first | rfl | (simp; done) | (simp [*]; done) | (exact congrArg (Value.int .i64) (wrap_eq (by omega))), by repeat (first | exact Drawn0.refl _ | apply Drawn0.step)⟩
/-! ### spec_l04Node: function 125 -/
def spec_l04Node.f (l0 : List (S31)) (a1 : Int) : Option (Bool) := if 0 < (l0.length : Int) then (if 0 ≤ a1 then (if a1 < (((rd_T31 l0 0).f1).length : Int) then (if ((rd_T81 ((rd_T31 l0 0).f1) a1).f0) = 0 then (if ((rd_T81 ((rd_T31 l0 0).f1) a1).f1) ≥ 0 then (if ((rd_T81 ((rd_T31 l0 0).f1) a1).f1) < (IntKind.i16.wrap ((rd_T31 l0 0).f0)) then (some (((rd_T81 ((rd_T31 l0 0).f1) a1).f2) == 0)) else (some false)) else (some false)) else (if ((rd_T81 ((rd_T31 l0 0).f1) a1).f0) = 1 then (if ((rd_T81 ((rd_T31 l0 0).f1) a1).f1) = 0 then (some (((rd_T81 ((rd_T31 l0 0).f1) a1).f2) == 0)) else (some false)) else (if ((rd_T81 ((rd_T31 l0 0).f1) a1).f0) = 2 then (if ((rd_T81 ((rd_T31 l0 0).f1) a1).f1) ≥ 0 then (if (wrap64 ((rd_T81 ((rd_T31 l0 0).f1) a1).f1)) < a1 then (if ((rd_T81 ((rd_T31 l0 0).f1) a1).f2) ≥ 0 then (some (decide ((wrap64 ((rd_T81 ((rd_T31 l0 0).f1) a1).f2)) < a1))) else (some false)) else (some false)) else (some false)) else (if ((rd_T81 ((rd_T31 l0 0).f1) a1).f0) = 3 then (if ((rd_T81 ((rd_T31 l0 0).f1) a1).f1) ≥ 0 then (if (wrap64 ((rd_T81 ((rd_T31 l0 0).f1) a1).f1)) < a1 then (if ((rd_T81 ((rd_T31 l0 0).f1) a1).f2) ≥ 0 then (some (decide ((wrap64 ((rd_T81 ((rd_T31 l0 0).f1) a1).f2)) < a1))) else (some false)) else (some false)) else (some false)) else (some false))))) else (none)) else (none)) else (none)
set_option maxHeartbeats 8000000 in
set_option maxRecDepth 100000 in
theorem spec_l04Node.calls (adp0 : Addr) (l0 : List (S31)) (a1 : Int) (r : Bool) (w : World) (hr0 : Kd.C k31 w (some adp0) l0.length l0) (h : spec_l04Node.f l0 a1 = some r) :
    Calls Try.prog 125 #[.pointer (some adp0), .int .i64 a1] w fun e w' => e = .returned (.bool r) ∧ Below w.heap.size w w' := by
 have hu81 := Try.underlying81
 have HR0 := Aside0.mk hr0
 clear hr0
 have HB := Aside0.mk (Below.refl w.heap.size w)
 have H : (if 0 < (l0.length : Int) then (if 0 ≤ a1 then (if a1 < (((rd_T31 l0 0).f1).length : Int) then (if ((rd_T81 ((rd_T31 l0 0).f1) a1).f0) = 0 then (if ((rd_T81 ((rd_T31 l0 0).f1) a1).f1) ≥ 0 then (if ((rd_T81 ((rd_T31 l0 0).f1) a1).f1) < (IntKind.i16.wrap ((rd_T31 l0 0).f0)) then (some (((rd_T81 ((rd_T31 l0 0).f1) a1).f2) == 0)) else (some false)) else (some false)) else (if ((rd_T81 ((rd_T31 l0 0).f1) a1).f0) = 1 then (if ((rd_T81 ((rd_T31 l0 0).f1) a1).f1) = 0 then (some (((rd_T81 ((rd_T31 l0 0).f1) a1).f2) == 0)) else (some false)) else (if ((rd_T81 ((rd_T31 l0 0).f1) a1).f0) = 2 then (if ((rd_T81 ((rd_T31 l0 0).f1) a1).f1) ≥ 0 then (if (wrap64 ((rd_T81 ((rd_T31 l0 0).f1) a1).f1)) < a1 then (if ((rd_T81 ((rd_T31 l0 0).f1) a1).f2) ≥ 0 then (some (decide ((wrap64 ((rd_T81 ((rd_T31 l0 0).f1) a1).f2)) < a1))) else (some false)) else (some false)) else (some false)) else (if ((rd_T81 ((rd_T31 l0 0).f1) a1).f0) = 3 then (if ((rd_T81 ((rd_T31 l0 0).f1) a1).f1) ≥ 0 then (if (wrap64 ((rd_T81 ((rd_T31 l0 0).f1) a1).f1)) < a1 then (if ((rd_T81 ((rd_T31 l0 0).f1) a1).f2) ≥ 0 then (some (decide ((wrap64 ((rd_T81 ((rd_T31 l0 0).f1) a1).f2)) < a1))) else (some false)) else (some false)) else (some false)) else (some false))))) else (none)) else (none)) else (none)) = some r := h
 clear h
 by_cases c3 : 0 < (l0.length : Int)
 rotate_left
 ·rw [if_neg c3] at H
  exact absurd H (by simp)
 rw [if_pos c3] at H
 have c3b0 : decide (0 < (l0.length : Int)) = true := decide_eq_true c3
 have c3b1 : decide (0 < l0.length) = true := decide_eq_true (by omega)
 clear c3
 by_cases c4 : 0 ≤ a1
 rotate_left
 ·rw [if_neg c4] at H
  exact absurd H (by simp)
 rw [if_pos c4] at H
 have c4b0 : decide (0 ≤ a1) = true := decide_eq_true c4
 clear c4
 by_cases c5 : a1 < (((rd_T31 l0 0).f1).length : Int)
 rotate_left
 ·rw [if_neg c5] at H
  exact absurd H (by simp)
 rw [if_pos c5] at H
 have c5b0 : decide (a1 < (((rd_T31 l0 0).f1).length : Int)) = true := decide_eq_true c5
 clear c5
 by_cases c6 : ((rd_T81 ((rd_T31 l0 0).f1) a1).f0) = 0
 ·rw [if_pos c6] at H
  have c6b0 : (((rd_T81 ((rd_T31 l0 0).f1) a1).f0) == 0) = true := beq_iff_eq.mpr c6
  have c6b1 : (((rd_T81 ((rd_T31 l0 0).f1) a1).f0) != 0) = false := bne_eq_false_iff_eq.mpr c6
  clear c6
  by_cases c7 : ((rd_T81 ((rd_T31 l0 0).f1) a1).f1) ≥ 0
  rotate_left
  ·rw [if_neg c7] at H
   have c7b0 : decide (0 ≤ ((rd_T81 ((rd_T31 l0 0).f1) a1).f1)) = false := decide_eq_false c7
   clear c7
   obtain rfl := Option.some.inj H
   have p158 : 0 ≤ (0 : Int) := (by omega)
   have q158 : 0 < (l0.length : Int) := of_decide_eq_true (by first | (with_reducible assumption) | assumption)
   obtain ⟨ad158, A158_1, c158_1, A158_2, c158_2, e158, hx158_0, hx158_1, hx158_2, hl158_1, hi158_1, hl158_2, hi158_2⟩ := at_T31 HR0.out 0 p158 q158
   obtain rfl : adp0 = ad158 := (by injection e158)
   have qi158 : (0 < l0.length) = True := eq_true (by omega)
   (try rw [show ((0 : Int)).toNat = 0 from rfl] at hx158_0)
   (try rw [show 0 * 3 = 0 from rfl] at hx158_0)
   (try rw [Addr.add_zero'] at hx158_0)
   (try rw [show ((0 : Int)).toNat = 0 from rfl] at hx158_1)
   (try rw [show 0 * 3 = 0 from rfl] at hx158_1)
   (try rw [Addr.add_zero'] at hx158_1)
   (try rw [show ((0 : Int)).toNat = 0 from rfl] at hx158_2)
   (try rw [show 0 * 3 = 0 from rfl] at hx158_2)
   (try rw [Addr.add_zero'] at hx158_2)
   have HR158_1 := Aside0.mk hi158_1
   have HC158_1 := Aside0.mk hl158_1
   clear hi158_1 hl158_1
   have HR158_2 := Aside0.mk hi158_2
   have HC158_2 := Aside0.mk hl158_2
   clear hi158_2 hl158_2
   replace p158 := eq_true p158
   replace q158 := eq_true q158
   have p159 : 0 ≤ (a1 : Int) := of_decide_eq_true (by first | (with_reducible assumption) | assumption)
   have q159 : a1 < (((rd_T31 l0 0).f1).length : Int) := of_decide_eq_true (by first | (with_reducible assumption) | assumption)
   obtain ⟨ad159, e159, hx159_0, hx159_1, hx159_2⟩ := at_T81 HR158_1.out a1 p159 q159
   cases e159
   replace p159 := eq_true p159
   replace q159 := eq_true q159
   go_enter Try.func125, Try.ntmps125
   go_wp2_with (first | ((with_reducible refine gate_dst (N := 5) rfl ?_); refine box_event ?hg (N := 5) ?hd (cs := #[.int .i8 0, .int .i16 0, .int .i16 0]) (t := 81) ?hr ?_; (case hd => rfl); (case hg => rfl); (case hr => first | (go_simp; done) | (go_simp; rfl)); intro gb160 hg w13 hbox hb; have n_ : _ ∧ _ ∧ _ ∧ _ := ⟨zb HB hb, Aside0.mk (hbox), zg HB hg, zg HB hg⟩; clear HB; obtain ⟨HB, BK160, GW160, GE160⟩ := n_; clear hb hbox hg; obtain ⟨z14_0, z14_1, z14_2, y14_0, y14_1, y14_2⟩ := zB3 BK160) | go_quiet (fail))
   go_ret
   exact ⟨by first | rfl | (simp [errW_none, errW_some] <;> rfl) | (simp [*, errW_none, errW_some] <;> rfl), by repeat (first | (with_reducible first | exact HB.out | apply below_alloc | apply pw_below_drewN | apply below_drew1 | refine below_set ?_ GE160.out) | exact HB.out)⟩
  rw [if_pos c7] at H
  have c7b0 : decide (0 ≤ ((rd_T81 ((rd_T31 l0 0).f1) a1).f1)) = true := decide_eq_true c7
  clear c7
  by_cases c8 : ((rd_T81 ((rd_T31 l0 0).f1) a1).f1) < (IntKind.i16.wrap ((rd_T31 l0 0).f0))
  ·rw [if_pos c8] at H
   have c8b0 : decide (((rd_T81 ((rd_T31 l0 0).f1) a1).f1) < (IntKind.i16.wrap ((rd_T31 l0 0).f0))) = true := decide_eq_true c8
   clear c8
   obtain rfl := Option.some.inj H
   have p158 : 0 ≤ (0 : Int) := (by omega)
   have q158 : 0 < (l0.length : Int) := of_decide_eq_true (by first | (with_reducible assumption) | assumption)
   obtain ⟨ad158, A158_1, c158_1, A158_2, c158_2, e158, hx158_0, hx158_1, hx158_2, hl158_1, hi158_1, hl158_2, hi158_2⟩ := at_T31 HR0.out 0 p158 q158
   obtain rfl : adp0 = ad158 := (by injection e158)
   have qi158 : (0 < l0.length) = True := eq_true (by omega)
   (try rw [show ((0 : Int)).toNat = 0 from rfl] at hx158_0)
   (try rw [show 0 * 3 = 0 from rfl] at hx158_0)
   (try rw [Addr.add_zero'] at hx158_0)
   (try rw [show ((0 : Int)).toNat = 0 from rfl] at hx158_1)
   (try rw [show 0 * 3 = 0 from rfl] at hx158_1)
   (try rw [Addr.add_zero'] at hx158_1)
   (try rw [show ((0 : Int)).toNat = 0 from rfl] at hx158_2)
   (try rw [show 0 * 3 = 0 from rfl] at hx158_2)
   (try rw [Addr.add_zero'] at hx158_2)
   have HR158_1 := Aside0.mk hi158_1
   have HC158_1 := Aside0.mk hl158_1
   clear hi158_1 hl158_1
   have HR158_2 := Aside0.mk hi158_2
   have HC158_2 := Aside0.mk hl158_2
   clear hi158_2 hl158_2
   replace p158 := eq_true p158
   replace q158 := eq_true q158
   have p159 : 0 ≤ (a1 : Int) := of_decide_eq_true (by first | (with_reducible assumption) | assumption)
   have q159 : a1 < (((rd_T31 l0 0).f1).length : Int) := of_decide_eq_true (by first | (with_reducible assumption) | assumption)
   obtain ⟨ad159, e159, hx159_0, hx159_1, hx159_2⟩ := at_T81 HR158_1.out a1 p159 q159
   cases e159
   replace p159 := eq_true p159
   replace q159 := eq_true q159
   go_enter Try.func125, Try.ntmps125
   go_wp2_with (first | ((with_reducible refine gate_dst (N := 5) rfl ?_); refine box_event ?hg (N := 5) ?hd (cs := #[.int .i8 0, .int .i16 0, .int .i16 0]) (t := 81) ?hr ?_; (case hd => rfl); (case hg => rfl); (case hr => first | (go_simp; done) | (go_simp; rfl)); intro gb160 hg w9 hbox hb; have n_ : _ ∧ _ ∧ _ ∧ _ := ⟨zb HB hb, Aside0.mk (hbox), zg HB hg, zg HB hg⟩; clear HB; obtain ⟨HB, BK160, GW160, GE160⟩ := n_; clear hb hbox hg; obtain ⟨z10_0, z10_1, z10_2, y10_0, y10_1, y10_2⟩ := zB3 BK160; have p161 : 0 ≤ (0 : Int) := (by omega); have q161 : 0 < (l0.length : Int) := of_decide_eq_true (by first | (with_reducible assumption) | assumption); obtain ⟨ad161, A161_1, c161_1, A161_2, c161_2, e161, hx161_0, hx161_1, hx161_2, hl161_1, hi161_1, hl161_2, hi161_2⟩ := at_T31 HR0.out 0 p161 q161; obtain rfl : adp0 = ad161 := (by injection e161); have qi161 : (0 < l0.length) = True := eq_true (by omega); (try rw [show ((0 : Int)).toNat = 0 from rfl] at hx161_0); (try rw [show 0 * 3 = 0 from rfl] at hx161_0); (try rw [Addr.add_zero'] at hx161_0); (try rw [show ((0 : Int)).toNat = 0 from rfl] at hx161_1); (try rw [show 0 * 3 = 0 from rfl] at hx161_1); (try rw [Addr.add_zero'] at hx161_1); (try rw [show ((0 : Int)).toNat = 0 from rfl] at hx161_2); (try rw [show 0 * 3 = 0 from rfl] at hx161_2); (try rw [Addr.add_zero'] at hx161_2); have hn161_0 : adp0.block ≠ gb160 := Nat.ne_of_lt (Nat.lt_of_lt_of_le (by have := World.block_lt_of_cell? _ _ hx161_0; first | rwa [add_block] at this | exact this) GW160.out); have hn161_1 : adp0.block ≠ gb160 := Nat.ne_of_lt (Nat.lt_of_lt_of_le (by have := World.block_lt_of_cell? _ _ hx161_0; first | rwa [add_block] at this | exact this) GW160.out); have hn161_2 : adp0.block ≠ gb160 := Nat.ne_of_lt (Nat.lt_of_lt_of_le (by have := World.block_lt_of_cell? _ _ hx161_0; first | rwa [add_block] at this | exact this) GW160.out); replace hx161_0 := zc HB hx161_0; replace hx161_1 := zc HB hx161_1; replace hx161_2 := zc HB hx161_2; have HR161_1 := Aside0.mk hi161_1; have HC161_1 := Aside0.mk hl161_1; clear hi161_1 hl161_1; have HR161_2 := Aside0.mk hi161_2; have HC161_2 := Aside0.mk hl161_2; clear hi161_2 hl161_2; replace hx161_0 := (cell_far (p := ⟨gb160, 0, none⟩) (by first | (rw [add_block]; exact hn161_0) | (show (Addr.add _ _).block ≠ _; rw [add_block]; exact hn161_0) | exact hn161_0) (.int .i8 ((rd_T81 ((rd_T31 l0 0).f1) a1).f0))).trans hx161_0; replace hx161_1 := (cell_far (p := ⟨gb160, 0, none⟩) (by first | (rw [add_block]; exact hn161_0) | (show (Addr.add _ _).block ≠ _; rw [add_block]; exact hn161_0) | exact hn161_0) (.int .i8 ((rd_T81 ((rd_T31 l0 0).f1) a1).f0))).trans hx161_1; replace hx161_2 := (cell_far (p := ⟨gb160, 0, none⟩) (by first | (rw [add_block]; exact hn161_0) | (show (Addr.add _ _).block ≠ _; rw [add_block]; exact hn161_0) | exact hn161_0) (.int .i8 ((rd_T81 ((rd_T31 l0 0).f1) a1).f0))).trans hx161_2; replace hx161_0 := (cell_far (p := ⟨gb160, 1, none⟩) (by first | (rw [add_block]; exact hn161_1) | (show (Addr.add _ _).block ≠ _; rw [add_block]; exact hn161_1) | exact hn161_1) (.int .i16 ((rd_T81 ((rd_T31 l0 0).f1) a1).f1))).trans hx161_0; replace hx161_1 := (cell_far (p := ⟨gb160, 1, none⟩) (by first | (rw [add_block]; exact hn161_1) | (show (Addr.add _ _).block ≠ _; rw [add_block]; exact hn161_1) | exact hn161_1) (.int .i16 ((rd_T81 ((rd_T31 l0 0).f1) a1).f1))).trans hx161_1; replace hx161_2 := (cell_far (p := ⟨gb160, 1, none⟩) (by first | (rw [add_block]; exact hn161_1) | (show (Addr.add _ _).block ≠ _; rw [add_block]; exact hn161_1) | exact hn161_1) (.int .i16 ((rd_T81 ((rd_T31 l0 0).f1) a1).f1))).trans hx161_2; replace hx161_0 := (cell_far (p := ⟨gb160, 2, none⟩) (by first | (rw [add_block]; exact hn161_2) | (show (Addr.add _ _).block ≠ _; rw [add_block]; exact hn161_2) | exact hn161_2) (.int .i16 ((rd_T81 ((rd_T31 l0 0).f1) a1).f2))).trans hx161_0; replace hx161_1 := (cell_far (p := ⟨gb160, 2, none⟩) (by first | (rw [add_block]; exact hn161_2) | (show (Addr.add _ _).block ≠ _; rw [add_block]; exact hn161_2) | exact hn161_2) (.int .i16 ((rd_T81 ((rd_T31 l0 0).f1) a1).f2))).trans hx161_1; replace hx161_2 := (cell_far (p := ⟨gb160, 2, none⟩) (by first | (rw [add_block]; exact hn161_2) | (show (Addr.add _ _).block ≠ _; rw [add_block]; exact hn161_2) | exact hn161_2) (.int .i16 ((rd_T81 ((rd_T31 l0 0).f1) a1).f2))).trans hx161_2; (try have hy161_0 := fun (n_ : Nat) => (show (((((w9.drewN n_).setCell ⟨gb160, 0, none⟩ (.int .i8 ((rd_T81 ((rd_T31 l0 0).f1) a1).f0))).setCell ⟨gb160, 1, none⟩ (.int .i16 ((rd_T81 ((rd_T31 l0 0).f1) a1).f1))).setCell ⟨gb160, 2, none⟩ (.int .i16 ((rd_T81 ((rd_T31 l0 0).f1) a1).f2)))).cell? _ = some _ from hx161_0)); (try have hy161_1 := fun (n_ : Nat) => (show (((((w9.drewN n_).setCell ⟨gb160, 0, none⟩ (.int .i8 ((rd_T81 ((rd_T31 l0 0).f1) a1).f0))).setCell ⟨gb160, 1, none⟩ (.int .i16 ((rd_T81 ((rd_T31 l0 0).f1) a1).f1))).setCell ⟨gb160, 2, none⟩ (.int .i16 ((rd_T81 ((rd_T31 l0 0).f1) a1).f2)))).cell? _ = some _ from hx161_1)); (try have hy161_2 := fun (n_ : Nat) => (show (((((w9.drewN n_).setCell ⟨gb160, 0, none⟩ (.int .i8 ((rd_T81 ((rd_T31 l0 0).f1) a1).f0))).setCell ⟨gb160, 1, none⟩ (.int .i16 ((rd_T81 ((rd_T31 l0 0).f1) a1).f1))).setCell ⟨gb160, 2, none⟩ (.int .i16 ((rd_T81 ((rd_T31 l0 0).f1) a1).f2)))).cell? _ = some _ from hx161_2)); clear hn161_0; clear hn161_1; clear hn161_2; replace p161 := eq_true p161; replace q161 := eq_true q161) | go_quiet (fail))
   go_ret
   exact ⟨by first | rfl | (simp [errW_none, errW_some] <;> rfl) | (simp [*, errW_none, errW_some] <;> rfl), by repeat (first | (with_reducible first | exact HB.out | apply below_alloc | apply pw_below_drewN | apply below_drew1 | refine below_set ?_ GE160.out) | exact HB.out)⟩
  rw [if_neg c8] at H
  have c8b0 : decide (((rd_T81 ((rd_T31 l0 0).f1) a1).f1) < (IntKind.i16.wrap ((rd_T31 l0 0).f0))) = false := decide_eq_false c8
  clear c8
  obtain rfl := Option.some.inj H
  have p158 : 0 ≤ (0 : Int) := (by omega)
  have q158 : 0 < (l0.length : Int) := of_decide_eq_true (by first | (with_reducible assumption) | assumption)
  obtain ⟨ad158, A158_1, c158_1, A158_2, c158_2, e158, hx158_0, hx158_1, hx158_2, hl158_1, hi158_1, hl158_2, hi158_2⟩ := at_T31 HR0.out 0 p158 q158
  obtain rfl : adp0 = ad158 := (by injection e158)
  have qi158 : (0 < l0.length) = True := eq_true (by omega)
  (try rw [show ((0 : Int)).toNat = 0 from rfl] at hx158_0)
  (try rw [show 0 * 3 = 0 from rfl] at hx158_0)
  (try rw [Addr.add_zero'] at hx158_0)
  (try rw [show ((0 : Int)).toNat = 0 from rfl] at hx158_1)
  (try rw [show 0 * 3 = 0 from rfl] at hx158_1)
  (try rw [Addr.add_zero'] at hx158_1)
  (try rw [show ((0 : Int)).toNat = 0 from rfl] at hx158_2)
  (try rw [show 0 * 3 = 0 from rfl] at hx158_2)
  (try rw [Addr.add_zero'] at hx158_2)
  have HR158_1 := Aside0.mk hi158_1
  have HC158_1 := Aside0.mk hl158_1
  clear hi158_1 hl158_1
  have HR158_2 := Aside0.mk hi158_2
  have HC158_2 := Aside0.mk hl158_2
  clear hi158_2 hl158_2
  replace p158 := eq_true p158
  replace q158 := eq_true q158
  have p159 : 0 ≤ (a1 : Int) := of_decide_eq_true (by first | (with_reducible assumption) | assumption)
  have q159 : a1 < (((rd_T31 l0 0).f1).length : Int) := of_decide_eq_true (by first | (with_reducible assumption) | assumption)
  obtain ⟨ad159, e159, hx159_0, hx159_1, hx159_2⟩ := at_T81 HR158_1.out a1 p159 q159
  cases e159
  replace p159 := eq_true p159
  replace q159 := eq_true q159
  go_enter Try.func125, Try.ntmps125
  go_wp2_with (first | ((with_reducible refine gate_dst (N := 5) rfl ?_); refine box_event ?hg (N := 5) ?hd (cs := #[.int .i8 0, .int .i16 0, .int .i16 0]) (t := 81) ?hr ?_; (case hd => rfl); (case hg => rfl); (case hr => first | (go_simp; done) | (go_simp; rfl)); intro gb160 hg w11 hbox hb; have n_ : _ ∧ _ ∧ _ ∧ _ := ⟨zb HB hb, Aside0.mk (hbox), zg HB hg, zg HB hg⟩; clear HB; obtain ⟨HB, BK160, GW160, GE160⟩ := n_; clear hb hbox hg; obtain ⟨z12_0, z12_1, z12_2, y12_0, y12_1, y12_2⟩ := zB3 BK160; have p161 : 0 ≤ (0 : Int) := (by omega); have q161 : 0 < (l0.length : Int) := of_decide_eq_true (by first | (with_reducible assumption) | assumption); obtain ⟨ad161, A161_1, c161_1, A161_2, c161_2, e161, hx161_0, hx161_1, hx161_2, hl161_1, hi161_1, hl161_2, hi161_2⟩ := at_T31 HR0.out 0 p161 q161; obtain rfl : adp0 = ad161 := (by injection e161); have qi161 : (0 < l0.length) = True := eq_true (by omega); (try rw [show ((0 : Int)).toNat = 0 from rfl] at hx161_0); (try rw [show 0 * 3 = 0 from rfl] at hx161_0); (try rw [Addr.add_zero'] at hx161_0); (try rw [show ((0 : Int)).toNat = 0 from rfl] at hx161_1); (try rw [show 0 * 3 = 0 from rfl] at hx161_1); (try rw [Addr.add_zero'] at hx161_1); (try rw [show ((0 : Int)).toNat = 0 from rfl] at hx161_2); (try rw [show 0 * 3 = 0 from rfl] at hx161_2); (try rw [Addr.add_zero'] at hx161_2); have hn161_0 : adp0.block ≠ gb160 := Nat.ne_of_lt (Nat.lt_of_lt_of_le (by have := World.block_lt_of_cell? _ _ hx161_0; first | rwa [add_block] at this | exact this) GW160.out); have hn161_1 : adp0.block ≠ gb160 := Nat.ne_of_lt (Nat.lt_of_lt_of_le (by have := World.block_lt_of_cell? _ _ hx161_0; first | rwa [add_block] at this | exact this) GW160.out); have hn161_2 : adp0.block ≠ gb160 := Nat.ne_of_lt (Nat.lt_of_lt_of_le (by have := World.block_lt_of_cell? _ _ hx161_0; first | rwa [add_block] at this | exact this) GW160.out); replace hx161_0 := zc HB hx161_0; replace hx161_1 := zc HB hx161_1; replace hx161_2 := zc HB hx161_2; have HR161_1 := Aside0.mk hi161_1; have HC161_1 := Aside0.mk hl161_1; clear hi161_1 hl161_1; have HR161_2 := Aside0.mk hi161_2; have HC161_2 := Aside0.mk hl161_2; clear hi161_2 hl161_2; replace hx161_0 := (cell_far (p := ⟨gb160, 0, none⟩) (by first | (rw [add_block]; exact hn161_0) | (show (Addr.add _ _).block ≠ _; rw [add_block]; exact hn161_0) | exact hn161_0) (.int .i8 ((rd_T81 ((rd_T31 l0 0).f1) a1).f0))).trans hx161_0; replace hx161_1 := (cell_far (p := ⟨gb160, 0, none⟩) (by first | (rw [add_block]; exact hn161_0) | (show (Addr.add _ _).block ≠ _; rw [add_block]; exact hn161_0) | exact hn161_0) (.int .i8 ((rd_T81 ((rd_T31 l0 0).f1) a1).f0))).trans hx161_1; replace hx161_2 := (cell_far (p := ⟨gb160, 0, none⟩) (by first | (rw [add_block]; exact hn161_0) | (show (Addr.add _ _).block ≠ _; rw [add_block]; exact hn161_0) | exact hn161_0) (.int .i8 ((rd_T81 ((rd_T31 l0 0).f1) a1).f0))).trans hx161_2; replace hx161_0 := (cell_far (p := ⟨gb160, 1, none⟩) (by first | (rw [add_block]; exact hn161_1) | (show (Addr.add _ _).block ≠ _; rw [add_block]; exact hn161_1) | exact hn161_1) (.int .i16 ((rd_T81 ((rd_T31 l0 0).f1) a1).f1))).trans hx161_0; replace hx161_1 := (cell_far (p := ⟨gb160, 1, none⟩) (by first | (rw [add_block]; exact hn161_1) | (show (Addr.add _ _).block ≠ _; rw [add_block]; exact hn161_1) | exact hn161_1) (.int .i16 ((rd_T81 ((rd_T31 l0 0).f1) a1).f1))).trans hx161_1; replace hx161_2 := (cell_far (p := ⟨gb160, 1, none⟩) (by first | (rw [add_block]; exact hn161_1) | (show (Addr.add _ _).block ≠ _; rw [add_block]; exact hn161_1) | exact hn161_1) (.int .i16 ((rd_T81 ((rd_T31 l0 0).f1) a1).f1))).trans hx161_2; replace hx161_0 := (cell_far (p := ⟨gb160, 2, none⟩) (by first | (rw [add_block]; exact hn161_2) | (show (Addr.add _ _).block ≠ _; rw [add_block]; exact hn161_2) | exact hn161_2) (.int .i16 ((rd_T81 ((rd_T31 l0 0).f1) a1).f2))).trans hx161_0; replace hx161_1 := (cell_far (p := ⟨gb160, 2, none⟩) (by first | (rw [add_block]; exact hn161_2) | (show (Addr.add _ _).block ≠ _; rw [add_block]; exact hn161_2) | exact hn161_2) (.int .i16 ((rd_T81 ((rd_T31 l0 0).f1) a1).f2))).trans hx161_1; replace hx161_2 := (cell_far (p := ⟨gb160, 2, none⟩) (by first | (rw [add_block]; exact hn161_2) | (show (Addr.add _ _).block ≠ _; rw [add_block]; exact hn161_2) | exact hn161_2) (.int .i16 ((rd_T81 ((rd_T31 l0 0).f1) a1).f2))).trans hx161_2; (try have hy161_0 := fun (n_ : Nat) => (show (((((w11.drewN n_).setCell ⟨gb160, 0, none⟩ (.int .i8 ((rd_T81 ((rd_T31 l0 0).f1) a1).f0))).setCell ⟨gb160, 1, none⟩ (.int .i16 ((rd_T81 ((rd_T31 l0 0).f1) a1).f1))).setCell ⟨gb160, 2, none⟩ (.int .i16 ((rd_T81 ((rd_T31 l0 0).f1) a1).f2)))).cell? _ = some _ from hx161_0)); (try have hy161_1 := fun (n_ : Nat) => (show (((((w11.drewN n_).setCell ⟨gb160, 0, none⟩ (.int .i8 ((rd_T81 ((rd_T31 l0 0).f1) a1).f0))).setCell ⟨gb160, 1, none⟩ (.int .i16 ((rd_T81 ((rd_T31 l0 0).f1) a1).f1))).setCell ⟨gb160, 2, none⟩ (.int .i16 ((rd_T81 ((rd_T31 l0 0).f1) a1).f2)))).cell? _ = some _ from hx161_1)); (try have hy161_2 := fun (n_ : Nat) => (show (((((w11.drewN n_).setCell ⟨gb160, 0, none⟩ (.int .i8 ((rd_T81 ((rd_T31 l0 0).f1) a1).f0))).setCell ⟨gb160, 1, none⟩ (.int .i16 ((rd_T81 ((rd_T31 l0 0).f1) a1).f1))).setCell ⟨gb160, 2, none⟩ (.int .i16 ((rd_T81 ((rd_T31 l0 0).f1) a1).f2)))).cell? _ = some _ from hx161_2)); clear hn161_0; clear hn161_1; clear hn161_2; replace p161 := eq_true p161; replace q161 := eq_true q161) | go_quiet (fail))
  go_ret
  exact ⟨by first | rfl | (simp [errW_none, errW_some] <;> rfl) | (simp [*, errW_none, errW_some] <;> rfl), by repeat (first | (with_reducible first | exact HB.out | apply below_alloc | apply pw_below_drewN | apply below_drew1 | refine below_set ?_ GE160.out) | exact HB.out)⟩
 rw [if_neg c6] at H
 have c6b0 : (((rd_T81 ((rd_T31 l0 0).f1) a1).f0) == 0) = false := beq_eq_false_iff_ne.mpr c6
 have c6b1 : (((rd_T81 ((rd_T31 l0 0).f1) a1).f0) != 0) = true := bne_iff_ne.mpr c6
 by_cases c15 : ((rd_T81 ((rd_T31 l0 0).f1) a1).f0) = 1
 ·rw [if_pos c15] at H
  have c15b0 : (((rd_T81 ((rd_T31 l0 0).f1) a1).f0) == 1) = true := beq_iff_eq.mpr c15
  have c15b1 : (((rd_T81 ((rd_T31 l0 0).f1) a1).f0) != 1) = false := bne_eq_false_iff_eq.mpr c15
  clear c15
  by_cases c16 : ((rd_T81 ((rd_T31 l0 0).f1) a1).f1) = 0
  rotate_left
  ·rw [if_neg c16] at H
   have c16b0 : (((rd_T81 ((rd_T31 l0 0).f1) a1).f1) == 0) = false := beq_eq_false_iff_ne.mpr c16
   have c16b1 : (((rd_T81 ((rd_T31 l0 0).f1) a1).f1) != 0) = true := bne_iff_ne.mpr c16
   obtain rfl := Option.some.inj H
   have p158 : 0 ≤ (0 : Int) := (by omega)
   have q158 : 0 < (l0.length : Int) := of_decide_eq_true (by first | (with_reducible assumption) | assumption)
   obtain ⟨ad158, A158_1, c158_1, A158_2, c158_2, e158, hx158_0, hx158_1, hx158_2, hl158_1, hi158_1, hl158_2, hi158_2⟩ := at_T31 HR0.out 0 p158 q158
   obtain rfl : adp0 = ad158 := (by injection e158)
   have qi158 : (0 < l0.length) = True := eq_true (by omega)
   (try rw [show ((0 : Int)).toNat = 0 from rfl] at hx158_0)
   (try rw [show 0 * 3 = 0 from rfl] at hx158_0)
   (try rw [Addr.add_zero'] at hx158_0)
   (try rw [show ((0 : Int)).toNat = 0 from rfl] at hx158_1)
   (try rw [show 0 * 3 = 0 from rfl] at hx158_1)
   (try rw [Addr.add_zero'] at hx158_1)
   (try rw [show ((0 : Int)).toNat = 0 from rfl] at hx158_2)
   (try rw [show 0 * 3 = 0 from rfl] at hx158_2)
   (try rw [Addr.add_zero'] at hx158_2)
   have HR158_1 := Aside0.mk hi158_1
   have HC158_1 := Aside0.mk hl158_1
   clear hi158_1 hl158_1
   have HR158_2 := Aside0.mk hi158_2
   have HC158_2 := Aside0.mk hl158_2
   clear hi158_2 hl158_2
   replace p158 := eq_true p158
   replace q158 := eq_true q158
   have p159 : 0 ≤ (a1 : Int) := of_decide_eq_true (by first | (with_reducible assumption) | assumption)
   have q159 : a1 < (((rd_T31 l0 0).f1).length : Int) := of_decide_eq_true (by first | (with_reducible assumption) | assumption)
   obtain ⟨ad159, e159, hx159_0, hx159_1, hx159_2⟩ := at_T81 HR158_1.out a1 p159 q159
   cases e159
   replace p159 := eq_true p159
   replace q159 := eq_true q159
   go_enter Try.func125, Try.ntmps125
   go_wp2_with (first | ((with_reducible refine gate_dst (N := 5) rfl ?_); refine box_event ?hg (N := 5) ?hd (cs := #[.int .i8 0, .int .i16 0, .int .i16 0]) (t := 81) ?hr ?_; (case hd => rfl); (case hg => rfl); (case hr => first | (go_simp; done) | (go_simp; rfl)); intro gb160 hg w19 hbox hb; have n_ : _ ∧ _ ∧ _ ∧ _ := ⟨zb HB hb, Aside0.mk (hbox), zg HB hg, zg HB hg⟩; clear HB; obtain ⟨HB, BK160, GW160, GE160⟩ := n_; clear hb hbox hg; obtain ⟨z20_0, z20_1, z20_2, y20_0, y20_1, y20_2⟩ := zB3 BK160) | go_quiet (fail))
   go_ret
   exact ⟨by first | rfl | (simp [errW_none, errW_some] <;> rfl) | (simp [*, errW_none, errW_some] <;> rfl), by repeat (first | (with_reducible first | exact HB.out | apply below_alloc | apply pw_below_drewN | apply below_drew1 | refine below_set ?_ GE160.out) | exact HB.out)⟩
  rw [if_pos c16] at H
  have c16b0 : (((rd_T81 ((rd_T31 l0 0).f1) a1).f1) == 0) = true := beq_iff_eq.mpr c16
  have c16b1 : (((rd_T81 ((rd_T31 l0 0).f1) a1).f1) != 0) = false := bne_eq_false_iff_eq.mpr c16
  clear c16
  obtain rfl := Option.some.inj H
  have p158 : 0 ≤ (0 : Int) := (by omega)
  have q158 : 0 < (l0.length : Int) := of_decide_eq_true (by first | (with_reducible assumption) | assumption)
  obtain ⟨ad158, A158_1, c158_1, A158_2, c158_2, e158, hx158_0, hx158_1, hx158_2, hl158_1, hi158_1, hl158_2, hi158_2⟩ := at_T31 HR0.out 0 p158 q158
  obtain rfl : adp0 = ad158 := (by injection e158)
  have qi158 : (0 < l0.length) = True := eq_true (by omega)
  (try rw [show ((0 : Int)).toNat = 0 from rfl] at hx158_0)
  (try rw [show 0 * 3 = 0 from rfl] at hx158_0)
  (try rw [Addr.add_zero'] at hx158_0)
  (try rw [show ((0 : Int)).toNat = 0 from rfl] at hx158_1)
  (try rw [show 0 * 3 = 0 from rfl] at hx158_1)
  (try rw [Addr.add_zero'] at hx158_1)
  (try rw [show ((0 : Int)).toNat = 0 from rfl] at hx158_2)
  (try rw [show 0 * 3 = 0 from rfl] at hx158_2)
  (try rw [Addr.add_zero'] at hx158_2)
  have HR158_1 := Aside0.mk hi158_1
  have HC158_1 := Aside0.mk hl158_1
  clear hi158_1 hl158_1
  have HR158_2 := Aside0.mk hi158_2
  have HC158_2 := Aside0.mk hl158_2
  clear hi158_2 hl158_2
  replace p158 := eq_true p158
  replace q158 := eq_true q158
  have p159 : 0 ≤ (a1 : Int) := of_decide_eq_true (by first | (with_reducible assumption) | assumption)
  have q159 : a1 < (((rd_T31 l0 0).f1).length : Int) := of_decide_eq_true (by first | (with_reducible assumption) | assumption)
  obtain ⟨ad159, e159, hx159_0, hx159_1, hx159_2⟩ := at_T81 HR158_1.out a1 p159 q159
  cases e159
  replace p159 := eq_true p159
  replace q159 := eq_true q159
  go_enter Try.func125, Try.ntmps125
  go_wp2_with (first | ((with_reducible refine gate_dst (N := 5) rfl ?_); refine box_event ?hg (N := 5) ?hd (cs := #[.int .i8 0, .int .i16 0, .int .i16 0]) (t := 81) ?hr ?_; (case hd => rfl); (case hg => rfl); (case hr => first | (go_simp; done) | (go_simp; rfl)); intro gb160 hg w17 hbox hb; have n_ : _ ∧ _ ∧ _ ∧ _ := ⟨zb HB hb, Aside0.mk (hbox), zg HB hg, zg HB hg⟩; clear HB; obtain ⟨HB, BK160, GW160, GE160⟩ := n_; clear hb hbox hg; obtain ⟨z18_0, z18_1, z18_2, y18_0, y18_1, y18_2⟩ := zB3 BK160) | go_quiet (fail))
  go_ret
  exact ⟨by first | rfl | (simp [errW_none, errW_some] <;> rfl) | (simp [*, errW_none, errW_some] <;> rfl), by repeat (first | (with_reducible first | exact HB.out | apply below_alloc | apply pw_below_drewN | apply below_drew1 | refine below_set ?_ GE160.out) | exact HB.out)⟩
 rw [if_neg c15] at H
 have c15b0 : (((rd_T81 ((rd_T31 l0 0).f1) a1).f0) == 1) = false := beq_eq_false_iff_ne.mpr c15
 have c15b1 : (((rd_T81 ((rd_T31 l0 0).f1) a1).f0) != 1) = true := bne_iff_ne.mpr c15
 by_cases c21 : ((rd_T81 ((rd_T31 l0 0).f1) a1).f0) = 2
 ·rw [if_pos c21] at H
  have c21b0 : (((rd_T81 ((rd_T31 l0 0).f1) a1).f0) == 2) = true := beq_iff_eq.mpr c21
  have c21b1 : (((rd_T81 ((rd_T31 l0 0).f1) a1).f0) != 2) = false := bne_eq_false_iff_eq.mpr c21
  clear c21
  by_cases c22 : ((rd_T81 ((rd_T31 l0 0).f1) a1).f1) ≥ 0
  rotate_left
  ·rw [if_neg c22] at H
   have c22b0 : decide (0 ≤ ((rd_T81 ((rd_T31 l0 0).f1) a1).f1)) = false := decide_eq_false c22
   clear c22
   obtain rfl := Option.some.inj H
   have p158 : 0 ≤ (0 : Int) := (by omega)
   have q158 : 0 < (l0.length : Int) := of_decide_eq_true (by first | (with_reducible assumption) | assumption)
   obtain ⟨ad158, A158_1, c158_1, A158_2, c158_2, e158, hx158_0, hx158_1, hx158_2, hl158_1, hi158_1, hl158_2, hi158_2⟩ := at_T31 HR0.out 0 p158 q158
   obtain rfl : adp0 = ad158 := (by injection e158)
   have qi158 : (0 < l0.length) = True := eq_true (by omega)
   (try rw [show ((0 : Int)).toNat = 0 from rfl] at hx158_0)
   (try rw [show 0 * 3 = 0 from rfl] at hx158_0)
   (try rw [Addr.add_zero'] at hx158_0)
   (try rw [show ((0 : Int)).toNat = 0 from rfl] at hx158_1)
   (try rw [show 0 * 3 = 0 from rfl] at hx158_1)
   (try rw [Addr.add_zero'] at hx158_1)
   (try rw [show ((0 : Int)).toNat = 0 from rfl] at hx158_2)
   (try rw [show 0 * 3 = 0 from rfl] at hx158_2)
   (try rw [Addr.add_zero'] at hx158_2)
   have HR158_1 := Aside0.mk hi158_1
   have HC158_1 := Aside0.mk hl158_1
   clear hi158_1 hl158_1
   have HR158_2 := Aside0.mk hi158_2
   have HC158_2 := Aside0.mk hl158_2
   clear hi158_2 hl158_2
   replace p158 := eq_true p158
   replace q158 := eq_true q158
   have p159 : 0 ≤ (a1 : Int) := of_decide_eq_true (by first | (with_reducible assumption) | assumption)
   have q159 : a1 < (((rd_T31 l0 0).f1).length : Int) := of_decide_eq_true (by first | (with_reducible assumption) | assumption)
   obtain ⟨ad159, e159, hx159_0, hx159_1, hx159_2⟩ := at_T81 HR158_1.out a1 p159 q159
   cases e159
   replace p159 := eq_true p159
   replace q159 := eq_true q159
   go_enter Try.func125, Try.ntmps125
   go_wp2_with (first | ((with_reducible refine gate_dst (N := 5) rfl ?_); refine box_event ?hg (N := 5) ?hd (cs := #[.int .i8 0, .int .i16 0, .int .i16 0]) (t := 81) ?hr ?_; (case hd => rfl); (case hg => rfl); (case hr => first | (go_simp; done) | (go_simp; rfl)); intro gb160 hg w31 hbox hb; have n_ : _ ∧ _ ∧ _ ∧ _ := ⟨zb HB hb, Aside0.mk (hbox), zg HB hg, zg HB hg⟩; clear HB; obtain ⟨HB, BK160, GW160, GE160⟩ := n_; clear hb hbox hg; obtain ⟨z32_0, z32_1, z32_2, y32_0, y32_1, y32_2⟩ := zB3 BK160) | go_quiet (fail))
   go_ret
   exact ⟨by first | rfl | (simp [errW_none, errW_some] <;> rfl) | (simp [*, errW_none, errW_some] <;> rfl), by repeat (first | (with_reducible first | exact HB.out | apply below_alloc | apply pw_below_drewN | apply below_drew1 | refine below_set ?_ GE160.out) | exact HB.out)⟩
  rw [if_pos c22] at H
  have c22b0 : decide (0 ≤ ((rd_T81 ((rd_T31 l0 0).f1) a1).f1)) = true := decide_eq_true c22
  clear c22
  by_cases c23 : (wrap64 ((rd_T81 ((rd_T31 l0 0).f1) a1).f1)) < a1
  rotate_left
  ·rw [if_neg c23] at H
   have c23b0 : decide ((wrap64 ((rd_T81 ((rd_T31 l0 0).f1) a1).f1)) < a1) = false := decide_eq_false c23
   clear c23
   obtain rfl := Option.some.inj H
   have p158 : 0 ≤ (0 : Int) := (by omega)
   have q158 : 0 < (l0.length : Int) := of_decide_eq_true (by first | (with_reducible assumption) | assumption)
   obtain ⟨ad158, A158_1, c158_1, A158_2, c158_2, e158, hx158_0, hx158_1, hx158_2, hl158_1, hi158_1, hl158_2, hi158_2⟩ := at_T31 HR0.out 0 p158 q158
   obtain rfl : adp0 = ad158 := (by injection e158)
   have qi158 : (0 < l0.length) = True := eq_true (by omega)
   (try rw [show ((0 : Int)).toNat = 0 from rfl] at hx158_0)
   (try rw [show 0 * 3 = 0 from rfl] at hx158_0)
   (try rw [Addr.add_zero'] at hx158_0)
   (try rw [show ((0 : Int)).toNat = 0 from rfl] at hx158_1)
   (try rw [show 0 * 3 = 0 from rfl] at hx158_1)
   (try rw [Addr.add_zero'] at hx158_1)
   (try rw [show ((0 : Int)).toNat = 0 from rfl] at hx158_2)
   (try rw [show 0 * 3 = 0 from rfl] at hx158_2)
   (try rw [Addr.add_zero'] at hx158_2)
   have HR158_1 := Aside0.mk hi158_1
   have HC158_1 := Aside0.mk hl158_1
   clear hi158_1 hl158_1
   have HR158_2 := Aside0.mk hi158_2
   have HC158_2 := Aside0.mk hl158_2
   clear hi158_2 hl158_2
   replace p158 := eq_true p158
   replace q158 := eq_true q158
   have p159 : 0 ≤ (a1 : Int) := of_decide_eq_true (by first | (with_reducible assumption) | assumption)
   have q159 : a1 < (((rd_T31 l0 0).f1).length : Int) := of_decide_eq_true (by first | (with_reducible assumption) | assumption)
   obtain ⟨ad159, e159, hx159_0, hx159_1, hx159_2⟩ := at_T81 HR158_1.out a1 p159 q159
   cases e159
   replace p159 := eq_true p159
   replace q159 := eq_true q159
   go_enter Try.func125, Try.ntmps125
   go_wp2_with (first | ((with_reducible refine gate_dst (N := 5) rfl ?_); refine box_event ?hg (N := 5) ?hd (cs := #[.int .i8 0, .int .i16 0, .int .i16 0]) (t := 81) ?hr ?_; (case hd => rfl); (case hg => rfl); (case hr => first | (go_simp; done) | (go_simp; rfl)); intro gb160 hg w29 hbox hb; have n_ : _ ∧ _ ∧ _ ∧ _ := ⟨zb HB hb, Aside0.mk (hbox), zg HB hg, zg HB hg⟩; clear HB; obtain ⟨HB, BK160, GW160, GE160⟩ := n_; clear hb hbox hg; obtain ⟨z30_0, z30_1, z30_2, y30_0, y30_1, y30_2⟩ := zB3 BK160) | go_quiet (fail))
   go_ret
   exact ⟨by first | rfl | (simp [errW_none, errW_some] <;> rfl) | (simp [*, errW_none, errW_some] <;> rfl), by repeat (first | (with_reducible first | exact HB.out | apply below_alloc | apply pw_below_drewN | apply below_drew1 | refine below_set ?_ GE160.out) | exact HB.out)⟩
  rw [if_pos c23] at H
  have c23b0 : decide ((wrap64 ((rd_T81 ((rd_T31 l0 0).f1) a1).f1)) < a1) = true := decide_eq_true c23
  clear c23
  by_cases c24 : ((rd_T81 ((rd_T31 l0 0).f1) a1).f2) ≥ 0
  ·rw [if_pos c24] at H
   have c24b0 : decide (0 ≤ ((rd_T81 ((rd_T31 l0 0).f1) a1).f2)) = true := decide_eq_true c24
   clear c24
   obtain rfl := Option.some.inj H
   have p158 : 0 ≤ (0 : Int) := (by omega)
   have q158 : 0 < (l0.length : Int) := of_decide_eq_true (by first | (with_reducible assumption) | assumption)
   obtain ⟨ad158, A158_1, c158_1, A158_2, c158_2, e158, hx158_0, hx158_1, hx158_2, hl158_1, hi158_1, hl158_2, hi158_2⟩ := at_T31 HR0.out 0 p158 q158
   obtain rfl : adp0 = ad158 := (by injection e158)
   have qi158 : (0 < l0.length) = True := eq_true (by omega)
   (try rw [show ((0 : Int)).toNat = 0 from rfl] at hx158_0)
   (try rw [show 0 * 3 = 0 from rfl] at hx158_0)
   (try rw [Addr.add_zero'] at hx158_0)
   (try rw [show ((0 : Int)).toNat = 0 from rfl] at hx158_1)
   (try rw [show 0 * 3 = 0 from rfl] at hx158_1)
   (try rw [Addr.add_zero'] at hx158_1)
   (try rw [show ((0 : Int)).toNat = 0 from rfl] at hx158_2)
   (try rw [show 0 * 3 = 0 from rfl] at hx158_2)
   (try rw [Addr.add_zero'] at hx158_2)
   have HR158_1 := Aside0.mk hi158_1
   have HC158_1 := Aside0.mk hl158_1
   clear hi158_1 hl158_1
   have HR158_2 := Aside0.mk hi158_2
   have HC158_2 := Aside0.mk hl158_2
   clear hi158_2 hl158_2
   replace p158 := eq_true p158
   replace q158 := eq_true q158
   have p159 : 0 ≤ (a1 : Int) := of_decide_eq_true (by first | (with_reducible assumption) | assumption)
   have q159 : a1 < (((rd_T31 l0 0).f1).length : Int) := of_decide_eq_true (by first | (with_reducible assumption) | assumption)
   obtain ⟨ad159, e159, hx159_0, hx159_1, hx159_2⟩ := at_T81 HR158_1.out a1 p159 q159
   cases e159
   replace p159 := eq_true p159
   replace q159 := eq_true q159
   go_enter Try.func125, Try.ntmps125
   go_wp2_with (first | ((with_reducible refine gate_dst (N := 5) rfl ?_); refine box_event ?hg (N := 5) ?hd (cs := #[.int .i8 0, .int .i16 0, .int .i16 0]) (t := 81) ?hr ?_; (case hd => rfl); (case hg => rfl); (case hr => first | (go_simp; done) | (go_simp; rfl)); intro gb160 hg w25 hbox hb; have n_ : _ ∧ _ ∧ _ ∧ _ := ⟨zb HB hb, Aside0.mk (hbox), zg HB hg, zg HB hg⟩; clear HB; obtain ⟨HB, BK160, GW160, GE160⟩ := n_; clear hb hbox hg; obtain ⟨z26_0, z26_1, z26_2, y26_0, y26_1, y26_2⟩ := zB3 BK160) | go_quiet (fail))
   go_ret
   exact ⟨by first | rfl | (simp [errW_none, errW_some] <;> rfl) | (simp [*, errW_none, errW_some] <;> rfl), by repeat (first | (with_reducible first | exact HB.out | apply below_alloc | apply pw_below_drewN | apply below_drew1 | refine below_set ?_ GE160.out) | exact HB.out)⟩
  rw [if_neg c24] at H
  have c24b0 : decide (0 ≤ ((rd_T81 ((rd_T31 l0 0).f1) a1).f2)) = false := decide_eq_false c24
  clear c24
  obtain rfl := Option.some.inj H
  have p158 : 0 ≤ (0 : Int) := (by omega)
  have q158 : 0 < (l0.length : Int) := of_decide_eq_true (by first | (with_reducible assumption) | assumption)
  obtain ⟨ad158, A158_1, c158_1, A158_2, c158_2, e158, hx158_0, hx158_1, hx158_2, hl158_1, hi158_1, hl158_2, hi158_2⟩ := at_T31 HR0.out 0 p158 q158
  obtain rfl : adp0 = ad158 := (by injection e158)
  have qi158 : (0 < l0.length) = True := eq_true (by omega)
  (try rw [show ((0 : Int)).toNat = 0 from rfl] at hx158_0)
  (try rw [show 0 * 3 = 0 from rfl] at hx158_0)
  (try rw [Addr.add_zero'] at hx158_0)
  (try rw [show ((0 : Int)).toNat = 0 from rfl] at hx158_1)
  (try rw [show 0 * 3 = 0 from rfl] at hx158_1)
  (try rw [Addr.add_zero'] at hx158_1)
  (try rw [show ((0 : Int)).toNat = 0 from rfl] at hx158_2)
  (try rw [show 0 * 3 = 0 from rfl] at hx158_2)
  (try rw [Addr.add_zero'] at hx158_2)
  have HR158_1 := Aside0.mk hi158_1
  have HC158_1 := Aside0.mk hl158_1
  clear hi158_1 hl158_1
  have HR158_2 := Aside0.mk hi158_2
  have HC158_2 := Aside0.mk hl158_2
  clear hi158_2 hl158_2
  replace p158 := eq_true p158
  replace q158 := eq_true q158
  have p159 : 0 ≤ (a1 : Int) := of_decide_eq_true (by first | (with_reducible assumption) | assumption)
  have q159 : a1 < (((rd_T31 l0 0).f1).length : Int) := of_decide_eq_true (by first | (with_reducible assumption) | assumption)
  obtain ⟨ad159, e159, hx159_0, hx159_1, hx159_2⟩ := at_T81 HR158_1.out a1 p159 q159
  cases e159
  replace p159 := eq_true p159
  replace q159 := eq_true q159
  go_enter Try.func125, Try.ntmps125
  go_wp2_with (first | ((with_reducible refine gate_dst (N := 5) rfl ?_); refine box_event ?hg (N := 5) ?hd (cs := #[.int .i8 0, .int .i16 0, .int .i16 0]) (t := 81) ?hr ?_; (case hd => rfl); (case hg => rfl); (case hr => first | (go_simp; done) | (go_simp; rfl)); intro gb160 hg w27 hbox hb; have n_ : _ ∧ _ ∧ _ ∧ _ := ⟨zb HB hb, Aside0.mk (hbox), zg HB hg, zg HB hg⟩; clear HB; obtain ⟨HB, BK160, GW160, GE160⟩ := n_; clear hb hbox hg; obtain ⟨z28_0, z28_1, z28_2, y28_0, y28_1, y28_2⟩ := zB3 BK160) | go_quiet (fail))
  go_ret
  exact ⟨by first | rfl | (simp [errW_none, errW_some] <;> rfl) | (simp [*, errW_none, errW_some] <;> rfl), by repeat (first | (with_reducible first | exact HB.out | apply below_alloc | apply pw_below_drewN | apply below_drew1 | refine below_set ?_ GE160.out) | exact HB.out)⟩
 rw [if_neg c21] at H
 have c21b0 : (((rd_T81 ((rd_T31 l0 0).f1) a1).f0) == 2) = false := beq_eq_false_iff_ne.mpr c21
 have c21b1 : (((rd_T81 ((rd_T31 l0 0).f1) a1).f0) != 2) = true := bne_iff_ne.mpr c21
 by_cases c33 : ((rd_T81 ((rd_T31 l0 0).f1) a1).f0) = 3
 rotate_left
 ·rw [if_neg c33] at H
  have c33b0 : (((rd_T81 ((rd_T31 l0 0).f1) a1).f0) == 3) = false := beq_eq_false_iff_ne.mpr c33
  have c33b1 : (((rd_T81 ((rd_T31 l0 0).f1) a1).f0) != 3) = true := bne_iff_ne.mpr c33
  obtain rfl := Option.some.inj H
  have p158 : 0 ≤ (0 : Int) := (by omega)
  have q158 : 0 < (l0.length : Int) := of_decide_eq_true (by first | (with_reducible assumption) | assumption)
  obtain ⟨ad158, A158_1, c158_1, A158_2, c158_2, e158, hx158_0, hx158_1, hx158_2, hl158_1, hi158_1, hl158_2, hi158_2⟩ := at_T31 HR0.out 0 p158 q158
  obtain rfl : adp0 = ad158 := (by injection e158)
  have qi158 : (0 < l0.length) = True := eq_true (by omega)
  (try rw [show ((0 : Int)).toNat = 0 from rfl] at hx158_0)
  (try rw [show 0 * 3 = 0 from rfl] at hx158_0)
  (try rw [Addr.add_zero'] at hx158_0)
  (try rw [show ((0 : Int)).toNat = 0 from rfl] at hx158_1)
  (try rw [show 0 * 3 = 0 from rfl] at hx158_1)
  (try rw [Addr.add_zero'] at hx158_1)
  (try rw [show ((0 : Int)).toNat = 0 from rfl] at hx158_2)
  (try rw [show 0 * 3 = 0 from rfl] at hx158_2)
  (try rw [Addr.add_zero'] at hx158_2)
  have HR158_1 := Aside0.mk hi158_1
  have HC158_1 := Aside0.mk hl158_1
  clear hi158_1 hl158_1
  have HR158_2 := Aside0.mk hi158_2
  have HC158_2 := Aside0.mk hl158_2
  clear hi158_2 hl158_2
  replace p158 := eq_true p158
  replace q158 := eq_true q158
  have p159 : 0 ≤ (a1 : Int) := of_decide_eq_true (by first | (with_reducible assumption) | assumption)
  have q159 : a1 < (((rd_T31 l0 0).f1).length : Int) := of_decide_eq_true (by first | (with_reducible assumption) | assumption)
  obtain ⟨ad159, e159, hx159_0, hx159_1, hx159_2⟩ := at_T81 HR158_1.out a1 p159 q159
  cases e159
  replace p159 := eq_true p159
  replace q159 := eq_true q159
  go_enter Try.func125, Try.ntmps125
  go_wp2_with (first | ((with_reducible refine gate_dst (N := 5) rfl ?_); refine box_event ?hg (N := 5) ?hd (cs := #[.int .i8 0, .int .i16 0, .int .i16 0]) (t := 81) ?hr ?_; (case hd => rfl); (case hg => rfl); (case hr => first | (go_simp; done) | (go_simp; rfl)); intro gb160 hg w45 hbox hb; have n_ : _ ∧ _ ∧ _ ∧ _ := ⟨zb HB hb, Aside0.mk (hbox), zg HB hg, zg HB hg⟩; clear HB; obtain ⟨HB, BK160, GW160, GE160⟩ := n_; clear hb hbox hg; obtain ⟨z46_0, z46_1, z46_2, y46_0, y46_1, y46_2⟩ := zB3 BK160) | go_quiet (fail))
  go_ret
  exact ⟨by first | rfl | (simp [errW_none, errW_some] <;> rfl) | (simp [*, errW_none, errW_some] <;> rfl), by repeat (first | (with_reducible first | exact HB.out | apply below_alloc | apply pw_below_drewN | apply below_drew1 | refine below_set ?_ GE160.out) | exact HB.out)⟩
 rw [if_pos c33] at H
 have c33b0 : (((rd_T81 ((rd_T31 l0 0).f1) a1).f0) == 3) = true := beq_iff_eq.mpr c33
 have c33b1 : (((rd_T81 ((rd_T31 l0 0).f1) a1).f0) != 3) = false := bne_eq_false_iff_eq.mpr c33
 clear c33
 by_cases c34 : ((rd_T81 ((rd_T31 l0 0).f1) a1).f1) ≥ 0
 rotate_left
 ·rw [if_neg c34] at H
  have c34b0 : decide (0 ≤ ((rd_T81 ((rd_T31 l0 0).f1) a1).f1)) = false := decide_eq_false c34
  clear c34
  obtain rfl := Option.some.inj H
  have p158 : 0 ≤ (0 : Int) := (by omega)
  have q158 : 0 < (l0.length : Int) := of_decide_eq_true (by first | (with_reducible assumption) | assumption)
  obtain ⟨ad158, A158_1, c158_1, A158_2, c158_2, e158, hx158_0, hx158_1, hx158_2, hl158_1, hi158_1, hl158_2, hi158_2⟩ := at_T31 HR0.out 0 p158 q158
  obtain rfl : adp0 = ad158 := (by injection e158)
  have qi158 : (0 < l0.length) = True := eq_true (by omega)
  (try rw [show ((0 : Int)).toNat = 0 from rfl] at hx158_0)
  (try rw [show 0 * 3 = 0 from rfl] at hx158_0)
  (try rw [Addr.add_zero'] at hx158_0)
  (try rw [show ((0 : Int)).toNat = 0 from rfl] at hx158_1)
  (try rw [show 0 * 3 = 0 from rfl] at hx158_1)
  (try rw [Addr.add_zero'] at hx158_1)
  (try rw [show ((0 : Int)).toNat = 0 from rfl] at hx158_2)
  (try rw [show 0 * 3 = 0 from rfl] at hx158_2)
  (try rw [Addr.add_zero'] at hx158_2)
  have HR158_1 := Aside0.mk hi158_1
  have HC158_1 := Aside0.mk hl158_1
  clear hi158_1 hl158_1
  have HR158_2 := Aside0.mk hi158_2
  have HC158_2 := Aside0.mk hl158_2
  clear hi158_2 hl158_2
  replace p158 := eq_true p158
  replace q158 := eq_true q158
  have p159 : 0 ≤ (a1 : Int) := of_decide_eq_true (by first | (with_reducible assumption) | assumption)
  have q159 : a1 < (((rd_T31 l0 0).f1).length : Int) := of_decide_eq_true (by first | (with_reducible assumption) | assumption)
  obtain ⟨ad159, e159, hx159_0, hx159_1, hx159_2⟩ := at_T81 HR158_1.out a1 p159 q159
  cases e159
  replace p159 := eq_true p159
  replace q159 := eq_true q159
  go_enter Try.func125, Try.ntmps125
  go_wp2_with (first | ((with_reducible refine gate_dst (N := 5) rfl ?_); refine box_event ?hg (N := 5) ?hd (cs := #[.int .i8 0, .int .i16 0, .int .i16 0]) (t := 81) ?hr ?_; (case hd => rfl); (case hg => rfl); (case hr => first | (go_simp; done) | (go_simp; rfl)); intro gb160 hg w43 hbox hb; have n_ : _ ∧ _ ∧ _ ∧ _ := ⟨zb HB hb, Aside0.mk (hbox), zg HB hg, zg HB hg⟩; clear HB; obtain ⟨HB, BK160, GW160, GE160⟩ := n_; clear hb hbox hg; obtain ⟨z44_0, z44_1, z44_2, y44_0, y44_1, y44_2⟩ := zB3 BK160) | go_quiet (fail))
  go_ret
  exact ⟨by first | rfl | (simp [errW_none, errW_some] <;> rfl) | (simp [*, errW_none, errW_some] <;> rfl), by repeat (first | (with_reducible first | exact HB.out | apply below_alloc | apply pw_below_drewN | apply below_drew1 | refine below_set ?_ GE160.out) | exact HB.out)⟩
 rw [if_pos c34] at H
 have c34b0 : decide (0 ≤ ((rd_T81 ((rd_T31 l0 0).f1) a1).f1)) = true := decide_eq_true c34
 clear c34
 by_cases c35 : (wrap64 ((rd_T81 ((rd_T31 l0 0).f1) a1).f1)) < a1
 rotate_left
 ·rw [if_neg c35] at H
  have c35b0 : decide ((wrap64 ((rd_T81 ((rd_T31 l0 0).f1) a1).f1)) < a1) = false := decide_eq_false c35
  clear c35
  obtain rfl := Option.some.inj H
  have p158 : 0 ≤ (0 : Int) := (by omega)
  have q158 : 0 < (l0.length : Int) := of_decide_eq_true (by first | (with_reducible assumption) | assumption)
  obtain ⟨ad158, A158_1, c158_1, A158_2, c158_2, e158, hx158_0, hx158_1, hx158_2, hl158_1, hi158_1, hl158_2, hi158_2⟩ := at_T31 HR0.out 0 p158 q158
  obtain rfl : adp0 = ad158 := (by injection e158)
  have qi158 : (0 < l0.length) = True := eq_true (by omega)
  (try rw [show ((0 : Int)).toNat = 0 from rfl] at hx158_0)
  (try rw [show 0 * 3 = 0 from rfl] at hx158_0)
  (try rw [Addr.add_zero'] at hx158_0)
  (try rw [show ((0 : Int)).toNat = 0 from rfl] at hx158_1)
  (try rw [show 0 * 3 = 0 from rfl] at hx158_1)
  (try rw [Addr.add_zero'] at hx158_1)
  (try rw [show ((0 : Int)).toNat = 0 from rfl] at hx158_2)
  (try rw [show 0 * 3 = 0 from rfl] at hx158_2)
  (try rw [Addr.add_zero'] at hx158_2)
  have HR158_1 := Aside0.mk hi158_1
  have HC158_1 := Aside0.mk hl158_1
  clear hi158_1 hl158_1
  have HR158_2 := Aside0.mk hi158_2
  have HC158_2 := Aside0.mk hl158_2
  clear hi158_2 hl158_2
  replace p158 := eq_true p158
  replace q158 := eq_true q158
  have p159 : 0 ≤ (a1 : Int) := of_decide_eq_true (by first | (with_reducible assumption) | assumption)
  have q159 : a1 < (((rd_T31 l0 0).f1).length : Int) := of_decide_eq_true (by first | (with_reducible assumption) | assumption)
  obtain ⟨ad159, e159, hx159_0, hx159_1, hx159_2⟩ := at_T81 HR158_1.out a1 p159 q159
  cases e159
  replace p159 := eq_true p159
  replace q159 := eq_true q159
  go_enter Try.func125, Try.ntmps125
  go_wp2_with (first | ((with_reducible refine gate_dst (N := 5) rfl ?_); refine box_event ?hg (N := 5) ?hd (cs := #[.int .i8 0, .int .i16 0, .int .i16 0]) (t := 81) ?hr ?_; (case hd => rfl); (case hg => rfl); (case hr => first | (go_simp; done) | (go_simp; rfl)); intro gb160 hg w41 hbox hb; have n_ : _ ∧ _ ∧ _ ∧ _ := ⟨zb HB hb, Aside0.mk (hbox), zg HB hg, zg HB hg⟩; clear HB; obtain ⟨HB, BK160, GW160, GE160⟩ := n_; clear hb hbox hg; obtain ⟨z42_0, z42_1, z42_2, y42_0, y42_1, y42_2⟩ := zB3 BK160) | go_quiet (fail))
  go_ret
  exact ⟨by first | rfl | (simp [errW_none, errW_some] <;> rfl) | (simp [*, errW_none, errW_some] <;> rfl), by repeat (first | (with_reducible first | exact HB.out | apply below_alloc | apply pw_below_drewN | apply below_drew1 | refine below_set ?_ GE160.out) | exact HB.out)⟩
 rw [if_pos c35] at H
 have c35b0 : decide ((wrap64 ((rd_T81 ((rd_T31 l0 0).f1) a1).f1)) < a1) = true := decide_eq_true c35
 clear c35
 by_cases c36 : ((rd_T81 ((rd_T31 l0 0).f1) a1).f2) ≥ 0
 ·rw [if_pos c36] at H
  have c36b0 : decide (0 ≤ ((rd_T81 ((rd_T31 l0 0).f1) a1).f2)) = true := decide_eq_true c36
  clear c36
  obtain rfl := Option.some.inj H
  have p158 : 0 ≤ (0 : Int) := (by omega)
  have q158 : 0 < (l0.length : Int) := of_decide_eq_true (by first | (with_reducible assumption) | assumption)
  obtain ⟨ad158, A158_1, c158_1, A158_2, c158_2, e158, hx158_0, hx158_1, hx158_2, hl158_1, hi158_1, hl158_2, hi158_2⟩ := at_T31 HR0.out 0 p158 q158
  obtain rfl : adp0 = ad158 := (by injection e158)
  have qi158 : (0 < l0.length) = True := eq_true (by omega)
  (try rw [show ((0 : Int)).toNat = 0 from rfl] at hx158_0)
  (try rw [show 0 * 3 = 0 from rfl] at hx158_0)
  (try rw [Addr.add_zero'] at hx158_0)
  (try rw [show ((0 : Int)).toNat = 0 from rfl] at hx158_1)
  (try rw [show 0 * 3 = 0 from rfl] at hx158_1)
  (try rw [Addr.add_zero'] at hx158_1)
  (try rw [show ((0 : Int)).toNat = 0 from rfl] at hx158_2)
  (try rw [show 0 * 3 = 0 from rfl] at hx158_2)
  (try rw [Addr.add_zero'] at hx158_2)
  have HR158_1 := Aside0.mk hi158_1
  have HC158_1 := Aside0.mk hl158_1
  clear hi158_1 hl158_1
  have HR158_2 := Aside0.mk hi158_2
  have HC158_2 := Aside0.mk hl158_2
  clear hi158_2 hl158_2
  replace p158 := eq_true p158
  replace q158 := eq_true q158
  have p159 : 0 ≤ (a1 : Int) := of_decide_eq_true (by first | (with_reducible assumption) | assumption)
  have q159 : a1 < (((rd_T31 l0 0).f1).length : Int) := of_decide_eq_true (by first | (with_reducible assumption) | assumption)
  obtain ⟨ad159, e159, hx159_0, hx159_1, hx159_2⟩ := at_T81 HR158_1.out a1 p159 q159
  cases e159
  replace p159 := eq_true p159
  replace q159 := eq_true q159
  go_enter Try.func125, Try.ntmps125
  go_wp2_with (first | ((with_reducible refine gate_dst (N := 5) rfl ?_); refine box_event ?hg (N := 5) ?hd (cs := #[.int .i8 0, .int .i16 0, .int .i16 0]) (t := 81) ?hr ?_; (case hd => rfl); (case hg => rfl); (case hr => first | (go_simp; done) | (go_simp; rfl)); intro gb160 hg w37 hbox hb; have n_ : _ ∧ _ ∧ _ ∧ _ := ⟨zb HB hb, Aside0.mk (hbox), zg HB hg, zg HB hg⟩; clear HB; obtain ⟨HB, BK160, GW160, GE160⟩ := n_; clear hb hbox hg; obtain ⟨z38_0, z38_1, z38_2, y38_0, y38_1, y38_2⟩ := zB3 BK160) | go_quiet (fail))
  go_ret
  exact ⟨by first | rfl | (simp [errW_none, errW_some] <;> rfl) | (simp [*, errW_none, errW_some] <;> rfl), by repeat (first | (with_reducible first | exact HB.out | apply below_alloc | apply pw_below_drewN | apply below_drew1 | refine below_set ?_ GE160.out) | exact HB.out)⟩
 rw [if_neg c36] at H
 have c36b0 : decide (0 ≤ ((rd_T81 ((rd_T31 l0 0).f1) a1).f2)) = false := decide_eq_false c36
 clear c36
 obtain rfl := Option.some.inj H
 have p158 : 0 ≤ (0 : Int) := (by omega)
 have q158 : 0 < (l0.length : Int) := of_decide_eq_true (by first | (with_reducible assumption) | assumption)
 obtain ⟨ad158, A158_1, c158_1, A158_2, c158_2, e158, hx158_0, hx158_1, hx158_2, hl158_1, hi158_1, hl158_2, hi158_2⟩ := at_T31 HR0.out 0 p158 q158
 obtain rfl : adp0 = ad158 := (by injection e158)
 have qi158 : (0 < l0.length) = True := eq_true (by omega)
 (try rw [show ((0 : Int)).toNat = 0 from rfl] at hx158_0)
 (try rw [show 0 * 3 = 0 from rfl] at hx158_0)
 (try rw [Addr.add_zero'] at hx158_0)
 (try rw [show ((0 : Int)).toNat = 0 from rfl] at hx158_1)
 (try rw [show 0 * 3 = 0 from rfl] at hx158_1)
 (try rw [Addr.add_zero'] at hx158_1)
 (try rw [show ((0 : Int)).toNat = 0 from rfl] at hx158_2)
 (try rw [show 0 * 3 = 0 from rfl] at hx158_2)
 (try rw [Addr.add_zero'] at hx158_2)
 have HR158_1 := Aside0.mk hi158_1
 have HC158_1 := Aside0.mk hl158_1
 clear hi158_1 hl158_1
 have HR158_2 := Aside0.mk hi158_2
 have HC158_2 := Aside0.mk hl158_2
 clear hi158_2 hl158_2
 replace p158 := eq_true p158
 replace q158 := eq_true q158
 have p159 : 0 ≤ (a1 : Int) := of_decide_eq_true (by first | (with_reducible assumption) | assumption)
 have q159 : a1 < (((rd_T31 l0 0).f1).length : Int) := of_decide_eq_true (by first | (with_reducible assumption) | assumption)
 obtain ⟨ad159, e159, hx159_0, hx159_1, hx159_2⟩ := at_T81 HR158_1.out a1 p159 q159
 cases e159
 replace p159 := eq_true p159
 replace q159 := eq_true q159
 go_enter Try.func125, Try.ntmps125
 go_wp2_with (first | ((with_reducible refine gate_dst (N := 5) rfl ?_); refine box_event ?hg (N := 5) ?hd (cs := #[.int .i8 0, .int .i16 0, .int .i16 0]) (t := 81) ?hr ?_; (case hd => rfl); (case hg => rfl); (case hr => first | (go_simp; done) | (go_simp; rfl)); intro gb160 hg w39 hbox hb; have n_ : _ ∧ _ ∧ _ ∧ _ := ⟨zb HB hb, Aside0.mk (hbox), zg HB hg, zg HB hg⟩; clear HB; obtain ⟨HB, BK160, GW160, GE160⟩ := n_; clear hb hbox hg; obtain ⟨z40_0, z40_1, z40_2, y40_0, y40_1, y40_2⟩ := zB3 BK160) | go_quiet (fail))
 go_ret
 exact ⟨by first | rfl | (simp [errW_none, errW_some] <;> rfl) | (simp [*, errW_none, errW_some] <;> rfl), by repeat (first | (with_reducible first | exact HB.out | apply below_alloc | apply pw_below_drewN | apply below_drew1 | refine below_set ?_ GE160.out) | exact HB.out)⟩
end Go.Proofs.Ytmpmanfoiocfgaa.PFnExactMergeOf
