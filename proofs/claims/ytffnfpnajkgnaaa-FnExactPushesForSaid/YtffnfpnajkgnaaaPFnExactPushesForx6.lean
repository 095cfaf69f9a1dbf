-- WRITTEN by xprint.py, a program of this session's. Not trusted: Lean checks it.
-- packed by pack.py
import Derived.Test.YtffnfpnajkgnaaaPFnExactPushesForx0
import Derived.Test.YtffnfpnajkgnaaaPFnExactPushesForx2
import Derived.Test.YtffnfpnajkgnaaaPFnExactPushesForx3
import Derived.Test.YtffnfpnajkgnaaaPFnExactPushesForx4
import Derived.Test.YtffnfpnajkgnaaaPFnExactPushesForx5
import Derived.Test.YtffnfpnajkgnaaaTFnExactPushesFora
namespace Go.Proofs.Ytffnfpnajkgnaaa.PFnExactPushesFor
open Go.RowKit Go.Proofs.YtffnfpnajkgnaaaW.PrintWords Go.Proofs.YtffnfpnajkgnaaaW.PrintLast Go.Proofs.YtffnfpnajkgnaaaW.PrintMore Go.Proofs.YtffnfpnajkgnaaaX
attribute [local go_sem] max2_int min2_int max_two min_two max_three min_three max_four min_four   -- for this text's walks alone
set_option linter.unusedVariables false
set_option linter.unusedSimpArgs false

attribute [local go_sem high] eqA116
/-! ### spec_l03Ok: function 99 -/
mutual
def spec_l03Ok.j0 : Nat → List (S41) → Bool → Option (Bool)
  | 0, _, _ => none
  | k + 1, x0, x37 => if x37 = true then (some false) else (spec_l03Ok.l0 k x0 0)
def spec_l03Ok.l0 : Nat → List (S41) → Int → Option (Bool)
  | 0, _, _ => none
  | k + 1, x0, x3 => if 0 < (x0.length : Int) then (if x3 < (((rd_T41 x0 0).f1).length : Int) then (if 0 ≤ x3 then ((spec_l01Side.f (wrap64 ((rd_T116 ((rd_T41 x0 0).f1) x3).f1))).bind fun t148 => (if t148 = true then ((spec_l01Find.f k [(⟨(rd_T41 x0 0).f0.f0, (rd_T41 x0 0).f0.f1, (rd_T41 x0 0).f0.f2⟩ : S37)] ((rd_T116 ((rd_T41 x0 0).f1) x3).f0.f0) ((rd_T116 ((rd_T41 x0 0).f1) x3).f0.f1)).bind fun t152 => (spec_l03Ok.j2 k x0 x3 (decide (t152 < 0)))) else (spec_l03Ok.j2 k x0 x3 true))) else (none)) else (spec_l03Ok.l2 k x0 0)) else (none)
def spec_l03Ok.j2 : Nat → List (S41) → Int → Bool → Option (Bool)
  | 0, _, _, _ => none
  | k + 1, x0, x3, x72 => if x72 = true then (some false) else (spec_l03Ok.l1 k x0 x3 0)
def spec_l03Ok.l1 : Nat → List (S41) → Int → Int → Option (Bool)
  | 0, _, _, _ => none
  | k + 1, x0, x3, x4 => if x4 < x3 then (if 0 < (x0.length : Int) then (if 0 ≤ x4 then (if x4 < (((rd_T41 x0 0).f1).length : Int) then (if 0 ≤ x3 then (if x3 < (((rd_T41 x0 0).f1).length : Int) then (if ((((rd_T116 ((rd_T41 x0 0).f1) x4).f0.f0) == ((rd_T116 ((rd_T41 x0 0).f1) x3).f0.f0) && (((rd_T116 ((rd_T41 x0 0).f1) x4).f0.f1) == ((rd_T116 ((rd_T41 x0 0).f1) x3).f0.f1))) && (((rd_T116 ((rd_T41 x0 0).f1) x4).f1) == ((rd_T116 ((rd_T41 x0 0).f1) x3).f1))) = true then (some false) else (spec_l03Ok.l1 k x0 x3 (wrap64 (x4 + 1)))) else (none)) else (none)) else (none)) else (none)) else (none)) else (spec_l03Ok.l0 k x0 (wrap64 (x3 + 1)))
def spec_l03Ok.l2 : Nat → List (S41) → Int → Option (Bool)
  | 0, _, _ => none
  | k + 1, x0, x5 => if 0 < (x0.length : Int) then (if x5 < (((rd_T41 x0 0).f2).length : Int) then (if 0 ≤ x5 then ((spec_l01Find.f k [(⟨(rd_T41 x0 0).f0.f0, (rd_T41 x0 0).f0.f1, (rd_T41 x0 0).f0.f2⟩ : S37)] ((rd_T74 ((rd_T41 x0 0).f2) x5).f0) ((rd_T74 ((rd_T41 x0 0).f2) x5).f1)).bind fun t161 => (if t161 < 0 then (some false) else (spec_l03Ok.l2 k x0 (wrap64 (x5 + 1))))) else (none)) else (some true)) else (none)
end
def spec_l03Ok.f (k : Nat) (l0 : List (S41)) : Option (Bool) := if 0 < (l0.length : Int) then ((spec_l01Ok.f k [(⟨(rd_T41 l0 0).f0.f0, (rd_T41 l0 0).f0.f1, (rd_T41 l0 0).f0.f2⟩ : S37)]).bind fun t139 => (if t139 = true then (if (((rd_T41 l0 0).f0.f2).length : Int) > 60 then (spec_l03Ok.j0 k l0 true) else ((spec_l00In.f (((rd_T41 l0 0).f1).length : Int) 1 6).bind fun t142 => (if t142 = true then ((spec_l00In.f (((rd_T41 l0 0).f2).length : Int) 1 8).bind fun t144 => (spec_l03Ok.j0 k l0 (!t144))) else (spec_l03Ok.j0 k l0 true)))) else (spec_l03Ok.j0 k l0 true))) else (none)
theorem spec_l03Ok.mono_l : ∀ k, (∀ y0 y1, LeO (spec_l03Ok.j0 k y0 y1) (spec_l03Ok.j0 (k + 1) y0 y1)) ∧ (∀ y0 y1, LeO (spec_l03Ok.l0 k y0 y1) (spec_l03Ok.l0 (k + 1) y0 y1)) ∧ (∀ y0 y1 y2, LeO (spec_l03Ok.j2 k y0 y1 y2) (spec_l03Ok.j2 (k + 1) y0 y1 y2)) ∧ (∀ y0 y1 y2, LeO (spec_l03Ok.l1 k y0 y1 y2) (spec_l03Ok.l1 (k + 1) y0 y1 y2)) ∧ (∀ y0 y1, LeO (spec_l03Ok.l2 k y0 y1) (spec_l03Ok.l2 (k + 1) y0 y1))
  | 0 => ⟨fun _ _ r h => by simp [spec_l03Ok.j0] at h, fun _ _ r h => by simp [spec_l03Ok.l0] at h, fun _ _ _ r h => by simp [spec_l03Ok.j2] at h, fun _ _ _ r h => by simp [spec_l03Ok.l1] at h, fun _ _ r h => by simp [spec_l03Ok.l2] at h⟩
  | k + 1 => by
    obtain ⟨ih0, ih1, ih2, ih3, ih4⟩ := spec_l03Ok.mono_l k
    refine ⟨?_, ?_, ?_, ?_, ?_⟩
    · intro y0 y1
      unfold spec_l03Ok.j0
      repeat' first | (with_reducible first | apply ih0 | apply ih1 | apply ih2 | apply ih3 | apply ih4 | apply spec_l01Find.mono | apply spec_l01Ok.mono | exact LeO.refl _ | exact LeO.none _ | refine LeO.ite ?_ ?_ | refine LeO.bind ?_ (fun _ => ?_)) | apply ih0 | apply ih1 | apply ih2 | apply ih3 | apply ih4 | apply spec_l01Find.mono | apply spec_l01Ok.mono | exact LeO.none _ | refine LeO.ite ?_ ?_ | refine LeO.bind ?_ (fun _ => ?_)
    · intro y0 y1
      unfold spec_l03Ok.l0
      repeat' first | (with_reducible first | apply ih0 | apply ih1 | apply ih2 | apply ih3 | apply ih4 | apply spec_l01Find.mono | apply spec_l01Ok.mono | exact LeO.refl _ | exact LeO.none _ | refine LeO.ite ?_ ?_ | refine LeO.bind ?_ (fun _ => ?_)) | apply ih0 | apply ih1 | apply ih2 | apply ih3 | apply ih4 | apply spec_l01Find.mono | apply spec_l01Ok.mono | exact LeO.none _ | refine LeO.ite ?_ ?_ | refine LeO.bind ?_ (fun _ => ?_)
    · intro y0 y1 y2
      unfold spec_l03Ok.j2
      repeat' first | (with_reducible first | apply ih0 | apply ih1 | apply ih2 | apply ih3 | apply ih4 | apply spec_l01Find.mono | apply spec_l01Ok.mono | exact LeO.refl _ | exact LeO.none _ | refine LeO.ite ?_ ?_ | refine LeO.bind ?_ (fun _ => ?_)) | apply ih0 | apply ih1 | apply ih2 | apply ih3 | apply ih4 | apply spec_l01Find.mono | apply spec_l01Ok.mono | exact LeO.none _ | refine LeO.ite ?_ ?_ | refine LeO.bind ?_ (fun _ => ?_)
    · intro y0 y1 y2
      unfold spec_l03Ok.l1
      repeat' first | (with_reducible first | apply ih0 | apply ih1 | apply ih2 | apply ih3 | apply ih4 | apply spec_l01Find.mono | apply spec_l01Ok.mono | exact LeO.refl _ | exact LeO.none _ | refine LeO.ite ?_ ?_ | refine LeO.bind ?_ (fun _ => ?_)) | apply ih0 | apply ih1 | apply ih2 | apply ih3 | apply ih4 | apply spec_l01Find.mono | apply spec_l01Ok.mono | exact LeO.none _ | refine LeO.ite ?_ ?_ | refine LeO.bind ?_ (fun _ => ?_)
    · intro y0 y1
      unfold spec_l03Ok.l2
      repeat' first | (with_reducible first | apply ih0 | apply ih1 | apply ih2 | apply ih3 | apply ih4 | apply spec_l01Find.mono | apply spec_l01Ok.mono | exact LeO.refl _ | exact LeO.none _ | refine LeO.ite ?_ ?_ | refine LeO.bind ?_ (fun _ => ?_)) | apply ih0 | apply ih1 | apply ih2 | apply ih3 | apply ih4 | apply spec_l01Find.mono | apply spec_l01Ok.mono | exact LeO.none _ | refine LeO.ite ?_ ?_ | refine LeO.bind ?_ (fun _ => ?_)
theorem spec_l03Ok.mono : ∀ a0 k, LeO (spec_l03Ok.f k a0) (spec_l03Ok.f (k + 1) a0) := by
 intro a0 k
 obtain ⟨ih0, ih1, ih2, ih3, ih4⟩ := spec_l03Ok.mono_l k
 unfold spec_l03Ok.f
 repeat' first | (with_reducible first | apply ih0 | apply ih1 | apply ih2 | apply ih3 | apply ih4 | apply spec_l01Find.mono | apply spec_l01Ok.mono | exact LeO.refl _ | exact LeO.none _ | refine LeO.ite ?_ ?_ | refine LeO.bind ?_ (fun _ => ?_)) | apply ih0 | apply ih1 | apply ih2 | apply ih3 | apply ih4 | apply spec_l01Find.mono | apply spec_l01Ok.mono | exact LeO.none _ | refine LeO.ite ?_ ?_ | refine LeO.bind ?_ (fun _ => ?_)
def spec_l03Ok.T6 : Bool × List (List Nat × List Nat) := (true, [([], []), ([0], [0]), ([1], [1]), ([2], [2]), ([], []), ([3, 4], [3, 4]), ([5], [5]), ([6], [6]), ([7], [7]), ([8], [8]), ([9], [9]), ([10, 9], [10]), ([11], [11]), ([12, 11], [11, 12]), ([13, 11], [11, 13]), ([11], [11]), ([15, 11], [11, 15]), ([16, 11], [11, 16]), ([17, 11], [11, 17]), ([11], [11]), ([18, 19, 11], [11, 18, 19]), ([20, 11], [11, 20]), ([21, 11], [11, 21]), ([14, 22, 11, 11], [11, 14, 22]), ([23, 11], [11, 23]), ([11, 24], [11, 24])])
def spec_l03Ok.B6 : List Nat := [0, 1, 3, 7, 0, 31, 63, 127, 255, 511, 1023, 2047, 4095, 8191, 16383, 4095, 36863, 102399, 233471, 4095, 1019903, 2068479, 4165631, 8388607, 16777215, 33554431]
theorem spec_l03Ok.tab6 : rtab .any (opsOf Try.f99 6) = spec_l03Ok.T6 := by kernel_rfl
theorem spec_l03Ok.bits6 : waitsOk spec_l03Ok.T6.2 spec_l03Ok.B6 = true := by kernel_rfl
def spec_l03Ok.T11 : Bool × List (List Nat × List Nat) := (true, [([], []), ([0], [0]), ([1], [1]), ([2], [2]), ([], []), ([3, 4], [3, 4]), ([5], [5]), ([], []), ([7], [7]), ([8], [8]), ([9], [9]), ([], []), ([10, 11], [10, 11]), ([12], [12]), ([6, 13], [6, 13])])
def spec_l03Ok.B11 : List Nat := [0, 1, 3, 7, 0, 31, 63, 0, 128, 384, 896, 0, 3968, 8064, 16383]
theorem spec_l03Ok.tab11 : rtab .any (opsOf Try.f99 11) = spec_l03Ok.T11 := by kernel_rfl
theorem spec_l03Ok.bits11 : waitsOk spec_l03Ok.T11.2 spec_l03Ok.B11 = true := by kernel_rfl
def spec_l03Ok.T16 : Bool × List (List Nat × List Nat) := (true, [([], []), ([0], [0]), ([1], [1]), ([], []), ([3], [3]), ([4], [4]), ([5], [5]), ([], []), ([6, 7], [6, 7]), ([8], [8]), ([2, 9], [2, 9]), ([10], [10])])
def spec_l03Ok.B16 : List Nat := [0, 1, 3, 0, 8, 24, 56, 0, 248, 504, 1023, 2047]
theorem spec_l03Ok.tab16 : rtab .any (opsOf Try.f99 16) = spec_l03Ok.T16 := by kernel_rfl
theorem spec_l03Ok.bits16 : waitsOk spec_l03Ok.T16.2 spec_l03Ok.B16 = true := by kernel_rfl
set_option maxHeartbeats 8000000 in
set_option maxRecDepth 100000 in
theorem spec_l03Ok.calls (k : Nat) (adp0 : Addr) (l0 : List (S41)) (r : Bool) (w : World) (hr0 : Kd.C k41 w (some adp0) l0.length l0) (h : spec_l03Ok.f k l0 = some r) :
    Calls Try.prog 99 #[.pointer (some adp0)] w fun e w' => e = .returned (.bool r) ∧ Below w.heap.size w w' := by
 have hu74 := Try.underlying74
 have hu116 := Try.underlying116
 have HR0 := Aside0.mk hr0
 clear hr0
 have HB := Aside0.mk (Below.refl w.heap.size w)
 have H : (if 0 < (l0.length : Int) then ((spec_l01Ok.f k [(⟨(rd_T41 l0 0).f0.f0, (rd_T41 l0 0).f0.f1, (rd_T41 l0 0).f0.f2⟩ : S37)]).bind fun t139 => (if t139 = true then (if (((rd_T41 l0 0).f0.f2).length : Int) > 60 then (spec_l03Ok.j0 k l0 true) else ((spec_l00In.f (((rd_T41 l0 0).f1).length : Int) 1 6).bind fun t142 => (if t142 = true then ((spec_l00In.f (((rd_T41 l0 0).f2).length : Int) 1 8).bind fun t144 => (spec_l03Ok.j0 k l0 (!t144))) else (spec_l03Ok.j0 k l0 true)))) else (spec_l03Ok.j0 k l0 true))) else (none)) = some r := h
 clear h
 have HC2 := Aside0.mk H
 clear H
 go_enter Try.func99, Try.ntmps99
 go_upto_region 1 with (fail)
 go_cut [37] (fun v37 wc => ∃ (kq : Nat) (x37_1 : Bool), v37 = .bool x37_1 ∧ Aside0 (spec_l03Ok.j0 kq l0 x37_1 = some r) ∧ Aside0 (kq ≤ k) ∧ Aside0 (Below w.heap.size w wc))
 case first =>
  have H := HC2.out
  clear HC2
  by_cases c3 : 0 < (l0.length : Int)
  rotate_left
  ·rw [if_neg c3] at H
   exact absurd H (by simp)
  rw [if_pos c3] at H
  have c3b0 : decide (0 < (l0.length : Int)) = true := decide_eq_true c3
  have c3b1 : decide (0 < l0.length) = true := decide_eq_true (by omega)
  clear c3
  (first | rw [c3b0] | (simp only [i64_w, i32_w]; rw [c3b0]) | (have h_ := c3b0; simp only [bne] at h_; rw [h_]) | skip)
  replace H := Option.bind_eq_some_iff.mp H
  obtain ⟨t139, A40, H⟩ := H
  replace H : (if t139 = true then (if (((rd_T41 l0 0).f0.f2).length : Int) > 60 then (spec_l03Ok.j0 k l0 true) else ((spec_l00In.f (((rd_T41 l0 0).f1).length : Int) 1 6).bind fun t142 => (if t142 = true then ((spec_l00In.f (((rd_T41 l0 0).f2).length : Int) 1 8).bind fun t144 => (spec_l03Ok.j0 k l0 (!t144))) else (spec_l03Ok.j0 k l0 true)))) else (spec_l03Ok.j0 k l0 true)) = some r := H
  have A4 := Aside0.mk A40
  clear A40
  by_cases c5 : t139 = true
  rotate_left
  ·replace c5 := Bool.eq_false_iff.mpr c5
   subst c5
   have H1 : (spec_l03Ok.j0 k l0 true) = some r := by rw [if_neg (show ¬ (false = true) by decide)] at H; exact H
   clear H
   have H := H1
   clear H1
   have H' := Aside0.mk H
   clear H
   have p138 : 0 ≤ (0 : Int) := (by omega)
   have q138 : 0 < (l0.length : Int) := of_decide_eq_true (by first | (with_reducible assumption) | assumption)
   obtain ⟨ad138, A138_2, c138_2, A138_3, c138_3, A138_4, c138_4, e138, hx138_0, hx138_1, hx138_2, hx138_3, hx138_4, hl138_2, hi138_2, hl138_3, hi138_3, hl138_4, hi138_4⟩ := at_T41 HR0.out 0 p138 q138
   obtain rfl : adp0 = ad138 := (by injection e138)
   have qi138 : (0 < l0.length) = True := eq_true (by omega)
   (try rw [show ((0 : Int)).toNat = 0 from rfl] at hx138_0)
   (try rw [show 0 * 5 = 0 from rfl] at hx138_0)
   (try rw [Addr.add_zero'] at hx138_0)
   (try rw [show ((0 : Int)).toNat = 0 from rfl] at hx138_1)
   (try rw [show 0 * 5 = 0 from rfl] at hx138_1)
   (try rw [Addr.add_zero'] at hx138_1)
   (try rw [show ((0 : Int)).toNat = 0 from rfl] at hx138_2)
   (try rw [show 0 * 5 = 0 from rfl] at hx138_2)
   (try rw [Addr.add_zero'] at hx138_2)
   (try rw [show ((0 : Int)).toNat = 0 from rfl] at hx138_3)
   (try rw [show 0 * 5 = 0 from rfl] at hx138_3)
   (try rw [Addr.add_zero'] at hx138_3)
   (try rw [show ((0 : Int)).toNat = 0 from rfl] at hx138_4)
   (try rw [show 0 * 5 = 0 from rfl] at hx138_4)
   (try rw [Addr.add_zero'] at hx138_4)
   replace hx138_0 := zc HB hx138_0
   replace hx138_1 := zc HB hx138_1
   replace hx138_2 := zc HB hx138_2
   replace hx138_3 := zc HB hx138_3
   replace hx138_4 := zc HB hx138_4
   have HR138_2 := Aside0.mk hi138_2
   have HC138_2 := Aside0.mk hl138_2
   clear hi138_2 hl138_2
   have HR138_3 := Aside0.mk hi138_3
   have HC138_3 := Aside0.mk hl138_3
   clear hi138_3 hl138_3
   have HR138_4 := Aside0.mk hi138_4
   have HC138_4 := Aside0.mk hl138_4
   clear hi138_4 hl138_4
   replace p138 := eq_true p138
   replace q138 := eq_true q138
   go_wp2_with (first | ((with_reducible refine gate_callee (f := 106) rfl ?_); refine goesL_ (some 9) rfl rfl Try.func106 (by kernel_rfl) rfl #[.pointer (some adp0)] rfl (by (try simp only [List.map_toArray, List.map_cons, List.map_nil]); first | done | rfl | (simp only [List.length_drop, List.length_take]; rfl)) ?_; (with_reducible refine (spec_l01Ok.calls k _ [(⟨(rd_T41 l0 0).f0.f0, (rd_T41 l0 0).f0.f1, (rd_T41 l0 0).f0.f2⟩ : S37)] false _ ?side1 A4.out).mono ?_); (case side1 => refine ro_first (d := k41) (d1 := k37) (f := fun x : S41 => (x.f0, x.f1, x.f2)) (l := l0) rfl z41 ?_ (by first | (have h_ := of_eq_true q138; omega) | (have h_ : 0 < (l0.length : Int) := of_decide_eq_true (by assumption); omega) | omega) rfl; exact zcc HB HR0.out); rintro e w13 ⟨rfl, hb⟩; refine ⟨_, rfl, ?_⟩; have n0_ := zb HB hb; clear HB; have HB := n0_; clear n0_; (try clear hb); (try clear hb2); (try clear hk); (try clear hi)))
   go_meet
   case rel => exact ⟨_, (true), (by first | rfl | (simp; done) | (simp [*]; done) | (exact congrArg (Value.int .i64) (wrap_eq (by omega)))), H', ⟨by first | omega | exact Nat.le_refl _⟩, zl HB⟩
  subst c5
  have H1 : (if (((rd_T41 l0 0).f0.f2).length : Int) > 60 then (spec_l03Ok.j0 k l0 true) else ((spec_l00In.f (((rd_T41 l0 0).f1).length : Int) 1 6).bind fun t142 => (if t142 = true then ((spec_l00In.f (((rd_T41 l0 0).f2).length : Int) 1 8).bind fun t144 => (spec_l03Ok.j0 k l0 (!t144))) else (spec_l03Ok.j0 k l0 true)))) = some r := by rw [if_pos rfl] at H; exact H
  clear H
  have H := H1
  clear H1
  by_cases c6 : (((rd_T41 l0 0).f0.f2).length : Int) > 60
  ·rw [if_pos c6] at H
   have c6b0 : decide (60 < (((rd_T41 l0 0).f0.f2).length : Int)) = true := decide_eq_true c6
   have c6b1 : decide (60 < ((rd_T41 l0 0).f0.f2).length) = true := decide_eq_true (by omega)
   clear c6
   have H' := Aside0.mk H
   clear H
   have p138 : 0 ≤ (0 : Int) := (by omega)
   have q138 : 0 < (l0.length : Int) := of_decide_eq_true (by first | (with_reducible assumption) | assumption)
   obtain ⟨ad138, A138_2, c138_2, A138_3, c138_3, A138_4, c138_4, e138, hx138_0, hx138_1, hx138_2, hx138_3, hx138_4, hl138_2, hi138_2, hl138_3, hi138_3, hl138_4, hi138_4⟩ := at_T41 HR0.out 0 p138 q138
   obtain rfl : adp0 = ad138 := (by injection e138)
   have qi138 : (0 < l0.length) = True := eq_true (by omega)
   (try rw [show ((0 : Int)).toNat = 0 from rfl] at hx138_0)
   (try rw [show 0 * 5 = 0 from rfl] at hx138_0)
   (try rw [Addr.add_zero'] at hx138_0)
   (try rw [show ((0 : Int)).toNat = 0 from rfl] at hx138_1)
   (try rw [show 0 * 5 = 0 from rfl] at hx138_1)
   (try rw [Addr.add_zero'] at hx138_1)
   (try rw [show ((0 : Int)).toNat = 0 from rfl] at hx138_2)
   (try rw [show 0 * 5 = 0 from rfl] at hx138_2)
   (try rw [Addr.add_zero'] at hx138_2)
   (try rw [show ((0 : Int)).toNat = 0 from rfl] at hx138_3)
   (try rw [show 0 * 5 = 0 from rfl] at hx138_3)
   (try rw [Addr.add_zero'] at hx138_3)
   (try rw [show ((0 : Int)).toNat = 0 from rfl] at hx138_4)
   (try rw [show 0 * 5 = 0 from rfl] at hx138_4)
   (try rw [Addr.add_zero'] at hx138_4)
   replace hx138_0 := zc HB hx138_0
   replace hx138_1 := zc HB hx138_1
   replace hx138_2 := zc HB hx138_2
   replace hx138_3 := zc HB hx138_3
   replace hx138_4 := zc HB hx138_4
   have HR138_2 := Aside0.mk hi138_2
   have HC138_2 := Aside0.mk hl138_2
   clear hi138_2 hl138_2
   have HR138_3 := Aside0.mk hi138_3
   have HC138_3 := Aside0.mk hl138_3
   clear hi138_3 hl138_3
   have HR138_4 := Aside0.mk hi138_4
   have HC138_4 := Aside0.mk hl138_4
   clear hi138_4 hl138_4
   replace p138 := eq_true p138
   replace q138 := eq_true q138
   go_wp2_with (first | ((with_reducible refine gate_callee (f := 106) rfl ?_); refine goesL_ (some 9) rfl rfl Try.func106 (by kernel_rfl) rfl #[.pointer (some adp0)] rfl (by (try simp only [List.map_toArray, List.map_cons, List.map_nil]); first | done | rfl | (simp only [List.length_drop, List.length_take]; rfl)) ?_; (with_reducible refine (spec_l01Ok.calls k _ [(⟨(rd_T41 l0 0).f0.f0, (rd_T41 l0 0).f0.f1, (rd_T41 l0 0).f0.f2⟩ : S37)] true _ ?side1 A4.out).mono ?_); (case side1 => refine ro_first (d := k41) (d1 := k37) (f := fun x : S41 => (x.f0, x.f1, x.f2)) (l := l0) rfl z41 ?_ (by first | (have h_ := of_eq_true q138; omega) | (have h_ : 0 < (l0.length : Int) := of_decide_eq_true (by assumption); omega) | omega) rfl; exact zcc HB HR0.out); rintro e w7 ⟨rfl, hb⟩; refine ⟨_, rfl, ?_⟩; have n0_ := zb HB hb; clear HB; have HB := n0_; clear n0_; (try clear hb); (try clear hb2); (try clear hk); (try clear hi); have p140 : 0 ≤ (0 : Int) := (by omega); have q140 : 0 < (l0.length : Int) := of_decide_eq_true (by first | (with_reducible assumption) | assumption); obtain ⟨ad140, A140_2, c140_2, A140_3, c140_3, A140_4, c140_4, e140, hx140_0, hx140_1, hx140_2, hx140_3, hx140_4, hl140_2, hi140_2, hl140_3, hi140_3, hl140_4, hi140_4⟩ := at_T41 HR0.out 0 p140 q140; obtain rfl : adp0 = ad140 := (by injection e140); have qi140 : (0 < l0.length) = True := eq_true (by omega); (try rw [show ((0 : Int)).toNat = 0 from rfl] at hx140_0); (try rw [show 0 * 5 = 0 from rfl] at hx140_0); (try rw [Addr.add_zero'] at hx140_0); (try rw [show ((0 : Int)).toNat = 0 from rfl] at hx140_1); (try rw [show 0 * 5 = 0 from rfl] at hx140_1); (try rw [Addr.add_zero'] at hx140_1); (try rw [show ((0 : Int)).toNat = 0 from rfl] at hx140_2); (try rw [show 0 * 5 = 0 from rfl] at hx140_2); (try rw [Addr.add_zero'] at hx140_2); (try rw [show ((0 : Int)).toNat = 0 from rfl] at hx140_3); (try rw [show 0 * 5 = 0 from rfl] at hx140_3); (try rw [Addr.add_zero'] at hx140_3); (try rw [show ((0 : Int)).toNat = 0 from rfl] at hx140_4); (try rw [show 0 * 5 = 0 from rfl] at hx140_4); (try rw [Addr.add_zero'] at hx140_4); replace hx140_0 := zc HB hx140_0; replace hx140_1 := zc HB hx140_1; replace hx140_2 := zc HB hx140_2; replace hx140_3 := zc HB hx140_3; replace hx140_4 := zc HB hx140_4; have HR140_2 := Aside0.mk hi140_2; have HC140_2 := Aside0.mk hl140_2; clear hi140_2 hl140_2; have HR140_3 := Aside0.mk hi140_3; have HC140_3 := Aside0.mk hl140_3; clear hi140_3 hl140_3; have HR140_4 := Aside0.mk hi140_4; have HC140_4 := Aside0.mk hl140_4; clear hi140_4 hl140_4; replace p140 := eq_true p140; replace q140 := eq_true q140))
   go_meet
   case rel => exact ⟨_, (true), (by first | rfl | (simp; done) | (simp [*]; done) | (exact congrArg (Value.int .i64) (wrap_eq (by omega)))), H', ⟨by first | omega | exact Nat.le_refl _⟩, zl HB⟩
  rw [if_neg c6] at H
  have c6b0 : decide (60 < (((rd_T41 l0 0).f0.f2).length : Int)) = false := decide_eq_false c6
  have c6b1 : decide (60 < ((rd_T41 l0 0).f0.f2).length) = false := decide_eq_false (by omega)
  clear c6
  replace H := Option.bind_eq_some_iff.mp H
  obtain ⟨t142, A80, H⟩ := H
  replace H : (if t142 = true then ((spec_l00In.f (((rd_T41 l0 0).f2).length : Int) 1 8).bind fun t144 => (spec_l03Ok.j0 k l0 (!t144))) else (spec_l03Ok.j0 k l0 true)) = some r := H
  have A8 := Aside0.mk A80
  clear A80
  by_cases c9 : t142 = true
  rotate_left
  ·replace c9 := Bool.eq_false_iff.mpr c9
   subst c9
   have H1 : (spec_l03Ok.j0 k l0 true) = some r := by rw [if_neg (show ¬ (false = true) by decide)] at H; exact H
   clear H
   have H := H1
   clear H1
   have H' := Aside0.mk H
   clear H
   have p138 : 0 ≤ (0 : Int) := (by omega)
   have q138 : 0 < (l0.length : Int) := of_decide_eq_true (by first | (with_reducible assumption) | assumption)
   obtain ⟨ad138, A138_2, c138_2, A138_3, c138_3, A138_4, c138_4, e138, hx138_0, hx138_1, hx138_2, hx138_3, hx138_4, hl138_2, hi138_2, hl138_3, hi138_3, hl138_4, hi138_4⟩ := at_T41 HR0.out 0 p138 q138
   obtain rfl : adp0 = ad138 := (by injection e138)
   have qi138 : (0 < l0.length) = True := eq_true (by omega)
   (try rw [show ((0 : Int)).toNat = 0 from rfl] at hx138_0)
   (try rw [show 0 * 5 = 0 from rfl] at hx138_0)
   (try rw [Addr.add_zero'] at hx138_0)
   (try rw [show ((0 : Int)).toNat = 0 from rfl] at hx138_1)
   (try rw [show 0 * 5 = 0 from rfl] at hx138_1)
   (try rw [Addr.add_zero'] at hx138_1)
   (try rw [show ((0 : Int)).toNat = 0 from rfl] at hx138_2)
   (try rw [show 0 * 5 = 0 from rfl] at hx138_2)
   (try rw [Addr.add_zero'] at hx138_2)
   (try rw [show ((0 : Int)).toNat = 0 from rfl] at hx138_3)
   (try rw [show 0 * 5 = 0 from rfl] at hx138_3)
   (try rw [Addr.add_zero'] at hx138_3)
   (try rw [show ((0 : Int)).toNat = 0 from rfl] at hx138_4)
   (try rw [show 0 * 5 = 0 from rfl] at hx138_4)
   (try rw [Addr.add_zero'] at hx138_4)
   replace hx138_0 := zc HB hx138_0
   replace hx138_1 := zc HB hx138_1
   replace hx138_2 := zc HB hx138_2
   replace hx138_3 := zc HB hx138_3
   replace hx138_4 := zc HB hx138_4
   have HR138_2 := Aside0.mk hi138_2
   have HC138_2 := Aside0.mk hl138_2
   clear hi138_2 hl138_2
   have HR138_3 := Aside0.mk hi138_3
   have HC138_3 := Aside0.mk hl138_3
   clear hi138_3 hl138_3
   have HR138_4 := Aside0.mk hi138_4
   have HC138_4 := Aside0.mk hl138_4
   clear hi138_4 hl138_4
   replace p138 := eq_true p138
   replace q138 := eq_true q138
   go_wp2_with (first | ((with_reducible refine gate_callee (f := 106) rfl ?_); refine goesL_ (some 9) rfl rfl Try.func106 (by kernel_rfl) rfl #[.pointer (some adp0)] rfl (by (try simp only [List.map_toArray, List.map_cons, List.map_nil]); first | done | rfl | (simp only [List.length_drop, List.length_take]; rfl)) ?_; (with_reducible refine (spec_l01Ok.calls k _ [(⟨(rd_T41 l0 0).f0.f0, (rd_T41 l0 0).f0.f1, (rd_T41 l0 0).f0.f2⟩ : S37)] true _ ?side1 A4.out).mono ?_); (case side1 => refine ro_first (d := k41) (d1 := k37) (f := fun x : S41 => (x.f0, x.f1, x.f2)) (l := l0) rfl z41 ?_ (by first | (have h_ := of_eq_true q138; omega) | (have h_ : 0 < (l0.length : Int) := of_decide_eq_true (by assumption); omega) | omega) rfl; exact zcc HB HR0.out); rintro e w12 ⟨rfl, hb⟩; refine ⟨_, rfl, ?_⟩; have n0_ := zb HB hb; clear HB; have HB := n0_; clear n0_; (try clear hb); (try clear hb2); (try clear hk); (try clear hi); have p140 : 0 ≤ (0 : Int) := (by omega); have q140 : 0 < (l0.length : Int) := of_decide_eq_true (by first | (with_reducible assumption) | assumption); obtain ⟨ad140, A140_2, c140_2, A140_3, c140_3, A140_4, c140_4, e140, hx140_0, hx140_1, hx140_2, hx140_3, hx140_4, hl140_2, hi140_2, hl140_3, hi140_3, hl140_4, hi140_4⟩ := at_T41 HR0.out 0 p140 q140; obtain rfl : adp0 = ad140 := (by injection e140); have qi140 : (0 < l0.length) = True := eq_true (by omega); (try rw [show ((0 : Int)).toNat = 0 from rfl] at hx140_0); (try rw [show 0 * 5 = 0 from rfl] at hx140_0); (try rw [Addr.add_zero'] at hx140_0); (try rw [show ((0 : Int)).toNat = 0 from rfl] at hx140_1); (try rw [show 0 * 5 = 0 from rfl] at hx140_1); (try rw [Addr.add_zero'] at hx140_1); (try rw [show ((0 : Int)).toNat = 0 from rfl] at hx140_2); (try rw [show 0 * 5 = 0 from rfl] at hx140_2); (try rw [Addr.add_zero'] at hx140_2); (try rw [show ((0 : Int)).toNat = 0 from rfl] at hx140_3); (try rw [show 0 * 5 = 0 from rfl] at hx140_3); (try rw [Addr.add_zero'] at hx140_3); (try rw [show ((0 : Int)).toNat = 0 from rfl] at hx140_4); (try rw [show 0 * 5 = 0 from rfl] at hx140_4); (try rw [Addr.add_zero'] at hx140_4); replace hx140_0 := zc HB hx140_0; replace hx140_1 := zc HB hx140_1; replace hx140_2 := zc HB hx140_2; replace hx140_3 := zc HB hx140_3; replace hx140_4 := zc HB hx140_4; have HR140_2 := Aside0.mk hi140_2; have HC140_2 := Aside0.mk hl140_2; clear hi140_2 hl140_2; have HR140_3 := Aside0.mk hi140_3; have HC140_3 := Aside0.mk hl140_3; clear hi140_3 hl140_3; have HR140_4 := Aside0.mk hi140_4; have HC140_4 := Aside0.mk hl140_4; clear hi140_4 hl140_4; replace p140 := eq_true p140; replace q140 := eq_true q140; have p141 : 0 ≤ (0 : Int) := (by omega); have q141 : 0 < (l0.length : Int) := of_decide_eq_true (by first | (with_reducible assumption) | assumption); obtain ⟨ad141, A141_2, c141_2, A141_3, c141_3, A141_4, c141_4, e141, hx141_0, hx141_1, hx141_2, hx141_3, hx141_4, hl141_2, hi141_2, hl141_3, hi141_3, hl141_4, hi141_4⟩ := at_T41 HR0.out 0 p141 q141; obtain rfl : adp0 = ad141 := (by injection e141); have qi141 : (0 < l0.length) = True := eq_true (by omega); (try rw [show ((0 : Int)).toNat = 0 from rfl] at hx141_0); (try rw [show 0 * 5 = 0 from rfl] at hx141_0); (try rw [Addr.add_zero'] at hx141_0); (try rw [show ((0 : Int)).toNat = 0 from rfl] at hx141_1); (try rw [show 0 * 5 = 0 from rfl] at hx141_1); (try rw [Addr.add_zero'] at hx141_1); (try rw [show ((0 : Int)).toNat = 0 from rfl] at hx141_2); (try rw [show 0 * 5 = 0 from rfl] at hx141_2); (try rw [Addr.add_zero'] at hx141_2); (try rw [show ((0 : Int)).toNat = 0 from rfl] at hx141_3); (try rw [show 0 * 5 = 0 from rfl] at hx141_3); (try rw [Addr.add_zero'] at hx141_3); (try rw [show ((0 : Int)).toNat = 0 from rfl] at hx141_4); (try rw [show 0 * 5 = 0 from rfl] at hx141_4); (try rw [Addr.add_zero'] at hx141_4); replace hx141_0 := zc HB hx141_0; replace hx141_1 := zc HB hx141_1; replace hx141_2 := zc HB hx141_2; replace hx141_3 := zc HB hx141_3; replace hx141_4 := zc HB hx141_4; have HR141_2 := Aside0.mk hi141_2; have HC141_2 := Aside0.mk hl141_2; clear hi141_2 hl141_2; have HR141_3 := Aside0.mk hi141_3; have HC141_3 := Aside0.mk hl141_3; clear hi141_3 hl141_3; have HR141_4 := Aside0.mk hi141_4; have HC141_4 := Aside0.mk hl141_4; clear hi141_4 hl141_4; replace p141 := eq_true p141; replace q141 := eq_true q141; have ea_ := Option.some.inj (hx140_2.symm.trans hx141_2); injection ea_ with ea_ en_ ec_; subst ea_; subst ec_; clear en_; have ea_ := Option.some.inj (hx140_3.symm.trans hx141_3); injection ea_ with ea_ en_ ec_; subst ea_; subst ec_; clear en_; have ea_ := Option.some.inj (hx140_4.symm.trans hx141_4); injection ea_ with ea_ en_ ec_; subst ea_; subst ec_; clear en_) | (go_at_call 96; (with_reducible refine (spec_l00In.calls (((rd_T41 l0 0).f1).length : Int) 1 6 false _ A8.out).mono ?_); rintro e w' ⟨rfl, ⟨nd, rfl⟩⟩))
   go_meet
   case rel => exact ⟨_, (true), (by first | rfl | (simp; done) | (simp [*]; done) | (exact congrArg (Value.int .i64) (wrap_eq (by omega)))), H', ⟨by first | omega | exact Nat.le_refl _⟩, zl HB⟩
  subst c9
  have H1 : ((spec_l00In.f (((rd_T41 l0 0).f2).length : Int) 1 8).bind fun t144 => (spec_l03Ok.j0 k l0 (!t144))) = some r := by rw [if_pos rfl] at H; exact H
  clear H
  have H := H1
  clear H1
  replace H := Option.bind_eq_some_iff.mp H
  obtain ⟨t144, A100, H⟩ := H
  replace H : (spec_l03Ok.j0 k l0 (!t144)) = some r := H
  have A10 := Aside0.mk A100
  clear A100
  have H' := Aside0.mk H
  clear H
  have p138 : 0 ≤ (0 : Int) := (by omega)
  have q138 : 0 < (l0.length : Int) := of_decide_eq_true (by first | (with_reducible assumption) | assumption)
  obtain ⟨ad138, A138_2, c138_2, A138_3, c138_3, A138_4, c138_4, e138, hx138_0, hx138_1, hx138_2, hx138_3, hx138_4, hl138_2, hi138_2, hl138_3, hi138_3, hl138_4, hi138_4⟩ := at_T41 HR0.out 0 p138 q138
  obtain rfl : adp0 = ad138 := (by injection e138)
  have qi138 : (0 < l0.length) = True := eq_true (by omega)
  (try rw [show ((0 : Int)).toNat = 0 from rfl] at hx138_0)
  (try rw [show 0 * 5 = 0 from rfl] at hx138_0)
  (try rw [Addr.add_zero'] at hx138_0)
  (try rw [show ((0 : Int)).toNat = 0 from rfl] at hx138_1)
  (try rw [show 0 * 5 = 0 from rfl] at hx138_1)
  (try rw [Addr.add_zero'] at hx138_1)
  (try rw [show ((0 : Int)).toNat = 0 from rfl] at hx138_2)
  (try rw [show 0 * 5 = 0 from rfl] at hx138_2)
  (try rw [Addr.add_zero'] at hx138_2)
  (try rw [show ((0 : Int)).toNat = 0 from rfl] at hx138_3)
  (try rw [show 0 * 5 = 0 from rfl] at hx138_3)
  (try rw [Addr.add_zero'] at hx138_3)
  (try rw [show ((0 : Int)).toNat = 0 from rfl] at hx138_4)
  (try rw [show 0 * 5 = 0 from rfl] at hx138_4)
  (try rw [Addr.add_zero'] at hx138_4)
  replace hx138_0 := zc HB hx138_0
  replace hx138_1 := zc HB hx138_1
  replace hx138_2 := zc HB hx138_2
  replace hx138_3 := zc HB hx138_3
  replace hx138_4 := zc HB hx138_4
  have HR138_2 := Aside0.mk hi138_2
  have HC138_2 := Aside0.mk hl138_2
  clear hi138_2 hl138_2
  have HR138_3 := Aside0.mk hi138_3
  have HC138_3 := Aside0.mk hl138_3
  clear hi138_3 hl138_3
  have HR138_4 := Aside0.mk hi138_4
  have HC138_4 := Aside0.mk hl138_4
  clear hi138_4 hl138_4
  replace p138 := eq_true p138
  replace q138 := eq_true q138
  go_wp2_with (first | ((with_reducible refine gate_callee (f := 106) rfl ?_); refine goesL_ (some 9) rfl rfl Try.func106 (by kernel_rfl) rfl #[.pointer (some adp0)] rfl (by (try simp only [List.map_toArray, List.map_cons, List.map_nil]); first | done | rfl | (simp only [List.length_drop, List.length_take]; rfl)) ?_; (with_reducible refine (spec_l01Ok.calls k _ [(⟨(rd_T41 l0 0).f0.f0, (rd_T41 l0 0).f0.f1, (rd_T41 l0 0).f0.f2⟩ : S37)] true _ ?side1 A4.out).mono ?_); (case side1 => refine ro_first (d := k41) (d1 := k37) (f := fun x : S41 => (x.f0, x.f1, x.f2)) (l := l0) rfl z41 ?_ (by first | (have h_ := of_eq_true q138; omega) | (have h_ : 0 < (l0.length : Int) := of_decide_eq_true (by assumption); omega) | omega) rfl; exact zcc HB HR0.out); rintro e w11 ⟨rfl, hb⟩; refine ⟨_, rfl, ?_⟩; have n0_ := zb HB hb; clear HB; have HB := n0_; clear n0_; (try clear hb); (try clear hb2); (try clear hk); (try clear hi); have p140 : 0 ≤ (0 : Int) := (by omega); have q140 : 0 < (l0.length : Int) := of_decide_eq_true (by first | (with_reducible assumption) | assumption); obtain ⟨ad140, A140_2, c140_2, A140_3, c140_3, A140_4, c140_4, e140, hx140_0, hx140_1, hx140_2, hx140_3, hx140_4, hl140_2, hi140_2, hl140_3, hi140_3, hl140_4, hi140_4⟩ := at_T41 HR0.out 0 p140 q140; obtain rfl : adp0 = ad140 := (by injection e140); have qi140 : (0 < l0.length) = True := eq_true (by omega); (try rw [show ((0 : Int)).toNat = 0 from rfl] at hx140_0); (try rw [show 0 * 5 = 0 from rfl] at hx140_0); (try rw [Addr.add_zero'] at hx140_0); (try rw [show ((0 : Int)).toNat = 0 from rfl] at hx140_1); (try rw [show 0 * 5 = 0 from rfl] at hx140_1); (try rw [Addr.add_zero'] at hx140_1); (try rw [show ((0 : Int)).toNat = 0 from rfl] at hx140_2); (try rw [show 0 * 5 = 0 from rfl] at hx140_2); (try rw [Addr.add_zero'] at hx140_2); (try rw [show ((0 : Int)).toNat = 0 from rfl] at hx140_3); (try rw [show 0 * 5 = 0 from rfl] at hx140_3); (try rw [Addr.add_zero'] at hx140_3); (try rw [show ((0 : Int)).toNat = 0 from rfl] at hx140_4); (try rw [show 0 * 5 = 0 from rfl] at hx140_4); (try rw [Addr.add_zero'] at hx140_4); replace hx140_0 := zc HB hx140_0; replace hx140_1 := zc HB hx140_1; replace hx140_2 := zc HB hx140_2; replace hx140_3 := zc HB hx140_3; replace hx140_4 := zc HB hx140_4; have HR140_2 := Aside0.mk hi140_2; have HC140_2 := Aside0.mk hl140_2; clear hi140_2 hl140_2; have HR140_3 := Aside0.mk hi140_3; have HC140_3 := Aside0.mk hl140_3; clear hi140_3 hl140_3; have HR140_4 := Aside0.mk hi140_4; have HC140_4 := Aside0.mk hl140_4; clear hi140_4 hl140_4; replace p140 := eq_true p140; replace q140 := eq_true q140; have p141 : 0 ≤ (0 : Int) := (by omega); have q141 : 0 < (l0.length : Int) := of_decide_eq_true (by first | (with_reducible assumption) | assumption); obtain ⟨ad141, A141_2, c141_2, A141_3, c141_3, A141_4, c141_4, e141, hx141_0, hx141_1, hx141_2, hx141_3, hx141_4, hl141_2, hi141_2, hl141_3, hi141_3, hl141_4, hi141_4⟩ := at_T41 HR0.out 0 p141 q141; obtain rfl : adp0 = ad141 := (by injection e141); have qi141 : (0 < l0.length) = True := eq_true (by omega); (try rw [show ((0 : Int)).toNat = 0 from rfl] at hx141_0); (try rw [show 0 * 5 = 0 from rfl] at hx141_0); (try rw [Addr.add_zero'] at hx141_0); (try rw [show ((0 : Int)).toNat = 0 from rfl] at hx141_1); (try rw [show 0 * 5 = 0 from rfl] at hx141_1); (try rw [Addr.add_zero'] at hx141_1); (try rw [show ((0 : Int)).toNat = 0 from rfl] at hx141_2); (try rw [show 0 * 5 = 0 from rfl] at hx141_2); (try rw [Addr.add_zero'] at hx141_2); (try rw [show ((0 : Int)).toNat = 0 from rfl] at hx141_3); (try rw [show 0 * 5 = 0 from rfl] at hx141_3); (try rw [Addr.add_zero'] at hx141_3); (try rw [show ((0 : Int)).toNat = 0 from rfl] at hx141_4); (try rw [show 0 * 5 = 0 from rfl] at hx141_4); (try rw [Addr.add_zero'] at hx141_4); replace hx141_0 := zc HB hx141_0; replace hx141_1 := zc HB hx141_1; replace hx141_2 := zc HB hx141_2; replace hx141_3 := zc HB hx141_3; replace hx141_4 := zc HB hx141_4; have HR141_2 := Aside0.mk hi141_2; have HC141_2 := Aside0.mk hl141_2; clear hi141_2 hl141_2; have HR141_3 := Aside0.mk hi141_3; have HC141_3 := Aside0.mk hl141_3; clear hi141_3 hl141_3; have HR141_4 := Aside0.mk hi141_4; have HC141_4 := Aside0.mk hl141_4; clear hi141_4 hl141_4; replace p141 := eq_true p141; replace q141 := eq_true q141; have ea_ := Option.some.inj (hx140_2.symm.trans hx141_2); injection ea_ with ea_ en_ ec_; subst ea_; subst ec_; clear en_; have ea_ := Option.some.inj (hx140_3.symm.trans hx141_3); injection ea_ with ea_ en_ ec_; subst ea_; subst ec_; clear en_; have ea_ := Option.some.inj (hx140_4.symm.trans hx141_4); injection ea_ with ea_ en_ ec_; subst ea_; subst ec_; clear en_) | (go_at_call 96; (with_reducible refine (spec_l00In.calls (((rd_T41 l0 0).f1).length : Int) 1 6 true _ A8.out).mono ?_); rintro e w' ⟨rfl, ⟨nd, rfl⟩⟩; have p143 : 0 ≤ (0 : Int) := (by omega); have q143 : 0 < (l0.length : Int) := of_decide_eq_true (by first | (with_reducible assumption) | assumption); obtain ⟨ad143, A143_2, c143_2, A143_3, c143_3, A143_4, c143_4, e143, hx143_0, hx143_1, hx143_2, hx143_3, hx143_4, hl143_2, hi143_2, hl143_3, hi143_3, hl143_4, hi143_4⟩ := at_T41 HR0.out 0 p143 q143; obtain rfl : adp0 = ad143 := (by injection e143); have qi143 : (0 < l0.length) = True := eq_true (by omega); (try rw [show ((0 : Int)).toNat = 0 from rfl] at hx143_0); (try rw [show 0 * 5 = 0 from rfl] at hx143_0); (try rw [Addr.add_zero'] at hx143_0); (try rw [show ((0 : Int)).toNat = 0 from rfl] at hx143_1); (try rw [show 0 * 5 = 0 from rfl] at hx143_1); (try rw [Addr.add_zero'] at hx143_1); (try rw [show ((0 : Int)).toNat = 0 from rfl] at hx143_2); (try rw [show 0 * 5 = 0 from rfl] at hx143_2); (try rw [Addr.add_zero'] at hx143_2); (try rw [show ((0 : Int)).toNat = 0 from rfl] at hx143_3); (try rw [show 0 * 5 = 0 from rfl] at hx143_3); (try rw [Addr.add_zero'] at hx143_3); (try rw [show ((0 : Int)).toNat = 0 from rfl] at hx143_4); (try rw [show 0 * 5 = 0 from rfl] at hx143_4); (try rw [Addr.add_zero'] at hx143_4); replace hx143_0 := zc HB hx143_0; replace hx143_1 := zc HB hx143_1; replace hx143_2 := zc HB hx143_2; replace hx143_3 := zc HB hx143_3; replace hx143_4 := zc HB hx143_4; have HR143_2 := Aside0.mk hi143_2; have HC143_2 := Aside0.mk hl143_2; clear hi143_2 hl143_2; have HR143_3 := Aside0.mk hi143_3; have HC143_3 := Aside0.mk hl143_3; clear hi143_3 hl143_3; have HR143_4 := Aside0.mk hi143_4; have HC143_4 := Aside0.mk hl143_4; clear hi143_4 hl143_4; replace p143 := eq_true p143; replace q143 := eq_true q143; have ea_ := Option.some.inj (hx140_2.symm.trans hx143_2); injection ea_ with ea_ en_ ec_; subst ea_; subst ec_; clear en_; have ea_ := Option.some.inj (hx140_3.symm.trans hx143_3); injection ea_ with ea_ en_ ec_; subst ea_; subst ec_; clear en_; have ea_ := Option.some.inj (hx140_4.symm.trans hx143_4); injection ea_ with ea_ en_ ec_; subst ea_; subst ec_; clear en_) | (go_at_call 96; (with_reducible refine (spec_l00In.calls (((rd_T41 l0 0).f2).length : Int) 1 8 t144 _ A10.out).mono ?_); rintro e w' ⟨rfl, ⟨nd, rfl⟩⟩))
  go_meet
  case rel => exact ⟨_, (!t144), (by first | rfl | (simp; done) | (simp [*]; done) | (exact congrArg (Value.int .i64) (wrap_eq (by omega)))), H', ⟨by first | omega | exact Nat.le_refl _⟩, zl HB⟩
 clear HC2
 try clear c1
 try clear p1
 try clear q1
 try clear hx1
 try clear qi1
 try clear p2
 try clear c3
 try clear c3b0
 try clear c3b1
 try clear c5
 try clear c6
 try clear c6b0
 try clear c6b1
 try clear c9
 try clear c10
 try clear c13
 try clear p13
 try clear q13
 try clear hx13
 try clear qi13
 try clear hx138_0
 try clear hx138_1
 try clear hx138_2
 try clear hx138_3
 try clear hx138_4
 try clear hx140_0
 try clear hx140_1
 try clear hx140_2
 try clear hx140_3
 try clear hx140_4
 try clear hx141_0
 try clear hx141_1
 try clear hx141_2
 try clear hx141_3
 try clear hx141_4
 try clear hx143_0
 try clear hx143_1
 try clear hx143_2
 try clear hx143_3
 try clear hx143_4
 try clear p138
 try clear p140
 try clear p141
 try clear p143
 try clear q138
 try clear q140
 try clear q141
 try clear q143
 obtain ⟨kq, x37_1, rfl, HA, HJ1, HB⟩ := hcut
 cases kq with
 | zero => exact absurd HA.out (by simp [spec_l03Ok.j0])
 | succ kj1 => ?_
 have H := HA.out
 clear HA
 simp only [spec_l03Ok.j0] at H
 by_cases c14 : x37_1 = true
 ·subst c14
  have H1 : (some false) = some r := by rw [if_pos rfl] at H; exact H
  clear H
  have H := H1
  clear H1
  obtain rfl := Option.some.inj H
  go_wp2
  go_ret
  exact ⟨by first | rfl | (simp [errW_none, errW_some] <;> rfl) | (simp [*, errW_none, errW_some] <;> rfl), by repeat (first | (with_reducible first | exact HB.out | apply below_alloc | apply pw_below_drewN | apply below_drew1) | exact HB.out)⟩
 replace c14 := Bool.eq_false_iff.mpr c14
 subst c14
 have H1 : (spec_l03Ok.l0 kj1 l0 0) = some r := by rw [if_neg (show ¬ (false = true) by decide)] at H; exact H
 clear H
 have H := H1
 clear H1
 have H' := Aside0.mk H
 clear H
 go_wp2
 go_loopg [3] kj1 (fun kq v3 w' => ∃ (x3_2 : Int), v3 = .int .i64 x3_2 ∧ Aside0 (spec_l03Ok.l0 kq l0 x3_2 = some r) ∧ Aside0 (kq ≤ kj1) ∧ Aside0 (Below w.heap.size w w'))
 case atStart => exact ⟨(0), (by first | rfl | (simp; done) | (simp [*]; done) | (exact congrArg (Value.int .i64) (wrap_eq (by omega)))), H', ⟨Nat.le_refl _⟩, zl HB⟩
 clear H'
 try clear c1
 try clear p1
 try clear q1
 try clear hx1
 try clear qi1
 try clear p2
 try clear c3
 try clear c3b0
 try clear c3b1
 try clear c5
 try clear c6
 try clear c6b0
 try clear c6b1
 try clear c9
 try clear c10
 try clear c13
 try clear p13
 try clear q13
 try clear hx13
 try clear qi13
 try clear c14
 try clear p14
 try clear q14
 try clear hx14
 try clear qi14
 try clear hx138_0
 try clear hx138_1
 try clear hx138_2
 try clear hx138_3
 try clear hx138_4
 try clear hx140_0
 try clear hx140_1
 try clear hx140_2
 try clear hx140_3
 try clear hx140_4
 try clear hx141_0
 try clear hx141_1
 try clear hx141_2
 try clear hx141_3
 try clear hx141_4
 try clear hx143_0
 try clear hx143_1
 try clear hx143_2
 try clear hx143_3
 try clear hx143_4
 try clear p1
 try clear p13
 try clear p138
 try clear p140
 try clear p141
 try clear p143
 try clear p2
 try clear q1
 try clear q13
 try clear q138
 try clear q140
 try clear q141
 try clear q143
 obtain ⟨x3_2, rfl, HA, HK2, HB⟩ := hrel
 cases gk with
 | zero => exact absurd HA.out (by simp [spec_l03Ok.l0])
 | succ k2 => ?_
 have H := HA.out
 clear HA
 simp only [spec_l03Ok.l0] at H
 by_cases c15 : 0 < (l0.length : Int)
 rotate_left
 ·rw [if_neg c15] at H
  exact absurd H (by simp)
 rw [if_pos c15] at H
 have c15b0 : decide (0 < (l0.length : Int)) = true := decide_eq_true c15
 have c15b1 : decide (0 < l0.length) = true := decide_eq_true (by omega)
 clear c15
 by_cases c16 : x3_2 < (((rd_T41 l0 0).f1).length : Int)
 rotate_left
 ·rw [if_neg c16] at H
  have c16b0 : decide (x3_2 < (((rd_T41 l0 0).f1).length : Int)) = false := decide_eq_false c16
  clear c16
  have H' := Aside0.mk H
  clear H
  have p145 : 0 ≤ (0 : Int) := (by omega)
  have q145 : 0 < (l0.length : Int) := of_decide_eq_true (by first | (with_reducible assumption) | assumption)
  obtain ⟨ad145, A145_2, c145_2, A145_3, c145_3, A145_4, c145_4, e145, hx145_0, hx145_1, hx145_2, hx145_3, hx145_4, hl145_2, hi145_2, hl145_3, hi145_3, hl145_4, hi145_4⟩ := at_T41 HR0.out 0 p145 q145
  obtain rfl : adp0 = ad145 := (by injection e145)
  have qi145 : (0 < l0.length) = True := eq_true (by omega)
  (try rw [show ((0 : Int)).toNat = 0 from rfl] at hx145_0)
  (try rw [show 0 * 5 = 0 from rfl] at hx145_0)
  (try rw [Addr.add_zero'] at hx145_0)
  (try rw [show ((0 : Int)).toNat = 0 from rfl] at hx145_1)
  (try rw [show 0 * 5 = 0 from rfl] at hx145_1)
  (try rw [Addr.add_zero'] at hx145_1)
  (try rw [show ((0 : Int)).toNat = 0 from rfl] at hx145_2)
  (try rw [show 0 * 5 = 0 from rfl] at hx145_2)
  (try rw [Addr.add_zero'] at hx145_2)
  (try rw [show ((0 : Int)).toNat = 0 from rfl] at hx145_3)
  (try rw [show 0 * 5 = 0 from rfl] at hx145_3)
  (try rw [Addr.add_zero'] at hx145_3)
  (try rw [show ((0 : Int)).toNat = 0 from rfl] at hx145_4)
  (try rw [show 0 * 5 = 0 from rfl] at hx145_4)
  (try rw [Addr.add_zero'] at hx145_4)
  replace hx145_0 := zc HB hx145_0
  replace hx145_1 := zc HB hx145_1
  replace hx145_2 := zc HB hx145_2
  replace hx145_3 := zc HB hx145_3
  replace hx145_4 := zc HB hx145_4
  have HR145_2 := Aside0.mk hi145_2
  have HC145_2 := Aside0.mk hl145_2
  clear hi145_2 hl145_2
  have HR145_3 := Aside0.mk hi145_3
  have HC145_3 := Aside0.mk hl145_3
  clear hi145_3 hl145_3
  have HR145_4 := Aside0.mk hi145_4
  have HC145_4 := Aside0.mk hl145_4
  clear hi145_4 hl145_4
  replace p145 := eq_true p145
  replace q145 := eq_true q145
  go_wp2
  go_loopg [5] k2 (fun kq v5 w' => ∃ (x5_3 : Int), v5 = .int .i64 x5_3 ∧ Aside0 (spec_l03Ok.l2 kq l0 x5_3 = some r) ∧ Aside0 (kq ≤ k2) ∧ Aside0 (Below w.heap.size w w'))
  case atStart => exact ⟨(0), (by first | rfl | (simp; done) | (simp [*]; done) | (exact congrArg (Value.int .i64) (wrap_eq (by omega)))), H', ⟨Nat.le_refl _⟩, zl HB⟩
  clear H'
  try clear c1
  try clear p1
  try clear q1
  try clear hx1
  try clear qi1
  try clear c2
  try clear p2
  try clear c3
  try clear p6
  try clear c14
  try clear p14
  try clear q14
  try clear hx14
  try clear qi14
  try clear c15
  try clear p15
  try clear q15
  try clear hx15
  try clear qi15
  try clear c16
  try clear c16b0
  try clear c26
  try clear c26b0
  try clear c27
  try clear c28
  try clear c29
  try clear c30
  try clear c31
  try clear c32
  try clear c32b0
  try clear hx145_0
  try clear hx145_1
  try clear hx145_2
  try clear hx145_3
  try clear hx145_4
  try clear hx153_0
  try clear hx153_1
  try clear hx153_2
  try clear hx153_3
  try clear hx153_4
  try clear hx154_0
  try clear hx154_1
  try clear hx154_2
  try clear hx155_0
  try clear hx155_1
  try clear hx155_2
  try clear hx155_3
  try clear hx155_4
  try clear hx156_0
  try clear hx156_1
  try clear hx156_2
  try clear p145
  try clear p153
  try clear p154
  try clear p155
  try clear p156
  try clear q145
  try clear q153
  try clear q154
  try clear q155
  try clear q156
  obtain ⟨x5_3, rfl, HA, HK3, HB⟩ := hrel
  cases gk with
  | zero => exact absurd HA.out (by simp [spec_l03Ok.l2])
  | succ k3 => ?_
  have H := HA.out
  clear HA
  simp only [spec_l03Ok.l2] at H
  by_cases c35 : 0 < (l0.length : Int)
  rotate_left
  ·rw [if_neg c35] at H
   exact absurd H (by simp)
  rw [if_pos c35] at H
  have c35b0 : decide (0 < (l0.length : Int)) = true := decide_eq_true c35
  have c35b1 : decide (0 < l0.length) = true := decide_eq_true (by omega)
  clear c35
  by_cases c36 : x5_3 < (((rd_T41 l0 0).f2).length : Int)
  rotate_left
  ·rw [if_neg c36] at H
   have c36b0 : decide (x5_3 < (((rd_T41 l0 0).f2).length : Int)) = false := decide_eq_false c36
   clear c36
   obtain rfl := Option.some.inj H
   have p157 : 0 ≤ (0 : Int) := (by omega)
   have q157 : 0 < (l0.length : Int) := of_decide_eq_true (by first | (with_reducible assumption) | assumption)
   obtain ⟨ad157, A157_2, c157_2, A157_3, c157_3, A157_4, c157_4, e157, hx157_0, hx157_1, hx157_2, hx157_3, hx157_4, hl157_2, hi157_2, hl157_3, hi157_3, hl157_4, hi157_4⟩ := at_T41 HR0.out 0 p157 q157
   obtain rfl : adp0 = ad157 := (by injection e157)
   have qi157 : (0 < l0.length) = True := eq_true (by omega)
   (try rw [show ((0 : Int)).toNat = 0 from rfl] at hx157_0)
   (try rw [show 0 * 5 = 0 from rfl] at hx157_0)
   (try rw [Addr.add_zero'] at hx157_0)
   (try rw [show ((0 : Int)).toNat = 0 from rfl] at hx157_1)
   (try rw [show 0 * 5 = 0 from rfl] at hx157_1)
   (try rw [Addr.add_zero'] at hx157_1)
   (try rw [show ((0 : Int)).toNat = 0 from rfl] at hx157_2)
   (try rw [show 0 * 5 = 0 from rfl] at hx157_2)
   (try rw [Addr.add_zero'] at hx157_2)
   (try rw [show ((0 : Int)).toNat = 0 from rfl] at hx157_3)
   (try rw [show 0 * 5 = 0 from rfl] at hx157_3)
   (try rw [Addr.add_zero'] at hx157_3)
   (try rw [show ((0 : Int)).toNat = 0 from rfl] at hx157_4)
   (try rw [show 0 * 5 = 0 from rfl] at hx157_4)
   (try rw [Addr.add_zero'] at hx157_4)
   replace hx157_0 := zc HB hx157_0
   replace hx157_1 := zc HB hx157_1
   replace hx157_2 := zc HB hx157_2
   replace hx157_3 := zc HB hx157_3
   replace hx157_4 := zc HB hx157_4
   have HR157_2 := Aside0.mk hi157_2
   have HC157_2 := Aside0.mk hl157_2
   clear hi157_2 hl157_2
   have HR157_3 := Aside0.mk hi157_3
   have HC157_3 := Aside0.mk hl157_3
   clear hi157_3 hl157_3
   have HR157_4 := Aside0.mk hi157_4
   have HC157_4 := Aside0.mk hl157_4
   clear hi157_4 hl157_4
   replace p157 := eq_true p157
   replace q157 := eq_true q157
   go_wp2
   go_ret
   exact ⟨by first | rfl | (simp [errW_none, errW_some] <;> rfl) | (simp [*, errW_none, errW_some] <;> rfl), by repeat (first | (with_reducible first | exact HB.out | apply below_alloc | apply pw_below_drewN | apply below_drew1) | exact HB.out)⟩
  rw [if_pos c36] at H
  have c36b0 : decide (x5_3 < (((rd_T41 l0 0).f2).length : Int)) = true := decide_eq_true c36
  clear c36
  by_cases c37 : 0 ≤ x5_3
  rotate_left
  ·rw [if_neg c37] at H
   exact absurd H (by simp)
  rw [if_pos c37] at H
  have c37b0 : decide (0 ≤ x5_3) = true := decide_eq_true c37
  clear c37
  replace H := Option.bind_eq_some_iff.mp H
  obtain ⟨t161, A380, H⟩ := H
  replace H : (if t161 < 0 then (some false) else (spec_l03Ok.l2 k3 l0 (wrap64 (x5_3 + 1)))) = some r := H
  have A38 := Aside0.mk A380
  clear A380
  by_cases c39 : t161 < 0
  ·rw [if_pos c39] at H
   have c39b0 : decide (t161 < 0) = true := decide_eq_true c39
   clear c39
   obtain rfl := Option.some.inj H
   have p157 : 0 ≤ (0 : Int) := (by omega)
   have q157 : 0 < (l0.length : Int) := of_decide_eq_true (by first | (with_reducible assumption) | assumption)
   obtain ⟨ad157, A157_2, c157_2, A157_3, c157_3, A157_4, c157_4, e157, hx157_0, hx157_1, hx157_2, hx157_3, hx157_4, hl157_2, hi157_2, hl157_3, hi157_3, hl157_4, hi157_4⟩ := at_T41 HR0.out 0 p157 q157
   obtain rfl : adp0 = ad157 := (by injection e157)
   have qi157 : (0 < l0.length) = True := eq_true (by omega)
   (try rw [show ((0 : Int)).toNat = 0 from rfl] at hx157_0)
   (try rw [show 0 * 5 = 0 from rfl] at hx157_0)
   (try rw [Addr.add_zero'] at hx157_0)
   (try rw [show ((0 : Int)).toNat = 0 from rfl] at hx157_1)
   (try rw [show 0 * 5 = 0 from rfl] at hx157_1)
   (try rw [Addr.add_zero'] at hx157_1)
   (try rw [show ((0 : Int)).toNat = 0 from rfl] at hx157_2)
   (try rw [show 0 * 5 = 0 from rfl] at hx157_2)
   (try rw [Addr.add_zero'] at hx157_2)
   (try rw [show ((0 : Int)).toNat = 0 from rfl] at hx157_3)
   (try rw [show 0 * 5 = 0 from rfl] at hx157_3)
   (try rw [Addr.add_zero'] at hx157_3)
   (try rw [show ((0 : Int)).toNat = 0 from rfl] at hx157_4)
   (try rw [show 0 * 5 = 0 from rfl] at hx157_4)
   (try rw [Addr.add_zero'] at hx157_4)
   replace hx157_0 := zc HB hx157_0
   replace hx157_1 := zc HB hx157_1
   replace hx157_2 := zc HB hx157_2
   replace hx157_3 := zc HB hx157_3
   replace hx157_4 := zc HB hx157_4
   have HR157_2 := Aside0.mk hi157_2
   have HC157_2 := Aside0.mk hl157_2
   clear hi157_2 hl157_2
   have HR157_3 := Aside0.mk hi157_3
   have HC157_3 := Aside0.mk hl157_3
   clear hi157_3 hl157_3
   have HR157_4 := Aside0.mk hi157_4
   have HC157_4 := Aside0.mk hl157_4
   clear hi157_4 hl157_4
   replace p157 := eq_true p157
   replace q157 := eq_true q157
   try go_wp2
   have n0_ := Aside0.mk (below_drew1 HB.out)
   clear HB
   have HB := n0_
   clear n0_
   have p158 : 0 ≤ (0 : Int) := (by omega)
   have q158 : 0 < (l0.length : Int) := of_decide_eq_true (by first | (with_reducible assumption) | assumption)
   obtain ⟨ad158, A158_2, c158_2, A158_3, c158_3, A158_4, c158_4, e158, hx158_0, hx158_1, hx158_2, hx158_3, hx158_4, hl158_2, hi158_2, hl158_3, hi158_3, hl158_4, hi158_4⟩ := at_T41 HR0.out 0 p158 q158
   have hw158_4 := hx158_4
   (try rw [show ((0 : Int)).toNat = 0 from rfl] at hw158_4)
   (try rw [show 0 * 5 = 0 from rfl] at hw158_4)
   (try rw [Addr.add_zero'] at hw158_4)
   have hw158_3 := hx158_3
   (try rw [show ((0 : Int)).toNat = 0 from rfl] at hw158_3)
   (try rw [show 0 * 5 = 0 from rfl] at hw158_3)
   (try rw [Addr.add_zero'] at hw158_3)
   have hw158_2 := hx158_2
   (try rw [show ((0 : Int)).toNat = 0 from rfl] at hw158_2)
   (try rw [show 0 * 5 = 0 from rfl] at hw158_2)
   (try rw [Addr.add_zero'] at hw158_2)
   have hw158_1 := hx158_1
   (try rw [show ((0 : Int)).toNat = 0 from rfl] at hw158_1)
   (try rw [show 0 * 5 = 0 from rfl] at hw158_1)
   (try rw [Addr.add_zero'] at hw158_1)
   have hw158_0 := hx158_0
   (try rw [show ((0 : Int)).toNat = 0 from rfl] at hw158_0)
   (try rw [show 0 * 5 = 0 from rfl] at hw158_0)
   (try rw [Addr.add_zero'] at hw158_0)
   obtain rfl : adp0 = ad158 := (by injection e158)
   have qi158 : (0 < l0.length) = True := eq_true (by omega)
   (try rw [show ((0 : Int)).toNat = 0 from rfl] at hx158_0)
   (try rw [show 0 * 5 = 0 from rfl] at hx158_0)
   (try rw [Addr.add_zero'] at hx158_0)
   (try rw [show ((0 : Int)).toNat = 0 from rfl] at hx158_1)
   (try rw [show 0 * 5 = 0 from rfl] at hx158_1)
   (try rw [Addr.add_zero'] at hx158_1)
   (try rw [show ((0 : Int)).toNat = 0 from rfl] at hx158_2)
   (try rw [show 0 * 5 = 0 from rfl] at hx158_2)
   (try rw [Addr.add_zero'] at hx158_2)
   (try rw [show ((0 : Int)).toNat = 0 from rfl] at hx158_3)
   (try rw [show 0 * 5 = 0 from rfl] at hx158_3)
   (try rw [Addr.add_zero'] at hx158_3)
   (try rw [show ((0 : Int)).toNat = 0 from rfl] at hx158_4)
   (try rw [show 0 * 5 = 0 from rfl] at hx158_4)
   (try rw [Addr.add_zero'] at hx158_4)
   replace hx158_0 := zc HB hx158_0
   replace hx158_1 := zc HB hx158_1
   replace hx158_2 := zc HB hx158_2
   replace hx158_3 := zc HB hx158_3
   replace hx158_4 := zc HB hx158_4
   have HR158_2 := Aside0.mk hi158_2
   have HC158_2 := Aside0.mk hl158_2
   clear hi158_2 hl158_2
   have HR158_3 := Aside0.mk hi158_3
   have HC158_3 := Aside0.mk hl158_3
   clear hi158_3 hl158_3
   have HR158_4 := Aside0.mk hi158_4
   have HC158_4 := Aside0.mk hl158_4
   clear hi158_4 hl158_4
   replace p158 := eq_true p158
   replace q158 := eq_true q158
   have p159 : 0 ≤ (0 : Int) := (by omega)
   have q159 : 0 < (l0.length : Int) := of_decide_eq_true (by first | (with_reducible assumption) | assumption)
   obtain ⟨ad159, A159_2, c159_2, A159_3, c159_3, A159_4, c159_4, e159, hx159_0, hx159_1, hx159_2, hx159_3, hx159_4, hl159_2, hi159_2, hl159_3, hi159_3, hl159_4, hi159_4⟩ := at_T41 HR0.out 0 p159 q159
   have hw159_4 := hx159_4
   (try rw [show ((0 : Int)).toNat = 0 from rfl] at hw159_4)
   (try rw [show 0 * 5 = 0 from rfl] at hw159_4)
   (try rw [Addr.add_zero'] at hw159_4)
   have hw159_3 := hx159_3
   (try rw [show ((0 : Int)).toNat = 0 from rfl] at hw159_3)
   (try rw [show 0 * 5 = 0 from rfl] at hw159_3)
   (try rw [Addr.add_zero'] at hw159_3)
   have hw159_2 := hx159_2
   (try rw [show ((0 : Int)).toNat = 0 from rfl] at hw159_2)
   (try rw [show 0 * 5 = 0 from rfl] at hw159_2)
   (try rw [Addr.add_zero'] at hw159_2)
   have hw159_1 := hx159_1
   (try rw [show ((0 : Int)).toNat = 0 from rfl] at hw159_1)
   (try rw [show 0 * 5 = 0 from rfl] at hw159_1)
   (try rw [Addr.add_zero'] at hw159_1)
   have hw159_0 := hx159_0
   (try rw [show ((0 : Int)).toNat = 0 from rfl] at hw159_0)
   (try rw [show 0 * 5 = 0 from rfl] at hw159_0)
   (try rw [Addr.add_zero'] at hw159_0)
   obtain rfl : adp0 = ad159 := (by injection e159)
   have qi159 : (0 < l0.length) = True := eq_true (by omega)
   (try rw [show ((0 : Int)).toNat = 0 from rfl] at hx159_0)
   (try rw [show 0 * 5 = 0 from rfl] at hx159_0)
   (try rw [Addr.add_zero'] at hx159_0)
   (try rw [show ((0 : Int)).toNat = 0 from rfl] at hx159_1)
   (try rw [show 0 * 5 = 0 from rfl] at hx159_1)
   (try rw [Addr.add_zero'] at hx159_1)
   (try rw [show ((0 : Int)).toNat = 0 from rfl] at hx159_2)
   (try rw [show 0 * 5 = 0 from rfl] at hx159_2)
   (try rw [Addr.add_zero'] at hx159_2)
   (try rw [show ((0 : Int)).toNat = 0 from rfl] at hx159_3)
   (try rw [show 0 * 5 = 0 from rfl] at hx159_3)
   (try rw [Addr.add_zero'] at hx159_3)
   (try rw [show ((0 : Int)).toNat = 0 from rfl] at hx159_4)
   (try rw [show 0 * 5 = 0 from rfl] at hx159_4)
   (try rw [Addr.add_zero'] at hx159_4)
   replace hx159_0 := zc HB hx159_0
   replace hx159_1 := zc HB hx159_1
   replace hx159_2 := zc HB hx159_2
   replace hx159_3 := zc HB hx159_3
   replace hx159_4 := zc HB hx159_4
   have HR159_2 := Aside0.mk hi159_2
   have HC159_2 := Aside0.mk hl159_2
   clear hi159_2 hl159_2
   have HR159_3 := Aside0.mk hi159_3
   have HC159_3 := Aside0.mk hl159_3
   clear hi159_3 hl159_3
   have HR159_4 := Aside0.mk hi159_4
   have HC159_4 := Aside0.mk hl159_4
   clear hi159_4 hl159_4
   replace p159 := eq_true p159
   replace q159 := eq_true q159
   have ea_ := Option.some.inj (hx158_2.symm.trans hx159_2)
   injection ea_ with ea_ en_ ec_
   subst ea_
   subst ec_
   clear en_
   have ea_ := Option.some.inj (hx158_3.symm.trans hx159_3)
   injection ea_ with ea_ en_ ec_
   subst ea_
   subst ec_
   clear en_
   have ea_ := Option.some.inj (hx158_4.symm.trans hx159_4)
   injection ea_ with ea_ en_ ec_
   subst ea_
   subst ec_
   clear en_
   have p160 : 0 ≤ (x5_3 : Int) := of_decide_eq_true (by first | (with_reducible assumption) | assumption)
   have q160 : x5_3 < (((rd_T41 l0 0).f2).length : Int) := of_decide_eq_true (by first | (with_reducible assumption) | assumption)
   obtain ⟨ad160, e160, hx160_0, hx160_1⟩ := at_T74 HR159_4.out x5_3 p160 q160
   have hw160_1 := hx160_1
   have hw160_0 := hx160_0
   cases e160
   replace hx160_0 := zc HB hx160_0
   replace hx160_1 := zc HB hx160_1
   replace p160 := eq_true p160
   replace q160 := eq_true q160
   refine start_ (n := 12) (S := fun w' => w'.cell? adp0 = some (.int .i8 ((rd_T41 l0 0).f0.f0)) ∧ w'.cell? ⟨adp0.block, adp0.off + 1, none⟩ = some (.int .i8 ((rd_T41 l0 0).f0.f1)) ∧ w'.cell? ⟨adp0.block, adp0.off + 2, none⟩ = some (.slice A158_2 ((rd_T41 l0 0).f0.f2).length c158_2) ∧ w'.cell? ⟨adp0.block, adp0.off + 3, none⟩ = some (.slice A158_3 ((rd_T41 l0 0).f1).length c158_3) ∧ w'.cell? ⟨adp0.block, adp0.off + 4, none⟩ = some (.slice (some ad160) ((rd_T41 l0 0).f2).length c158_4) ∧ w'.cell? adp0 = some (.int .i8 ((rd_T41 l0 0).f0.f0)) ∧ w'.cell? ⟨adp0.block, adp0.off + 1, none⟩ = some (.int .i8 ((rd_T41 l0 0).f0.f1)) ∧ w'.cell? ⟨adp0.block, adp0.off + 2, none⟩ = some (.slice A158_2 ((rd_T41 l0 0).f0.f2).length c158_2) ∧ w'.cell? ⟨adp0.block, adp0.off + 3, none⟩ = some (.slice A158_3 ((rd_T41 l0 0).f1).length c158_3) ∧ w'.cell? ⟨adp0.block, adp0.off + 4, none⟩ = some (.slice (some ad160) ((rd_T41 l0 0).f2).length c158_4) ∧ w'.cell? (ad160.add ((x5_3).toNat * 2)) = some (.int .i8 ((rd_T74 ((rd_T41 l0 0).f2) x5_3).f0)) ∧ w'.cell? ⟨(ad160.add ((x5_3).toNat * 2)).block, (ad160.add ((x5_3).toNat * 2)).off + 1, none⟩ = some (.int .i8 ((rd_T74 ((rd_T41 l0 0).f2) x5_3).f1))) (ds := []) (zq 12 0) (by kernel_rfl) rfl rfl ⟨(zc HB hw158_0), (zc HB hw158_1), (zc HB hw158_2), (zc HB hw158_3), (zc HB hw158_4), (zc HB hw159_0), (zc HB hw159_1), (zc HB hw159_2), (zc HB hw159_3), (zc HB hw159_4), (zc HB hw160_0), (zc HB hw160_1)⟩ (fun hHeld => ?_); refine with_tabW spec_l03Ok.tab16 spec_l03Ok.bits16 (fun HT_ HW_ => ?_)
   generalize wr.drew = w40 at HB HR158_2 HR158_3 HR158_4 HR159_2 HR159_3 HR159_4 hx158_0 hx158_1 hx158_2 hx158_3 hx158_4 hx159_0 hx159_1 hx159_2 hx159_3 hx159_4 hx160_0 hx160_1 hHeld ⊢
   refine zpu 0 (some 102) (zq 12 1) HT_ ?_
   refine zpu 1 (some 103) (zq 12 3) HT_ ?_
   refine zpu 2 (some 104) (zq 12 7) HT_ ?_
   refine zpu 3 (some 105) (zq 12 15) HT_ ?_
   refine zpu 4 (some 106) (zq 12 31) HT_ ?_
   refine zpu 5 (some 107) (zq 12 63) HT_ ?_
   refine zpu 7 (some 109) (zq 12 191) HT_ ?_
   refine ztk 6 (some 108) (zq 12 255) HT_ HW_ rfl hHeld (Or.inl ⟨by rfl, by (rintro w' ⟨s0, s1, s2, s3, s4, s5, s6, s7, s8, s9, s10, s11⟩; go_simp; with_reducible rfl)⟩) ?_
   refine zpu 8 (some 110) (zq 12 511) HT_ ?_
   refine ztk 9 (some 111) (zq 12 1023) HT_ HW_ rfl hHeld (Or.inl ⟨by rfl, by (rintro w' ⟨s0, s1, s2, s3, s4, s5, s6, s7, s8, s9, s10, s11⟩; go_simp; with_reducible rfl)⟩) ?_
   refine one_ (i := 10) (N := some 112) (zq 12 2047) rfl rfl (one_of HT_.out (by kernel_rfl)) (by decide) (fun K hK => ?_)
   refine goes_ Try.func111 (by kernel_rfl) rfl #[.pointer (some adp0), .agg #[.int .i8 ((rd_T74 ((rd_T41 l0 0).f2) x5_3).f0), .int .i8 ((rd_T74 ((rd_T41 l0 0).f2) x5_3).f1)]] (by rfl) rfl rfl (by (try simp only [List.map_toArray, List.map_cons, List.map_nil]); first | done | rfl | (simp only [List.length_drop, List.length_take]; rfl)) ?_
   with_reducible refine (spec_l01Find.calls k3 _ [(⟨(rd_T41 l0 0).f0.f0, (rd_T41 l0 0).f0.f1, (rd_T41 l0 0).f0.f2⟩ : S37)] ((rd_T74 ((rd_T41 l0 0).f2) x5_3).f0) ((rd_T74 ((rd_T41 l0 0).f2) x5_3).f1) t161 _ ?side1 A38.out).mono ?_
   (case side1 => refine ro_first (d := k41) (d1 := k37) (f := fun x : S41 => (x.f0, x.f1, x.f2)) (l := l0) rfl z41 ?_ (by first | (have h_ := of_eq_true q158; omega) | (have h_ : 0 < (l0.length : Int) := of_decide_eq_true (by assumption); omega) | omega) rfl; exact zcc HB HR0.out)
   rintro e w41 ⟨rfl, hb⟩
   refine ⟨_, rfl, ?_⟩
   have n0_ := zb HB hb
   clear HB
   have HB := n0_
   clear n0_
   (try clear hb)
   (try clear hb2)
   (try clear hk)
   (try clear hi)
   refine hK.out _ _ ⟨(zc HB hw158_0), (zc HB hw158_1), (zc HB hw158_2), (zc HB hw158_3), (zc HB hw158_4), (zc HB hw159_0), (zc HB hw159_1), (zc HB hw159_2), (zc HB hw159_3), (zc HB hw159_4), (zc HB hw160_0), (zc HB hw160_1)⟩ (fun hHeld => ?_)
   clear hK K
   refine norm_ (a' := ?_) ?_ ?_
   rotate_left
   ·show Act.put _ (some 112) _ = _
    simp only [Act.put, List.setIfInBounds_toArray, List.set_cons_zero, List.set_cons_succ, i64_w, i32_w]
    rfl
   refine zpu 11 (some 113) (zq 12 4095) HT_ ?_
   refine done_ (done_of HT_.out (by kernel_rfl)) ?_
   try go_wp2
   go_ret
   exact ⟨by first | rfl | (simp [errW_none, errW_some] <;> rfl) | (simp [*, errW_none, errW_some] <;> rfl), by repeat (first | (with_reducible first | exact HB.out | apply below_alloc | apply pw_below_drewN | apply below_drew1) | exact HB.out)⟩
  rw [if_neg c39] at H
  have c39b0 : decide (t161 < 0) = false := decide_eq_false c39
  clear c39
  have H' := Aside0.mk H
  clear H
  have p157 : 0 ≤ (0 : Int) := (by omega)
  have q157 : 0 < (l0.length : Int) := of_decide_eq_true (by first | (with_reducible assumption) | assumption)
  obtain ⟨ad157, A157_2, c157_2, A157_3, c157_3, A157_4, c157_4, e157, hx157_0, hx157_1, hx157_2, hx157_3, hx157_4, hl157_2, hi157_2, hl157_3, hi157_3, hl157_4, hi157_4⟩ := at_T41 HR0.out 0 p157 q157
  obtain rfl : adp0 = ad157 := (by injection e157)
  have qi157 : (0 < l0.length) = True := eq_true (by omega)
  (try rw [show ((0 : Int)).toNat = 0 from rfl] at hx157_0)
  (try rw [show 0 * 5 = 0 from rfl] at hx157_0)
  (try rw [Addr.add_zero'] at hx157_0)
  (try rw [show ((0 : Int)).toNat = 0 from rfl] at hx157_1)
  (try rw [show 0 * 5 = 0 from rfl] at hx157_1)
  (try rw [Addr.add_zero'] at hx157_1)
  (try rw [show ((0 : Int)).toNat = 0 from rfl] at hx157_2)
  (try rw [show 0 * 5 = 0 from rfl] at hx157_2)
  (try rw [Addr.add_zero'] at hx157_2)
  (try rw [show ((0 : Int)).toNat = 0 from rfl] at hx157_3)
  (try rw [show 0 * 5 = 0 from rfl] at hx157_3)
  (try rw [Addr.add_zero'] at hx157_3)
  (try rw [show ((0 : Int)).toNat = 0 from rfl] at hx157_4)
  (try rw [show 0 * 5 = 0 from rfl] at hx157_4)
  (try rw [Addr.add_zero'] at hx157_4)
  replace hx157_0 := zc HB hx157_0
  replace hx157_1 := zc HB hx157_1
  replace hx157_2 := zc HB hx157_2
  replace hx157_3 := zc HB hx157_3
  replace hx157_4 := zc HB hx157_4
  have HR157_2 := Aside0.mk hi157_2
  have HC157_2 := Aside0.mk hl157_2
  clear hi157_2 hl157_2
  have HR157_3 := Aside0.mk hi157_3
  have HC157_3 := Aside0.mk hl157_3
  clear hi157_3 hl157_3
  have HR157_4 := Aside0.mk hi157_4
  have HC157_4 := Aside0.mk hl157_4
  clear hi157_4 hl157_4
  replace p157 := eq_true p157
  replace q157 := eq_true q157
  try go_wp2
  have n0_ := Aside0.mk (below_drew1 HB.out)
  clear HB
  have HB := n0_
  clear n0_
  have p158 : 0 ≤ (0 : Int) := (by omega)
  have q158 : 0 < (l0.length : Int) := of_decide_eq_true (by first | (with_reducible assumption) | assumption)
  obtain ⟨ad158, A158_2, c158_2, A158_3, c158_3, A158_4, c158_4, e158, hx158_0, hx158_1, hx158_2, hx158_3, hx158_4, hl158_2, hi158_2, hl158_3, hi158_3, hl158_4, hi158_4⟩ := at_T41 HR0.out 0 p158 q158
  have hw158_4 := hx158_4
  (try rw [show ((0 : Int)).toNat = 0 from rfl] at hw158_4)
  (try rw [show 0 * 5 = 0 from rfl] at hw158_4)
  (try rw [Addr.add_zero'] at hw158_4)
  have hw158_3 := hx158_3
  (try rw [show ((0 : Int)).toNat = 0 from rfl] at hw158_3)
  (try rw [show 0 * 5 = 0 from rfl] at hw158_3)
  (try rw [Addr.add_zero'] at hw158_3)
  have hw158_2 := hx158_2
  (try rw [show ((0 : Int)).toNat = 0 from rfl] at hw158_2)
  (try rw [show 0 * 5 = 0 from rfl] at hw158_2)
  (try rw [Addr.add_zero'] at hw158_2)
  have hw158_1 := hx158_1
  (try rw [show ((0 : Int)).toNat = 0 from rfl] at hw158_1)
  (try rw [show 0 * 5 = 0 from rfl] at hw158_1)
  (try rw [Addr.add_zero'] at hw158_1)
  have hw158_0 := hx158_0
  (try rw [show ((0 : Int)).toNat = 0 from rfl] at hw158_0)
  (try rw [show 0 * 5 = 0 from rfl] at hw158_0)
  (try rw [Addr.add_zero'] at hw158_0)
  obtain rfl : adp0 = ad158 := (by injection e158)
  have qi158 : (0 < l0.length) = True := eq_true (by omega)
  (try rw [show ((0 : Int)).toNat = 0 from rfl] at hx158_0)
  (try rw [show 0 * 5 = 0 from rfl] at hx158_0)
  (try rw [Addr.add_zero'] at hx158_0)
  (try rw [show ((0 : Int)).toNat = 0 from rfl] at hx158_1)
  (try rw [show 0 * 5 = 0 from rfl] at hx158_1)
  (try rw [Addr.add_zero'] at hx158_1)
  (try rw [show ((0 : Int)).toNat = 0 from rfl] at hx158_2)
  (try rw [show 0 * 5 = 0 from rfl] at hx158_2)
  (try rw [Addr.add_zero'] at hx158_2)
  (try rw [show ((0 : Int)).toNat = 0 from rfl] at hx158_3)
  (try rw [show 0 * 5 = 0 from rfl] at hx158_3)
  (try rw [Addr.add_zero'] at hx158_3)
  (try rw [show ((0 : Int)).toNat = 0 from rfl] at hx158_4)
  (try rw [show 0 * 5 = 0 from rfl] at hx158_4)
  (try rw [Addr.add_zero'] at hx158_4)
  replace hx158_0 := zc HB hx158_0
  replace hx158_1 := zc HB hx158_1
  replace hx158_2 := zc HB hx158_2
  replace hx158_3 := zc HB hx158_3
  replace hx158_4 := zc HB hx158_4
  have HR158_2 := Aside0.mk hi158_2
  have HC158_2 := Aside0.mk hl158_2
  clear hi158_2 hl158_2
  have HR158_3 := Aside0.mk hi158_3
  have HC158_3 := Aside0.mk hl158_3
  clear hi158_3 hl158_3
  have HR158_4 := Aside0.mk hi158_4
  have HC158_4 := Aside0.mk hl158_4
  clear hi158_4 hl158_4
  replace p158 := eq_true p158
  replace q158 := eq_true q158
  have p159 : 0 ≤ (0 : Int) := (by omega)
  have q159 : 0 < (l0.length : Int) := of_decide_eq_true (by first | (with_reducible assumption) | assumption)
  obtain ⟨ad159, A159_2, c159_2, A159_3, c159_3, A159_4, c159_4, e159, hx159_0, hx159_1, hx159_2, hx159_3, hx159_4, hl159_2, hi159_2, hl159_3, hi159_3, hl159_4, hi159_4⟩ := at_T41 HR0.out 0 p159 q159
  have hw159_4 := hx159_4
  (try rw [show ((0 : Int)).toNat = 0 from rfl] at hw159_4)
  (try rw [show 0 * 5 = 0 from rfl] at hw159_4)
  (try rw [Addr.add_zero'] at hw159_4)
  have hw159_3 := hx159_3
  (try rw [show ((0 : Int)).toNat = 0 from rfl] at hw159_3)
  (try rw [show 0 * 5 = 0 from rfl] at hw159_3)
  (try rw [Addr.add_zero'] at hw159_3)
  have hw159_2 := hx159_2
  (try rw [show ((0 : Int)).toNat = 0 from rfl] at hw159_2)
  (try rw [show 0 * 5 = 0 from rfl] at hw159_2)
  (try rw [Addr.add_zero'] at hw159_2)
  have hw159_1 := hx159_1
  (try rw [show ((0 : Int)).toNat = 0 from rfl] at hw159_1)
  (try rw [show 0 * 5 = 0 from rfl] at hw159_1)
  (try rw [Addr.add_zero'] at hw159_1)
  have hw159_0 := hx159_0
  (try rw [show ((0 : Int)).toNat = 0 from rfl] at hw159_0)
  (try rw [show 0 * 5 = 0 from rfl] at hw159_0)
  (try rw [Addr.add_zero'] at hw159_0)
  obtain rfl : adp0 = ad159 := (by injection e159)
  have qi159 : (0 < l0.length) = True := eq_true (by omega)
  (try rw [show ((0 : Int)).toNat = 0 from rfl] at hx159_0)
  (try rw [show 0 * 5 = 0 from rfl] at hx159_0)
  (try rw [Addr.add_zero'] at hx159_0)
  (try rw [show ((0 : Int)).toNat = 0 from rfl] at hx159_1)
  (try rw [show 0 * 5 = 0 from rfl] at hx159_1)
  (try rw [Addr.add_zero'] at hx159_1)
  (try rw [show ((0 : Int)).toNat = 0 from rfl] at hx159_2)
  (try rw [show 0 * 5 = 0 from rfl] at hx159_2)
  (try rw [Addr.add_zero'] at hx159_2)
  (try rw [show ((0 : Int)).toNat = 0 from rfl] at hx159_3)
  (try rw [show 0 * 5 = 0 from rfl] at hx159_3)
  (try rw [Addr.add_zero'] at hx159_3)
  (try rw [show ((0 : Int)).toNat = 0 from rfl] at hx159_4)
  (try rw [show 0 * 5 = 0 from rfl] at hx159_4)
  (try rw [Addr.add_zero'] at hx159_4)
  replace hx159_0 := zc HB hx159_0
  replace hx159_1 := zc HB hx159_1
  replace hx159_2 := zc HB hx159_2
  replace hx159_3 := zc HB hx159_3
  replace hx159_4 := zc HB hx159_4
  have HR159_2 := Aside0.mk hi159_2
  have HC159_2 := Aside0.mk hl159_2
  clear hi159_2 hl159_2
  have HR159_3 := Aside0.mk hi159_3
  have HC159_3 := Aside0.mk hl159_3
  clear hi159_3 hl159_3
  have HR159_4 := Aside0.mk hi159_4
  have HC159_4 := Aside0.mk hl159_4
  clear hi159_4 hl159_4
  replace p159 := eq_true p159
  replace q159 := eq_true q159
  have ea_ := Option.some.inj (hx158_2.symm.trans hx159_2)
  injection ea_ with ea_ en_ ec_
  subst ea_
  subst ec_
  clear en_
  have ea_ := Option.some.inj (hx158_3.symm.trans hx159_3)
  injection ea_ with ea_ en_ ec_
  subst ea_
  subst ec_
  clear en_
  have ea_ := Option.some.inj (hx158_4.symm.trans hx159_4)
  injection ea_ with ea_ en_ ec_
  subst ea_
  subst ec_
  clear en_
  have p160 : 0 ≤ (x5_3 : Int) := of_decide_eq_true (by first | (with_reducible assumption) | assumption)
  have q160 : x5_3 < (((rd_T41 l0 0).f2).length : Int) := of_decide_eq_true (by first | (with_reducible assumption) | assumption)
  obtain ⟨ad160, e160, hx160_0, hx160_1⟩ := at_T74 HR159_4.out x5_3 p160 q160
  have hw160_1 := hx160_1
  have hw160_0 := hx160_0
  cases e160
  replace hx160_0 := zc HB hx160_0
  replace hx160_1 := zc HB hx160_1
  replace p160 := eq_true p160
  replace q160 := eq_true q160
  refine start_ (n := 12) (S := fun w' => w'.cell? adp0 = some (.int .i8 ((rd_T41 l0 0).f0.f0)) ∧ w'.cell? ⟨adp0.block, adp0.off + 1, none⟩ = some (.int .i8 ((rd_T41 l0 0).f0.f1)) ∧ w'.cell? ⟨adp0.block, adp0.off + 2, none⟩ = some (.slice A158_2 ((rd_T41 l0 0).f0.f2).length c158_2) ∧ w'.cell? ⟨adp0.block, adp0.off + 3, none⟩ = some (.slice A158_3 ((rd_T41 l0 0).f1).length c158_3) ∧ w'.cell? ⟨adp0.block, adp0.off + 4, none⟩ = some (.slice (some ad160) ((rd_T41 l0 0).f2).length c158_4) ∧ w'.cell? adp0 = some (.int .i8 ((rd_T41 l0 0).f0.f0)) ∧ w'.cell? ⟨adp0.block, adp0.off + 1, none⟩ = some (.int .i8 ((rd_T41 l0 0).f0.f1)) ∧ w'.cell? ⟨adp0.block, adp0.off + 2, none⟩ = some (.slice A158_2 ((rd_T41 l0 0).f0.f2).length c158_2) ∧ w'.cell? ⟨adp0.block, adp0.off + 3, none⟩ = some (.slice A158_3 ((rd_T41 l0 0).f1).length c158_3) ∧ w'.cell? ⟨adp0.block, adp0.off + 4, none⟩ = some (.slice (some ad160) ((rd_T41 l0 0).f2).length c158_4) ∧ w'.cell? (ad160.add ((x5_3).toNat * 2)) = some (.int .i8 ((rd_T74 ((rd_T41 l0 0).f2) x5_3).f0)) ∧ w'.cell? ⟨(ad160.add ((x5_3).toNat * 2)).block, (ad160.add ((x5_3).toNat * 2)).off + 1, none⟩ = some (.int .i8 ((rd_T74 ((rd_T41 l0 0).f2) x5_3).f1))) (ds := []) (zq 12 0) (by kernel_rfl) rfl rfl ⟨(zc HB hw158_0), (zc HB hw158_1), (zc HB hw158_2), (zc HB hw158_3), (zc HB hw158_4), (zc HB hw159_0), (zc HB hw159_1), (zc HB hw159_2), (zc HB hw159_3), (zc HB hw159_4), (zc HB hw160_0), (zc HB hw160_1)⟩ (fun hHeld => ?_); refine with_tabW spec_l03Ok.tab16 spec_l03Ok.bits16 (fun HT_ HW_ => ?_)
  generalize wr.drew = w42 at HB HR158_2 HR158_3 HR158_4 HR159_2 HR159_3 HR159_4 hx158_0 hx158_1 hx158_2 hx158_3 hx158_4 hx159_0 hx159_1 hx159_2 hx159_3 hx159_4 hx160_0 hx160_1 hHeld ⊢
  refine zpu 0 (some 102) (zq 12 1) HT_ ?_
  refine zpu 1 (some 103) (zq 12 3) HT_ ?_
  refine zpu 2 (some 104) (zq 12 7) HT_ ?_
  refine zpu 3 (some 105) (zq 12 15) HT_ ?_
  refine zpu 4 (some 106) (zq 12 31) HT_ ?_
  refine zpu 5 (some 107) (zq 12 63) HT_ ?_
  refine zpu 7 (some 109) (zq 12 191) HT_ ?_
  refine ztk 6 (some 108) (zq 12 255) HT_ HW_ rfl hHeld (Or.inl ⟨by rfl, by (rintro w' ⟨s0, s1, s2, s3, s4, s5, s6, s7, s8, s9, s10, s11⟩; go_simp; with_reducible rfl)⟩) ?_
  refine zpu 8 (some 110) (zq 12 511) HT_ ?_
  refine ztk 9 (some 111) (zq 12 1023) HT_ HW_ rfl hHeld (Or.inl ⟨by rfl, by (rintro w' ⟨s0, s1, s2, s3, s4, s5, s6, s7, s8, s9, s10, s11⟩; go_simp; with_reducible rfl)⟩) ?_
  refine one_ (i := 10) (N := some 112) (zq 12 2047) rfl rfl (one_of HT_.out (by kernel_rfl)) (by decide) (fun K hK => ?_)
  refine goes_ Try.func111 (by kernel_rfl) rfl #[.pointer (some adp0), .agg #[.int .i8 ((rd_T74 ((rd_T41 l0 0).f2) x5_3).f0), .int .i8 ((rd_T74 ((rd_T41 l0 0).f2) x5_3).f1)]] (by rfl) rfl rfl (by (try simp only [List.map_toArray, List.map_cons, List.map_nil]); first | done | rfl | (simp only [List.length_drop, List.length_take]; rfl)) ?_
  with_reducible refine (spec_l01Find.calls k3 _ [(⟨(rd_T41 l0 0).f0.f0, (rd_T41 l0 0).f0.f1, (rd_T41 l0 0).f0.f2⟩ : S37)] ((rd_T74 ((rd_T41 l0 0).f2) x5_3).f0) ((rd_T74 ((rd_T41 l0 0).f2) x5_3).f1) t161 _ ?side1 A38.out).mono ?_
  (case side1 => refine ro_first (d := k41) (d1 := k37) (f := fun x : S41 => (x.f0, x.f1, x.f2)) (l := l0) rfl z41 ?_ (by first | (have h_ := of_eq_true q158; omega) | (have h_ : 0 < (l0.length : Int) := of_decide_eq_true (by assumption); omega) | omega) rfl; exact zcc HB HR0.out)
  rintro e w43 ⟨rfl, hb⟩
  refine ⟨_, rfl, ?_⟩
  have n0_ := zb HB hb
  clear HB
  have HB := n0_
  clear n0_
  (try clear hb)
  (try clear hb2)
  (try clear hk)
  (try clear hi)
  refine hK.out _ _ ⟨(zc HB hw158_0), (zc HB hw158_1), (zc HB hw158_2), (zc HB hw158_3), (zc HB hw158_4), (zc HB hw159_0), (zc HB hw159_1), (zc HB hw159_2), (zc HB hw159_3), (zc HB hw159_4), (zc HB hw160_0), (zc HB hw160_1)⟩ (fun hHeld => ?_)
  clear hK K
  refine norm_ (a' := ?_) ?_ ?_
  rotate_left
  ·show Act.put _ (some 112) _ = _
   simp only [Act.put, List.setIfInBounds_toArray, List.set_cons_zero, List.set_cons_succ, i64_w, i32_w]
   rfl
  refine zpu 11 (some 113) (zq 12 4095) HT_ ?_
  refine done_ (done_of HT_.out (by kernel_rfl)) ?_
  try go_wp2
  go_roundg k3
  case measure => have := HJ1.out; have := HK2.out; have := HK3.out; omega
  case rel => exact ⟨(wrap64 (x5_3 + 1)), (by first | rfl | (simp; done) | (simp [*]; done) | (exact congrArg (Value.int .i64) (wrap_eq (by omega)))), H', ⟨by have := HJ1.out; have := HK2.out; have := HK3.out; omega⟩, zl HB⟩
 rw [if_pos c16] at H
 have c16b0 : decide (x3_2 < (((rd_T41 l0 0).f1).length : Int)) = true := decide_eq_true c16
 clear c16
 have HC17 := Aside0.mk H
 clear H
 have p145 : 0 ≤ (0 : Int) := (by omega)
 have q145 : 0 < (l0.length : Int) := of_decide_eq_true (by first | (with_reducible assumption) | assumption)
 obtain ⟨ad145, A145_2, c145_2, A145_3, c145_3, A145_4, c145_4, e145, hx145_0, hx145_1, hx145_2, hx145_3, hx145_4, hl145_2, hi145_2, hl145_3, hi145_3, hl145_4, hi145_4⟩ := at_T41 HR0.out 0 p145 q145
 obtain rfl : adp0 = ad145 := (by injection e145)
 have qi145 : (0 < l0.length) = True := eq_true (by omega)
 (try rw [show ((0 : Int)).toNat = 0 from rfl] at hx145_0)
 (try rw [show 0 * 5 = 0 from rfl] at hx145_0)
 (try rw [Addr.add_zero'] at hx145_0)
 (try rw [show ((0 : Int)).toNat = 0 from rfl] at hx145_1)
 (try rw [show 0 * 5 = 0 from rfl] at hx145_1)
 (try rw [Addr.add_zero'] at hx145_1)
 (try rw [show ((0 : Int)).toNat = 0 from rfl] at hx145_2)
 (try rw [show 0 * 5 = 0 from rfl] at hx145_2)
 (try rw [Addr.add_zero'] at hx145_2)
 (try rw [show ((0 : Int)).toNat = 0 from rfl] at hx145_3)
 (try rw [show 0 * 5 = 0 from rfl] at hx145_3)
 (try rw [Addr.add_zero'] at hx145_3)
 (try rw [show ((0 : Int)).toNat = 0 from rfl] at hx145_4)
 (try rw [show 0 * 5 = 0 from rfl] at hx145_4)
 (try rw [Addr.add_zero'] at hx145_4)
 replace hx145_0 := zc HB hx145_0
 replace hx145_1 := zc HB hx145_1
 replace hx145_2 := zc HB hx145_2
 replace hx145_3 := zc HB hx145_3
 replace hx145_4 := zc HB hx145_4
 have HR145_2 := Aside0.mk hi145_2
 have HC145_2 := Aside0.mk hl145_2
 clear hi145_2 hl145_2
 have HR145_3 := Aside0.mk hi145_3
 have HC145_3 := Aside0.mk hl145_3
 clear hi145_3 hl145_3
 have HR145_4 := Aside0.mk hi145_4
 have HC145_4 := Aside0.mk hl145_4
 clear hi145_4 hl145_4
 replace p145 := eq_true p145
 replace q145 := eq_true q145
 go_upto_region 6 with (fail)
 go_cut [72] (fun v72 wc => ∃ (kq : Nat) (x72_16 : Bool), v72 = .bool x72_16 ∧ Aside0 (spec_l03Ok.j2 kq l0 x3_2 x72_16 = some r) ∧ Aside0 (kq ≤ k2) ∧ Aside0 (Below w.heap.size w wc))
 case first =>
  have H := HC17.out
  clear HC17
  by_cases c18 : 0 ≤ x3_2
  rotate_left
  ·rw [if_neg c18] at H
   exact absurd H (by simp)
  rw [if_pos c18] at H
  have c18b0 : decide (0 ≤ x3_2) = true := decide_eq_true c18
  clear c18
  (first | rw [c18b0] | (simp only [i64_w, i32_w]; rw [c18b0]) | (have h_ := c18b0; simp only [bne] at h_; rw [h_]) | skip)
  replace H := Option.bind_eq_some_iff.mp H
  obtain ⟨t148, A190, H⟩ := H
  replace H : (if t148 = true then ((spec_l01Find.f k2 [(⟨(rd_T41 l0 0).f0.f0, (rd_T41 l0 0).f0.f1, (rd_T41 l0 0).f0.f2⟩ : S37)] ((rd_T116 ((rd_T41 l0 0).f1) x3_2).f0.f0) ((rd_T116 ((rd_T41 l0 0).f1) x3_2).f0.f1)).bind fun t152 => (spec_l03Ok.j2 k2 l0 x3_2 (decide (t152 < 0)))) else (spec_l03Ok.j2 k2 l0 x3_2 true)) = some r := H
  have A19 := Aside0.mk A190
  clear A190
  by_cases c20 : t148 = true
  rotate_left
  ·replace c20 := Bool.eq_false_iff.mpr c20
   subst c20
   have H1 : (spec_l03Ok.j2 k2 l0 x3_2 true) = some r := by rw [if_neg (show ¬ (false = true) by decide)] at H; exact H
   clear H
   have H := H1
   clear H1
   have H' := Aside0.mk H
   clear H
   try go_wp2
   have n0_ := Aside0.mk (below_drew1 HB.out)
   clear HB
   have HB := n0_
   clear n0_
   have p146 : 0 ≤ (0 : Int) := (by omega)
   have q146 : 0 < (l0.length : Int) := of_decide_eq_true (by first | (with_reducible assumption) | assumption)
   obtain ⟨ad146, A146_2, c146_2, A146_3, c146_3, A146_4, c146_4, e146, hx146_0, hx146_1, hx146_2, hx146_3, hx146_4, hl146_2, hi146_2, hl146_3, hi146_3, hl146_4, hi146_4⟩ := at_T41 HR0.out 0 p146 q146
   have hw146_4 := hx146_4
   (try rw [show ((0 : Int)).toNat = 0 from rfl] at hw146_4)
   (try rw [show 0 * 5 = 0 from rfl] at hw146_4)
   (try rw [Addr.add_zero'] at hw146_4)
   have hw146_3 := hx146_3
   (try rw [show ((0 : Int)).toNat = 0 from rfl] at hw146_3)
   (try rw [show 0 * 5 = 0 from rfl] at hw146_3)
   (try rw [Addr.add_zero'] at hw146_3)
   have hw146_2 := hx146_2
   (try rw [show ((0 : Int)).toNat = 0 from rfl] at hw146_2)
   (try rw [show 0 * 5 = 0 from rfl] at hw146_2)
   (try rw [Addr.add_zero'] at hw146_2)
   have hw146_1 := hx146_1
   (try rw [show ((0 : Int)).toNat = 0 from rfl] at hw146_1)
   (try rw [show 0 * 5 = 0 from rfl] at hw146_1)
   (try rw [Addr.add_zero'] at hw146_1)
   have hw146_0 := hx146_0
   (try rw [show ((0 : Int)).toNat = 0 from rfl] at hw146_0)
   (try rw [show 0 * 5 = 0 from rfl] at hw146_0)
   (try rw [Addr.add_zero'] at hw146_0)
   obtain rfl : adp0 = ad146 := (by injection e146)
   have qi146 : (0 < l0.length) = True := eq_true (by omega)
   (try rw [show ((0 : Int)).toNat = 0 from rfl] at hx146_0)
   (try rw [show 0 * 5 = 0 from rfl] at hx146_0)
   (try rw [Addr.add_zero'] at hx146_0)
   (try rw [show ((0 : Int)).toNat = 0 from rfl] at hx146_1)
   (try rw [show 0 * 5 = 0 from rfl] at hx146_1)
   (try rw [Addr.add_zero'] at hx146_1)
   (try rw [show ((0 : Int)).toNat = 0 from rfl] at hx146_2)
   (try rw [show 0 * 5 = 0 from rfl] at hx146_2)
   (try rw [Addr.add_zero'] at hx146_2)
   (try rw [show ((0 : Int)).toNat = 0 from rfl] at hx146_3)
   (try rw [show 0 * 5 = 0 from rfl] at hx146_3)
   (try rw [Addr.add_zero'] at hx146_3)
   (try rw [show ((0 : Int)).toNat = 0 from rfl] at hx146_4)
   (try rw [show 0 * 5 = 0 from rfl] at hx146_4)
   (try rw [Addr.add_zero'] at hx146_4)
   replace hx146_0 := zc HB hx146_0
   replace hx146_1 := zc HB hx146_1
   replace hx146_2 := zc HB hx146_2
   replace hx146_3 := zc HB hx146_3
   replace hx146_4 := zc HB hx146_4
   have HR146_2 := Aside0.mk hi146_2
   have HC146_2 := Aside0.mk hl146_2
   clear hi146_2 hl146_2
   have HR146_3 := Aside0.mk hi146_3
   have HC146_3 := Aside0.mk hl146_3
   clear hi146_3 hl146_3
   have HR146_4 := Aside0.mk hi146_4
   have HC146_4 := Aside0.mk hl146_4
   clear hi146_4 hl146_4
   replace p146 := eq_true p146
   replace q146 := eq_true q146
   have p147 : 0 ≤ (x3_2 : Int) := of_decide_eq_true (by first | (with_reducible assumption) | assumption)
   have q147 : x3_2 < (((rd_T41 l0 0).f1).length : Int) := of_decide_eq_true (by first | (with_reducible assumption) | assumption)
   obtain ⟨ad147, e147, hx147_0, hx147_1, hx147_2⟩ := at_T116 HR146_3.out x3_2 p147 q147
   have hw147_2 := hx147_2
   have hw147_1 := hx147_1
   have hw147_0 := hx147_0
   cases e147
   replace hx147_0 := zc HB hx147_0
   replace hx147_1 := zc HB hx147_1
   replace hx147_2 := zc HB hx147_2
   replace p147 := eq_true p147
   replace q147 := eq_true q147
   refine start_ (n := 26) (S := fun w' => w'.cell? adp0 = some (.int .i8 ((rd_T41 l0 0).f0.f0)) ∧ w'.cell? ⟨adp0.block, adp0.off + 1, none⟩ = some (.int .i8 ((rd_T41 l0 0).f0.f1)) ∧ w'.cell? ⟨adp0.block, adp0.off + 2, none⟩ = some (.slice A146_2 ((rd_T41 l0 0).f0.f2).length c146_2) ∧ w'.cell? ⟨adp0.block, adp0.off + 3, none⟩ = some (.slice (some ad147) ((rd_T41 l0 0).f1).length c146_3) ∧ w'.cell? ⟨adp0.block, adp0.off + 4, none⟩ = some (.slice A146_4 ((rd_T41 l0 0).f2).length c146_4) ∧ w'.cell? (ad147.add ((x3_2).toNat * 3)) = some (.int .i8 ((rd_T116 ((rd_T41 l0 0).f1) x3_2).f0.f0)) ∧ w'.cell? ⟨(ad147.add ((x3_2).toNat * 3)).block, (ad147.add ((x3_2).toNat * 3)).off + 1, none⟩ = some (.int .i8 ((rd_T116 ((rd_T41 l0 0).f1) x3_2).f0.f1)) ∧ w'.cell? ⟨(ad147.add ((x3_2).toNat * 3)).block, (ad147.add ((x3_2).toNat * 3)).off + 2, none⟩ = some (.int .i8 ((rd_T116 ((rd_T41 l0 0).f1) x3_2).f1))) (ds := []) (zq 26 0) (by kernel_rfl) rfl rfl ⟨(zc HB hw146_0), (zc HB hw146_1), (zc HB hw146_2), (zc HB hw146_3), (zc HB hw146_4), (zc HB hw147_0), (zc HB hw147_1), (zc HB hw147_2)⟩ (fun hHeld => ?_); refine with_tabW spec_l03Ok.tab6 spec_l03Ok.bits6 (fun HT_ HW_ => ?_)
   generalize wr.drew = w24 at HB HR146_2 HR146_3 HR146_4 hx146_0 hx146_1 hx146_2 hx146_3 hx146_4 hx147_0 hx147_1 hx147_2 hHeld ⊢
   refine zpu 0 (some 47) (zq 26 1) HT_ ?_
   refine zpu 1 (some 48) (zq 26 3) HT_ ?_
   refine zpu 2 (some 49) (zq 26 7) HT_ ?_
   refine zpu 4 (some 51) (zq 26 23) HT_ ?_
   refine ztk 3 (some 50) (zq 26 31) HT_ HW_ rfl hHeld (Or.inl ⟨by rfl, by (rintro w' ⟨s0, s1, s2, s3, s4, s5, s6, s7⟩; go_simp; with_reducible rfl)⟩) ?_
   refine zpu 5 (some 52) (zq 26 63) HT_ ?_
   refine zpu 6 (some 53) (zq 26 127) HT_ ?_
   refine ztk 7 (some 54) (zq 26 255) HT_ HW_ rfl hHeld (Or.inl ⟨by rfl, by (rintro w' ⟨s0, s1, s2, s3, s4, s5, s6, s7⟩; go_simp; with_reducible rfl)⟩) ?_
   refine zpu 8 (some 55) (zq 26 511) HT_ ?_
   refine one_ (i := 9) (N := some 56) (zq 26 1023) rfl rfl (one_of HT_.out (by kernel_rfl)) (by decide) (fun K hK => ?_)
   refine goes_ Try.func161 (by kernel_rfl) rfl #[.int .i64 (wrap64 ((rd_T116 ((rd_T41 l0 0).f1) x3_2).f1))] (by rfl) rfl rfl (by (try simp only [List.map_toArray, List.map_cons, List.map_nil]); first | done | rfl | (simp only [List.length_drop, List.length_take]; rfl)) ?_
   with_reducible refine (spec_l01Side.calls (wrap64 ((rd_T116 ((rd_T41 l0 0).f1) x3_2).f1)) false _ A19.out).mono ?_
   rintro e w' ⟨rfl, ⟨nd, rfl⟩⟩
   refine ⟨_, rfl, ?_⟩
   refine hK.out _ _ ⟨(zc HB hw146_0), (zc HB hw146_1), (zc HB hw146_2), (zc HB hw146_3), (zc HB hw146_4), (zc HB hw147_0), (zc HB hw147_1), (zc HB hw147_2)⟩ (fun hHeld => ?_)
   clear hK K
   refine norm_ (a' := ?_) ?_ ?_
   rotate_left
   ·show Act.put _ (some 56) _ = _
    simp only [Act.put, List.setIfInBounds_toArray, List.set_cons_zero, List.set_cons_succ, i64_w, i32_w]
    rfl
   refine zpu 10 (some 57) (zq 26 2047) HT_ ?_
   refine zpu 11 (some 58) (zq 26 4095) HT_ ?_
   refine pure_ (i := 12) (N := some 59) (v := undef) (a' := ?_) (zq 26 8191) rfl rfl (any_of HT_.out (by kernel_rfl)) (fun _ _ _ h => h) (Or.inr ⟨by rfl, rfl⟩) ?_ ?_
   rotate_left
   ·simp only [Act.put, List.setIfInBounds_toArray, List.set_cons_zero, List.set_cons_succ, i64_w, i32_w]
    rfl
   refine pure_ (i := 13) (N := some 60) (v := undef) (a' := ?_) (zq 26 16383) rfl rfl (any_of HT_.out (by kernel_rfl)) (fun _ _ _ h => h) (Or.inr ⟨by rfl, rfl⟩) ?_ ?_
   rotate_left
   ·simp only [Act.put, List.setIfInBounds_toArray, List.set_cons_zero, List.set_cons_succ, i64_w, i32_w]
    rfl
   refine pure_ (i := 14) (N := some 61) (v := undef) (a' := ?_) (zq 26 32767) rfl rfl (any_of HT_.out (by kernel_rfl)) (fun _ _ _ h => h) (Or.inr ⟨by rfl, rfl⟩) ?_ ?_
   rotate_left
   ·simp only [Act.put, List.setIfInBounds_toArray, List.set_cons_zero, List.set_cons_succ, i64_w, i32_w]
    rfl
   refine pure_ (i := 15) (N := some 62) (v := undef) (a' := ?_) (zq 26 65535) rfl rfl (any_of HT_.out (by kernel_rfl)) (fun _ _ _ h => h) (Or.inr ⟨by rfl, rfl⟩) ?_ ?_
   rotate_left
   ·simp only [Act.put, List.setIfInBounds_toArray, List.set_cons_zero, List.set_cons_succ, i64_w, i32_w]
    rfl
   refine pure_ (i := 16) (N := some 63) (v := undef) (a' := ?_) (zq 26 131071) rfl rfl (any_of HT_.out (by kernel_rfl)) (fun _ _ _ h => h) (Or.inr ⟨by rfl, rfl⟩) ?_ ?_
   rotate_left
   ·simp only [Act.put, List.setIfInBounds_toArray, List.set_cons_zero, List.set_cons_succ, i64_w, i32_w]
    rfl
   refine pure_ (i := 17) (N := some 64) (v := undef) (a' := ?_) (zq 26 262143) rfl rfl (any_of HT_.out (by kernel_rfl)) (fun _ _ _ h => h) (Or.inr ⟨by rfl, rfl⟩) ?_ ?_
   rotate_left
   ·simp only [Act.put, List.setIfInBounds_toArray, List.set_cons_zero, List.set_cons_succ, i64_w, i32_w]
    rfl
   refine pure_ (i := 18) (N := some 65) (v := undef) (a' := ?_) (zq 26 524287) rfl rfl (any_of HT_.out (by kernel_rfl)) (fun _ _ _ h => h) (Or.inr ⟨by rfl, rfl⟩) ?_ ?_
   rotate_left
   ·simp only [Act.put, List.setIfInBounds_toArray, List.set_cons_zero, List.set_cons_succ, i64_w, i32_w]
    rfl
   refine pure_ (i := 19) (N := some 66) (v := undef) (a' := ?_) (zq 26 1048575) rfl rfl (any_of HT_.out (by kernel_rfl)) (fun _ _ _ h => h) (Or.inr ⟨by rfl, rfl⟩) ?_ ?_
   rotate_left
   ·simp only [Act.put, List.setIfInBounds_toArray, List.set_cons_zero, List.set_cons_succ, i64_w, i32_w]
    rfl
   refine pure_ (i := 20) (N := some 67) (v := undef) (a' := ?_) (zq 26 2097151) rfl rfl (any_of HT_.out (by kernel_rfl)) (fun _ _ _ h => h) (Or.inr ⟨by rfl, rfl⟩) ?_ ?_
   rotate_left
   ·simp only [Act.put, List.setIfInBounds_toArray, List.set_cons_zero, List.set_cons_succ, i64_w, i32_w]
    rfl
   refine pure_ (i := 21) (N := some 68) (v := undef) (a' := ?_) (zq 26 4194303) rfl rfl (any_of HT_.out (by kernel_rfl)) (fun _ _ _ h => h) (Or.inr ⟨by rfl, rfl⟩) ?_ ?_
   rotate_left
   ·simp only [Act.put, List.setIfInBounds_toArray, List.set_cons_zero, List.set_cons_succ, i64_w, i32_w]
    rfl
   refine pure_ (i := 22) (N := some 69) (v := undef) (a' := ?_) (zq 26 8388607) rfl rfl (any_of HT_.out (by kernel_rfl)) (fun _ _ _ h => h) (Or.inr ⟨by rfl, rfl⟩) ?_ ?_
   rotate_left
   ·simp only [Act.put, List.setIfInBounds_toArray, List.set_cons_zero, List.set_cons_succ, i64_w, i32_w]
    rfl
   refine pure_ (i := 23) (N := some 70) (v := undef) (a' := ?_) (zq 26 16777215) rfl rfl (any_of HT_.out (by kernel_rfl)) (fun _ _ _ h => h) (Or.inr ⟨by rfl, rfl⟩) ?_ ?_
   rotate_left
   ·simp only [Act.put, List.setIfInBounds_toArray, List.set_cons_zero, List.set_cons_succ, i64_w, i32_w]
    rfl
   refine pure_ (i := 24) (N := some 71) (v := undef) (a' := ?_) (zq 26 33554431) rfl rfl (any_of HT_.out (by kernel_rfl)) (fun _ _ _ h => h) (Or.inr ⟨by rfl, rfl⟩) ?_ ?_
   rotate_left
   ·simp only [Act.put, List.setIfInBounds_toArray, List.set_cons_zero, List.set_cons_succ, i64_w, i32_w]
    rfl
   refine zpu 25 (some 72) (zq 26 67108863) HT_ ?_
   refine done_ (done_of HT_.out (by kernel_rfl)) ?_
   try go_wp2
   go_meet
   case rel => exact ⟨_, (true), (by first | rfl | (simp; done) | (simp [*]; done) | (exact congrArg (Value.int .i64) (wrap_eq (by omega)))), H', ⟨by have := HJ1.out; have := HK2.out; first | omega | exact Nat.le_refl _⟩, zl HB⟩
  subst c20
  have H1 : ((spec_l01Find.f k2 [(⟨(rd_T41 l0 0).f0.f0, (rd_T41 l0 0).f0.f1, (rd_T41 l0 0).f0.f2⟩ : S37)] ((rd_T116 ((rd_T41 l0 0).f1) x3_2).f0.f0) ((rd_T116 ((rd_T41 l0 0).f1) x3_2).f0.f1)).bind fun t152 => (spec_l03Ok.j2 k2 l0 x3_2 (decide (t152 < 0)))) = some r := by rw [if_pos rfl] at H; exact H
  clear H
  have H := H1
  clear H1
  replace H := Option.bind_eq_some_iff.mp H
  obtain ⟨t152, A210, H⟩ := H
  replace H : (spec_l03Ok.j2 k2 l0 x3_2 (decide (t152 < 0))) = some r := H
  have A21 := Aside0.mk A210
  clear A210
  have H' := Aside0.mk H
  clear H
  try go_wp2
  have n0_ := Aside0.mk (below_drew1 HB.out)
  clear HB
  have HB := n0_
  clear n0_
  have p146 : 0 ≤ (0 : Int) := (by omega)
  have q146 : 0 < (l0.length : Int) := of_decide_eq_true (by first | (with_reducible assumption) | assumption)
  obtain ⟨ad146, A146_2, c146_2, A146_3, c146_3, A146_4, c146_4, e146, hx146_0, hx146_1, hx146_2, hx146_3, hx146_4, hl146_2, hi146_2, hl146_3, hi146_3, hl146_4, hi146_4⟩ := at_T41 HR0.out 0 p146 q146
  have hw146_4 := hx146_4
  (try rw [show ((0 : Int)).toNat = 0 from rfl] at hw146_4)
  (try rw [show 0 * 5 = 0 from rfl] at hw146_4)
  (try rw [Addr.add_zero'] at hw146_4)
  have hw146_3 := hx146_3
  (try rw [show ((0 : Int)).toNat = 0 from rfl] at hw146_3)
  (try rw [show 0 * 5 = 0 from rfl] at hw146_3)
  (try rw [Addr.add_zero'] at hw146_3)
  have hw146_2 := hx146_2
  (try rw [show ((0 : Int)).toNat = 0 from rfl] at hw146_2)
  (try rw [show 0 * 5 = 0 from rfl] at hw146_2)
  (try rw [Addr.add_zero'] at hw146_2)
  have hw146_1 := hx146_1
  (try rw [show ((0 : Int)).toNat = 0 from rfl] at hw146_1)
  (try rw [show 0 * 5 = 0 from rfl] at hw146_1)
  (try rw [Addr.add_zero'] at hw146_1)
  have hw146_0 := hx146_0
  (try rw [show ((0 : Int)).toNat = 0 from rfl] at hw146_0)
  (try rw [show 0 * 5 = 0 from rfl] at hw146_0)
  (try rw [Addr.add_zero'] at hw146_0)
  obtain rfl : adp0 = ad146 := (by injection e146)
  have qi146 : (0 < l0.length) = True := eq_true (by omega)
  (try rw [show ((0 : Int)).toNat = 0 from rfl] at hx146_0)
  (try rw [show 0 * 5 = 0 from rfl] at hx146_0)
  (try rw [Addr.add_zero'] at hx146_0)
  (try rw [show ((0 : Int)).toNat = 0 from rfl] at hx146_1)
  (try rw [show 0 * 5 = 0 from rfl] at hx146_1)
  (try rw [Addr.add_zero'] at hx146_1)
  (try rw [show ((0 : Int)).toNat = 0 from rfl] at hx146_2)
  (try rw [show 0 * 5 = 0 from rfl] at hx146_2)
  (try rw [Addr.add_zero'] at hx146_2)
  (try rw [show ((0 : Int)).toNat = 0 from rfl] at hx146_3)
  (try rw [show 0 * 5 = 0 from rfl] at hx146_3)
  (try rw [Addr.add_zero'] at hx146_3)
  (try rw [show ((0 : Int)).toNat = 0 from rfl] at hx146_4)
  (try rw [show 0 * 5 = 0 from rfl] at hx146_4)
  (try rw [Addr.add_zero'] at hx146_4)
  replace hx146_0 := zc HB hx146_0
  replace hx146_1 := zc HB hx146_1
  replace hx146_2 := zc HB hx146_2
  replace hx146_3 := zc HB hx146_3
  replace hx146_4 := zc HB hx146_4
  have HR146_2 := Aside0.mk hi146_2
  have HC146_2 := Aside0.mk hl146_2
  clear hi146_2 hl146_2
  have HR146_3 := Aside0.mk hi146_3
  have HC146_3 := Aside0.mk hl146_3
  clear hi146_3 hl146_3
  have HR146_4 := Aside0.mk hi146_4
  have HC146_4 := Aside0.mk hl146_4
  clear hi146_4 hl146_4
  replace p146 := eq_true p146
  replace q146 := eq_true q146
  have p147 : 0 ≤ (x3_2 : Int) := of_decide_eq_true (by first | (with_reducible assumption) | assumption)
  have q147 : x3_2 < (((rd_T41 l0 0).f1).length : Int) := of_decide_eq_true (by first | (with_reducible assumption) | assumption)
  obtain ⟨ad147, e147, hx147_0, hx147_1, hx147_2⟩ := at_T116 HR146_3.out x3_2 p147 q147
  have hw147_2 := hx147_2
  have hw147_1 := hx147_1
  have hw147_0 := hx147_0
  cases e147
  replace hx147_0 := zc HB hx147_0
  replace hx147_1 := zc HB hx147_1
  replace hx147_2 := zc HB hx147_2
  replace p147 := eq_true p147
  replace q147 := eq_true q147
  have p149 : 0 ≤ (0 : Int) := (by omega)
  have q149 : 0 < (l0.length : Int) := of_decide_eq_true (by first | (with_reducible assumption) | assumption)
  obtain ⟨ad149, A149_2, c149_2, A149_3, c149_3, A149_4, c149_4, e149, hx149_0, hx149_1, hx149_2, hx149_3, hx149_4, hl149_2, hi149_2, hl149_3, hi149_3, hl149_4, hi149_4⟩ := at_T41 HR0.out 0 p149 q149
  have hw149_4 := hx149_4
  (try rw [show ((0 : Int)).toNat = 0 from rfl] at hw149_4)
  (try rw [show 0 * 5 = 0 from rfl] at hw149_4)
  (try rw [Addr.add_zero'] at hw149_4)
  have hw149_3 := hx149_3
  (try rw [show ((0 : Int)).toNat = 0 from rfl] at hw149_3)
  (try rw [show 0 * 5 = 0 from rfl] at hw149_3)
  (try rw [Addr.add_zero'] at hw149_3)
  have hw149_2 := hx149_2
  (try rw [show ((0 : Int)).toNat = 0 from rfl] at hw149_2)
  (try rw [show 0 * 5 = 0 from rfl] at hw149_2)
  (try rw [Addr.add_zero'] at hw149_2)
  have hw149_1 := hx149_1
  (try rw [show ((0 : Int)).toNat = 0 from rfl] at hw149_1)
  (try rw [show 0 * 5 = 0 from rfl] at hw149_1)
  (try rw [Addr.add_zero'] at hw149_1)
  have hw149_0 := hx149_0
  (try rw [show ((0 : Int)).toNat = 0 from rfl] at hw149_0)
  (try rw [show 0 * 5 = 0 from rfl] at hw149_0)
  (try rw [Addr.add_zero'] at hw149_0)
  obtain rfl : adp0 = ad149 := (by injection e149)
  have qi149 : (0 < l0.length) = True := eq_true (by omega)
  (try rw [show ((0 : Int)).toNat = 0 from rfl] at hx149_0)
  (try rw [show 0 * 5 = 0 from rfl] at hx149_0)
  (try rw [Addr.add_zero'] at hx149_0)
  (try rw [show ((0 : Int)).toNat = 0 from rfl] at hx149_1)
  (try rw [show 0 * 5 = 0 from rfl] at hx149_1)
  (try rw [Addr.add_zero'] at hx149_1)
  (try rw [show ((0 : Int)).toNat = 0 from rfl] at hx149_2)
  (try rw [show 0 * 5 = 0 from rfl] at hx149_2)
  (try rw [Addr.add_zero'] at hx149_2)
  (try rw [show ((0 : Int)).toNat = 0 from rfl] at hx149_3)
  (try rw [show 0 * 5 = 0 from rfl] at hx149_3)
  (try rw [Addr.add_zero'] at hx149_3)
  (try rw [show ((0 : Int)).toNat = 0 from rfl] at hx149_4)
  (try rw [show 0 * 5 = 0 from rfl] at hx149_4)
  (try rw [Addr.add_zero'] at hx149_4)
  replace hx149_0 := zc HB hx149_0
  replace hx149_1 := zc HB hx149_1
  replace hx149_2 := zc HB hx149_2
  replace hx149_3 := zc HB hx149_3
  replace hx149_4 := zc HB hx149_4
  have HR149_2 := Aside0.mk hi149_2
  have HC149_2 := Aside0.mk hl149_2
  clear hi149_2 hl149_2
  have HR149_3 := Aside0.mk hi149_3
  have HC149_3 := Aside0.mk hl149_3
  clear hi149_3 hl149_3
  have HR149_4 := Aside0.mk hi149_4
  have HC149_4 := Aside0.mk hl149_4
  clear hi149_4 hl149_4
  replace p149 := eq_true p149
  replace q149 := eq_true q149
  have ea_ := Option.some.inj (hx146_2.symm.trans hx149_2)
  injection ea_ with ea_ en_ ec_
  subst ea_
  subst ec_
  clear en_
  have ea_ := Option.some.inj (hx146_3.symm.trans hx149_3)
  injection ea_ with ea_ en_ ec_
  subst ea_
  subst ec_
  clear en_
  have ea_ := Option.some.inj (hx146_4.symm.trans hx149_4)
  injection ea_ with ea_ en_ ec_
  subst ea_
  subst ec_
  clear en_
  have p150 : 0 ≤ (0 : Int) := (by omega)
  have q150 : 0 < (l0.length : Int) := of_decide_eq_true (by first | (with_reducible assumption) | assumption)
  obtain ⟨ad150, A150_2, c150_2, A150_3, c150_3, A150_4, c150_4, e150, hx150_0, hx150_1, hx150_2, hx150_3, hx150_4, hl150_2, hi150_2, hl150_3, hi150_3, hl150_4, hi150_4⟩ := at_T41 HR0.out 0 p150 q150
  have hw150_4 := hx150_4
  (try rw [show ((0 : Int)).toNat = 0 from rfl] at hw150_4)
  (try rw [show 0 * 5 = 0 from rfl] at hw150_4)
  (try rw [Addr.add_zero'] at hw150_4)
  have hw150_3 := hx150_3
  (try rw [show ((0 : Int)).toNat = 0 from rfl] at hw150_3)
  (try rw [show 0 * 5 = 0 from rfl] at hw150_3)
  (try rw [Addr.add_zero'] at hw150_3)
  have hw150_2 := hx150_2
  (try rw [show ((0 : Int)).toNat = 0 from rfl] at hw150_2)
  (try rw [show 0 * 5 = 0 from rfl] at hw150_2)
  (try rw [Addr.add_zero'] at hw150_2)
  have hw150_1 := hx150_1
  (try rw [show ((0 : Int)).toNat = 0 from rfl] at hw150_1)
  (try rw [show 0 * 5 = 0 from rfl] at hw150_1)
  (try rw [Addr.add_zero'] at hw150_1)
  have hw150_0 := hx150_0
  (try rw [show ((0 : Int)).toNat = 0 from rfl] at hw150_0)
  (try rw [show 0 * 5 = 0 from rfl] at hw150_0)
  (try rw [Addr.add_zero'] at hw150_0)
  obtain rfl : adp0 = ad150 := (by injection e150)
  have qi150 : (0 < l0.length) = True := eq_true (by omega)
  (try rw [show ((0 : Int)).toNat = 0 from rfl] at hx150_0)
  (try rw [show 0 * 5 = 0 from rfl] at hx150_0)
  (try rw [Addr.add_zero'] at hx150_0)
  (try rw [show ((0 : Int)).toNat = 0 from rfl] at hx150_1)
  (try rw [show 0 * 5 = 0 from rfl] at hx150_1)
  (try rw [Addr.add_zero'] at hx150_1)
  (try rw [show ((0 : Int)).toNat = 0 from rfl] at hx150_2)
  (try rw [show 0 * 5 = 0 from rfl] at hx150_2)
  (try rw [Addr.add_zero'] at hx150_2)
  (try rw [show ((0 : Int)).toNat = 0 from rfl] at hx150_3)
  (try rw [show 0 * 5 = 0 from rfl] at hx150_3)
  (try rw [Addr.add_zero'] at hx150_3)
  (try rw [show ((0 : Int)).toNat = 0 from rfl] at hx150_4)
  (try rw [show 0 * 5 = 0 from rfl] at hx150_4)
  (try rw [Addr.add_zero'] at hx150_4)
  replace hx150_0 := zc HB hx150_0
  replace hx150_1 := zc HB hx150_1
  replace hx150_2 := zc HB hx150_2
  replace hx150_3 := zc HB hx150_3
  replace hx150_4 := zc HB hx150_4
  have HR150_2 := Aside0.mk hi150_2
  have HC150_2 := Aside0.mk hl150_2
  clear hi150_2 hl150_2
  have HR150_3 := Aside0.mk hi150_3
  have HC150_3 := Aside0.mk hl150_3
  clear hi150_3 hl150_3
  have HR150_4 := Aside0.mk hi150_4
  have HC150_4 := Aside0.mk hl150_4
  clear hi150_4 hl150_4
  replace p150 := eq_true p150
  replace q150 := eq_true q150
  have ea_ := Option.some.inj (hx146_2.symm.trans hx150_2)
  injection ea_ with ea_ en_ ec_
  subst ea_
  subst ec_
  clear en_
  have ea_ := Option.some.inj (hx146_3.symm.trans hx150_3)
  injection ea_ with ea_ en_ ec_
  subst ea_
  subst ec_
  clear en_
  have ea_ := Option.some.inj (hx146_4.symm.trans hx150_4)
  injection ea_ with ea_ en_ ec_
  subst ea_
  subst ec_
  clear en_
  have p151 : 0 ≤ (x3_2 : Int) := of_decide_eq_true (by first | (with_reducible assumption) | assumption)
  have q151 : x3_2 < (((rd_T41 l0 0).f1).length : Int) := of_decide_eq_true (by first | (with_reducible assumption) | assumption)
  obtain ⟨ad151, e151, hx151_0, hx151_1, hx151_2⟩ := at_T116 HR150_3.out x3_2 p151 q151
  have hw151_2 := hx151_2
  have hw151_1 := hx151_1
  have hw151_0 := hx151_0
  obtain rfl : ad147 = ad151 := (by injection e151)
  replace hx151_0 := zc HB hx151_0
  replace hx151_1 := zc HB hx151_1
  replace hx151_2 := zc HB hx151_2
  replace p151 := eq_true p151
  replace q151 := eq_true q151
  refine start_ (n := 26) (S := fun w' => w'.cell? adp0 = some (.int .i8 ((rd_T41 l0 0).f0.f0)) ∧ w'.cell? ⟨adp0.block, adp0.off + 1, none⟩ = some (.int .i8 ((rd_T41 l0 0).f0.f1)) ∧ w'.cell? ⟨adp0.block, adp0.off + 2, none⟩ = some (.slice A146_2 ((rd_T41 l0 0).f0.f2).length c146_2) ∧ w'.cell? ⟨adp0.block, adp0.off + 3, none⟩ = some (.slice (some ad147) ((rd_T41 l0 0).f1).length c146_3) ∧ w'.cell? ⟨adp0.block, adp0.off + 4, none⟩ = some (.slice A146_4 ((rd_T41 l0 0).f2).length c146_4) ∧ w'.cell? (ad147.add ((x3_2).toNat * 3)) = some (.int .i8 ((rd_T116 ((rd_T41 l0 0).f1) x3_2).f0.f0)) ∧ w'.cell? ⟨(ad147.add ((x3_2).toNat * 3)).block, (ad147.add ((x3_2).toNat * 3)).off + 1, none⟩ = some (.int .i8 ((rd_T116 ((rd_T41 l0 0).f1) x3_2).f0.f1)) ∧ w'.cell? ⟨(ad147.add ((x3_2).toNat * 3)).block, (ad147.add ((x3_2).toNat * 3)).off + 2, none⟩ = some (.int .i8 ((rd_T116 ((rd_T41 l0 0).f1) x3_2).f1)) ∧ w'.cell? adp0 = some (.int .i8 ((rd_T41 l0 0).f0.f0)) ∧ w'.cell? ⟨adp0.block, adp0.off + 1, none⟩ = some (.int .i8 ((rd_T41 l0 0).f0.f1)) ∧ w'.cell? ⟨adp0.block, adp0.off + 2, none⟩ = some (.slice A146_2 ((rd_T41 l0 0).f0.f2).length c146_2) ∧ w'.cell? ⟨adp0.block, adp0.off + 3, none⟩ = some (.slice (some ad147) ((rd_T41 l0 0).f1).length c146_3) ∧ w'.cell? ⟨adp0.block, adp0.off + 4, none⟩ = some (.slice A146_4 ((rd_T41 l0 0).f2).length c146_4) ∧ w'.cell? adp0 = some (.int .i8 ((rd_T41 l0 0).f0.f0)) ∧ w'.cell? ⟨adp0.block, adp0.off + 1, none⟩ = some (.int .i8 ((rd_T41 l0 0).f0.f1)) ∧ w'.cell? ⟨adp0.block, adp0.off + 2, none⟩ = some (.slice A146_2 ((rd_T41 l0 0).f0.f2).length c146_2) ∧ w'.cell? ⟨adp0.block, adp0.off + 3, none⟩ = some (.slice (some ad147) ((rd_T41 l0 0).f1).length c146_3) ∧ w'.cell? ⟨adp0.block, adp0.off + 4, none⟩ = some (.slice A146_4 ((rd_T41 l0 0).f2).length c146_4) ∧ w'.cell? (ad147.add ((x3_2).toNat * 3)) = some (.int .i8 ((rd_T116 ((rd_T41 l0 0).f1) x3_2).f0.f0)) ∧ w'.cell? ⟨(ad147.add ((x3_2).toNat * 3)).block, (ad147.add ((x3_2).toNat * 3)).off + 1, none⟩ = some (.int .i8 ((rd_T116 ((rd_T41 l0 0).f1) x3_2).f0.f1)) ∧ w'.cell? ⟨(ad147.add ((x3_2).toNat * 3)).block, (ad147.add ((x3_2).toNat * 3)).off + 2, none⟩ = some (.int .i8 ((rd_T116 ((rd_T41 l0 0).f1) x3_2).f1))) (ds := []) (zq 26 0) (by kernel_rfl) rfl rfl ⟨(zc HB hw146_0), (zc HB hw146_1), (zc HB hw146_2), (zc HB hw146_3), (zc HB hw146_4), (zc HB hw147_0), (zc HB hw147_1), (zc HB hw147_2), (zc HB hw149_0), (zc HB hw149_1), (zc HB hw149_2), (zc HB hw149_3), (zc HB hw149_4), (zc HB hw150_0), (zc HB hw150_1), (zc HB hw150_2), (zc HB hw150_3), (zc HB hw150_4), (zc HB hw151_0), (zc HB hw151_1), (zc HB hw151_2)⟩ (fun hHeld => ?_); refine with_tabW spec_l03Ok.tab6 spec_l03Ok.bits6 (fun HT_ HW_ => ?_)
  generalize wr.drew = w22 at HB HR146_2 HR146_3 HR146_4 HR149_2 HR149_3 HR149_4 HR150_2 HR150_3 HR150_4 hx146_0 hx146_1 hx146_2 hx146_3 hx146_4 hx147_0 hx147_1 hx147_2 hx149_0 hx149_1 hx149_2 hx149_3 hx149_4 hx150_0 hx150_1 hx150_2 hx150_3 hx150_4 hx151_0 hx151_1 hx151_2 hHeld ⊢
  refine zpu 0 (some 47) (zq 26 1) HT_ ?_
  refine zpu 1 (some 48) (zq 26 3) HT_ ?_
  refine zpu 2 (some 49) (zq 26 7) HT_ ?_
  refine zpu 4 (some 51) (zq 26 23) HT_ ?_
  refine ztk 3 (some 50) (zq 26 31) HT_ HW_ rfl hHeld (Or.inl ⟨by rfl, by (rintro w' ⟨s0, s1, s2, s3, s4, s5, s6, s7, s8, s9, s10, s11, s12, s13, s14, s15, s16, s17, s18, s19, s20⟩; go_simp; with_reducible rfl)⟩) ?_
  refine zpu 5 (some 52) (zq 26 63) HT_ ?_
  refine zpu 6 (some 53) (zq 26 127) HT_ ?_
  refine ztk 7 (some 54) (zq 26 255) HT_ HW_ rfl hHeld (Or.inl ⟨by rfl, by (rintro w' ⟨s0, s1, s2, s3, s4, s5, s6, s7, s8, s9, s10, s11, s12, s13, s14, s15, s16, s17, s18, s19, s20⟩; go_simp; with_reducible rfl)⟩) ?_
  refine zpu 8 (some 55) (zq 26 511) HT_ ?_
  refine one_ (i := 9) (N := some 56) (zq 26 1023) rfl rfl (one_of HT_.out (by kernel_rfl)) (by decide) (fun K hK => ?_)
  refine goes_ Try.func161 (by kernel_rfl) rfl #[.int .i64 (wrap64 ((rd_T116 ((rd_T41 l0 0).f1) x3_2).f1))] (by rfl) rfl rfl (by (try simp only [List.map_toArray, List.map_cons, List.map_nil]); first | done | rfl | (simp only [List.length_drop, List.length_take]; rfl)) ?_
  with_reducible refine (spec_l01Side.calls (wrap64 ((rd_T116 ((rd_T41 l0 0).f1) x3_2).f1)) true _ A19.out).mono ?_
  rintro e w' ⟨rfl, ⟨nd, rfl⟩⟩
  refine ⟨_, rfl, ?_⟩
  refine hK.out _ _ ⟨(zc HB hw146_0), (zc HB hw146_1), (zc HB hw146_2), (zc HB hw146_3), (zc HB hw146_4), (zc HB hw147_0), (zc HB hw147_1), (zc HB hw147_2), (zc HB hw149_0), (zc HB hw149_1), (zc HB hw149_2), (zc HB hw149_3), (zc HB hw149_4), (zc HB hw150_0), (zc HB hw150_1), (zc HB hw150_2), (zc HB hw150_3), (zc HB hw150_4), (zc HB hw151_0), (zc HB hw151_1), (zc HB hw151_2)⟩ (fun hHeld => ?_)
  clear hK K
  refine norm_ (a' := ?_) ?_ ?_
  rotate_left
  ·show Act.put _ (some 56) _ = _
   simp only [Act.put, List.setIfInBounds_toArray, List.set_cons_zero, List.set_cons_succ, i64_w, i32_w]
   rfl
  refine zpu 10 (some 57) (zq 26 2047) HT_ ?_
  refine zpu 11 (some 58) (zq 26 4095) HT_ ?_
  refine zpu 12 (some 59) (zq 26 8191) HT_ ?_
  refine zpu 13 (some 60) (zq 26 16383) HT_ ?_
  refine zpu 14 (some 61) (zq 26 32767) HT_ ?_
  refine zpu 15 (some 62) (zq 26 65535) HT_ ?_
  refine zpu 16 (some 63) (zq 26 131071) HT_ ?_
  refine zpu 17 (some 64) (zq 26 262143) HT_ ?_
  refine zpu 19 (some 66) (zq 26 786431) HT_ ?_
  refine ztk 18 (some 65) (zq 26 1048575) HT_ HW_ rfl hHeld (Or.inl ⟨by rfl, by (rintro w' ⟨s0, s1, s2, s3, s4, s5, s6, s7, s8, s9, s10, s11, s12, s13, s14, s15, s16, s17, s18, s19, s20⟩; go_simp; with_reducible rfl)⟩) ?_
  refine zpu 20 (some 67) (zq 26 2097151) HT_ ?_
  refine zpu 21 (some 68) (zq 26 4194303) HT_ ?_
  refine ztk 22 (some 69) (zq 26 8388607) HT_ HW_ rfl hHeld (Or.inl ⟨by rfl, by (rintro w' ⟨s0, s1, s2, s3, s4, s5, s6, s7, s8, s9, s10, s11, s12, s13, s14, s15, s16, s17, s18, s19, s20⟩; go_simp; with_reducible rfl)⟩) ?_
  refine one_ (i := 23) (N := some 70) (zq 26 16777215) rfl rfl (one_of HT_.out (by kernel_rfl)) (by decide) (fun K hK => ?_)
  refine goes_ Try.func111 (by kernel_rfl) rfl #[.pointer (some adp0), .agg #[.int .i8 ((rd_T116 ((rd_T41 l0 0).f1) x3_2).f0.f0), .int .i8 ((rd_T116 ((rd_T41 l0 0).f1) x3_2).f0.f1)]] (by rfl) rfl rfl (by (try simp only [List.map_toArray, List.map_cons, List.map_nil]); first | done | rfl | (simp only [List.length_drop, List.length_take]; rfl)) ?_
  with_reducible refine (spec_l01Find.calls k2 _ [(⟨(rd_T41 l0 0).f0.f0, (rd_T41 l0 0).f0.f1, (rd_T41 l0 0).f0.f2⟩ : S37)] ((rd_T116 ((rd_T41 l0 0).f1) x3_2).f0.f0) ((rd_T116 ((rd_T41 l0 0).f1) x3_2).f0.f1) t152 _ ?side1 A21.out).mono ?_
  (case side1 => refine ro_first (d := k41) (d1 := k37) (f := fun x : S41 => (x.f0, x.f1, x.f2)) (l := l0) rfl z41 ?_ (by first | (have h_ := of_eq_true q149; omega) | (have h_ : 0 < (l0.length : Int) := of_decide_eq_true (by assumption); omega) | omega) rfl; repeat (first | exact (Kd.C_below HR0.out (zl HB).out) | (with_reducible refine Kd.C_alloc ?_ _) | (with_reducible refine Kd.C_drewN ?_ _) | (with_reducible refine Kd.C_drew ?_)))
  rintro e w23 ⟨rfl, hb⟩
  refine ⟨_, rfl, ?_⟩
  have n0_ := zb HB hb
  clear HB
  have HB := n0_
  clear n0_
  (try clear hb)
  (try clear hb2)
  (try clear hk)
  (try clear hi)
  refine hK.out _ _ ⟨(zc HB hw146_0), (zc HB hw146_1), (zc HB hw146_2), (zc HB hw146_3), (zc HB hw146_4), (zc HB hw147_0), (zc HB hw147_1), (zc HB hw147_2), (zc HB hw149_0), (zc HB hw149_1), (zc HB hw149_2), (zc HB hw149_3), (zc HB hw149_4), (zc HB hw150_0), (zc HB hw150_1), (zc HB hw150_2), (zc HB hw150_3), (zc HB hw150_4), (zc HB hw151_0), (zc HB hw151_1), (zc HB hw151_2)⟩ (fun hHeld => ?_)
  clear hK K
  refine norm_ (a' := ?_) ?_ ?_
  rotate_left
  ·show Act.put _ (some 70) _ = _
   simp only [Act.put, List.setIfInBounds_toArray, List.set_cons_zero, List.set_cons_succ, i64_w, i32_w]
   rfl
  refine zpu 24 (some 71) (zq 26 33554431) HT_ ?_
  refine zpu 25 (some 72) (zq 26 67108863) HT_ ?_
  refine done_ (done_of HT_.out (by kernel_rfl)) ?_
  try go_wp2
  go_meet
  case rel => exact ⟨_, (decide (t152 < 0)), (by first | rfl | (simp; done) | (simp [*]; done) | (exact congrArg (Value.int .i64) (wrap_eq (by omega)))), H', ⟨by have := HJ1.out; have := HK2.out; first | omega | exact Nat.le_refl _⟩, zl HB⟩
 clear HC17
 try clear c1
 try clear p1
 try clear q1
 try clear hx1
 try clear qi1
 try clear c2
 try clear p2
 try clear p6
 try clear c11
 try clear c14
 try clear p14
 try clear q14
 try clear hx14
 try clear qi14
 try clear c15
 try clear p15
 try clear q15
 try clear hx15
 try clear qi15
 try clear c16
 try clear c18
 try clear c20
 try clear hx146_0
 try clear hx146_1
 try clear hx146_2
 try clear hx146_3
 try clear hx146_4
 try clear hx147_0
 try clear hx147_1
 try clear hx147_2
 try clear hx149_0
 try clear hx149_1
 try clear hx149_2
 try clear hx149_3
 try clear hx149_4
 try clear hx150_0
 try clear hx150_1
 try clear hx150_2
 try clear hx150_3
 try clear hx150_4
 try clear hx151_0
 try clear hx151_1
 try clear hx151_2
 try clear p146
 try clear p147
 try clear p149
 try clear p150
 try clear p151
 try clear q146
 try clear q147
 try clear q149
 try clear q150
 try clear q151
 obtain ⟨kq, x72_16, rfl, HA, HJ16, HB⟩ := hcut
 cases kq with
 | zero => exact absurd HA.out (by simp [spec_l03Ok.j2])
 | succ kj16 => ?_
 have H := HA.out
 clear HA
 simp only [spec_l03Ok.j2] at H
 by_cases c25 : x72_16 = true
 ·subst c25
  have H1 : (some false) = some r := by rw [if_pos rfl] at H; exact H
  clear H
  have H := H1
  clear H1
  obtain rfl := Option.some.inj H
  go_wp2
  go_ret
  exact ⟨by first | rfl | (simp [errW_none, errW_some] <;> rfl) | (simp [*, errW_none, errW_some] <;> rfl), by repeat (first | (with_reducible first | exact HB.out | apply below_alloc | apply pw_below_drewN | apply below_drew1) | exact HB.out)⟩
 replace c25 := Bool.eq_false_iff.mpr c25
 subst c25
 have H1 : (spec_l03Ok.l1 kj16 l0 x3_2 0) = some r := by rw [if_neg (show ¬ (false = true) by decide)] at H; exact H
 clear H
 have H := H1
 clear H1
 have H' := Aside0.mk H
 clear H
 go_wp2
 go_loopg [4] kj16 (fun kq v4 w' => ∃ (x4_4 : Int), v4 = .int .i64 x4_4 ∧ Aside0 (spec_l03Ok.l1 kq l0 x3_2 x4_4 = some r) ∧ Aside0 (kq ≤ kj16) ∧ Aside0 (Below w.heap.size w w'))
 case atStart => exact ⟨(0), (by first | rfl | (simp; done) | (simp [*]; done) | (exact congrArg (Value.int .i64) (wrap_eq (by omega)))), H', ⟨Nat.le_refl _⟩, zl HB⟩
 clear H'
 try clear c1
 try clear p1
 try clear q1
 try clear hx1
 try clear qi1
 try clear c2
 try clear p2
 try clear p6
 try clear c11
 try clear c14
 try clear p14
 try clear q14
 try clear hx14
 try clear qi14
 try clear c15
 try clear p15
 try clear q15
 try clear hx15
 try clear qi15
 try clear c16
 try clear c18
 try clear c20
 try clear c25
 try clear hx146_0
 try clear hx146_1
 try clear hx146_2
 try clear hx146_3
 try clear hx146_4
 try clear hx147_0
 try clear hx147_1
 try clear hx147_2
 try clear hx149_0
 try clear hx149_1
 try clear hx149_2
 try clear hx149_3
 try clear hx149_4
 try clear hx150_0
 try clear hx150_1
 try clear hx150_2
 try clear hx150_3
 try clear hx150_4
 try clear hx151_0
 try clear hx151_1
 try clear hx151_2
 try clear p1
 try clear p14
 try clear p146
 try clear p147
 try clear p149
 try clear p15
 try clear p150
 try clear p151
 try clear p2
 try clear p6
 try clear q1
 try clear q14
 try clear q146
 try clear q147
 try clear q149
 try clear q15
 try clear q150
 try clear q151
 obtain ⟨x4_4, rfl, HA, HK4, HB⟩ := hrel
 cases gk with
 | zero => exact absurd HA.out (by simp [spec_l03Ok.l1])
 | succ k4 => ?_
 have H := HA.out
 clear HA
 simp only [spec_l03Ok.l1] at H
 by_cases c26 : x4_4 < x3_2
 rotate_left
 ·rw [if_neg c26] at H
  have c26b0 : decide (x4_4 < x3_2) = false := decide_eq_false c26
  clear c26
  have H' := Aside0.mk H
  clear H
  go_wp2
  go_roundg k4
  case measure => have := HJ1.out; have := HK2.out; have := HJ16.out; have := HK4.out; omega
  case rel => exact ⟨(wrap64 (x3_2 + 1)), (by first | rfl | (simp; done) | (simp [*]; done) | (exact congrArg (Value.int .i64) (wrap_eq (by omega)))), H', ⟨by have := HJ1.out; have := HK2.out; have := HJ16.out; have := HK4.out; omega⟩, zl HB⟩
 rw [if_pos c26] at H
 have c26b0 : decide (x4_4 < x3_2) = true := decide_eq_true c26
 clear c26
 by_cases c27 : 0 < (l0.length : Int)
 rotate_left
 ·rw [if_neg c27] at H
  exact absurd H (by simp)
 rw [if_pos c27] at H
 have c27b0 : decide (0 < (l0.length : Int)) = true := decide_eq_true c27
 have c27b1 : decide (0 < l0.length) = true := decide_eq_true (by omega)
 clear c27
 by_cases c28 : 0 ≤ x4_4
 rotate_left
 ·rw [if_neg c28] at H
  exact absurd H (by simp)
 rw [if_pos c28] at H
 have c28b0 : decide (0 ≤ x4_4) = true := decide_eq_true c28
 clear c28
 by_cases c29 : x4_4 < (((rd_T41 l0 0).f1).length : Int)
 rotate_left
 ·rw [if_neg c29] at H
  exact absurd H (by simp)
 rw [if_pos c29] at H
 have c29b0 : decide (x4_4 < (((rd_T41 l0 0).f1).length : Int)) = true := decide_eq_true c29
 clear c29
 by_cases c30 : 0 ≤ x3_2
 rotate_left
 ·rw [if_neg c30] at H
  exact absurd H (by simp)
 rw [if_pos c30] at H
 have c30b0 : decide (0 ≤ x3_2) = true := decide_eq_true c30
 clear c30
 by_cases c31 : x3_2 < (((rd_T41 l0 0).f1).length : Int)
 rotate_left
 ·rw [if_neg c31] at H
  exact absurd H (by simp)
 rw [if_pos c31] at H
 have c31b0 : decide (x3_2 < (((rd_T41 l0 0).f1).length : Int)) = true := decide_eq_true c31
 clear c31
 by_cases c32 : ((((rd_T116 ((rd_T41 l0 0).f1) x4_4).f0.f0) == ((rd_T116 ((rd_T41 l0 0).f1) x3_2).f0.f0) && (((rd_T116 ((rd_T41 l0 0).f1) x4_4).f0.f1) == ((rd_T116 ((rd_T41 l0 0).f1) x3_2).f0.f1))) && (((rd_T116 ((rd_T41 l0 0).f1) x4_4).f1) == ((rd_T116 ((rd_T41 l0 0).f1) x3_2).f1))) = true
 ·rw [if_pos c32] at H
  have c32b0 : ((((rd_T116 ((rd_T41 l0 0).f1) x4_4).f0.f0) == ((rd_T116 ((rd_T41 l0 0).f1) x3_2).f0.f0) && (((rd_T116 ((rd_T41 l0 0).f1) x4_4).f0.f1) == ((rd_T116 ((rd_T41 l0 0).f1) x3_2).f0.f1))) && (((rd_T116 ((rd_T41 l0 0).f1) x4_4).f1) == ((rd_T116 ((rd_T41 l0 0).f1) x3_2).f1))) = true := c32
  clear c32
  obtain rfl := Option.some.inj H
  try go_wp2
  have n0_ := Aside0.mk (below_drew1 HB.out)
  clear HB
  have HB := n0_
  clear n0_
  have p153 : 0 ≤ (0 : Int) := (by omega)
  have q153 : 0 < (l0.length : Int) := of_decide_eq_true (by first | (with_reducible assumption) | assumption)
  obtain ⟨ad153, A153_2, c153_2, A153_3, c153_3, A153_4, c153_4, e153, hx153_0, hx153_1, hx153_2, hx153_3, hx153_4, hl153_2, hi153_2, hl153_3, hi153_3, hl153_4, hi153_4⟩ := at_T41 HR0.out 0 p153 q153
  have hw153_4 := hx153_4
  (try rw [show ((0 : Int)).toNat = 0 from rfl] at hw153_4)
  (try rw [show 0 * 5 = 0 from rfl] at hw153_4)
  (try rw [Addr.add_zero'] at hw153_4)
  have hw153_3 := hx153_3
  (try rw [show ((0 : Int)).toNat = 0 from rfl] at hw153_3)
  (try rw [show 0 * 5 = 0 from rfl] at hw153_3)
  (try rw [Addr.add_zero'] at hw153_3)
  have hw153_2 := hx153_2
  (try rw [show ((0 : Int)).toNat = 0 from rfl] at hw153_2)
  (try rw [show 0 * 5 = 0 from rfl] at hw153_2)
  (try rw [Addr.add_zero'] at hw153_2)
  have hw153_1 := hx153_1
  (try rw [show ((0 : Int)).toNat = 0 from rfl] at hw153_1)
  (try rw [show 0 * 5 = 0 from rfl] at hw153_1)
  (try rw [Addr.add_zero'] at hw153_1)
  have hw153_0 := hx153_0
  (try rw [show ((0 : Int)).toNat = 0 from rfl] at hw153_0)
  (try rw [show 0 * 5 = 0 from rfl] at hw153_0)
  (try rw [Addr.add_zero'] at hw153_0)
  obtain rfl : adp0 = ad153 := (by injection e153)
  have qi153 : (0 < l0.length) = True := eq_true (by omega)
  (try rw [show ((0 : Int)).toNat = 0 from rfl] at hx153_0)
  (try rw [show 0 * 5 = 0 from rfl] at hx153_0)
  (try rw [Addr.add_zero'] at hx153_0)
  (try rw [show ((0 : Int)).toNat = 0 from rfl] at hx153_1)
  (try rw [show 0 * 5 = 0 from rfl] at hx153_1)
  (try rw [Addr.add_zero'] at hx153_1)
  (try rw [show ((0 : Int)).toNat = 0 from rfl] at hx153_2)
  (try rw [show 0 * 5 = 0 from rfl] at hx153_2)
  (try rw [Addr.add_zero'] at hx153_2)
  (try rw [show ((0 : Int)).toNat = 0 from rfl] at hx153_3)
  (try rw [show 0 * 5 = 0 from rfl] at hx153_3)
  (try rw [Addr.add_zero'] at hx153_3)
  (try rw [show ((0 : Int)).toNat = 0 from rfl] at hx153_4)
  (try rw [show 0 * 5 = 0 from rfl] at hx153_4)
  (try rw [Addr.add_zero'] at hx153_4)
  replace hx153_0 := zc HB hx153_0
  replace hx153_1 := zc HB hx153_1
  replace hx153_2 := zc HB hx153_2
  replace hx153_3 := zc HB hx153_3
  replace hx153_4 := zc HB hx153_4
  have HR153_2 := Aside0.mk hi153_2
  have HC153_2 := Aside0.mk hl153_2
  clear hi153_2 hl153_2
  have HR153_3 := Aside0.mk hi153_3
  have HC153_3 := Aside0.mk hl153_3
  clear hi153_3 hl153_3
  have HR153_4 := Aside0.mk hi153_4
  have HC153_4 := Aside0.mk hl153_4
  clear hi153_4 hl153_4
  replace p153 := eq_true p153
  replace q153 := eq_true q153
  have p154 : 0 ≤ (x4_4 : Int) := of_decide_eq_true (by first | (with_reducible assumption) | assumption)
  have q154 : x4_4 < (((rd_T41 l0 0).f1).length : Int) := of_decide_eq_true (by first | (with_reducible assumption) | assumption)
  obtain ⟨ad154, e154, hx154_0, hx154_1, hx154_2⟩ := at_T116 HR153_3.out x4_4 p154 q154
  have hw154_2 := hx154_2
  have hw154_1 := hx154_1
  have hw154_0 := hx154_0
  cases e154
  replace hx154_0 := zc HB hx154_0
  replace hx154_1 := zc HB hx154_1
  replace hx154_2 := zc HB hx154_2
  replace p154 := eq_true p154
  replace q154 := eq_true q154
  have p155 : 0 ≤ (0 : Int) := (by omega)
  have q155 : 0 < (l0.length : Int) := of_decide_eq_true (by first | (with_reducible assumption) | assumption)
  obtain ⟨ad155, A155_2, c155_2, A155_3, c155_3, A155_4, c155_4, e155, hx155_0, hx155_1, hx155_2, hx155_3, hx155_4, hl155_2, hi155_2, hl155_3, hi155_3, hl155_4, hi155_4⟩ := at_T41 HR0.out 0 p155 q155
  have hw155_4 := hx155_4
  (try rw [show ((0 : Int)).toNat = 0 from rfl] at hw155_4)
  (try rw [show 0 * 5 = 0 from rfl] at hw155_4)
  (try rw [Addr.add_zero'] at hw155_4)
  have hw155_3 := hx155_3
  (try rw [show ((0 : Int)).toNat = 0 from rfl] at hw155_3)
  (try rw [show 0 * 5 = 0 from rfl] at hw155_3)
  (try rw [Addr.add_zero'] at hw155_3)
  have hw155_2 := hx155_2
  (try rw [show ((0 : Int)).toNat = 0 from rfl] at hw155_2)
  (try rw [show 0 * 5 = 0 from rfl] at hw155_2)
  (try rw [Addr.add_zero'] at hw155_2)
  have hw155_1 := hx155_1
  (try rw [show ((0 : Int)).toNat = 0 from rfl] at hw155_1)
  (try rw [show 0 * 5 = 0 from rfl] at hw155_1)
  (try rw [Addr.add_zero'] at hw155_1)
  have hw155_0 := hx155_0
  (try rw [show ((0 : Int)).toNat = 0 from rfl] at hw155_0)
  (try rw [show 0 * 5 = 0 from rfl] at hw155_0)
  (try rw [Addr.add_zero'] at hw155_0)
  obtain rfl : adp0 = ad155 := (by injection e155)
  have qi155 : (0 < l0.length) = True := eq_true (by omega)
  (try rw [show ((0 : Int)).toNat = 0 from rfl] at hx155_0)
  (try rw [show 0 * 5 = 0 from rfl] at hx155_0)
  (try rw [Addr.add_zero'] at hx155_0)
  (try rw [show ((0 : Int)).toNat = 0 from rfl] at hx155_1)
  (try rw [show 0 * 5 = 0 from rfl] at hx155_1)
  (try rw [Addr.add_zero'] at hx155_1)
  (try rw [show ((0 : Int)).toNat = 0 from rfl] at hx155_2)
  (try rw [show 0 * 5 = 0 from rfl] at hx155_2)
  (try rw [Addr.add_zero'] at hx155_2)
  (try rw [show ((0 : Int)).toNat = 0 from rfl] at hx155_3)
  (try rw [show 0 * 5 = 0 from rfl] at hx155_3)
  (try rw [Addr.add_zero'] at hx155_3)
  (try rw [show ((0 : Int)).toNat = 0 from rfl] at hx155_4)
  (try rw [show 0 * 5 = 0 from rfl] at hx155_4)
  (try rw [Addr.add_zero'] at hx155_4)
  replace hx155_0 := zc HB hx155_0
  replace hx155_1 := zc HB hx155_1
  replace hx155_2 := zc HB hx155_2
  replace hx155_3 := zc HB hx155_3
  replace hx155_4 := zc HB hx155_4
  have HR155_2 := Aside0.mk hi155_2
  have HC155_2 := Aside0.mk hl155_2
  clear hi155_2 hl155_2
  have HR155_3 := Aside0.mk hi155_3
  have HC155_3 := Aside0.mk hl155_3
  clear hi155_3 hl155_3
  have HR155_4 := Aside0.mk hi155_4
  have HC155_4 := Aside0.mk hl155_4
  clear hi155_4 hl155_4
  replace p155 := eq_true p155
  replace q155 := eq_true q155
  have ea_ := Option.some.inj (hx153_2.symm.trans hx155_2)
  injection ea_ with ea_ en_ ec_
  subst ea_
  subst ec_
  clear en_
  have ea_ := Option.some.inj (hx153_3.symm.trans hx155_3)
  injection ea_ with ea_ en_ ec_
  subst ea_
  subst ec_
  clear en_
  have ea_ := Option.some.inj (hx153_4.symm.trans hx155_4)
  injection ea_ with ea_ en_ ec_
  subst ea_
  subst ec_
  clear en_
  have p156 : 0 ≤ (x3_2 : Int) := of_decide_eq_true (by first | (with_reducible assumption) | assumption)
  have q156 : x3_2 < (((rd_T41 l0 0).f1).length : Int) := of_decide_eq_true (by first | (with_reducible assumption) | assumption)
  obtain ⟨ad156, e156, hx156_0, hx156_1, hx156_2⟩ := at_T116 HR155_3.out x3_2 p156 q156
  have hw156_2 := hx156_2
  have hw156_1 := hx156_1
  have hw156_0 := hx156_0
  obtain rfl : ad154 = ad156 := (by injection e156)
  replace hx156_0 := zc HB hx156_0
  replace hx156_1 := zc HB hx156_1
  replace hx156_2 := zc HB hx156_2
  replace p156 := eq_true p156
  replace q156 := eq_true q156
  refine start_ (n := 15) (S := fun w' => w'.cell? adp0 = some (.int .i8 ((rd_T41 l0 0).f0.f0)) ∧ w'.cell? ⟨adp0.block, adp0.off + 1, none⟩ = some (.int .i8 ((rd_T41 l0 0).f0.f1)) ∧ w'.cell? ⟨adp0.block, adp0.off + 2, none⟩ = some (.slice A153_2 ((rd_T41 l0 0).f0.f2).length c153_2) ∧ w'.cell? ⟨adp0.block, adp0.off + 3, none⟩ = some (.slice (some ad154) ((rd_T41 l0 0).f1).length c153_3) ∧ w'.cell? ⟨adp0.block, adp0.off + 4, none⟩ = some (.slice A153_4 ((rd_T41 l0 0).f2).length c153_4) ∧ w'.cell? (ad154.add ((x4_4).toNat * 3)) = some (.int .i8 ((rd_T116 ((rd_T41 l0 0).f1) x4_4).f0.f0)) ∧ w'.cell? ⟨(ad154.add ((x4_4).toNat * 3)).block, (ad154.add ((x4_4).toNat * 3)).off + 1, none⟩ = some (.int .i8 ((rd_T116 ((rd_T41 l0 0).f1) x4_4).f0.f1)) ∧ w'.cell? ⟨(ad154.add ((x4_4).toNat * 3)).block, (ad154.add ((x4_4).toNat * 3)).off + 2, none⟩ = some (.int .i8 ((rd_T116 ((rd_T41 l0 0).f1) x4_4).f1)) ∧ w'.cell? adp0 = some (.int .i8 ((rd_T41 l0 0).f0.f0)) ∧ w'.cell? ⟨adp0.block, adp0.off + 1, none⟩ = some (.int .i8 ((rd_T41 l0 0).f0.f1)) ∧ w'.cell? ⟨adp0.block, adp0.off + 2, none⟩ = some (.slice A153_2 ((rd_T41 l0 0).f0.f2).length c153_2) ∧ w'.cell? ⟨adp0.block, adp0.off + 3, none⟩ = some (.slice (some ad154) ((rd_T41 l0 0).f1).length c153_3) ∧ w'.cell? ⟨adp0.block, adp0.off + 4, none⟩ = some (.slice A153_4 ((rd_T41 l0 0).f2).length c153_4) ∧ w'.cell? (ad154.add ((x3_2).toNat * 3)) = some (.int .i8 ((rd_T116 ((rd_T41 l0 0).f1) x3_2).f0.f0)) ∧ w'.cell? ⟨(ad154.add ((x3_2).toNat * 3)).block, (ad154.add ((x3_2).toNat * 3)).off + 1, none⟩ = some (.int .i8 ((rd_T116 ((rd_T41 l0 0).f1) x3_2).f0.f1)) ∧ w'.cell? ⟨(ad154.add ((x3_2).toNat * 3)).block, (ad154.add ((x3_2).toNat * 3)).off + 2, none⟩ = some (.int .i8 ((rd_T116 ((rd_T41 l0 0).f1) x3_2).f1))) (ds := []) (zq 15 0) (by kernel_rfl) rfl rfl ⟨(zc HB hw153_0), (zc HB hw153_1), (zc HB hw153_2), (zc HB hw153_3), (zc HB hw153_4), (zc HB hw154_0), (zc HB hw154_1), (zc HB hw154_2), (zc HB hw155_0), (zc HB hw155_1), (zc HB hw155_2), (zc HB hw155_3), (zc HB hw155_4), (zc HB hw156_0), (zc HB hw156_1), (zc HB hw156_2)⟩ (fun hHeld => ?_); refine with_tabW spec_l03Ok.tab11 spec_l03Ok.bits11 (fun HT_ HW_ => ?_)
  generalize wr.drew = w33 at HB HR153_2 HR153_3 HR153_4 HR155_2 HR155_3 HR155_4 hx153_0 hx153_1 hx153_2 hx153_3 hx153_4 hx154_0 hx154_1 hx154_2 hx155_0 hx155_1 hx155_2 hx155_3 hx155_4 hx156_0 hx156_1 hx156_2 hHeld ⊢
  refine zpu 0 (some 78) (zq 15 1) HT_ ?_
  refine zpu 1 (some 79) (zq 15 3) HT_ ?_
  refine zpu 2 (some 80) (zq 15 7) HT_ ?_
  refine zpu 4 (some 82) (zq 15 23) HT_ ?_
  refine zpu 7 (some 85) (zq 15 151) HT_ ?_
  refine zpu 8 (some 86) (zq 15 407) HT_ ?_
  refine zpu 9 (some 87) (zq 15 919) HT_ ?_
  refine zpu 11 (some 89) (zq 15 2967) HT_ ?_
  refine ztk 3 (some 81) (zq 15 2975) HT_ HW_ rfl hHeld (Or.inl ⟨by rfl, by (rintro w' ⟨s0, s1, s2, s3, s4, s5, s6, s7, s8, s9, s10, s11, s12, s13, s14, s15⟩; go_simp; with_reducible rfl)⟩) ?_
  refine zpu 5 (some 83) (zq 15 3007) HT_ ?_
  refine ztk 6 (some 84) (zq 15 3071) HT_ HW_ rfl hHeld (Or.inl ⟨by rfl, by (rintro w' ⟨s0, s1, s2, s3, s4, s5, s6, s7, s8, s9, s10, s11, s12, s13, s14, s15⟩; go_simp; with_reducible rfl)⟩) ?_
  refine ztk 10 (some 88) (zq 15 4095) HT_ HW_ rfl hHeld (Or.inl ⟨by rfl, by (rintro w' ⟨s0, s1, s2, s3, s4, s5, s6, s7, s8, s9, s10, s11, s12, s13, s14, s15⟩; go_simp; with_reducible rfl)⟩) ?_
  refine zpu 12 (some 90) (zq 15 8191) HT_ ?_
  refine ztk 13 (some 91) (zq 15 16383) HT_ HW_ rfl hHeld (Or.inl ⟨by rfl, by (rintro w' ⟨s0, s1, s2, s3, s4, s5, s6, s7, s8, s9, s10, s11, s12, s13, s14, s15⟩; go_simp; with_reducible rfl)⟩) ?_
  refine zpu 14 (some 92) (zq 15 32767) HT_ ?_
  refine done_ (done_of HT_.out (by kernel_rfl)) ?_
  try go_wp2
  go_ret
  exact ⟨by first | rfl | (simp [errW_none, errW_some] <;> rfl) | (simp [*, errW_none, errW_some] <;> rfl), by repeat (first | (with_reducible first | exact HB.out | apply below_alloc | apply pw_below_drewN | apply below_drew1) | exact HB.out)⟩
 rw [if_neg c32] at H
 have c32b0 : ((((rd_T116 ((rd_T41 l0 0).f1) x4_4).f0.f0) == ((rd_T116 ((rd_T41 l0 0).f1) x3_2).f0.f0) && (((rd_T116 ((rd_T41 l0 0).f1) x4_4).f0.f1) == ((rd_T116 ((rd_T41 l0 0).f1) x3_2).f0.f1))) && (((rd_T116 ((rd_T41 l0 0).f1) x4_4).f1) == ((rd_T116 ((rd_T41 l0 0).f1) x3_2).f1))) = false := by simpa using c32
 clear c32
 have H' := Aside0.mk H
 clear H
 try go_wp2
 have n0_ := Aside0.mk (below_drew1 HB.out)
 clear HB
 have HB := n0_
 clear n0_
 have p153 : 0 ≤ (0 : Int) := (by omega)
 have q153 : 0 < (l0.length : Int) := of_decide_eq_true (by first | (with_reducible assumption) | assumption)
 obtain ⟨ad153, A153_2, c153_2, A153_3, c153_3, A153_4, c153_4, e153, hx153_0, hx153_1, hx153_2, hx153_3, hx153_4, hl153_2, hi153_2, hl153_3, hi153_3, hl153_4, hi153_4⟩ := at_T41 HR0.out 0 p153 q153
 have hw153_4 := hx153_4
 (try rw [show ((0 : Int)).toNat = 0 from rfl] at hw153_4)
 (try rw [show 0 * 5 = 0 from rfl] at hw153_4)
 (try rw [Addr.add_zero'] at hw153_4)
 have hw153_3 := hx153_3
 (try rw [show ((0 : Int)).toNat = 0 from rfl] at hw153_3)
 (try rw [show 0 * 5 = 0 from rfl] at hw153_3)
 (try rw [Addr.add_zero'] at hw153_3)
 have hw153_2 := hx153_2
 (try rw [show ((0 : Int)).toNat = 0 from rfl] at hw153_2)
 (try rw [show 0 * 5 = 0 from rfl] at hw153_2)
 (try rw [Addr.add_zero'] at hw153_2)
 have hw153_1 := hx153_1
 (try rw [show ((0 : Int)).toNat = 0 from rfl] at hw153_1)
 (try rw [show 0 * 5 = 0 from rfl] at hw153_1)
 (try rw [Addr.add_zero'] at hw153_1)
 have hw153_0 := hx153_0
 (try rw [show ((0 : Int)).toNat = 0 from rfl] at hw153_0)
 (try rw [show 0 * 5 = 0 from rfl] at hw153_0)
 (try rw [Addr.add_zero'] at hw153_0)
 obtain rfl : adp0 = ad153 := (by injection e153)
 have qi153 : (0 < l0.length) = True := eq_true (by omega)
 (try rw [show ((0 : Int)).toNat = 0 from rfl] at hx153_0)
 (try rw [show 0 * 5 = 0 from rfl] at hx153_0)
 (try rw [Addr.add_zero'] at hx153_0)
 (try rw [show ((0 : Int)).toNat = 0 from rfl] at hx153_1)
 (try rw [show 0 * 5 = 0 from rfl] at hx153_1)
 (try rw [Addr.add_zero'] at hx153_1)
 (try rw [show ((0 : Int)).toNat = 0 from rfl] at hx153_2)
 (try rw [show 0 * 5 = 0 from rfl] at hx153_2)
 (try rw [Addr.add_zero'] at hx153_2)
 (try rw [show ((0 : Int)).toNat = 0 from rfl] at hx153_3)
 (try rw [show 0 * 5 = 0 from rfl] at hx153_3)
 (try rw [Addr.add_zero'] at hx153_3)
 (try rw [show ((0 : Int)).toNat = 0 from rfl] at hx153_4)
 (try rw [show 0 * 5 = 0 from rfl] at hx153_4)
 (try rw [Addr.add_zero'] at hx153_4)
 replace hx153_0 := zc HB hx153_0
 replace hx153_1 := zc HB hx153_1
 replace hx153_2 := zc HB hx153_2
 replace hx153_3 := zc HB hx153_3
 replace hx153_4 := zc HB hx153_4
 have HR153_2 := Aside0.mk hi153_2
 have HC153_2 := Aside0.mk hl153_2
 clear hi153_2 hl153_2
 have HR153_3 := Aside0.mk hi153_3
 have HC153_3 := Aside0.mk hl153_3
 clear hi153_3 hl153_3
 have HR153_4 := Aside0.mk hi153_4
 have HC153_4 := Aside0.mk hl153_4
 clear hi153_4 hl153_4
 replace p153 := eq_true p153
 replace q153 := eq_true q153
 have p154 : 0 ≤ (x4_4 : Int) := of_decide_eq_true (by first | (with_reducible assumption) | assumption)
 have q154 : x4_4 < (((rd_T41 l0 0).f1).length : Int) := of_decide_eq_true (by first | (with_reducible assumption) | assumption)
 obtain ⟨ad154, e154, hx154_0, hx154_1, hx154_2⟩ := at_T116 HR153_3.out x4_4 p154 q154
 have hw154_2 := hx154_2
 have hw154_1 := hx154_1
 have hw154_0 := hx154_0
 cases e154
 replace hx154_0 := zc HB hx154_0
 replace hx154_1 := zc HB hx154_1
 replace hx154_2 := zc HB hx154_2
 replace p154 := eq_true p154
 replace q154 := eq_true q154
 have p155 : 0 ≤ (0 : Int) := (by omega)
 have q155 : 0 < (l0.length : Int) := of_decide_eq_true (by first | (with_reducible assumption) | assumption)
 obtain ⟨ad155, A155_2, c155_2, A155_3, c155_3, A155_4, c155_4, e155, hx155_0, hx155_1, hx155_2, hx155_3, hx155_4, hl155_2, hi155_2, hl155_3, hi155_3, hl155_4, hi155_4⟩ := at_T41 HR0.out 0 p155 q155
 have hw155_4 := hx155_4
 (try rw [show ((0 : Int)).toNat = 0 from rfl] at hw155_4)
 (try rw [show 0 * 5 = 0 from rfl] at hw155_4)
 (try rw [Addr.add_zero'] at hw155_4)
 have hw155_3 := hx155_3
 (try rw [show ((0 : Int)).toNat = 0 from rfl] at hw155_3)
 (try rw [show 0 * 5 = 0 from rfl] at hw155_3)
 (try rw [Addr.add_zero'] at hw155_3)
 have hw155_2 := hx155_2
 (try rw [show ((0 : Int)).toNat = 0 from rfl] at hw155_2)
 (try rw [show 0 * 5 = 0 from rfl] at hw155_2)
 (try rw [Addr.add_zero'] at hw155_2)
 have hw155_1 := hx155_1
 (try rw [show ((0 : Int)).toNat = 0 from rfl] at hw155_1)
 (try rw [show 0 * 5 = 0 from rfl] at hw155_1)
 (try rw [Addr.add_zero'] at hw155_1)
 have hw155_0 := hx155_0
 (try rw [show ((0 : Int)).toNat = 0 from rfl] at hw155_0)
 (try rw [show 0 * 5 = 0 from rfl] at hw155_0)
 (try rw [Addr.add_zero'] at hw155_0)
 obtain rfl : adp0 = ad155 := (by injection e155)
 have qi155 : (0 < l0.length) = True := eq_true (by omega)
 (try rw [show ((0 : Int)).toNat = 0 from rfl] at hx155_0)
 (try rw [show 0 * 5 = 0 from rfl] at hx155_0)
 (try rw [Addr.add_zero'] at hx155_0)
 (try rw [show ((0 : Int)).toNat = 0 from rfl] at hx155_1)
 (try rw [show 0 * 5 = 0 from rfl] at hx155_1)
 (try rw [Addr.add_zero'] at hx155_1)
 (try rw [show ((0 : Int)).toNat = 0 from rfl] at hx155_2)
 (try rw [show 0 * 5 = 0 from rfl] at hx155_2)
 (try rw [Addr.add_zero'] at hx155_2)
 (try rw [show ((0 : Int)).toNat = 0 from rfl] at hx155_3)
 (try rw [show 0 * 5 = 0 from rfl] at hx155_3)
 (try rw [Addr.add_zero'] at hx155_3)
 (try rw [show ((0 : Int)).toNat = 0 from rfl] at hx155_4)
 (try rw [show 0 * 5 = 0 from rfl] at hx155_4)
 (try rw [Addr.add_zero'] at hx155_4)
 replace hx155_0 := zc HB hx155_0
 replace hx155_1 := zc HB hx155_1
 replace hx155_2 := zc HB hx155_2
 replace hx155_3 := zc HB hx155_3
 replace hx155_4 := zc HB hx155_4
 have HR155_2 := Aside0.mk hi155_2
 have HC155_2 := Aside0.mk hl155_2
 clear hi155_2 hl155_2
 have HR155_3 := Aside0.mk hi155_3
 have HC155_3 := Aside0.mk hl155_3
 clear hi155_3 hl155_3
 have HR155_4 := Aside0.mk hi155_4
 have HC155_4 := Aside0.mk hl155_4
 clear hi155_4 hl155_4
 replace p155 := eq_true p155
 replace q155 := eq_true q155
 have ea_ := Option.some.inj (hx153_2.symm.trans hx155_2)
 injection ea_ with ea_ en_ ec_
 subst ea_
 subst ec_
 clear en_
 have ea_ := Option.some.inj (hx153_3.symm.trans hx155_3)
 injection ea_ with ea_ en_ ec_
 subst ea_
 subst ec_
 clear en_
 have ea_ := Option.some.inj (hx153_4.symm.trans hx155_4)
 injection ea_ with ea_ en_ ec_
 subst ea_
 subst ec_
 clear en_
 have p156 : 0 ≤ (x3_2 : Int) := of_decide_eq_true (by first | (with_reducible assumption) | assumption)
 have q156 : x3_2 < (((rd_T41 l0 0).f1).length : Int) := of_decide_eq_true (by first | (with_reducible assumption) | assumption)
 obtain ⟨ad156, e156, hx156_0, hx156_1, hx156_2⟩ := at_T116 HR155_3.out x3_2 p156 q156
 have hw156_2 := hx156_2
 have hw156_1 := hx156_1
 have hw156_0 := hx156_0
 obtain rfl : ad154 = ad156 := (by injection e156)
 replace hx156_0 := zc HB hx156_0
 replace hx156_1 := zc HB hx156_1
 replace hx156_2 := zc HB hx156_2
 replace p156 := eq_true p156
 replace q156 := eq_true q156
 refine start_ (n := 15) (S := fun w' => w'.cell? adp0 = some (.int .i8 ((rd_T41 l0 0).f0.f0)) ∧ w'.cell? ⟨adp0.block, adp0.off + 1, none⟩ = some (.int .i8 ((rd_T41 l0 0).f0.f1)) ∧ w'.cell? ⟨adp0.block, adp0.off + 2, none⟩ = some (.slice A153_2 ((rd_T41 l0 0).f0.f2).length c153_2) ∧ w'.cell? ⟨adp0.block, adp0.off + 3, none⟩ = some (.slice (some ad154) ((rd_T41 l0 0).f1).length c153_3) ∧ w'.cell? ⟨adp0.block, adp0.off + 4, none⟩ = some (.slice A153_4 ((rd_T41 l0 0).f2).length c153_4) ∧ w'.cell? (ad154.add ((x4_4).toNat * 3)) = some (.int .i8 ((rd_T116 ((rd_T41 l0 0).f1) x4_4).f0.f0)) ∧ w'.cell? ⟨(ad154.add ((x4_4).toNat * 3)).block, (ad154.add ((x4_4).toNat * 3)).off + 1, none⟩ = some (.int .i8 ((rd_T116 ((rd_T41 l0 0).f1) x4_4).f0.f1)) ∧ w'.cell? ⟨(ad154.add ((x4_4).toNat * 3)).block, (ad154.add ((x4_4).toNat * 3)).off + 2, none⟩ = some (.int .i8 ((rd_T116 ((rd_T41 l0 0).f1) x4_4).f1)) ∧ w'.cell? adp0 = some (.int .i8 ((rd_T41 l0 0).f0.f0)) ∧ w'.cell? ⟨adp0.block, adp0.off + 1, none⟩ = some (.int .i8 ((rd_T41 l0 0).f0.f1)) ∧ w'.cell? ⟨adp0.block, adp0.off + 2, none⟩ = some (.slice A153_2 ((rd_T41 l0 0).f0.f2).length c153_2) ∧ w'.cell? ⟨adp0.block, adp0.off + 3, none⟩ = some (.slice (some ad154) ((rd_T41 l0 0).f1).length c153_3) ∧ w'.cell? ⟨adp0.block, adp0.off + 4, none⟩ = some (.slice A153_4 ((rd_T41 l0 0).f2).length c153_4) ∧ w'.cell? (ad154.add ((x3_2).toNat * 3)) = some (.int .i8 ((rd_T116 ((rd_T41 l0 0).f1) x3_2).f0.f0)) ∧ w'.cell? ⟨(ad154.add ((x3_2).toNat * 3)).block, (ad154.add ((x3_2).toNat * 3)).off + 1, none⟩ = some (.int .i8 ((rd_T116 ((rd_T41 l0 0).f1) x3_2).f0.f1)) ∧ w'.cell? ⟨(ad154.add ((x3_2).toNat * 3)).block, (ad154.add ((x3_2).toNat * 3)).off + 2, none⟩ = some (.int .i8 ((rd_T116 ((rd_T41 l0 0).f1) x3_2).f1))) (ds := []) (zq 15 0) (by kernel_rfl) rfl rfl ⟨(zc HB hw153_0), (zc HB hw153_1), (zc HB hw153_2), (zc HB hw153_3), (zc HB hw153_4), (zc HB hw154_0), (zc HB hw154_1), (zc HB hw154_2), (zc HB hw155_0), (zc HB hw155_1), (zc HB hw155_2), (zc HB hw155_3), (zc HB hw155_4), (zc HB hw156_0), (zc HB hw156_1), (zc HB hw156_2)⟩ (fun hHeld => ?_); refine with_tabW spec_l03Ok.tab11 spec_l03Ok.bits11 (fun HT_ HW_ => ?_)
 generalize wr.drew = w34 at HB HR153_2 HR153_3 HR153_4 HR155_2 HR155_3 HR155_4 hx153_0 hx153_1 hx153_2 hx153_3 hx153_4 hx154_0 hx154_1 hx154_2 hx155_0 hx155_1 hx155_2 hx155_3 hx155_4 hx156_0 hx156_1 hx156_2 hHeld ⊢
 refine zpu 0 (some 78) (zq 15 1) HT_ ?_
 refine zpu 1 (some 79) (zq 15 3) HT_ ?_
 refine zpu 2 (some 80) (zq 15 7) HT_ ?_
 refine zpu 4 (some 82) (zq 15 23) HT_ ?_
 refine zpu 7 (some 85) (zq 15 151) HT_ ?_
 refine zpu 8 (some 86) (zq 15 407) HT_ ?_
 refine zpu 9 (some 87) (zq 15 919) HT_ ?_
 refine zpu 11 (some 89) (zq 15 2967) HT_ ?_
 refine ztk 3 (some 81) (zq 15 2975) HT_ HW_ rfl hHeld (Or.inl ⟨by rfl, by (rintro w' ⟨s0, s1, s2, s3, s4, s5, s6, s7, s8, s9, s10, s11, s12, s13, s14, s15⟩; go_simp; with_reducible rfl)⟩) ?_
 refine zpu 5 (some 83) (zq 15 3007) HT_ ?_
 refine ztk 6 (some 84) (zq 15 3071) HT_ HW_ rfl hHeld (Or.inl ⟨by rfl, by (rintro w' ⟨s0, s1, s2, s3, s4, s5, s6, s7, s8, s9, s10, s11, s12, s13, s14, s15⟩; go_simp; with_reducible rfl)⟩) ?_
 refine ztk 10 (some 88) (zq 15 4095) HT_ HW_ rfl hHeld (Or.inl ⟨by rfl, by (rintro w' ⟨s0, s1, s2, s3, s4, s5, s6, s7, s8, s9, s10, s11, s12, s13, s14, s15⟩; go_simp; with_reducible rfl)⟩) ?_
 refine zpu 12 (some 90) (zq 15 8191) HT_ ?_
 refine ztk 13 (some 91) (zq 15 16383) HT_ HW_ rfl hHeld (Or.inl ⟨by rfl, by (rintro w' ⟨s0, s1, s2, s3, s4, s5, s6, s7, s8, s9, s10, s11, s12, s13, s14, s15⟩; go_simp; with_reducible rfl)⟩) ?_
 refine zpu 14 (some 92) (zq 15 32767) HT_ ?_
 refine done_ (done_of HT_.out (by kernel_rfl)) ?_
 try go_wp2
 go_roundg k4
 case measure => have := HJ1.out; have := HK2.out; have := HJ16.out; have := HK4.out; omega
 case rel => exact ⟨(wrap64 (x4_4 + 1)), (by first | rfl | (simp; done) | (simp [*]; done) | (exact congrArg (Value.int .i64) (wrap_eq (by omega)))), H', ⟨by have := HJ1.out; have := HK2.out; have := HJ16.out; have := HK4.out; omega⟩, zl HB⟩
end Go.Proofs.Ytffnfpnajkgnaaa.PFnExactPushesFor
