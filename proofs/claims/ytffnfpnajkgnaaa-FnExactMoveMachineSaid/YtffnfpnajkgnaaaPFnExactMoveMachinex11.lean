-- WRITTEN by xprint.py, a program of this session's. Not trusted: Lean checks it.
-- packed by pack.py
import Derived.Test.YtffnfpnajkgnaaaPFnExactMoveMachinex0
import Derived.Test.YtffnfpnajkgnaaaPFnExactMoveMachinex2
import Derived.Test.YtffnfpnajkgnaaaPFnExactMoveMachinex7
import Derived.Test.YtffnfpnajkgnaaaPFnExactMoveMachinex8
import Derived.Test.YtffnfpnajkgnaaaPFnExactMoveMachinex10
import Derived.Test.YtffnfpnajkgnaaaTFnExactMoveMachinea
namespace Go.Proofs.Ytffnfpnajkgnaaa.PFnExactMoveMachine
open Go.RowKit Go.Proofs.YtffnfpnajkgnaaaW.PrintWords Go.Proofs.YtffnfpnajkgnaaaW.PrintLast Go.Proofs.YtffnfpnajkgnaaaW.PrintMore Go.Proofs.YtffnfpnajkgnaaaX
attribute [local go_sem] max2_int min2_int max_two min_two max_three min_three max_four min_four   -- for this text's walks alone
set_option maxHeartbeats 8000000
set_option maxRecDepth 100000
set_option linter.unusedVariables false
set_option linter.unusedSimpArgs false

attribute [local go_sem high] eqA116
mutual
def spec_l03Ok.j0 : Nat → List (S41) → Bool → Option (Bool)
  | 0, _, _ => none
  | k + 1, x0, x37 => if x37 = true then (some false) else (spec_l03Ok.l0 k x0 0)
def spec_l03Ok.l0 : Nat → List (S41) → Int → Option (Bool)
  | 0, _, _ => none
  | k + 1, x0, x3 => if 0 < (x0.length : Int) then (if x3 < (((rd_T41 x0 0).f1).length : Int) then (if 0 ≤ x3 then ((spec_l01Side.f (wrap64 ((rd_T116 ((rd_T41 x0 0).f1) x3).f1))).bind fun t278 => (if t278 = true then ((spec_l01Find.f k [(⟨(rd_T41 x0 0).f0.f0, (rd_T41 x0 0).f0.f1, (rd_T41 x0 0).f0.f2⟩ : S37)] ((rd_T116 ((rd_T41 x0 0).f1) x3).f0.f0) ((rd_T116 ((rd_T41 x0 0).f1) x3).f0.f1)).bind fun t282 => (spec_l03Ok.j2 k x0 x3 (decide (t282 < 0)))) else (spec_l03Ok.j2 k x0 x3 true))) else (none)) else (spec_l03Ok.l2 k x0 0)) else (none)
def spec_l03Ok.j2 : Nat → List (S41) → Int → Bool → Option (Bool)
  | 0, _, _, _ => none
  | k + 1, x0, x3, x72 => if x72 = true then (some false) else (spec_l03Ok.l1 k x0 x3 0)
def spec_l03Ok.l1 : Nat → List (S41) → Int → Int → Option (Bool)
  | 0, _, _, _ => none
  | k + 1, x0, x3, x4 => if x4 < x3 then (if 0 < (x0.length : Int) then (if 0 ≤ x4 then (if x4 < (((rd_T41 x0 0).f1).length : Int) then (if 0 ≤ x3 then (if x3 < (((rd_T41 x0 0).f1).length : Int) then (if ((((rd_T116 ((rd_T41 x0 0).f1) x4).f0.f0) == ((rd_T116 ((rd_T41 x0 0).f1) x3).f0.f0) && (((rd_T116 ((rd_T41 x0 0).f1) x4).f0.f1) == ((rd_T116 ((rd_T41 x0 0).f1) x3).f0.f1))) && (((rd_T116 ((rd_T41 x0 0).f1) x4).f1) == ((rd_T116 ((rd_T41 x0 0).f1) x3).f1))) = true then (some false) else (spec_l03Ok.l1 k x0 x3 (wrap64 (x4 + 1)))) else (none)) else (none)) else (none)) else (none)) else (none)) else (spec_l03Ok.l0 k x0 (wrap64 (x3 + 1)))
def spec_l03Ok.l2 : Nat → List (S41) → Int → Option (Bool)
  | 0, _, _ => none
  | k + 1, x0, x5 => if 0 < (x0.length : Int) then (if x5 < (((rd_T41 x0 0).f2).length : Int) then (if 0 ≤ x5 then ((spec_l01Find.f k [(⟨(rd_T41 x0 0).f0.f0, (rd_T41 x0 0).f0.f1, (rd_T41 x0 0).f0.f2⟩ : S37)] ((rd_T74 ((rd_T41 x0 0).f2) x5).f0) ((rd_T74 ((rd_T41 x0 0).f2) x5).f1)).bind fun t291 => (if t291 < 0 then (some false) else (spec_l03Ok.l2 k x0 (wrap64 (x5 + 1))))) else (none)) else (some true)) else (none)
end
def spec_l03Ok.f (k : Nat) (l0 : List (S41)) : Option (Bool) := if 0 < (l0.length : Int) then ((spec_l01Ok.f k [(⟨(rd_T41 l0 0).f0.f0, (rd_T41 l0 0).f0.f1, (rd_T41 l0 0).f0.f2⟩ : S37)]).bind fun t269 => (if t269 = true then (if (((rd_T41 l0 0).f0.f2).length : Int) > 60 then (spec_l03Ok.j0 k l0 true) else ((spec_l00In.f (((rd_T41 l0 0).f1).length : Int) 1 6).bind fun t272 => (if t272 = true then ((spec_l00In.f (((rd_T41 l0 0).f2).length : Int) 1 8).bind fun t274 => (spec_l03Ok.j0 k l0 (!t274))) else (spec_l03Ok.j0 k l0 true)))) else (spec_l03Ok.j0 k l0 true))) else (none)
theorem spec_l03Ok.mono_l : ∀ k, (∀ y0 y1, LeO (spec_l03Ok.j0 k y0 y1) (spec_l03Ok.j0 (k + 1) y0 y1)) ∧ (∀ y0 y1, LeO (spec_l03Ok.l0 k y0 y1) (spec_l03Ok.l0 (k + 1) y0 y1)) ∧ (∀ y0 y1 y2, LeO (spec_l03Ok.j2 k y0 y1 y2) (spec_l03Ok.j2 (k + 1) y0 y1 y2)) ∧ (∀ y0 y1 y2, LeO (spec_l03Ok.l1 k y0 y1 y2) (spec_l03Ok.l1 (k + 1) y0 y1 y2)) ∧ (∀ y0 y1, LeO (spec_l03Ok.l2 k y0 y1) (spec_l03Ok.l2 (k + 1) y0 y1))
  | 0 => ⟨fun _ _ r h => by simp [spec_l03Ok.j0] at h, fun _ _ r h => by simp [spec_l03Ok.l0] at h, fun _ _ _ r h => by simp [spec_l03Ok.j2] at h, fun _ _ _ r h => by simp [spec_l03Ok.l1] at h, fun _ _ r h => by simp [spec_l03Ok.l2] at h⟩
  | k + 1 => by
    obtain ⟨ih0, ih1, ih2, ih3, ih4⟩ := spec_l03Ok.mono_l k
    refine ⟨?_, ?_, ?_, ?_, ?_⟩
    · intro y0 y1
      unfold spec_l03Ok.j0
      repeat' first | (with_reducible first | apply ih0 | apply ih1 | apply ih2 | apply ih3 | apply ih4 | apply spec_l01Find.mono | apply spec_l01Ok.mono | exact LeO.refl _ | exact LeO.none _ | refine LeO.ite ?_ ?_ | refine LeO.bind ?_ (fun _ => ?_)) | apply ih0 | apply ih1 | apply ih2 | apply ih3 | apply ih4 | apply spec_l01Find.mono | apply spec_l01Ok.mono | exact LeO.none _ | refine LeO.ite ?_ ?_ | refine LeO.bind ?_ (fun _ => ?_)
    · intro y0 y1
      unfold spec_l03Ok.l0
      repeat' first | (with_reducible first | apply ih0 | apply ih1 | apply ih2 | apply ih3 | apply ih4 | apply spec_l01Find.mono | apply spec_l01Ok.mono | exact LeO.refl _ | exact LeO.none _ | refine LeO.ite ?_ ?_ | refine LeO.bind ?_ (fun _ => ?_)) | apply ih0 | apply ih1 | apply ih2 | apply ih3 | apply ih4 | apply spec_l01Find.mono | apply spec_l01Ok.mono | exact LeO.none _ | refine LeO.ite ?_ ?_ | refine LeO.bind ?_ (fun _ => ?_)
    · intro y0 y1 y2
      unfold spec_l03Ok.j2
      repeat' first | (with_reducible first | apply ih0 | apply ih1 | apply ih2 | apply ih3 | apply ih4 | apply spec_l01Find.mono | apply spec_l01Ok.mono | exact LeO.refl _ | exact LeO.none _ | refine LeO.ite ?_ ?_ | refine LeO.bind ?_ (fun _ => ?_)) | apply ih0 | apply ih1 | apply ih2 | apply ih3 | apply ih4 | apply spec_l01Find.mono | apply spec_l01Ok.mono | exact LeO.none _ | refine LeO.ite ?_ ?_ | refine LeO.bind ?_ (fun _ => ?_)
    · intro y0 y1 y2
      unfold spec_l03Ok.l1
      repeat' first | (with_reducible first | apply ih0 | apply ih1 | apply ih2 | apply ih3 | apply ih4 | apply spec_l01Find.mono | apply spec_l01Ok.mono | exact LeO.refl _ | exact LeO.none _ | refine LeO.ite ?_ ?_ | refine LeO.bind ?_ (fun _ => ?_)) | apply ih0 | apply ih1 | apply ih2 | apply ih3 | apply ih4 | apply spec_l01Find.mono | apply spec_l01Ok.mono | exact LeO.none _ | refine LeO.ite ?_ ?_ | refine LeO.bind ?_ (fun _ => ?_)
    · intro y0 y1
      unfold spec_l03Ok.l2
      repeat' first | (with_reducible first | apply ih0 | apply ih1 | apply ih2 | apply ih3 | apply ih4 | apply spec_l01Find.mono | apply spec_l01Ok.mono | exact LeO.refl _ | exact LeO.none _ | refine LeO.ite ?_ ?_ | refine LeO.bind ?_ (fun _ => ?_)) | apply ih0 | apply ih1 | apply ih2 | apply ih3 | apply ih4 | apply spec_l01Find.mono | apply spec_l01Ok.mono | exact LeO.none _ | refine LeO.ite ?_ ?_ | refine LeO.bind ?_ (fun _ => ?_)
theorem spec_l03Ok.mono : ∀ a0 k, LeO (spec_l03Ok.f k a0) (spec_l03Ok.f (k + 1) a0) := by
 intro a0 k
 obtain ⟨ih0, ih1, ih2, ih3, ih4⟩ := spec_l03Ok.mono_l k
 unfold spec_l03Ok.f
 repeat' first | (with_reducible first | apply ih0 | apply ih1 | apply ih2 | apply ih3 | apply ih4 | apply spec_l01Find.mono | apply spec_l01Ok.mono | exact LeO.refl _ | exact LeO.none _ | refine LeO.ite ?_ ?_ | refine LeO.bind ?_ (fun _ => ?_)) | apply ih0 | apply ih1 | apply ih2 | apply ih3 | apply ih4 | apply spec_l01Find.mono | apply spec_l01Ok.mono | exact LeO.none _ | refine LeO.ite ?_ ?_ | refine LeO.bind ?_ (fun _ => ?_)
def spec_l03Ok.T6 : Bool × List (List Nat × List Nat) := (true, [([], []), ([0], [0]), ([1], [1]), ([2], [2]), ([], []), ([3, 4], [3, 4]), ([5], [5]), ([6], [6]), ([7], [7]), ([8], [8]), ([9], [9]), ([10, 9], [10]), ([11], [11]), ([12, 11], [11, 12]), ([13, 11], [11, 13]), ([11], [11]), ([15, 11], [11, 15]), ([16, 11], [11, 16]), ([17, 11], [11, 17]), ([11], [11]), ([18, 19, 11], [11, 18, 19]), ([20, 11], [11, 20]), ([21, 11], [11, 21]), ([14, 22, 11, 11], [11, 14, 22]), ([23, 11], [11, 23]), ([11, 24], [11, 24])])
def spec_l03Ok.B6 : List Nat := [0, 1, 3, 7, 0, 31, 63, 127, 255, 511, 1023, 2047, 4095, 8191, 16383, 4095, 36863, 102399, 233471, 4095, 1019903, 2068479, 4165631, 8388607, 16777215, 33554431]
theorem spec_l03Ok.tab6 : rtab .any (opsOf Try.f99 6) = spec_l03Ok.T6 := by kernel_rfl
theorem spec_l03Ok.bits6 : waitsOk spec_l03Ok.T6.2 spec_l03Ok.B6 = true := by kernel_rfl
def spec_l03Ok.T11 : Bool × List (List Nat × List Nat) := (true, [([], []), ([0], [0]), ([1], [1]), ([2], [2]), ([], []), ([3, 4], [3, 4]), ([5], [5]), ([], []), ([7], [7]), ([8], [8]), ([9], [9]), ([], []), ([10, 11], [10, 11]), ([12], [12]), ([6, 13], [6, 13])])
def spec_l03Ok.B11 : List Nat := [0, 1, 3, 7, 0, 31, 63, 0, 128, 384, 896, 0, 3968, 8064, 16383]
theorem spec_l03Ok.tab11 : rtab .any (opsOf Try.f99 11) = spec_l03Ok.T11 := by kernel_rfl
theorem spec_l03Ok.bits11 : waitsOk spec_l03Ok.T11.2 spec_l03Ok.B11 = true := by kernel_rfl
def spec_l03Ok.T16 : Bool × List (List Nat × List Nat) := (true, [([], []), ([0], [0]), ([1], [1]), ([], []), ([3], [3]), ([4], [4]), ([5], [5]), ([], []), ([6, 7], [6, 7]), ([8], [8]), ([2, 9], [2, 9]), ([10], [10])])
def spec_l03Ok.B16 : List Nat := [0, 1, 3, 0, 8, 24, 56, 0, 248, 504, 1023, 2047]
theorem spec_l03Ok.tab16 : rtab .any (opsOf Try.f99 16) = spec_l03Ok.T16 := by kernel_rfl
theorem spec_l03Ok.bits16 : waitsOk spec_l03Ok.T16.2 spec_l03Ok.B16 = true := by kernel_rfl
theorem spec_l03Ok.calls (k : Nat) (adp0 : Addr) (l0 : List (S41)) (r : Bool) (w : World) (hr0 : Kd.C k41 w (some adp0) l0.length l0) (h : spec_l03Ok.f k l0 = some r) :
    Calls Try.prog 99 #[.pointer (some adp0)] w fun e w' => e = .returned (.bool r) ∧ Below w.heap.size w w' := by
 have hu74 := Try.underlying74
 have hu116 := Try.underlying116
 have HR0 := Aside0.mk hr0
 clear hr0
 have HB := Aside0.mk (Below.refl w.heap.size w)
 have H : (if 0 < (l0.length : Int) then ((spec_l01Ok.f k [(⟨(rd_T41 l0 0).f0.f0, (rd_T41 l0 0).f0.f1, (rd_T41 l0 0).f0.f2⟩ : S37)]).bind fun t269 => (if t269 = true then (if (((rd_T41 l0 0).f0.f2).length : Int) > 60 then (spec_l03Ok.j0 k l0 true) else ((spec_l00In.f (((rd_T41 l0 0).f1).length : Int) 1 6).bind fun t272 => (if t272 = true then ((spec_l00In.f (((rd_T41 l0 0).f2).length : Int) 1 8).bind fun t274 => (spec_l03Ok.j0 k l0 (!t274))) else (spec_l03Ok.j0 k l0 true)))) else (spec_l03Ok.j0 k l0 true))) else (none)) = some r := h
 clear h
 have HC2 := Aside0.mk H
 clear H
 go_enter Try.func99, Try.ntmps99
 go_upto_region 1 with (fail)
 go_cut [37] (fun v37 wc => ∃ (kq : Nat) (x37_1 : Bool), v37 = .bool x37_1 ∧ Aside0 (spec_l03Ok.j0 kq l0 x37_1 = some r) ∧ Aside0 (kq ≤ k) ∧ Aside0 (Below w.heap.size w wc))
 case first =>
  have H := HC2.out
  clear HC2
  by_cases c3 : 0 < (l0.length : Int)
  rotate_left
  ·rw [if_neg c3] at H
   exact absurd H (by simp)
  rw [if_pos c3] at H
  have c3b0 : decide (0 < (l0.length : Int)) = true := decide_eq_true c3
  have c3b1 : decide (0 < l0.length) = true := decide_eq_true (by omega)
  clear c3
  (first | rw [c3b0] | (simp only [i64_w, i32_w]; rw [c3b0]) | (have h_ := c3b0; simp only [bne] at h_; rw [h_]) | skip)
  replace H := zob H
  obtain ⟨t269, A40, H⟩ := H
  replace H : (if t269 = true then (if (((rd_T41 l0 0).f0.f2).length : Int) > 60 then (spec_l03Ok.j0 k l0 true) else ((spec_l00In.f (((rd_T41 l0 0).f1).length : Int) 1 6).bind fun t272 => (if t272 = true then ((spec_l00In.f (((rd_T41 l0 0).f2).length : Int) 1 8).bind fun t274 => (spec_l03Ok.j0 k l0 (!t274))) else (spec_l03Ok.j0 k l0 true)))) else (spec_l03Ok.j0 k l0 true)) = some r := H
  have A4 := Aside0.mk A40
  clear A40
  by_cases c5 : t269 = true
  rotate_left
  ·replace c5 := Bool.eq_false_iff.mpr c5
   subst c5
   have H1 : (spec_l03Ok.j0 k l0 true) = some r := by rw [if_neg (show ¬ (false = true) by decide)] at H; exact H
   clear H
   have H := H1
   clear H1
   have H' := Aside0.mk H
   clear H
   have p268 : 0 ≤ (0 : Int) := (by omega)
   have q268 : 0 < (l0.length : Int) := of_decide_eq_true zA
   obtain ⟨ad268, A268_2, c268_2, A268_3, c268_3, A268_4, c268_4, e268, hx268_0, hx268_1, hx268_2, hx268_3, hx268_4, hl268_2, hi268_2, hl268_3, hi268_3, hl268_4, hi268_4⟩ := at_T41 HR0.out 0 p268 q268
   obtain rfl : adp0 = ad268 := (by injection e268)
   have qi268 : (0 < l0.length) = True := eq_true (by omega)
   try simp only [z00, Nat.zero_mul, Addr.add_zero'] at hx268_0 hx268_1 hx268_2 hx268_3 hx268_4
   replace hx268_0 := zc HB hx268_0
   replace hx268_1 := zc HB hx268_1
   replace hx268_2 := zc HB hx268_2
   replace hx268_3 := zc HB hx268_3
   replace hx268_4 := zc HB hx268_4
   have HR268_2 := Aside0.mk hi268_2
   have HC268_2 := Aside0.mk hl268_2
   clear hi268_2 hl268_2
   have HR268_3 := Aside0.mk hi268_3
   have HC268_3 := Aside0.mk hl268_3
   clear hi268_3 hl268_3
   have HR268_4 := Aside0.mk hi268_4
   have HC268_4 := Aside0.mk hl268_4
   clear hi268_4 hl268_4
   replace p268 := eq_true p268
   replace q268 := eq_true q268
   go_wp2_with (first | ((with_reducible refine gate_callee (f := 106) rfl ?_); refine goesL_ (some 9) rfl rfl Try.func106 (by kernel_rfl) rfl #[.pointer (some adp0)] rfl zm ?_; (with_reducible refine (spec_l01Ok.calls k _ [(⟨(rd_T41 l0 0).f0.f0, (rd_T41 l0 0).f0.f1, (rd_T41 l0 0).f0.f2⟩ : S37)] false _ ?side1 A4.out).mono ?_); (case side1 => refine ro_first (d := k41) (d1 := k37) (f := fun x : S41 => (x.f0, x.f1, x.f2)) (l := l0) rfl z41 ?_ (by first | (have h_ := of_eq_true q268; omega) | (have h_ : 0 < (l0.length : Int) := of_decide_eq_true (by assumption); omega) | omega) rfl; exact zcc HB HR0.out); rintro e w13 ⟨rfl, hb⟩; refine ⟨_, rfl, ?_⟩; have n0_ := zb HB hb; clear HB; have HB := n0_; clear n0_; (try clear hb); (try clear hb2); (try clear hk); (try clear hi)))
   go_meet
   case rel => exact ⟨_, (true), zi, H', ⟨by first | omega | exact Nat.le_refl _⟩, zl HB⟩
  subst c5
  have H1 : (if (((rd_T41 l0 0).f0.f2).length : Int) > 60 then (spec_l03Ok.j0 k l0 true) else ((spec_l00In.f (((rd_T41 l0 0).f1).length : Int) 1 6).bind fun t272 => (if t272 = true then ((spec_l00In.f (((rd_T41 l0 0).f2).length : Int) 1 8).bind fun t274 => (spec_l03Ok.j0 k l0 (!t274))) else (spec_l03Ok.j0 k l0 true)))) = some r := by rw [if_pos rfl] at H; exact H
  clear H
  have H := H1
  clear H1
  by_cases c6 : (((rd_T41 l0 0).f0.f2).length : Int) > 60
  ·rw [if_pos c6] at H
   have c6b0 : decide (60 < (((rd_T41 l0 0).f0.f2).length : Int)) = true := decide_eq_true c6
   have c6b1 : decide (60 < ((rd_T41 l0 0).f0.f2).length) = true := decide_eq_true (by omega)
   clear c6
   have H' := Aside0.mk H
   clear H
   have p268 : 0 ≤ (0 : Int) := (by omega)
   have q268 : 0 < (l0.length : Int) := of_decide_eq_true zA
   obtain ⟨ad268, A268_2, c268_2, A268_3, c268_3, A268_4, c268_4, e268, hx268_0, hx268_1, hx268_2, hx268_3, hx268_4, hl268_2, hi268_2, hl268_3, hi268_3, hl268_4, hi268_4⟩ := at_T41 HR0.out 0 p268 q268
   obtain rfl : adp0 = ad268 := (by injection e268)
   have qi268 : (0 < l0.length) = True := eq_true (by omega)
   try simp only [z00, Nat.zero_mul, Addr.add_zero'] at hx268_0 hx268_1 hx268_2 hx268_3 hx268_4
   replace hx268_0 := zc HB hx268_0
   replace hx268_1 := zc HB hx268_1
   replace hx268_2 := zc HB hx268_2
   replace hx268_3 := zc HB hx268_3
   replace hx268_4 := zc HB hx268_4
   have HR268_2 := Aside0.mk hi268_2
   have HC268_2 := Aside0.mk hl268_2
   clear hi268_2 hl268_2
   have HR268_3 := Aside0.mk hi268_3
   have HC268_3 := Aside0.mk hl268_3
   clear hi268_3 hl268_3
   have HR268_4 := Aside0.mk hi268_4
   have HC268_4 := Aside0.mk hl268_4
   clear hi268_4 hl268_4
   replace p268 := eq_true p268
   replace q268 := eq_true q268
   go_wp2_with (first | ((with_reducible refine gate_callee (f := 106) rfl ?_); refine goesL_ (some 9) rfl rfl Try.func106 (by kernel_rfl) rfl #[.pointer (some adp0)] rfl zm ?_; (with_reducible refine (spec_l01Ok.calls k _ [(⟨(rd_T41 l0 0).f0.f0, (rd_T41 l0 0).f0.f1, (rd_T41 l0 0).f0.f2⟩ : S37)] true _ ?side1 A4.out).mono ?_); (case side1 => refine ro_first (d := k41) (d1 := k37) (f := fun x : S41 => (x.f0, x.f1, x.f2)) (l := l0) rfl z41 ?_ (by first | (have h_ := of_eq_true q268; omega) | (have h_ : 0 < (l0.length : Int) := of_decide_eq_true (by assumption); omega) | omega) rfl; exact zcc HB HR0.out); rintro e w7 ⟨rfl, hb⟩; refine ⟨_, rfl, ?_⟩; have n0_ := zb HB hb; clear HB; have HB := n0_; clear n0_; (try clear hb); (try clear hb2); (try clear hk); (try clear hi); have p270 : 0 ≤ (0 : Int) := (by omega); have q270 : 0 < (l0.length : Int) := of_decide_eq_true zA; obtain ⟨ad270, A270_2, c270_2, A270_3, c270_3, A270_4, c270_4, e270, hx270_0, hx270_1, hx270_2, hx270_3, hx270_4, hl270_2, hi270_2, hl270_3, hi270_3, hl270_4, hi270_4⟩ := at_T41 HR0.out 0 p270 q270; obtain rfl : adp0 = ad270 := (by injection e270); have qi270 : (0 < l0.length) = True := eq_true (by omega); (try simp only [z00, Nat.zero_mul, Addr.add_zero'] at hx270_0 hx270_1 hx270_2 hx270_3 hx270_4); replace hx270_0 := zc HB hx270_0; replace hx270_1 := zc HB hx270_1; replace hx270_2 := zc HB hx270_2; replace hx270_3 := zc HB hx270_3; replace hx270_4 := zc HB hx270_4; have HR270_2 := Aside0.mk hi270_2; have HC270_2 := Aside0.mk hl270_2; clear hi270_2 hl270_2; have HR270_3 := Aside0.mk hi270_3; have HC270_3 := Aside0.mk hl270_3; clear hi270_3 hl270_3; have HR270_4 := Aside0.mk hi270_4; have HC270_4 := Aside0.mk hl270_4; clear hi270_4 hl270_4; replace p270 := eq_true p270; replace q270 := eq_true q270))
   go_meet
   case rel => exact ⟨_, (true), zi, H', ⟨by first | omega | exact Nat.le_refl _⟩, zl HB⟩
  rw [if_neg c6] at H
  have c6b0 : decide (60 < (((rd_T41 l0 0).f0.f2).length : Int)) = false := decide_eq_false c6
  have c6b1 : decide (60 < ((rd_T41 l0 0).f0.f2).length) = false := decide_eq_false (by omega)
  clear c6
  replace H := zob H
  obtain ⟨t272, A80, H⟩ := H
  replace H : (if t272 = true then ((spec_l00In.f (((rd_T41 l0 0).f2).length : Int) 1 8).bind fun t274 => (spec_l03Ok.j0 k l0 (!t274))) else (spec_l03Ok.j0 k l0 true)) = some r := H
  have A8 := Aside0.mk A80
  clear A80
  by_cases c9 : t272 = true
  rotate_left
  ·replace c9 := Bool.eq_false_iff.mpr c9
   subst c9
   have H1 : (spec_l03Ok.j0 k l0 true) = some r := by rw [if_neg (show ¬ (false = true) by decide)] at H; exact H
   clear H
   have H := H1
   clear H1
   have H' := Aside0.mk H
   clear H
   have p268 : 0 ≤ (0 : Int) := (by omega)
   have q268 : 0 < (l0.length : Int) := of_decide_eq_true zA
   obtain ⟨ad268, A268_2, c268_2, A268_3, c268_3, A268_4, c268_4, e268, hx268_0, hx268_1, hx268_2, hx268_3, hx268_4, hl268_2, hi268_2, hl268_3, hi268_3, hl268_4, hi268_4⟩ := at_T41 HR0.out 0 p268 q268
   obtain rfl : adp0 = ad268 := (by injection e268)
   have qi268 : (0 < l0.length) = True := eq_true (by omega)
   try simp only [z00, Nat.zero_mul, Addr.add_zero'] at hx268_0 hx268_1 hx268_2 hx268_3 hx268_4
   replace hx268_0 := zc HB hx268_0
   replace hx268_1 := zc HB hx268_1
   replace hx268_2 := zc HB hx268_2
   replace hx268_3 := zc HB hx268_3
   replace hx268_4 := zc HB hx268_4
   have HR268_2 := Aside0.mk hi268_2
   have HC268_2 := Aside0.mk hl268_2
   clear hi268_2 hl268_2
   have HR268_3 := Aside0.mk hi268_3
   have HC268_3 := Aside0.mk hl268_3
   clear hi268_3 hl268_3
   have HR268_4 := Aside0.mk hi268_4
   have HC268_4 := Aside0.mk hl268_4
   clear hi268_4 hl268_4
   replace p268 := eq_true p268
   replace q268 := eq_true q268
   go_wp2_with (first | ((with_reducible refine gate_callee (f := 106) rfl ?_); refine goesL_ (some 9) rfl rfl Try.func106 (by kernel_rfl) rfl #[.pointer (some adp0)] rfl zm ?_; (with_reducible refine (spec_l01Ok.calls k _ [(⟨(rd_T41 l0 0).f0.f0, (rd_T41 l0 0).f0.f1, (rd_T41 l0 0).f0.f2⟩ : S37)] true _ ?side1 A4.out).mono ?_); (case side1 => refine ro_first (d := k41) (d1 := k37) (f := fun x : S41 => (x.f0, x.f1, x.f2)) (l := l0) rfl z41 ?_ (by first | (have h_ := of_eq_true q268; omega) | (have h_ : 0 < (l0.length : Int) := of_decide_eq_true (by assumption); omega) | omega) rfl; exact zcc HB HR0.out); rintro e w12 ⟨rfl, hb⟩; refine ⟨_, rfl, ?_⟩; have n0_ := zb HB hb; clear HB; have HB := n0_; clear n0_; (try clear hb); (try clear hb2); (try clear hk); (try clear hi); have p270 : 0 ≤ (0 : Int) := (by omega); have q270 : 0 < (l0.length : Int) := of_decide_eq_true zA; obtain ⟨ad270, A270_2, c270_2, A270_3, c270_3, A270_4, c270_4, e270, hx270_0, hx270_1, hx270_2, hx270_3, hx270_4, hl270_2, hi270_2, hl270_3, hi270_3, hl270_4, hi270_4⟩ := at_T41 HR0.out 0 p270 q270; obtain rfl : adp0 = ad270 := (by injection e270); have qi270 : (0 < l0.length) = True := eq_true (by omega); (try simp only [z00, Nat.zero_mul, Addr.add_zero'] at hx270_0 hx270_1 hx270_2 hx270_3 hx270_4); replace hx270_0 := zc HB hx270_0; replace hx270_1 := zc HB hx270_1; replace hx270_2 := zc HB hx270_2; replace hx270_3 := zc HB hx270_3; replace hx270_4 := zc HB hx270_4; have HR270_2 := Aside0.mk hi270_2; have HC270_2 := Aside0.mk hl270_2; clear hi270_2 hl270_2; have HR270_3 := Aside0.mk hi270_3; have HC270_3 := Aside0.mk hl270_3; clear hi270_3 hl270_3; have HR270_4 := Aside0.mk hi270_4; have HC270_4 := Aside0.mk hl270_4; clear hi270_4 hl270_4; replace p270 := eq_true p270; replace q270 := eq_true q270; have p271 : 0 ≤ (0 : Int) := (by omega); have q271 : 0 < (l0.length : Int) := of_decide_eq_true zA; obtain ⟨ad271, A271_2, c271_2, A271_3, c271_3, A271_4, c271_4, e271, hx271_0, hx271_1, hx271_2, hx271_3, hx271_4, hl271_2, hi271_2, hl271_3, hi271_3, hl271_4, hi271_4⟩ := at_T41 HR0.out 0 p271 q271; obtain rfl : adp0 = ad271 := (by injection e271); have qi271 : (0 < l0.length) = True := eq_true (by omega); (try simp only [z00, Nat.zero_mul, Addr.add_zero'] at hx271_0 hx271_1 hx271_2 hx271_3 hx271_4); replace hx271_0 := zc HB hx271_0; replace hx271_1 := zc HB hx271_1; replace hx271_2 := zc HB hx271_2; replace hx271_3 := zc HB hx271_3; replace hx271_4 := zc HB hx271_4; have HR271_2 := Aside0.mk hi271_2; have HC271_2 := Aside0.mk hl271_2; clear hi271_2 hl271_2; have HR271_3 := Aside0.mk hi271_3; have HC271_3 := Aside0.mk hl271_3; clear hi271_3 hl271_3; have HR271_4 := Aside0.mk hi271_4; have HC271_4 := Aside0.mk hl271_4; clear hi271_4 hl271_4; replace p271 := eq_true p271; replace q271 := eq_true q271; have ea_ := Option.some.inj (hx270_2.symm.trans hx271_2); injection ea_ with ea_ en_ ec_; subst ea_; subst ec_; clear en_; have ea_ := Option.some.inj (hx270_3.symm.trans hx271_3); injection ea_ with ea_ en_ ec_; subst ea_; subst ec_; clear en_; have ea_ := Option.some.inj (hx270_4.symm.trans hx271_4); injection ea_ with ea_ en_ ec_; subst ea_; subst ec_; clear en_) | (go_at_call 96; (with_reducible refine (spec_l00In.calls (((rd_T41 l0 0).f1).length : Int) 1 6 false _ A8.out).mono ?_); rintro e w' ⟨rfl, ⟨nd, rfl⟩⟩))
   go_meet
   case rel => exact ⟨_, (true), zi, H', ⟨by first | omega | exact Nat.le_refl _⟩, zl HB⟩
  subst c9
  have H1 : ((spec_l00In.f (((rd_T41 l0 0).f2).length : Int) 1 8).bind fun t274 => (spec_l03Ok.j0 k l0 (!t274))) = some r := by rw [if_pos rfl] at H; exact H
  clear H
  have H := H1
  clear H1
  replace H := zob H
  obtain ⟨t274, A100, H⟩ := H
  replace H : (spec_l03Ok.j0 k l0 (!t274)) = some r := H
  have A10 := Aside0.mk A100
  clear A100
  have H' := Aside0.mk H
  clear H
  have p268 : 0 ≤ (0 : Int) := (by omega)
  have q268 : 0 < (l0.length : Int) := of_decide_eq_true zA
  obtain ⟨ad268, A268_2, c268_2, A268_3, c268_3, A268_4, c268_4, e268, hx268_0, hx268_1, hx268_2, hx268_3, hx268_4, hl268_2, hi268_2, hl268_3, hi268_3, hl268_4, hi268_4⟩ := at_T41 HR0.out 0 p268 q268
  obtain rfl : adp0 = ad268 := (by injection e268)
  have qi268 : (0 < l0.length) = True := eq_true (by omega)
  try simp only [z00, Nat.zero_mul, Addr.add_zero'] at hx268_0 hx268_1 hx268_2 hx268_3 hx268_4
  replace hx268_0 := zc HB hx268_0
  replace hx268_1 := zc HB hx268_1
  replace hx268_2 := zc HB hx268_2
  replace hx268_3 := zc HB hx268_3
  replace hx268_4 := zc HB hx268_4
  have HR268_2 := Aside0.mk hi268_2
  have HC268_2 := Aside0.mk hl268_2
  clear hi268_2 hl268_2
  have HR268_3 := Aside0.mk hi268_3
  have HC268_3 := Aside0.mk hl268_3
  clear hi268_3 hl268_3
  have HR268_4 := Aside0.mk hi268_4
  have HC268_4 := Aside0.mk hl268_4
  clear hi268_4 hl268_4
  replace p268 := eq_true p268
  replace q268 := eq_true q268
  go_wp2_with (first | ((with_reducible refine gate_callee (f := 106) rfl ?_); refine goesL_ (some 9) rfl rfl Try.func106 (by kernel_rfl) rfl #[.pointer (some adp0)] rfl zm ?_; (with_reducible refine (spec_l01Ok.calls k _ [(⟨(rd_T41 l0 0).f0.f0, (rd_T41 l0 0).f0.f1, (rd_T41 l0 0).f0.f2⟩ : S37)] true _ ?side1 A4.out).mono ?_); (case side1 => refine ro_first (d := k41) (d1 := k37) (f := fun x : S41 => (x.f0, x.f1, x.f2)) (l := l0) rfl z41 ?_ (by first | (have h_ := of_eq_true q268; omega) | (have h_ : 0 < (l0.length : Int) := of_decide_eq_true (by assumption); omega) | omega) rfl; exact zcc HB HR0.out); rintro e w11 ⟨rfl, hb⟩; refine ⟨_, rfl, ?_⟩; have n0_ := zb HB hb; clear HB; have HB := n0_; clear n0_; (try clear hb); (try clear hb2); (try clear hk); (try clear hi); have p270 : 0 ≤ (0 : Int) := (by omega); have q270 : 0 < (l0.length : Int) := of_decide_eq_true zA; obtain ⟨ad270, A270_2, c270_2, A270_3, c270_3, A270_4, c270_4, e270, hx270_0, hx270_1, hx270_2, hx270_3, hx270_4, hl270_2, hi270_2, hl270_3, hi270_3, hl270_4, hi270_4⟩ := at_T41 HR0.out 0 p270 q270; obtain rfl : adp0 = ad270 := (by injection e270); have qi270 : (0 < l0.length) = True := eq_true (by omega); (try simp only [z00, Nat.zero_mul, Addr.add_zero'] at hx270_0 hx270_1 hx270_2 hx270_3 hx270_4); replace hx270_0 := zc HB hx270_0; replace hx270_1 := zc HB hx270_1; replace hx270_2 := zc HB hx270_2; replace hx270_3 := zc HB hx270_3; replace hx270_4 := zc HB hx270_4; have HR270_2 := Aside0.mk hi270_2; have HC270_2 := Aside0.mk hl270_2; clear hi270_2 hl270_2; have HR270_3 := Aside0.mk hi270_3; have HC270_3 := Aside0.mk hl270_3; clear hi270_3 hl270_3; have HR270_4 := Aside0.mk hi270_4; have HC270_4 := Aside0.mk hl270_4; clear hi270_4 hl270_4; replace p270 := eq_true p270; replace q270 := eq_true q270; have p271 : 0 ≤ (0 : Int) := (by omega); have q271 : 0 < (l0.length : Int) := of_decide_eq_true zA; obtain ⟨ad271, A271_2, c271_2, A271_3, c271_3, A271_4, c271_4, e271, hx271_0, hx271_1, hx271_2, hx271_3, hx271_4, hl271_2, hi271_2, hl271_3, hi271_3, hl271_4, hi271_4⟩ := at_T41 HR0.out 0 p271 q271; obtain rfl : adp0 = ad271 := (by injection e271); have qi271 : (0 < l0.length) = True := eq_true (by omega); (try simp only [z00, Nat.zero_mul, Addr.add_zero'] at hx271_0 hx271_1 hx271_2 hx271_3 hx271_4); replace hx271_0 := zc HB hx271_0; replace hx271_1 := zc HB hx271_1; replace hx271_2 := zc HB hx271_2; replace hx271_3 := zc HB hx271_3; replace hx271_4 := zc HB hx271_4; have HR271_2 := Aside0.mk hi271_2; have HC271_2 := Aside0.mk hl271_2; clear hi271_2 hl271_2; have HR271_3 := Aside0.mk hi271_3; have HC271_3 := Aside0.mk hl271_3; clear hi271_3 hl271_3; have HR271_4 := Aside0.mk hi271_4; have HC271_4 := Aside0.mk hl271_4; clear hi271_4 hl271_4; replace p271 := eq_true p271; replace q271 := eq_true q271; have ea_ := Option.some.inj (hx270_2.symm.trans hx271_2); injection ea_ with ea_ en_ ec_; subst ea_; subst ec_; clear en_; have ea_ := Option.some.inj (hx270_3.symm.trans hx271_3); injection ea_ with ea_ en_ ec_; subst ea_; subst ec_; clear en_; have ea_ := Option.some.inj (hx270_4.symm.trans hx271_4); injection ea_ with ea_ en_ ec_; subst ea_; subst ec_; clear en_) | (go_at_call 96; (with_reducible refine (spec_l00In.calls (((rd_T41 l0 0).f1).length : Int) 1 6 true _ A8.out).mono ?_); rintro e w' ⟨rfl, ⟨nd, rfl⟩⟩; have p273 : 0 ≤ (0 : Int) := (by omega); have q273 : 0 < (l0.length : Int) := of_decide_eq_true zA; obtain ⟨ad273, A273_2, c273_2, A273_3, c273_3, A273_4, c273_4, e273, hx273_0, hx273_1, hx273_2, hx273_3, hx273_4, hl273_2, hi273_2, hl273_3, hi273_3, hl273_4, hi273_4⟩ := at_T41 HR0.out 0 p273 q273; obtain rfl : adp0 = ad273 := (by injection e273); have qi273 : (0 < l0.length) = True := eq_true (by omega); (try simp only [z00, Nat.zero_mul, Addr.add_zero'] at hx273_0 hx273_1 hx273_2 hx273_3 hx273_4); replace hx273_0 := zc HB hx273_0; replace hx273_1 := zc HB hx273_1; replace hx273_2 := zc HB hx273_2; replace hx273_3 := zc HB hx273_3; replace hx273_4 := zc HB hx273_4; have HR273_2 := Aside0.mk hi273_2; have HC273_2 := Aside0.mk hl273_2; clear hi273_2 hl273_2; have HR273_3 := Aside0.mk hi273_3; have HC273_3 := Aside0.mk hl273_3; clear hi273_3 hl273_3; have HR273_4 := Aside0.mk hi273_4; have HC273_4 := Aside0.mk hl273_4; clear hi273_4 hl273_4; replace p273 := eq_true p273; replace q273 := eq_true q273; have ea_ := Option.some.inj (hx270_2.symm.trans hx273_2); injection ea_ with ea_ en_ ec_; subst ea_; subst ec_; clear en_; have ea_ := Option.some.inj (hx270_3.symm.trans hx273_3); injection ea_ with ea_ en_ ec_; subst ea_; subst ec_; clear en_; have ea_ := Option.some.inj (hx270_4.symm.trans hx273_4); injection ea_ with ea_ en_ ec_; subst ea_; subst ec_; clear en_) | (go_at_call 96; (with_reducible refine (spec_l00In.calls (((rd_T41 l0 0).f2).length : Int) 1 8 t274 _ A10.out).mono ?_); rintro e w' ⟨rfl, ⟨nd, rfl⟩⟩))
  go_meet
  case rel => exact ⟨_, (!t274), zi, H', ⟨by first | omega | exact Nat.le_refl _⟩, zl HB⟩
 clear HC2
 try clear c1
 try clear c2
 try clear p2
 try clear q2
 try clear hx2
 try clear qi2
 try clear c3
 try clear c3b0
 try clear c3b1
 try clear c5
 try clear c6
 try clear c6b0
 try clear c6b1
 try clear c9
 try clear c10
 try clear hx268_0
 try clear hx268_1
 try clear hx268_2
 try clear hx268_3
 try clear hx268_4
 try clear hx270_0
 try clear hx270_1
 try clear hx270_2
 try clear hx270_3
 try clear hx270_4
 try clear hx271_0
 try clear hx271_1
 try clear hx271_2
 try clear hx271_3
 try clear hx271_4
 try clear hx273_0
 try clear hx273_1
 try clear hx273_2
 try clear hx273_3
 try clear hx273_4
 try clear p268
 try clear p270
 try clear p271
 try clear p273
 try clear q268
 try clear q270
 try clear q271
 try clear q273
 obtain ⟨kq, x37_1, rfl, HA, HJ1, HB⟩ := hcut
 cases kq with
 | zero => exact absurd HA.out (by simp [spec_l03Ok.j0])
 | succ kj1 => ?_
 have H := HA.out
 clear HA
 simp only [spec_l03Ok.j0] at H
 by_cases c14 : x37_1 = true
 ·subst c14
  have H1 : (some false) = some r := by rw [if_pos rfl] at H; exact H
  clear H
  have H := H1
  clear H1
  obtain rfl := Option.some.inj H
  go_wp2
  go_ret
  exact ⟨zv, zbo⟩
 replace c14 := Bool.eq_false_iff.mpr c14
 subst c14
 have H1 : (spec_l03Ok.l0 kj1 l0 0) = some r := by rw [if_neg (show ¬ (false = true) by decide)] at H; exact H
 clear H
 have H := H1
 clear H1
 have H' := Aside0.mk H
 clear H
 go_wp2
 go_loopg [3] kj1 (fun kq v3 w' => ∃ (x3_2 : Int), v3 = .int .i64 x3_2 ∧ Aside0 (spec_l03Ok.l0 kq l0 x3_2 = some r) ∧ Aside0 (kq ≤ kj1) ∧ Aside0 (Below w.heap.size w w'))
 case atStart => exact ⟨(0), zi, H', ⟨Nat.le_refl _⟩, zl HB⟩
 clear H'
 try clear c1
 try clear c2
 try clear p2
 try clear q2
 try clear hx2
 try clear qi2
 try clear c3
 try clear c3b0
 try clear c3b1
 try clear c5
 try clear c6
 try clear c6b0
 try clear c6b1
 try clear c9
 try clear c10
 try clear c14
 try clear hx268_0
 try clear hx268_1
 try clear hx268_2
 try clear hx268_3
 try clear hx268_4
 try clear hx270_0
 try clear hx270_1
 try clear hx270_2
 try clear hx270_3
 try clear hx270_4
 try clear hx271_0
 try clear hx271_1
 try clear hx271_2
 try clear hx271_3
 try clear hx271_4
 try clear hx273_0
 try clear hx273_1
 try clear hx273_2
 try clear hx273_3
 try clear hx273_4
 try clear p2
 try clear p268
 try clear p270
 try clear p271
 try clear p273
 try clear q2
 try clear q268
 try clear q270
 try clear q271
 try clear q273
 obtain ⟨x3_2, rfl, HA, HK2, HB⟩ := hrel
 cases gk with
 | zero => exact absurd HA.out (by simp [spec_l03Ok.l0])
 | succ k2 => ?_
 have H := HA.out
 clear HA
 simp only [spec_l03Ok.l0] at H
 by_cases c15 : 0 < (l0.length : Int)
 rotate_left
 ·rw [if_neg c15] at H
  exact absurd H (by simp)
 rw [if_pos c15] at H
 have c15b0 : decide (0 < (l0.length : Int)) = true := decide_eq_true c15
 have c15b1 : decide (0 < l0.length) = true := decide_eq_true (by omega)
 clear c15
 by_cases c16 : x3_2 < (((rd_T41 l0 0).f1).length : Int)
 rotate_left
 ·rw [if_neg c16] at H
  have c16b0 : decide (x3_2 < (((rd_T41 l0 0).f1).length : Int)) = false := decide_eq_false c16
  clear c16
  have H' := Aside0.mk H
  clear H
  have p275 : 0 ≤ (0 : Int) := (by omega)
  have q275 : 0 < (l0.length : Int) := of_decide_eq_true zA
  obtain ⟨ad275, A275_2, c275_2, A275_3, c275_3, A275_4, c275_4, e275, hx275_0, hx275_1, hx275_2, hx275_3, hx275_4, hl275_2, hi275_2, hl275_3, hi275_3, hl275_4, hi275_4⟩ := at_T41 HR0.out 0 p275 q275
  obtain rfl : adp0 = ad275 := (by injection e275)
  have qi275 : (0 < l0.length) = True := eq_true (by omega)
  try simp only [z00, Nat.zero_mul, Addr.add_zero'] at hx275_0 hx275_1 hx275_2 hx275_3 hx275_4
  replace hx275_0 := zc HB hx275_0
  replace hx275_1 := zc HB hx275_1
  replace hx275_2 := zc HB hx275_2
  replace hx275_3 := zc HB hx275_3
  replace hx275_4 := zc HB hx275_4
  have HR275_2 := Aside0.mk hi275_2
  have HC275_2 := Aside0.mk hl275_2
  clear hi275_2 hl275_2
  have HR275_3 := Aside0.mk hi275_3
  have HC275_3 := Aside0.mk hl275_3
  clear hi275_3 hl275_3
  have HR275_4 := Aside0.mk hi275_4
  have HC275_4 := Aside0.mk hl275_4
  clear hi275_4 hl275_4
  replace p275 := eq_true p275
  replace q275 := eq_true q275
  go_wp2
  go_loopg [5] k2 (fun kq v5 w' => ∃ (x5_3 : Int), v5 = .int .i64 x5_3 ∧ Aside0 (spec_l03Ok.l2 kq l0 x5_3 = some r) ∧ Aside0 (kq ≤ k2) ∧ Aside0 (Below w.heap.size w w'))
  case atStart => exact ⟨(0), zi, H', ⟨Nat.le_refl _⟩, zl HB⟩
  clear H'
  try clear c1
  try clear c2
  try clear p2
  try clear q2
  try clear hx2
  try clear qi2
  try clear c3
  try clear p6
  try clear c16
  try clear c16b0
  try clear c26
  try clear c26b0
  try clear c27
  try clear p27
  try clear q27
  try clear hx27
  try clear qi27
  try clear c28
  try clear p28
  try clear q28
  try clear hx28
  try clear qi28
  try clear c29
  try clear c30
  try clear c31
  try clear c32
  try clear c32b0
  try clear hx275_0
  try clear hx275_1
  try clear hx275_2
  try clear hx275_3
  try clear hx275_4
  try clear hx283_0
  try clear hx283_1
  try clear hx283_2
  try clear hx283_3
  try clear hx283_4
  try clear hx284_0
  try clear hx284_1
  try clear hx284_2
  try clear hx285_0
  try clear hx285_1
  try clear hx285_2
  try clear hx285_3
  try clear hx285_4
  try clear hx286_0
  try clear hx286_1
  try clear hx286_2
  try clear p275
  try clear p283
  try clear p284
  try clear p285
  try clear p286
  try clear q275
  try clear q283
  try clear q284
  try clear q285
  try clear q286
  obtain ⟨x5_3, rfl, HA, HK3, HB⟩ := hrel
  cases gk with
  | zero => exact absurd HA.out (by simp [spec_l03Ok.l2])
  | succ k3 => ?_
  have H := HA.out
  clear HA
  simp only [spec_l03Ok.l2] at H
  by_cases c35 : 0 < (l0.length : Int)
  rotate_left
  ·rw [if_neg c35] at H
   exact absurd H (by simp)
  rw [if_pos c35] at H
  have c35b0 : decide (0 < (l0.length : Int)) = true := decide_eq_true c35
  have c35b1 : decide (0 < l0.length) = true := decide_eq_true (by omega)
  clear c35
  by_cases c36 : x5_3 < (((rd_T41 l0 0).f2).length : Int)
  rotate_left
  ·rw [if_neg c36] at H
   have c36b0 : decide (x5_3 < (((rd_T41 l0 0).f2).length : Int)) = false := decide_eq_false c36
   clear c36
   obtain rfl := Option.some.inj H
   have p287 : 0 ≤ (0 : Int) := (by omega)
   have q287 : 0 < (l0.length : Int) := of_decide_eq_true zA
   obtain ⟨ad287, A287_2, c287_2, A287_3, c287_3, A287_4, c287_4, e287, hx287_0, hx287_1, hx287_2, hx287_3, hx287_4, hl287_2, hi287_2, hl287_3, hi287_3, hl287_4, hi287_4⟩ := at_T41 HR0.out 0 p287 q287
   obtain rfl : adp0 = ad287 := (by injection e287)
   have qi287 : (0 < l0.length) = True := eq_true (by omega)
   try simp only [z00, Nat.zero_mul, Addr.add_zero'] at hx287_0 hx287_1 hx287_2 hx287_3 hx287_4
   replace hx287_0 := zc HB hx287_0
   replace hx287_1 := zc HB hx287_1
   replace hx287_2 := zc HB hx287_2
   replace hx287_3 := zc HB hx287_3
   replace hx287_4 := zc HB hx287_4
   have HR287_2 := Aside0.mk hi287_2
   have HC287_2 := Aside0.mk hl287_2
   clear hi287_2 hl287_2
   have HR287_3 := Aside0.mk hi287_3
   have HC287_3 := Aside0.mk hl287_3
   clear hi287_3 hl287_3
   have HR287_4 := Aside0.mk hi287_4
   have HC287_4 := Aside0.mk hl287_4
   clear hi287_4 hl287_4
   replace p287 := eq_true p287
   replace q287 := eq_true q287
   go_wp2
   go_ret
   exact ⟨zv, zbo⟩
  rw [if_pos c36] at H
  have c36b0 : decide (x5_3 < (((rd_T41 l0 0).f2).length : Int)) = true := decide_eq_true c36
  clear c36
  by_cases c37 : 0 ≤ x5_3
  rotate_left
  ·rw [if_neg c37] at H
   exact absurd H (by simp)
  rw [if_pos c37] at H
  have c37b0 : decide (0 ≤ x5_3) = true := decide_eq_true c37
  clear c37
  replace H := zob H
  obtain ⟨t291, A380, H⟩ := H
  replace H : (if t291 < 0 then (some false) else (spec_l03Ok.l2 k3 l0 (wrap64 (x5_3 + 1)))) = some r := H
  have A38 := Aside0.mk A380
  clear A380
  by_cases c39 : t291 < 0
  ·rw [if_pos c39] at H
   have c39b0 : decide (t291 < 0) = true := decide_eq_true c39
   clear c39
   obtain rfl := Option.some.inj H
   have p287 : 0 ≤ (0 : Int) := (by omega)
   have q287 : 0 < (l0.length : Int) := of_decide_eq_true zA
   obtain ⟨ad287, A287_2, c287_2, A287_3, c287_3, A287_4, c287_4, e287, hx287_0, hx287_1, hx287_2, hx287_3, hx287_4, hl287_2, hi287_2, hl287_3, hi287_3, hl287_4, hi287_4⟩ := at_T41 HR0.out 0 p287 q287
   obtain rfl : adp0 = ad287 := (by injection e287)
   have qi287 : (0 < l0.length) = True := eq_true (by omega)
   try simp only [z00, Nat.zero_mul, Addr.add_zero'] at hx287_0 hx287_1 hx287_2 hx287_3 hx287_4
   replace hx287_0 := zc HB hx287_0
   replace hx287_1 := zc HB hx287_1
   replace hx287_2 := zc HB hx287_2
   replace hx287_3 := zc HB hx287_3
   replace hx287_4 := zc HB hx287_4
   have HR287_2 := Aside0.mk hi287_2
   have HC287_2 := Aside0.mk hl287_2
   clear hi287_2 hl287_2
   have HR287_3 := Aside0.mk hi287_3
   have HC287_3 := Aside0.mk hl287_3
   clear hi287_3 hl287_3
   have HR287_4 := Aside0.mk hi287_4
   have HC287_4 := Aside0.mk hl287_4
   clear hi287_4 hl287_4
   replace p287 := eq_true p287
   replace q287 := eq_true q287
   try go_wp2
   have n0_ := Aside0.mk (below_drew1 HB.out)
   clear HB
   have HB := n0_
   clear n0_
   have p288 : 0 ≤ (0 : Int) := (by omega)
   have q288 : 0 < (l0.length : Int) := of_decide_eq_true zA
   obtain ⟨ad288, A288_2, c288_2, A288_3, c288_3, A288_4, c288_4, e288, hx288_0, hx288_1, hx288_2, hx288_3, hx288_4, hl288_2, hi288_2, hl288_3, hi288_3, hl288_4, hi288_4⟩ := at_T41 HR0.out 0 p288 q288
   have hw288_4 := hx288_4
   try simp only [z00, Nat.zero_mul, Addr.add_zero'] at hw288_4
   have hw288_3 := hx288_3
   try simp only [z00, Nat.zero_mul, Addr.add_zero'] at hw288_3
   have hw288_2 := hx288_2
   try simp only [z00, Nat.zero_mul, Addr.add_zero'] at hw288_2
   have hw288_1 := hx288_1
   try simp only [z00, Nat.zero_mul, Addr.add_zero'] at hw288_1
   have hw288_0 := hx288_0
   try simp only [z00, Nat.zero_mul, Addr.add_zero'] at hw288_0
   obtain rfl : adp0 = ad288 := (by injection e288)
   have qi288 : (0 < l0.length) = True := eq_true (by omega)
   try simp only [z00, Nat.zero_mul, Addr.add_zero'] at hx288_0 hx288_1 hx288_2 hx288_3 hx288_4
   replace hx288_0 := zc HB hx288_0
   replace hx288_1 := zc HB hx288_1
   replace hx288_2 := zc HB hx288_2
   replace hx288_3 := zc HB hx288_3
   replace hx288_4 := zc HB hx288_4
   have HR288_2 := Aside0.mk hi288_2
   have HC288_2 := Aside0.mk hl288_2
   clear hi288_2 hl288_2
   have HR288_3 := Aside0.mk hi288_3
   have HC288_3 := Aside0.mk hl288_3
   clear hi288_3 hl288_3
   have HR288_4 := Aside0.mk hi288_4
   have HC288_4 := Aside0.mk hl288_4
   clear hi288_4 hl288_4
   replace p288 := eq_true p288
   replace q288 := eq_true q288
   have p289 : 0 ≤ (0 : Int) := (by omega)
   have q289 : 0 < (l0.length : Int) := of_decide_eq_true zA
   obtain ⟨ad289, A289_2, c289_2, A289_3, c289_3, A289_4, c289_4, e289, hx289_0, hx289_1, hx289_2, hx289_3, hx289_4, hl289_2, hi289_2, hl289_3, hi289_3, hl289_4, hi289_4⟩ := at_T41 HR0.out 0 p289 q289
   have hw289_4 := hx289_4
   try simp only [z00, Nat.zero_mul, Addr.add_zero'] at hw289_4
   have hw289_3 := hx289_3
   try simp only [z00, Nat.zero_mul, Addr.add_zero'] at hw289_3
   have hw289_2 := hx289_2
   try simp only [z00, Nat.zero_mul, Addr.add_zero'] at hw289_2
   have hw289_1 := hx289_1
   try simp only [z00, Nat.zero_mul, Addr.add_zero'] at hw289_1
   have hw289_0 := hx289_0
   try simp only [z00, Nat.zero_mul, Addr.add_zero'] at hw289_0
   obtain rfl : adp0 = ad289 := (by injection e289)
   have qi289 : (0 < l0.length) = True := eq_true (by omega)
   try simp only [z00, Nat.zero_mul, Addr.add_zero'] at hx289_0 hx289_1 hx289_2 hx289_3 hx289_4
   replace hx289_0 := zc HB hx289_0
   replace hx289_1 := zc HB hx289_1
   replace hx289_2 := zc HB hx289_2
   replace hx289_3 := zc HB hx289_3
   replace hx289_4 := zc HB hx289_4
   have HR289_2 := Aside0.mk hi289_2
   have HC289_2 := Aside0.mk hl289_2
   clear hi289_2 hl289_2
   have HR289_3 := Aside0.mk hi289_3
   have HC289_3 := Aside0.mk hl289_3
   clear hi289_3 hl289_3
   have HR289_4 := Aside0.mk hi289_4
   have HC289_4 := Aside0.mk hl289_4
   clear hi289_4 hl289_4
   replace p289 := eq_true p289
   replace q289 := eq_true q289
   have ea_ := Option.some.inj (hx288_2.symm.trans hx289_2)
   injection ea_ with ea_ en_ ec_
   subst ea_
   subst ec_
   clear en_
   have ea_ := Option.some.inj (hx288_3.symm.trans hx289_3)
   injection ea_ with ea_ en_ ec_
   subst ea_
   subst ec_
   clear en_
   have ea_ := Option.some.inj (hx288_4.symm.trans hx289_4)
   injection ea_ with ea_ en_ ec_
   subst ea_
   subst ec_
   clear en_
   have p290 : 0 ≤ (x5_3 : Int) := of_decide_eq_true zA
   have q290 : x5_3 < (((rd_T41 l0 0).f2).length : Int) := of_decide_eq_true zA
   obtain ⟨ad290, e290, hx290_0, hx290_1⟩ := at_T74 HR289_4.out x5_3 p290 q290
   have hw290_1 := hx290_1
   have hw290_0 := hx290_0
   cases e290
   replace hx290_0 := zc HB hx290_0
   replace hx290_1 := zc HB hx290_1
   replace p290 := eq_true p290
   replace q290 := eq_true q290
   refine start_ (n := 12) (S := fun w' => w'.cell? adp0 = some (.int .i8 ((rd_T41 l0 0).f0.f0)) ∧ w'.cell? ⟨adp0.block, adp0.off + 1, none⟩ = some (.int .i8 ((rd_T41 l0 0).f0.f1)) ∧ w'.cell? ⟨adp0.block, adp0.off + 2, none⟩ = some (.slice A288_2 ((rd_T41 l0 0).f0.f2).length c288_2) ∧ w'.cell? ⟨adp0.block, adp0.off + 3, none⟩ = some (.slice A288_3 ((rd_T41 l0 0).f1).length c288_3) ∧ w'.cell? ⟨adp0.block, adp0.off + 4, none⟩ = some (.slice (some ad290) ((rd_T41 l0 0).f2).length c288_4) ∧ w'.cell? adp0 = some (.int .i8 ((rd_T41 l0 0).f0.f0)) ∧ w'.cell? ⟨adp0.block, adp0.off + 1, none⟩ = some (.int .i8 ((rd_T41 l0 0).f0.f1)) ∧ w'.cell? ⟨adp0.block, adp0.off + 2, none⟩ = some (.slice A288_2 ((rd_T41 l0 0).f0.f2).length c288_2) ∧ w'.cell? ⟨adp0.block, adp0.off + 3, none⟩ = some (.slice A288_3 ((rd_T41 l0 0).f1).length c288_3) ∧ w'.cell? ⟨adp0.block, adp0.off + 4, none⟩ = some (.slice (some ad290) ((rd_T41 l0 0).f2).length c288_4) ∧ w'.cell? (ad290.add ((x5_3).toNat * 2)) = some (.int .i8 ((rd_T74 ((rd_T41 l0 0).f2) x5_3).f0)) ∧ w'.cell? ⟨(ad290.add ((x5_3).toNat * 2)).block, (ad290.add ((x5_3).toNat * 2)).off + 1, none⟩ = some (.int .i8 ((rd_T74 ((rd_T41 l0 0).f2) x5_3).f1))) (ds := []) (zq 12 0) (by kernel_rfl) rfl rfl ⟨(zc HB hw288_0), (zc HB hw288_1), (zc HB hw288_2), (zc HB hw288_3), (zc HB hw288_4), (zc HB hw289_0), (zc HB hw289_1), (zc HB hw289_2), (zc HB hw289_3), (zc HB hw289_4), (zc HB hw290_0), (zc HB hw290_1)⟩ (fun hHeld => ?_); refine with_tabW spec_l03Ok.tab16 spec_l03Ok.bits16 (fun HT_ HW_ => ?_)
   generalize wr.drew = w40 at HB HR288_2 HR288_3 HR288_4 HR289_2 HR289_3 HR289_4 hx288_0 hx288_1 hx288_2 hx288_3 hx288_4 hx289_0 hx289_1 hx289_2 hx289_3 hx289_4 hx290_0 hx290_1 hHeld ⊢
   refine zpu 0 (some 102) (zq 12 1) HT_ ?_
   refine zpu 1 (some 103) (zq 12 3) HT_ ?_
   refine zpu 2 (some 104) (zq 12 7) HT_ ?_
   refine zpu 3 (some 105) (zq 12 15) HT_ ?_
   refine zpu 4 (some 106) (zq 12 31) HT_ ?_
   refine zpu 5 (some 107) (zq 12 63) HT_ ?_
   refine zpu 7 (some 109) (zq 12 191) HT_ ?_
   refine ztk 6 (some 108) (zq 12 255) HT_ HW_ rfl hHeld (Or.inl ⟨by rfl, by (rintro w' ⟨s0, s1, s2, s3, s4, s5, s6, s7, s8, s9, s10, s11⟩; go_simp; with_reducible rfl)⟩) ?_
   refine zpu 8 (some 110) (zq 12 511) HT_ ?_
   refine ztk 9 (some 111) (zq 12 1023) HT_ HW_ rfl hHeld (Or.inl ⟨by rfl, by (rintro w' ⟨s0, s1, s2, s3, s4, s5, s6, s7, s8, s9, s10, s11⟩; go_simp; with_reducible rfl)⟩) ?_
   refine one_ (i := 10) (N := some 112) (zq 12 2047) rfl rfl (one_of HT_.out (by kernel_rfl)) (by decide) (fun K hK => ?_)
   refine goes_ Try.func111 (by kernel_rfl) rfl #[.pointer (some adp0), .agg #[.int .i8 ((rd_T74 ((rd_T41 l0 0).f2) x5_3).f0), .int .i8 ((rd_T74 ((rd_T41 l0 0).f2) x5_3).f1)]] (by rfl) rfl rfl zm ?_
   with_reducible refine (spec_l01Find.calls k3 _ [(⟨(rd_T41 l0 0).f0.f0, (rd_T41 l0 0).f0.f1, (rd_T41 l0 0).f0.f2⟩ : S37)] ((rd_T74 ((rd_T41 l0 0).f2) x5_3).f0) ((rd_T74 ((rd_T41 l0 0).f2) x5_3).f1) t291 _ ?side1 A38.out).mono ?_
   (case side1 => refine ro_first (d := k41) (d1 := k37) (f := fun x : S41 => (x.f0, x.f1, x.f2)) (l := l0) rfl z41 ?_ (by first | (have h_ := of_eq_true q288; omega) | (have h_ : 0 < (l0.length : Int) := of_decide_eq_true (by assumption); omega) | omega) rfl; exact zcc HB HR0.out)
   rintro e w41 ⟨rfl, hb⟩
   refine ⟨_, rfl, ?_⟩
   have n0_ := zb HB hb
   clear HB
   have HB := n0_
   clear n0_
   (try clear hb)
   (try clear hb2)
   (try clear hk)
   (try clear hi)
   refine hK.out _ _ ⟨(zc HB hw288_0), (zc HB hw288_1), (zc HB hw288_2), (zc HB hw288_3), (zc HB hw288_4), (zc HB hw289_0), (zc HB hw289_1), (zc HB hw289_2), (zc HB hw289_3), (zc HB hw289_4), (zc HB hw290_0), (zc HB hw290_1)⟩ (fun hHeld => ?_)
   clear hK K
   refine norm_ (a' := ?_) ?_ ?_
   rotate_left
   ·show Act.put _ (some 112) _ = _
    exact zap
   refine zpu 11 (some 113) (zq 12 4095) HT_ ?_
   refine done_ (done_of HT_.out (by kernel_rfl)) ?_
   try go_wp2
   go_ret
   exact ⟨zv, zbo⟩
  rw [if_neg c39] at H
  have c39b0 : decide (t291 < 0) = false := decide_eq_false c39
  clear c39
  have H' := Aside0.mk H
  clear H
  have p287 : 0 ≤ (0 : Int) := (by omega)
  have q287 : 0 < (l0.length : Int) := of_decide_eq_true zA
  obtain ⟨ad287, A287_2, c287_2, A287_3, c287_3, A287_4, c287_4, e287, hx287_0, hx287_1, hx287_2, hx287_3, hx287_4, hl287_2, hi287_2, hl287_3, hi287_3, hl287_4, hi287_4⟩ := at_T41 HR0.out 0 p287 q287
  obtain rfl : adp0 = ad287 := (by injection e287)
  have qi287 : (0 < l0.length) = True := eq_true (by omega)
  try simp only [z00, Nat.zero_mul, Addr.add_zero'] at hx287_0 hx287_1 hx287_2 hx287_3 hx287_4
  replace hx287_0 := zc HB hx287_0
  replace hx287_1 := zc HB hx287_1
  replace hx287_2 := zc HB hx287_2
  replace hx287_3 := zc HB hx287_3
  replace hx287_4 := zc HB hx287_4
  have HR287_2 := Aside0.mk hi287_2
  have HC287_2 := Aside0.mk hl287_2
  clear hi287_2 hl287_2
  have HR287_3 := Aside0.mk hi287_3
  have HC287_3 := Aside0.mk hl287_3
  clear hi287_3 hl287_3
  have HR287_4 := Aside0.mk hi287_4
  have HC287_4 := Aside0.mk hl287_4
  clear hi287_4 hl287_4
  replace p287 := eq_true p287
  replace q287 := eq_true q287
  try go_wp2
  have n0_ := Aside0.mk (below_drew1 HB.out)
  clear HB
  have HB := n0_
  clear n0_
  have p288 : 0 ≤ (0 : Int) := (by omega)
  have q288 : 0 < (l0.length : Int) := of_decide_eq_true zA
  obtain ⟨ad288, A288_2, c288_2, A288_3, c288_3, A288_4, c288_4, e288, hx288_0, hx288_1, hx288_2, hx288_3, hx288_4, hl288_2, hi288_2, hl288_3, hi288_3, hl288_4, hi288_4⟩ := at_T41 HR0.out 0 p288 q288
  have hw288_4 := hx288_4
  try simp only [z00, Nat.zero_mul, Addr.add_zero'] at hw288_4
  have hw288_3 := hx288_3
  try simp only [z00, Nat.zero_mul, Addr.add_zero'] at hw288_3
  have hw288_2 := hx288_2
  try simp only [z00, Nat.zero_mul, Addr.add_zero'] at hw288_2
  have hw288_1 := hx288_1
  try simp only [z00, Nat.zero_mul, Addr.add_zero'] at hw288_1
  have hw288_0 := hx288_0
  try simp only [z00, Nat.zero_mul, Addr.add_zero'] at hw288_0
  obtain rfl : adp0 = ad288 := (by injection e288)
  have qi288 : (0 < l0.length) = True := eq_true (by omega)
  try simp only [z00, Nat.zero_mul, Addr.add_zero'] at hx288_0 hx288_1 hx288_2 hx288_3 hx288_4
  replace hx288_0 := zc HB hx288_0
  replace hx288_1 := zc HB hx288_1
  replace hx288_2 := zc HB hx288_2
  replace hx288_3 := zc HB hx288_3
  replace hx288_4 := zc HB hx288_4
  have HR288_2 := Aside0.mk hi288_2
  have HC288_2 := Aside0.mk hl288_2
  clear hi288_2 hl288_2
  have HR288_3 := Aside0.mk hi288_3
  have HC288_3 := Aside0.mk hl288_3
  clear hi288_3 hl288_3
  have HR288_4 := Aside0.mk hi288_4
  have HC288_4 := Aside0.mk hl288_4
  clear hi288_4 hl288_4
  replace p288 := eq_true p288
  replace q288 := eq_true q288
  have p289 : 0 ≤ (0 : Int) := (by omega)
  have q289 : 0 < (l0.length : Int) := of_decide_eq_true zA
  obtain ⟨ad289, A289_2, c289_2, A289_3, c289_3, A289_4, c289_4, e289, hx289_0, hx289_1, hx289_2, hx289_3, hx289_4, hl289_2, hi289_2, hl289_3, hi289_3, hl289_4, hi289_4⟩ := at_T41 HR0.out 0 p289 q289
  have hw289_4 := hx289_4
  try simp only [z00, Nat.zero_mul, Addr.add_zero'] at hw289_4
  have hw289_3 := hx289_3
  try simp only [z00, Nat.zero_mul, Addr.add_zero'] at hw289_3
  have hw289_2 := hx289_2
  try simp only [z00, Nat.zero_mul, Addr.add_zero'] at hw289_2
  have hw289_1 := hx289_1
  try simp only [z00, Nat.zero_mul, Addr.add_zero'] at hw289_1
  have hw289_0 := hx289_0
  try simp only [z00, Nat.zero_mul, Addr.add_zero'] at hw289_0
  obtain rfl : adp0 = ad289 := (by injection e289)
  have qi289 : (0 < l0.length) = True := eq_true (by omega)
  try simp only [z00, Nat.zero_mul, Addr.add_zero'] at hx289_0 hx289_1 hx289_2 hx289_3 hx289_4
  replace hx289_0 := zc HB hx289_0
  replace hx289_1 := zc HB hx289_1
  replace hx289_2 := zc HB hx289_2
  replace hx289_3 := zc HB hx289_3
  replace hx289_4 := zc HB hx289_4
  have HR289_2 := Aside0.mk hi289_2
  have HC289_2 := Aside0.mk hl289_2
  clear hi289_2 hl289_2
  have HR289_3 := Aside0.mk hi289_3
  have HC289_3 := Aside0.mk hl289_3
  clear hi289_3 hl289_3
  have HR289_4 := Aside0.mk hi289_4
  have HC289_4 := Aside0.mk hl289_4
  clear hi289_4 hl289_4
  replace p289 := eq_true p289
  replace q289 := eq_true q289
  have ea_ := Option.some.inj (hx288_2.symm.trans hx289_2)
  injection ea_ with ea_ en_ ec_
  subst ea_
  subst ec_
  clear en_
  have ea_ := Option.some.inj (hx288_3.symm.trans hx289_3)
  injection ea_ with ea_ en_ ec_
  subst ea_
  subst ec_
  clear en_
  have ea_ := Option.some.inj (hx288_4.symm.trans hx289_4)
  injection ea_ with ea_ en_ ec_
  subst ea_
  subst ec_
  clear en_
  have p290 : 0 ≤ (x5_3 : Int) := of_decide_eq_true zA
  have q290 : x5_3 < (((rd_T41 l0 0).f2).length : Int) := of_decide_eq_true zA
  obtain ⟨ad290, e290, hx290_0, hx290_1⟩ := at_T74 HR289_4.out x5_3 p290 q290
  have hw290_1 := hx290_1
  have hw290_0 := hx290_0
  cases e290
  replace hx290_0 := zc HB hx290_0
  replace hx290_1 := zc HB hx290_1
  replace p290 := eq_true p290
  replace q290 := eq_true q290
  refine start_ (n := 12) (S := fun w' => w'.cell? adp0 = some (.int .i8 ((rd_T41 l0 0).f0.f0)) ∧ w'.cell? ⟨adp0.block, adp0.off + 1, none⟩ = some (.int .i8 ((rd_T41 l0 0).f0.f1)) ∧ w'.cell? ⟨adp0.block, adp0.off + 2, none⟩ = some (.slice A288_2 ((rd_T41 l0 0).f0.f2).length c288_2) ∧ w'.cell? ⟨adp0.block, adp0.off + 3, none⟩ = some (.slice A288_3 ((rd_T41 l0 0).f1).length c288_3) ∧ w'.cell? ⟨adp0.block, adp0.off + 4, none⟩ = some (.slice (some ad290) ((rd_T41 l0 0).f2).length c288_4) ∧ w'.cell? adp0 = some (.int .i8 ((rd_T41 l0 0).f0.f0)) ∧ w'.cell? ⟨adp0.block, adp0.off + 1, none⟩ = some (.int .i8 ((rd_T41 l0 0).f0.f1)) ∧ w'.cell? ⟨adp0.block, adp0.off + 2, none⟩ = some (.slice A288_2 ((rd_T41 l0 0).f0.f2).length c288_2) ∧ w'.cell? ⟨adp0.block, adp0.off + 3, none⟩ = some (.slice A288_3 ((rd_T41 l0 0).f1).length c288_3) ∧ w'.cell? ⟨adp0.block, adp0.off + 4, none⟩ = some (.slice (some ad290) ((rd_T41 l0 0).f2).length c288_4) ∧ w'.cell? (ad290.add ((x5_3).toNat * 2)) = some (.int .i8 ((rd_T74 ((rd_T41 l0 0).f2) x5_3).f0)) ∧ w'.cell? ⟨(ad290.add ((x5_3).toNat * 2)).block, (ad290.add ((x5_3).toNat * 2)).off + 1, none⟩ = some (.int .i8 ((rd_T74 ((rd_T41 l0 0).f2) x5_3).f1))) (ds := []) (zq 12 0) (by kernel_rfl) rfl rfl ⟨(zc HB hw288_0), (zc HB hw288_1), (zc HB hw288_2), (zc HB hw288_3), (zc HB hw288_4), (zc HB hw289_0), (zc HB hw289_1), (zc HB hw289_2), (zc HB hw289_3), (zc HB hw289_4), (zc HB hw290_0), (zc HB hw290_1)⟩ (fun hHeld => ?_); refine with_tabW spec_l03Ok.tab16 spec_l03Ok.bits16 (fun HT_ HW_ => ?_)
  generalize wr.drew = w42 at HB HR288_2 HR288_3 HR288_4 HR289_2 HR289_3 HR289_4 hx288_0 hx288_1 hx288_2 hx288_3 hx288_4 hx289_0 hx289_1 hx289_2 hx289_3 hx289_4 hx290_0 hx290_1 hHeld ⊢
  refine zpu 0 (some 102) (zq 12 1) HT_ ?_
  refine zpu 1 (some 103) (zq 12 3) HT_ ?_
  refine zpu 2 (some 104) (zq 12 7) HT_ ?_
  refine zpu 3 (some 105) (zq 12 15) HT_ ?_
  refine zpu 4 (some 106) (zq 12 31) HT_ ?_
  refine zpu 5 (some 107) (zq 12 63) HT_ ?_
  refine zpu 7 (some 109) (zq 12 191) HT_ ?_
  refine ztk 6 (some 108) (zq 12 255) HT_ HW_ rfl hHeld (Or.inl ⟨by rfl, by (rintro w' ⟨s0, s1, s2, s3, s4, s5, s6, s7, s8, s9, s10, s11⟩; go_simp; with_reducible rfl)⟩) ?_
  refine zpu 8 (some 110) (zq 12 511) HT_ ?_
  refine ztk 9 (some 111) (zq 12 1023) HT_ HW_ rfl hHeld (Or.inl ⟨by rfl, by (rintro w' ⟨s0, s1, s2, s3, s4, s5, s6, s7, s8, s9, s10, s11⟩; go_simp; with_reducible rfl)⟩) ?_
  refine one_ (i := 10) (N := some 112) (zq 12 2047) rfl rfl (one_of HT_.out (by kernel_rfl)) (by decide) (fun K hK => ?_)
  refine goes_ Try.func111 (by kernel_rfl) rfl #[.pointer (some adp0), .agg #[.int .i8 ((rd_T74 ((rd_T41 l0 0).f2) x5_3).f0), .int .i8 ((rd_T74 ((rd_T41 l0 0).f2) x5_3).f1)]] (by rfl) rfl rfl zm ?_
  with_reducible refine (spec_l01Find.calls k3 _ [(⟨(rd_T41 l0 0).f0.f0, (rd_T41 l0 0).f0.f1, (rd_T41 l0 0).f0.f2⟩ : S37)] ((rd_T74 ((rd_T41 l0 0).f2) x5_3).f0) ((rd_T74 ((rd_T41 l0 0).f2) x5_3).f1) t291 _ ?side1 A38.out).mono ?_
  (case side1 => refine ro_first (d := k41) (d1 := k37) (f := fun x : S41 => (x.f0, x.f1, x.f2)) (l := l0) rfl z41 ?_ (by first | (have h_ := of_eq_true q288; omega) | (have h_ : 0 < (l0.length : Int) := of_decide_eq_true (by assumption); omega) | omega) rfl; exact zcc HB HR0.out)
  rintro e w43 ⟨rfl, hb⟩
  refine ⟨_, rfl, ?_⟩
  have n0_ := zb HB hb
  clear HB
  have HB := n0_
  clear n0_
  (try clear hb)
  (try clear hb2)
  (try clear hk)
  (try clear hi)
  refine hK.out _ _ ⟨(zc HB hw288_0), (zc HB hw288_1), (zc HB hw288_2), (zc HB hw288_3), (zc HB hw288_4), (zc HB hw289_0), (zc HB hw289_1), (zc HB hw289_2), (zc HB hw289_3), (zc HB hw289_4), (zc HB hw290_0), (zc HB hw290_1)⟩ (fun hHeld => ?_)
  clear hK K
  refine norm_ (a' := ?_) ?_ ?_
  rotate_left
  ·show Act.put _ (some 112) _ = _
   exact zap
  refine zpu 11 (some 113) (zq 12 4095) HT_ ?_
  refine done_ (done_of HT_.out (by kernel_rfl)) ?_
  try go_wp2
  go_roundg k3
  case measure => have := HJ1.out; have := HK2.out; have := HK3.out; omega
  case rel => exact ⟨(wrap64 (x5_3 + 1)), zi, H', ⟨by have := HJ1.out; have := HK2.out; have := HK3.out; omega⟩, zl HB⟩
 rw [if_pos c16] at H
 have c16b0 : decide (x3_2 < (((rd_T41 l0 0).f1).length : Int)) = true := decide_eq_true c16
 clear c16
 have HC17 := Aside0.mk H
 clear H
 have p275 : 0 ≤ (0 : Int) := (by omega)
 have q275 : 0 < (l0.length : Int) := of_decide_eq_true zA
 obtain ⟨ad275, A275_2, c275_2, A275_3, c275_3, A275_4, c275_4, e275, hx275_0, hx275_1, hx275_2, hx275_3, hx275_4, hl275_2, hi275_2, hl275_3, hi275_3, hl275_4, hi275_4⟩ := at_T41 HR0.out 0 p275 q275
 obtain rfl : adp0 = ad275 := (by injection e275)
 have qi275 : (0 < l0.length) = True := eq_true (by omega)
 try simp only [z00, Nat.zero_mul, Addr.add_zero'] at hx275_0 hx275_1 hx275_2 hx275_3 hx275_4
 replace hx275_0 := zc HB hx275_0
 replace hx275_1 := zc HB hx275_1
 replace hx275_2 := zc HB hx275_2
 replace hx275_3 := zc HB hx275_3
 replace hx275_4 := zc HB hx275_4
 have HR275_2 := Aside0.mk hi275_2
 have HC275_2 := Aside0.mk hl275_2
 clear hi275_2 hl275_2
 have HR275_3 := Aside0.mk hi275_3
 have HC275_3 := Aside0.mk hl275_3
 clear hi275_3 hl275_3
 have HR275_4 := Aside0.mk hi275_4
 have HC275_4 := Aside0.mk hl275_4
 clear hi275_4 hl275_4
 replace p275 := eq_true p275
 replace q275 := eq_true q275
 go_upto_region 6 with (fail)
 go_cut [72] (fun v72 wc => ∃ (kq : Nat) (x72_16 : Bool), v72 = .bool x72_16 ∧ Aside0 (spec_l03Ok.j2 kq l0 x3_2 x72_16 = some r) ∧ Aside0 (kq ≤ k2) ∧ Aside0 (Below w.heap.size w wc))
 case first =>
  have H := HC17.out
  clear HC17
  by_cases c18 : 0 ≤ x3_2
  rotate_left
  ·rw [if_neg c18] at H
   exact absurd H (by simp)
  rw [if_pos c18] at H
  have c18b0 : decide (0 ≤ x3_2) = true := decide_eq_true c18
  clear c18
  (first | rw [c18b0] | (simp only [i64_w, i32_w]; rw [c18b0]) | (have h_ := c18b0; simp only [bne] at h_; rw [h_]) | skip)
  replace H := zob H
  obtain ⟨t278, A190, H⟩ := H
  replace H : (if t278 = true then ((spec_l01Find.f k2 [(⟨(rd_T41 l0 0).f0.f0, (rd_T41 l0 0).f0.f1, (rd_T41 l0 0).f0.f2⟩ : S37)] ((rd_T116 ((rd_T41 l0 0).f1) x3_2).f0.f0) ((rd_T116 ((rd_T41 l0 0).f1) x3_2).f0.f1)).bind fun t282 => (spec_l03Ok.j2 k2 l0 x3_2 (decide (t282 < 0)))) else (spec_l03Ok.j2 k2 l0 x3_2 true)) = some r := H
  have A19 := Aside0.mk A190
  clear A190
  by_cases c20 : t278 = true
  rotate_left
  ·replace c20 := Bool.eq_false_iff.mpr c20
   subst c20
   have H1 : (spec_l03Ok.j2 k2 l0 x3_2 true) = some r := by rw [if_neg (show ¬ (false = true) by decide)] at H; exact H
   clear H
   have H := H1
   clear H1
   have H' := Aside0.mk H
   clear H
   try go_wp2
   have n0_ := Aside0.mk (below_drew1 HB.out)
   clear HB
   have HB := n0_
   clear n0_
   have p276 : 0 ≤ (0 : Int) := (by omega)
   have q276 : 0 < (l0.length : Int) := of_decide_eq_true zA
   obtain ⟨ad276, A276_2, c276_2, A276_3, c276_3, A276_4, c276_4, e276, hx276_0, hx276_1, hx276_2, hx276_3, hx276_4, hl276_2, hi276_2, hl276_3, hi276_3, hl276_4, hi276_4⟩ := at_T41 HR0.out 0 p276 q276
   have hw276_4 := hx276_4
   try simp only [z00, Nat.zero_mul, Addr.add_zero'] at hw276_4
   have hw276_3 := hx276_3
   try simp only [z00, Nat.zero_mul, Addr.add_zero'] at hw276_3
   have hw276_2 := hx276_2
   try simp only [z00, Nat.zero_mul, Addr.add_zero'] at hw276_2
   have hw276_1 := hx276_1
   try simp only [z00, Nat.zero_mul, Addr.add_zero'] at hw276_1
   have hw276_0 := hx276_0
   try simp only [z00, Nat.zero_mul, Addr.add_zero'] at hw276_0
   obtain rfl : adp0 = ad276 := (by injection e276)
   have qi276 : (0 < l0.length) = True := eq_true (by omega)
   try simp only [z00, Nat.zero_mul, Addr.add_zero'] at hx276_0 hx276_1 hx276_2 hx276_3 hx276_4
   replace hx276_0 := zc HB hx276_0
   replace hx276_1 := zc HB hx276_1
   replace hx276_2 := zc HB hx276_2
   replace hx276_3 := zc HB hx276_3
   replace hx276_4 := zc HB hx276_4
   have HR276_2 := Aside0.mk hi276_2
   have HC276_2 := Aside0.mk hl276_2
   clear hi276_2 hl276_2
   have HR276_3 := Aside0.mk hi276_3
   have HC276_3 := Aside0.mk hl276_3
   clear hi276_3 hl276_3
   have HR276_4 := Aside0.mk hi276_4
   have HC276_4 := Aside0.mk hl276_4
   clear hi276_4 hl276_4
   replace p276 := eq_true p276
   replace q276 := eq_true q276
   have p277 : 0 ≤ (x3_2 : Int) := of_decide_eq_true zA
   have q277 : x3_2 < (((rd_T41 l0 0).f1).length : Int) := of_decide_eq_true zA
   obtain ⟨ad277, e277, hx277_0, hx277_1, hx277_2⟩ := at_T116 HR276_3.out x3_2 p277 q277
   have hw277_2 := hx277_2
   have hw277_1 := hx277_1
   have hw277_0 := hx277_0
   cases e277
   replace hx277_0 := zc HB hx277_0
   replace hx277_1 := zc HB hx277_1
   replace hx277_2 := zc HB hx277_2
   replace p277 := eq_true p277
   replace q277 := eq_true q277
   refine start_ (n := 26) (S := fun w' => w'.cell? adp0 = some (.int .i8 ((rd_T41 l0 0).f0.f0)) ∧ w'.cell? ⟨adp0.block, adp0.off + 1, none⟩ = some (.int .i8 ((rd_T41 l0 0).f0.f1)) ∧ w'.cell? ⟨adp0.block, adp0.off + 2, none⟩ = some (.slice A276_2 ((rd_T41 l0 0).f0.f2).length c276_2) ∧ w'.cell? ⟨adp0.block, adp0.off + 3, none⟩ = some (.slice (some ad277) ((rd_T41 l0 0).f1).length c276_3) ∧ w'.cell? ⟨adp0.block, adp0.off + 4, none⟩ = some (.slice A276_4 ((rd_T41 l0 0).f2).length c276_4) ∧ w'.cell? (ad277.add ((x3_2).toNat * 3)) = some (.int .i8 ((rd_T116 ((rd_T41 l0 0).f1) x3_2).f0.f0)) ∧ w'.cell? ⟨(ad277.add ((x3_2).toNat * 3)).block, (ad277.add ((x3_2).toNat * 3)).off + 1, none⟩ = some (.int .i8 ((rd_T116 ((rd_T41 l0 0).f1) x3_2).f0.f1)) ∧ w'.cell? ⟨(ad277.add ((x3_2).toNat * 3)).block, (ad277.add ((x3_2).toNat * 3)).off + 2, none⟩ = some (.int .i8 ((rd_T116 ((rd_T41 l0 0).f1) x3_2).f1))) (ds := []) (zq 26 0) (by kernel_rfl) rfl rfl ⟨(zc HB hw276_0), (zc HB hw276_1), (zc HB hw276_2), (zc HB hw276_3), (zc HB hw276_4), (zc HB hw277_0), (zc HB hw277_1), (zc HB hw277_2)⟩ (fun hHeld => ?_); refine with_tabW spec_l03Ok.tab6 spec_l03Ok.bits6 (fun HT_ HW_ => ?_)
   generalize wr.drew = w24 at HB HR276_2 HR276_3 HR276_4 hx276_0 hx276_1 hx276_2 hx276_3 hx276_4 hx277_0 hx277_1 hx277_2 hHeld ⊢
   refine zpu 0 (some 47) (zq 26 1) HT_ ?_
   refine zpu 1 (some 48) (zq 26 3) HT_ ?_
   refine zpu 2 (some 49) (zq 26 7) HT_ ?_
   refine zpu 4 (some 51) (zq 26 23) HT_ ?_
   refine ztk 3 (some 50) (zq 26 31) HT_ HW_ rfl hHeld (Or.inl ⟨by rfl, by (rintro w' ⟨s0, s1, s2, s3, s4, s5, s6, s7⟩; go_simp; with_reducible rfl)⟩) ?_
   refine zpu 5 (some 52) (zq 26 63) HT_ ?_
   refine zpu 6 (some 53) (zq 26 127) HT_ ?_
   refine ztk 7 (some 54) (zq 26 255) HT_ HW_ rfl hHeld (Or.inl ⟨by rfl, by (rintro w' ⟨s0, s1, s2, s3, s4, s5, s6, s7⟩; go_simp; with_reducible rfl)⟩) ?_
   refine zpu 8 (some 55) (zq 26 511) HT_ ?_
   refine one_ (i := 9) (N := some 56) (zq 26 1023) rfl rfl (one_of HT_.out (by kernel_rfl)) (by decide) (fun K hK => ?_)
   refine goes_ Try.func161 (by kernel_rfl) rfl #[.int .i64 (wrap64 ((rd_T116 ((rd_T41 l0 0).f1) x3_2).f1))] (by rfl) rfl rfl zm ?_
   with_reducible refine (spec_l01Side.calls (wrap64 ((rd_T116 ((rd_T41 l0 0).f1) x3_2).f1)) false _ A19.out).mono ?_
   rintro e w' ⟨rfl, ⟨nd, rfl⟩⟩
   refine ⟨_, rfl, ?_⟩
   refine hK.out _ _ ⟨(zc HB hw276_0), (zc HB hw276_1), (zc HB hw276_2), (zc HB hw276_3), (zc HB hw276_4), (zc HB hw277_0), (zc HB hw277_1), (zc HB hw277_2)⟩ (fun hHeld => ?_)
   clear hK K
   refine norm_ (a' := ?_) ?_ ?_
   rotate_left
   ·show Act.put _ (some 56) _ = _
    exact zap
   refine zpu 10 (some 57) (zq 26 2047) HT_ ?_
   refine zpu 11 (some 58) (zq 26 4095) HT_ ?_
   refine zpn 12 (some 59) (zq 26 8191) HT_ ?_
   refine zpn 13 (some 60) (zq 26 16383) HT_ ?_
   refine zpn 14 (some 61) (zq 26 32767) HT_ ?_
   refine zpn 15 (some 62) (zq 26 65535) HT_ ?_
   refine zpn 16 (some 63) (zq 26 131071) HT_ ?_
   refine zpn 17 (some 64) (zq 26 262143) HT_ ?_
   refine zpn 18 (some 65) (zq 26 524287) HT_ ?_
   refine zpn 19 (some 66) (zq 26 1048575) HT_ ?_
   refine zpn 20 (some 67) (zq 26 2097151) HT_ ?_
   refine zpn 21 (some 68) (zq 26 4194303) HT_ ?_
   refine zpn 22 (some 69) (zq 26 8388607) HT_ ?_
   refine zpn 23 (some 70) (zq 26 16777215) HT_ ?_
   refine zpn 24 (some 71) (zq 26 33554431) HT_ ?_
   refine zpu 25 (some 72) (zq 26 67108863) HT_ ?_
   refine done_ (done_of HT_.out (by kernel_rfl)) ?_
   try go_wp2
   go_meet
   case rel => exact ⟨_, (true), zi, H', ⟨by have := HJ1.out; have := HK2.out; first | omega | exact Nat.le_refl _⟩, zl HB⟩
  subst c20
  have H1 : ((spec_l01Find.f k2 [(⟨(rd_T41 l0 0).f0.f0, (rd_T41 l0 0).f0.f1, (rd_T41 l0 0).f0.f2⟩ : S37)] ((rd_T116 ((rd_T41 l0 0).f1) x3_2).f0.f0) ((rd_T116 ((rd_T41 l0 0).f1) x3_2).f0.f1)).bind fun t282 => (spec_l03Ok.j2 k2 l0 x3_2 (decide (t282 < 0)))) = some r := by rw [if_pos rfl] at H; exact H
  clear H
  have H := H1
  clear H1
  replace H := zob H
  obtain ⟨t282, A210, H⟩ := H
  replace H : (spec_l03Ok.j2 k2 l0 x3_2 (decide (t282 < 0))) = some r := H
  have A21 := Aside0.mk A210
  clear A210
  have H' := Aside0.mk H
  clear H
  try go_wp2
  have n0_ := Aside0.mk (below_drew1 HB.out)
  clear HB
  have HB := n0_
  clear n0_
  have p276 : 0 ≤ (0 : Int) := (by omega)
  have q276 : 0 < (l0.length : Int) := of_decide_eq_true zA
  obtain ⟨ad276, A276_2, c276_2, A276_3, c276_3, A276_4, c276_4, e276, hx276_0, hx276_1, hx276_2, hx276_3, hx276_4, hl276_2, hi276_2, hl276_3, hi276_3, hl276_4, hi276_4⟩ := at_T41 HR0.out 0 p276 q276
  have hw276_4 := hx276_4
  try simp only [z00, Nat.zero_mul, Addr.add_zero'] at hw276_4
  have hw276_3 := hx276_3
  try simp only [z00, Nat.zero_mul, Addr.add_zero'] at hw276_3
  have hw276_2 := hx276_2
  try simp only [z00, Nat.zero_mul, Addr.add_zero'] at hw276_2
  have hw276_1 := hx276_1
  try simp only [z00, Nat.zero_mul, Addr.add_zero'] at hw276_1
  have hw276_0 := hx276_0
  try simp only [z00, Nat.zero_mul, Addr.add_zero'] at hw276_0
  obtain rfl : adp0 = ad276 := (by injection e276)
  have qi276 : (0 < l0.length) = True := eq_true (by omega)
  try simp only [z00, Nat.zero_mul, Addr.add_zero'] at hx276_0 hx276_1 hx276_2 hx276_3 hx276_4
  replace hx276_0 := zc HB hx276_0
  replace hx276_1 := zc HB hx276_1
  replace hx276_2 := zc HB hx276_2
  replace hx276_3 := zc HB hx276_3
  replace hx276_4 := zc HB hx276_4
  have HR276_2 := Aside0.mk hi276_2
  have HC276_2 := Aside0.mk hl276_2
  clear hi276_2 hl276_2
  have HR276_3 := Aside0.mk hi276_3
  have HC276_3 := Aside0.mk hl276_3
  clear hi276_3 hl276_3
  have HR276_4 := Aside0.mk hi276_4
  have HC276_4 := Aside0.mk hl276_4
  clear hi276_4 hl276_4
  replace p276 := eq_true p276
  replace q276 := eq_true q276
  have p277 : 0 ≤ (x3_2 : Int) := of_decide_eq_true zA
  have q277 : x3_2 < (((rd_T41 l0 0).f1).length : Int) := of_decide_eq_true zA
  obtain ⟨ad277, e277, hx277_0, hx277_1, hx277_2⟩ := at_T116 HR276_3.out x3_2 p277 q277
  have hw277_2 := hx277_2
  have hw277_1 := hx277_1
  have hw277_0 := hx277_0
  cases e277
  replace hx277_0 := zc HB hx277_0
  replace hx277_1 := zc HB hx277_1
  replace hx277_2 := zc HB hx277_2
  replace p277 := eq_true p277
  replace q277 := eq_true q277
  have p279 : 0 ≤ (0 : Int) := (by omega)
  have q279 : 0 < (l0.length : Int) := of_decide_eq_true zA
  obtain ⟨ad279, A279_2, c279_2, A279_3, c279_3, A279_4, c279_4, e279, hx279_0, hx279_1, hx279_2, hx279_3, hx279_4, hl279_2, hi279_2, hl279_3, hi279_3, hl279_4, hi279_4⟩ := at_T41 HR0.out 0 p279 q279
  have hw279_4 := hx279_4
  try simp only [z00, Nat.zero_mul, Addr.add_zero'] at hw279_4
  have hw279_3 := hx279_3
  try simp only [z00, Nat.zero_mul, Addr.add_zero'] at hw279_3
  have hw279_2 := hx279_2
  try simp only [z00, Nat.zero_mul, Addr.add_zero'] at hw279_2
  have hw279_1 := hx279_1
  try simp only [z00, Nat.zero_mul, Addr.add_zero'] at hw279_1
  have hw279_0 := hx279_0
  try simp only [z00, Nat.zero_mul, Addr.add_zero'] at hw279_0
  obtain rfl : adp0 = ad279 := (by injection e279)
  have qi279 : (0 < l0.length) = True := eq_true (by omega)
  try simp only [z00, Nat.zero_mul, Addr.add_zero'] at hx279_0 hx279_1 hx279_2 hx279_3 hx279_4
  replace hx279_0 := zc HB hx279_0
  replace hx279_1 := zc HB hx279_1
  replace hx279_2 := zc HB hx279_2
  replace hx279_3 := zc HB hx279_3
  replace hx279_4 := zc HB hx279_4
  have HR279_2 := Aside0.mk hi279_2
  have HC279_2 := Aside0.mk hl279_2
  clear hi279_2 hl279_2
  have HR279_3 := Aside0.mk hi279_3
  have HC279_3 := Aside0.mk hl279_3
  clear hi279_3 hl279_3
  have HR279_4 := Aside0.mk hi279_4
  have HC279_4 := Aside0.mk hl279_4
  clear hi279_4 hl279_4
  replace p279 := eq_true p279
  replace q279 := eq_true q279
  have ea_ := Option.some.inj (hx276_2.symm.trans hx279_2)
  injection ea_ with ea_ en_ ec_
  subst ea_
  subst ec_
  clear en_
  have ea_ := Option.some.inj (hx276_3.symm.trans hx279_3)
  injection ea_ with ea_ en_ ec_
  subst ea_
  subst ec_
  clear en_
  have ea_ := Option.some.inj (hx276_4.symm.trans hx279_4)
  injection ea_ with ea_ en_ ec_
  subst ea_
  subst ec_
  clear en_
  have p280 : 0 ≤ (0 : Int) := (by omega)
  have q280 : 0 < (l0.length : Int) := of_decide_eq_true zA
  obtain ⟨ad280, A280_2, c280_2, A280_3, c280_3, A280_4, c280_4, e280, hx280_0, hx280_1, hx280_2, hx280_3, hx280_4, hl280_2, hi280_2, hl280_3, hi280_3, hl280_4, hi280_4⟩ := at_T41 HR0.out 0 p280 q280
  have hw280_4 := hx280_4
  try simp only [z00, Nat.zero_mul, Addr.add_zero'] at hw280_4
  have hw280_3 := hx280_3
  try simp only [z00, Nat.zero_mul, Addr.add_zero'] at hw280_3
  have hw280_2 := hx280_2
  try simp only [z00, Nat.zero_mul, Addr.add_zero'] at hw280_2
  have hw280_1 := hx280_1
  try simp only [z00, Nat.zero_mul, Addr.add_zero'] at hw280_1
  have hw280_0 := hx280_0
  try simp only [z00, Nat.zero_mul, Addr.add_zero'] at hw280_0
  obtain rfl : adp0 = ad280 := (by injection e280)
  have qi280 : (0 < l0.length) = True := eq_true (by omega)
  try simp only [z00, Nat.zero_mul, Addr.add_zero'] at hx280_0 hx280_1 hx280_2 hx280_3 hx280_4
  replace hx280_0 := zc HB hx280_0
  replace hx280_1 := zc HB hx280_1
  replace hx280_2 := zc HB hx280_2
  replace hx280_3 := zc HB hx280_3
  replace hx280_4 := zc HB hx280_4
  have HR280_2 := Aside0.mk hi280_2
  have HC280_2 := Aside0.mk hl280_2
  clear hi280_2 hl280_2
  have HR280_3 := Aside0.mk hi280_3
  have HC280_3 := Aside0.mk hl280_3
  clear hi280_3 hl280_3
  have HR280_4 := Aside0.mk hi280_4
  have HC280_4 := Aside0.mk hl280_4
  clear hi280_4 hl280_4
  replace p280 := eq_true p280
  replace q280 := eq_true q280
  have ea_ := Option.some.inj (hx276_2.symm.trans hx280_2)
  injection ea_ with ea_ en_ ec_
  subst ea_
  subst ec_
  clear en_
  have ea_ := Option.some.inj (hx276_3.symm.trans hx280_3)
  injection ea_ with ea_ en_ ec_
  subst ea_
  subst ec_
  clear en_
  have ea_ := Option.some.inj (hx276_4.symm.trans hx280_4)
  injection ea_ with ea_ en_ ec_
  subst ea_
  subst ec_
  clear en_
  have p281 : 0 ≤ (x3_2 : Int) := of_decide_eq_true zA
  have q281 : x3_2 < (((rd_T41 l0 0).f1).length : Int) := of_decide_eq_true zA
  obtain ⟨ad281, e281, hx281_0, hx281_1, hx281_2⟩ := at_T116 HR280_3.out x3_2 p281 q281
  have hw281_2 := hx281_2
  have hw281_1 := hx281_1
  have hw281_0 := hx281_0
  obtain rfl : ad277 = ad281 := (by injection e281)
  replace hx281_0 := zc HB hx281_0
  replace hx281_1 := zc HB hx281_1
  replace hx281_2 := zc HB hx281_2
  replace p281 := eq_true p281
  replace q281 := eq_true q281
  refine start_ (n := 26) (S := fun w' => w'.cell? adp0 = some (.int .i8 ((rd_T41 l0 0).f0.f0)) ∧ w'.cell? ⟨adp0.block, adp0.off + 1, none⟩ = some (.int .i8 ((rd_T41 l0 0).f0.f1)) ∧ w'.cell? ⟨adp0.block, adp0.off + 2, none⟩ = some (.slice A276_2 ((rd_T41 l0 0).f0.f2).length c276_2) ∧ w'.cell? ⟨adp0.block, adp0.off + 3, none⟩ = some (.slice (some ad277) ((rd_T41 l0 0).f1).length c276_3) ∧ w'.cell? ⟨adp0.block, adp0.off + 4, none⟩ = some (.slice A276_4 ((rd_T41 l0 0).f2).length c276_4) ∧ w'.cell? (ad277.add ((x3_2).toNat * 3)) = some (.int .i8 ((rd_T116 ((rd_T41 l0 0).f1) x3_2).f0.f0)) ∧ w'.cell? ⟨(ad277.add ((x3_2).toNat * 3)).block, (ad277.add ((x3_2).toNat * 3)).off + 1, none⟩ = some (.int .i8 ((rd_T116 ((rd_T41 l0 0).f1) x3_2).f0.f1)) ∧ w'.cell? ⟨(ad277.add ((x3_2).toNat * 3)).block, (ad277.add ((x3_2).toNat * 3)).off + 2, none⟩ = some (.int .i8 ((rd_T116 ((rd_T41 l0 0).f1) x3_2).f1)) ∧ w'.cell? adp0 = some (.int .i8 ((rd_T41 l0 0).f0.f0)) ∧ w'.cell? ⟨adp0.block, adp0.off + 1, none⟩ = some (.int .i8 ((rd_T41 l0 0).f0.f1)) ∧ w'.cell? ⟨adp0.block, adp0.off + 2, none⟩ = some (.slice A276_2 ((rd_T41 l0 0).f0.f2).length c276_2) ∧ w'.cell? ⟨adp0.block, adp0.off + 3, none⟩ = some (.slice (some ad277) ((rd_T41 l0 0).f1).length c276_3) ∧ w'.cell? ⟨adp0.block, adp0.off + 4, none⟩ = some (.slice A276_4 ((rd_T41 l0 0).f2).length c276_4) ∧ w'.cell? adp0 = some (.int .i8 ((rd_T41 l0 0).f0.f0)) ∧ w'.cell? ⟨adp0.block, adp0.off + 1, none⟩ = some (.int .i8 ((rd_T41 l0 0).f0.f1)) ∧ w'.cell? ⟨adp0.block, adp0.off + 2, none⟩ = some (.slice A276_2 ((rd_T41 l0 0).f0.f2).length c276_2) ∧ w'.cell? ⟨adp0.block, adp0.off + 3, none⟩ = some (.slice (some ad277) ((rd_T41 l0 0).f1).length c276_3) ∧ w'.cell? ⟨adp0.block, adp0.off + 4, none⟩ = some (.slice A276_4 ((rd_T41 l0 0).f2).length c276_4) ∧ w'.cell? (ad277.add ((x3_2).toNat * 3)) = some (.int .i8 ((rd_T116 ((rd_T41 l0 0).f1) x3_2).f0.f0)) ∧ w'.cell? ⟨(ad277.add ((x3_2).toNat * 3)).block, (ad277.add ((x3_2).toNat * 3)).off + 1, none⟩ = some (.int .i8 ((rd_T116 ((rd_T41 l0 0).f1) x3_2).f0.f1)) ∧ w'.cell? ⟨(ad277.add ((x3_2).toNat * 3)).block, (ad277.add ((x3_2).toNat * 3)).off + 2, none⟩ = some (.int .i8 ((rd_T116 ((rd_T41 l0 0).f1) x3_2).f1))) (ds := []) (zq 26 0) (by kernel_rfl) rfl rfl ⟨(zc HB hw276_0), (zc HB hw276_1), (zc HB hw276_2), (zc HB hw276_3), (zc HB hw276_4), (zc HB hw277_0), (zc HB hw277_1), (zc HB hw277_2), (zc HB hw279_0), (zc HB hw279_1), (zc HB hw279_2), (zc HB hw279_3), (zc HB hw279_4), (zc HB hw280_0), (zc HB hw280_1), (zc HB hw280_2), (zc HB hw280_3), (zc HB hw280_4), (zc HB hw281_0), (zc HB hw281_1), (zc HB hw281_2)⟩ (fun hHeld => ?_); refine with_tabW spec_l03Ok.tab6 spec_l03Ok.bits6 (fun HT_ HW_ => ?_)
  generalize wr.drew = w22 at HB HR276_2 HR276_3 HR276_4 HR279_2 HR279_3 HR279_4 HR280_2 HR280_3 HR280_4 hx276_0 hx276_1 hx276_2 hx276_3 hx276_4 hx277_0 hx277_1 hx277_2 hx279_0 hx279_1 hx279_2 hx279_3 hx279_4 hx280_0 hx280_1 hx280_2 hx280_3 hx280_4 hx281_0 hx281_1 hx281_2 hHeld ⊢
  refine zpu 0 (some 47) (zq 26 1) HT_ ?_
  refine zpu 1 (some 48) (zq 26 3) HT_ ?_
  refine zpu 2 (some 49) (zq 26 7) HT_ ?_
  refine zpu 4 (some 51) (zq 26 23) HT_ ?_
  refine ztk 3 (some 50) (zq 26 31) HT_ HW_ rfl hHeld (Or.inl ⟨by rfl, by (rintro w' ⟨s0, s1, s2, s3, s4, s5, s6, s7, s8, s9, s10, s11, s12, s13, s14, s15, s16, s17, s18, s19, s20⟩; go_simp; with_reducible rfl)⟩) ?_
  refine zpu 5 (some 52) (zq 26 63) HT_ ?_
  refine zpu 6 (some 53) (zq 26 127) HT_ ?_
  refine ztk 7 (some 54) (zq 26 255) HT_ HW_ rfl hHeld (Or.inl ⟨by rfl, by (rintro w' ⟨s0, s1, s2, s3, s4, s5, s6, s7, s8, s9, s10, s11, s12, s13, s14, s15, s16, s17, s18, s19, s20⟩; go_simp; with_reducible rfl)⟩) ?_
  refine zpu 8 (some 55) (zq 26 511) HT_ ?_
  refine one_ (i := 9) (N := some 56) (zq 26 1023) rfl rfl (one_of HT_.out (by kernel_rfl)) (by decide) (fun K hK => ?_)
  refine goes_ Try.func161 (by kernel_rfl) rfl #[.int .i64 (wrap64 ((rd_T116 ((rd_T41 l0 0).f1) x3_2).f1))] (by rfl) rfl rfl zm ?_
  with_reducible refine (spec_l01Side.calls (wrap64 ((rd_T116 ((rd_T41 l0 0).f1) x3_2).f1)) true _ A19.out).mono ?_
  rintro e w' ⟨rfl, ⟨nd, rfl⟩⟩
  refine ⟨_, rfl, ?_⟩
  refine hK.out _ _ ⟨(zc HB hw276_0), (zc HB hw276_1), (zc HB hw276_2), (zc HB hw276_3), (zc HB hw276_4), (zc HB hw277_0), (zc HB hw277_1), (zc HB hw277_2), (zc HB hw279_0), (zc HB hw279_1), (zc HB hw279_2), (zc HB hw279_3), (zc HB hw279_4), (zc HB hw280_0), (zc HB hw280_1), (zc HB hw280_2), (zc HB hw280_3), (zc HB hw280_4), (zc HB hw281_0), (zc HB hw281_1), (zc HB hw281_2)⟩ (fun hHeld => ?_)
  clear hK K
  refine norm_ (a' := ?_) ?_ ?_
  rotate_left
  ·show Act.put _ (some 56) _ = _
   exact zap
  refine zpu 10 (some 57) (zq 26 2047) HT_ ?_
  refine zpu 11 (some 58) (zq 26 4095) HT_ ?_
  refine zpu 12 (some 59) (zq 26 8191) HT_ ?_
  refine zpu 13 (some 60) (zq 26 16383) HT_ ?_
  refine zpu 14 (some 61) (zq 26 32767) HT_ ?_
  refine zpu 15 (some 62) (zq 26 65535) HT_ ?_
  refine zpu 16 (some 63) (zq 26 131071) HT_ ?_
  refine zpu 17 (some 64) (zq 26 262143) HT_ ?_
  refine zpu 19 (some 66) (zq 26 786431) HT_ ?_
  refine ztk 18 (some 65) (zq 26 1048575) HT_ HW_ rfl hHeld (Or.inl ⟨by rfl, by (rintro w' ⟨s0, s1, s2, s3, s4, s5, s6, s7, s8, s9, s10, s11, s12, s13, s14, s15, s16, s17, s18, s19, s20⟩; go_simp; with_reducible rfl)⟩) ?_
  refine zpu 20 (some 67) (zq 26 2097151) HT_ ?_
  refine zpu 21 (some 68) (zq 26 4194303) HT_ ?_
  refine ztk 22 (some 69) (zq 26 8388607) HT_ HW_ rfl hHeld (Or.inl ⟨by rfl, by (rintro w' ⟨s0, s1, s2, s3, s4, s5, s6, s7, s8, s9, s10, s11, s12, s13, s14, s15, s16, s17, s18, s19, s20⟩; go_simp; with_reducible rfl)⟩) ?_
  refine one_ (i := 23) (N := some 70) (zq 26 16777215) rfl rfl (one_of HT_.out (by kernel_rfl)) (by decide) (fun K hK => ?_)
  refine goes_ Try.func111 (by kernel_rfl) rfl #[.pointer (some adp0), .agg #[.int .i8 ((rd_T116 ((rd_T41 l0 0).f1) x3_2).f0.f0), .int .i8 ((rd_T116 ((rd_T41 l0 0).f1) x3_2).f0.f1)]] (by rfl) rfl rfl zm ?_
  with_reducible refine (spec_l01Find.calls k2 _ [(⟨(rd_T41 l0 0).f0.f0, (rd_T41 l0 0).f0.f1, (rd_T41 l0 0).f0.f2⟩ : S37)] ((rd_T116 ((rd_T41 l0 0).f1) x3_2).f0.f0) ((rd_T116 ((rd_T41 l0 0).f1) x3_2).f0.f1) t282 _ ?side1 A21.out).mono ?_
  (case side1 => refine ro_first (d := k41) (d1 := k37) (f := fun x : S41 => (x.f0, x.f1, x.f2)) (l := l0) rfl z41 ?_ (by first | (have h_ := of_eq_true q279; omega) | (have h_ : 0 < (l0.length : Int) := of_decide_eq_true (by assumption); omega) | omega) rfl; repeat (first | exact (Kd.C_below HR0.out (zl HB).out) | (with_reducible refine Kd.C_alloc ?_ _) | (with_reducible refine Kd.C_drewN ?_ _) | (with_reducible refine Kd.C_drew ?_)))
  rintro e w23 ⟨rfl, hb⟩
  refine ⟨_, rfl, ?_⟩
  have n0_ := zb HB hb
  clear HB
  have HB := n0_
  clear n0_
  (try clear hb)
  (try clear hb2)
  (try clear hk)
  (try clear hi)
  refine hK.out _ _ ⟨(zc HB hw276_0), (zc HB hw276_1), (zc HB hw276_2), (zc HB hw276_3), (zc HB hw276_4), (zc HB hw277_0), (zc HB hw277_1), (zc HB hw277_2), (zc HB hw279_0), (zc HB hw279_1), (zc HB hw279_2), (zc HB hw279_3), (zc HB hw279_4), (zc HB hw280_0), (zc HB hw280_1), (zc HB hw280_2), (zc HB hw280_3), (zc HB hw280_4), (zc HB hw281_0), (zc HB hw281_1), (zc HB hw281_2)⟩ (fun hHeld => ?_)
  clear hK K
  refine norm_ (a' := ?_) ?_ ?_
  rotate_left
  ·show Act.put _ (some 70) _ = _
   exact zap
  refine zpu 24 (some 71) (zq 26 33554431) HT_ ?_
  refine zpu 25 (some 72) (zq 26 67108863) HT_ ?_
  refine done_ (done_of HT_.out (by kernel_rfl)) ?_
  try go_wp2
  go_meet
  case rel => exact ⟨_, (decide (t282 < 0)), zi, H', ⟨by have := HJ1.out; have := HK2.out; first | omega | exact Nat.le_refl _⟩, zl HB⟩
 clear HC17
 try clear c1
 try clear c2
 try clear p2
 try clear q2
 try clear hx2
 try clear qi2
 try clear p6
 try clear c11
 try clear c16
 try clear c18
 try clear c20
 try clear hx276_0
 try clear hx276_1
 try clear hx276_2
 try clear hx276_3
 try clear hx276_4
 try clear hx277_0
 try clear hx277_1
 try clear hx277_2
 try clear hx279_0
 try clear hx279_1
 try clear hx279_2
 try clear hx279_3
 try clear hx279_4
 try clear hx280_0
 try clear hx280_1
 try clear hx280_2
 try clear hx280_3
 try clear hx280_4
 try clear hx281_0
 try clear hx281_1
 try clear hx281_2
 try clear p276
 try clear p277
 try clear p279
 try clear p280
 try clear p281
 try clear q276
 try clear q277
 try clear q279
 try clear q280
 try clear q281
 obtain ⟨kq, x72_16, rfl, HA, HJ16, HB⟩ := hcut
 cases kq with
 | zero => exact absurd HA.out (by simp [spec_l03Ok.j2])
 | succ kj16 => ?_
 have H := HA.out
 clear HA
 simp only [spec_l03Ok.j2] at H
 by_cases c25 : x72_16 = true
 ·subst c25
  have H1 : (some false) = some r := by rw [if_pos rfl] at H; exact H
  clear H
  have H := H1
  clear H1
  obtain rfl := Option.some.inj H
  go_wp2
  go_ret
  exact ⟨zv, zbo⟩
 replace c25 := Bool.eq_false_iff.mpr c25
 subst c25
 have H1 : (spec_l03Ok.l1 kj16 l0 x3_2 0) = some r := by rw [if_neg (show ¬ (false = true) by decide)] at H; exact H
 clear H
 have H := H1
 clear H1
 have H' := Aside0.mk H
 clear H
 go_wp2
 go_loopg [4] kj16 (fun kq v4 w' => ∃ (x4_4 : Int), v4 = .int .i64 x4_4 ∧ Aside0 (spec_l03Ok.l1 kq l0 x3_2 x4_4 = some r) ∧ Aside0 (kq ≤ kj16) ∧ Aside0 (Below w.heap.size w w'))
 case atStart => exact ⟨(0), zi, H', ⟨Nat.le_refl _⟩, zl HB⟩
 clear H'
 try clear c1
 try clear c2
 try clear p2
 try clear q2
 try clear hx2
 try clear qi2
 try clear p6
 try clear c11
 try clear c16
 try clear c18
 try clear c20
 try clear c25
 try clear hx276_0
 try clear hx276_1
 try clear hx276_2
 try clear hx276_3
 try clear hx276_4
 try clear hx277_0
 try clear hx277_1
 try clear hx277_2
 try clear hx279_0
 try clear hx279_1
 try clear hx279_2
 try clear hx279_3
 try clear hx279_4
 try clear hx280_0
 try clear hx280_1
 try clear hx280_2
 try clear hx280_3
 try clear hx280_4
 try clear hx281_0
 try clear hx281_1
 try clear hx281_2
 try clear p2
 try clear p276
 try clear p277
 try clear p279
 try clear p280
 try clear p281
 try clear p6
 try clear q2
 try clear q276
 try clear q277
 try clear q279
 try clear q280
 try clear q281
 obtain ⟨x4_4, rfl, HA, HK4, HB⟩ := hrel
 cases gk with
 | zero => exact absurd HA.out (by simp [spec_l03Ok.l1])
 | succ k4 => ?_
 have H := HA.out
 clear HA
 simp only [spec_l03Ok.l1] at H
 by_cases c26 : x4_4 < x3_2
 rotate_left
 ·rw [if_neg c26] at H
  have c26b0 : decide (x4_4 < x3_2) = false := decide_eq_false c26
  clear c26
  have H' := Aside0.mk H
  clear H
  go_wp2
  go_roundg k4
  case measure => have := HJ1.out; have := HK2.out; have := HJ16.out; have := HK4.out; omega
  case rel => exact ⟨(wrap64 (x3_2 + 1)), zi, H', ⟨by have := HJ1.out; have := HK2.out; have := HJ16.out; have := HK4.out; omega⟩, zl HB⟩
 rw [if_pos c26] at H
 have c26b0 : decide (x4_4 < x3_2) = true := decide_eq_true c26
 clear c26
 by_cases c27 : 0 < (l0.length : Int)
 rotate_left
 ·rw [if_neg c27] at H
  exact absurd H (by simp)
 rw [if_pos c27] at H
 have c27b0 : decide (0 < (l0.length : Int)) = true := decide_eq_true c27
 have c27b1 : decide (0 < l0.length) = true := decide_eq_true (by omega)
 clear c27
 by_cases c28 : 0 ≤ x4_4
 rotate_left
 ·rw [if_neg c28] at H
  exact absurd H (by simp)
 rw [if_pos c28] at H
 have c28b0 : decide (0 ≤ x4_4) = true := decide_eq_true c28
 clear c28
 by_cases c29 : x4_4 < (((rd_T41 l0 0).f1).length : Int)
 rotate_left
 ·rw [if_neg c29] at H
  exact absurd H (by simp)
 rw [if_pos c29] at H
 have c29b0 : decide (x4_4 < (((rd_T41 l0 0).f1).length : Int)) = true := decide_eq_true c29
 clear c29
 by_cases c30 : 0 ≤ x3_2
 rotate_left
 ·rw [if_neg c30] at H
  exact absurd H (by simp)
 rw [if_pos c30] at H
 have c30b0 : decide (0 ≤ x3_2) = true := decide_eq_true c30
 clear c30
 by_cases c31 : x3_2 < (((rd_T41 l0 0).f1).length : Int)
 rotate_left
 ·rw [if_neg c31] at H
  exact absurd H (by simp)
 rw [if_pos c31] at H
 have c31b0 : decide (x3_2 < (((rd_T41 l0 0).f1).length : Int)) = true := decide_eq_true c31
 clear c31
 by_cases c32 : ((((rd_T116 ((rd_T41 l0 0).f1) x4_4).f0.f0) == ((rd_T116 ((rd_T41 l0 0).f1) x3_2).f0.f0) && (((rd_T116 ((rd_T41 l0 0).f1) x4_4).f0.f1) == ((rd_T116 ((rd_T41 l0 0).f1) x3_2).f0.f1))) && (((rd_T116 ((rd_T41 l0 0).f1) x4_4).f1) == ((rd_T116 ((rd_T41 l0 0).f1) x3_2).f1))) = true
 ·rw [if_pos c32] at H
  have c32b0 : ((((rd_T116 ((rd_T41 l0 0).f1) x4_4).f0.f0) == ((rd_T116 ((rd_T41 l0 0).f1) x3_2).f0.f0) && (((rd_T116 ((rd_T41 l0 0).f1) x4_4).f0.f1) == ((rd_T116 ((rd_T41 l0 0).f1) x3_2).f0.f1))) && (((rd_T116 ((rd_T41 l0 0).f1) x4_4).f1) == ((rd_T116 ((rd_T41 l0 0).f1) x3_2).f1))) = true := c32
  clear c32
  obtain rfl := Option.some.inj H
  try go_wp2
  have n0_ := Aside0.mk (below_drew1 HB.out)
  clear HB
  have HB := n0_
  clear n0_
  have p283 : 0 ≤ (0 : Int) := (by omega)
  have q283 : 0 < (l0.length : Int) := of_decide_eq_true zA
  obtain ⟨ad283, A283_2, c283_2, A283_3, c283_3, A283_4, c283_4, e283, hx283_0, hx283_1, hx283_2, hx283_3, hx283_4, hl283_2, hi283_2, hl283_3, hi283_3, hl283_4, hi283_4⟩ := at_T41 HR0.out 0 p283 q283
  have hw283_4 := hx283_4
  try simp only [z00, Nat.zero_mul, Addr.add_zero'] at hw283_4
  have hw283_3 := hx283_3
  try simp only [z00, Nat.zero_mul, Addr.add_zero'] at hw283_3
  have hw283_2 := hx283_2
  try simp only [z00, Nat.zero_mul, Addr.add_zero'] at hw283_2
  have hw283_1 := hx283_1
  try simp only [z00, Nat.zero_mul, Addr.add_zero'] at hw283_1
  have hw283_0 := hx283_0
  try simp only [z00, Nat.zero_mul, Addr.add_zero'] at hw283_0
  obtain rfl : adp0 = ad283 := (by injection e283)
  have qi283 : (0 < l0.length) = True := eq_true (by omega)
  try simp only [z00, Nat.zero_mul, Addr.add_zero'] at hx283_0 hx283_1 hx283_2 hx283_3 hx283_4
  replace hx283_0 := zc HB hx283_0
  replace hx283_1 := zc HB hx283_1
  replace hx283_2 := zc HB hx283_2
  replace hx283_3 := zc HB hx283_3
  replace hx283_4 := zc HB hx283_4
  have HR283_2 := Aside0.mk hi283_2
  have HC283_2 := Aside0.mk hl283_2
  clear hi283_2 hl283_2
  have HR283_3 := Aside0.mk hi283_3
  have HC283_3 := Aside0.mk hl283_3
  clear hi283_3 hl283_3
  have HR283_4 := Aside0.mk hi283_4
  have HC283_4 := Aside0.mk hl283_4
  clear hi283_4 hl283_4
  replace p283 := eq_true p283
  replace q283 := eq_true q283
  have p284 : 0 ≤ (x4_4 : Int) := of_decide_eq_true zA
  have q284 : x4_4 < (((rd_T41 l0 0).f1).length : Int) := of_decide_eq_true zA
  obtain ⟨ad284, e284, hx284_0, hx284_1, hx284_2⟩ := at_T116 HR283_3.out x4_4 p284 q284
  have hw284_2 := hx284_2
  have hw284_1 := hx284_1
  have hw284_0 := hx284_0
  cases e284
  replace hx284_0 := zc HB hx284_0
  replace hx284_1 := zc HB hx284_1
  replace hx284_2 := zc HB hx284_2
  replace p284 := eq_true p284
  replace q284 := eq_true q284
  have p285 : 0 ≤ (0 : Int) := (by omega)
  have q285 : 0 < (l0.length : Int) := of_decide_eq_true zA
  obtain ⟨ad285, A285_2, c285_2, A285_3, c285_3, A285_4, c285_4, e285, hx285_0, hx285_1, hx285_2, hx285_3, hx285_4, hl285_2, hi285_2, hl285_3, hi285_3, hl285_4, hi285_4⟩ := at_T41 HR0.out 0 p285 q285
  have hw285_4 := hx285_4
  try simp only [z00, Nat.zero_mul, Addr.add_zero'] at hw285_4
  have hw285_3 := hx285_3
  try simp only [z00, Nat.zero_mul, Addr.add_zero'] at hw285_3
  have hw285_2 := hx285_2
  try simp only [z00, Nat.zero_mul, Addr.add_zero'] at hw285_2
  have hw285_1 := hx285_1
  try simp only [z00, Nat.zero_mul, Addr.add_zero'] at hw285_1
  have hw285_0 := hx285_0
  try simp only [z00, Nat.zero_mul, Addr.add_zero'] at hw285_0
  obtain rfl : adp0 = ad285 := (by injection e285)
  have qi285 : (0 < l0.length) = True := eq_true (by omega)
  try simp only [z00, Nat.zero_mul, Addr.add_zero'] at hx285_0 hx285_1 hx285_2 hx285_3 hx285_4
  replace hx285_0 := zc HB hx285_0
  replace hx285_1 := zc HB hx285_1
  replace hx285_2 := zc HB hx285_2
  replace hx285_3 := zc HB hx285_3
  replace hx285_4 := zc HB hx285_4
  have HR285_2 := Aside0.mk hi285_2
  have HC285_2 := Aside0.mk hl285_2
  clear hi285_2 hl285_2
  have HR285_3 := Aside0.mk hi285_3
  have HC285_3 := Aside0.mk hl285_3
  clear hi285_3 hl285_3
  have HR285_4 := Aside0.mk hi285_4
  have HC285_4 := Aside0.mk hl285_4
  clear hi285_4 hl285_4
  replace p285 := eq_true p285
  replace q285 := eq_true q285
  have ea_ := Option.some.inj (hx283_2.symm.trans hx285_2)
  injection ea_ with ea_ en_ ec_
  subst ea_
  subst ec_
  clear en_
  have ea_ := Option.some.inj (hx283_3.symm.trans hx285_3)
  injection ea_ with ea_ en_ ec_
  subst ea_
  subst ec_
  clear en_
  have ea_ := Option.some.inj (hx283_4.symm.trans hx285_4)
  injection ea_ with ea_ en_ ec_
  subst ea_
  subst ec_
  clear en_
  have p286 : 0 ≤ (x3_2 : Int) := of_decide_eq_true zA
  have q286 : x3_2 < (((rd_T41 l0 0).f1).length : Int) := of_decide_eq_true zA
  obtain ⟨ad286, e286, hx286_0, hx286_1, hx286_2⟩ := at_T116 HR285_3.out x3_2 p286 q286
  have hw286_2 := hx286_2
  have hw286_1 := hx286_1
  have hw286_0 := hx286_0
  obtain rfl : ad284 = ad286 := (by injection e286)
  replace hx286_0 := zc HB hx286_0
  replace hx286_1 := zc HB hx286_1
  replace hx286_2 := zc HB hx286_2
  replace p286 := eq_true p286
  replace q286 := eq_true q286
  refine start_ (n := 15) (S := fun w' => w'.cell? adp0 = some (.int .i8 ((rd_T41 l0 0).f0.f0)) ∧ w'.cell? ⟨adp0.block, adp0.off + 1, none⟩ = some (.int .i8 ((rd_T41 l0 0).f0.f1)) ∧ w'.cell? ⟨adp0.block, adp0.off + 2, none⟩ = some (.slice A283_2 ((rd_T41 l0 0).f0.f2).length c283_2) ∧ w'.cell? ⟨adp0.block, adp0.off + 3, none⟩ = some (.slice (some ad284) ((rd_T41 l0 0).f1).length c283_3) ∧ w'.cell? ⟨adp0.block, adp0.off + 4, none⟩ = some (.slice A283_4 ((rd_T41 l0 0).f2).length c283_4) ∧ w'.cell? (ad284.add ((x4_4).toNat * 3)) = some (.int .i8 ((rd_T116 ((rd_T41 l0 0).f1) x4_4).f0.f0)) ∧ w'.cell? ⟨(ad284.add ((x4_4).toNat * 3)).block, (ad284.add ((x4_4).toNat * 3)).off + 1, none⟩ = some (.int .i8 ((rd_T116 ((rd_T41 l0 0).f1) x4_4).f0.f1)) ∧ w'.cell? ⟨(ad284.add ((x4_4).toNat * 3)).block, (ad284.add ((x4_4).toNat * 3)).off + 2, none⟩ = some (.int .i8 ((rd_T116 ((rd_T41 l0 0).f1) x4_4).f1)) ∧ w'.cell? adp0 = some (.int .i8 ((rd_T41 l0 0).f0.f0)) ∧ w'.cell? ⟨adp0.block, adp0.off + 1, none⟩ = some (.int .i8 ((rd_T41 l0 0).f0.f1)) ∧ w'.cell? ⟨adp0.block, adp0.off + 2, none⟩ = some (.slice A283_2 ((rd_T41 l0 0).f0.f2).length c283_2) ∧ w'.cell? ⟨adp0.block, adp0.off + 3, none⟩ = some (.slice (some ad284) ((rd_T41 l0 0).f1).length c283_3) ∧ w'.cell? ⟨adp0.block, adp0.off + 4, none⟩ = some (.slice A283_4 ((rd_T41 l0 0).f2).length c283_4) ∧ w'.cell? (ad284.add ((x3_2).toNat * 3)) = some (.int .i8 ((rd_T116 ((rd_T41 l0 0).f1) x3_2).f0.f0)) ∧ w'.cell? ⟨(ad284.add ((x3_2).toNat * 3)).block, (ad284.add ((x3_2).toNat * 3)).off + 1, none⟩ = some (.int .i8 ((rd_T116 ((rd_T41 l0 0).f1) x3_2).f0.f1)) ∧ w'.cell? ⟨(ad284.add ((x3_2).toNat * 3)).block, (ad284.add ((x3_2).toNat * 3)).off + 2, none⟩ = some (.int .i8 ((rd_T116 ((rd_T41 l0 0).f1) x3_2).f1))) (ds := []) (zq 15 0) (by kernel_rfl) rfl rfl ⟨(zc HB hw283_0), (zc HB hw283_1), (zc HB hw283_2), (zc HB hw283_3), (zc HB hw283_4), (zc HB hw284_0), (zc HB hw284_1), (zc HB hw284_2), (zc HB hw285_0), (zc HB hw285_1), (zc HB hw285_2), (zc HB hw285_3), (zc HB hw285_4), (zc HB hw286_0), (zc HB hw286_1), (zc HB hw286_2)⟩ (fun hHeld => ?_); refine with_tabW spec_l03Ok.tab11 spec_l03Ok.bits11 (fun HT_ HW_ => ?_)
  generalize wr.drew = w33 at HB HR283_2 HR283_3 HR283_4 HR285_2 HR285_3 HR285_4 hx283_0 hx283_1 hx283_2 hx283_3 hx283_4 hx284_0 hx284_1 hx284_2 hx285_0 hx285_1 hx285_2 hx285_3 hx285_4 hx286_0 hx286_1 hx286_2 hHeld ⊢
  refine zpu 0 (some 78) (zq 15 1) HT_ ?_
  refine zpu 1 (some 79) (zq 15 3) HT_ ?_
  refine zpu 2 (some 80) (zq 15 7) HT_ ?_
  refine zpu 4 (some 82) (zq 15 23) HT_ ?_
  refine zpu 7 (some 85) (zq 15 151) HT_ ?_
  refine zpu 8 (some 86) (zq 15 407) HT_ ?_
  refine zpu 9 (some 87) (zq 15 919) HT_ ?_
  refine zpu 11 (some 89) (zq 15 2967) HT_ ?_
  refine ztk 3 (some 81) (zq 15 2975) HT_ HW_ rfl hHeld (Or.inl ⟨by rfl, by (rintro w' ⟨s0, s1, s2, s3, s4, s5, s6, s7, s8, s9, s10, s11, s12, s13, s14, s15⟩; go_simp; with_reducible rfl)⟩) ?_
  refine zpu 5 (some 83) (zq 15 3007) HT_ ?_
  refine ztk 6 (some 84) (zq 15 3071) HT_ HW_ rfl hHeld (Or.inl ⟨by rfl, by (rintro w' ⟨s0, s1, s2, s3, s4, s5, s6, s7, s8, s9, s10, s11, s12, s13, s14, s15⟩; go_simp; with_reducible rfl)⟩) ?_
  refine ztk 10 (some 88) (zq 15 4095) HT_ HW_ rfl hHeld (Or.inl ⟨by rfl, by (rintro w' ⟨s0, s1, s2, s3, s4, s5, s6, s7, s8, s9, s10, s11, s12, s13, s14, s15⟩; go_simp; with_reducible rfl)⟩) ?_
  refine zpu 12 (some 90) (zq 15 8191) HT_ ?_
  refine ztk 13 (some 91) (zq 15 16383) HT_ HW_ rfl hHeld (Or.inl ⟨by rfl, by (rintro w' ⟨s0, s1, s2, s3, s4, s5, s6, s7, s8, s9, s10, s11, s12, s13, s14, s15⟩; go_simp; with_reducible rfl)⟩) ?_
  refine zpu 14 (some 92) (zq 15 32767) HT_ ?_
  refine done_ (done_of HT_.out (by kernel_rfl)) ?_
  try go_wp2
  go_ret
  exact ⟨zv, zbo⟩
 rw [if_neg c32] at H
 have c32b0 : ((((rd_T116 ((rd_T41 l0 0).f1) x4_4).f0.f0) == ((rd_T116 ((rd_T41 l0 0).f1) x3_2).f0.f0) && (((rd_T116 ((rd_T41 l0 0).f1) x4_4).f0.f1) == ((rd_T116 ((rd_T41 l0 0).f1) x3_2).f0.f1))) && (((rd_T116 ((rd_T41 l0 0).f1) x4_4).f1) == ((rd_T116 ((rd_T41 l0 0).f1) x3_2).f1))) = false := by simpa using c32
 clear c32
 have H' := Aside0.mk H
 clear H
 try go_wp2
 have n0_ := Aside0.mk (below_drew1 HB.out)
 clear HB
 have HB := n0_
 clear n0_
 have p283 : 0 ≤ (0 : Int) := (by omega)
 have q283 : 0 < (l0.length : Int) := of_decide_eq_true zA
 obtain ⟨ad283, A283_2, c283_2, A283_3, c283_3, A283_4, c283_4, e283, hx283_0, hx283_1, hx283_2, hx283_3, hx283_4, hl283_2, hi283_2, hl283_3, hi283_3, hl283_4, hi283_4⟩ := at_T41 HR0.out 0 p283 q283
 have hw283_4 := hx283_4
 try simp only [z00, Nat.zero_mul, Addr.add_zero'] at hw283_4
 have hw283_3 := hx283_3
 try simp only [z00, Nat.zero_mul, Addr.add_zero'] at hw283_3
 have hw283_2 := hx283_2
 try simp only [z00, Nat.zero_mul, Addr.add_zero'] at hw283_2
 have hw283_1 := hx283_1
 try simp only [z00, Nat.zero_mul, Addr.add_zero'] at hw283_1
 have hw283_0 := hx283_0
 try simp only [z00, Nat.zero_mul, Addr.add_zero'] at hw283_0
 obtain rfl : adp0 = ad283 := (by injection e283)
 have qi283 : (0 < l0.length) = True := eq_true (by omega)
 try simp only [z00, Nat.zero_mul, Addr.add_zero'] at hx283_0 hx283_1 hx283_2 hx283_3 hx283_4
 replace hx283_0 := zc HB hx283_0
 replace hx283_1 := zc HB hx283_1
 replace hx283_2 := zc HB hx283_2
 replace hx283_3 := zc HB hx283_3
 replace hx283_4 := zc HB hx283_4
 have HR283_2 := Aside0.mk hi283_2
 have HC283_2 := Aside0.mk hl283_2
 clear hi283_2 hl283_2
 have HR283_3 := Aside0.mk hi283_3
 have HC283_3 := Aside0.mk hl283_3
 clear hi283_3 hl283_3
 have HR283_4 := Aside0.mk hi283_4
 have HC283_4 := Aside0.mk hl283_4
 clear hi283_4 hl283_4
 replace p283 := eq_true p283
 replace q283 := eq_true q283
 have p284 : 0 ≤ (x4_4 : Int) := of_decide_eq_true zA
 have q284 : x4_4 < (((rd_T41 l0 0).f1).length : Int) := of_decide_eq_true zA
 obtain ⟨ad284, e284, hx284_0, hx284_1, hx284_2⟩ := at_T116 HR283_3.out x4_4 p284 q284
 have hw284_2 := hx284_2
 have hw284_1 := hx284_1
 have hw284_0 := hx284_0
 cases e284
 replace hx284_0 := zc HB hx284_0
 replace hx284_1 := zc HB hx284_1
 replace hx284_2 := zc HB hx284_2
 replace p284 := eq_true p284
 replace q284 := eq_true q284
 have p285 : 0 ≤ (0 : Int) := (by omega)
 have q285 : 0 < (l0.length : Int) := of_decide_eq_true zA
 obtain ⟨ad285, A285_2, c285_2, A285_3, c285_3, A285_4, c285_4, e285, hx285_0, hx285_1, hx285_2, hx285_3, hx285_4, hl285_2, hi285_2, hl285_3, hi285_3, hl285_4, hi285_4⟩ := at_T41 HR0.out 0 p285 q285
 have hw285_4 := hx285_4
 try simp only [z00, Nat.zero_mul, Addr.add_zero'] at hw285_4
 have hw285_3 := hx285_3
 try simp only [z00, Nat.zero_mul, Addr.add_zero'] at hw285_3
 have hw285_2 := hx285_2
 try simp only [z00, Nat.zero_mul, Addr.add_zero'] at hw285_2
 have hw285_1 := hx285_1
 try simp only [z00, Nat.zero_mul, Addr.add_zero'] at hw285_1
 have hw285_0 := hx285_0
 try simp only [z00, Nat.zero_mul, Addr.add_zero'] at hw285_0
 obtain rfl : adp0 = ad285 := (by injection e285)
 have qi285 : (0 < l0.length) = True := eq_true (by omega)
 try simp only [z00, Nat.zero_mul, Addr.add_zero'] at hx285_0 hx285_1 hx285_2 hx285_3 hx285_4
 replace hx285_0 := zc HB hx285_0
 replace hx285_1 := zc HB hx285_1
 replace hx285_2 := zc HB hx285_2
 replace hx285_3 := zc HB hx285_3
 replace hx285_4 := zc HB hx285_4
 have HR285_2 := Aside0.mk hi285_2
 have HC285_2 := Aside0.mk hl285_2
 clear hi285_2 hl285_2
 have HR285_3 := Aside0.mk hi285_3
 have HC285_3 := Aside0.mk hl285_3
 clear hi285_3 hl285_3
 have HR285_4 := Aside0.mk hi285_4
 have HC285_4 := Aside0.mk hl285_4
 clear hi285_4 hl285_4
 replace p285 := eq_true p285
 replace q285 := eq_true q285
 have ea_ := Option.some.inj (hx283_2.symm.trans hx285_2)
 injection ea_ with ea_ en_ ec_
 subst ea_
 subst ec_
 clear en_
 have ea_ := Option.some.inj (hx283_3.symm.trans hx285_3)
 injection ea_ with ea_ en_ ec_
 subst ea_
 subst ec_
 clear en_
 have ea_ := Option.some.inj (hx283_4.symm.trans hx285_4)
 injection ea_ with ea_ en_ ec_
 subst ea_
 subst ec_
 clear en_
 have p286 : 0 ≤ (x3_2 : Int) := of_decide_eq_true zA
 have q286 : x3_2 < (((rd_T41 l0 0).f1).length : Int) := of_decide_eq_true zA
 obtain ⟨ad286, e286, hx286_0, hx286_1, hx286_2⟩ := at_T116 HR285_3.out x3_2 p286 q286
 have hw286_2 := hx286_2
 have hw286_1 := hx286_1
 have hw286_0 := hx286_0
 obtain rfl : ad284 = ad286 := (by injection e286)
 replace hx286_0 := zc HB hx286_0
 replace hx286_1 := zc HB hx286_1
 replace hx286_2 := zc HB hx286_2
 replace p286 := eq_true p286
 replace q286 := eq_true q286
 refine start_ (n := 15) (S := fun w' => w'.cell? adp0 = some (.int .i8 ((rd_T41 l0 0).f0.f0)) ∧ w'.cell? ⟨adp0.block, adp0.off + 1, none⟩ = some (.int .i8 ((rd_T41 l0 0).f0.f1)) ∧ w'.cell? ⟨adp0.block, adp0.off + 2, none⟩ = some (.slice A283_2 ((rd_T41 l0 0).f0.f2).length c283_2) ∧ w'.cell? ⟨adp0.block, adp0.off + 3, none⟩ = some (.slice (some ad284) ((rd_T41 l0 0).f1).length c283_3) ∧ w'.cell? ⟨adp0.block, adp0.off + 4, none⟩ = some (.slice A283_4 ((rd_T41 l0 0).f2).length c283_4) ∧ w'.cell? (ad284.add ((x4_4).toNat * 3)) = some (.int .i8 ((rd_T116 ((rd_T41 l0 0).f1) x4_4).f0.f0)) ∧ w'.cell? ⟨(ad284.add ((x4_4).toNat * 3)).block, (ad284.add ((x4_4).toNat * 3)).off + 1, none⟩ = some (.int .i8 ((rd_T116 ((rd_T41 l0 0).f1) x4_4).f0.f1)) ∧ w'.cell? ⟨(ad284.add ((x4_4).toNat * 3)).block, (ad284.add ((x4_4).toNat * 3)).off + 2, none⟩ = some (.int .i8 ((rd_T116 ((rd_T41 l0 0).f1) x4_4).f1)) ∧ w'.cell? adp0 = some (.int .i8 ((rd_T41 l0 0).f0.f0)) ∧ w'.cell? ⟨adp0.block, adp0.off + 1, none⟩ = some (.int .i8 ((rd_T41 l0 0).f0.f1)) ∧ w'.cell? ⟨adp0.block, adp0.off + 2, none⟩ = some (.slice A283_2 ((rd_T41 l0 0).f0.f2).length c283_2) ∧ w'.cell? ⟨adp0.block, adp0.off + 3, none⟩ = some (.slice (some ad284) ((rd_T41 l0 0).f1).length c283_3) ∧ w'.cell? ⟨adp0.block, adp0.off + 4, none⟩ = some (.slice A283_4 ((rd_T41 l0 0).f2).length c283_4) ∧ w'.cell? (ad284.add ((x3_2).toNat * 3)) = some (.int .i8 ((rd_T116 ((rd_T41 l0 0).f1) x3_2).f0.f0)) ∧ w'.cell? ⟨(ad284.add ((x3_2).toNat * 3)).block, (ad284.add ((x3_2).toNat * 3)).off + 1, none⟩ = some (.int .i8 ((rd_T116 ((rd_T41 l0 0).f1) x3_2).f0.f1)) ∧ w'.cell? ⟨(ad284.add ((x3_2).toNat * 3)).block, (ad284.add ((x3_2).toNat * 3)).off + 2, none⟩ = some (.int .i8 ((rd_T116 ((rd_T41 l0 0).f1) x3_2).f1))) (ds := []) (zq 15 0) (by kernel_rfl) rfl rfl ⟨(zc HB hw283_0), (zc HB hw283_1), (zc HB hw283_2), (zc HB hw283_3), (zc HB hw283_4), (zc HB hw284_0), (zc HB hw284_1), (zc HB hw284_2), (zc HB hw285_0), (zc HB hw285_1), (zc HB hw285_2), (zc HB hw285_3), (zc HB hw285_4), (zc HB hw286_0), (zc HB hw286_1), (zc HB hw286_2)⟩ (fun hHeld => ?_); refine with_tabW spec_l03Ok.tab11 spec_l03Ok.bits11 (fun HT_ HW_ => ?_)
 generalize wr.drew = w34 at HB HR283_2 HR283_3 HR283_4 HR285_2 HR285_3 HR285_4 hx283_0 hx283_1 hx283_2 hx283_3 hx283_4 hx284_0 hx284_1 hx284_2 hx285_0 hx285_1 hx285_2 hx285_3 hx285_4 hx286_0 hx286_1 hx286_2 hHeld ⊢
 refine zpu 0 (some 78) (zq 15 1) HT_ ?_
 refine zpu 1 (some 79) (zq 15 3) HT_ ?_
 refine zpu 2 (some 80) (zq 15 7) HT_ ?_
 refine zpu 4 (some 82) (zq 15 23) HT_ ?_
 refine zpu 7 (some 85) (zq 15 151) HT_ ?_
 refine zpu 8 (some 86) (zq 15 407) HT_ ?_
 refine zpu 9 (some 87) (zq 15 919) HT_ ?_
 refine zpu 11 (some 89) (zq 15 2967) HT_ ?_
 refine ztk 3 (some 81) (zq 15 2975) HT_ HW_ rfl hHeld (Or.inl ⟨by rfl, by (rintro w' ⟨s0, s1, s2, s3, s4, s5, s6, s7, s8, s9, s10, s11, s12, s13, s14, s15⟩; go_simp; with_reducible rfl)⟩) ?_
 refine zpu 5 (some 83) (zq 15 3007) HT_ ?_
 refine ztk 6 (some 84) (zq 15 3071) HT_ HW_ rfl hHeld (Or.inl ⟨by rfl, by (rintro w' ⟨s0, s1, s2, s3, s4, s5, s6, s7, s8, s9, s10, s11, s12, s13, s14, s15⟩; go_simp; with_reducible rfl)⟩) ?_
 refine ztk 10 (some 88) (zq 15 4095) HT_ HW_ rfl hHeld (Or.inl ⟨by rfl, by (rintro w' ⟨s0, s1, s2, s3, s4, s5, s6, s7, s8, s9, s10, s11, s12, s13, s14, s15⟩; go_simp; with_reducible rfl)⟩) ?_
 refine zpu 12 (some 90) (zq 15 8191) HT_ ?_
 refine ztk 13 (some 91) (zq 15 16383) HT_ HW_ rfl hHeld (Or.inl ⟨by rfl, by (rintro w' ⟨s0, s1, s2, s3, s4, s5, s6, s7, s8, s9, s10, s11, s12, s13, s14, s15⟩; go_simp; with_reducible rfl)⟩) ?_
 refine zpu 14 (some 92) (zq 15 32767) HT_ ?_
 refine done_ (done_of HT_.out (by kernel_rfl)) ?_
 try go_wp2
 go_roundg k4
 case measure => have := HJ1.out; have := HK2.out; have := HJ16.out; have := HK4.out; omega
 case rel => exact ⟨(wrap64 (x4_4 + 1)), zi, H', ⟨by have := HJ1.out; have := HK2.out; have := HJ16.out; have := HK4.out; omega⟩, zl HB⟩
end Go.Proofs.Ytffnfpnajkgnaaa.PFnExactMoveMachine
