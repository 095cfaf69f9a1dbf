-- WRITTEN by xprint.py, a program of this session's. Not trusted: Lean checks it.
-- packed by pack.py
import Derived.Test.YtffnfpnajkgnaaaPFnExactMoveMachinex0
import Derived.Test.YtffnfpnajkgnaaaPFnExactMoveMachinex7
import Derived.Test.YtffnfpnajkgnaaaTFnExactMoveMachinea
namespace Go.Proofs.Ytffnfpnajkgnaaa.PFnExactMoveMachine
open Go.RowKit Go.Proofs.YtffnfpnajkgnaaaW.PrintWords Go.Proofs.YtffnfpnajkgnaaaW.PrintLast Go.Proofs.YtffnfpnajkgnaaaW.PrintMore Go.Proofs.YtffnfpnajkgnaaaX
attribute [local go_sem] max2_int min2_int max_two min_two max_three min_three max_four min_four   -- for this text's walks alone
set_option maxHeartbeats 8000000
set_option maxRecDepth 100000
set_option linter.unusedVariables false
set_option linter.unusedSimpArgs false

mutual
def spec_l01Ok.j0 : Nat → List (S37) → Bool → Option (Bool)
  | 0, _, _ => none
  | k + 1, x0, x28 => if x28 = true then (some false) else (spec_l01Ok.l0 k x0 0)
def spec_l01Ok.l0 : Nat → List (S37) → Int → Option (Bool)
  | 0, _, _ => none
  | k + 1, x0, x3 => if 0 < (x0.length : Int) then (if x3 < (((rd_T37 x0 0).f2).length : Int) then (if 0 ≤ x3 then ((spec_l01Piece.f [rd_T91 ((rd_T37 x0 0).f2) x3]).bind fun t233 => (if t233 = true then ((spec_l01In.f ((rd_T91 ((rd_T37 x0 0).f2) x3).f0.f0) ((rd_T91 ((rd_T37 x0 0).f2) x3).f0.f1) (wrap64 ((rd_T37 x0 0).f0)) (wrap64 ((rd_T37 x0 0).f1))).bind fun t237 => (if t237 = true then ((spec_l01Find.f k x0 ((rd_T91 ((rd_T37 x0 0).f2) x3).f0.f0) ((rd_T91 ((rd_T37 x0 0).f2) x3).f0.f1)).bind fun t239 => (if t239 = x3 then (spec_l01Ok.l0 k x0 (wrap64 (x3 + 1))) else (some false))) else (some false))) else (some false))) else (none)) else (some true)) else (none)
end
def spec_l01Ok.f (k : Nat) (l0 : List (S37)) : Option (Bool) := if 0 < (l0.length : Int) then ((spec_l00In.f (wrap64 ((rd_T37 l0 0).f0)) 1 24).bind fun t226 => (if t226 = true then ((spec_l00In.f (wrap64 ((rd_T37 l0 0).f1)) 1 24).bind fun t228 => (if t228 = true then (spec_l01Ok.j0 k l0 (decide ((((rd_T37 l0 0).f2).length : Int) > 200))) else (spec_l01Ok.j0 k l0 true))) else (spec_l01Ok.j0 k l0 true))) else (none)
theorem spec_l01Ok.mono_l : ∀ k, (∀ y0 y1, LeO (spec_l01Ok.j0 k y0 y1) (spec_l01Ok.j0 (k + 1) y0 y1)) ∧ (∀ y0 y1, LeO (spec_l01Ok.l0 k y0 y1) (spec_l01Ok.l0 (k + 1) y0 y1))
  | 0 => ⟨fun _ _ r h => by simp [spec_l01Ok.j0] at h, fun _ _ r h => by simp [spec_l01Ok.l0] at h⟩
  | k + 1 => by
    obtain ⟨ih0, ih1⟩ := spec_l01Ok.mono_l k
    refine ⟨?_, ?_⟩
    · intro y0 y1
      unfold spec_l01Ok.j0
      repeat' first | (with_reducible first | apply ih0 | apply ih1 | apply spec_l01Find.mono | exact LeO.refl _ | exact LeO.none _ | refine LeO.ite ?_ ?_ | refine LeO.bind ?_ (fun _ => ?_)) | apply ih0 | apply ih1 | apply spec_l01Find.mono | exact LeO.none _ | refine LeO.ite ?_ ?_ | refine LeO.bind ?_ (fun _ => ?_)
    · intro y0 y1
      unfold spec_l01Ok.l0
      repeat' first | (with_reducible first | apply ih0 | apply ih1 | apply spec_l01Find.mono | exact LeO.refl _ | exact LeO.none _ | refine LeO.ite ?_ ?_ | refine LeO.bind ?_ (fun _ => ?_)) | apply ih0 | apply ih1 | apply spec_l01Find.mono | exact LeO.none _ | refine LeO.ite ?_ ?_ | refine LeO.bind ?_ (fun _ => ?_)
theorem spec_l01Ok.mono : ∀ a0 k, LeO (spec_l01Ok.f k a0) (spec_l01Ok.f (k + 1) a0) := by
 intro a0 k
 obtain ⟨ih0, ih1⟩ := spec_l01Ok.mono_l k
 unfold spec_l01Ok.f
 repeat' first | (with_reducible first | apply ih0 | apply ih1 | apply spec_l01Find.mono | exact LeO.refl _ | exact LeO.none _ | refine LeO.ite ?_ ?_ | refine LeO.bind ?_ (fun _ => ?_)) | apply ih0 | apply ih1 | apply spec_l01Find.mono | exact LeO.none _ | refine LeO.ite ?_ ?_ | refine LeO.bind ?_ (fun _ => ?_)
def spec_l01Ok.T7 : Bool × List (List Nat × List Nat) := (true, [([], []), ([0], [0]), ([1], [1]), ([2, 1], [2]), ([3], [3]), ([4, 3], [3, 4]), ([5, 3], [3, 5]), ([6, 3], [3, 6]), ([3], [3]), ([8, 3], [3, 8]), ([9, 3], [3, 9]), ([10, 3], [3, 10]), ([11, 3], [3, 11]), ([3], [3]), ([13, 3], [3, 13]), ([14, 3], [3, 14]), ([15, 3], [3, 15]), ([16, 3], [3, 16]), ([7, 12, 17, 3, 3], [3, 7, 12, 17]), ([18, 3], [3, 18]), ([3, 19], [3, 19]), ([20, 18], [20]), ([21], [21]), ([21], [21]), ([23, 21], [21, 23]), ([24, 21], [21, 24]), ([25, 21], [21, 25]), ([22, 26, 21, 21], [21, 22, 26]), ([21], [21]), ([27, 28, 21], [21, 27, 28]), ([21, 29], [21, 29])])
def spec_l01Ok.B7 : List Nat := [0, 1, 3, 7, 15, 31, 63, 127, 15, 271, 783, 1807, 3855, 15, 8207, 24591, 57359, 122895, 262143, 524287, 1048575, 2097151, 4194303, 4194303, 12582911, 29360127, 62914559, 134217727, 4194303, 536870911, 1073741823]
theorem spec_l01Ok.tab7 : rtab .any (opsOf Try.f106 7) = spec_l01Ok.T7 := by kernel_rfl
theorem spec_l01Ok.bits7 : waitsOk spec_l01Ok.T7.2 spec_l01Ok.B7 = true := by kernel_rfl
theorem spec_l01Ok.calls (k : Nat) (adp0 : Addr) (l0 : List (S37)) (r : Bool) (w : World) (hr0 : Kd.C k37 w (some adp0) l0.length l0) (h : spec_l01Ok.f k l0 = some r) :
    Calls Try.prog 106 #[.pointer (some adp0)] w fun e w' => e = .returned (.bool r) ∧ Below w.heap.size w w' := by
 have hu74 := Try.underlying74
 have HR0 := Aside0.mk hr0
 clear hr0
 have HB := Aside0.mk (Below.refl w.heap.size w)
 have H : (if 0 < (l0.length : Int) then ((spec_l00In.f (wrap64 ((rd_T37 l0 0).f0)) 1 24).bind fun t226 => (if t226 = true then ((spec_l00In.f (wrap64 ((rd_T37 l0 0).f1)) 1 24).bind fun t228 => (if t228 = true then (spec_l01Ok.j0 k l0 (decide ((((rd_T37 l0 0).f2).length : Int) > 200))) else (spec_l01Ok.j0 k l0 true))) else (spec_l01Ok.j0 k l0 true))) else (none)) = some r := h
 clear h
 have HC2 := Aside0.mk H
 clear H
 go_enter Try.func106, Try.ntmps106
 go_upto_region 1 with (fail)
 go_cut [28] (fun v28 wc => ∃ (kq : Nat) (x28_1 : Bool), v28 = .bool x28_1 ∧ Aside0 (spec_l01Ok.j0 kq l0 x28_1 = some r) ∧ Aside0 (kq ≤ k) ∧ Aside0 (Below w.heap.size w wc))
 case first =>
  have H := HC2.out
  clear HC2
  by_cases c3 : 0 < (l0.length : Int)
  rotate_left
  ·rw [if_neg c3] at H
   exact absurd H (by simp)
  rw [if_pos c3] at H
  have c3b0 : decide (0 < (l0.length : Int)) = true := decide_eq_true c3
  have c3b1 : decide (0 < l0.length) = true := decide_eq_true (by omega)
  clear c3
  (first | rw [c3b0] | (simp only [i64_w, i32_w]; rw [c3b0]) | (have h_ := c3b0; simp only [bne] at h_; rw [h_]) | skip)
  replace H := zob H
  obtain ⟨t226, A40, H⟩ := H
  replace H : (if t226 = true then ((spec_l00In.f (wrap64 ((rd_T37 l0 0).f1)) 1 24).bind fun t228 => (if t228 = true then (spec_l01Ok.j0 k l0 (decide ((((rd_T37 l0 0).f2).length : Int) > 200))) else (spec_l01Ok.j0 k l0 true))) else (spec_l01Ok.j0 k l0 true)) = some r := H
  have A4 := Aside0.mk A40
  clear A40
  by_cases c5 : t226 = true
  rotate_left
  ·replace c5 := Bool.eq_false_iff.mpr c5
   subst c5
   have H1 : (spec_l01Ok.j0 k l0 true) = some r := by rw [if_neg (show ¬ (false = true) by decide)] at H; exact H
   clear H
   have H := H1
   clear H1
   have H' := Aside0.mk H
   clear H
   have p225 : 0 ≤ (0 : Int) := (by omega)
   have q225 : 0 < (l0.length : Int) := of_decide_eq_true zA
   obtain ⟨ad225, A225_2, c225_2, e225, hx225_0, hx225_1, hx225_2, hl225_2, hi225_2⟩ := at_T37 HR0.out 0 p225 q225
   obtain rfl : adp0 = ad225 := (by injection e225)
   have qi225 : (0 < l0.length) = True := eq_true (by omega)
   try simp only [z00, Nat.zero_mul, Addr.add_zero'] at hx225_0 hx225_1 hx225_2
   replace hx225_0 := zc HB hx225_0
   replace hx225_1 := zc HB hx225_1
   replace hx225_2 := zc HB hx225_2
   have HR225_2 := Aside0.mk hi225_2
   have HC225_2 := Aside0.mk hl225_2
   clear hi225_2 hl225_2
   replace p225 := eq_true p225
   replace q225 := eq_true q225
   go_wp2_with (first | ((with_reducible refine gate_callee (f := 96) rfl ?_); refine goesL_ (some 10) rfl rfl Try.func96 (by kernel_rfl) rfl #[.int .i64 (wrap64 ((rd_T37 l0 0).f0)), .int .i64 1, .int .i64 24] rfl zm ?_; (with_reducible refine (spec_l00In.calls (wrap64 ((rd_T37 l0 0).f0)) 1 24 false _ A4.out).mono ?_); rintro e w' ⟨rfl, ⟨nd, rfl⟩⟩; refine ⟨_, rfl, ?_⟩))
   go_meet
   case rel => exact ⟨_, (true), zi, H', ⟨by first | omega | exact Nat.le_refl _⟩, zl HB⟩
  subst c5
  have H1 : ((spec_l00In.f (wrap64 ((rd_T37 l0 0).f1)) 1 24).bind fun t228 => (if t228 = true then (spec_l01Ok.j0 k l0 (decide ((((rd_T37 l0 0).f2).length : Int) > 200))) else (spec_l01Ok.j0 k l0 true))) = some r := by rw [if_pos rfl] at H; exact H
  clear H
  have H := H1
  clear H1
  replace H := zob H
  obtain ⟨t228, A60, H⟩ := H
  replace H : (if t228 = true then (spec_l01Ok.j0 k l0 (decide ((((rd_T37 l0 0).f2).length : Int) > 200))) else (spec_l01Ok.j0 k l0 true)) = some r := H
  have A6 := Aside0.mk A60
  clear A60
  by_cases c7 : t228 = true
  rotate_left
  ·replace c7 := Bool.eq_false_iff.mpr c7
   subst c7
   have H1 : (spec_l01Ok.j0 k l0 true) = some r := by rw [if_neg (show ¬ (false = true) by decide)] at H; exact H
   clear H
   have H := H1
   clear H1
   have H' := Aside0.mk H
   clear H
   have p225 : 0 ≤ (0 : Int) := (by omega)
   have q225 : 0 < (l0.length : Int) := of_decide_eq_true zA
   obtain ⟨ad225, A225_2, c225_2, e225, hx225_0, hx225_1, hx225_2, hl225_2, hi225_2⟩ := at_T37 HR0.out 0 p225 q225
   obtain rfl : adp0 = ad225 := (by injection e225)
   have qi225 : (0 < l0.length) = True := eq_true (by omega)
   try simp only [z00, Nat.zero_mul, Addr.add_zero'] at hx225_0 hx225_1 hx225_2
   replace hx225_0 := zc HB hx225_0
   replace hx225_1 := zc HB hx225_1
   replace hx225_2 := zc HB hx225_2
   have HR225_2 := Aside0.mk hi225_2
   have HC225_2 := Aside0.mk hl225_2
   clear hi225_2 hl225_2
   replace p225 := eq_true p225
   replace q225 := eq_true q225
   go_wp2_with (first | ((with_reducible refine gate_callee (f := 96) rfl ?_); refine goesL_ (some 10) rfl rfl Try.func96 (by kernel_rfl) rfl #[.int .i64 (wrap64 ((rd_T37 l0 0).f0)), .int .i64 1, .int .i64 24] rfl zm ?_; (with_reducible refine (spec_l00In.calls (wrap64 ((rd_T37 l0 0).f0)) 1 24 true _ A4.out).mono ?_); rintro e w' ⟨rfl, ⟨nd, rfl⟩⟩; refine ⟨_, rfl, ?_⟩; have p227 : 0 ≤ (0 : Int) := (by omega); have q227 : 0 < (l0.length : Int) := of_decide_eq_true zA; obtain ⟨ad227, A227_2, c227_2, e227, hx227_0, hx227_1, hx227_2, hl227_2, hi227_2⟩ := at_T37 HR0.out 0 p227 q227; obtain rfl : adp0 = ad227 := (by injection e227); have qi227 : (0 < l0.length) = True := eq_true (by omega); (try simp only [z00, Nat.zero_mul, Addr.add_zero'] at hx227_0 hx227_1 hx227_2); replace hx227_0 := zc HB hx227_0; replace hx227_1 := zc HB hx227_1; replace hx227_2 := zc HB hx227_2; have HR227_2 := Aside0.mk hi227_2; have HC227_2 := Aside0.mk hl227_2; clear hi227_2 hl227_2; replace p227 := eq_true p227; replace q227 := eq_true q227; have ea_ := Option.some.inj (hx225_2.symm.trans hx227_2); injection ea_ with ea_ en_ ec_; subst ea_; subst ec_; clear en_) | (go_at_call 96; (with_reducible refine (spec_l00In.calls (wrap64 ((rd_T37 l0 0).f1)) 1 24 false _ A6.out).mono ?_); rintro e w' ⟨rfl, ⟨nd, rfl⟩⟩))
   go_meet
   case rel => exact ⟨_, (true), zi, H', ⟨by first | omega | exact Nat.le_refl _⟩, zl HB⟩
  subst c7
  have H1 : (spec_l01Ok.j0 k l0 (decide ((((rd_T37 l0 0).f2).length : Int) > 200))) = some r := by rw [if_pos rfl] at H; exact H
  clear H
  have H := H1
  clear H1
  have H' := Aside0.mk H
  clear H
  have p225 : 0 ≤ (0 : Int) := (by omega)
  have q225 : 0 < (l0.length : Int) := of_decide_eq_true zA
  obtain ⟨ad225, A225_2, c225_2, e225, hx225_0, hx225_1, hx225_2, hl225_2, hi225_2⟩ := at_T37 HR0.out 0 p225 q225
  obtain rfl : adp0 = ad225 := (by injection e225)
  have qi225 : (0 < l0.length) = True := eq_true (by omega)
  try simp only [z00, Nat.zero_mul, Addr.add_zero'] at hx225_0 hx225_1 hx225_2
  replace hx225_0 := zc HB hx225_0
  replace hx225_1 := zc HB hx225_1
  replace hx225_2 := zc HB hx225_2
  have HR225_2 := Aside0.mk hi225_2
  have HC225_2 := Aside0.mk hl225_2
  clear hi225_2 hl225_2
  replace p225 := eq_true p225
  replace q225 := eq_true q225
  go_wp2_with (first | ((with_reducible refine gate_callee (f := 96) rfl ?_); refine goesL_ (some 10) rfl rfl Try.func96 (by kernel_rfl) rfl #[.int .i64 (wrap64 ((rd_T37 l0 0).f0)), .int .i64 1, .int .i64 24] rfl zm ?_; (with_reducible refine (spec_l00In.calls (wrap64 ((rd_T37 l0 0).f0)) 1 24 true _ A4.out).mono ?_); rintro e w' ⟨rfl, ⟨nd, rfl⟩⟩; refine ⟨_, rfl, ?_⟩; have p227 : 0 ≤ (0 : Int) := (by omega); have q227 : 0 < (l0.length : Int) := of_decide_eq_true zA; obtain ⟨ad227, A227_2, c227_2, e227, hx227_0, hx227_1, hx227_2, hl227_2, hi227_2⟩ := at_T37 HR0.out 0 p227 q227; obtain rfl : adp0 = ad227 := (by injection e227); have qi227 : (0 < l0.length) = True := eq_true (by omega); (try simp only [z00, Nat.zero_mul, Addr.add_zero'] at hx227_0 hx227_1 hx227_2); replace hx227_0 := zc HB hx227_0; replace hx227_1 := zc HB hx227_1; replace hx227_2 := zc HB hx227_2; have HR227_2 := Aside0.mk hi227_2; have HC227_2 := Aside0.mk hl227_2; clear hi227_2 hl227_2; replace p227 := eq_true p227; replace q227 := eq_true q227; have ea_ := Option.some.inj (hx225_2.symm.trans hx227_2); injection ea_ with ea_ en_ ec_; subst ea_; subst ec_; clear en_) | (go_at_call 96; (with_reducible refine (spec_l00In.calls (wrap64 ((rd_T37 l0 0).f1)) 1 24 true _ A6.out).mono ?_); rintro e w' ⟨rfl, ⟨nd, rfl⟩⟩; have p229 : 0 ≤ (0 : Int) := (by omega); have q229 : 0 < (l0.length : Int) := of_decide_eq_true zA; obtain ⟨ad229, A229_2, c229_2, e229, hx229_0, hx229_1, hx229_2, hl229_2, hi229_2⟩ := at_T37 HR0.out 0 p229 q229; obtain rfl : adp0 = ad229 := (by injection e229); have qi229 : (0 < l0.length) = True := eq_true (by omega); (try simp only [z00, Nat.zero_mul, Addr.add_zero'] at hx229_0 hx229_1 hx229_2); replace hx229_0 := zc HB hx229_0; replace hx229_1 := zc HB hx229_1; replace hx229_2 := zc HB hx229_2; have HR229_2 := Aside0.mk hi229_2; have HC229_2 := Aside0.mk hl229_2; clear hi229_2 hl229_2; replace p229 := eq_true p229; replace q229 := eq_true q229; have ea_ := Option.some.inj (hx225_2.symm.trans hx229_2); injection ea_ with ea_ en_ ec_; subst ea_; subst ec_; clear en_))
  go_meet
  case rel => exact ⟨_, (decide ((((rd_T37 l0 0).f2).length : Int) > 200)), zi, H', ⟨by first | omega | exact Nat.le_refl _⟩, zl HB⟩
 clear HC2
 try clear c1
 try clear c2
 try clear p2
 try clear q2
 try clear hx2
 try clear qi2
 try clear c3
 try clear c3b0
 try clear c3b1
 try clear c5
 try clear p6
 try clear c7
 try clear hx225_0
 try clear hx225_1
 try clear hx225_2
 try clear hx227_0
 try clear hx227_1
 try clear hx227_2
 try clear hx229_0
 try clear hx229_1
 try clear hx229_2
 try clear p225
 try clear p227
 try clear p229
 try clear q225
 try clear q227
 try clear q229
 obtain ⟨kq, x28_1, rfl, HA, HJ1, HB⟩ := hcut
 cases kq with
 | zero => exact absurd HA.out (by simp [spec_l01Ok.j0])
 | succ kj1 => ?_
 have H := HA.out
 clear HA
 simp only [spec_l01Ok.j0] at H
 by_cases c8 : x28_1 = true
 ·subst c8
  have H1 : (some false) = some r := by rw [if_pos rfl] at H; exact H
  clear H
  have H := H1
  clear H1
  obtain rfl := Option.some.inj H
  go_wp2
  go_ret
  exact ⟨zv, zbo⟩
 replace c8 := Bool.eq_false_iff.mpr c8
 subst c8
 have H1 : (spec_l01Ok.l0 kj1 l0 0) = some r := by rw [if_neg (show ¬ (false = true) by decide)] at H; exact H
 clear H
 have H := H1
 clear H1
 have H' := Aside0.mk H
 clear H
 go_wp2
 go_loopg [3] kj1 (fun kq v3 w' => ∃ (x3_2 : Int), v3 = .int .i64 x3_2 ∧ Aside0 (spec_l01Ok.l0 kq l0 x3_2 = some r) ∧ Aside0 (kq ≤ kj1) ∧ Aside0 (Below w.heap.size w w'))
 case atStart => exact ⟨(0), zi, H', ⟨Nat.le_refl _⟩, zl HB⟩
 clear H'
 try clear c1
 try clear c2
 try clear p2
 try clear q2
 try clear hx2
 try clear qi2
 try clear c3
 try clear c3b0
 try clear c3b1
 try clear c5
 try clear p6
 try clear c7
 try clear c8
 try clear hx225_0
 try clear hx225_1
 try clear hx225_2
 try clear hx227_0
 try clear hx227_1
 try clear hx227_2
 try clear hx229_0
 try clear hx229_1
 try clear hx229_2
 try clear p2
 try clear p225
 try clear p227
 try clear p229
 try clear p6
 try clear q2
 try clear q225
 try clear q227
 try clear q229
 obtain ⟨x3_2, rfl, HA, HK2, HB⟩ := hrel
 cases gk with
 | zero => exact absurd HA.out (by simp [spec_l01Ok.l0])
 | succ k2 => ?_
 have H := HA.out
 clear HA
 simp only [spec_l01Ok.l0] at H
 by_cases c9 : 0 < (l0.length : Int)
 rotate_left
 ·rw [if_neg c9] at H
  exact absurd H (by simp)
 rw [if_pos c9] at H
 have c9b0 : decide (0 < (l0.length : Int)) = true := decide_eq_true c9
 have c9b1 : decide (0 < l0.length) = true := decide_eq_true (by omega)
 clear c9
 by_cases c10 : x3_2 < (((rd_T37 l0 0).f2).length : Int)
 rotate_left
 ·rw [if_neg c10] at H
  have c10b0 : decide (x3_2 < (((rd_T37 l0 0).f2).length : Int)) = false := decide_eq_false c10
  clear c10
  obtain rfl := Option.some.inj H
  have p230 : 0 ≤ (0 : Int) := (by omega)
  have q230 : 0 < (l0.length : Int) := of_decide_eq_true zA
  obtain ⟨ad230, A230_2, c230_2, e230, hx230_0, hx230_1, hx230_2, hl230_2, hi230_2⟩ := at_T37 HR0.out 0 p230 q230
  obtain rfl : adp0 = ad230 := (by injection e230)
  have qi230 : (0 < l0.length) = True := eq_true (by omega)
  try simp only [z00, Nat.zero_mul, Addr.add_zero'] at hx230_0 hx230_1 hx230_2
  replace hx230_0 := zc HB hx230_0
  replace hx230_1 := zc HB hx230_1
  replace hx230_2 := zc HB hx230_2
  have HR230_2 := Aside0.mk hi230_2
  have HC230_2 := Aside0.mk hl230_2
  clear hi230_2 hl230_2
  replace p230 := eq_true p230
  replace q230 := eq_true q230
  go_wp2
  go_ret
  exact ⟨zv, zbo⟩
 rw [if_pos c10] at H
 have c10b0 : decide (x3_2 < (((rd_T37 l0 0).f2).length : Int)) = true := decide_eq_true c10
 clear c10
 by_cases c11 : 0 ≤ x3_2
 rotate_left
 ·rw [if_neg c11] at H
  exact absurd H (by simp)
 rw [if_pos c11] at H
 have c11b0 : decide (0 ≤ x3_2) = true := decide_eq_true c11
 clear c11
 replace H := zob H
 obtain ⟨t233, A120, H⟩ := H
 replace H : (if t233 = true then ((spec_l01In.f ((rd_T91 ((rd_T37 l0 0).f2) x3_2).f0.f0) ((rd_T91 ((rd_T37 l0 0).f2) x3_2).f0.f1) (wrap64 ((rd_T37 l0 0).f0)) (wrap64 ((rd_T37 l0 0).f1))).bind fun t237 => (if t237 = true then ((spec_l01Find.f k2 l0 ((rd_T91 ((rd_T37 l0 0).f2) x3_2).f0.f0) ((rd_T91 ((rd_T37 l0 0).f2) x3_2).f0.f1)).bind fun t239 => (if t239 = x3_2 then (spec_l01Ok.l0 k2 l0 (wrap64 (x3_2 + 1))) else (some false))) else (some false))) else (some false)) = some r := H
 have A12 := Aside0.mk A120
 clear A120
 by_cases c13 : t233 = true
 rotate_left
 ·replace c13 := Bool.eq_false_iff.mpr c13
  subst c13
  have H1 : (some false) = some r := by rw [if_neg (show ¬ (false = true) by decide)] at H; exact H
  clear H
  have H := H1
  clear H1
  obtain rfl := Option.some.inj H
  have p230 : 0 ≤ (0 : Int) := (by omega)
  have q230 : 0 < (l0.length : Int) := of_decide_eq_true zA
  obtain ⟨ad230, A230_2, c230_2, e230, hx230_0, hx230_1, hx230_2, hl230_2, hi230_2⟩ := at_T37 HR0.out 0 p230 q230
  obtain rfl : adp0 = ad230 := (by injection e230)
  have qi230 : (0 < l0.length) = True := eq_true (by omega)
  try simp only [z00, Nat.zero_mul, Addr.add_zero'] at hx230_0 hx230_1 hx230_2
  replace hx230_0 := zc HB hx230_0
  replace hx230_1 := zc HB hx230_1
  replace hx230_2 := zc HB hx230_2
  have HR230_2 := Aside0.mk hi230_2
  have HC230_2 := Aside0.mk hl230_2
  clear hi230_2 hl230_2
  replace p230 := eq_true p230
  replace q230 := eq_true q230
  have p231 : 0 ≤ (0 : Int) := (by omega)
  have q231 : 0 < (l0.length : Int) := of_decide_eq_true zA
  obtain ⟨ad231, A231_2, c231_2, e231, hx231_0, hx231_1, hx231_2, hl231_2, hi231_2⟩ := at_T37 HR0.out 0 p231 q231
  obtain rfl : adp0 = ad231 := (by injection e231)
  have qi231 : (0 < l0.length) = True := eq_true (by omega)
  try simp only [z00, Nat.zero_mul, Addr.add_zero'] at hx231_0 hx231_1 hx231_2
  replace hx231_0 := zc HB hx231_0
  replace hx231_1 := zc HB hx231_1
  replace hx231_2 := zc HB hx231_2
  have HR231_2 := Aside0.mk hi231_2
  have HC231_2 := Aside0.mk hl231_2
  clear hi231_2 hl231_2
  replace p231 := eq_true p231
  replace q231 := eq_true q231
  have ea_ := Option.some.inj (hx230_2.symm.trans hx231_2)
  injection ea_ with ea_ en_ ec_
  subst ea_
  subst ec_
  clear en_
  have p232 : 0 ≤ (x3_2 : Int) := of_decide_eq_true zA
  have q232 : x3_2 < (((rd_T37 l0 0).f2).length : Int) := of_decide_eq_true zA
  obtain ⟨ad232, e232, hx232_0, hx232_1, hx232_2, hx232_3, hx232_4⟩ := at_T91 HR231_2.out x3_2 p232 q232
  cases e232
  replace hx232_0 := zc HB hx232_0
  replace hx232_1 := zc HB hx232_1
  replace hx232_2 := zc HB hx232_2
  replace hx232_3 := zc HB hx232_3
  replace hx232_4 := zc HB hx232_4
  replace p232 := eq_true p232
  replace q232 := eq_true q232
  try go_wp2
  have n0_ := Aside0.mk (below_drew1 HB.out)
  clear HB
  have HB := n0_
  clear n0_
  refine start_ (n := 31) (S := fun w' => True) (ds := []) (zq 31 0) (by kernel_rfl) rfl rfl trivial (fun hHeld => ?_); refine with_tabW spec_l01Ok.tab7 spec_l01Ok.bits7 (fun HT_ HW_ => ?_)
  generalize wr.drew = w29 at HB hHeld ⊢
  refine zpu 0 (some 44) (zq 31 1) HT_ ?_
  refine one_ (i := 1) (N := some 45) (zq 31 3) rfl rfl (one_of HT_.out (by kernel_rfl)) (by decide) (fun K hK => ?_)
  refine goes_ Try.func132 (by kernel_rfl) rfl #[.pointer (some (ad232.add (x3_2.toNat * 5)))] (by rfl) rfl rfl zm ?_
  with_reducible refine (spec_l01Piece.calls _ [rd_T91 ((rd_T37 l0 0).f2) x3_2] false _ ?side1 A12.out).mono ?_
  (case side1 => refine ro_of_elem (d := k91) z91 x3_2 (by first | exact of_eq_true p232 | omega) (by first | exact of_eq_true q232 | omega) ?_; exact zcc HB HR231_2.out)
  rintro e w30 ⟨rfl, hb⟩
  refine ⟨_, rfl, ?_⟩
  have n0_ := zb HB hb
  clear HB
  have HB := n0_
  clear n0_
  (try clear hb)
  (try clear hb2)
  (try clear hk)
  (try clear hi)
  refine hK.out _ _ trivial (fun hHeld => ?_)
  clear hK K
  refine norm_ (a' := ?_) ?_ ?_
  rotate_left
  ·show Act.put _ (some 45) _ = _
   exact zap
  refine zpu 2 (some 46) (zq 31 7) HT_ ?_
  refine zpu 3 (some 47) (zq 31 15) HT_ ?_
  refine zpn 4 (some 48) (zq 31 31) HT_ ?_
  refine zpn 5 (some 49) (zq 31 63) HT_ ?_
  refine zpn 6 (some 50) (zq 31 127) HT_ ?_
  refine zpn 7 (some 51) (zq 31 255) HT_ ?_
  refine zpn 8 (some 52) (zq 31 511) HT_ ?_
  refine zpn 9 (some 53) (zq 31 1023) HT_ ?_
  refine zpn 10 (some 54) (zq 31 2047) HT_ ?_
  refine zpn 11 (some 55) (zq 31 4095) HT_ ?_
  refine zpn 12 (some 56) (zq 31 8191) HT_ ?_
  refine zpn 13 (some 57) (zq 31 16383) HT_ ?_
  refine zpn 14 (some 58) (zq 31 32767) HT_ ?_
  refine zpn 15 (some 59) (zq 31 65535) HT_ ?_
  refine zpn 16 (some 60) (zq 31 131071) HT_ ?_
  refine zpn 17 (some 61) (zq 31 262143) HT_ ?_
  refine zpn 18 (some 62) (zq 31 524287) HT_ ?_
  refine zpn 19 (some 63) (zq 31 1048575) HT_ ?_
  refine zpu 20 (some 64) (zq 31 2097151) HT_ ?_
  refine zpu 21 (some 65) (zq 31 4194303) HT_ ?_
  refine zpn 22 (some 66) (zq 31 8388607) HT_ ?_
  refine zpn 23 (some 67) (zq 31 16777215) HT_ ?_
  refine zpn 24 (some 68) (zq 31 33554431) HT_ ?_
  refine zpn 25 (some 69) (zq 31 67108863) HT_ ?_
  refine zpn 26 (some 70) (zq 31 134217727) HT_ ?_
  refine zpn 27 (some 71) (zq 31 268435455) HT_ ?_
  refine zpn 28 (some 72) (zq 31 536870911) HT_ ?_
  refine zpn 29 (some 73) (zq 31 1073741823) HT_ ?_
  refine zpu 30 (some 74) (zq 31 2147483647) HT_ ?_
  refine done_ (done_of HT_.out (by kernel_rfl)) ?_
  try go_wp2
  go_ret
  exact ⟨zv, zbo⟩
 subst c13
 have H1 : ((spec_l01In.f ((rd_T91 ((rd_T37 l0 0).f2) x3_2).f0.f0) ((rd_T91 ((rd_T37 l0 0).f2) x3_2).f0.f1) (wrap64 ((rd_T37 l0 0).f0)) (wrap64 ((rd_T37 l0 0).f1))).bind fun t237 => (if t237 = true then ((spec_l01Find.f k2 l0 ((rd_T91 ((rd_T37 l0 0).f2) x3_2).f0.f0) ((rd_T91 ((rd_T37 l0 0).f2) x3_2).f0.f1)).bind fun t239 => (if t239 = x3_2 then (spec_l01Ok.l0 k2 l0 (wrap64 (x3_2 + 1))) else (some false))) else (some false))) = some r := by rw [if_pos rfl] at H; exact H
 clear H
 have H := H1
 clear H1
 replace H := zob H
 obtain ⟨t237, A140, H⟩ := H
 replace H : (if t237 = true then ((spec_l01Find.f k2 l0 ((rd_T91 ((rd_T37 l0 0).f2) x3_2).f0.f0) ((rd_T91 ((rd_T37 l0 0).f2) x3_2).f0.f1)).bind fun t239 => (if t239 = x3_2 then (spec_l01Ok.l0 k2 l0 (wrap64 (x3_2 + 1))) else (some false))) else (some false)) = some r := H
 have A14 := Aside0.mk A140
 clear A140
 by_cases c15 : t237 = true
 rotate_left
 ·replace c15 := Bool.eq_false_iff.mpr c15
  subst c15
  have H1 : (some false) = some r := by rw [if_neg (show ¬ (false = true) by decide)] at H; exact H
  clear H
  have H := H1
  clear H1
  obtain rfl := Option.some.inj H
  have p230 : 0 ≤ (0 : Int) := (by omega)
  have q230 : 0 < (l0.length : Int) := of_decide_eq_true zA
  obtain ⟨ad230, A230_2, c230_2, e230, hx230_0, hx230_1, hx230_2, hl230_2, hi230_2⟩ := at_T37 HR0.out 0 p230 q230
  obtain rfl : adp0 = ad230 := (by injection e230)
  have qi230 : (0 < l0.length) = True := eq_true (by omega)
  try simp only [z00, Nat.zero_mul, Addr.add_zero'] at hx230_0 hx230_1 hx230_2
  replace hx230_0 := zc HB hx230_0
  replace hx230_1 := zc HB hx230_1
  replace hx230_2 := zc HB hx230_2
  have HR230_2 := Aside0.mk hi230_2
  have HC230_2 := Aside0.mk hl230_2
  clear hi230_2 hl230_2
  replace p230 := eq_true p230
  replace q230 := eq_true q230
  have p231 : 0 ≤ (0 : Int) := (by omega)
  have q231 : 0 < (l0.length : Int) := of_decide_eq_true zA
  obtain ⟨ad231, A231_2, c231_2, e231, hx231_0, hx231_1, hx231_2, hl231_2, hi231_2⟩ := at_T37 HR0.out 0 p231 q231
  obtain rfl : adp0 = ad231 := (by injection e231)
  have qi231 : (0 < l0.length) = True := eq_true (by omega)
  try simp only [z00, Nat.zero_mul, Addr.add_zero'] at hx231_0 hx231_1 hx231_2
  replace hx231_0 := zc HB hx231_0
  replace hx231_1 := zc HB hx231_1
  replace hx231_2 := zc HB hx231_2
  have HR231_2 := Aside0.mk hi231_2
  have HC231_2 := Aside0.mk hl231_2
  clear hi231_2 hl231_2
  replace p231 := eq_true p231
  replace q231 := eq_true q231
  have ea_ := Option.some.inj (hx230_2.symm.trans hx231_2)
  injection ea_ with ea_ en_ ec_
  subst ea_
  subst ec_
  clear en_
  have p232 : 0 ≤ (x3_2 : Int) := of_decide_eq_true zA
  have q232 : x3_2 < (((rd_T37 l0 0).f2).length : Int) := of_decide_eq_true zA
  obtain ⟨ad232, e232, hx232_0, hx232_1, hx232_2, hx232_3, hx232_4⟩ := at_T91 HR231_2.out x3_2 p232 q232
  cases e232
  replace hx232_0 := zc HB hx232_0
  replace hx232_1 := zc HB hx232_1
  replace hx232_2 := zc HB hx232_2
  replace hx232_3 := zc HB hx232_3
  replace hx232_4 := zc HB hx232_4
  replace p232 := eq_true p232
  replace q232 := eq_true q232
  try go_wp2
  have n0_ := Aside0.mk (below_drew1 HB.out)
  clear HB
  have HB := n0_
  clear n0_
  have p234 : 0 ≤ (x3_2 : Int) := of_decide_eq_true zA
  have q234 : x3_2 < (((rd_T37 l0 0).f2).length : Int) := of_decide_eq_true zA
  obtain ⟨ad234, e234, hx234_0, hx234_1, hx234_2, hx234_3, hx234_4⟩ := at_T91 HR231_2.out x3_2 p234 q234
  have hw234_4 := hx234_4
  have hw234_3 := hx234_3
  have hw234_2 := hx234_2
  have hw234_1 := hx234_1
  have hw234_0 := hx234_0
  obtain rfl : ad232 = ad234 := (by injection e234)
  replace hx234_0 := zc HB hx234_0
  replace hx234_1 := zc HB hx234_1
  replace hx234_2 := zc HB hx234_2
  replace hx234_3 := zc HB hx234_3
  replace hx234_4 := zc HB hx234_4
  replace p234 := eq_true p234
  replace q234 := eq_true q234
  have p235 : 0 ≤ (0 : Int) := (by omega)
  have q235 : 0 < (l0.length : Int) := of_decide_eq_true zA
  obtain ⟨ad235, A235_2, c235_2, e235, hx235_0, hx235_1, hx235_2, hl235_2, hi235_2⟩ := at_T37 HR0.out 0 p235 q235
  have hw235_2 := hx235_2
  try simp only [z00, Nat.zero_mul, Addr.add_zero'] at hw235_2
  have hw235_1 := hx235_1
  try simp only [z00, Nat.zero_mul, Addr.add_zero'] at hw235_1
  have hw235_0 := hx235_0
  try simp only [z00, Nat.zero_mul, Addr.add_zero'] at hw235_0
  obtain rfl : adp0 = ad235 := (by injection e235)
  have qi235 : (0 < l0.length) = True := eq_true (by omega)
  try simp only [z00, Nat.zero_mul, Addr.add_zero'] at hx235_0 hx235_1 hx235_2
  replace hx235_0 := zc HB hx235_0
  replace hx235_1 := zc HB hx235_1
  replace hx235_2 := zc HB hx235_2
  have HR235_2 := Aside0.mk hi235_2
  have HC235_2 := Aside0.mk hl235_2
  clear hi235_2 hl235_2
  replace p235 := eq_true p235
  replace q235 := eq_true q235
  have p236 : 0 ≤ (0 : Int) := (by omega)
  have q236 : 0 < (l0.length : Int) := of_decide_eq_true zA
  obtain ⟨ad236, A236_2, c236_2, e236, hx236_0, hx236_1, hx236_2, hl236_2, hi236_2⟩ := at_T37 HR0.out 0 p236 q236
  have hw236_2 := hx236_2
  try simp only [z00, Nat.zero_mul, Addr.add_zero'] at hw236_2
  have hw236_1 := hx236_1
  try simp only [z00, Nat.zero_mul, Addr.add_zero'] at hw236_1
  have hw236_0 := hx236_0
  try simp only [z00, Nat.zero_mul, Addr.add_zero'] at hw236_0
  obtain rfl : adp0 = ad236 := (by injection e236)
  have qi236 : (0 < l0.length) = True := eq_true (by omega)
  try simp only [z00, Nat.zero_mul, Addr.add_zero'] at hx236_0 hx236_1 hx236_2
  replace hx236_0 := zc HB hx236_0
  replace hx236_1 := zc HB hx236_1
  replace hx236_2 := zc HB hx236_2
  have HR236_2 := Aside0.mk hi236_2
  have HC236_2 := Aside0.mk hl236_2
  clear hi236_2 hl236_2
  replace p236 := eq_true p236
  replace q236 := eq_true q236
  have ea_ := Option.some.inj (hx235_2.symm.trans hx236_2)
  injection ea_ with ea_ en_ ec_
  subst ea_
  subst ec_
  clear en_
  refine start_ (n := 31) (S := fun w' => w'.cell? (ad232.add ((x3_2).toNat * 5)) = some (.int .i8 ((rd_T91 ((rd_T37 l0 0).f2) x3_2).f0.f0)) ∧ w'.cell? ⟨(ad232.add ((x3_2).toNat * 5)).block, (ad232.add ((x3_2).toNat * 5)).off + 1, none⟩ = some (.int .i8 ((rd_T91 ((rd_T37 l0 0).f2) x3_2).f0.f1)) ∧ w'.cell? ⟨(ad232.add ((x3_2).toNat * 5)).block, (ad232.add ((x3_2).toNat * 5)).off + 2, none⟩ = some (.int .i8 ((rd_T91 ((rd_T37 l0 0).f2) x3_2).f1)) ∧ w'.cell? ⟨(ad232.add ((x3_2).toNat * 5)).block, (ad232.add ((x3_2).toNat * 5)).off + 3, none⟩ = some (.int .i8 ((rd_T91 ((rd_T37 l0 0).f2) x3_2).f2)) ∧ w'.cell? ⟨(ad232.add ((x3_2).toNat * 5)).block, (ad232.add ((x3_2).toNat * 5)).off + 4, none⟩ = some (.int .i8 ((rd_T91 ((rd_T37 l0 0).f2) x3_2).f3)) ∧ w'.cell? adp0 = some (.int .i8 ((rd_T37 l0 0).f0)) ∧ w'.cell? ⟨adp0.block, adp0.off + 1, none⟩ = some (.int .i8 ((rd_T37 l0 0).f1)) ∧ w'.cell? ⟨adp0.block, adp0.off + 2, none⟩ = some (.slice A235_2 ((rd_T37 l0 0).f2).length c235_2) ∧ w'.cell? adp0 = some (.int .i8 ((rd_T37 l0 0).f0)) ∧ w'.cell? ⟨adp0.block, adp0.off + 1, none⟩ = some (.int .i8 ((rd_T37 l0 0).f1)) ∧ w'.cell? ⟨adp0.block, adp0.off + 2, none⟩ = some (.slice A235_2 ((rd_T37 l0 0).f2).length c235_2)) (ds := []) (zq 31 0) (by kernel_rfl) rfl rfl ⟨(zc HB hw234_0), (zc HB hw234_1), (zc HB hw234_2), (zc HB hw234_3), (zc HB hw234_4), (zc HB hw235_0), (zc HB hw235_1), (zc HB hw235_2), (zc HB hw236_0), (zc HB hw236_1), (zc HB hw236_2)⟩ (fun hHeld => ?_); refine with_tabW spec_l01Ok.tab7 spec_l01Ok.bits7 (fun HT_ HW_ => ?_)
  generalize wr.drew = w26 at HB HR235_2 HR236_2 hx234_0 hx234_1 hx234_2 hx234_3 hx234_4 hx235_0 hx235_1 hx235_2 hx236_0 hx236_1 hx236_2 hHeld ⊢
  refine zpu 0 (some 44) (zq 31 1) HT_ ?_
  refine one_ (i := 1) (N := some 45) (zq 31 3) rfl rfl (one_of HT_.out (by kernel_rfl)) (by decide) (fun K hK => ?_)
  refine goes_ Try.func132 (by kernel_rfl) rfl #[.pointer (some (ad232.add (x3_2.toNat * 5)))] (by rfl) rfl rfl zm ?_
  with_reducible refine (spec_l01Piece.calls _ [rd_T91 ((rd_T37 l0 0).f2) x3_2] true _ ?side1 A12.out).mono ?_
  (case side1 => refine ro_of_elem (d := k91) z91 x3_2 (by first | exact of_eq_true p232 | omega) (by first | exact of_eq_true q232 | omega) ?_; exact zcc HB HR231_2.out)
  rintro e w27 ⟨rfl, hb⟩
  refine ⟨_, rfl, ?_⟩
  have n0_ := zb HB hb
  clear HB
  have HB := n0_
  clear n0_
  (try clear hb)
  (try clear hb2)
  (try clear hk)
  (try clear hi)
  refine hK.out _ _ ⟨(zc HB hw234_0), (zc HB hw234_1), (zc HB hw234_2), (zc HB hw234_3), (zc HB hw234_4), (zc HB hw235_0), (zc HB hw235_1), (zc HB hw235_2), (zc HB hw236_0), (zc HB hw236_1), (zc HB hw236_2)⟩ (fun hHeld => ?_)
  clear hK K
  refine norm_ (a' := ?_) ?_ ?_
  rotate_left
  ·show Act.put _ (some 45) _ = _
   exact zap
  refine zpu 2 (some 46) (zq 31 7) HT_ ?_
  refine zpu 3 (some 47) (zq 31 15) HT_ ?_
  refine zpu 4 (some 48) (zq 31 31) HT_ ?_
  refine zpu 5 (some 49) (zq 31 63) HT_ ?_
  refine zpu 6 (some 50) (zq 31 127) HT_ ?_
  refine zpu 8 (some 52) (zq 31 383) HT_ ?_
  refine zpu 9 (some 53) (zq 31 895) HT_ ?_
  refine zpu 10 (some 54) (zq 31 1919) HT_ ?_
  refine zpu 13 (some 57) (zq 31 10111) HT_ ?_
  refine zpu 14 (some 58) (zq 31 26495) HT_ ?_
  refine zpu 15 (some 59) (zq 31 59263) HT_ ?_
  refine ztk 7 (some 51) (zq 31 59391) HT_ HW_ rfl hHeld (Or.inl ⟨by rfl, by (rintro w' ⟨s0, s1, s2, s3, s4, s5, s6, s7, s8, s9, s10⟩; go_simp; with_reducible rfl)⟩) ?_
  refine ztk 11 (some 55) (zq 31 61439) HT_ HW_ rfl hHeld (Or.inl ⟨by rfl, by (rintro w' ⟨s0, s1, s2, s3, s4, s5, s6, s7, s8, s9, s10⟩; go_simp; with_reducible rfl)⟩) ?_
  refine zpu 12 (some 56) (zq 31 65535) HT_ ?_
  refine ztk 16 (some 60) (zq 31 131071) HT_ HW_ rfl hHeld (Or.inl ⟨by rfl, by (rintro w' ⟨s0, s1, s2, s3, s4, s5, s6, s7, s8, s9, s10⟩; go_simp; with_reducible rfl)⟩) ?_
  refine zpu 17 (some 61) (zq 31 262143) HT_ ?_
  refine one_ (i := 18) (N := some 62) (zq 31 524287) rfl rfl (one_of HT_.out (by kernel_rfl)) (by decide) (fun K hK => ?_)
  refine goes_ Try.func133 (by kernel_rfl) rfl #[.agg #[.int .i8 ((rd_T91 ((rd_T37 l0 0).f2) x3_2).f0.f0), .int .i8 ((rd_T91 ((rd_T37 l0 0).f2) x3_2).f0.f1)], .int .i64 (wrap64 ((rd_T37 l0 0).f0)), .int .i64 (wrap64 ((rd_T37 l0 0).f1))] (by rfl) rfl rfl zm ?_
  with_reducible refine (spec_l01In.calls ((rd_T91 ((rd_T37 l0 0).f2) x3_2).f0.f0) ((rd_T91 ((rd_T37 l0 0).f2) x3_2).f0.f1) (wrap64 ((rd_T37 l0 0).f0)) (wrap64 ((rd_T37 l0 0).f1)) false _ A14.out).mono ?_
  rintro e w28 ⟨rfl, hb⟩
  refine ⟨_, rfl, ?_⟩
  have n0_ := zb HB hb
  clear HB
  have HB := n0_
  clear n0_
  (try clear hb)
  (try clear hb2)
  (try clear hk)
  (try clear hi)
  refine hK.out _ _ ⟨(zc HB hw234_0), (zc HB hw234_1), (zc HB hw234_2), (zc HB hw234_3), (zc HB hw234_4), (zc HB hw235_0), (zc HB hw235_1), (zc HB hw235_2), (zc HB hw236_0), (zc HB hw236_1), (zc HB hw236_2)⟩ (fun hHeld => ?_)
  clear hK K
  refine norm_ (a' := ?_) ?_ ?_
  rotate_left
  ·show Act.put _ (some 62) _ = _
   exact zap
  refine zpu 19 (some 63) (zq 31 1048575) HT_ ?_
  refine zpu 20 (some 64) (zq 31 2097151) HT_ ?_
  refine zpu 21 (some 65) (zq 31 4194303) HT_ ?_
  refine zpn 22 (some 66) (zq 31 8388607) HT_ ?_
  refine zpn 23 (some 67) (zq 31 16777215) HT_ ?_
  refine zpn 24 (some 68) (zq 31 33554431) HT_ ?_
  refine zpn 25 (some 69) (zq 31 67108863) HT_ ?_
  refine zpn 26 (some 70) (zq 31 134217727) HT_ ?_
  refine zpn 27 (some 71) (zq 31 268435455) HT_ ?_
  refine zpn 28 (some 72) (zq 31 536870911) HT_ ?_
  refine zpn 29 (some 73) (zq 31 1073741823) HT_ ?_
  refine zpu 30 (some 74) (zq 31 2147483647) HT_ ?_
  refine done_ (done_of HT_.out (by kernel_rfl)) ?_
  try go_wp2
  go_ret
  exact ⟨zv, zbo⟩
 subst c15
 have H1 : ((spec_l01Find.f k2 l0 ((rd_T91 ((rd_T37 l0 0).f2) x3_2).f0.f0) ((rd_T91 ((rd_T37 l0 0).f2) x3_2).f0.f1)).bind fun t239 => (if t239 = x3_2 then (spec_l01Ok.l0 k2 l0 (wrap64 (x3_2 + 1))) else (some false))) = some r := by rw [if_pos rfl] at H; exact H
 clear H
 have H := H1
 clear H1
 replace H := zob H
 obtain ⟨t239, A160, H⟩ := H
 replace H : (if t239 = x3_2 then (spec_l01Ok.l0 k2 l0 (wrap64 (x3_2 + 1))) else (some false)) = some r := H
 have A16 := Aside0.mk A160
 clear A160
 by_cases c17 : t239 = x3_2
 rotate_left
 ·rw [if_neg c17] at H
  have c17b0 : (t239 == x3_2) = false := beq_eq_false_iff_ne.mpr c17
  have c17b1 : (t239 != x3_2) = true := bne_iff_ne.mpr c17
  obtain rfl := Option.some.inj H
  have p230 : 0 ≤ (0 : Int) := (by omega)
  have q230 : 0 < (l0.length : Int) := of_decide_eq_true zA
  obtain ⟨ad230, A230_2, c230_2, e230, hx230_0, hx230_1, hx230_2, hl230_2, hi230_2⟩ := at_T37 HR0.out 0 p230 q230
  obtain rfl : adp0 = ad230 := (by injection e230)
  have qi230 : (0 < l0.length) = True := eq_true (by omega)
  try simp only [z00, Nat.zero_mul, Addr.add_zero'] at hx230_0 hx230_1 hx230_2
  replace hx230_0 := zc HB hx230_0
  replace hx230_1 := zc HB hx230_1
  replace hx230_2 := zc HB hx230_2
  have HR230_2 := Aside0.mk hi230_2
  have HC230_2 := Aside0.mk hl230_2
  clear hi230_2 hl230_2
  replace p230 := eq_true p230
  replace q230 := eq_true q230
  have p231 : 0 ≤ (0 : Int) := (by omega)
  have q231 : 0 < (l0.length : Int) := of_decide_eq_true zA
  obtain ⟨ad231, A231_2, c231_2, e231, hx231_0, hx231_1, hx231_2, hl231_2, hi231_2⟩ := at_T37 HR0.out 0 p231 q231
  obtain rfl : adp0 = ad231 := (by injection e231)
  have qi231 : (0 < l0.length) = True := eq_true (by omega)
  try simp only [z00, Nat.zero_mul, Addr.add_zero'] at hx231_0 hx231_1 hx231_2
  replace hx231_0 := zc HB hx231_0
  replace hx231_1 := zc HB hx231_1
  replace hx231_2 := zc HB hx231_2
  have HR231_2 := Aside0.mk hi231_2
  have HC231_2 := Aside0.mk hl231_2
  clear hi231_2 hl231_2
  replace p231 := eq_true p231
  replace q231 := eq_true q231
  have ea_ := Option.some.inj (hx230_2.symm.trans hx231_2)
  injection ea_ with ea_ en_ ec_
  subst ea_
  subst ec_
  clear en_
  have p232 : 0 ≤ (x3_2 : Int) := of_decide_eq_true zA
  have q232 : x3_2 < (((rd_T37 l0 0).f2).length : Int) := of_decide_eq_true zA
  obtain ⟨ad232, e232, hx232_0, hx232_1, hx232_2, hx232_3, hx232_4⟩ := at_T91 HR231_2.out x3_2 p232 q232
  cases e232
  replace hx232_0 := zc HB hx232_0
  replace hx232_1 := zc HB hx232_1
  replace hx232_2 := zc HB hx232_2
  replace hx232_3 := zc HB hx232_3
  replace hx232_4 := zc HB hx232_4
  replace p232 := eq_true p232
  replace q232 := eq_true q232
  try go_wp2
  have n0_ := Aside0.mk (below_drew1 HB.out)
  clear HB
  have HB := n0_
  clear n0_
  have p234 : 0 ≤ (x3_2 : Int) := of_decide_eq_true zA
  have q234 : x3_2 < (((rd_T37 l0 0).f2).length : Int) := of_decide_eq_true zA
  obtain ⟨ad234, e234, hx234_0, hx234_1, hx234_2, hx234_3, hx234_4⟩ := at_T91 HR231_2.out x3_2 p234 q234
  have hw234_4 := hx234_4
  have hw234_3 := hx234_3
  have hw234_2 := hx234_2
  have hw234_1 := hx234_1
  have hw234_0 := hx234_0
  obtain rfl : ad232 = ad234 := (by injection e234)
  replace hx234_0 := zc HB hx234_0
  replace hx234_1 := zc HB hx234_1
  replace hx234_2 := zc HB hx234_2
  replace hx234_3 := zc HB hx234_3
  replace hx234_4 := zc HB hx234_4
  replace p234 := eq_true p234
  replace q234 := eq_true q234
  have p235 : 0 ≤ (0 : Int) := (by omega)
  have q235 : 0 < (l0.length : Int) := of_decide_eq_true zA
  obtain ⟨ad235, A235_2, c235_2, e235, hx235_0, hx235_1, hx235_2, hl235_2, hi235_2⟩ := at_T37 HR0.out 0 p235 q235
  have hw235_2 := hx235_2
  try simp only [z00, Nat.zero_mul, Addr.add_zero'] at hw235_2
  have hw235_1 := hx235_1
  try simp only [z00, Nat.zero_mul, Addr.add_zero'] at hw235_1
  have hw235_0 := hx235_0
  try simp only [z00, Nat.zero_mul, Addr.add_zero'] at hw235_0
  obtain rfl : adp0 = ad235 := (by injection e235)
  have qi235 : (0 < l0.length) = True := eq_true (by omega)
  try simp only [z00, Nat.zero_mul, Addr.add_zero'] at hx235_0 hx235_1 hx235_2
  replace hx235_0 := zc HB hx235_0
  replace hx235_1 := zc HB hx235_1
  replace hx235_2 := zc HB hx235_2
  have HR235_2 := Aside0.mk hi235_2
  have HC235_2 := Aside0.mk hl235_2
  clear hi235_2 hl235_2
  replace p235 := eq_true p235
  replace q235 := eq_true q235
  have p236 : 0 ≤ (0 : Int) := (by omega)
  have q236 : 0 < (l0.length : Int) := of_decide_eq_true zA
  obtain ⟨ad236, A236_2, c236_2, e236, hx236_0, hx236_1, hx236_2, hl236_2, hi236_2⟩ := at_T37 HR0.out 0 p236 q236
  have hw236_2 := hx236_2
  try simp only [z00, Nat.zero_mul, Addr.add_zero'] at hw236_2
  have hw236_1 := hx236_1
  try simp only [z00, Nat.zero_mul, Addr.add_zero'] at hw236_1
  have hw236_0 := hx236_0
  try simp only [z00, Nat.zero_mul, Addr.add_zero'] at hw236_0
  obtain rfl : adp0 = ad236 := (by injection e236)
  have qi236 : (0 < l0.length) = True := eq_true (by omega)
  try simp only [z00, Nat.zero_mul, Addr.add_zero'] at hx236_0 hx236_1 hx236_2
  replace hx236_0 := zc HB hx236_0
  replace hx236_1 := zc HB hx236_1
  replace hx236_2 := zc HB hx236_2
  have HR236_2 := Aside0.mk hi236_2
  have HC236_2 := Aside0.mk hl236_2
  clear hi236_2 hl236_2
  replace p236 := eq_true p236
  replace q236 := eq_true q236
  have ea_ := Option.some.inj (hx235_2.symm.trans hx236_2)
  injection ea_ with ea_ en_ ec_
  subst ea_
  subst ec_
  clear en_
  have p238 : 0 ≤ (x3_2 : Int) := of_decide_eq_true zA
  have q238 : x3_2 < (((rd_T37 l0 0).f2).length : Int) := of_decide_eq_true zA
  obtain ⟨ad238, e238, hx238_0, hx238_1, hx238_2, hx238_3, hx238_4⟩ := at_T91 HR231_2.out x3_2 p238 q238
  have hw238_4 := hx238_4
  have hw238_3 := hx238_3
  have hw238_2 := hx238_2
  have hw238_1 := hx238_1
  have hw238_0 := hx238_0
  obtain rfl : ad232 = ad238 := (by injection e238)
  replace hx238_0 := zc HB hx238_0
  replace hx238_1 := zc HB hx238_1
  replace hx238_2 := zc HB hx238_2
  replace hx238_3 := zc HB hx238_3
  replace hx238_4 := zc HB hx238_4
  replace p238 := eq_true p238
  replace q238 := eq_true q238
  refine start_ (n := 31) (S := fun w' => w'.cell? (ad232.add ((x3_2).toNat * 5)) = some (.int .i8 ((rd_T91 ((rd_T37 l0 0).f2) x3_2).f0.f0)) ∧ w'.cell? ⟨(ad232.add ((x3_2).toNat * 5)).block, (ad232.add ((x3_2).toNat * 5)).off + 1, none⟩ = some (.int .i8 ((rd_T91 ((rd_T37 l0 0).f2) x3_2).f0.f1)) ∧ w'.cell? ⟨(ad232.add ((x3_2).toNat * 5)).block, (ad232.add ((x3_2).toNat * 5)).off + 2, none⟩ = some (.int .i8 ((rd_T91 ((rd_T37 l0 0).f2) x3_2).f1)) ∧ w'.cell? ⟨(ad232.add ((x3_2).toNat * 5)).block, (ad232.add ((x3_2).toNat * 5)).off + 3, none⟩ = some (.int .i8 ((rd_T91 ((rd_T37 l0 0).f2) x3_2).f2)) ∧ w'.cell? ⟨(ad232.add ((x3_2).toNat * 5)).block, (ad232.add ((x3_2).toNat * 5)).off + 4, none⟩ = some (.int .i8 ((rd_T91 ((rd_T37 l0 0).f2) x3_2).f3)) ∧ w'.cell? adp0 = some (.int .i8 ((rd_T37 l0 0).f0)) ∧ w'.cell? ⟨adp0.block, adp0.off + 1, none⟩ = some (.int .i8 ((rd_T37 l0 0).f1)) ∧ w'.cell? ⟨adp0.block, adp0.off + 2, none⟩ = some (.slice A235_2 ((rd_T37 l0 0).f2).length c235_2) ∧ w'.cell? adp0 = some (.int .i8 ((rd_T37 l0 0).f0)) ∧ w'.cell? ⟨adp0.block, adp0.off + 1, none⟩ = some (.int .i8 ((rd_T37 l0 0).f1)) ∧ w'.cell? ⟨adp0.block, adp0.off + 2, none⟩ = some (.slice A235_2 ((rd_T37 l0 0).f2).length c235_2) ∧ w'.cell? (ad232.add ((x3_2).toNat * 5)) = some (.int .i8 ((rd_T91 ((rd_T37 l0 0).f2) x3_2).f0.f0)) ∧ w'.cell? ⟨(ad232.add ((x3_2).toNat * 5)).block, (ad232.add ((x3_2).toNat * 5)).off + 1, none⟩ = some (.int .i8 ((rd_T91 ((rd_T37 l0 0).f2) x3_2).f0.f1)) ∧ w'.cell? ⟨(ad232.add ((x3_2).toNat * 5)).block, (ad232.add ((x3_2).toNat * 5)).off + 2, none⟩ = some (.int .i8 ((rd_T91 ((rd_T37 l0 0).f2) x3_2).f1)) ∧ w'.cell? ⟨(ad232.add ((x3_2).toNat * 5)).block, (ad232.add ((x3_2).toNat * 5)).off + 3, none⟩ = some (.int .i8 ((rd_T91 ((rd_T37 l0 0).f2) x3_2).f2)) ∧ w'.cell? ⟨(ad232.add ((x3_2).toNat * 5)).block, (ad232.add ((x3_2).toNat * 5)).off + 4, none⟩ = some (.int .i8 ((rd_T91 ((rd_T37 l0 0).f2) x3_2).f3))) (ds := []) (zq 31 0) (by kernel_rfl) rfl rfl ⟨(zc HB hw234_0), (zc HB hw234_1), (zc HB hw234_2), (zc HB hw234_3), (zc HB hw234_4), (zc HB hw235_0), (zc HB hw235_1), (zc HB hw235_2), (zc HB hw236_0), (zc HB hw236_1), (zc HB hw236_2), (zc HB hw238_0), (zc HB hw238_1), (zc HB hw238_2), (zc HB hw238_3), (zc HB hw238_4)⟩ (fun hHeld => ?_); refine with_tabW spec_l01Ok.tab7 spec_l01Ok.bits7 (fun HT_ HW_ => ?_)
  generalize wr.drew = w22 at HB HR235_2 HR236_2 hx234_0 hx234_1 hx234_2 hx234_3 hx234_4 hx235_0 hx235_1 hx235_2 hx236_0 hx236_1 hx236_2 hx238_0 hx238_1 hx238_2 hx238_3 hx238_4 hHeld ⊢
  refine zpu 0 (some 44) (zq 31 1) HT_ ?_
  refine one_ (i := 1) (N := some 45) (zq 31 3) rfl rfl (one_of HT_.out (by kernel_rfl)) (by decide) (fun K hK => ?_)
  refine goes_ Try.func132 (by kernel_rfl) rfl #[.pointer (some (ad232.add (x3_2.toNat * 5)))] (by rfl) rfl rfl zm ?_
  with_reducible refine (spec_l01Piece.calls _ [rd_T91 ((rd_T37 l0 0).f2) x3_2] true _ ?side1 A12.out).mono ?_
  (case side1 => refine ro_of_elem (d := k91) z91 x3_2 (by first | exact of_eq_true p232 | omega) (by first | exact of_eq_true q232 | omega) ?_; exact zcc HB HR231_2.out)
  rintro e w23 ⟨rfl, hb⟩
  refine ⟨_, rfl, ?_⟩
  have n0_ := zb HB hb
  clear HB
  have HB := n0_
  clear n0_
  (try clear hb)
  (try clear hb2)
  (try clear hk)
  (try clear hi)
  refine hK.out _ _ ⟨(zc HB hw234_0), (zc HB hw234_1), (zc HB hw234_2), (zc HB hw234_3), (zc HB hw234_4), (zc HB hw235_0), (zc HB hw235_1), (zc HB hw235_2), (zc HB hw236_0), (zc HB hw236_1), (zc HB hw236_2), (zc HB hw238_0), (zc HB hw238_1), (zc HB hw238_2), (zc HB hw238_3), (zc HB hw238_4)⟩ (fun hHeld => ?_)
  clear hK K
  refine norm_ (a' := ?_) ?_ ?_
  rotate_left
  ·show Act.put _ (some 45) _ = _
   exact zap
  refine zpu 2 (some 46) (zq 31 7) HT_ ?_
  refine zpu 3 (some 47) (zq 31 15) HT_ ?_
  refine zpu 4 (some 48) (zq 31 31) HT_ ?_
  refine zpu 5 (some 49) (zq 31 63) HT_ ?_
  refine zpu 6 (some 50) (zq 31 127) HT_ ?_
  refine zpu 8 (some 52) (zq 31 383) HT_ ?_
  refine zpu 9 (some 53) (zq 31 895) HT_ ?_
  refine zpu 10 (some 54) (zq 31 1919) HT_ ?_
  refine zpu 13 (some 57) (zq 31 10111) HT_ ?_
  refine zpu 14 (some 58) (zq 31 26495) HT_ ?_
  refine zpu 15 (some 59) (zq 31 59263) HT_ ?_
  refine ztk 7 (some 51) (zq 31 59391) HT_ HW_ rfl hHeld (Or.inl ⟨by rfl, by (rintro w' ⟨s0, s1, s2, s3, s4, s5, s6, s7, s8, s9, s10, s11, s12, s13, s14, s15⟩; go_simp; with_reducible rfl)⟩) ?_
  refine ztk 11 (some 55) (zq 31 61439) HT_ HW_ rfl hHeld (Or.inl ⟨by rfl, by (rintro w' ⟨s0, s1, s2, s3, s4, s5, s6, s7, s8, s9, s10, s11, s12, s13, s14, s15⟩; go_simp; with_reducible rfl)⟩) ?_
  refine zpu 12 (some 56) (zq 31 65535) HT_ ?_
  refine ztk 16 (some 60) (zq 31 131071) HT_ HW_ rfl hHeld (Or.inl ⟨by rfl, by (rintro w' ⟨s0, s1, s2, s3, s4, s5, s6, s7, s8, s9, s10, s11, s12, s13, s14, s15⟩; go_simp; with_reducible rfl)⟩) ?_
  refine zpu 17 (some 61) (zq 31 262143) HT_ ?_
  refine one_ (i := 18) (N := some 62) (zq 31 524287) rfl rfl (one_of HT_.out (by kernel_rfl)) (by decide) (fun K hK => ?_)
  refine goes_ Try.func133 (by kernel_rfl) rfl #[.agg #[.int .i8 ((rd_T91 ((rd_T37 l0 0).f2) x3_2).f0.f0), .int .i8 ((rd_T91 ((rd_T37 l0 0).f2) x3_2).f0.f1)], .int .i64 (wrap64 ((rd_T37 l0 0).f0)), .int .i64 (wrap64 ((rd_T37 l0 0).f1))] (by rfl) rfl rfl zm ?_
  with_reducible refine (spec_l01In.calls ((rd_T91 ((rd_T37 l0 0).f2) x3_2).f0.f0) ((rd_T91 ((rd_T37 l0 0).f2) x3_2).f0.f1) (wrap64 ((rd_T37 l0 0).f0)) (wrap64 ((rd_T37 l0 0).f1)) true _ A14.out).mono ?_
  rintro e w24 ⟨rfl, hb⟩
  refine ⟨_, rfl, ?_⟩
  have n0_ := zb HB hb
  clear HB
  have HB := n0_
  clear n0_
  (try clear hb)
  (try clear hb2)
  (try clear hk)
  (try clear hi)
  refine hK.out _ _ ⟨(zc HB hw234_0), (zc HB hw234_1), (zc HB hw234_2), (zc HB hw234_3), (zc HB hw234_4), (zc HB hw235_0), (zc HB hw235_1), (zc HB hw235_2), (zc HB hw236_0), (zc HB hw236_1), (zc HB hw236_2), (zc HB hw238_0), (zc HB hw238_1), (zc HB hw238_2), (zc HB hw238_3), (zc HB hw238_4)⟩ (fun hHeld => ?_)
  clear hK K
  refine norm_ (a' := ?_) ?_ ?_
  rotate_left
  ·show Act.put _ (some 62) _ = _
   exact zap
  refine zpu 19 (some 63) (zq 31 1048575) HT_ ?_
  refine zpu 20 (some 64) (zq 31 2097151) HT_ ?_
  refine zpu 21 (some 65) (zq 31 4194303) HT_ ?_
  refine zpu 22 (some 66) (zq 31 8388607) HT_ ?_
  refine zpu 23 (some 67) (zq 31 16777215) HT_ ?_
  refine zpu 24 (some 68) (zq 31 33554431) HT_ ?_
  refine zpu 25 (some 69) (zq 31 67108863) HT_ ?_
  refine zpu 28 (some 72) (zq 31 335544319) HT_ ?_
  refine ztk 26 (some 70) (zq 31 402653183) HT_ HW_ rfl hHeld (Or.inl ⟨by rfl, by (rintro w' ⟨s0, s1, s2, s3, s4, s5, s6, s7, s8, s9, s10, s11, s12, s13, s14, s15⟩; go_simp; with_reducible rfl)⟩) ?_
  refine one_ (i := 27) (N := some 71) (zq 31 536870911) rfl rfl (one_of HT_.out (by kernel_rfl)) (by decide) (fun K hK => ?_)
  refine goes_ Try.func111 (by kernel_rfl) rfl #[.pointer (some adp0), .agg #[.int .i8 ((rd_T91 ((rd_T37 l0 0).f2) x3_2).f0.f0), .int .i8 ((rd_T91 ((rd_T37 l0 0).f2) x3_2).f0.f1)]] (by rfl) rfl rfl zm ?_
  with_reducible refine (spec_l01Find.calls k2 _ l0 ((rd_T91 ((rd_T37 l0 0).f2) x3_2).f0.f0) ((rd_T91 ((rd_T37 l0 0).f2) x3_2).f0.f1) t239 _ ?side1 A16.out).mono ?_
  (case side1 => exact zcc HB HR0.out)
  rintro e w25 ⟨rfl, hb⟩
  refine ⟨_, rfl, ?_⟩
  have n0_ := zb HB hb
  clear HB
  have HB := n0_
  clear n0_
  (try clear hb)
  (try clear hb2)
  (try clear hk)
  (try clear hi)
  refine hK.out _ _ ⟨(zc HB hw234_0), (zc HB hw234_1), (zc HB hw234_2), (zc HB hw234_3), (zc HB hw234_4), (zc HB hw235_0), (zc HB hw235_1), (zc HB hw235_2), (zc HB hw236_0), (zc HB hw236_1), (zc HB hw236_2), (zc HB hw238_0), (zc HB hw238_1), (zc HB hw238_2), (zc HB hw238_3), (zc HB hw238_4)⟩ (fun hHeld => ?_)
  clear hK K
  refine norm_ (a' := ?_) ?_ ?_
  rotate_left
  ·show Act.put _ (some 71) _ = _
   exact zap
  refine zpu 29 (some 73) (zq 31 1073741823) HT_ ?_
  refine zpu 30 (some 74) (zq 31 2147483647) HT_ ?_
  refine done_ (done_of HT_.out (by kernel_rfl)) ?_
  try go_wp2
  go_ret
  exact ⟨zv, zbo⟩
 rw [if_pos c17] at H
 have c17b0 : (t239 == x3_2) = true := beq_iff_eq.mpr c17
 have c17b1 : (t239 != x3_2) = false := bne_eq_false_iff_eq.mpr c17
 clear c17
 have H' := Aside0.mk H
 clear H
 have p230 : 0 ≤ (0 : Int) := (by omega)
 have q230 : 0 < (l0.length : Int) := of_decide_eq_true zA
 obtain ⟨ad230, A230_2, c230_2, e230, hx230_0, hx230_1, hx230_2, hl230_2, hi230_2⟩ := at_T37 HR0.out 0 p230 q230
 obtain rfl : adp0 = ad230 := (by injection e230)
 have qi230 : (0 < l0.length) = True := eq_true (by omega)
 try simp only [z00, Nat.zero_mul, Addr.add_zero'] at hx230_0 hx230_1 hx230_2
 replace hx230_0 := zc HB hx230_0
 replace hx230_1 := zc HB hx230_1
 replace hx230_2 := zc HB hx230_2
 have HR230_2 := Aside0.mk hi230_2
 have HC230_2 := Aside0.mk hl230_2
 clear hi230_2 hl230_2
 replace p230 := eq_true p230
 replace q230 := eq_true q230
 have p231 : 0 ≤ (0 : Int) := (by omega)
 have q231 : 0 < (l0.length : Int) := of_decide_eq_true zA
 obtain ⟨ad231, A231_2, c231_2, e231, hx231_0, hx231_1, hx231_2, hl231_2, hi231_2⟩ := at_T37 HR0.out 0 p231 q231
 obtain rfl : adp0 = ad231 := (by injection e231)
 have qi231 : (0 < l0.length) = True := eq_true (by omega)
 try simp only [z00, Nat.zero_mul, Addr.add_zero'] at hx231_0 hx231_1 hx231_2
 replace hx231_0 := zc HB hx231_0
 replace hx231_1 := zc HB hx231_1
 replace hx231_2 := zc HB hx231_2
 have HR231_2 := Aside0.mk hi231_2
 have HC231_2 := Aside0.mk hl231_2
 clear hi231_2 hl231_2
 replace p231 := eq_true p231
 replace q231 := eq_true q231
 have ea_ := Option.some.inj (hx230_2.symm.trans hx231_2)
 injection ea_ with ea_ en_ ec_
 subst ea_
 subst ec_
 clear en_
 have p232 : 0 ≤ (x3_2 : Int) := of_decide_eq_true zA
 have q232 : x3_2 < (((rd_T37 l0 0).f2).length : Int) := of_decide_eq_true zA
 obtain ⟨ad232, e232, hx232_0, hx232_1, hx232_2, hx232_3, hx232_4⟩ := at_T91 HR231_2.out x3_2 p232 q232
 cases e232
 replace hx232_0 := zc HB hx232_0
 replace hx232_1 := zc HB hx232_1
 replace hx232_2 := zc HB hx232_2
 replace hx232_3 := zc HB hx232_3
 replace hx232_4 := zc HB hx232_4
 replace p232 := eq_true p232
 replace q232 := eq_true q232
 try go_wp2
 have n0_ := Aside0.mk (below_drew1 HB.out)
 clear HB
 have HB := n0_
 clear n0_
 have p234 : 0 ≤ (x3_2 : Int) := of_decide_eq_true zA
 have q234 : x3_2 < (((rd_T37 l0 0).f2).length : Int) := of_decide_eq_true zA
 obtain ⟨ad234, e234, hx234_0, hx234_1, hx234_2, hx234_3, hx234_4⟩ := at_T91 HR231_2.out x3_2 p234 q234
 have hw234_4 := hx234_4
 have hw234_3 := hx234_3
 have hw234_2 := hx234_2
 have hw234_1 := hx234_1
 have hw234_0 := hx234_0
 obtain rfl : ad232 = ad234 := (by injection e234)
 replace hx234_0 := zc HB hx234_0
 replace hx234_1 := zc HB hx234_1
 replace hx234_2 := zc HB hx234_2
 replace hx234_3 := zc HB hx234_3
 replace hx234_4 := zc HB hx234_4
 replace p234 := eq_true p234
 replace q234 := eq_true q234
 have p235 : 0 ≤ (0 : Int) := (by omega)
 have q235 : 0 < (l0.length : Int) := of_decide_eq_true zA
 obtain ⟨ad235, A235_2, c235_2, e235, hx235_0, hx235_1, hx235_2, hl235_2, hi235_2⟩ := at_T37 HR0.out 0 p235 q235
 have hw235_2 := hx235_2
 try simp only [z00, Nat.zero_mul, Addr.add_zero'] at hw235_2
 have hw235_1 := hx235_1
 try simp only [z00, Nat.zero_mul, Addr.add_zero'] at hw235_1
 have hw235_0 := hx235_0
 try simp only [z00, Nat.zero_mul, Addr.add_zero'] at hw235_0
 obtain rfl : adp0 = ad235 := (by injection e235)
 have qi235 : (0 < l0.length) = True := eq_true (by omega)
 try simp only [z00, Nat.zero_mul, Addr.add_zero'] at hx235_0 hx235_1 hx235_2
 replace hx235_0 := zc HB hx235_0
 replace hx235_1 := zc HB hx235_1
 replace hx235_2 := zc HB hx235_2
 have HR235_2 := Aside0.mk hi235_2
 have HC235_2 := Aside0.mk hl235_2
 clear hi235_2 hl235_2
 replace p235 := eq_true p235
 replace q235 := eq_true q235
 have p236 : 0 ≤ (0 : Int) := (by omega)
 have q236 : 0 < (l0.length : Int) := of_decide_eq_true zA
 obtain ⟨ad236, A236_2, c236_2, e236, hx236_0, hx236_1, hx236_2, hl236_2, hi236_2⟩ := at_T37 HR0.out 0 p236 q236
 have hw236_2 := hx236_2
 try simp only [z00, Nat.zero_mul, Addr.add_zero'] at hw236_2
 have hw236_1 := hx236_1
 try simp only [z00, Nat.zero_mul, Addr.add_zero'] at hw236_1
 have hw236_0 := hx236_0
 try simp only [z00, Nat.zero_mul, Addr.add_zero'] at hw236_0
 obtain rfl : adp0 = ad236 := (by injection e236)
 have qi236 : (0 < l0.length) = True := eq_true (by omega)
 try simp only [z00, Nat.zero_mul, Addr.add_zero'] at hx236_0 hx236_1 hx236_2
 replace hx236_0 := zc HB hx236_0
 replace hx236_1 := zc HB hx236_1
 replace hx236_2 := zc HB hx236_2
 have HR236_2 := Aside0.mk hi236_2
 have HC236_2 := Aside0.mk hl236_2
 clear hi236_2 hl236_2
 replace p236 := eq_true p236
 replace q236 := eq_true q236
 have ea_ := Option.some.inj (hx235_2.symm.trans hx236_2)
 injection ea_ with ea_ en_ ec_
 subst ea_
 subst ec_
 clear en_
 have p238 : 0 ≤ (x3_2 : Int) := of_decide_eq_true zA
 have q238 : x3_2 < (((rd_T37 l0 0).f2).length : Int) := of_decide_eq_true zA
 obtain ⟨ad238, e238, hx238_0, hx238_1, hx238_2, hx238_3, hx238_4⟩ := at_T91 HR231_2.out x3_2 p238 q238
 have hw238_4 := hx238_4
 have hw238_3 := hx238_3
 have hw238_2 := hx238_2
 have hw238_1 := hx238_1
 have hw238_0 := hx238_0
 obtain rfl : ad232 = ad238 := (by injection e238)
 replace hx238_0 := zc HB hx238_0
 replace hx238_1 := zc HB hx238_1
 replace hx238_2 := zc HB hx238_2
 replace hx238_3 := zc HB hx238_3
 replace hx238_4 := zc HB hx238_4
 replace p238 := eq_true p238
 replace q238 := eq_true q238
 refine start_ (n := 31) (S := fun w' => w'.cell? (ad232.add ((x3_2).toNat * 5)) = some (.int .i8 ((rd_T91 ((rd_T37 l0 0).f2) x3_2).f0.f0)) ∧ w'.cell? ⟨(ad232.add ((x3_2).toNat * 5)).block, (ad232.add ((x3_2).toNat * 5)).off + 1, none⟩ = some (.int .i8 ((rd_T91 ((rd_T37 l0 0).f2) x3_2).f0.f1)) ∧ w'.cell? ⟨(ad232.add ((x3_2).toNat * 5)).block, (ad232.add ((x3_2).toNat * 5)).off + 2, none⟩ = some (.int .i8 ((rd_T91 ((rd_T37 l0 0).f2) x3_2).f1)) ∧ w'.cell? ⟨(ad232.add ((x3_2).toNat * 5)).block, (ad232.add ((x3_2).toNat * 5)).off + 3, none⟩ = some (.int .i8 ((rd_T91 ((rd_T37 l0 0).f2) x3_2).f2)) ∧ w'.cell? ⟨(ad232.add ((x3_2).toNat * 5)).block, (ad232.add ((x3_2).toNat * 5)).off + 4, none⟩ = some (.int .i8 ((rd_T91 ((rd_T37 l0 0).f2) x3_2).f3)) ∧ w'.cell? adp0 = some (.int .i8 ((rd_T37 l0 0).f0)) ∧ w'.cell? ⟨adp0.block, adp0.off + 1, none⟩ = some (.int .i8 ((rd_T37 l0 0).f1)) ∧ w'.cell? ⟨adp0.block, adp0.off + 2, none⟩ = some (.slice A235_2 ((rd_T37 l0 0).f2).length c235_2) ∧ w'.cell? adp0 = some (.int .i8 ((rd_T37 l0 0).f0)) ∧ w'.cell? ⟨adp0.block, adp0.off + 1, none⟩ = some (.int .i8 ((rd_T37 l0 0).f1)) ∧ w'.cell? ⟨adp0.block, adp0.off + 2, none⟩ = some (.slice A235_2 ((rd_T37 l0 0).f2).length c235_2) ∧ w'.cell? (ad232.add ((x3_2).toNat * 5)) = some (.int .i8 ((rd_T91 ((rd_T37 l0 0).f2) x3_2).f0.f0)) ∧ w'.cell? ⟨(ad232.add ((x3_2).toNat * 5)).block, (ad232.add ((x3_2).toNat * 5)).off + 1, none⟩ = some (.int .i8 ((rd_T91 ((rd_T37 l0 0).f2) x3_2).f0.f1)) ∧ w'.cell? ⟨(ad232.add ((x3_2).toNat * 5)).block, (ad232.add ((x3_2).toNat * 5)).off + 2, none⟩ = some (.int .i8 ((rd_T91 ((rd_T37 l0 0).f2) x3_2).f1)) ∧ w'.cell? ⟨(ad232.add ((x3_2).toNat * 5)).block, (ad232.add ((x3_2).toNat * 5)).off + 3, none⟩ = some (.int .i8 ((rd_T91 ((rd_T37 l0 0).f2) x3_2).f2)) ∧ w'.cell? ⟨(ad232.add ((x3_2).toNat * 5)).block, (ad232.add ((x3_2).toNat * 5)).off + 4, none⟩ = some (.int .i8 ((rd_T91 ((rd_T37 l0 0).f2) x3_2).f3))) (ds := []) (zq 31 0) (by kernel_rfl) rfl rfl ⟨(zc HB hw234_0), (zc HB hw234_1), (zc HB hw234_2), (zc HB hw234_3), (zc HB hw234_4), (zc HB hw235_0), (zc HB hw235_1), (zc HB hw235_2), (zc HB hw236_0), (zc HB hw236_1), (zc HB hw236_2), (zc HB hw238_0), (zc HB hw238_1), (zc HB hw238_2), (zc HB hw238_3), (zc HB hw238_4)⟩ (fun hHeld => ?_); refine with_tabW spec_l01Ok.tab7 spec_l01Ok.bits7 (fun HT_ HW_ => ?_)
 generalize wr.drew = w18 at HB HR235_2 HR236_2 hx234_0 hx234_1 hx234_2 hx234_3 hx234_4 hx235_0 hx235_1 hx235_2 hx236_0 hx236_1 hx236_2 hx238_0 hx238_1 hx238_2 hx238_3 hx238_4 hHeld ⊢
 refine zpu 0 (some 44) (zq 31 1) HT_ ?_
 refine one_ (i := 1) (N := some 45) (zq 31 3) rfl rfl (one_of HT_.out (by kernel_rfl)) (by decide) (fun K hK => ?_)
 refine goes_ Try.func132 (by kernel_rfl) rfl #[.pointer (some (ad232.add (x3_2.toNat * 5)))] (by rfl) rfl rfl zm ?_
 with_reducible refine (spec_l01Piece.calls _ [rd_T91 ((rd_T37 l0 0).f2) x3_2] true _ ?side1 A12.out).mono ?_
 (case side1 => refine ro_of_elem (d := k91) z91 x3_2 (by first | exact of_eq_true p232 | omega) (by first | exact of_eq_true q232 | omega) ?_; exact zcc HB HR231_2.out)
 rintro e w19 ⟨rfl, hb⟩
 refine ⟨_, rfl, ?_⟩
 have n0_ := zb HB hb
 clear HB
 have HB := n0_
 clear n0_
 (try clear hb)
 (try clear hb2)
 (try clear hk)
 (try clear hi)
 refine hK.out _ _ ⟨(zc HB hw234_0), (zc HB hw234_1), (zc HB hw234_2), (zc HB hw234_3), (zc HB hw234_4), (zc HB hw235_0), (zc HB hw235_1), (zc HB hw235_2), (zc HB hw236_0), (zc HB hw236_1), (zc HB hw236_2), (zc HB hw238_0), (zc HB hw238_1), (zc HB hw238_2), (zc HB hw238_3), (zc HB hw238_4)⟩ (fun hHeld => ?_)
 clear hK K
 refine norm_ (a' := ?_) ?_ ?_
 rotate_left
 ·show Act.put _ (some 45) _ = _
  exact zap
 refine zpu 2 (some 46) (zq 31 7) HT_ ?_
 refine zpu 3 (some 47) (zq 31 15) HT_ ?_
 refine zpu 4 (some 48) (zq 31 31) HT_ ?_
 refine zpu 5 (some 49) (zq 31 63) HT_ ?_
 refine zpu 6 (some 50) (zq 31 127) HT_ ?_
 refine zpu 8 (some 52) (zq 31 383) HT_ ?_
 refine zpu 9 (some 53) (zq 31 895) HT_ ?_
 refine zpu 10 (some 54) (zq 31 1919) HT_ ?_
 refine zpu 13 (some 57) (zq 31 10111) HT_ ?_
 refine zpu 14 (some 58) (zq 31 26495) HT_ ?_
 refine zpu 15 (some 59) (zq 31 59263) HT_ ?_
 refine ztk 7 (some 51) (zq 31 59391) HT_ HW_ rfl hHeld (Or.inl ⟨by rfl, by (rintro w' ⟨s0, s1, s2, s3, s4, s5, s6, s7, s8, s9, s10, s11, s12, s13, s14, s15⟩; go_simp; with_reducible rfl)⟩) ?_
 refine ztk 11 (some 55) (zq 31 61439) HT_ HW_ rfl hHeld (Or.inl ⟨by rfl, by (rintro w' ⟨s0, s1, s2, s3, s4, s5, s6, s7, s8, s9, s10, s11, s12, s13, s14, s15⟩; go_simp; with_reducible rfl)⟩) ?_
 refine zpu 12 (some 56) (zq 31 65535) HT_ ?_
 refine ztk 16 (some 60) (zq 31 131071) HT_ HW_ rfl hHeld (Or.inl ⟨by rfl, by (rintro w' ⟨s0, s1, s2, s3, s4, s5, s6, s7, s8, s9, s10, s11, s12, s13, s14, s15⟩; go_simp; with_reducible rfl)⟩) ?_
 refine zpu 17 (some 61) (zq 31 262143) HT_ ?_
 refine one_ (i := 18) (N := some 62) (zq 31 524287) rfl rfl (one_of HT_.out (by kernel_rfl)) (by decide) (fun K hK => ?_)
 refine goes_ Try.func133 (by kernel_rfl) rfl #[.agg #[.int .i8 ((rd_T91 ((rd_T37 l0 0).f2) x3_2).f0.f0), .int .i8 ((rd_T91 ((rd_T37 l0 0).f2) x3_2).f0.f1)], .int .i64 (wrap64 ((rd_T37 l0 0).f0)), .int .i64 (wrap64 ((rd_T37 l0 0).f1))] (by rfl) rfl rfl zm ?_
 with_reducible refine (spec_l01In.calls ((rd_T91 ((rd_T37 l0 0).f2) x3_2).f0.f0) ((rd_T91 ((rd_T37 l0 0).f2) x3_2).f0.f1) (wrap64 ((rd_T37 l0 0).f0)) (wrap64 ((rd_T37 l0 0).f1)) true _ A14.out).mono ?_
 rintro e w20 ⟨rfl, hb⟩
 refine ⟨_, rfl, ?_⟩
 have n0_ := zb HB hb
 clear HB
 have HB := n0_
 clear n0_
 (try clear hb)
 (try clear hb2)
 (try clear hk)
 (try clear hi)
 refine hK.out _ _ ⟨(zc HB hw234_0), (zc HB hw234_1), (zc HB hw234_2), (zc HB hw234_3), (zc HB hw234_4), (zc HB hw235_0), (zc HB hw235_1), (zc HB hw235_2), (zc HB hw236_0), (zc HB hw236_1), (zc HB hw236_2), (zc HB hw238_0), (zc HB hw238_1), (zc HB hw238_2), (zc HB hw238_3), (zc HB hw238_4)⟩ (fun hHeld => ?_)
 clear hK K
 refine norm_ (a' := ?_) ?_ ?_
 rotate_left
 ·show Act.put _ (some 62) _ = _
  exact zap
 refine zpu 19 (some 63) (zq 31 1048575) HT_ ?_
 refine zpu 20 (some 64) (zq 31 2097151) HT_ ?_
 refine zpu 21 (some 65) (zq 31 4194303) HT_ ?_
 refine zpu 22 (some 66) (zq 31 8388607) HT_ ?_
 refine zpu 23 (some 67) (zq 31 16777215) HT_ ?_
 refine zpu 24 (some 68) (zq 31 33554431) HT_ ?_
 refine zpu 25 (some 69) (zq 31 67108863) HT_ ?_
 refine zpu 28 (some 72) (zq 31 335544319) HT_ ?_
 refine ztk 26 (some 70) (zq 31 402653183) HT_ HW_ rfl hHeld (Or.inl ⟨by rfl, by (rintro w' ⟨s0, s1, s2, s3, s4, s5, s6, s7, s8, s9, s10, s11, s12, s13, s14, s15⟩; go_simp; with_reducible rfl)⟩) ?_
 refine one_ (i := 27) (N := some 71) (zq 31 536870911) rfl rfl (one_of HT_.out (by kernel_rfl)) (by decide) (fun K hK => ?_)
 refine goes_ Try.func111 (by kernel_rfl) rfl #[.pointer (some adp0), .agg #[.int .i8 ((rd_T91 ((rd_T37 l0 0).f2) x3_2).f0.f0), .int .i8 ((rd_T91 ((rd_T37 l0 0).f2) x3_2).f0.f1)]] (by rfl) rfl rfl zm ?_
 with_reducible refine (spec_l01Find.calls k2 _ l0 ((rd_T91 ((rd_T37 l0 0).f2) x3_2).f0.f0) ((rd_T91 ((rd_T37 l0 0).f2) x3_2).f0.f1) t239 _ ?side1 A16.out).mono ?_
 (case side1 => exact zcc HB HR0.out)
 rintro e w21 ⟨rfl, hb⟩
 refine ⟨_, rfl, ?_⟩
 have n0_ := zb HB hb
 clear HB
 have HB := n0_
 clear n0_
 (try clear hb)
 (try clear hb2)
 (try clear hk)
 (try clear hi)
 refine hK.out _ _ ⟨(zc HB hw234_0), (zc HB hw234_1), (zc HB hw234_2), (zc HB hw234_3), (zc HB hw234_4), (zc HB hw235_0), (zc HB hw235_1), (zc HB hw235_2), (zc HB hw236_0), (zc HB hw236_1), (zc HB hw236_2), (zc HB hw238_0), (zc HB hw238_1), (zc HB hw238_2), (zc HB hw238_3), (zc HB hw238_4)⟩ (fun hHeld => ?_)
 clear hK K
 refine norm_ (a' := ?_) ?_ ?_
 rotate_left
 ·show Act.put _ (some 71) _ = _
  exact zap
 refine zpu 29 (some 73) (zq 31 1073741823) HT_ ?_
 refine zpu 30 (some 74) (zq 31 2147483647) HT_ ?_
 refine done_ (done_of HT_.out (by kernel_rfl)) ?_
 try go_wp2
 go_roundg k2
 case measure => have := HJ1.out; have := HK2.out; omega
 case rel => exact ⟨(wrap64 (x3_2 + 1)), zi, H', ⟨by have := HJ1.out; have := HK2.out; omega⟩, zl HB⟩
end Go.Proofs.Ytffnfpnajkgnaaa.PFnExactMoveMachine
