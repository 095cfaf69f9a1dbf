-- WRITTEN by xprint.py, a program of this session's. Not trusted: Lean checks it.
-- packed by pack.py
import Derived.Test.YtljjmgokebmldaaPFnExactSortBoardx0
import Derived.Test.YtljjmgokebmldaaPFnExactSortBoardx2
import Derived.Test.YtljjmgokebmldaaTFnExactSortBoarda
namespace Go.Proofs.Ytljjmgokebmldaa.PFnExactSortBoard
open Go.RowKit Go.Proofs.YtljjmgokebmldaaW.PrintWords Go.Proofs.YtljjmgokebmldaaW.PrintLast Go.Proofs.YtljjmgokebmldaaW.PrintMore Go.Proofs.YtljjmgokebmldaaX
attribute [local go_sem] max2_int min2_int max_two min_two max_three min_three max_four min_four   -- for this text's walks alone
set_option maxHeartbeats 8000000
set_option maxRecDepth 100000
set_option linter.unusedVariables false
set_option linter.unusedSimpArgs false

mutual
def spec_l01Ok.j0 : Nat → List (S29) → Bool → Option (Bool)
  | 0, _, _ => none
  | k + 1, x0, x28 => if x28 = true then (some false) else (spec_l01Ok.l0 k x0 0)
def spec_l01Ok.l0 : Nat → List (S29) → Int → Option (Bool)
  | 0, _, _ => none
  | k + 1, x0, x3 => if 0 < (x0.length : Int) then (if x3 < (((rd_T29 x0 0).f2).length : Int) then (if 0 ≤ x3 then ((spec_l01Piece.f [rd_T43 ((rd_T29 x0 0).f2) x3]).bind fun t126 => (if t126 = true then ((spec_l01In.f ((rd_T43 ((rd_T29 x0 0).f2) x3).f0.f0) ((rd_T43 ((rd_T29 x0 0).f2) x3).f0.f1) (wrap64 ((rd_T29 x0 0).f0)) (wrap64 ((rd_T29 x0 0).f1))).bind fun t130 => (if t130 = true then ((spec_l01Find.f k x0 ((rd_T43 ((rd_T29 x0 0).f2) x3).f0.f0) ((rd_T43 ((rd_T29 x0 0).f2) x3).f0.f1)).bind fun t132 => (if t132 = x3 then (spec_l01Ok.l0 k x0 (wrap64 (x3 + 1))) else (some false))) else (some false))) else (some false))) else (none)) else (some true)) else (none)
end
def spec_l01Ok.f (k : Nat) (l0 : List (S29)) : Option (Bool) := if 0 < (l0.length : Int) then ((spec_l00In.f (wrap64 ((rd_T29 l0 0).f0)) 1 24).bind fun t119 => (if t119 = true then ((spec_l00In.f (wrap64 ((rd_T29 l0 0).f1)) 1 24).bind fun t121 => (if t121 = true then (spec_l01Ok.j0 k l0 (decide ((((rd_T29 l0 0).f2).length : Int) > 200))) else (spec_l01Ok.j0 k l0 true))) else (spec_l01Ok.j0 k l0 true))) else (none)
theorem spec_l01Ok.mono_l : ∀ k, (∀ y0 y1, LeO (spec_l01Ok.j0 k y0 y1) (spec_l01Ok.j0 (k + 1) y0 y1)) ∧ (∀ y0 y1, LeO (spec_l01Ok.l0 k y0 y1) (spec_l01Ok.l0 (k + 1) y0 y1))
  | 0 => ⟨fun _ _ r h => by simp [spec_l01Ok.j0] at h, fun _ _ r h => by simp [spec_l01Ok.l0] at h⟩
  | k + 1 => by
    obtain ⟨ih0, ih1⟩ := spec_l01Ok.mono_l k
    refine ⟨?_, ?_⟩
    · intro y0 y1
      unfold spec_l01Ok.j0
      repeat' first | (with_reducible first | apply ih0 | apply ih1 | apply spec_l01Find.mono | exact LeO.refl _ | exact LeO.none _ | refine LeO.ite ?_ ?_ | refine LeO.bind ?_ (fun _ => ?_)) | apply ih0 | apply ih1 | apply spec_l01Find.mono | exact LeO.none _ | refine LeO.ite ?_ ?_ | refine LeO.bind ?_ (fun _ => ?_)
    · intro y0 y1
      unfold spec_l01Ok.l0
      repeat' first | (with_reducible first | apply ih0 | apply ih1 | apply spec_l01Find.mono | exact LeO.refl _ | exact LeO.none _ | refine LeO.ite ?_ ?_ | refine LeO.bind ?_ (fun _ => ?_)) | apply ih0 | apply ih1 | apply spec_l01Find.mono | exact LeO.none _ | refine LeO.ite ?_ ?_ | refine LeO.bind ?_ (fun _ => ?_)
theorem spec_l01Ok.mono : ∀ a0 k, LeO (spec_l01Ok.f k a0) (spec_l01Ok.f (k + 1) a0) := by
 intro a0 k
 obtain ⟨ih0, ih1⟩ := spec_l01Ok.mono_l k
 unfold spec_l01Ok.f
 repeat' first | (with_reducible first | apply ih0 | apply ih1 | apply spec_l01Find.mono | exact LeO.refl _ | exact LeO.none _ | refine LeO.ite ?_ ?_ | refine LeO.bind ?_ (fun _ => ?_)) | apply ih0 | apply ih1 | apply spec_l01Find.mono | exact LeO.none _ | refine LeO.ite ?_ ?_ | refine LeO.bind ?_ (fun _ => ?_)
def spec_l01Ok.T7 : Bool × List (List Nat × List Nat) := (true, [([], []), ([0], [0]), ([1], [1]), ([2, 1], [2]), ([3], [3]), ([4, 3], [3, 4]), ([5, 3], [3, 5]), ([6, 3], [3, 6]), ([3], [3]), ([8, 3], [3, 8]), ([9, 3], [3, 9]), ([10, 3], [3, 10]), ([11, 3], [3, 11]), ([3], [3]), ([13, 3], [3, 13]), ([14, 3], [3, 14]), ([15, 3], [3, 15]), ([16, 3], [3, 16]), ([7, 12, 17, 3, 3], [3, 7, 12, 17]), ([18, 3], [3, 18]), ([3, 19], [3, 19]), ([20, 18], [20]), ([21], [21]), ([21], [21]), ([23, 21], [21, 23]), ([24, 21], [21, 24]), ([25, 21], [21, 25]), ([22, 26, 21, 21], [21, 22, 26]), ([21], [21]), ([27, 28, 21], [21, 27, 28]), ([21, 29], [21, 29])])
def spec_l01Ok.B7 : List Nat := [0, 1, 3, 7, 15, 31, 63, 127, 15, 271, 783, 1807, 3855, 15, 8207, 24591, 57359, 122895, 262143, 524287, 1048575, 2097151, 4194303, 4194303, 12582911, 29360127, 62914559, 134217727, 4194303, 536870911, 1073741823]
theorem spec_l01Ok.tab7 : rtab .any (opsOf Try.f12 7) = spec_l01Ok.T7 := by kernel_rfl
theorem spec_l01Ok.bits7 : waitsOk spec_l01Ok.T7.2 spec_l01Ok.B7 = true := by kernel_rfl
theorem spec_l01Ok.calls (k : Nat) (adp0 : Addr) (l0 : List (S29)) (r : Bool) (w : World) (hr0 : Kd.C k29 w (some adp0) l0.length l0) (h : spec_l01Ok.f k l0 = some r) :
    Calls Try.prog 12 #[.pointer (some adp0)] w fun e w' => e = .returned (.bool r) ∧ Below w.heap.size w w' := by
 have hu41 := Try.underlying41
 have HR0 := Aside0.mk hr0
 clear hr0
 have HB := Aside0.mk (Below.refl w.heap.size w)
 have H : (if 0 < (l0.length : Int) then ((spec_l00In.f (wrap64 ((rd_T29 l0 0).f0)) 1 24).bind fun t119 => (if t119 = true then ((spec_l00In.f (wrap64 ((rd_T29 l0 0).f1)) 1 24).bind fun t121 => (if t121 = true then (spec_l01Ok.j0 k l0 (decide ((((rd_T29 l0 0).f2).length : Int) > 200))) else (spec_l01Ok.j0 k l0 true))) else (spec_l01Ok.j0 k l0 true))) else (none)) = some r := h
 clear h
 have HC2 := Aside0.mk H
 clear H
 go_enter Try.func12, Try.ntmps12
 go_upto_region 1 with (fail)
 go_cut [28] (fun v28 wc => ∃ (kq : Nat) (x28_1 : Bool), v28 = .bool x28_1 ∧ Aside0 (spec_l01Ok.j0 kq l0 x28_1 = some r) ∧ Aside0 (kq ≤ k) ∧ Aside0 (Below w.heap.size w wc))
 case first =>
  have H := HC2.out
  clear HC2
  by_cases c3 : 0 < (l0.length : Int)
  rotate_left
  ·rw [if_neg c3] at H
   exact absurd H (by simp)
  rw [if_pos c3] at H
  have c3b0 : decide (0 < (l0.length : Int)) = true := decide_eq_true c3
  have c3b1 : decide (0 < l0.length) = true := decide_eq_true (by omega)
  clear c3
  (first | rw [c3b0] | (simp only [i64_w, i32_w]; rw [c3b0]) | (have h_ := c3b0; simp only [bne] at h_; rw [h_]) | skip)
  replace H := zob H
  obtain ⟨t119, A40, H⟩ := H
  replace H : (if t119 = true then ((spec_l00In.f (wrap64 ((rd_T29 l0 0).f1)) 1 24).bind fun t121 => (if t121 = true then (spec_l01Ok.j0 k l0 (decide ((((rd_T29 l0 0).f2).length : Int) > 200))) else (spec_l01Ok.j0 k l0 true))) else (spec_l01Ok.j0 k l0 true)) = some r := H
  have A4 := Aside0.mk A40
  clear A40
  by_cases c5 : t119 = true
  rotate_left
  ·replace c5 := Bool.eq_false_iff.mpr c5
   subst c5
   have H1 : (spec_l01Ok.j0 k l0 true) = some r := by rw [if_neg (show ¬ (false = true) by decide)] at H; exact H
   clear H
   have H := H1
   clear H1
   have H' := Aside0.mk H
   clear H
   have p118 : 0 ≤ (0 : Int) := (by omega)
   have q118 : 0 < (l0.length : Int) := of_decide_eq_true zA
   obtain ⟨ad118, A118_2, c118_2, e118, hx118_0, hx118_1, hx118_2, hl118_2, hi118_2⟩ := at_T29 HR0.out 0 p118 q118
   obtain rfl : adp0 = ad118 := (by injection e118)
   have qi118 : (0 < l0.length) = True := eq_true (by omega)
   try simp only [z00, Nat.zero_mul, Addr.add_zero'] at hx118_0 hx118_1 hx118_2
   replace hx118_0 := zc HB hx118_0
   replace hx118_1 := zc HB hx118_1
   replace hx118_2 := zc HB hx118_2
   have HR118_2 := Aside0.mk hi118_2
   have HC118_2 := Aside0.mk hl118_2
   clear hi118_2 hl118_2
   replace p118 := eq_true p118
   replace q118 := eq_true q118
   go_wp2_with (first | ((with_reducible refine gate_callee (f := 24) rfl ?_); refine goesL_ (some 10) rfl rfl Try.func24 (by kernel_rfl) rfl #[.int .i64 (wrap64 ((rd_T29 l0 0).f0)), .int .i64 1, .int .i64 24] rfl zm ?_; (with_reducible refine (spec_l00In.calls (wrap64 ((rd_T29 l0 0).f0)) 1 24 false _ A4.out).mono ?_); rintro e w' ⟨rfl, ⟨nd, rfl⟩⟩; refine ⟨_, rfl, ?_⟩))
   go_meet
   case rel => exact ⟨_, (true), zi, H', ⟨by first | omega | exact Nat.le_refl _⟩, zl HB⟩
  subst c5
  have H1 : ((spec_l00In.f (wrap64 ((rd_T29 l0 0).f1)) 1 24).bind fun t121 => (if t121 = true then (spec_l01Ok.j0 k l0 (decide ((((rd_T29 l0 0).f2).length : Int) > 200))) else (spec_l01Ok.j0 k l0 true))) = some r := by rw [if_pos rfl] at H; exact H
  clear H
  have H := H1
  clear H1
  replace H := zob H
  obtain ⟨t121, A60, H⟩ := H
  replace H : (if t121 = true then (spec_l01Ok.j0 k l0 (decide ((((rd_T29 l0 0).f2).length : Int) > 200))) else (spec_l01Ok.j0 k l0 true)) = some r := H
  have A6 := Aside0.mk A60
  clear A60
  by_cases c7 : t121 = true
  rotate_left
  ·replace c7 := Bool.eq_false_iff.mpr c7
   subst c7
   have H1 : (spec_l01Ok.j0 k l0 true) = some r := by rw [if_neg (show ¬ (false = true) by decide)] at H; exact H
   clear H
   have H := H1
   clear H1
   have H' := Aside0.mk H
   clear H
   have p118 : 0 ≤ (0 : Int) := (by omega)
   have q118 : 0 < (l0.length : Int) := of_decide_eq_true zA
   obtain ⟨ad118, A118_2, c118_2, e118, hx118_0, hx118_1, hx118_2, hl118_2, hi118_2⟩ := at_T29 HR0.out 0 p118 q118
   obtain rfl : adp0 = ad118 := (by injection e118)
   have qi118 : (0 < l0.length) = True := eq_true (by omega)
   try simp only [z00, Nat.zero_mul, Addr.add_zero'] at hx118_0 hx118_1 hx118_2
   replace hx118_0 := zc HB hx118_0
   replace hx118_1 := zc HB hx118_1
   replace hx118_2 := zc HB hx118_2
   have HR118_2 := Aside0.mk hi118_2
   have HC118_2 := Aside0.mk hl118_2
   clear hi118_2 hl118_2
   replace p118 := eq_true p118
   replace q118 := eq_true q118
   go_wp2_with (first | ((with_reducible refine gate_callee (f := 24) rfl ?_); refine goesL_ (some 10) rfl rfl Try.func24 (by kernel_rfl) rfl #[.int .i64 (wrap64 ((rd_T29 l0 0).f0)), .int .i64 1, .int .i64 24] rfl zm ?_; (with_reducible refine (spec_l00In.calls (wrap64 ((rd_T29 l0 0).f0)) 1 24 true _ A4.out).mono ?_); rintro e w' ⟨rfl, ⟨nd, rfl⟩⟩; refine ⟨_, rfl, ?_⟩; have p120 : 0 ≤ (0 : Int) := (by omega); have q120 : 0 < (l0.length : Int) := of_decide_eq_true zA; obtain ⟨ad120, A120_2, c120_2, e120, hx120_0, hx120_1, hx120_2, hl120_2, hi120_2⟩ := at_T29 HR0.out 0 p120 q120; obtain rfl : adp0 = ad120 := (by injection e120); have qi120 : (0 < l0.length) = True := eq_true (by omega); (try simp only [z00, Nat.zero_mul, Addr.add_zero'] at hx120_0 hx120_1 hx120_2); replace hx120_0 := zc HB hx120_0; replace hx120_1 := zc HB hx120_1; replace hx120_2 := zc HB hx120_2; have HR120_2 := Aside0.mk hi120_2; have HC120_2 := Aside0.mk hl120_2; clear hi120_2 hl120_2; replace p120 := eq_true p120; replace q120 := eq_true q120; have ea_ := Option.some.inj (hx118_2.symm.trans hx120_2); injection ea_ with ea_ en_ ec_; subst ea_; subst ec_; clear en_) | (go_at_call 24; (with_reducible refine (spec_l00In.calls (wrap64 ((rd_T29 l0 0).f1)) 1 24 false _ A6.out).mono ?_); rintro e w' ⟨rfl, ⟨nd, rfl⟩⟩))
   go_meet
   case rel => exact ⟨_, (true), zi, H', ⟨by first | omega | exact Nat.le_refl _⟩, zl HB⟩
  subst c7
  have H1 : (spec_l01Ok.j0 k l0 (decide ((((rd_T29 l0 0).f2).length : Int) > 200))) = some r := by rw [if_pos rfl] at H; exact H
  clear H
  have H := H1
  clear H1
  have H' := Aside0.mk H
  clear H
  have p118 : 0 ≤ (0 : Int) := (by omega)
  have q118 : 0 < (l0.length : Int) := of_decide_eq_true zA
  obtain ⟨ad118, A118_2, c118_2, e118, hx118_0, hx118_1, hx118_2, hl118_2, hi118_2⟩ := at_T29 HR0.out 0 p118 q118
  obtain rfl : adp0 = ad118 := (by injection e118)
  have qi118 : (0 < l0.length) = True := eq_true (by omega)
  try simp only [z00, Nat.zero_mul, Addr.add_zero'] at hx118_0 hx118_1 hx118_2
  replace hx118_0 := zc HB hx118_0
  replace hx118_1 := zc HB hx118_1
  replace hx118_2 := zc HB hx118_2
  have HR118_2 := Aside0.mk hi118_2
  have HC118_2 := Aside0.mk hl118_2
  clear hi118_2 hl118_2
  replace p118 := eq_true p118
  replace q118 := eq_true q118
  go_wp2_with (first | ((with_reducible refine gate_callee (f := 24) rfl ?_); refine goesL_ (some 10) rfl rfl Try.func24 (by kernel_rfl) rfl #[.int .i64 (wrap64 ((rd_T29 l0 0).f0)), .int .i64 1, .int .i64 24] rfl zm ?_; (with_reducible refine (spec_l00In.calls (wrap64 ((rd_T29 l0 0).f0)) 1 24 true _ A4.out).mono ?_); rintro e w' ⟨rfl, ⟨nd, rfl⟩⟩; refine ⟨_, rfl, ?_⟩; have p120 : 0 ≤ (0 : Int) := (by omega); have q120 : 0 < (l0.length : Int) := of_decide_eq_true zA; obtain ⟨ad120, A120_2, c120_2, e120, hx120_0, hx120_1, hx120_2, hl120_2, hi120_2⟩ := at_T29 HR0.out 0 p120 q120; obtain rfl : adp0 = ad120 := (by injection e120); have qi120 : (0 < l0.length) = True := eq_true (by omega); (try simp only [z00, Nat.zero_mul, Addr.add_zero'] at hx120_0 hx120_1 hx120_2); replace hx120_0 := zc HB hx120_0; replace hx120_1 := zc HB hx120_1; replace hx120_2 := zc HB hx120_2; have HR120_2 := Aside0.mk hi120_2; have HC120_2 := Aside0.mk hl120_2; clear hi120_2 hl120_2; replace p120 := eq_true p120; replace q120 := eq_true q120; have ea_ := Option.some.inj (hx118_2.symm.trans hx120_2); injection ea_ with ea_ en_ ec_; subst ea_; subst ec_; clear en_) | (go_at_call 24; (with_reducible refine (spec_l00In.calls (wrap64 ((rd_T29 l0 0).f1)) 1 24 true _ A6.out).mono ?_); rintro e w' ⟨rfl, ⟨nd, rfl⟩⟩; have p122 : 0 ≤ (0 : Int) := (by omega); have q122 : 0 < (l0.length : Int) := of_decide_eq_true zA; obtain ⟨ad122, A122_2, c122_2, e122, hx122_0, hx122_1, hx122_2, hl122_2, hi122_2⟩ := at_T29 HR0.out 0 p122 q122; obtain rfl : adp0 = ad122 := (by injection e122); have qi122 : (0 < l0.length) = True := eq_true (by omega); (try simp only [z00, Nat.zero_mul, Addr.add_zero'] at hx122_0 hx122_1 hx122_2); replace hx122_0 := zc HB hx122_0; replace hx122_1 := zc HB hx122_1; replace hx122_2 := zc HB hx122_2; have HR122_2 := Aside0.mk hi122_2; have HC122_2 := Aside0.mk hl122_2; clear hi122_2 hl122_2; replace p122 := eq_true p122; replace q122 := eq_true q122; have ea_ := Option.some.inj (hx118_2.symm.trans hx122_2); injection ea_ with ea_ en_ ec_; subst ea_; subst ec_; clear en_))
  go_meet
  case rel => exact ⟨_, (decide ((((rd_T29 l0 0).f2).length : Int) > 200)), zi, H', ⟨by first | omega | exact Nat.le_refl _⟩, zl HB⟩
 clear HC2
 try clear c1
 try clear p1
 try clear q1
 try clear hx1
 try clear qi1
 try clear c2
 try clear p2
 try clear c3
 try clear c3b0
 try clear c3b1
 try clear c5
 try clear p6
 try clear c7
 try clear hx118_0
 try clear hx118_1
 try clear hx118_2
 try clear hx120_0
 try clear hx120_1
 try clear hx120_2
 try clear hx122_0
 try clear hx122_1
 try clear hx122_2
 try clear p118
 try clear p120
 try clear p122
 try clear q118
 try clear q120
 try clear q122
 obtain ⟨kq, x28_1, rfl, HA, HJ1, HB⟩ := hcut
 cases kq with
 | zero => exact absurd HA.out (by simp [spec_l01Ok.j0])
 | succ kj1 => ?_
 have H := HA.out
 clear HA
 simp only [spec_l01Ok.j0] at H
 by_cases c8 : x28_1 = true
 ·subst c8
  have H1 : (some false) = some r := by rw [if_pos rfl] at H; exact H
  clear H
  have H := H1
  clear H1
  obtain rfl := Option.some.inj H
  go_wp2
  go_ret
  exact ⟨zv, zbo⟩
 replace c8 := Bool.eq_false_iff.mpr c8
 subst c8
 have H1 : (spec_l01Ok.l0 kj1 l0 0) = some r := by rw [if_neg (show ¬ (false = true) by decide)] at H; exact H
 clear H
 have H := H1
 clear H1
 have H' := Aside0.mk H
 clear H
 go_wp2
 go_loopg [3] kj1 (fun kq v3 w' => ∃ (x3_2 : Int), v3 = .int .i64 x3_2 ∧ Aside0 (spec_l01Ok.l0 kq l0 x3_2 = some r) ∧ Aside0 (kq ≤ kj1) ∧ Aside0 (Below w.heap.size w w'))
 case atStart => exact ⟨(0), zi, H', ⟨Nat.le_refl _⟩, zl HB⟩
 clear H'
 try clear c1
 try clear p1
 try clear q1
 try clear hx1
 try clear qi1
 try clear c2
 try clear p2
 try clear c3
 try clear c3b0
 try clear c3b1
 try clear c5
 try clear p6
 try clear c7
 try clear c8
 try clear hx118_0
 try clear hx118_1
 try clear hx118_2
 try clear hx120_0
 try clear hx120_1
 try clear hx120_2
 try clear hx122_0
 try clear hx122_1
 try clear hx122_2
 try clear p1
 try clear p118
 try clear p120
 try clear p122
 try clear p2
 try clear p6
 try clear q1
 try clear q118
 try clear q120
 try clear q122
 obtain ⟨x3_2, rfl, HA, HK2, HB⟩ := hrel
 cases gk with
 | zero => exact absurd HA.out (by simp [spec_l01Ok.l0])
 | succ k2 => ?_
 have H := HA.out
 clear HA
 simp only [spec_l01Ok.l0] at H
 by_cases c9 : 0 < (l0.length : Int)
 rotate_left
 ·rw [if_neg c9] at H
  exact absurd H (by simp)
 rw [if_pos c9] at H
 have c9b0 : decide (0 < (l0.length : Int)) = true := decide_eq_true c9
 have c9b1 : decide (0 < l0.length) = true := decide_eq_true (by omega)
 clear c9
 by_cases c10 : x3_2 < (((rd_T29 l0 0).f2).length : Int)
 rotate_left
 ·rw [if_neg c10] at H
  have c10b0 : decide (x3_2 < (((rd_T29 l0 0).f2).length : Int)) = false := decide_eq_false c10
  clear c10
  obtain rfl := Option.some.inj H
  have p123 : 0 ≤ (0 : Int) := (by omega)
  have q123 : 0 < (l0.length : Int) := of_decide_eq_true zA
  obtain ⟨ad123, A123_2, c123_2, e123, hx123_0, hx123_1, hx123_2, hl123_2, hi123_2⟩ := at_T29 HR0.out 0 p123 q123
  obtain rfl : adp0 = ad123 := (by injection e123)
  have qi123 : (0 < l0.length) = True := eq_true (by omega)
  try simp only [z00, Nat.zero_mul, Addr.add_zero'] at hx123_0 hx123_1 hx123_2
  replace hx123_0 := zc HB hx123_0
  replace hx123_1 := zc HB hx123_1
  replace hx123_2 := zc HB hx123_2
  have HR123_2 := Aside0.mk hi123_2
  have HC123_2 := Aside0.mk hl123_2
  clear hi123_2 hl123_2
  replace p123 := eq_true p123
  replace q123 := eq_true q123
  go_wp2
  go_ret
  exact ⟨zv, zbo⟩
 rw [if_pos c10] at H
 have c10b0 : decide (x3_2 < (((rd_T29 l0 0).f2).length : Int)) = true := decide_eq_true c10
 clear c10
 by_cases c11 : 0 ≤ x3_2
 rotate_left
 ·rw [if_neg c11] at H
  exact absurd H (by simp)
 rw [if_pos c11] at H
 have c11b0 : decide (0 ≤ x3_2) = true := decide_eq_true c11
 clear c11
 replace H := zob H
 obtain ⟨t126, A120, H⟩ := H
 replace H : (if t126 = true then ((spec_l01In.f ((rd_T43 ((rd_T29 l0 0).f2) x3_2).f0.f0) ((rd_T43 ((rd_T29 l0 0).f2) x3_2).f0.f1) (wrap64 ((rd_T29 l0 0).f0)) (wrap64 ((rd_T29 l0 0).f1))).bind fun t130 => (if t130 = true then ((spec_l01Find.f k2 l0 ((rd_T43 ((rd_T29 l0 0).f2) x3_2).f0.f0) ((rd_T43 ((rd_T29 l0 0).f2) x3_2).f0.f1)).bind fun t132 => (if t132 = x3_2 then (spec_l01Ok.l0 k2 l0 (wrap64 (x3_2 + 1))) else (some false))) else (some false))) else (some false)) = some r := H
 have A12 := Aside0.mk A120
 clear A120
 by_cases c13 : t126 = true
 rotate_left
 ·replace c13 := Bool.eq_false_iff.mpr c13
  subst c13
  have H1 : (some false) = some r := by rw [if_neg (show ¬ (false = true) by decide)] at H; exact H
  clear H
  have H := H1
  clear H1
  obtain rfl := Option.some.inj H
  have p123 : 0 ≤ (0 : Int) := (by omega)
  have q123 : 0 < (l0.length : Int) := of_decide_eq_true zA
  obtain ⟨ad123, A123_2, c123_2, e123, hx123_0, hx123_1, hx123_2, hl123_2, hi123_2⟩ := at_T29 HR0.out 0 p123 q123
  obtain rfl : adp0 = ad123 := (by injection e123)
  have qi123 : (0 < l0.length) = True := eq_true (by omega)
  try simp only [z00, Nat.zero_mul, Addr.add_zero'] at hx123_0 hx123_1 hx123_2
  replace hx123_0 := zc HB hx123_0
  replace hx123_1 := zc HB hx123_1
  replace hx123_2 := zc HB hx123_2
  have HR123_2 := Aside0.mk hi123_2
  have HC123_2 := Aside0.mk hl123_2
  clear hi123_2 hl123_2
  replace p123 := eq_true p123
  replace q123 := eq_true q123
  have p124 : 0 ≤ (0 : Int) := (by omega)
  have q124 : 0 < (l0.length : Int) := of_decide_eq_true zA
  obtain ⟨ad124, A124_2, c124_2, e124, hx124_0, hx124_1, hx124_2, hl124_2, hi124_2⟩ := at_T29 HR0.out 0 p124 q124
  obtain rfl : adp0 = ad124 := (by injection e124)
  have qi124 : (0 < l0.length) = True := eq_true (by omega)
  try simp only [z00, Nat.zero_mul, Addr.add_zero'] at hx124_0 hx124_1 hx124_2
  replace hx124_0 := zc HB hx124_0
  replace hx124_1 := zc HB hx124_1
  replace hx124_2 := zc HB hx124_2
  have HR124_2 := Aside0.mk hi124_2
  have HC124_2 := Aside0.mk hl124_2
  clear hi124_2 hl124_2
  replace p124 := eq_true p124
  replace q124 := eq_true q124
  have ea_ := Option.some.inj (hx123_2.symm.trans hx124_2)
  injection ea_ with ea_ en_ ec_
  subst ea_
  subst ec_
  clear en_
  have p125 : 0 ≤ (x3_2 : Int) := of_decide_eq_true zA
  have q125 : x3_2 < (((rd_T29 l0 0).f2).length : Int) := of_decide_eq_true zA
  obtain ⟨ad125, e125, hx125_0, hx125_1, hx125_2, hx125_3, hx125_4⟩ := at_T43 HR124_2.out x3_2 p125 q125
  cases e125
  replace hx125_0 := zc HB hx125_0
  replace hx125_1 := zc HB hx125_1
  replace hx125_2 := zc HB hx125_2
  replace hx125_3 := zc HB hx125_3
  replace hx125_4 := zc HB hx125_4
  replace p125 := eq_true p125
  replace q125 := eq_true q125
  try go_wp2
  have n0_ := Aside0.mk (below_drew1 HB.out)
  clear HB
  have HB := n0_
  clear n0_
  refine start_ (n := 31) (S := fun w' => True) (ds := []) (zq 31 0) (by kernel_rfl) rfl rfl trivial (fun hHeld => ?_); refine with_tabW spec_l01Ok.tab7 spec_l01Ok.bits7 (fun HT_ HW_ => ?_)
  generalize wr.drew = w29 at HB hHeld ⊢
  refine zpu 0 (some 44) (zq 31 1) HT_ ?_
  refine one_ (i := 1) (N := some 45) (zq 31 3) rfl rfl (one_of HT_.out (by kernel_rfl)) (by decide) (fun K hK => ?_)
  refine goes_ Try.func25 (by kernel_rfl) rfl #[.pointer (some (ad125.add (x3_2.toNat * 5)))] (by rfl) rfl rfl zm ?_
  with_reducible refine (spec_l01Piece.calls _ [rd_T43 ((rd_T29 l0 0).f2) x3_2] false _ ?side1 A12.out).mono ?_
  (case side1 => refine ro_of_elem (d := k43) z43 x3_2 (by first | exact of_eq_true p125 | omega) (by first | exact of_eq_true q125 | omega) ?_; exact zcc HB HR124_2.out)
  rintro e w30 ⟨rfl, hb⟩
  refine ⟨_, rfl, ?_⟩
  have n0_ := zb HB hb
  clear HB
  have HB := n0_
  clear n0_
  (try clear hb)
  (try clear hb2)
  (try clear hk)
  (try clear hi)
  refine hK.out _ _ trivial (fun hHeld => ?_)
  clear hK K
  refine norm_ (a' := ?_) ?_ ?_
  rotate_left
  ·show Act.put _ (some 45) _ = _
   exact zap
  refine zpu 2 (some 46) (zq 31 7) HT_ ?_
  refine zpu 3 (some 47) (zq 31 15) HT_ ?_
  refine zpn 4 (some 48) (zq 31 31) HT_ ?_
  refine zpn 5 (some 49) (zq 31 63) HT_ ?_
  refine zpn 6 (some 50) (zq 31 127) HT_ ?_
  refine zpn 7 (some 51) (zq 31 255) HT_ ?_
  refine zpn 8 (some 52) (zq 31 511) HT_ ?_
  refine zpn 9 (some 53) (zq 31 1023) HT_ ?_
  refine zpn 10 (some 54) (zq 31 2047) HT_ ?_
  refine zpn 11 (some 55) (zq 31 4095) HT_ ?_
  refine zpn 12 (some 56) (zq 31 8191) HT_ ?_
  refine zpn 13 (some 57) (zq 31 16383) HT_ ?_
  refine zpn 14 (some 58) (zq 31 32767) HT_ ?_
  refine zpn 15 (some 59) (zq 31 65535) HT_ ?_
  refine zpn 16 (some 60) (zq 31 131071) HT_ ?_
  refine zpn 17 (some 61) (zq 31 262143) HT_ ?_
  refine zpn 18 (some 62) (zq 31 524287) HT_ ?_
  refine zpn 19 (some 63) (zq 31 1048575) HT_ ?_
  refine zpu 20 (some 64) (zq 31 2097151) HT_ ?_
  refine zpu 21 (some 65) (zq 31 4194303) HT_ ?_
  refine zpn 22 (some 66) (zq 31 8388607) HT_ ?_
  refine zpn 23 (some 67) (zq 31 16777215) HT_ ?_
  refine zpn 24 (some 68) (zq 31 33554431) HT_ ?_
  refine zpn 25 (some 69) (zq 31 67108863) HT_ ?_
  refine zpn 26 (some 70) (zq 31 134217727) HT_ ?_
  refine zpn 27 (some 71) (zq 31 268435455) HT_ ?_
  refine zpn 28 (some 72) (zq 31 536870911) HT_ ?_
  refine zpn 29 (some 73) (zq 31 1073741823) HT_ ?_
  refine zpu 30 (some 74) (zq 31 2147483647) HT_ ?_
  refine done_ (done_of HT_.out (by kernel_rfl)) ?_
  try go_wp2
  go_ret
  exact ⟨zv, zbo⟩
 subst c13
 have H1 : ((spec_l01In.f ((rd_T43 ((rd_T29 l0 0).f2) x3_2).f0.f0) ((rd_T43 ((rd_T29 l0 0).f2) x3_2).f0.f1) (wrap64 ((rd_T29 l0 0).f0)) (wrap64 ((rd_T29 l0 0).f1))).bind fun t130 => (if t130 = true then ((spec_l01Find.f k2 l0 ((rd_T43 ((rd_T29 l0 0).f2) x3_2).f0.f0) ((rd_T43 ((rd_T29 l0 0).f2) x3_2).f0.f1)).bind fun t132 => (if t132 = x3_2 then (spec_l01Ok.l0 k2 l0 (wrap64 (x3_2 + 1))) else (some false))) else (some false))) = some r := by rw [if_pos rfl] at H; exact H
 clear H
 have H := H1
 clear H1
 replace H := zob H
 obtain ⟨t130, A140, H⟩ := H
 replace H : (if t130 = true then ((spec_l01Find.f k2 l0 ((rd_T43 ((rd_T29 l0 0).f2) x3_2).f0.f0) ((rd_T43 ((rd_T29 l0 0).f2) x3_2).f0.f1)).bind fun t132 => (if t132 = x3_2 then (spec_l01Ok.l0 k2 l0 (wrap64 (x3_2 + 1))) else (some false))) else (some false)) = some r := H
 have A14 := Aside0.mk A140
 clear A140
 by_cases c15 : t130 = true
 rotate_left
 ·replace c15 := Bool.eq_false_iff.mpr c15
  subst c15
  have H1 : (some false) = some r := by rw [if_neg (show ¬ (false = true) by decide)] at H; exact H
  clear H
  have H := H1
  clear H1
  obtain rfl := Option.some.inj H
  have p123 : 0 ≤ (0 : Int) := (by omega)
  have q123 : 0 < (l0.length : Int) := of_decide_eq_true zA
  obtain ⟨ad123, A123_2, c123_2, e123, hx123_0, hx123_1, hx123_2, hl123_2, hi123_2⟩ := at_T29 HR0.out 0 p123 q123
  obtain rfl : adp0 = ad123 := (by injection e123)
  have qi123 : (0 < l0.length) = True := eq_true (by omega)
  try simp only [z00, Nat.zero_mul, Addr.add_zero'] at hx123_0 hx123_1 hx123_2
  replace hx123_0 := zc HB hx123_0
  replace hx123_1 := zc HB hx123_1
  replace hx123_2 := zc HB hx123_2
  have HR123_2 := Aside0.mk hi123_2
  have HC123_2 := Aside0.mk hl123_2
  clear hi123_2 hl123_2
  replace p123 := eq_true p123
  replace q123 := eq_true q123
  have p124 : 0 ≤ (0 : Int) := (by omega)
  have q124 : 0 < (l0.length : Int) := of_decide_eq_true zA
  obtain ⟨ad124, A124_2, c124_2, e124, hx124_0, hx124_1, hx124_2, hl124_2, hi124_2⟩ := at_T29 HR0.out 0 p124 q124
  obtain rfl : adp0 = ad124 := (by injection e124)
  have qi124 : (0 < l0.length) = True := eq_true (by omega)
  try simp only [z00, Nat.zero_mul, Addr.add_zero'] at hx124_0 hx124_1 hx124_2
  replace hx124_0 := zc HB hx124_0
  replace hx124_1 := zc HB hx124_1
  replace hx124_2 := zc HB hx124_2
  have HR124_2 := Aside0.mk hi124_2
  have HC124_2 := Aside0.mk hl124_2
  clear hi124_2 hl124_2
  replace p124 := eq_true p124
  replace q124 := eq_true q124
  have ea_ := Option.some.inj (hx123_2.symm.trans hx124_2)
  injection ea_ with ea_ en_ ec_
  subst ea_
  subst ec_
  clear en_
  have p125 : 0 ≤ (x3_2 : Int) := of_decide_eq_true zA
  have q125 : x3_2 < (((rd_T29 l0 0).f2).length : Int) := of_decide_eq_true zA
  obtain ⟨ad125, e125, hx125_0, hx125_1, hx125_2, hx125_3, hx125_4⟩ := at_T43 HR124_2.out x3_2 p125 q125
  cases e125
  replace hx125_0 := zc HB hx125_0
  replace hx125_1 := zc HB hx125_1
  replace hx125_2 := zc HB hx125_2
  replace hx125_3 := zc HB hx125_3
  replace hx125_4 := zc HB hx125_4
  replace p125 := eq_true p125
  replace q125 := eq_true q125
  try go_wp2
  have n0_ := Aside0.mk (below_drew1 HB.out)
  clear HB
  have HB := n0_
  clear n0_
  have p127 : 0 ≤ (x3_2 : Int) := of_decide_eq_true zA
  have q127 : x3_2 < (((rd_T29 l0 0).f2).length : Int) := of_decide_eq_true zA
  obtain ⟨ad127, e127, hx127_0, hx127_1, hx127_2, hx127_3, hx127_4⟩ := at_T43 HR124_2.out x3_2 p127 q127
  have hw127_4 := hx127_4
  have hw127_3 := hx127_3
  have hw127_2 := hx127_2
  have hw127_1 := hx127_1
  have hw127_0 := hx127_0
  obtain rfl : ad125 = ad127 := (by injection e127)
  replace hx127_0 := zc HB hx127_0
  replace hx127_1 := zc HB hx127_1
  replace hx127_2 := zc HB hx127_2
  replace hx127_3 := zc HB hx127_3
  replace hx127_4 := zc HB hx127_4
  replace p127 := eq_true p127
  replace q127 := eq_true q127
  have p128 : 0 ≤ (0 : Int) := (by omega)
  have q128 : 0 < (l0.length : Int) := of_decide_eq_true zA
  obtain ⟨ad128, A128_2, c128_2, e128, hx128_0, hx128_1, hx128_2, hl128_2, hi128_2⟩ := at_T29 HR0.out 0 p128 q128
  have hw128_2 := hx128_2
  try simp only [z00, Nat.zero_mul, Addr.add_zero'] at hw128_2
  have hw128_1 := hx128_1
  try simp only [z00, Nat.zero_mul, Addr.add_zero'] at hw128_1
  have hw128_0 := hx128_0
  try simp only [z00, Nat.zero_mul, Addr.add_zero'] at hw128_0
  obtain rfl : adp0 = ad128 := (by injection e128)
  have qi128 : (0 < l0.length) = True := eq_true (by omega)
  try simp only [z00, Nat.zero_mul, Addr.add_zero'] at hx128_0 hx128_1 hx128_2
  replace hx128_0 := zc HB hx128_0
  replace hx128_1 := zc HB hx128_1
  replace hx128_2 := zc HB hx128_2
  have HR128_2 := Aside0.mk hi128_2
  have HC128_2 := Aside0.mk hl128_2
  clear hi128_2 hl128_2
  replace p128 := eq_true p128
  replace q128 := eq_true q128
  have p129 : 0 ≤ (0 : Int) := (by omega)
  have q129 : 0 < (l0.length : Int) := of_decide_eq_true zA
  obtain ⟨ad129, A129_2, c129_2, e129, hx129_0, hx129_1, hx129_2, hl129_2, hi129_2⟩ := at_T29 HR0.out 0 p129 q129
  have hw129_2 := hx129_2
  try simp only [z00, Nat.zero_mul, Addr.add_zero'] at hw129_2
  have hw129_1 := hx129_1
  try simp only [z00, Nat.zero_mul, Addr.add_zero'] at hw129_1
  have hw129_0 := hx129_0
  try simp only [z00, Nat.zero_mul, Addr.add_zero'] at hw129_0
  obtain rfl : adp0 = ad129 := (by injection e129)
  have qi129 : (0 < l0.length) = True := eq_true (by omega)
  try simp only [z00, Nat.zero_mul, Addr.add_zero'] at hx129_0 hx129_1 hx129_2
  replace hx129_0 := zc HB hx129_0
  replace hx129_1 := zc HB hx129_1
  replace hx129_2 := zc HB hx129_2
  have HR129_2 := Aside0.mk hi129_2
  have HC129_2 := Aside0.mk hl129_2
  clear hi129_2 hl129_2
  replace p129 := eq_true p129
  replace q129 := eq_true q129
  have ea_ := Option.some.inj (hx128_2.symm.trans hx129_2)
  injection ea_ with ea_ en_ ec_
  subst ea_
  subst ec_
  clear en_
  refine start_ (n := 31) (S := fun w' => w'.cell? (ad125.add ((x3_2).toNat * 5)) = some (.int .i8 ((rd_T43 ((rd_T29 l0 0).f2) x3_2).f0.f0)) ∧ w'.cell? ⟨(ad125.add ((x3_2).toNat * 5)).block, (ad125.add ((x3_2).toNat * 5)).off + 1, none⟩ = some (.int .i8 ((rd_T43 ((rd_T29 l0 0).f2) x3_2).f0.f1)) ∧ w'.cell? ⟨(ad125.add ((x3_2).toNat * 5)).block, (ad125.add ((x3_2).toNat * 5)).off + 2, none⟩ = some (.int .i8 ((rd_T43 ((rd_T29 l0 0).f2) x3_2).f1)) ∧ w'.cell? ⟨(ad125.add ((x3_2).toNat * 5)).block, (ad125.add ((x3_2).toNat * 5)).off + 3, none⟩ = some (.int .i8 ((rd_T43 ((rd_T29 l0 0).f2) x3_2).f2)) ∧ w'.cell? ⟨(ad125.add ((x3_2).toNat * 5)).block, (ad125.add ((x3_2).toNat * 5)).off + 4, none⟩ = some (.int .i8 ((rd_T43 ((rd_T29 l0 0).f2) x3_2).f3)) ∧ w'.cell? adp0 = some (.int .i8 ((rd_T29 l0 0).f0)) ∧ w'.cell? ⟨adp0.block, adp0.off + 1, none⟩ = some (.int .i8 ((rd_T29 l0 0).f1)) ∧ w'.cell? ⟨adp0.block, adp0.off + 2, none⟩ = some (.slice A128_2 ((rd_T29 l0 0).f2).length c128_2) ∧ w'.cell? adp0 = some (.int .i8 ((rd_T29 l0 0).f0)) ∧ w'.cell? ⟨adp0.block, adp0.off + 1, none⟩ = some (.int .i8 ((rd_T29 l0 0).f1)) ∧ w'.cell? ⟨adp0.block, adp0.off + 2, none⟩ = some (.slice A128_2 ((rd_T29 l0 0).f2).length c128_2)) (ds := []) (zq 31 0) (by kernel_rfl) rfl rfl ⟨(zc HB hw127_0), (zc HB hw127_1), (zc HB hw127_2), (zc HB hw127_3), (zc HB hw127_4), (zc HB hw128_0), (zc HB hw128_1), (zc HB hw128_2), (zc HB hw129_0), (zc HB hw129_1), (zc HB hw129_2)⟩ (fun hHeld => ?_); refine with_tabW spec_l01Ok.tab7 spec_l01Ok.bits7 (fun HT_ HW_ => ?_)
  generalize wr.drew = w26 at HB HR128_2 HR129_2 hx127_0 hx127_1 hx127_2 hx127_3 hx127_4 hx128_0 hx128_1 hx128_2 hx129_0 hx129_1 hx129_2 hHeld ⊢
  refine zpu 0 (some 44) (zq 31 1) HT_ ?_
  refine one_ (i := 1) (N := some 45) (zq 31 3) rfl rfl (one_of HT_.out (by kernel_rfl)) (by decide) (fun K hK => ?_)
  refine goes_ Try.func25 (by kernel_rfl) rfl #[.pointer (some (ad125.add (x3_2.toNat * 5)))] (by rfl) rfl rfl zm ?_
  with_reducible refine (spec_l01Piece.calls _ [rd_T43 ((rd_T29 l0 0).f2) x3_2] true _ ?side1 A12.out).mono ?_
  (case side1 => refine ro_of_elem (d := k43) z43 x3_2 (by first | exact of_eq_true p125 | omega) (by first | exact of_eq_true q125 | omega) ?_; exact zcc HB HR124_2.out)
  rintro e w27 ⟨rfl, hb⟩
  refine ⟨_, rfl, ?_⟩
  have n0_ := zb HB hb
  clear HB
  have HB := n0_
  clear n0_
  (try clear hb)
  (try clear hb2)
  (try clear hk)
  (try clear hi)
  refine hK.out _ _ ⟨(zc HB hw127_0), (zc HB hw127_1), (zc HB hw127_2), (zc HB hw127_3), (zc HB hw127_4), (zc HB hw128_0), (zc HB hw128_1), (zc HB hw128_2), (zc HB hw129_0), (zc HB hw129_1), (zc HB hw129_2)⟩ (fun hHeld => ?_)
  clear hK K
  refine norm_ (a' := ?_) ?_ ?_
  rotate_left
  ·show Act.put _ (some 45) _ = _
   exact zap
  refine zpu 2 (some 46) (zq 31 7) HT_ ?_
  refine zpu 3 (some 47) (zq 31 15) HT_ ?_
  refine zpu 4 (some 48) (zq 31 31) HT_ ?_
  refine zpu 5 (some 49) (zq 31 63) HT_ ?_
  refine zpu 6 (some 50) (zq 31 127) HT_ ?_
  refine zpu 8 (some 52) (zq 31 383) HT_ ?_
  refine zpu 9 (some 53) (zq 31 895) HT_ ?_
  refine zpu 10 (some 54) (zq 31 1919) HT_ ?_
  refine zpu 13 (some 57) (zq 31 10111) HT_ ?_
  refine zpu 14 (some 58) (zq 31 26495) HT_ ?_
  refine zpu 15 (some 59) (zq 31 59263) HT_ ?_
  refine ztk 7 (some 51) (zq 31 59391) HT_ HW_ rfl hHeld (Or.inl ⟨by rfl, by (rintro w' ⟨s0, s1, s2, s3, s4, s5, s6, s7, s8, s9, s10⟩; go_simp; with_reducible rfl)⟩) ?_
  refine ztk 11 (some 55) (zq 31 61439) HT_ HW_ rfl hHeld (Or.inl ⟨by rfl, by (rintro w' ⟨s0, s1, s2, s3, s4, s5, s6, s7, s8, s9, s10⟩; go_simp; with_reducible rfl)⟩) ?_
  refine zpu 12 (some 56) (zq 31 65535) HT_ ?_
  refine ztk 16 (some 60) (zq 31 131071) HT_ HW_ rfl hHeld (Or.inl ⟨by rfl, by (rintro w' ⟨s0, s1, s2, s3, s4, s5, s6, s7, s8, s9, s10⟩; go_simp; with_reducible rfl)⟩) ?_
  refine zpu 17 (some 61) (zq 31 262143) HT_ ?_
  refine one_ (i := 18) (N := some 62) (zq 31 524287) rfl rfl (one_of HT_.out (by kernel_rfl)) (by decide) (fun K hK => ?_)
  refine goes_ Try.func26 (by kernel_rfl) rfl #[.agg #[.int .i8 ((rd_T43 ((rd_T29 l0 0).f2) x3_2).f0.f0), .int .i8 ((rd_T43 ((rd_T29 l0 0).f2) x3_2).f0.f1)], .int .i64 (wrap64 ((rd_T29 l0 0).f0)), .int .i64 (wrap64 ((rd_T29 l0 0).f1))] (by rfl) rfl rfl zm ?_
  with_reducible refine (spec_l01In.calls ((rd_T43 ((rd_T29 l0 0).f2) x3_2).f0.f0) ((rd_T43 ((rd_T29 l0 0).f2) x3_2).f0.f1) (wrap64 ((rd_T29 l0 0).f0)) (wrap64 ((rd_T29 l0 0).f1)) false _ A14.out).mono ?_
  rintro e w28 ⟨rfl, hb⟩
  refine ⟨_, rfl, ?_⟩
  have n0_ := zb HB hb
  clear HB
  have HB := n0_
  clear n0_
  (try clear hb)
  (try clear hb2)
  (try clear hk)
  (try clear hi)
  refine hK.out _ _ ⟨(zc HB hw127_0), (zc HB hw127_1), (zc HB hw127_2), (zc HB hw127_3), (zc HB hw127_4), (zc HB hw128_0), (zc HB hw128_1), (zc HB hw128_2), (zc HB hw129_0), (zc HB hw129_1), (zc HB hw129_2)⟩ (fun hHeld => ?_)
  clear hK K
  refine norm_ (a' := ?_) ?_ ?_
  rotate_left
  ·show Act.put _ (some 62) _ = _
   exact zap
  refine zpu 19 (some 63) (zq 31 1048575) HT_ ?_
  refine zpu 20 (some 64) (zq 31 2097151) HT_ ?_
  refine zpu 21 (some 65) (zq 31 4194303) HT_ ?_
  refine zpn 22 (some 66) (zq 31 8388607) HT_ ?_
  refine zpn 23 (some 67) (zq 31 16777215) HT_ ?_
  refine zpn 24 (some 68) (zq 31 33554431) HT_ ?_
  refine zpn 25 (some 69) (zq 31 67108863) HT_ ?_
  refine zpn 26 (some 70) (zq 31 134217727) HT_ ?_
  refine zpn 27 (some 71) (zq 31 268435455) HT_ ?_
  refine zpn 28 (some 72) (zq 31 536870911) HT_ ?_
  refine zpn 29 (some 73) (zq 31 1073741823) HT_ ?_
  refine zpu 30 (some 74) (zq 31 2147483647) HT_ ?_
  refine done_ (done_of HT_.out (by kernel_rfl)) ?_
  try go_wp2
  go_ret
  exact ⟨zv, zbo⟩
 subst c15
 have H1 : ((spec_l01Find.f k2 l0 ((rd_T43 ((rd_T29 l0 0).f2) x3_2).f0.f0) ((rd_T43 ((rd_T29 l0 0).f2) x3_2).f0.f1)).bind fun t132 => (if t132 = x3_2 then (spec_l01Ok.l0 k2 l0 (wrap64 (x3_2 + 1))) else (some false))) = some r := by rw [if_pos rfl] at H; exact H
 clear H
 have H := H1
 clear H1
 replace H := zob H
 obtain ⟨t132, A160, H⟩ := H
 replace H : (if t132 = x3_2 then (spec_l01Ok.l0 k2 l0 (wrap64 (x3_2 + 1))) else (some false)) = some r := H
 have A16 := Aside0.mk A160
 clear A160
 by_cases c17 : t132 = x3_2
 rotate_left
 ·rw [if_neg c17] at H
  have c17b0 : (t132 == x3_2) = false := beq_eq_false_iff_ne.mpr c17
  have c17b1 : (t132 != x3_2) = true := bne_iff_ne.mpr c17
  obtain rfl := Option.some.inj H
  have p123 : 0 ≤ (0 : Int) := (by omega)
  have q123 : 0 < (l0.length : Int) := of_decide_eq_true zA
  obtain ⟨ad123, A123_2, c123_2, e123, hx123_0, hx123_1, hx123_2, hl123_2, hi123_2⟩ := at_T29 HR0.out 0 p123 q123
  obtain rfl : adp0 = ad123 := (by injection e123)
  have qi123 : (0 < l0.length) = True := eq_true (by omega)
  try simp only [z00, Nat.zero_mul, Addr.add_zero'] at hx123_0 hx123_1 hx123_2
  replace hx123_0 := zc HB hx123_0
  replace hx123_1 := zc HB hx123_1
  replace hx123_2 := zc HB hx123_2
  have HR123_2 := Aside0.mk hi123_2
  have HC123_2 := Aside0.mk hl123_2
  clear hi123_2 hl123_2
  replace p123 := eq_true p123
  replace q123 := eq_true q123
  have p124 : 0 ≤ (0 : Int) := (by omega)
  have q124 : 0 < (l0.length : Int) := of_decide_eq_true zA
  obtain ⟨ad124, A124_2, c124_2, e124, hx124_0, hx124_1, hx124_2, hl124_2, hi124_2⟩ := at_T29 HR0.out 0 p124 q124
  obtain rfl : adp0 = ad124 := (by injection e124)
  have qi124 : (0 < l0.length) = True := eq_true (by omega)
  try simp only [z00, Nat.zero_mul, Addr.add_zero'] at hx124_0 hx124_1 hx124_2
  replace hx124_0 := zc HB hx124_0
  replace hx124_1 := zc HB hx124_1
  replace hx124_2 := zc HB hx124_2
  have HR124_2 := Aside0.mk hi124_2
  have HC124_2 := Aside0.mk hl124_2
  clear hi124_2 hl124_2
  replace p124 := eq_true p124
  replace q124 := eq_true q124
  have ea_ := Option.some.inj (hx123_2.symm.trans hx124_2)
  injection ea_ with ea_ en_ ec_
  subst ea_
  subst ec_
  clear en_
  have p125 : 0 ≤ (x3_2 : Int) := of_decide_eq_true zA
  have q125 : x3_2 < (((rd_T29 l0 0).f2).length : Int) := of_decide_eq_true zA
  obtain ⟨ad125, e125, hx125_0, hx125_1, hx125_2, hx125_3, hx125_4⟩ := at_T43 HR124_2.out x3_2 p125 q125
  cases e125
  replace hx125_0 := zc HB hx125_0
  replace hx125_1 := zc HB hx125_1
  replace hx125_2 := zc HB hx125_2
  replace hx125_3 := zc HB hx125_3
  replace hx125_4 := zc HB hx125_4
  replace p125 := eq_true p125
  replace q125 := eq_true q125
  try go_wp2
  have n0_ := Aside0.mk (below_drew1 HB.out)
  clear HB
  have HB := n0_
  clear n0_
  have p127 : 0 ≤ (x3_2 : Int) := of_decide_eq_true zA
  have q127 : x3_2 < (((rd_T29 l0 0).f2).length : Int) := of_decide_eq_true zA
  obtain ⟨ad127, e127, hx127_0, hx127_1, hx127_2, hx127_3, hx127_4⟩ := at_T43 HR124_2.out x3_2 p127 q127
  have hw127_4 := hx127_4
  have hw127_3 := hx127_3
  have hw127_2 := hx127_2
  have hw127_1 := hx127_1
  have hw127_0 := hx127_0
  obtain rfl : ad125 = ad127 := (by injection e127)
  replace hx127_0 := zc HB hx127_0
  replace hx127_1 := zc HB hx127_1
  replace hx127_2 := zc HB hx127_2
  replace hx127_3 := zc HB hx127_3
  replace hx127_4 := zc HB hx127_4
  replace p127 := eq_true p127
  replace q127 := eq_true q127
  have p128 : 0 ≤ (0 : Int) := (by omega)
  have q128 : 0 < (l0.length : Int) := of_decide_eq_true zA
  obtain ⟨ad128, A128_2, c128_2, e128, hx128_0, hx128_1, hx128_2, hl128_2, hi128_2⟩ := at_T29 HR0.out 0 p128 q128
  have hw128_2 := hx128_2
  try simp only [z00, Nat.zero_mul, Addr.add_zero'] at hw128_2
  have hw128_1 := hx128_1
  try simp only [z00, Nat.zero_mul, Addr.add_zero'] at hw128_1
  have hw128_0 := hx128_0
  try simp only [z00, Nat.zero_mul, Addr.add_zero'] at hw128_0
  obtain rfl : adp0 = ad128 := (by injection e128)
  have qi128 : (0 < l0.length) = True := eq_true (by omega)
  try simp only [z00, Nat.zero_mul, Addr.add_zero'] at hx128_0 hx128_1 hx128_2
  replace hx128_0 := zc HB hx128_0
  replace hx128_1 := zc HB hx128_1
  replace hx128_2 := zc HB hx128_2
  have HR128_2 := Aside0.mk hi128_2
  have HC128_2 := Aside0.mk hl128_2
  clear hi128_2 hl128_2
  replace p128 := eq_true p128
  replace q128 := eq_true q128
  have p129 : 0 ≤ (0 : Int) := (by omega)
  have q129 : 0 < (l0.length : Int) := of_decide_eq_true zA
  obtain ⟨ad129, A129_2, c129_2, e129, hx129_0, hx129_1, hx129_2, hl129_2, hi129_2⟩ := at_T29 HR0.out 0 p129 q129
  have hw129_2 := hx129_2
  try simp only [z00, Nat.zero_mul, Addr.add_zero'] at hw129_2
  have hw129_1 := hx129_1
  try simp only [z00, Nat.zero_mul, Addr.add_zero'] at hw129_1
  have hw129_0 := hx129_0
  try simp only [z00, Nat.zero_mul, Addr.add_zero'] at hw129_0
  obtain rfl : adp0 = ad129 := (by injection e129)
  have qi129 : (0 < l0.length) = True := eq_true (by omega)
  try simp only [z00, Nat.zero_mul, Addr.add_zero'] at hx129_0 hx129_1 hx129_2
  replace hx129_0 := zc HB hx129_0
  replace hx129_1 := zc HB hx129_1
  replace hx129_2 := zc HB hx129_2
  have HR129_2 := Aside0.mk hi129_2
  have HC129_2 := Aside0.mk hl129_2
  clear hi129_2 hl129_2
  replace p129 := eq_true p129
  replace q129 := eq_true q129
  have ea_ := Option.some.inj (hx128_2.symm.trans hx129_2)
  injection ea_ with ea_ en_ ec_
  subst ea_
  subst ec_
  clear en_
  have p131 : 0 ≤ (x3_2 : Int) := of_decide_eq_true zA
  have q131 : x3_2 < (((rd_T29 l0 0).f2).length : Int) := of_decide_eq_true zA
  obtain ⟨ad131, e131, hx131_0, hx131_1, hx131_2, hx131_3, hx131_4⟩ := at_T43 HR124_2.out x3_2 p131 q131
  have hw131_4 := hx131_4
  have hw131_3 := hx131_3
  have hw131_2 := hx131_2
  have hw131_1 := hx131_1
  have hw131_0 := hx131_0
  obtain rfl : ad125 = ad131 := (by injection e131)
  replace hx131_0 := zc HB hx131_0
  replace hx131_1 := zc HB hx131_1
  replace hx131_2 := zc HB hx131_2
  replace hx131_3 := zc HB hx131_3
  replace hx131_4 := zc HB hx131_4
  replace p131 := eq_true p131
  replace q131 := eq_true q131
  refine start_ (n := 31) (S := fun w' => w'.cell? (ad125.add ((x3_2).toNat * 5)) = some (.int .i8 ((rd_T43 ((rd_T29 l0 0).f2) x3_2).f0.f0)) ∧ w'.cell? ⟨(ad125.add ((x3_2).toNat * 5)).block, (ad125.add ((x3_2).toNat * 5)).off + 1, none⟩ = some (.int .i8 ((rd_T43 ((rd_T29 l0 0).f2) x3_2).f0.f1)) ∧ w'.cell? ⟨(ad125.add ((x3_2).toNat * 5)).block, (ad125.add ((x3_2).toNat * 5)).off + 2, none⟩ = some (.int .i8 ((rd_T43 ((rd_T29 l0 0).f2) x3_2).f1)) ∧ w'.cell? ⟨(ad125.add ((x3_2).toNat * 5)).block, (ad125.add ((x3_2).toNat * 5)).off + 3, none⟩ = some (.int .i8 ((rd_T43 ((rd_T29 l0 0).f2) x3_2).f2)) ∧ w'.cell? ⟨(ad125.add ((x3_2).toNat * 5)).block, (ad125.add ((x3_2).toNat * 5)).off + 4, none⟩ = some (.int .i8 ((rd_T43 ((rd_T29 l0 0).f2) x3_2).f3)) ∧ w'.cell? adp0 = some (.int .i8 ((rd_T29 l0 0).f0)) ∧ w'.cell? ⟨adp0.block, adp0.off + 1, none⟩ = some (.int .i8 ((rd_T29 l0 0).f1)) ∧ w'.cell? ⟨adp0.block, adp0.off + 2, none⟩ = some (.slice A128_2 ((rd_T29 l0 0).f2).length c128_2) ∧ w'.cell? adp0 = some (.int .i8 ((rd_T29 l0 0).f0)) ∧ w'.cell? ⟨adp0.block, adp0.off + 1, none⟩ = some (.int .i8 ((rd_T29 l0 0).f1)) ∧ w'.cell? ⟨adp0.block, adp0.off + 2, none⟩ = some (.slice A128_2 ((rd_T29 l0 0).f2).length c128_2) ∧ w'.cell? (ad125.add ((x3_2).toNat * 5)) = some (.int .i8 ((rd_T43 ((rd_T29 l0 0).f2) x3_2).f0.f0)) ∧ w'.cell? ⟨(ad125.add ((x3_2).toNat * 5)).block, (ad125.add ((x3_2).toNat * 5)).off + 1, none⟩ = some (.int .i8 ((rd_T43 ((rd_T29 l0 0).f2) x3_2).f0.f1)) ∧ w'.cell? ⟨(ad125.add ((x3_2).toNat * 5)).block, (ad125.add ((x3_2).toNat * 5)).off + 2, none⟩ = some (.int .i8 ((rd_T43 ((rd_T29 l0 0).f2) x3_2).f1)) ∧ w'.cell? ⟨(ad125.add ((x3_2).toNat * 5)).block, (ad125.add ((x3_2).toNat * 5)).off + 3, none⟩ = some (.int .i8 ((rd_T43 ((rd_T29 l0 0).f2) x3_2).f2)) ∧ w'.cell? ⟨(ad125.add ((x3_2).toNat * 5)).block, (ad125.add ((x3_2).toNat * 5)).off + 4, none⟩ = some (.int .i8 ((rd_T43 ((rd_T29 l0 0).f2) x3_2).f3))) (ds := []) (zq 31 0) (by kernel_rfl) rfl rfl ⟨(zc HB hw127_0), (zc HB hw127_1), (zc HB hw127_2), (zc HB hw127_3), (zc HB hw127_4), (zc HB hw128_0), (zc HB hw128_1), (zc HB hw128_2), (zc HB hw129_0), (zc HB hw129_1), (zc HB hw129_2), (zc HB hw131_0), (zc HB hw131_1), (zc HB hw131_2), (zc HB hw131_3), (zc HB hw131_4)⟩ (fun hHeld => ?_); refine with_tabW spec_l01Ok.tab7 spec_l01Ok.bits7 (fun HT_ HW_ => ?_)
  generalize wr.drew = w22 at HB HR128_2 HR129_2 hx127_0 hx127_1 hx127_2 hx127_3 hx127_4 hx128_0 hx128_1 hx128_2 hx129_0 hx129_1 hx129_2 hx131_0 hx131_1 hx131_2 hx131_3 hx131_4 hHeld ⊢
  refine zpu 0 (some 44) (zq 31 1) HT_ ?_
  refine one_ (i := 1) (N := some 45) (zq 31 3) rfl rfl (one_of HT_.out (by kernel_rfl)) (by decide) (fun K hK => ?_)
  refine goes_ Try.func25 (by kernel_rfl) rfl #[.pointer (some (ad125.add (x3_2.toNat * 5)))] (by rfl) rfl rfl zm ?_
  with_reducible refine (spec_l01Piece.calls _ [rd_T43 ((rd_T29 l0 0).f2) x3_2] true _ ?side1 A12.out).mono ?_
  (case side1 => refine ro_of_elem (d := k43) z43 x3_2 (by first | exact of_eq_true p125 | omega) (by first | exact of_eq_true q125 | omega) ?_; exact zcc HB HR124_2.out)
  rintro e w23 ⟨rfl, hb⟩
  refine ⟨_, rfl, ?_⟩
  have n0_ := zb HB hb
  clear HB
  have HB := n0_
  clear n0_
  (try clear hb)
  (try clear hb2)
  (try clear hk)
  (try clear hi)
  refine hK.out _ _ ⟨(zc HB hw127_0), (zc HB hw127_1), (zc HB hw127_2), (zc HB hw127_3), (zc HB hw127_4), (zc HB hw128_0), (zc HB hw128_1), (zc HB hw128_2), (zc HB hw129_0), (zc HB hw129_1), (zc HB hw129_2), (zc HB hw131_0), (zc HB hw131_1), (zc HB hw131_2), (zc HB hw131_3), (zc HB hw131_4)⟩ (fun hHeld => ?_)
  clear hK K
  refine norm_ (a' := ?_) ?_ ?_
  rotate_left
  ·show Act.put _ (some 45) _ = _
   exact zap
  refine zpu 2 (some 46) (zq 31 7) HT_ ?_
  refine zpu 3 (some 47) (zq 31 15) HT_ ?_
  refine zpu 4 (some 48) (zq 31 31) HT_ ?_
  refine zpu 5 (some 49) (zq 31 63) HT_ ?_
  refine zpu 6 (some 50) (zq 31 127) HT_ ?_
  refine zpu 8 (some 52) (zq 31 383) HT_ ?_
  refine zpu 9 (some 53) (zq 31 895) HT_ ?_
  refine zpu 10 (some 54) (zq 31 1919) HT_ ?_
  refine zpu 13 (some 57) (zq 31 10111) HT_ ?_
  refine zpu 14 (some 58) (zq 31 26495) HT_ ?_
  refine zpu 15 (some 59) (zq 31 59263) HT_ ?_
  refine ztk 7 (some 51) (zq 31 59391) HT_ HW_ rfl hHeld (Or.inl ⟨by rfl, by (rintro w' ⟨s0, s1, s2, s3, s4, s5, s6, s7, s8, s9, s10, s11, s12, s13, s14, s15⟩; go_simp; with_reducible rfl)⟩) ?_
  refine ztk 11 (some 55) (zq 31 61439) HT_ HW_ rfl hHeld (Or.inl ⟨by rfl, by (rintro w' ⟨s0, s1, s2, s3, s4, s5, s6, s7, s8, s9, s10, s11, s12, s13, s14, s15⟩; go_simp; with_reducible rfl)⟩) ?_
  refine zpu 12 (some 56) (zq 31 65535) HT_ ?_
  refine ztk 16 (some 60) (zq 31 131071) HT_ HW_ rfl hHeld (Or.inl ⟨by rfl, by (rintro w' ⟨s0, s1, s2, s3, s4, s5, s6, s7, s8, s9, s10, s11, s12, s13, s14, s15⟩; go_simp; with_reducible rfl)⟩) ?_
  refine zpu 17 (some 61) (zq 31 262143) HT_ ?_
  refine one_ (i := 18) (N := some 62) (zq 31 524287) rfl rfl (one_of HT_.out (by kernel_rfl)) (by decide) (fun K hK => ?_)
  refine goes_ Try.func26 (by kernel_rfl) rfl #[.agg #[.int .i8 ((rd_T43 ((rd_T29 l0 0).f2) x3_2).f0.f0), .int .i8 ((rd_T43 ((rd_T29 l0 0).f2) x3_2).f0.f1)], .int .i64 (wrap64 ((rd_T29 l0 0).f0)), .int .i64 (wrap64 ((rd_T29 l0 0).f1))] (by rfl) rfl rfl zm ?_
  with_reducible refine (spec_l01In.calls ((rd_T43 ((rd_T29 l0 0).f2) x3_2).f0.f0) ((rd_T43 ((rd_T29 l0 0).f2) x3_2).f0.f1) (wrap64 ((rd_T29 l0 0).f0)) (wrap64 ((rd_T29 l0 0).f1)) true _ A14.out).mono ?_
  rintro e w24 ⟨rfl, hb⟩
  refine ⟨_, rfl, ?_⟩
  have n0_ := zb HB hb
  clear HB
  have HB := n0_
  clear n0_
  (try clear hb)
  (try clear hb2)
  (try clear hk)
  (try clear hi)
  refine hK.out _ _ ⟨(zc HB hw127_0), (zc HB hw127_1), (zc HB hw127_2), (zc HB hw127_3), (zc HB hw127_4), (zc HB hw128_0), (zc HB hw128_1), (zc HB hw128_2), (zc HB hw129_0), (zc HB hw129_1), (zc HB hw129_2), (zc HB hw131_0), (zc HB hw131_1), (zc HB hw131_2), (zc HB hw131_3), (zc HB hw131_4)⟩ (fun hHeld => ?_)
  clear hK K
  refine norm_ (a' := ?_) ?_ ?_
  rotate_left
  ·show Act.put _ (some 62) _ = _
   exact zap
  refine zpu 19 (some 63) (zq 31 1048575) HT_ ?_
  refine zpu 20 (some 64) (zq 31 2097151) HT_ ?_
  refine zpu 21 (some 65) (zq 31 4194303) HT_ ?_
  refine zpu 22 (some 66) (zq 31 8388607) HT_ ?_
  refine zpu 23 (some 67) (zq 31 16777215) HT_ ?_
  refine zpu 24 (some 68) (zq 31 33554431) HT_ ?_
  refine zpu 25 (some 69) (zq 31 67108863) HT_ ?_
  refine zpu 28 (some 72) (zq 31 335544319) HT_ ?_
  refine ztk 26 (some 70) (zq 31 402653183) HT_ HW_ rfl hHeld (Or.inl ⟨by rfl, by (rintro w' ⟨s0, s1, s2, s3, s4, s5, s6, s7, s8, s9, s10, s11, s12, s13, s14, s15⟩; go_simp; with_reducible rfl)⟩) ?_
  refine one_ (i := 27) (N := some 71) (zq 31 536870911) rfl rfl (one_of HT_.out (by kernel_rfl)) (by decide) (fun K hK => ?_)
  refine goes_ Try.func13 (by kernel_rfl) rfl #[.pointer (some adp0), .agg #[.int .i8 ((rd_T43 ((rd_T29 l0 0).f2) x3_2).f0.f0), .int .i8 ((rd_T43 ((rd_T29 l0 0).f2) x3_2).f0.f1)]] (by rfl) rfl rfl zm ?_
  with_reducible refine (spec_l01Find.calls k2 _ l0 ((rd_T43 ((rd_T29 l0 0).f2) x3_2).f0.f0) ((rd_T43 ((rd_T29 l0 0).f2) x3_2).f0.f1) t132 _ ?side1 A16.out).mono ?_
  (case side1 => exact zcc HB HR0.out)
  rintro e w25 ⟨rfl, hb⟩
  refine ⟨_, rfl, ?_⟩
  have n0_ := zb HB hb
  clear HB
  have HB := n0_
  clear n0_
  (try clear hb)
  (try clear hb2)
  (try clear hk)
  (try clear hi)
  refine hK.out _ _ ⟨(zc HB hw127_0), (zc HB hw127_1), (zc HB hw127_2), (zc HB hw127_3), (zc HB hw127_4), (zc HB hw128_0), (zc HB hw128_1), (zc HB hw128_2), (zc HB hw129_0), (zc HB hw129_1), (zc HB hw129_2), (zc HB hw131_0), (zc HB hw131_1), (zc HB hw131_2), (zc HB hw131_3), (zc HB hw131_4)⟩ (fun hHeld => ?_)
  clear hK K
  refine norm_ (a' := ?_) ?_ ?_
  rotate_left
  ·show Act.put _ (some 71) _ = _
   exact zap
  refine zpu 29 (some 73) (zq 31 1073741823) HT_ ?_
  refine zpu 30 (some 74) (zq 31 2147483647) HT_ ?_
  refine done_ (done_of HT_.out (by kernel_rfl)) ?_
  try go_wp2
  go_ret
  exact ⟨zv, zbo⟩
 rw [if_pos c17] at H
 have c17b0 : (t132 == x3_2) = true := beq_iff_eq.mpr c17
 have c17b1 : (t132 != x3_2) = false := bne_eq_false_iff_eq.mpr c17
 clear c17
 have H' := Aside0.mk H
 clear H
 have p123 : 0 ≤ (0 : Int) := (by omega)
 have q123 : 0 < (l0.length : Int) := of_decide_eq_true zA
 obtain ⟨ad123, A123_2, c123_2, e123, hx123_0, hx123_1, hx123_2, hl123_2, hi123_2⟩ := at_T29 HR0.out 0 p123 q123
 obtain rfl : adp0 = ad123 := (by injection e123)
 have qi123 : (0 < l0.length) = True := eq_true (by omega)
 try simp only [z00, Nat.zero_mul, Addr.add_zero'] at hx123_0 hx123_1 hx123_2
 replace hx123_0 := zc HB hx123_0
 replace hx123_1 := zc HB hx123_1
 replace hx123_2 := zc HB hx123_2
 have HR123_2 := Aside0.mk hi123_2
 have HC123_2 := Aside0.mk hl123_2
 clear hi123_2 hl123_2
 replace p123 := eq_true p123
 replace q123 := eq_true q123
 have p124 : 0 ≤ (0 : Int) := (by omega)
 have q124 : 0 < (l0.length : Int) := of_decide_eq_true zA
 obtain ⟨ad124, A124_2, c124_2, e124, hx124_0, hx124_1, hx124_2, hl124_2, hi124_2⟩ := at_T29 HR0.out 0 p124 q124
 obtain rfl : adp0 = ad124 := (by injection e124)
 have qi124 : (0 < l0.length) = True := eq_true (by omega)
 try simp only [z00, Nat.zero_mul, Addr.add_zero'] at hx124_0 hx124_1 hx124_2
 replace hx124_0 := zc HB hx124_0
 replace hx124_1 := zc HB hx124_1
 replace hx124_2 := zc HB hx124_2
 have HR124_2 := Aside0.mk hi124_2
 have HC124_2 := Aside0.mk hl124_2
 clear hi124_2 hl124_2
 replace p124 := eq_true p124
 replace q124 := eq_true q124
 have ea_ := Option.some.inj (hx123_2.symm.trans hx124_2)
 injection ea_ with ea_ en_ ec_
 subst ea_
 subst ec_
 clear en_
 have p125 : 0 ≤ (x3_2 : Int) := of_decide_eq_true zA
 have q125 : x3_2 < (((rd_T29 l0 0).f2).length : Int) := of_decide_eq_true zA
 obtain ⟨ad125, e125, hx125_0, hx125_1, hx125_2, hx125_3, hx125_4⟩ := at_T43 HR124_2.out x3_2 p125 q125
 cases e125
 replace hx125_0 := zc HB hx125_0
 replace hx125_1 := zc HB hx125_1
 replace hx125_2 := zc HB hx125_2
 replace hx125_3 := zc HB hx125_3
 replace hx125_4 := zc HB hx125_4
 replace p125 := eq_true p125
 replace q125 := eq_true q125
 try go_wp2
 have n0_ := Aside0.mk (below_drew1 HB.out)
 clear HB
 have HB := n0_
 clear n0_
 have p127 : 0 ≤ (x3_2 : Int) := of_decide_eq_true zA
 have q127 : x3_2 < (((rd_T29 l0 0).f2).length : Int) := of_decide_eq_true zA
 obtain ⟨ad127, e127, hx127_0, hx127_1, hx127_2, hx127_3, hx127_4⟩ := at_T43 HR124_2.out x3_2 p127 q127
 have hw127_4 := hx127_4
 have hw127_3 := hx127_3
 have hw127_2 := hx127_2
 have hw127_1 := hx127_1
 have hw127_0 := hx127_0
 obtain rfl : ad125 = ad127 := (by injection e127)
 replace hx127_0 := zc HB hx127_0
 replace hx127_1 := zc HB hx127_1
 replace hx127_2 := zc HB hx127_2
 replace hx127_3 := zc HB hx127_3
 replace hx127_4 := zc HB hx127_4
 replace p127 := eq_true p127
 replace q127 := eq_true q127
 have p128 : 0 ≤ (0 : Int) := (by omega)
 have q128 : 0 < (l0.length : Int) := of_decide_eq_true zA
 obtain ⟨ad128, A128_2, c128_2, e128, hx128_0, hx128_1, hx128_2, hl128_2, hi128_2⟩ := at_T29 HR0.out 0 p128 q128
 have hw128_2 := hx128_2
 try simp only [z00, Nat.zero_mul, Addr.add_zero'] at hw128_2
 have hw128_1 := hx128_1
 try simp only [z00, Nat.zero_mul, Addr.add_zero'] at hw128_1
 have hw128_0 := hx128_0
 try simp only [z00, Nat.zero_mul, Addr.add_zero'] at hw128_0
 obtain rfl : adp0 = ad128 := (by injection e128)
 have qi128 : (0 < l0.length) = True := eq_true (by omega)
 try simp only [z00, Nat.zero_mul, Addr.add_zero'] at hx128_0 hx128_1 hx128_2
 replace hx128_0 := zc HB hx128_0
 replace hx128_1 := zc HB hx128_1
 replace hx128_2 := zc HB hx128_2
 have HR128_2 := Aside0.mk hi128_2
 have HC128_2 := Aside0.mk hl128_2
 clear hi128_2 hl128_2
 replace p128 := eq_true p128
 replace q128 := eq_true q128
 have p129 : 0 ≤ (0 : Int) := (by omega)
 have q129 : 0 < (l0.length : Int) := of_decide_eq_true zA
 obtain ⟨ad129, A129_2, c129_2, e129, hx129_0, hx129_1, hx129_2, hl129_2, hi129_2⟩ := at_T29 HR0.out 0 p129 q129
 have hw129_2 := hx129_2
 try simp only [z00, Nat.zero_mul, Addr.add_zero'] at hw129_2
 have hw129_1 := hx129_1
 try simp only [z00, Nat.zero_mul, Addr.add_zero'] at hw129_1
 have hw129_0 := hx129_0
 try simp only [z00, Nat.zero_mul, Addr.add_zero'] at hw129_0
 obtain rfl : adp0 = ad129 := (by injection e129)
 have qi129 : (0 < l0.length) = True := eq_true (by omega)
 try simp only [z00, Nat.zero_mul, Addr.add_zero'] at hx129_0 hx129_1 hx129_2
 replace hx129_0 := zc HB hx129_0
 replace hx129_1 := zc HB hx129_1
 replace hx129_2 := zc HB hx129_2
 have HR129_2 := Aside0.mk hi129_2
 have HC129_2 := Aside0.mk hl129_2
 clear hi129_2 hl129_2
 replace p129 := eq_true p129
 replace q129 := eq_true q129
 have ea_ := Option.some.inj (hx128_2.symm.trans hx129_2)
 injection ea_ with ea_ en_ ec_
 subst ea_
 subst ec_
 clear en_
 have p131 : 0 ≤ (x3_2 : Int) := of_decide_eq_true zA
 have q131 : x3_2 < (((rd_T29 l0 0).f2).length : Int) := of_decide_eq_true zA
 obtain ⟨ad131, e131, hx131_0, hx131_1, hx131_2, hx131_3, hx131_4⟩ := at_T43 HR124_2.out x3_2 p131 q131
 have hw131_4 := hx131_4
 have hw131_3 := hx131_3
 have hw131_2 := hx131_2
 have hw131_1 := hx131_1
 have hw131_0 := hx131_0
 obtain rfl : ad125 = ad131 := (by injection e131)
 replace hx131_0 := zc HB hx131_0
 replace hx131_1 := zc HB hx131_1
 replace hx131_2 := zc HB hx131_2
 replace hx131_3 := zc HB hx131_3
 replace hx131_4 := zc HB hx131_4
 replace p131 := eq_true p131
 replace q131 := eq_true q131
 refine start_ (n := 31) (S := fun w' => w'.cell? (ad125.add ((x3_2).toNat * 5)) = some (.int .i8 ((rd_T43 ((rd_T29 l0 0).f2) x3_2).f0.f0)) ∧ w'.cell? ⟨(ad125.add ((x3_2).toNat * 5)).block, (ad125.add ((x3_2).toNat * 5)).off + 1, none⟩ = some (.int .i8 ((rd_T43 ((rd_T29 l0 0).f2) x3_2).f0.f1)) ∧ w'.cell? ⟨(ad125.add ((x3_2).toNat * 5)).block, (ad125.add ((x3_2).toNat * 5)).off + 2, none⟩ = some (.int .i8 ((rd_T43 ((rd_T29 l0 0).f2) x3_2).f1)) ∧ w'.cell? ⟨(ad125.add ((x3_2).toNat * 5)).block, (ad125.add ((x3_2).toNat * 5)).off + 3, none⟩ = some (.int .i8 ((rd_T43 ((rd_T29 l0 0).f2) x3_2).f2)) ∧ w'.cell? ⟨(ad125.add ((x3_2).toNat * 5)).block, (ad125.add ((x3_2).toNat * 5)).off + 4, none⟩ = some (.int .i8 ((rd_T43 ((rd_T29 l0 0).f2) x3_2).f3)) ∧ w'.cell? adp0 = some (.int .i8 ((rd_T29 l0 0).f0)) ∧ w'.cell? ⟨adp0.block, adp0.off + 1, none⟩ = some (.int .i8 ((rd_T29 l0 0).f1)) ∧ w'.cell? ⟨adp0.block, adp0.off + 2, none⟩ = some (.slice A128_2 ((rd_T29 l0 0).f2).length c128_2) ∧ w'.cell? adp0 = some (.int .i8 ((rd_T29 l0 0).f0)) ∧ w'.cell? ⟨adp0.block, adp0.off + 1, none⟩ = some (.int .i8 ((rd_T29 l0 0).f1)) ∧ w'.cell? ⟨adp0.block, adp0.off + 2, none⟩ = some (.slice A128_2 ((rd_T29 l0 0).f2).length c128_2) ∧ w'.cell? (ad125.add ((x3_2).toNat * 5)) = some (.int .i8 ((rd_T43 ((rd_T29 l0 0).f2) x3_2).f0.f0)) ∧ w'.cell? ⟨(ad125.add ((x3_2).toNat * 5)).block, (ad125.add ((x3_2).toNat * 5)).off + 1, none⟩ = some (.int .i8 ((rd_T43 ((rd_T29 l0 0).f2) x3_2).f0.f1)) ∧ w'.cell? ⟨(ad125.add ((x3_2).toNat * 5)).block, (ad125.add ((x3_2).toNat * 5)).off + 2, none⟩ = some (.int .i8 ((rd_T43 ((rd_T29 l0 0).f2) x3_2).f1)) ∧ w'.cell? ⟨(ad125.add ((x3_2).toNat * 5)).block, (ad125.add ((x3_2).toNat * 5)).off + 3, none⟩ = some (.int .i8 ((rd_T43 ((rd_T29 l0 0).f2) x3_2).f2)) ∧ w'.cell? ⟨(ad125.add ((x3_2).toNat * 5)).block, (ad125.add ((x3_2).toNat * 5)).off + 4, none⟩ = some (.int .i8 ((rd_T43 ((rd_T29 l0 0).f2) x3_2).f3))) (ds := []) (zq 31 0) (by kernel_rfl) rfl rfl ⟨(zc HB hw127_0), (zc HB hw127_1), (zc HB hw127_2), (zc HB hw127_3), (zc HB hw127_4), (zc HB hw128_0), (zc HB hw128_1), (zc HB hw128_2), (zc HB hw129_0), (zc HB hw129_1), (zc HB hw129_2), (zc HB hw131_0), (zc HB hw131_1), (zc HB hw131_2), (zc HB hw131_3), (zc HB hw131_4)⟩ (fun hHeld => ?_); refine with_tabW spec_l01Ok.tab7 spec_l01Ok.bits7 (fun HT_ HW_ => ?_)
 generalize wr.drew = w18 at HB HR128_2 HR129_2 hx127_0 hx127_1 hx127_2 hx127_3 hx127_4 hx128_0 hx128_1 hx128_2 hx129_0 hx129_1 hx129_2 hx131_0 hx131_1 hx131_2 hx131_3 hx131_4 hHeld ⊢
 refine zpu 0 (some 44) (zq 31 1) HT_ ?_
 refine one_ (i := 1) (N := some 45) (zq 31 3) rfl rfl (one_of HT_.out (by kernel_rfl)) (by decide) (fun K hK => ?_)
 refine goes_ Try.func25 (by kernel_rfl) rfl #[.pointer (some (ad125.add (x3_2.toNat * 5)))] (by rfl) rfl rfl zm ?_
 with_reducible refine (spec_l01Piece.calls _ [rd_T43 ((rd_T29 l0 0).f2) x3_2] true _ ?side1 A12.out).mono ?_
 (case side1 => refine ro_of_elem (d := k43) z43 x3_2 (by first | exact of_eq_true p125 | omega) (by first | exact of_eq_true q125 | omega) ?_; exact zcc HB HR124_2.out)
 rintro e w19 ⟨rfl, hb⟩
 refine ⟨_, rfl, ?_⟩
 have n0_ := zb HB hb
 clear HB
 have HB := n0_
 clear n0_
 (try clear hb)
 (try clear hb2)
 (try clear hk)
 (try clear hi)
 refine hK.out _ _ ⟨(zc HB hw127_0), (zc HB hw127_1), (zc HB hw127_2), (zc HB hw127_3), (zc HB hw127_4), (zc HB hw128_0), (zc HB hw128_1), (zc HB hw128_2), (zc HB hw129_0), (zc HB hw129_1), (zc HB hw129_2), (zc HB hw131_0), (zc HB hw131_1), (zc HB hw131_2), (zc HB hw131_3), (zc HB hw131_4)⟩ (fun hHeld => ?_)
 clear hK K
 refine norm_ (a' := ?_) ?_ ?_
 rotate_left
 ·show Act.put _ (some 45) _ = _
  exact zap
 refine zpu 2 (some 46) (zq 31 7) HT_ ?_
 refine zpu 3 (some 47) (zq 31 15) HT_ ?_
 refine zpu 4 (some 48) (zq 31 31) HT_ ?_
 refine zpu 5 (some 49) (zq 31 63) HT_ ?_
 refine zpu 6 (some 50) (zq 31 127) HT_ ?_
 refine zpu 8 (some 52) (zq 31 383) HT_ ?_
 refine zpu 9 (some 53) (zq 31 895) HT_ ?_
 refine zpu 10 (some 54) (zq 31 1919) HT_ ?_
 refine zpu 13 (some 57) (zq 31 10111) HT_ ?_
 refine zpu 14 (some 58) (zq 31 26495) HT_ ?_
 refine zpu 15 (some 59) (zq 31 59263) HT_ ?_
 refine ztk 7 (some 51) (zq 31 59391) HT_ HW_ rfl hHeld (Or.inl ⟨by rfl, by (rintro w' ⟨s0, s1, s2, s3, s4, s5, s6, s7, s8, s9, s10, s11, s12, s13, s14, s15⟩; go_simp; with_reducible rfl)⟩) ?_
 refine ztk 11 (some 55) (zq 31 61439) HT_ HW_ rfl hHeld (Or.inl ⟨by rfl, by (rintro w' ⟨s0, s1, s2, s3, s4, s5, s6, s7, s8, s9, s10, s11, s12, s13, s14, s15⟩; go_simp; with_reducible rfl)⟩) ?_
 refine zpu 12 (some 56) (zq 31 65535) HT_ ?_
 refine ztk 16 (some 60) (zq 31 131071) HT_ HW_ rfl hHeld (Or.inl ⟨by rfl, by (rintro w' ⟨s0, s1, s2, s3, s4, s5, s6, s7, s8, s9, s10, s11, s12, s13, s14, s15⟩; go_simp; with_reducible rfl)⟩) ?_
 refine zpu 17 (some 61) (zq 31 262143) HT_ ?_
 refine one_ (i := 18) (N := some 62) (zq 31 524287) rfl rfl (one_of HT_.out (by kernel_rfl)) (by decide) (fun K hK => ?_)
 refine goes_ Try.func26 (by kernel_rfl) rfl #[.agg #[.int .i8 ((rd_T43 ((rd_T29 l0 0).f2) x3_2).f0.f0), .int .i8 ((rd_T43 ((rd_T29 l0 0).f2) x3_2).f0.f1)], .int .i64 (wrap64 ((rd_T29 l0 0).f0)), .int .i64 (wrap64 ((rd_T29 l0 0).f1))] (by rfl) rfl rfl zm ?_
 with_reducible refine (spec_l01In.calls ((rd_T43 ((rd_T29 l0 0).f2) x3_2).f0.f0) ((rd_T43 ((rd_T29 l0 0).f2) x3_2).f0.f1) (wrap64 ((rd_T29 l0 0).f0)) (wrap64 ((rd_T29 l0 0).f1)) true _ A14.out).mono ?_
 rintro e w20 ⟨rfl, hb⟩
 refine ⟨_, rfl, ?_⟩
 have n0_ := zb HB hb
 clear HB
 have HB := n0_
 clear n0_
 (try clear hb)
 (try clear hb2)
 (try clear hk)
 (try clear hi)
 refine hK.out _ _ ⟨(zc HB hw127_0), (zc HB hw127_1), (zc HB hw127_2), (zc HB hw127_3), (zc HB hw127_4), (zc HB hw128_0), (zc HB hw128_1), (zc HB hw128_2), (zc HB hw129_0), (zc HB hw129_1), (zc HB hw129_2), (zc HB hw131_0), (zc HB hw131_1), (zc HB hw131_2), (zc HB hw131_3), (zc HB hw131_4)⟩ (fun hHeld => ?_)
 clear hK K
 refine norm_ (a' := ?_) ?_ ?_
 rotate_left
 ·show Act.put _ (some 62) _ = _
  exact zap
 refine zpu 19 (some 63) (zq 31 1048575) HT_ ?_
 refine zpu 20 (some 64) (zq 31 2097151) HT_ ?_
 refine zpu 21 (some 65) (zq 31 4194303) HT_ ?_
 refine zpu 22 (some 66) (zq 31 8388607) HT_ ?_
 refine zpu 23 (some 67) (zq 31 16777215) HT_ ?_
 refine zpu 24 (some 68) (zq 31 33554431) HT_ ?_
 refine zpu 25 (some 69) (zq 31 67108863) HT_ ?_
 refine zpu 28 (some 72) (zq 31 335544319) HT_ ?_
 refine ztk 26 (some 70) (zq 31 402653183) HT_ HW_ rfl hHeld (Or.inl ⟨by rfl, by (rintro w' ⟨s0, s1, s2, s3, s4, s5, s6, s7, s8, s9, s10, s11, s12, s13, s14, s15⟩; go_simp; with_reducible rfl)⟩) ?_
 refine one_ (i := 27) (N := some 71) (zq 31 536870911) rfl rfl (one_of HT_.out (by kernel_rfl)) (by decide) (fun K hK => ?_)
 refine goes_ Try.func13 (by kernel_rfl) rfl #[.pointer (some adp0), .agg #[.int .i8 ((rd_T43 ((rd_T29 l0 0).f2) x3_2).f0.f0), .int .i8 ((rd_T43 ((rd_T29 l0 0).f2) x3_2).f0.f1)]] (by rfl) rfl rfl zm ?_
 with_reducible refine (spec_l01Find.calls k2 _ l0 ((rd_T43 ((rd_T29 l0 0).f2) x3_2).f0.f0) ((rd_T43 ((rd_T29 l0 0).f2) x3_2).f0.f1) t132 _ ?side1 A16.out).mono ?_
 (case side1 => exact zcc HB HR0.out)
 rintro e w21 ⟨rfl, hb⟩
 refine ⟨_, rfl, ?_⟩
 have n0_ := zb HB hb
 clear HB
 have HB := n0_
 clear n0_
 (try clear hb)
 (try clear hb2)
 (try clear hk)
 (try clear hi)
 refine hK.out _ _ ⟨(zc HB hw127_0), (zc HB hw127_1), (zc HB hw127_2), (zc HB hw127_3), (zc HB hw127_4), (zc HB hw128_0), (zc HB hw128_1), (zc HB hw128_2), (zc HB hw129_0), (zc HB hw129_1), (zc HB hw129_2), (zc HB hw131_0), (zc HB hw131_1), (zc HB hw131_2), (zc HB hw131_3), (zc HB hw131_4)⟩ (fun hHeld => ?_)
 clear hK K
 refine norm_ (a' := ?_) ?_ ?_
 rotate_left
 ·show Act.put _ (some 71) _ = _
  exact zap
 refine zpu 29 (some 73) (zq 31 1073741823) HT_ ?_
 refine zpu 30 (some 74) (zq 31 2147483647) HT_ ?_
 refine done_ (done_of HT_.out (by kernel_rfl)) ?_
 try go_wp2
 go_roundg k2
 case measure => have := HJ1.out; have := HK2.out; omega
 case rel => exact ⟨(wrap64 (x3_2 + 1)), zi, H', ⟨by have := HJ1.out; have := HK2.out; omega⟩, zl HB⟩
end Go.Proofs.Ytljjmgokebmldaa.PFnExactSortBoard
