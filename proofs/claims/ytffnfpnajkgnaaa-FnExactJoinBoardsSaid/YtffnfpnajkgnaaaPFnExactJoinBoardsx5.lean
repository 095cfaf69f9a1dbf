-- WRITTEN by xprint.py, a program of this session's. Not trusted: Lean checks it.
-- packed by pack.py
import Derived.Test.YtffnfpnajkgnaaaPFnExactJoinBoardsx0
import Derived.Test.YtffnfpnajkgnaaaPFnExactJoinBoardsx4
import Derived.Test.YtffnfpnajkgnaaaTFnExactJoinBoardsa
namespace Go.Proofs.Ytffnfpnajkgnaaa.PFnExactJoinBoards
open Go.RowKit Go.Proofs.YtffnfpnajkgnaaaW.PrintWords Go.Proofs.YtffnfpnajkgnaaaW.PrintLast Go.Proofs.YtffnfpnajkgnaaaW.PrintMore Go.Proofs.YtffnfpnajkgnaaaX
attribute [local go_sem] max2_int min2_int max_two min_two max_three min_three max_four min_four   -- for this text's walks alone
set_option maxHeartbeats 8000000
set_option maxRecDepth 100000
set_option linter.unusedVariables false
set_option linter.unusedSimpArgs false

mutual
def spec_l01Ok.j0 : Nat → List (S37) → Bool → Option (Bool)
  | 0, _, _ => none
  | k + 1, x0, x28 => if x28 = true then (some false) else (spec_l01Ok.l0 k x0 0)
def spec_l01Ok.l0 : Nat → List (S37) → Int → Option (Bool)
  | 0, _, _ => none
  | k + 1, x0, x3 => if 0 < (x0.length : Int) then (if x3 < (((rd_T37 x0 0).f2).length : Int) then (if 0 ≤ x3 then ((spec_l01Piece.f [rd_T91 ((rd_T37 x0 0).f2) x3]).bind fun t175 => (if t175 = true then ((spec_l01In.f ((rd_T91 ((rd_T37 x0 0).f2) x3).f0.f0) ((rd_T91 ((rd_T37 x0 0).f2) x3).f0.f1) (wrap64 ((rd_T37 x0 0).f0)) (wrap64 ((rd_T37 x0 0).f1))).bind fun t179 => (if t179 = true then ((spec_l01Find.f k x0 ((rd_T91 ((rd_T37 x0 0).f2) x3).f0.f0) ((rd_T91 ((rd_T37 x0 0).f2) x3).f0.f1)).bind fun t181 => (if t181 = x3 then (spec_l01Ok.l0 k x0 (wrap64 (x3 + 1))) else (some false))) else (some false))) else (some false))) else (none)) else (some true)) else (none)
end
def spec_l01Ok.f (k : Nat) (l0 : List (S37)) : Option (Bool) := if 0 < (l0.length : Int) then ((spec_l00In.f (wrap64 ((rd_T37 l0 0).f0)) 1 24).bind fun t168 => (if t168 = true then ((spec_l00In.f (wrap64 ((rd_T37 l0 0).f1)) 1 24).bind fun t170 => (if t170 = true then (spec_l01Ok.j0 k l0 (decide ((((rd_T37 l0 0).f2).length : Int) > 200))) else (spec_l01Ok.j0 k l0 true))) else (spec_l01Ok.j0 k l0 true))) else (none)
theorem spec_l01Ok.mono_l : ∀ k, (∀ y0 y1, LeO (spec_l01Ok.j0 k y0 y1) (spec_l01Ok.j0 (k + 1) y0 y1)) ∧ (∀ y0 y1, LeO (spec_l01Ok.l0 k y0 y1) (spec_l01Ok.l0 (k + 1) y0 y1))
  | 0 => ⟨fun _ _ r h => by simp [spec_l01Ok.j0] at h, fun _ _ r h => by simp [spec_l01Ok.l0] at h⟩
  | k + 1 => by
    obtain ⟨ih0, ih1⟩ := spec_l01Ok.mono_l k
    refine ⟨?_, ?_⟩
    · intro y0 y1
      unfold spec_l01Ok.j0
      repeat' first | (with_reducible first | apply ih0 | apply ih1 | apply spec_l01Find.mono | exact LeO.refl _ | exact LeO.none _ | refine LeO.ite ?_ ?_ | refine LeO.bind ?_ (fun _ => ?_)) | apply ih0 | apply ih1 | apply spec_l01Find.mono | exact LeO.none _ | refine LeO.ite ?_ ?_ | refine LeO.bind ?_ (fun _ => ?_)
    · intro y0 y1
      unfold spec_l01Ok.l0
      repeat' first | (with_reducible first | apply ih0 | apply ih1 | apply spec_l01Find.mono | exact LeO.refl _ | exact LeO.none _ | refine LeO.ite ?_ ?_ | refine LeO.bind ?_ (fun _ => ?_)) | apply ih0 | apply ih1 | apply spec_l01Find.mono | exact LeO.none _ | refine LeO.ite ?_ ?_ | refine LeO.bind ?_ (fun _ => ?_)
theorem spec_l01Ok.mono : ∀ a0 k, LeO (spec_l01Ok.f k a0) (spec_l01Ok.f (k + 1) a0) := by
 intro a0 k
 obtain ⟨ih0, ih1⟩ := spec_l01Ok.mono_l k
 unfold spec_l01Ok.f
 repeat' first | (with_reducible first | apply ih0 | apply ih1 | apply spec_l01Find.mono | exact LeO.refl _ | exact LeO.none _ | refine LeO.ite ?_ ?_ | refine LeO.bind ?_ (fun _ => ?_)) | apply ih0 | apply ih1 | apply spec_l01Find.mono | exact LeO.none _ | refine LeO.ite ?_ ?_ | refine LeO.bind ?_ (fun _ => ?_)
def spec_l01Ok.T7 : Bool × List (List Nat × List Nat) := (true, [([], []), ([0], [0]), ([1], [1]), ([2, 1], [2]), ([3], [3]), ([4, 3], [3, 4]), ([5, 3], [3, 5]), ([6, 3], [3, 6]), ([3], [3]), ([8, 3], [3, 8]), ([9, 3], [3, 9]), ([10, 3], [3, 10]), ([11, 3], [3, 11]), ([3], [3]), ([13, 3], [3, 13]), ([14, 3], [3, 14]), ([15, 3], [3, 15]), ([16, 3], [3, 16]), ([7, 12, 17, 3, 3], [3, 7, 12, 17]), ([18, 3], [3, 18]), ([3, 19], [3, 19]), ([20, 18], [20]), ([21], [21]), ([21], [21]), ([23, 21], [21, 23]), ([24, 21], [21, 24]), ([25, 21], [21, 25]), ([22, 26, 21, 21], [21, 22, 26]), ([21], [21]), ([27, 28, 21], [21, 27, 28]), ([21, 29], [21, 29])])
def spec_l01Ok.B7 : List Nat := [0, 1, 3, 7, 15, 31, 63, 127, 15, 271, 783, 1807, 3855, 15, 8207, 24591, 57359, 122895, 262143, 524287, 1048575, 2097151, 4194303, 4194303, 12582911, 29360127, 62914559, 134217727, 4194303, 536870911, 1073741823]
theorem spec_l01Ok.tab7 : rtab .any (opsOf Try.f106 7) = spec_l01Ok.T7 := by kernel_rfl
theorem spec_l01Ok.bits7 : waitsOk spec_l01Ok.T7.2 spec_l01Ok.B7 = true := by kernel_rfl
theorem spec_l01Ok.calls (k : Nat) (adp0 : Addr) (l0 : List (S37)) (r : Bool) (w : World) (hr0 : Kd.C k37 w (some adp0) l0.length l0) (h : spec_l01Ok.f k l0 = some r) :
    Calls Try.prog 106 #[.pointer (some adp0)] w fun e w' => e = .returned (.bool r) ∧ Below w.heap.size w w' := by
 have hu74 := Try.underlying74
 have HR0 := Aside0.mk hr0
 clear hr0
 have HB := Aside0.mk (Below.refl w.heap.size w)
 have H : (if 0 < (l0.length : Int) then ((spec_l00In.f (wrap64 ((rd_T37 l0 0).f0)) 1 24).bind fun t168 => (if t168 = true then ((spec_l00In.f (wrap64 ((rd_T37 l0 0).f1)) 1 24).bind fun t170 => (if t170 = true then (spec_l01Ok.j0 k l0 (decide ((((rd_T37 l0 0).f2).length : Int) > 200))) else (spec_l01Ok.j0 k l0 true))) else (spec_l01Ok.j0 k l0 true))) else (none)) = some r := h
 clear h
 have HC2 := Aside0.mk H
 clear H
 go_enter Try.func106, Try.ntmps106
 go_upto_region 1 with (fail)
 go_cut [28] (fun v28 wc => ∃ (kq : Nat) (x28_1 : Bool), v28 = .bool x28_1 ∧ Aside0 (spec_l01Ok.j0 kq l0 x28_1 = some r) ∧ Aside0 (kq ≤ k) ∧ Aside0 (Below w.heap.size w wc))
 case first =>
  have H := HC2.out
  clear HC2
  by_cases c3 : 0 < (l0.length : Int)
  rotate_left
  ·rw [if_neg c3] at H
   exact absurd H (by simp)
  rw [if_pos c3] at H
  have c3b0 : decide (0 < (l0.length : Int)) = true := decide_eq_true c3
  have c3b1 : decide (0 < l0.length) = true := decide_eq_true (by omega)
  clear c3
  (first | rw [c3b0] | (simp only [i64_w, i32_w]; rw [c3b0]) | (have h_ := c3b0; simp only [bne] at h_; rw [h_]) | skip)
  replace H := zob H
  obtain ⟨t168, A40, H⟩ := H
  replace H : (if t168 = true then ((spec_l00In.f (wrap64 ((rd_T37 l0 0).f1)) 1 24).bind fun t170 => (if t170 = true then (spec_l01Ok.j0 k l0 (decide ((((rd_T37 l0 0).f2).length : Int) > 200))) else (spec_l01Ok.j0 k l0 true))) else (spec_l01Ok.j0 k l0 true)) = some r := H
  have A4 := Aside0.mk A40
  clear A40
  by_cases c5 : t168 = true
  rotate_left
  ·replace c5 := Bool.eq_false_iff.mpr c5
   subst c5
   have H1 : (spec_l01Ok.j0 k l0 true) = some r := by rw [if_neg (show ¬ (false = true) by decide)] at H; exact H
   clear H
   have H := H1
   clear H1
   have H' := Aside0.mk H
   clear H
   have p167 : 0 ≤ (0 : Int) := (by omega)
   have q167 : 0 < (l0.length : Int) := of_decide_eq_true zA
   obtain ⟨ad167, A167_2, c167_2, e167, hx167_0, hx167_1, hx167_2, hl167_2, hi167_2⟩ := at_T37 HR0.out 0 p167 q167
   obtain rfl : adp0 = ad167 := (by injection e167)
   have qi167 : (0 < l0.length) = True := eq_true (by omega)
   try simp only [z00, Nat.zero_mul, Addr.add_zero'] at hx167_0 hx167_1 hx167_2
   replace hx167_0 := zc HB hx167_0
   replace hx167_1 := zc HB hx167_1
   replace hx167_2 := zc HB hx167_2
   have HR167_2 := Aside0.mk hi167_2
   have HC167_2 := Aside0.mk hl167_2
   clear hi167_2 hl167_2
   replace p167 := eq_true p167
   replace q167 := eq_true q167
   go_wp2_with (first | ((with_reducible refine gate_callee (f := 96) rfl ?_); refine goesL_ (some 10) rfl rfl Try.func96 (by kernel_rfl) rfl #[.int .i64 (wrap64 ((rd_T37 l0 0).f0)), .int .i64 1, .int .i64 24] rfl zm ?_; (with_reducible refine (spec_l00In.calls (wrap64 ((rd_T37 l0 0).f0)) 1 24 false _ A4.out).mono ?_); rintro e w' ⟨rfl, ⟨nd, rfl⟩⟩; refine ⟨_, rfl, ?_⟩))
   go_meet
   case rel => exact ⟨_, (true), zi, H', ⟨by first | omega | exact Nat.le_refl _⟩, zl HB⟩
  subst c5
  have H1 : ((spec_l00In.f (wrap64 ((rd_T37 l0 0).f1)) 1 24).bind fun t170 => (if t170 = true then (spec_l01Ok.j0 k l0 (decide ((((rd_T37 l0 0).f2).length : Int) > 200))) else (spec_l01Ok.j0 k l0 true))) = some r := by rw [if_pos rfl] at H; exact H
  clear H
  have H := H1
  clear H1
  replace H := zob H
  obtain ⟨t170, A60, H⟩ := H
  replace H : (if t170 = true then (spec_l01Ok.j0 k l0 (decide ((((rd_T37 l0 0).f2).length : Int) > 200))) else (spec_l01Ok.j0 k l0 true)) = some r := H
  have A6 := Aside0.mk A60
  clear A60
  by_cases c7 : t170 = true
  rotate_left
  ·replace c7 := Bool.eq_false_iff.mpr c7
   subst c7
   have H1 : (spec_l01Ok.j0 k l0 true) = some r := by rw [if_neg (show ¬ (false = true) by decide)] at H; exact H
   clear H
   have H := H1
   clear H1
   have H' := Aside0.mk H
   clear H
   have p167 : 0 ≤ (0 : Int) := (by omega)
   have q167 : 0 < (l0.length : Int) := of_decide_eq_true zA
   obtain ⟨ad167, A167_2, c167_2, e167, hx167_0, hx167_1, hx167_2, hl167_2, hi167_2⟩ := at_T37 HR0.out 0 p167 q167
   obtain rfl : adp0 = ad167 := (by injection e167)
   have qi167 : (0 < l0.length) = True := eq_true (by omega)
   try simp only [z00, Nat.zero_mul, Addr.add_zero'] at hx167_0 hx167_1 hx167_2
   replace hx167_0 := zc HB hx167_0
   replace hx167_1 := zc HB hx167_1
   replace hx167_2 := zc HB hx167_2
   have HR167_2 := Aside0.mk hi167_2
   have HC167_2 := Aside0.mk hl167_2
   clear hi167_2 hl167_2
   replace p167 := eq_true p167
   replace q167 := eq_true q167
   go_wp2_with (first | ((with_reducible refine gate_callee (f := 96) rfl ?_); refine goesL_ (some 10) rfl rfl Try.func96 (by kernel_rfl) rfl #[.int .i64 (wrap64 ((rd_T37 l0 0).f0)), .int .i64 1, .int .i64 24] rfl zm ?_; (with_reducible refine (spec_l00In.calls (wrap64 ((rd_T37 l0 0).f0)) 1 24 true _ A4.out).mono ?_); rintro e w' ⟨rfl, ⟨nd, rfl⟩⟩; refine ⟨_, rfl, ?_⟩; have p169 : 0 ≤ (0 : Int) := (by omega); have q169 : 0 < (l0.length : Int) := of_decide_eq_true zA; obtain ⟨ad169, A169_2, c169_2, e169, hx169_0, hx169_1, hx169_2, hl169_2, hi169_2⟩ := at_T37 HR0.out 0 p169 q169; obtain rfl : adp0 = ad169 := (by injection e169); have qi169 : (0 < l0.length) = True := eq_true (by omega); (try simp only [z00, Nat.zero_mul, Addr.add_zero'] at hx169_0 hx169_1 hx169_2); replace hx169_0 := zc HB hx169_0; replace hx169_1 := zc HB hx169_1; replace hx169_2 := zc HB hx169_2; have HR169_2 := Aside0.mk hi169_2; have HC169_2 := Aside0.mk hl169_2; clear hi169_2 hl169_2; replace p169 := eq_true p169; replace q169 := eq_true q169; have ea_ := Option.some.inj (hx167_2.symm.trans hx169_2); injection ea_ with ea_ en_ ec_; subst ea_; subst ec_; clear en_) | (go_at_call 96; (with_reducible refine (spec_l00In.calls (wrap64 ((rd_T37 l0 0).f1)) 1 24 false _ A6.out).mono ?_); rintro e w' ⟨rfl, ⟨nd, rfl⟩⟩))
   go_meet
   case rel => exact ⟨_, (true), zi, H', ⟨by first | omega | exact Nat.le_refl _⟩, zl HB⟩
  subst c7
  have H1 : (spec_l01Ok.j0 k l0 (decide ((((rd_T37 l0 0).f2).length : Int) > 200))) = some r := by rw [if_pos rfl] at H; exact H
  clear H
  have H := H1
  clear H1
  have H' := Aside0.mk H
  clear H
  have p167 : 0 ≤ (0 : Int) := (by omega)
  have q167 : 0 < (l0.length : Int) := of_decide_eq_true zA
  obtain ⟨ad167, A167_2, c167_2, e167, hx167_0, hx167_1, hx167_2, hl167_2, hi167_2⟩ := at_T37 HR0.out 0 p167 q167
  obtain rfl : adp0 = ad167 := (by injection e167)
  have qi167 : (0 < l0.length) = True := eq_true (by omega)
  try simp only [z00, Nat.zero_mul, Addr.add_zero'] at hx167_0 hx167_1 hx167_2
  replace hx167_0 := zc HB hx167_0
  replace hx167_1 := zc HB hx167_1
  replace hx167_2 := zc HB hx167_2
  have HR167_2 := Aside0.mk hi167_2
  have HC167_2 := Aside0.mk hl167_2
  clear hi167_2 hl167_2
  replace p167 := eq_true p167
  replace q167 := eq_true q167
  go_wp2_with (first | ((with_reducible refine gate_callee (f := 96) rfl ?_); refine goesL_ (some 10) rfl rfl Try.func96 (by kernel_rfl) rfl #[.int .i64 (wrap64 ((rd_T37 l0 0).f0)), .int .i64 1, .int .i64 24] rfl zm ?_; (with_reducible refine (spec_l00In.calls (wrap64 ((rd_T37 l0 0).f0)) 1 24 true _ A4.out).mono ?_); rintro e w' ⟨rfl, ⟨nd, rfl⟩⟩; refine ⟨_, rfl, ?_⟩; have p169 : 0 ≤ (0 : Int) := (by omega); have q169 : 0 < (l0.length : Int) := of_decide_eq_true zA; obtain ⟨ad169, A169_2, c169_2, e169, hx169_0, hx169_1, hx169_2, hl169_2, hi169_2⟩ := at_T37 HR0.out 0 p169 q169; obtain rfl : adp0 = ad169 := (by injection e169); have qi169 : (0 < l0.length) = True := eq_true (by omega); (try simp only [z00, Nat.zero_mul, Addr.add_zero'] at hx169_0 hx169_1 hx169_2); replace hx169_0 := zc HB hx169_0; replace hx169_1 := zc HB hx169_1; replace hx169_2 := zc HB hx169_2; have HR169_2 := Aside0.mk hi169_2; have HC169_2 := Aside0.mk hl169_2; clear hi169_2 hl169_2; replace p169 := eq_true p169; replace q169 := eq_true q169; have ea_ := Option.some.inj (hx167_2.symm.trans hx169_2); injection ea_ with ea_ en_ ec_; subst ea_; subst ec_; clear en_) | (go_at_call 96; (with_reducible refine (spec_l00In.calls (wrap64 ((rd_T37 l0 0).f1)) 1 24 true _ A6.out).mono ?_); rintro e w' ⟨rfl, ⟨nd, rfl⟩⟩; have p171 : 0 ≤ (0 : Int) := (by omega); have q171 : 0 < (l0.length : Int) := of_decide_eq_true zA; obtain ⟨ad171, A171_2, c171_2, e171, hx171_0, hx171_1, hx171_2, hl171_2, hi171_2⟩ := at_T37 HR0.out 0 p171 q171; obtain rfl : adp0 = ad171 := (by injection e171); have qi171 : (0 < l0.length) = True := eq_true (by omega); (try simp only [z00, Nat.zero_mul, Addr.add_zero'] at hx171_0 hx171_1 hx171_2); replace hx171_0 := zc HB hx171_0; replace hx171_1 := zc HB hx171_1; replace hx171_2 := zc HB hx171_2; have HR171_2 := Aside0.mk hi171_2; have HC171_2 := Aside0.mk hl171_2; clear hi171_2 hl171_2; replace p171 := eq_true p171; replace q171 := eq_true q171; have ea_ := Option.some.inj (hx167_2.symm.trans hx171_2); injection ea_ with ea_ en_ ec_; subst ea_; subst ec_; clear en_))
  go_meet
  case rel => exact ⟨_, (decide ((((rd_T37 l0 0).f2).length : Int) > 200)), zi, H', ⟨by first | omega | exact Nat.le_refl _⟩, zl HB⟩
 clear HC2
 try clear c1
 try clear p1
 try clear q1
 try clear hx1
 try clear qi1
 try clear p2
 try clear c3
 try clear c3b0
 try clear c3b1
 try clear c5
 try clear p6
 try clear c7
 try clear hx167_0
 try clear hx167_1
 try clear hx167_2
 try clear hx169_0
 try clear hx169_1
 try clear hx169_2
 try clear hx171_0
 try clear hx171_1
 try clear hx171_2
 try clear p167
 try clear p169
 try clear p171
 try clear q167
 try clear q169
 try clear q171
 obtain ⟨kq, x28_1, rfl, HA, HJ1, HB⟩ := hcut
 cases kq with
 | zero => exact absurd HA.out (by simp [spec_l01Ok.j0])
 | succ kj1 => ?_
 have H := HA.out
 clear HA
 simp only [spec_l01Ok.j0] at H
 by_cases c8 : x28_1 = true
 ·subst c8
  have H1 : (some false) = some r := by rw [if_pos rfl] at H; exact H
  clear H
  have H := H1
  clear H1
  obtain rfl := Option.some.inj H
  go_wp2
  go_ret
  exact ⟨zv, zbo⟩
 replace c8 := Bool.eq_false_iff.mpr c8
 subst c8
 have H1 : (spec_l01Ok.l0 kj1 l0 0) = some r := by rw [if_neg (show ¬ (false = true) by decide)] at H; exact H
 clear H
 have H := H1
 clear H1
 have H' := Aside0.mk H
 clear H
 go_wp2
 go_loopg [3] kj1 (fun kq v3 w' => ∃ (x3_2 : Int), v3 = .int .i64 x3_2 ∧ Aside0 (spec_l01Ok.l0 kq l0 x3_2 = some r) ∧ Aside0 (kq ≤ kj1) ∧ Aside0 (Below w.heap.size w w'))
 case atStart => exact ⟨(0), zi, H', ⟨Nat.le_refl _⟩, zl HB⟩
 clear H'
 try clear c1
 try clear p1
 try clear q1
 try clear hx1
 try clear qi1
 try clear p2
 try clear c3
 try clear c3b0
 try clear c3b1
 try clear c5
 try clear p6
 try clear c7
 try clear c8
 try clear hx167_0
 try clear hx167_1
 try clear hx167_2
 try clear hx169_0
 try clear hx169_1
 try clear hx169_2
 try clear hx171_0
 try clear hx171_1
 try clear hx171_2
 try clear p1
 try clear p167
 try clear p169
 try clear p171
 try clear p2
 try clear p6
 try clear q1
 try clear q167
 try clear q169
 try clear q171
 obtain ⟨x3_2, rfl, HA, HK2, HB⟩ := hrel
 cases gk with
 | zero => exact absurd HA.out (by simp [spec_l01Ok.l0])
 | succ k2 => ?_
 have H := HA.out
 clear HA
 simp only [spec_l01Ok.l0] at H
 by_cases c9 : 0 < (l0.length : Int)
 rotate_left
 ·rw [if_neg c9] at H
  exact absurd H (by simp)
 rw [if_pos c9] at H
 have c9b0 : decide (0 < (l0.length : Int)) = true := decide_eq_true c9
 have c9b1 : decide (0 < l0.length) = true := decide_eq_true (by omega)
 clear c9
 by_cases c10 : x3_2 < (((rd_T37 l0 0).f2).length : Int)
 rotate_left
 ·rw [if_neg c10] at H
  have c10b0 : decide (x3_2 < (((rd_T37 l0 0).f2).length : Int)) = false := decide_eq_false c10
  clear c10
  obtain rfl := Option.some.inj H
  have p172 : 0 ≤ (0 : Int) := (by omega)
  have q172 : 0 < (l0.length : Int) := of_decide_eq_true zA
  obtain ⟨ad172, A172_2, c172_2, e172, hx172_0, hx172_1, hx172_2, hl172_2, hi172_2⟩ := at_T37 HR0.out 0 p172 q172
  obtain rfl : adp0 = ad172 := (by injection e172)
  have qi172 : (0 < l0.length) = True := eq_true (by omega)
  try simp only [z00, Nat.zero_mul, Addr.add_zero'] at hx172_0 hx172_1 hx172_2
  replace hx172_0 := zc HB hx172_0
  replace hx172_1 := zc HB hx172_1
  replace hx172_2 := zc HB hx172_2
  have HR172_2 := Aside0.mk hi172_2
  have HC172_2 := Aside0.mk hl172_2
  clear hi172_2 hl172_2
  replace p172 := eq_true p172
  replace q172 := eq_true q172
  go_wp2
  go_ret
  exact ⟨zv, zbo⟩
 rw [if_pos c10] at H
 have c10b0 : decide (x3_2 < (((rd_T37 l0 0).f2).length : Int)) = true := decide_eq_true c10
 clear c10
 by_cases c11 : 0 ≤ x3_2
 rotate_left
 ·rw [if_neg c11] at H
  exact absurd H (by simp)
 rw [if_pos c11] at H
 have c11b0 : decide (0 ≤ x3_2) = true := decide_eq_true c11
 clear c11
 replace H := zob H
 obtain ⟨t175, A120, H⟩ := H
 replace H : (if t175 = true then ((spec_l01In.f ((rd_T91 ((rd_T37 l0 0).f2) x3_2).f0.f0) ((rd_T91 ((rd_T37 l0 0).f2) x3_2).f0.f1) (wrap64 ((rd_T37 l0 0).f0)) (wrap64 ((rd_T37 l0 0).f1))).bind fun t179 => (if t179 = true then ((spec_l01Find.f k2 l0 ((rd_T91 ((rd_T37 l0 0).f2) x3_2).f0.f0) ((rd_T91 ((rd_T37 l0 0).f2) x3_2).f0.f1)).bind fun t181 => (if t181 = x3_2 then (spec_l01Ok.l0 k2 l0 (wrap64 (x3_2 + 1))) else (some false))) else (some false))) else (some false)) = some r := H
 have A12 := Aside0.mk A120
 clear A120
 by_cases c13 : t175 = true
 rotate_left
 ·replace c13 := Bool.eq_false_iff.mpr c13
  subst c13
  have H1 : (some false) = some r := by rw [if_neg (show ¬ (false = true) by decide)] at H; exact H
  clear H
  have H := H1
  clear H1
  obtain rfl := Option.some.inj H
  have p172 : 0 ≤ (0 : Int) := (by omega)
  have q172 : 0 < (l0.length : Int) := of_decide_eq_true zA
  obtain ⟨ad172, A172_2, c172_2, e172, hx172_0, hx172_1, hx172_2, hl172_2, hi172_2⟩ := at_T37 HR0.out 0 p172 q172
  obtain rfl : adp0 = ad172 := (by injection e172)
  have qi172 : (0 < l0.length) = True := eq_true (by omega)
  try simp only [z00, Nat.zero_mul, Addr.add_zero'] at hx172_0 hx172_1 hx172_2
  replace hx172_0 := zc HB hx172_0
  replace hx172_1 := zc HB hx172_1
  replace hx172_2 := zc HB hx172_2
  have HR172_2 := Aside0.mk hi172_2
  have HC172_2 := Aside0.mk hl172_2
  clear hi172_2 hl172_2
  replace p172 := eq_true p172
  replace q172 := eq_true q172
  have p173 : 0 ≤ (0 : Int) := (by omega)
  have q173 : 0 < (l0.length : Int) := of_decide_eq_true zA
  obtain ⟨ad173, A173_2, c173_2, e173, hx173_0, hx173_1, hx173_2, hl173_2, hi173_2⟩ := at_T37 HR0.out 0 p173 q173
  obtain rfl : adp0 = ad173 := (by injection e173)
  have qi173 : (0 < l0.length) = True := eq_true (by omega)
  try simp only [z00, Nat.zero_mul, Addr.add_zero'] at hx173_0 hx173_1 hx173_2
  replace hx173_0 := zc HB hx173_0
  replace hx173_1 := zc HB hx173_1
  replace hx173_2 := zc HB hx173_2
  have HR173_2 := Aside0.mk hi173_2
  have HC173_2 := Aside0.mk hl173_2
  clear hi173_2 hl173_2
  replace p173 := eq_true p173
  replace q173 := eq_true q173
  have ea_ := Option.some.inj (hx172_2.symm.trans hx173_2)
  injection ea_ with ea_ en_ ec_
  subst ea_
  subst ec_
  clear en_
  have p174 : 0 ≤ (x3_2 : Int) := of_decide_eq_true zA
  have q174 : x3_2 < (((rd_T37 l0 0).f2).length : Int) := of_decide_eq_true zA
  obtain ⟨ad174, e174, hx174_0, hx174_1, hx174_2, hx174_3, hx174_4⟩ := at_T91 HR173_2.out x3_2 p174 q174
  cases e174
  replace hx174_0 := zc HB hx174_0
  replace hx174_1 := zc HB hx174_1
  replace hx174_2 := zc HB hx174_2
  replace hx174_3 := zc HB hx174_3
  replace hx174_4 := zc HB hx174_4
  replace p174 := eq_true p174
  replace q174 := eq_true q174
  try go_wp2
  have n0_ := Aside0.mk (below_drew1 HB.out)
  clear HB
  have HB := n0_
  clear n0_
  refine start_ (n := 31) (S := fun w' => True) (ds := []) (zq 31 0) (by kernel_rfl) rfl rfl trivial (fun hHeld => ?_); refine with_tabW spec_l01Ok.tab7 spec_l01Ok.bits7 (fun HT_ HW_ => ?_)
  generalize wr.drew = w29 at HB hHeld ⊢
  refine zpu 0 (some 44) (zq 31 1) HT_ ?_
  refine one_ (i := 1) (N := some 45) (zq 31 3) rfl rfl (one_of HT_.out (by kernel_rfl)) (by decide) (fun K hK => ?_)
  refine goes_ Try.func132 (by kernel_rfl) rfl #[.pointer (some (ad174.add (x3_2.toNat * 5)))] (by rfl) rfl rfl zm ?_
  with_reducible refine (spec_l01Piece.calls _ [rd_T91 ((rd_T37 l0 0).f2) x3_2] false _ ?side1 A12.out).mono ?_
  (case side1 => refine ro_of_elem (d := k91) z91 x3_2 (by first | exact of_eq_true p174 | omega) (by first | exact of_eq_true q174 | omega) ?_; exact zcc HB HR173_2.out)
  rintro e w30 ⟨rfl, hb⟩
  refine ⟨_, rfl, ?_⟩
  have n0_ := zb HB hb
  clear HB
  have HB := n0_
  clear n0_
  (try clear hb)
  (try clear hb2)
  (try clear hk)
  (try clear hi)
  refine hK.out _ _ trivial (fun hHeld => ?_)
  clear hK K
  refine norm_ (a' := ?_) ?_ ?_
  rotate_left
  ·show Act.put _ (some 45) _ = _
   exact zap
  refine zpu 2 (some 46) (zq 31 7) HT_ ?_
  refine zpu 3 (some 47) (zq 31 15) HT_ ?_
  refine zpn 4 (some 48) (zq 31 31) HT_ ?_
  refine zpn 5 (some 49) (zq 31 63) HT_ ?_
  refine zpn 6 (some 50) (zq 31 127) HT_ ?_
  refine zpn 7 (some 51) (zq 31 255) HT_ ?_
  refine zpn 8 (some 52) (zq 31 511) HT_ ?_
  refine zpn 9 (some 53) (zq 31 1023) HT_ ?_
  refine zpn 10 (some 54) (zq 31 2047) HT_ ?_
  refine zpn 11 (some 55) (zq 31 4095) HT_ ?_
  refine zpn 12 (some 56) (zq 31 8191) HT_ ?_
  refine zpn 13 (some 57) (zq 31 16383) HT_ ?_
  refine zpn 14 (some 58) (zq 31 32767) HT_ ?_
  refine zpn 15 (some 59) (zq 31 65535) HT_ ?_
  refine zpn 16 (some 60) (zq 31 131071) HT_ ?_
  refine zpn 17 (some 61) (zq 31 262143) HT_ ?_
  refine zpn 18 (some 62) (zq 31 524287) HT_ ?_
  refine zpn 19 (some 63) (zq 31 1048575) HT_ ?_
  refine zpu 20 (some 64) (zq 31 2097151) HT_ ?_
  refine zpu 21 (some 65) (zq 31 4194303) HT_ ?_
  refine zpn 22 (some 66) (zq 31 8388607) HT_ ?_
  refine zpn 23 (some 67) (zq 31 16777215) HT_ ?_
  refine zpn 24 (some 68) (zq 31 33554431) HT_ ?_
  refine zpn 25 (some 69) (zq 31 67108863) HT_ ?_
  refine zpn 26 (some 70) (zq 31 134217727) HT_ ?_
  refine zpn 27 (some 71) (zq 31 268435455) HT_ ?_
  refine zpn 28 (some 72) (zq 31 536870911) HT_ ?_
  refine zpn 29 (some 73) (zq 31 1073741823) HT_ ?_
  refine zpu 30 (some 74) (zq 31 2147483647) HT_ ?_
  refine done_ (done_of HT_.out (by kernel_rfl)) ?_
  try go_wp2
  go_ret
  exact ⟨zv, zbo⟩
 subst c13
 have H1 : ((spec_l01In.f ((rd_T91 ((rd_T37 l0 0).f2) x3_2).f0.f0) ((rd_T91 ((rd_T37 l0 0).f2) x3_2).f0.f1) (wrap64 ((rd_T37 l0 0).f0)) (wrap64 ((rd_T37 l0 0).f1))).bind fun t179 => (if t179 = true then ((spec_l01Find.f k2 l0 ((rd_T91 ((rd_T37 l0 0).f2) x3_2).f0.f0) ((rd_T91 ((rd_T37 l0 0).f2) x3_2).f0.f1)).bind fun t181 => (if t181 = x3_2 then (spec_l01Ok.l0 k2 l0 (wrap64 (x3_2 + 1))) else (some false))) else (some false))) = some r := by rw [if_pos rfl] at H; exact H
 clear H
 have H := H1
 clear H1
 replace H := zob H
 obtain ⟨t179, A140, H⟩ := H
 replace H : (if t179 = true then ((spec_l01Find.f k2 l0 ((rd_T91 ((rd_T37 l0 0).f2) x3_2).f0.f0) ((rd_T91 ((rd_T37 l0 0).f2) x3_2).f0.f1)).bind fun t181 => (if t181 = x3_2 then (spec_l01Ok.l0 k2 l0 (wrap64 (x3_2 + 1))) else (some false))) else (some false)) = some r := H
 have A14 := Aside0.mk A140
 clear A140
 by_cases c15 : t179 = true
 rotate_left
 ·replace c15 := Bool.eq_false_iff.mpr c15
  subst c15
  have H1 : (some false) = some r := by rw [if_neg (show ¬ (false = true) by decide)] at H; exact H
  clear H
  have H := H1
  clear H1
  obtain rfl := Option.some.inj H
  have p172 : 0 ≤ (0 : Int) := (by omega)
  have q172 : 0 < (l0.length : Int) := of_decide_eq_true zA
  obtain ⟨ad172, A172_2, c172_2, e172, hx172_0, hx172_1, hx172_2, hl172_2, hi172_2⟩ := at_T37 HR0.out 0 p172 q172
  obtain rfl : adp0 = ad172 := (by injection e172)
  have qi172 : (0 < l0.length) = True := eq_true (by omega)
  try simp only [z00, Nat.zero_mul, Addr.add_zero'] at hx172_0 hx172_1 hx172_2
  replace hx172_0 := zc HB hx172_0
  replace hx172_1 := zc HB hx172_1
  replace hx172_2 := zc HB hx172_2
  have HR172_2 := Aside0.mk hi172_2
  have HC172_2 := Aside0.mk hl172_2
  clear hi172_2 hl172_2
  replace p172 := eq_true p172
  replace q172 := eq_true q172
  have p173 : 0 ≤ (0 : Int) := (by omega)
  have q173 : 0 < (l0.length : Int) := of_decide_eq_true zA
  obtain ⟨ad173, A173_2, c173_2, e173, hx173_0, hx173_1, hx173_2, hl173_2, hi173_2⟩ := at_T37 HR0.out 0 p173 q173
  obtain rfl : adp0 = ad173 := (by injection e173)
  have qi173 : (0 < l0.length) = True := eq_true (by omega)
  try simp only [z00, Nat.zero_mul, Addr.add_zero'] at hx173_0 hx173_1 hx173_2
  replace hx173_0 := zc HB hx173_0
  replace hx173_1 := zc HB hx173_1
  replace hx173_2 := zc HB hx173_2
  have HR173_2 := Aside0.mk hi173_2
  have HC173_2 := Aside0.mk hl173_2
  clear hi173_2 hl173_2
  replace p173 := eq_true p173
  replace q173 := eq_true q173
  have ea_ := Option.some.inj (hx172_2.symm.trans hx173_2)
  injection ea_ with ea_ en_ ec_
  subst ea_
  subst ec_
  clear en_
  have p174 : 0 ≤ (x3_2 : Int) := of_decide_eq_true zA
  have q174 : x3_2 < (((rd_T37 l0 0).f2).length : Int) := of_decide_eq_true zA
  obtain ⟨ad174, e174, hx174_0, hx174_1, hx174_2, hx174_3, hx174_4⟩ := at_T91 HR173_2.out x3_2 p174 q174
  cases e174
  replace hx174_0 := zc HB hx174_0
  replace hx174_1 := zc HB hx174_1
  replace hx174_2 := zc HB hx174_2
  replace hx174_3 := zc HB hx174_3
  replace hx174_4 := zc HB hx174_4
  replace p174 := eq_true p174
  replace q174 := eq_true q174
  try go_wp2
  have n0_ := Aside0.mk (below_drew1 HB.out)
  clear HB
  have HB := n0_
  clear n0_
  have p176 : 0 ≤ (x3_2 : Int) := of_decide_eq_true zA
  have q176 : x3_2 < (((rd_T37 l0 0).f2).length : Int) := of_decide_eq_true zA
  obtain ⟨ad176, e176, hx176_0, hx176_1, hx176_2, hx176_3, hx176_4⟩ := at_T91 HR173_2.out x3_2 p176 q176
  have hw176_4 := hx176_4
  have hw176_3 := hx176_3
  have hw176_2 := hx176_2
  have hw176_1 := hx176_1
  have hw176_0 := hx176_0
  obtain rfl : ad174 = ad176 := (by injection e176)
  replace hx176_0 := zc HB hx176_0
  replace hx176_1 := zc HB hx176_1
  replace hx176_2 := zc HB hx176_2
  replace hx176_3 := zc HB hx176_3
  replace hx176_4 := zc HB hx176_4
  replace p176 := eq_true p176
  replace q176 := eq_true q176
  have p177 : 0 ≤ (0 : Int) := (by omega)
  have q177 : 0 < (l0.length : Int) := of_decide_eq_true zA
  obtain ⟨ad177, A177_2, c177_2, e177, hx177_0, hx177_1, hx177_2, hl177_2, hi177_2⟩ := at_T37 HR0.out 0 p177 q177
  have hw177_2 := hx177_2
  try simp only [z00, Nat.zero_mul, Addr.add_zero'] at hw177_2
  have hw177_1 := hx177_1
  try simp only [z00, Nat.zero_mul, Addr.add_zero'] at hw177_1
  have hw177_0 := hx177_0
  try simp only [z00, Nat.zero_mul, Addr.add_zero'] at hw177_0
  obtain rfl : adp0 = ad177 := (by injection e177)
  have qi177 : (0 < l0.length) = True := eq_true (by omega)
  try simp only [z00, Nat.zero_mul, Addr.add_zero'] at hx177_0 hx177_1 hx177_2
  replace hx177_0 := zc HB hx177_0
  replace hx177_1 := zc HB hx177_1
  replace hx177_2 := zc HB hx177_2
  have HR177_2 := Aside0.mk hi177_2
  have HC177_2 := Aside0.mk hl177_2
  clear hi177_2 hl177_2
  replace p177 := eq_true p177
  replace q177 := eq_true q177
  have p178 : 0 ≤ (0 : Int) := (by omega)
  have q178 : 0 < (l0.length : Int) := of_decide_eq_true zA
  obtain ⟨ad178, A178_2, c178_2, e178, hx178_0, hx178_1, hx178_2, hl178_2, hi178_2⟩ := at_T37 HR0.out 0 p178 q178
  have hw178_2 := hx178_2
  try simp only [z00, Nat.zero_mul, Addr.add_zero'] at hw178_2
  have hw178_1 := hx178_1
  try simp only [z00, Nat.zero_mul, Addr.add_zero'] at hw178_1
  have hw178_0 := hx178_0
  try simp only [z00, Nat.zero_mul, Addr.add_zero'] at hw178_0
  obtain rfl : adp0 = ad178 := (by injection e178)
  have qi178 : (0 < l0.length) = True := eq_true (by omega)
  try simp only [z00, Nat.zero_mul, Addr.add_zero'] at hx178_0 hx178_1 hx178_2
  replace hx178_0 := zc HB hx178_0
  replace hx178_1 := zc HB hx178_1
  replace hx178_2 := zc HB hx178_2
  have HR178_2 := Aside0.mk hi178_2
  have HC178_2 := Aside0.mk hl178_2
  clear hi178_2 hl178_2
  replace p178 := eq_true p178
  replace q178 := eq_true q178
  have ea_ := Option.some.inj (hx177_2.symm.trans hx178_2)
  injection ea_ with ea_ en_ ec_
  subst ea_
  subst ec_
  clear en_
  refine start_ (n := 31) (S := fun w' => w'.cell? (ad174.add ((x3_2).toNat * 5)) = some (.int .i8 ((rd_T91 ((rd_T37 l0 0).f2) x3_2).f0.f0)) ∧ w'.cell? ⟨(ad174.add ((x3_2).toNat * 5)).block, (ad174.add ((x3_2).toNat * 5)).off + 1, none⟩ = some (.int .i8 ((rd_T91 ((rd_T37 l0 0).f2) x3_2).f0.f1)) ∧ w'.cell? ⟨(ad174.add ((x3_2).toNat * 5)).block, (ad174.add ((x3_2).toNat * 5)).off + 2, none⟩ = some (.int .i8 ((rd_T91 ((rd_T37 l0 0).f2) x3_2).f1)) ∧ w'.cell? ⟨(ad174.add ((x3_2).toNat * 5)).block, (ad174.add ((x3_2).toNat * 5)).off + 3, none⟩ = some (.int .i8 ((rd_T91 ((rd_T37 l0 0).f2) x3_2).f2)) ∧ w'.cell? ⟨(ad174.add ((x3_2).toNat * 5)).block, (ad174.add ((x3_2).toNat * 5)).off + 4, none⟩ = some (.int .i8 ((rd_T91 ((rd_T37 l0 0).f2) x3_2).f3)) ∧ w'.cell? adp0 = some (.int .i8 ((rd_T37 l0 0).f0)) ∧ w'.cell? ⟨adp0.block, adp0.off + 1, none⟩ = some (.int .i8 ((rd_T37 l0 0).f1)) ∧ w'.cell? ⟨adp0.block, adp0.off + 2, none⟩ = some (.slice A177_2 ((rd_T37 l0 0).f2).length c177_2) ∧ w'.cell? adp0 = some (.int .i8 ((rd_T37 l0 0).f0)) ∧ w'.cell? ⟨adp0.block, adp0.off + 1, none⟩ = some (.int .i8 ((rd_T37 l0 0).f1)) ∧ w'.cell? ⟨adp0.block, adp0.off + 2, none⟩ = some (.slice A177_2 ((rd_T37 l0 0).f2).length c177_2)) (ds := []) (zq 31 0) (by kernel_rfl) rfl rfl ⟨(zc HB hw176_0), (zc HB hw176_1), (zc HB hw176_2), (zc HB hw176_3), (zc HB hw176_4), (zc HB hw177_0), (zc HB hw177_1), (zc HB hw177_2), (zc HB hw178_0), (zc HB hw178_1), (zc HB hw178_2)⟩ (fun hHeld => ?_); refine with_tabW spec_l01Ok.tab7 spec_l01Ok.bits7 (fun HT_ HW_ => ?_)
  generalize wr.drew = w26 at HB HR177_2 HR178_2 hx176_0 hx176_1 hx176_2 hx176_3 hx176_4 hx177_0 hx177_1 hx177_2 hx178_0 hx178_1 hx178_2 hHeld ⊢
  refine zpu 0 (some 44) (zq 31 1) HT_ ?_
  refine one_ (i := 1) (N := some 45) (zq 31 3) rfl rfl (one_of HT_.out (by kernel_rfl)) (by decide) (fun K hK => ?_)
  refine goes_ Try.func132 (by kernel_rfl) rfl #[.pointer (some (ad174.add (x3_2.toNat * 5)))] (by rfl) rfl rfl zm ?_
  with_reducible refine (spec_l01Piece.calls _ [rd_T91 ((rd_T37 l0 0).f2) x3_2] true _ ?side1 A12.out).mono ?_
  (case side1 => refine ro_of_elem (d := k91) z91 x3_2 (by first | exact of_eq_true p174 | omega) (by first | exact of_eq_true q174 | omega) ?_; exact zcc HB HR173_2.out)
  rintro e w27 ⟨rfl, hb⟩
  refine ⟨_, rfl, ?_⟩
  have n0_ := zb HB hb
  clear HB
  have HB := n0_
  clear n0_
  (try clear hb)
  (try clear hb2)
  (try clear hk)
  (try clear hi)
  refine hK.out _ _ ⟨(zc HB hw176_0), (zc HB hw176_1), (zc HB hw176_2), (zc HB hw176_3), (zc HB hw176_4), (zc HB hw177_0), (zc HB hw177_1), (zc HB hw177_2), (zc HB hw178_0), (zc HB hw178_1), (zc HB hw178_2)⟩ (fun hHeld => ?_)
  clear hK K
  refine norm_ (a' := ?_) ?_ ?_
  rotate_left
  ·show Act.put _ (some 45) _ = _
   exact zap
  refine zpu 2 (some 46) (zq 31 7) HT_ ?_
  refine zpu 3 (some 47) (zq 31 15) HT_ ?_
  refine zpu 4 (some 48) (zq 31 31) HT_ ?_
  refine zpu 5 (some 49) (zq 31 63) HT_ ?_
  refine zpu 6 (some 50) (zq 31 127) HT_ ?_
  refine zpu 8 (some 52) (zq 31 383) HT_ ?_
  refine zpu 9 (some 53) (zq 31 895) HT_ ?_
  refine zpu 10 (some 54) (zq 31 1919) HT_ ?_
  refine zpu 13 (some 57) (zq 31 10111) HT_ ?_
  refine zpu 14 (some 58) (zq 31 26495) HT_ ?_
  refine zpu 15 (some 59) (zq 31 59263) HT_ ?_
  refine ztk 7 (some 51) (zq 31 59391) HT_ HW_ rfl hHeld (Or.inl ⟨by rfl, by (rintro w' ⟨s0, s1, s2, s3, s4, s5, s6, s7, s8, s9, s10⟩; go_simp; with_reducible rfl)⟩) ?_
  refine ztk 11 (some 55) (zq 31 61439) HT_ HW_ rfl hHeld (Or.inl ⟨by rfl, by (rintro w' ⟨s0, s1, s2, s3, s4, s5, s6, s7, s8, s9, s10⟩; go_simp; with_reducible rfl)⟩) ?_
  refine zpu 12 (some 56) (zq 31 65535) HT_ ?_
  refine ztk 16 (some 60) (zq 31 131071) HT_ HW_ rfl hHeld (Or.inl ⟨by rfl, by (rintro w' ⟨s0, s1, s2, s3, s4, s5, s6, s7, s8, s9, s10⟩; go_simp; with_reducible rfl)⟩) ?_
  refine zpu 17 (some 61) (zq 31 262143) HT_ ?_
  refine one_ (i := 18) (N := some 62) (zq 31 524287) rfl rfl (one_of HT_.out (by kernel_rfl)) (by decide) (fun K hK => ?_)
  refine goes_ Try.func133 (by kernel_rfl) rfl #[.agg #[.int .i8 ((rd_T91 ((rd_T37 l0 0).f2) x3_2).f0.f0), .int .i8 ((rd_T91 ((rd_T37 l0 0).f2) x3_2).f0.f1)], .int .i64 (wrap64 ((rd_T37 l0 0).f0)), .int .i64 (wrap64 ((rd_T37 l0 0).f1))] (by rfl) rfl rfl zm ?_
  with_reducible refine (spec_l01In.calls ((rd_T91 ((rd_T37 l0 0).f2) x3_2).f0.f0) ((rd_T91 ((rd_T37 l0 0).f2) x3_2).f0.f1) (wrap64 ((rd_T37 l0 0).f0)) (wrap64 ((rd_T37 l0 0).f1)) false _ A14.out).mono ?_
  rintro e w28 ⟨rfl, hb⟩
  refine ⟨_, rfl, ?_⟩
  have n0_ := zb HB hb
  clear HB
  have HB := n0_
  clear n0_
  (try clear hb)
  (try clear hb2)
  (try clear hk)
  (try clear hi)
  refine hK.out _ _ ⟨(zc HB hw176_0), (zc HB hw176_1), (zc HB hw176_2), (zc HB hw176_3), (zc HB hw176_4), (zc HB hw177_0), (zc HB hw177_1), (zc HB hw177_2), (zc HB hw178_0), (zc HB hw178_1), (zc HB hw178_2)⟩ (fun hHeld => ?_)
  clear hK K
  refine norm_ (a' := ?_) ?_ ?_
  rotate_left
  ·show Act.put _ (some 62) _ = _
   exact zap
  refine zpu 19 (some 63) (zq 31 1048575) HT_ ?_
  refine zpu 20 (some 64) (zq 31 2097151) HT_ ?_
  refine zpu 21 (some 65) (zq 31 4194303) HT_ ?_
  refine zpn 22 (some 66) (zq 31 8388607) HT_ ?_
  refine zpn 23 (some 67) (zq 31 16777215) HT_ ?_
  refine zpn 24 (some 68) (zq 31 33554431) HT_ ?_
  refine zpn 25 (some 69) (zq 31 67108863) HT_ ?_
  refine zpn 26 (some 70) (zq 31 134217727) HT_ ?_
  refine zpn 27 (some 71) (zq 31 268435455) HT_ ?_
  refine zpn 28 (some 72) (zq 31 536870911) HT_ ?_
  refine zpn 29 (some 73) (zq 31 1073741823) HT_ ?_
  refine zpu 30 (some 74) (zq 31 2147483647) HT_ ?_
  refine done_ (done_of HT_.out (by kernel_rfl)) ?_
  try go_wp2
  go_ret
  exact ⟨zv, zbo⟩
 subst c15
 have H1 : ((spec_l01Find.f k2 l0 ((rd_T91 ((rd_T37 l0 0).f2) x3_2).f0.f0) ((rd_T91 ((rd_T37 l0 0).f2) x3_2).f0.f1)).bind fun t181 => (if t181 = x3_2 then (spec_l01Ok.l0 k2 l0 (wrap64 (x3_2 + 1))) else (some false))) = some r := by rw [if_pos rfl] at H; exact H
 clear H
 have H := H1
 clear H1
 replace H := zob H
 obtain ⟨t181, A160, H⟩ := H
 replace H : (if t181 = x3_2 then (spec_l01Ok.l0 k2 l0 (wrap64 (x3_2 + 1))) else (some false)) = some r := H
 have A16 := Aside0.mk A160
 clear A160
 by_cases c17 : t181 = x3_2
 rotate_left
 ·rw [if_neg c17] at H
  have c17b0 : (t181 == x3_2) = false := beq_eq_false_iff_ne.mpr c17
  have c17b1 : (t181 != x3_2) = true := bne_iff_ne.mpr c17
  obtain rfl := Option.some.inj H
  have p172 : 0 ≤ (0 : Int) := (by omega)
  have q172 : 0 < (l0.length : Int) := of_decide_eq_true zA
  obtain ⟨ad172, A172_2, c172_2, e172, hx172_0, hx172_1, hx172_2, hl172_2, hi172_2⟩ := at_T37 HR0.out 0 p172 q172
  obtain rfl : adp0 = ad172 := (by injection e172)
  have qi172 : (0 < l0.length) = True := eq_true (by omega)
  try simp only [z00, Nat.zero_mul, Addr.add_zero'] at hx172_0 hx172_1 hx172_2
  replace hx172_0 := zc HB hx172_0
  replace hx172_1 := zc HB hx172_1
  replace hx172_2 := zc HB hx172_2
  have HR172_2 := Aside0.mk hi172_2
  have HC172_2 := Aside0.mk hl172_2
  clear hi172_2 hl172_2
  replace p172 := eq_true p172
  replace q172 := eq_true q172
  have p173 : 0 ≤ (0 : Int) := (by omega)
  have q173 : 0 < (l0.length : Int) := of_decide_eq_true zA
  obtain ⟨ad173, A173_2, c173_2, e173, hx173_0, hx173_1, hx173_2, hl173_2, hi173_2⟩ := at_T37 HR0.out 0 p173 q173
  obtain rfl : adp0 = ad173 := (by injection e173)
  have qi173 : (0 < l0.length) = True := eq_true (by omega)
  try simp only [z00, Nat.zero_mul, Addr.add_zero'] at hx173_0 hx173_1 hx173_2
  replace hx173_0 := zc HB hx173_0
  replace hx173_1 := zc HB hx173_1
  replace hx173_2 := zc HB hx173_2
  have HR173_2 := Aside0.mk hi173_2
  have HC173_2 := Aside0.mk hl173_2
  clear hi173_2 hl173_2
  replace p173 := eq_true p173
  replace q173 := eq_true q173
  have ea_ := Option.some.inj (hx172_2.symm.trans hx173_2)
  injection ea_ with ea_ en_ ec_
  subst ea_
  subst ec_
  clear en_
  have p174 : 0 ≤ (x3_2 : Int) := of_decide_eq_true zA
  have q174 : x3_2 < (((rd_T37 l0 0).f2).length : Int) := of_decide_eq_true zA
  obtain ⟨ad174, e174, hx174_0, hx174_1, hx174_2, hx174_3, hx174_4⟩ := at_T91 HR173_2.out x3_2 p174 q174
  cases e174
  replace hx174_0 := zc HB hx174_0
  replace hx174_1 := zc HB hx174_1
  replace hx174_2 := zc HB hx174_2
  replace hx174_3 := zc HB hx174_3
  replace hx174_4 := zc HB hx174_4
  replace p174 := eq_true p174
  replace q174 := eq_true q174
  try go_wp2
  have n0_ := Aside0.mk (below_drew1 HB.out)
  clear HB
  have HB := n0_
  clear n0_
  have p176 : 0 ≤ (x3_2 : Int) := of_decide_eq_true zA
  have q176 : x3_2 < (((rd_T37 l0 0).f2).length : Int) := of_decide_eq_true zA
  obtain ⟨ad176, e176, hx176_0, hx176_1, hx176_2, hx176_3, hx176_4⟩ := at_T91 HR173_2.out x3_2 p176 q176
  have hw176_4 := hx176_4
  have hw176_3 := hx176_3
  have hw176_2 := hx176_2
  have hw176_1 := hx176_1
  have hw176_0 := hx176_0
  obtain rfl : ad174 = ad176 := (by injection e176)
  replace hx176_0 := zc HB hx176_0
  replace hx176_1 := zc HB hx176_1
  replace hx176_2 := zc HB hx176_2
  replace hx176_3 := zc HB hx176_3
  replace hx176_4 := zc HB hx176_4
  replace p176 := eq_true p176
  replace q176 := eq_true q176
  have p177 : 0 ≤ (0 : Int) := (by omega)
  have q177 : 0 < (l0.length : Int) := of_decide_eq_true zA
  obtain ⟨ad177, A177_2, c177_2, e177, hx177_0, hx177_1, hx177_2, hl177_2, hi177_2⟩ := at_T37 HR0.out 0 p177 q177
  have hw177_2 := hx177_2
  try simp only [z00, Nat.zero_mul, Addr.add_zero'] at hw177_2
  have hw177_1 := hx177_1
  try simp only [z00, Nat.zero_mul, Addr.add_zero'] at hw177_1
  have hw177_0 := hx177_0
  try simp only [z00, Nat.zero_mul, Addr.add_zero'] at hw177_0
  obtain rfl : adp0 = ad177 := (by injection e177)
  have qi177 : (0 < l0.length) = True := eq_true (by omega)
  try simp only [z00, Nat.zero_mul, Addr.add_zero'] at hx177_0 hx177_1 hx177_2
  replace hx177_0 := zc HB hx177_0
  replace hx177_1 := zc HB hx177_1
  replace hx177_2 := zc HB hx177_2
  have HR177_2 := Aside0.mk hi177_2
  have HC177_2 := Aside0.mk hl177_2
  clear hi177_2 hl177_2
  replace p177 := eq_true p177
  replace q177 := eq_true q177
  have p178 : 0 ≤ (0 : Int) := (by omega)
  have q178 : 0 < (l0.length : Int) := of_decide_eq_true zA
  obtain ⟨ad178, A178_2, c178_2, e178, hx178_0, hx178_1, hx178_2, hl178_2, hi178_2⟩ := at_T37 HR0.out 0 p178 q178
  have hw178_2 := hx178_2
  try simp only [z00, Nat.zero_mul, Addr.add_zero'] at hw178_2
  have hw178_1 := hx178_1
  try simp only [z00, Nat.zero_mul, Addr.add_zero'] at hw178_1
  have hw178_0 := hx178_0
  try simp only [z00, Nat.zero_mul, Addr.add_zero'] at hw178_0
  obtain rfl : adp0 = ad178 := (by injection e178)
  have qi178 : (0 < l0.length) = True := eq_true (by omega)
  try simp only [z00, Nat.zero_mul, Addr.add_zero'] at hx178_0 hx178_1 hx178_2
  replace hx178_0 := zc HB hx178_0
  replace hx178_1 := zc HB hx178_1
  replace hx178_2 := zc HB hx178_2
  have HR178_2 := Aside0.mk hi178_2
  have HC178_2 := Aside0.mk hl178_2
  clear hi178_2 hl178_2
  replace p178 := eq_true p178
  replace q178 := eq_true q178
  have ea_ := Option.some.inj (hx177_2.symm.trans hx178_2)
  injection ea_ with ea_ en_ ec_
  subst ea_
  subst ec_
  clear en_
  have p180 : 0 ≤ (x3_2 : Int) := of_decide_eq_true zA
  have q180 : x3_2 < (((rd_T37 l0 0).f2).length : Int) := of_decide_eq_true zA
  obtain ⟨ad180, e180, hx180_0, hx180_1, hx180_2, hx180_3, hx180_4⟩ := at_T91 HR173_2.out x3_2 p180 q180
  have hw180_4 := hx180_4
  have hw180_3 := hx180_3
  have hw180_2 := hx180_2
  have hw180_1 := hx180_1
  have hw180_0 := hx180_0
  obtain rfl : ad174 = ad180 := (by injection e180)
  replace hx180_0 := zc HB hx180_0
  replace hx180_1 := zc HB hx180_1
  replace hx180_2 := zc HB hx180_2
  replace hx180_3 := zc HB hx180_3
  replace hx180_4 := zc HB hx180_4
  replace p180 := eq_true p180
  replace q180 := eq_true q180
  refine start_ (n := 31) (S := fun w' => w'.cell? (ad174.add ((x3_2).toNat * 5)) = some (.int .i8 ((rd_T91 ((rd_T37 l0 0).f2) x3_2).f0.f0)) ∧ w'.cell? ⟨(ad174.add ((x3_2).toNat * 5)).block, (ad174.add ((x3_2).toNat * 5)).off + 1, none⟩ = some (.int .i8 ((rd_T91 ((rd_T37 l0 0).f2) x3_2).f0.f1)) ∧ w'.cell? ⟨(ad174.add ((x3_2).toNat * 5)).block, (ad174.add ((x3_2).toNat * 5)).off + 2, none⟩ = some (.int .i8 ((rd_T91 ((rd_T37 l0 0).f2) x3_2).f1)) ∧ w'.cell? ⟨(ad174.add ((x3_2).toNat * 5)).block, (ad174.add ((x3_2).toNat * 5)).off + 3, none⟩ = some (.int .i8 ((rd_T91 ((rd_T37 l0 0).f2) x3_2).f2)) ∧ w'.cell? ⟨(ad174.add ((x3_2).toNat * 5)).block, (ad174.add ((x3_2).toNat * 5)).off + 4, none⟩ = some (.int .i8 ((rd_T91 ((rd_T37 l0 0).f2) x3_2).f3)) ∧ w'.cell? adp0 = some (.int .i8 ((rd_T37 l0 0).f0)) ∧ w'.cell? ⟨adp0.block, adp0.off + 1, none⟩ = some (.int .i8 ((rd_T37 l0 0).f1)) ∧ w'.cell? ⟨adp0.block, adp0.off + 2, none⟩ = some (.slice A177_2 ((rd_T37 l0 0).f2).length c177_2) ∧ w'.cell? adp0 = some (.int .i8 ((rd_T37 l0 0).f0)) ∧ w'.cell? ⟨adp0.block, adp0.off + 1, none⟩ = some (.int .i8 ((rd_T37 l0 0).f1)) ∧ w'.cell? ⟨adp0.block, adp0.off + 2, none⟩ = some (.slice A177_2 ((rd_T37 l0 0).f2).length c177_2) ∧ w'.cell? (ad174.add ((x3_2).toNat * 5)) = some (.int .i8 ((rd_T91 ((rd_T37 l0 0).f2) x3_2).f0.f0)) ∧ w'.cell? ⟨(ad174.add ((x3_2).toNat * 5)).block, (ad174.add ((x3_2).toNat * 5)).off + 1, none⟩ = some (.int .i8 ((rd_T91 ((rd_T37 l0 0).f2) x3_2).f0.f1)) ∧ w'.cell? ⟨(ad174.add ((x3_2).toNat * 5)).block, (ad174.add ((x3_2).toNat * 5)).off + 2, none⟩ = some (.int .i8 ((rd_T91 ((rd_T37 l0 0).f2) x3_2).f1)) ∧ w'.cell? ⟨(ad174.add ((x3_2).toNat * 5)).block, (ad174.add ((x3_2).toNat * 5)).off + 3, none⟩ = some (.int .i8 ((rd_T91 ((rd_T37 l0 0).f2) x3_2).f2)) ∧ w'.cell? ⟨(ad174.add ((x3_2).toNat * 5)).block, (ad174.add ((x3_2).toNat * 5)).off + 4, none⟩ = some (.int .i8 ((rd_T91 ((rd_T37 l0 0).f2) x3_2).f3))) (ds := []) (zq 31 0) (by kernel_rfl) rfl rfl ⟨(zc HB hw176_0), (zc HB hw176_1), (zc HB hw176_2), (zc HB hw176_3), (zc HB hw176_4), (zc HB hw177_0), (zc HB hw177_1), (zc HB hw177_2), (zc HB hw178_0), (zc HB hw178_1), (zc HB hw178_2), (zc HB hw180_0), (zc HB hw180_1), (zc HB hw180_2), (zc HB hw180_3), (zc HB hw180_4)⟩ (fun hHeld => ?_); refine with_tabW spec_l01Ok.tab7 spec_l01Ok.bits7 (fun HT_ HW_ => ?_)
  generalize wr.drew = w22 at HB HR177_2 HR178_2 hx176_0 hx176_1 hx176_2 hx176_3 hx176_4 hx177_0 hx177_1 hx177_2 hx178_0 hx178_1 hx178_2 hx180_0 hx180_1 hx180_2 hx180_3 hx180_4 hHeld ⊢
  refine zpu 0 (some 44) (zq 31 1) HT_ ?_
  refine one_ (i := 1) (N := some 45) (zq 31 3) rfl rfl (one_of HT_.out (by kernel_rfl)) (by decide) (fun K hK => ?_)
  refine goes_ Try.func132 (by kernel_rfl) rfl #[.pointer (some (ad174.add (x3_2.toNat * 5)))] (by rfl) rfl rfl zm ?_
  with_reducible refine (spec_l01Piece.calls _ [rd_T91 ((rd_T37 l0 0).f2) x3_2] true _ ?side1 A12.out).mono ?_
  (case side1 => refine ro_of_elem (d := k91) z91 x3_2 (by first | exact of_eq_true p174 | omega) (by first | exact of_eq_true q174 | omega) ?_; exact zcc HB HR173_2.out)
  rintro e w23 ⟨rfl, hb⟩
  refine ⟨_, rfl, ?_⟩
  have n0_ := zb HB hb
  clear HB
  have HB := n0_
  clear n0_
  (try clear hb)
  (try clear hb2)
  (try clear hk)
  (try clear hi)
  refine hK.out _ _ ⟨(zc HB hw176_0), (zc HB hw176_1), (zc HB hw176_2), (zc HB hw176_3), (zc HB hw176_4), (zc HB hw177_0), (zc HB hw177_1), (zc HB hw177_2), (zc HB hw178_0), (zc HB hw178_1), (zc HB hw178_2), (zc HB hw180_0), (zc HB hw180_1), (zc HB hw180_2), (zc HB hw180_3), (zc HB hw180_4)⟩ (fun hHeld => ?_)
  clear hK K
  refine norm_ (a' := ?_) ?_ ?_
  rotate_left
  ·show Act.put _ (some 45) _ = _
   exact zap
  refine zpu 2 (some 46) (zq 31 7) HT_ ?_
  refine zpu 3 (some 47) (zq 31 15) HT_ ?_
  refine zpu 4 (some 48) (zq 31 31) HT_ ?_
  refine zpu 5 (some 49) (zq 31 63) HT_ ?_
  refine zpu 6 (some 50) (zq 31 127) HT_ ?_
  refine zpu 8 (some 52) (zq 31 383) HT_ ?_
  refine zpu 9 (some 53) (zq 31 895) HT_ ?_
  refine zpu 10 (some 54) (zq 31 1919) HT_ ?_
  refine zpu 13 (some 57) (zq 31 10111) HT_ ?_
  refine zpu 14 (some 58) (zq 31 26495) HT_ ?_
  refine zpu 15 (some 59) (zq 31 59263) HT_ ?_
  refine ztk 7 (some 51) (zq 31 59391) HT_ HW_ rfl hHeld (Or.inl ⟨by rfl, by (rintro w' ⟨s0, s1, s2, s3, s4, s5, s6, s7, s8, s9, s10, s11, s12, s13, s14, s15⟩; go_simp; with_reducible rfl)⟩) ?_
  refine ztk 11 (some 55) (zq 31 61439) HT_ HW_ rfl hHeld (Or.inl ⟨by rfl, by (rintro w' ⟨s0, s1, s2, s3, s4, s5, s6, s7, s8, s9, s10, s11, s12, s13, s14, s15⟩; go_simp; with_reducible rfl)⟩) ?_
  refine zpu 12 (some 56) (zq 31 65535) HT_ ?_
  refine ztk 16 (some 60) (zq 31 131071) HT_ HW_ rfl hHeld (Or.inl ⟨by rfl, by (rintro w' ⟨s0, s1, s2, s3, s4, s5, s6, s7, s8, s9, s10, s11, s12, s13, s14, s15⟩; go_simp; with_reducible rfl)⟩) ?_
  refine zpu 17 (some 61) (zq 31 262143) HT_ ?_
  refine one_ (i := 18) (N := some 62) (zq 31 524287) rfl rfl (one_of HT_.out (by kernel_rfl)) (by decide) (fun K hK => ?_)
  refine goes_ Try.func133 (by kernel_rfl) rfl #[.agg #[.int .i8 ((rd_T91 ((rd_T37 l0 0).f2) x3_2).f0.f0), .int .i8 ((rd_T91 ((rd_T37 l0 0).f2) x3_2).f0.f1)], .int .i64 (wrap64 ((rd_T37 l0 0).f0)), .int .i64 (wrap64 ((rd_T37 l0 0).f1))] (by rfl) rfl rfl zm ?_
  with_reducible refine (spec_l01In.calls ((rd_T91 ((rd_T37 l0 0).f2) x3_2).f0.f0) ((rd_T91 ((rd_T37 l0 0).f2) x3_2).f0.f1) (wrap64 ((rd_T37 l0 0).f0)) (wrap64 ((rd_T37 l0 0).f1)) true _ A14.out).mono ?_
  rintro e w24 ⟨rfl, hb⟩
  refine ⟨_, rfl, ?_⟩
  have n0_ := zb HB hb
  clear HB
  have HB := n0_
  clear n0_
  (try clear hb)
  (try clear hb2)
  (try clear hk)
  (try clear hi)
  refine hK.out _ _ ⟨(zc HB hw176_0), (zc HB hw176_1), (zc HB hw176_2), (zc HB hw176_3), (zc HB hw176_4), (zc HB hw177_0), (zc HB hw177_1), (zc HB hw177_2), (zc HB hw178_0), (zc HB hw178_1), (zc HB hw178_2), (zc HB hw180_0), (zc HB hw180_1), (zc HB hw180_2), (zc HB hw180_3), (zc HB hw180_4)⟩ (fun hHeld => ?_)
  clear hK K
  refine norm_ (a' := ?_) ?_ ?_
  rotate_left
  ·show Act.put _ (some 62) _ = _
   exact zap
  refine zpu 19 (some 63) (zq 31 1048575) HT_ ?_
  refine zpu 20 (some 64) (zq 31 2097151) HT_ ?_
  refine zpu 21 (some 65) (zq 31 4194303) HT_ ?_
  refine zpu 22 (some 66) (zq 31 8388607) HT_ ?_
  refine zpu 23 (some 67) (zq 31 16777215) HT_ ?_
  refine zpu 24 (some 68) (zq 31 33554431) HT_ ?_
  refine zpu 25 (some 69) (zq 31 67108863) HT_ ?_
  refine zpu 28 (some 72) (zq 31 335544319) HT_ ?_
  refine ztk 26 (some 70) (zq 31 402653183) HT_ HW_ rfl hHeld (Or.inl ⟨by rfl, by (rintro w' ⟨s0, s1, s2, s3, s4, s5, s6, s7, s8, s9, s10, s11, s12, s13, s14, s15⟩; go_simp; with_reducible rfl)⟩) ?_
  refine one_ (i := 27) (N := some 71) (zq 31 536870911) rfl rfl (one_of HT_.out (by kernel_rfl)) (by decide) (fun K hK => ?_)
  refine goes_ Try.func111 (by kernel_rfl) rfl #[.pointer (some adp0), .agg #[.int .i8 ((rd_T91 ((rd_T37 l0 0).f2) x3_2).f0.f0), .int .i8 ((rd_T91 ((rd_T37 l0 0).f2) x3_2).f0.f1)]] (by rfl) rfl rfl zm ?_
  with_reducible refine (spec_l01Find.calls k2 _ l0 ((rd_T91 ((rd_T37 l0 0).f2) x3_2).f0.f0) ((rd_T91 ((rd_T37 l0 0).f2) x3_2).f0.f1) t181 _ ?side1 A16.out).mono ?_
  (case side1 => exact zcc HB HR0.out)
  rintro e w25 ⟨rfl, hb⟩
  refine ⟨_, rfl, ?_⟩
  have n0_ := zb HB hb
  clear HB
  have HB := n0_
  clear n0_
  (try clear hb)
  (try clear hb2)
  (try clear hk)
  (try clear hi)
  refine hK.out _ _ ⟨(zc HB hw176_0), (zc HB hw176_1), (zc HB hw176_2), (zc HB hw176_3), (zc HB hw176_4), (zc HB hw177_0), (zc HB hw177_1), (zc HB hw177_2), (zc HB hw178_0), (zc HB hw178_1), (zc HB hw178_2), (zc HB hw180_0), (zc HB hw180_1), (zc HB hw180_2), (zc HB hw180_3), (zc HB hw180_4)⟩ (fun hHeld => ?_)
  clear hK K
  refine norm_ (a' := ?_) ?_ ?_
  rotate_left
  ·show Act.put _ (some 71) _ = _
   exact zap
  refine zpu 29 (some 73) (zq 31 1073741823) HT_ ?_
  refine zpu 30 (some 74) (zq 31 2147483647) HT_ ?_
  refine done_ (done_of HT_.out (by kernel_rfl)) ?_
  try go_wp2
  go_ret
  exact ⟨zv, zbo⟩
 rw [if_pos c17] at H
 have c17b0 : (t181 == x3_2) = true := beq_iff_eq.mpr c17
 have c17b1 : (t181 != x3_2) = false := bne_eq_false_iff_eq.mpr c17
 clear c17
 have H' := Aside0.mk H
 clear H
 have p172 : 0 ≤ (0 : Int) := (by omega)
 have q172 : 0 < (l0.length : Int) := of_decide_eq_true zA
 obtain ⟨ad172, A172_2, c172_2, e172, hx172_0, hx172_1, hx172_2, hl172_2, hi172_2⟩ := at_T37 HR0.out 0 p172 q172
 obtain rfl : adp0 = ad172 := (by injection e172)
 have qi172 : (0 < l0.length) = True := eq_true (by omega)
 try simp only [z00, Nat.zero_mul, Addr.add_zero'] at hx172_0 hx172_1 hx172_2
 replace hx172_0 := zc HB hx172_0
 replace hx172_1 := zc HB hx172_1
 replace hx172_2 := zc HB hx172_2
 have HR172_2 := Aside0.mk hi172_2
 have HC172_2 := Aside0.mk hl172_2
 clear hi172_2 hl172_2
 replace p172 := eq_true p172
 replace q172 := eq_true q172
 have p173 : 0 ≤ (0 : Int) := (by omega)
 have q173 : 0 < (l0.length : Int) := of_decide_eq_true zA
 obtain ⟨ad173, A173_2, c173_2, e173, hx173_0, hx173_1, hx173_2, hl173_2, hi173_2⟩ := at_T37 HR0.out 0 p173 q173
 obtain rfl : adp0 = ad173 := (by injection e173)
 have qi173 : (0 < l0.length) = True := eq_true (by omega)
 try simp only [z00, Nat.zero_mul, Addr.add_zero'] at hx173_0 hx173_1 hx173_2
 replace hx173_0 := zc HB hx173_0
 replace hx173_1 := zc HB hx173_1
 replace hx173_2 := zc HB hx173_2
 have HR173_2 := Aside0.mk hi173_2
 have HC173_2 := Aside0.mk hl173_2
 clear hi173_2 hl173_2
 replace p173 := eq_true p173
 replace q173 := eq_true q173
 have ea_ := Option.some.inj (hx172_2.symm.trans hx173_2)
 injection ea_ with ea_ en_ ec_
 subst ea_
 subst ec_
 clear en_
 have p174 : 0 ≤ (x3_2 : Int) := of_decide_eq_true zA
 have q174 : x3_2 < (((rd_T37 l0 0).f2).length : Int) := of_decide_eq_true zA
 obtain ⟨ad174, e174, hx174_0, hx174_1, hx174_2, hx174_3, hx174_4⟩ := at_T91 HR173_2.out x3_2 p174 q174
 cases e174
 replace hx174_0 := zc HB hx174_0
 replace hx174_1 := zc HB hx174_1
 replace hx174_2 := zc HB hx174_2
 replace hx174_3 := zc HB hx174_3
 replace hx174_4 := zc HB hx174_4
 replace p174 := eq_true p174
 replace q174 := eq_true q174
 try go_wp2
 have n0_ := Aside0.mk (below_drew1 HB.out)
 clear HB
 have HB := n0_
 clear n0_
 have p176 : 0 ≤ (x3_2 : Int) := of_decide_eq_true zA
 have q176 : x3_2 < (((rd_T37 l0 0).f2).length : Int) := of_decide_eq_true zA
 obtain ⟨ad176, e176, hx176_0, hx176_1, hx176_2, hx176_3, hx176_4⟩ := at_T91 HR173_2.out x3_2 p176 q176
 have hw176_4 := hx176_4
 have hw176_3 := hx176_3
 have hw176_2 := hx176_2
 have hw176_1 := hx176_1
 have hw176_0 := hx176_0
 obtain rfl : ad174 = ad176 := (by injection e176)
 replace hx176_0 := zc HB hx176_0
 replace hx176_1 := zc HB hx176_1
 replace hx176_2 := zc HB hx176_2
 replace hx176_3 := zc HB hx176_3
 replace hx176_4 := zc HB hx176_4
 replace p176 := eq_true p176
 replace q176 := eq_true q176
 have p177 : 0 ≤ (0 : Int) := (by omega)
 have q177 : 0 < (l0.length : Int) := of_decide_eq_true zA
 obtain ⟨ad177, A177_2, c177_2, e177, hx177_0, hx177_1, hx177_2, hl177_2, hi177_2⟩ := at_T37 HR0.out 0 p177 q177
 have hw177_2 := hx177_2
 try simp only [z00, Nat.zero_mul, Addr.add_zero'] at hw177_2
 have hw177_1 := hx177_1
 try simp only [z00, Nat.zero_mul, Addr.add_zero'] at hw177_1
 have hw177_0 := hx177_0
 try simp only [z00, Nat.zero_mul, Addr.add_zero'] at hw177_0
 obtain rfl : adp0 = ad177 := (by injection e177)
 have qi177 : (0 < l0.length) = True := eq_true (by omega)
 try simp only [z00, Nat.zero_mul, Addr.add_zero'] at hx177_0 hx177_1 hx177_2
 replace hx177_0 := zc HB hx177_0
 replace hx177_1 := zc HB hx177_1
 replace hx177_2 := zc HB hx177_2
 have HR177_2 := Aside0.mk hi177_2
 have HC177_2 := Aside0.mk hl177_2
 clear hi177_2 hl177_2
 replace p177 := eq_true p177
 replace q177 := eq_true q177
 have p178 : 0 ≤ (0 : Int) := (by omega)
 have q178 : 0 < (l0.length : Int) := of_decide_eq_true zA
 obtain ⟨ad178, A178_2, c178_2, e178, hx178_0, hx178_1, hx178_2, hl178_2, hi178_2⟩ := at_T37 HR0.out 0 p178 q178
 have hw178_2 := hx178_2
 try simp only [z00, Nat.zero_mul, Addr.add_zero'] at hw178_2
 have hw178_1 := hx178_1
 try simp only [z00, Nat.zero_mul, Addr.add_zero'] at hw178_1
 have hw178_0 := hx178_0
 try simp only [z00, Nat.zero_mul, Addr.add_zero'] at hw178_0
 obtain rfl : adp0 = ad178 := (by injection e178)
 have qi178 : (0 < l0.length) = True := eq_true (by omega)
 try simp only [z00, Nat.zero_mul, Addr.add_zero'] at hx178_0 hx178_1 hx178_2
 replace hx178_0 := zc HB hx178_0
 replace hx178_1 := zc HB hx178_1
 replace hx178_2 := zc HB hx178_2
 have HR178_2 := Aside0.mk hi178_2
 have HC178_2 := Aside0.mk hl178_2
 clear hi178_2 hl178_2
 replace p178 := eq_true p178
 replace q178 := eq_true q178
 have ea_ := Option.some.inj (hx177_2.symm.trans hx178_2)
 injection ea_ with ea_ en_ ec_
 subst ea_
 subst ec_
 clear en_
 have p180 : 0 ≤ (x3_2 : Int) := of_decide_eq_true zA
 have q180 : x3_2 < (((rd_T37 l0 0).f2).length : Int) := of_decide_eq_true zA
 obtain ⟨ad180, e180, hx180_0, hx180_1, hx180_2, hx180_3, hx180_4⟩ := at_T91 HR173_2.out x3_2 p180 q180
 have hw180_4 := hx180_4
 have hw180_3 := hx180_3
 have hw180_2 := hx180_2
 have hw180_1 := hx180_1
 have hw180_0 := hx180_0
 obtain rfl : ad174 = ad180 := (by injection e180)
 replace hx180_0 := zc HB hx180_0
 replace hx180_1 := zc HB hx180_1
 replace hx180_2 := zc HB hx180_2
 replace hx180_3 := zc HB hx180_3
 replace hx180_4 := zc HB hx180_4
 replace p180 := eq_true p180
 replace q180 := eq_true q180
 refine start_ (n := 31) (S := fun w' => w'.cell? (ad174.add ((x3_2).toNat * 5)) = some (.int .i8 ((rd_T91 ((rd_T37 l0 0).f2) x3_2).f0.f0)) ∧ w'.cell? ⟨(ad174.add ((x3_2).toNat * 5)).block, (ad174.add ((x3_2).toNat * 5)).off + 1, none⟩ = some (.int .i8 ((rd_T91 ((rd_T37 l0 0).f2) x3_2).f0.f1)) ∧ w'.cell? ⟨(ad174.add ((x3_2).toNat * 5)).block, (ad174.add ((x3_2).toNat * 5)).off + 2, none⟩ = some (.int .i8 ((rd_T91 ((rd_T37 l0 0).f2) x3_2).f1)) ∧ w'.cell? ⟨(ad174.add ((x3_2).toNat * 5)).block, (ad174.add ((x3_2).toNat * 5)).off + 3, none⟩ = some (.int .i8 ((rd_T91 ((rd_T37 l0 0).f2) x3_2).f2)) ∧ w'.cell? ⟨(ad174.add ((x3_2).toNat * 5)).block, (ad174.add ((x3_2).toNat * 5)).off + 4, none⟩ = some (.int .i8 ((rd_T91 ((rd_T37 l0 0).f2) x3_2).f3)) ∧ w'.cell? adp0 = some (.int .i8 ((rd_T37 l0 0).f0)) ∧ w'.cell? ⟨adp0.block, adp0.off + 1, none⟩ = some (.int .i8 ((rd_T37 l0 0).f1)) ∧ w'.cell? ⟨adp0.block, adp0.off + 2, none⟩ = some (.slice A177_2 ((rd_T37 l0 0).f2).length c177_2) ∧ w'.cell? adp0 = some (.int .i8 ((rd_T37 l0 0).f0)) ∧ w'.cell? ⟨adp0.block, adp0.off + 1, none⟩ = some (.int .i8 ((rd_T37 l0 0).f1)) ∧ w'.cell? ⟨adp0.block, adp0.off + 2, none⟩ = some (.slice A177_2 ((rd_T37 l0 0).f2).length c177_2) ∧ w'.cell? (ad174.add ((x3_2).toNat * 5)) = some (.int .i8 ((rd_T91 ((rd_T37 l0 0).f2) x3_2).f0.f0)) ∧ w'.cell? ⟨(ad174.add ((x3_2).toNat * 5)).block, (ad174.add ((x3_2).toNat * 5)).off + 1, none⟩ = some (.int .i8 ((rd_T91 ((rd_T37 l0 0).f2) x3_2).f0.f1)) ∧ w'.cell? ⟨(ad174.add ((x3_2).toNat * 5)).block, (ad174.add ((x3_2).toNat * 5)).off + 2, none⟩ = some (.int .i8 ((rd_T91 ((rd_T37 l0 0).f2) x3_2).f1)) ∧ w'.cell? ⟨(ad174.add ((x3_2).toNat * 5)).block, (ad174.add ((x3_2).toNat * 5)).off + 3, none⟩ = some (.int .i8 ((rd_T91 ((rd_T37 l0 0).f2) x3_2).f2)) ∧ w'.cell? ⟨(ad174.add ((x3_2).toNat * 5)).block, (ad174.add ((x3_2).toNat * 5)).off + 4, none⟩ = some (.int .i8 ((rd_T91 ((rd_T37 l0 0).f2) x3_2).f3))) (ds := []) (zq 31 0) (by kernel_rfl) rfl rfl ⟨(zc HB hw176_0), (zc HB hw176_1), (zc HB hw176_2), (zc HB hw176_3), (zc HB hw176_4), (zc HB hw177_0), (zc HB hw177_1), (zc HB hw177_2), (zc HB hw178_0), (zc HB hw178_1), (zc HB hw178_2), (zc HB hw180_0), (zc HB hw180_1), (zc HB hw180_2), (zc HB hw180_3), (zc HB hw180_4)⟩ (fun hHeld => ?_); refine with_tabW spec_l01Ok.tab7 spec_l01Ok.bits7 (fun HT_ HW_ => ?_)
 generalize wr.drew = w18 at HB HR177_2 HR178_2 hx176_0 hx176_1 hx176_2 hx176_3 hx176_4 hx177_0 hx177_1 hx177_2 hx178_0 hx178_1 hx178_2 hx180_0 hx180_1 hx180_2 hx180_3 hx180_4 hHeld ⊢
 refine zpu 0 (some 44) (zq 31 1) HT_ ?_
 refine one_ (i := 1) (N := some 45) (zq 31 3) rfl rfl (one_of HT_.out (by kernel_rfl)) (by decide) (fun K hK => ?_)
 refine goes_ Try.func132 (by kernel_rfl) rfl #[.pointer (some (ad174.add (x3_2.toNat * 5)))] (by rfl) rfl rfl zm ?_
 with_reducible refine (spec_l01Piece.calls _ [rd_T91 ((rd_T37 l0 0).f2) x3_2] true _ ?side1 A12.out).mono ?_
 (case side1 => refine ro_of_elem (d := k91) z91 x3_2 (by first | exact of_eq_true p174 | omega) (by first | exact of_eq_true q174 | omega) ?_; exact zcc HB HR173_2.out)
 rintro e w19 ⟨rfl, hb⟩
 refine ⟨_, rfl, ?_⟩
 have n0_ := zb HB hb
 clear HB
 have HB := n0_
 clear n0_
 (try clear hb)
 (try clear hb2)
 (try clear hk)
 (try clear hi)
 refine hK.out _ _ ⟨(zc HB hw176_0), (zc HB hw176_1), (zc HB hw176_2), (zc HB hw176_3), (zc HB hw176_4), (zc HB hw177_0), (zc HB hw177_1), (zc HB hw177_2), (zc HB hw178_0), (zc HB hw178_1), (zc HB hw178_2), (zc HB hw180_0), (zc HB hw180_1), (zc HB hw180_2), (zc HB hw180_3), (zc HB hw180_4)⟩ (fun hHeld => ?_)
 clear hK K
 refine norm_ (a' := ?_) ?_ ?_
 rotate_left
 ·show Act.put _ (some 45) _ = _
  exact zap
 refine zpu 2 (some 46) (zq 31 7) HT_ ?_
 refine zpu 3 (some 47) (zq 31 15) HT_ ?_
 refine zpu 4 (some 48) (zq 31 31) HT_ ?_
 refine zpu 5 (some 49) (zq 31 63) HT_ ?_
 refine zpu 6 (some 50) (zq 31 127) HT_ ?_
 refine zpu 8 (some 52) (zq 31 383) HT_ ?_
 refine zpu 9 (some 53) (zq 31 895) HT_ ?_
 refine zpu 10 (some 54) (zq 31 1919) HT_ ?_
 refine zpu 13 (some 57) (zq 31 10111) HT_ ?_
 refine zpu 14 (some 58) (zq 31 26495) HT_ ?_
 refine zpu 15 (some 59) (zq 31 59263) HT_ ?_
 refine ztk 7 (some 51) (zq 31 59391) HT_ HW_ rfl hHeld (Or.inl ⟨by rfl, by (rintro w' ⟨s0, s1, s2, s3, s4, s5, s6, s7, s8, s9, s10, s11, s12, s13, s14, s15⟩; go_simp; with_reducible rfl)⟩) ?_
 refine ztk 11 (some 55) (zq 31 61439) HT_ HW_ rfl hHeld (Or.inl ⟨by rfl, by (rintro w' ⟨s0, s1, s2, s3, s4, s5, s6, s7, s8, s9, s10, s11, s12, s13, s14, s15⟩; go_simp; with_reducible rfl)⟩) ?_
 refine zpu 12 (some 56) (zq 31 65535) HT_ ?_
 refine ztk 16 (some 60) (zq 31 131071) HT_ HW_ rfl hHeld (Or.inl ⟨by rfl, by (rintro w' ⟨s0, s1, s2, s3, s4, s5, s6, s7, s8, s9, s10, s11, s12, s13, s14, s15⟩; go_simp; with_reducible rfl)⟩) ?_
 refine zpu 17 (some 61) (zq 31 262143) HT_ ?_
 refine one_ (i := 18) (N := some 62) (zq 31 524287) rfl rfl (one_of HT_.out (by kernel_rfl)) (by decide) (fun K hK => ?_)
 refine goes_ Try.func133 (by kernel_rfl) rfl #[.agg #[.int .i8 ((rd_T91 ((rd_T37 l0 0).f2) x3_2).f0.f0), .int .i8 ((rd_T91 ((rd_T37 l0 0).f2) x3_2).f0.f1)], .int .i64 (wrap64 ((rd_T37 l0 0).f0)), .int .i64 (wrap64 ((rd_T37 l0 0).f1))] (by rfl) rfl rfl zm ?_
 with_reducible refine (spec_l01In.calls ((rd_T91 ((rd_T37 l0 0).f2) x3_2).f0.f0) ((rd_T91 ((rd_T37 l0 0).f2) x3_2).f0.f1) (wrap64 ((rd_T37 l0 0).f0)) (wrap64 ((rd_T37 l0 0).f1)) true _ A14.out).mono ?_
 rintro e w20 ⟨rfl, hb⟩
 refine ⟨_, rfl, ?_⟩
 have n0_ := zb HB hb
 clear HB
 have HB := n0_
 clear n0_
 (try clear hb)
 (try clear hb2)
 (try clear hk)
 (try clear hi)
 refine hK.out _ _ ⟨(zc HB hw176_0), (zc HB hw176_1), (zc HB hw176_2), (zc HB hw176_3), (zc HB hw176_4), (zc HB hw177_0), (zc HB hw177_1), (zc HB hw177_2), (zc HB hw178_0), (zc HB hw178_1), (zc HB hw178_2), (zc HB hw180_0), (zc HB hw180_1), (zc HB hw180_2), (zc HB hw180_3), (zc HB hw180_4)⟩ (fun hHeld => ?_)
 clear hK K
 refine norm_ (a' := ?_) ?_ ?_
 rotate_left
 ·show Act.put _ (some 62) _ = _
  exact zap
 refine zpu 19 (some 63) (zq 31 1048575) HT_ ?_
 refine zpu 20 (some 64) (zq 31 2097151) HT_ ?_
 refine zpu 21 (some 65) (zq 31 4194303) HT_ ?_
 refine zpu 22 (some 66) (zq 31 8388607) HT_ ?_
 refine zpu 23 (some 67) (zq 31 16777215) HT_ ?_
 refine zpu 24 (some 68) (zq 31 33554431) HT_ ?_
 refine zpu 25 (some 69) (zq 31 67108863) HT_ ?_
 refine zpu 28 (some 72) (zq 31 335544319) HT_ ?_
 refine ztk 26 (some 70) (zq 31 402653183) HT_ HW_ rfl hHeld (Or.inl ⟨by rfl, by (rintro w' ⟨s0, s1, s2, s3, s4, s5, s6, s7, s8, s9, s10, s11, s12, s13, s14, s15⟩; go_simp; with_reducible rfl)⟩) ?_
 refine one_ (i := 27) (N := some 71) (zq 31 536870911) rfl rfl (one_of HT_.out (by kernel_rfl)) (by decide) (fun K hK => ?_)
 refine goes_ Try.func111 (by kernel_rfl) rfl #[.pointer (some adp0), .agg #[.int .i8 ((rd_T91 ((rd_T37 l0 0).f2) x3_2).f0.f0), .int .i8 ((rd_T91 ((rd_T37 l0 0).f2) x3_2).f0.f1)]] (by rfl) rfl rfl zm ?_
 with_reducible refine (spec_l01Find.calls k2 _ l0 ((rd_T91 ((rd_T37 l0 0).f2) x3_2).f0.f0) ((rd_T91 ((rd_T37 l0 0).f2) x3_2).f0.f1) t181 _ ?side1 A16.out).mono ?_
 (case side1 => exact zcc HB HR0.out)
 rintro e w21 ⟨rfl, hb⟩
 refine ⟨_, rfl, ?_⟩
 have n0_ := zb HB hb
 clear HB
 have HB := n0_
 clear n0_
 (try clear hb)
 (try clear hb2)
 (try clear hk)
 (try clear hi)
 refine hK.out _ _ ⟨(zc HB hw176_0), (zc HB hw176_1), (zc HB hw176_2), (zc HB hw176_3), (zc HB hw176_4), (zc HB hw177_0), (zc HB hw177_1), (zc HB hw177_2), (zc HB hw178_0), (zc HB hw178_1), (zc HB hw178_2), (zc HB hw180_0), (zc HB hw180_1), (zc HB hw180_2), (zc HB hw180_3), (zc HB hw180_4)⟩ (fun hHeld => ?_)
 clear hK K
 refine norm_ (a' := ?_) ?_ ?_
 rotate_left
 ·show Act.put _ (some 71) _ = _
  exact zap
 refine zpu 29 (some 73) (zq 31 1073741823) HT_ ?_
 refine zpu 30 (some 74) (zq 31 2147483647) HT_ ?_
 refine done_ (done_of HT_.out (by kernel_rfl)) ?_
 try go_wp2
 go_roundg k2
 case measure => have := HJ1.out; have := HK2.out; omega
 case rel => exact ⟨(wrap64 (x3_2 + 1)), zi, H', ⟨by have := HJ1.out; have := HK2.out; omega⟩, zl HB⟩
end Go.Proofs.Ytffnfpnajkgnaaa.PFnExactJoinBoards
