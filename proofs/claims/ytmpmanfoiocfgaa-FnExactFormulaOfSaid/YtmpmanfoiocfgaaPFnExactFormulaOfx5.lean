-- WRITTEN by xprint.py, a program of this session's. Not trusted: Lean checks it.
-- packed by pack.py
import Derived.Test.YtmpmanfoiocfgaaPFnExactFormulaOfx0
import Derived.Test.YtmpmanfoiocfgaaPFnExactFormulaOfx2
import Derived.Test.YtmpmanfoiocfgaaPFnExactFormulaOfx3
import Derived.Test.YtmpmanfoiocfgaaPFnExactFormulaOfx4
import Derived.Test.YtmpmanfoiocfgaaTFnExactFormulaOfa
namespace Go.Proofs.Ytmpmanfoiocfgaa.PFnExactFormulaOf
open Go.RowKit Go.Proofs.YtmpmanfoiocfgaaW.PrintWords Go.Proofs.YtmpmanfoiocfgaaW.PrintLast Go.Proofs.YtmpmanfoiocfgaaW.PrintMore Go.Proofs.YtmpmanfoiocfgaaX
attribute [local go_sem] max2_int min2_int max_two min_two max_three min_three max_four min_four   -- for this text's walks alone
set_option maxHeartbeats 8000000
set_option maxRecDepth 100000
set_option linter.unusedVariables false
set_option linter.unusedSimpArgs false

def spec_l04Formula.f : Nat → List (S31) → Int → Option (ByteArray)
  | 0, _, _ => none
  | k + 1, l0, a1 => if 0 < (l0.length : Int) then (if 0 ≤ a1 then (if a1 < (((rd_T31 l0 0).f1).length : Int) then (if ((rd_T81 ((rd_T31 l0 0).f1) a1).f0) = 0 then (some (strOfNums (([(IntKind.i16.wrap (97 + ((rd_T81 ((rd_T31 l0 0).f1) a1).f1))) % 256] : List Int)))) else (if ((rd_T81 ((rd_T31 l0 0).f1) a1).f0) = 1 then (some (⟨#[49]⟩ : ByteArray)) else (if ((rd_T81 ((rd_T31 l0 0).f1) a1).f0) = 2 then ((spec_l04Formula.f k l0 ((rd_T81 ((rd_T31 l0 0).f1) a1).f1)).bind fun t180 => (if 1 + t180.size ≤ 9223372036854775807 then (if 1 + t180.size + 1 ≤ 9223372036854775807 then ((spec_l04Formula.f k l0 ((rd_T81 ((rd_T31 l0 0).f1) a1).f2)).bind fun t181 => (if 1 + t180.size + 1 + t181.size ≤ 9223372036854775807 then (if 1 + t180.size + 1 + t181.size + 1 ≤ 9223372036854775807 then (some (((((⟨#[40]⟩ : ByteArray) ++ t180) ++ (⟨#[124]⟩ : ByteArray)) ++ t181) ++ (⟨#[41]⟩ : ByteArray))) else (none)) else (none))) else (none)) else (none))) else ((spec_l04Formula.f k l0 ((rd_T81 ((rd_T31 l0 0).f1) a1).f1)).bind fun t182 => (if 1 + t182.size ≤ 9223372036854775807 then (if 1 + t182.size + 1 ≤ 9223372036854775807 then ((spec_l04Formula.f k l0 ((rd_T81 ((rd_T31 l0 0).f1) a1).f2)).bind fun t183 => (if 1 + t182.size + 1 + t183.size ≤ 9223372036854775807 then (if 1 + t182.size + 1 + t183.size + 1 ≤ 9223372036854775807 then (some (((((⟨#[40]⟩ : ByteArray) ++ t182) ++ (⟨#[45]⟩ : ByteArray)) ++ t183) ++ (⟨#[41]⟩ : ByteArray))) else (none)) else (none))) else (none)) else (none)))))) else (none)) else (none)) else (none)
theorem spec_l04Formula.mono_l : ∀ k, (∀ y0 y1, LeO (spec_l04Formula.f k y0 y1) (spec_l04Formula.f (k + 1) y0 y1))
  | 0 => fun _ _ r h => by simp [spec_l04Formula.f] at h
  | k + 1 => by
    have ih0 := spec_l04Formula.mono_l k
    · intro y0 y1
      unfold spec_l04Formula.f
      repeat' first | (with_reducible first | apply ih0 | exact LeO.refl _ | exact LeO.none _ | refine LeO.ite ?_ ?_ | refine LeO.bind ?_ (fun _ => ?_)) | apply ih0 | exact LeO.none _ | refine LeO.ite ?_ ?_ | refine LeO.bind ?_ (fun _ => ?_)
theorem spec_l04Formula.mono : ∀ a0 a1 k, LeO (spec_l04Formula.f k a0 a1) (spec_l04Formula.f (k + 1) a0 a1) := by
 intro a0 a1 k
 have ih0 := spec_l04Formula.mono_l k
 exact ih0 a0 a1
def spec_l04Formula.T8 : Bool × List (List Nat × List Nat) := (true, [([], []), ([], []), ([1], [1]), ([0, 2], [0, 2]), ([3], [3]), ([4], [4]), ([], []), ([], []), ([7], [7]), ([6, 8, 3], [6, 8]), ([5, 9], [5, 9]), ([10], [10]), ([11, 9, 0, 1, 2, 3, 4, 5, 6, 7, 8, 9, 10, 11], [11])])
def spec_l04Formula.B8 : List Nat := [0, 0, 2, 7, 15, 31, 0, 0, 128, 463, 1023, 2047, 4095]
theorem spec_l04Formula.tab8 : rtab .any (opsOf Try.f89 8) = spec_l04Formula.T8 := by kernel_rfl
theorem spec_l04Formula.bits8 : waitsOk spec_l04Formula.T8.2 spec_l04Formula.B8 = true := by kernel_rfl
def spec_l04Formula.T9 : Bool × List (List Nat × List Nat) := (true, [([], []), ([], []), ([1], [1]), ([0, 2], [0, 2]), ([3], [3]), ([4], [4]), ([], []), ([], []), ([7], [7]), ([6, 8, 3], [6, 8]), ([5, 9], [5, 9]), ([10], [10]), ([11, 9, 0, 1, 2, 3, 4, 5, 6, 7, 8, 9, 10, 11], [11])])
def spec_l04Formula.B9 : List Nat := [0, 0, 2, 7, 15, 31, 0, 0, 128, 463, 1023, 2047, 4095]
theorem spec_l04Formula.tab9 : rtab .any (opsOf Try.f89 9) = spec_l04Formula.T9 := by kernel_rfl
theorem spec_l04Formula.bits9 : waitsOk spec_l04Formula.T9.2 spec_l04Formula.B9 = true := by kernel_rfl
theorem spec_l04Formula.calls (k : Nat) : ∀ (adp0 : Addr) (l0 : List (S31)) (a1 : Int) (r : ByteArray) (w : World) (hr0 : Kd.C k31 w (some adp0) l0.length l0) (h : spec_l04Formula.f k l0 a1 = some r),
    Calls Try.prog 89 #[.pointer (some adp0), .int .i16 a1] w fun e w' => e = .returned (.string r) ∧ Below w.heap.size w w' := by
 induction k using Nat.strongRecOn with
 | _ k ih =>
 intro adp0 l0 a1 r w hr0 h
 cases k with
 | zero => exact absurd h (by simp [spec_l04Formula.f])
 | succ k =>
 simp only [spec_l04Formula.f] at h
 have hu81 := Try.underlying81
 have HR0 := Aside0.mk hr0
 clear hr0
 have HB := Aside0.mk (Below.refl w.heap.size w)
 have H : (if 0 < (l0.length : Int) then (if 0 ≤ a1 then (if a1 < (((rd_T31 l0 0).f1).length : Int) then (if ((rd_T81 ((rd_T31 l0 0).f1) a1).f0) = 0 then (some (strOfNums (([(IntKind.i16.wrap (97 + ((rd_T81 ((rd_T31 l0 0).f1) a1).f1))) % 256] : List Int)))) else (if ((rd_T81 ((rd_T31 l0 0).f1) a1).f0) = 1 then (some (⟨#[49]⟩ : ByteArray)) else (if ((rd_T81 ((rd_T31 l0 0).f1) a1).f0) = 2 then ((spec_l04Formula.f k l0 ((rd_T81 ((rd_T31 l0 0).f1) a1).f1)).bind fun t180 => (if 1 + t180.size ≤ 9223372036854775807 then (if 1 + t180.size + 1 ≤ 9223372036854775807 then ((spec_l04Formula.f k l0 ((rd_T81 ((rd_T31 l0 0).f1) a1).f2)).bind fun t181 => (if 1 + t180.size + 1 + t181.size ≤ 9223372036854775807 then (if 1 + t180.size + 1 + t181.size + 1 ≤ 9223372036854775807 then (some (((((⟨#[40]⟩ : ByteArray) ++ t180) ++ (⟨#[124]⟩ : ByteArray)) ++ t181) ++ (⟨#[41]⟩ : ByteArray))) else (none)) else (none))) else (none)) else (none))) else ((spec_l04Formula.f k l0 ((rd_T81 ((rd_T31 l0 0).f1) a1).f1)).bind fun t182 => (if 1 + t182.size ≤ 9223372036854775807 then (if 1 + t182.size + 1 ≤ 9223372036854775807 then ((spec_l04Formula.f k l0 ((rd_T81 ((rd_T31 l0 0).f1) a1).f2)).bind fun t183 => (if 1 + t182.size + 1 + t183.size ≤ 9223372036854775807 then (if 1 + t182.size + 1 + t183.size + 1 ≤ 9223372036854775807 then (some (((((⟨#[40]⟩ : ByteArray) ++ t182) ++ (⟨#[45]⟩ : ByteArray)) ++ t183) ++ (⟨#[41]⟩ : ByteArray))) else (none)) else (none))) else (none)) else (none)))))) else (none)) else (none)) else (none)) = some r := h
 clear h
 by_cases c3 : 0 < (l0.length : Int)
 rotate_left
 ·rw [if_neg c3] at H
  exact absurd H (by simp)
 rw [if_pos c3] at H
 have c3b0 : decide (0 < (l0.length : Int)) = true := decide_eq_true c3
 have c3b1 : decide (0 < l0.length) = true := decide_eq_true (by omega)
 clear c3
 by_cases c4 : 0 ≤ a1
 rotate_left
 ·rw [if_neg c4] at H
  exact absurd H (by simp)
 rw [if_pos c4] at H
 have c4b0 : decide (0 ≤ a1) = true := decide_eq_true c4
 clear c4
 by_cases c5 : a1 < (((rd_T31 l0 0).f1).length : Int)
 rotate_left
 ·rw [if_neg c5] at H
  exact absurd H (by simp)
 rw [if_pos c5] at H
 have c5b0 : decide (a1 < (((rd_T31 l0 0).f1).length : Int)) = true := decide_eq_true c5
 clear c5
 by_cases c6 : ((rd_T81 ((rd_T31 l0 0).f1) a1).f0) = 0
 ·rw [if_pos c6] at H
  have c6b0 : (((rd_T81 ((rd_T31 l0 0).f1) a1).f0) == 0) = true := beq_iff_eq.mpr c6
  have c6b1 : (((rd_T81 ((rd_T31 l0 0).f1) a1).f0) != 0) = false := bne_eq_false_iff_eq.mpr c6
  clear c6
  obtain ⟨y177, hy177⟩ : ∃ y_ : List Int, y_ = (([(IntKind.i16.wrap (97 + ((rd_T81 ((rd_T31 l0 0).f1) a1).f1))) % 256] : List Int)) := ⟨_, rfl⟩
  replace H : (some (strOfNums y177)) = some r := by first | (rw [hy177]; with_reducible exact H) | (have H2_ := (Option.bind_some _ _).symm.trans H; rw [hy177]; with_reducible exact H2_) | (have H2_ := (Option.bind_some _ _).symm.trans H; with_reducible exact H2_) | with_reducible exact H | (rw [hy177]; exact H) | exact H
  have Ny177 := Aside0.mk hy177
  clear hy177
  obtain rfl := Option.some.inj H
  have p174 : 0 ≤ (0 : Int) := (by omega)
  have q174 : 0 < (l0.length : Int) := of_decide_eq_true zA
  obtain ⟨ad174, A174_1, c174_1, A174_2, c174_2, e174, hx174_0, hx174_1, hx174_2, hl174_1, hi174_1, hl174_2, hi174_2⟩ := at_T31 HR0.out 0 p174 q174
  obtain rfl : adp0 = ad174 := (by injection e174)
  have qi174 : (0 < l0.length) = True := eq_true (by omega)
  try simp only [z00, Nat.zero_mul, Addr.add_zero'] at hx174_0 hx174_1 hx174_2
  have HR174_1 := Aside0.mk hi174_1
  have HC174_1 := Aside0.mk hl174_1
  clear hi174_1 hl174_1
  have HR174_2 := Aside0.mk hi174_2
  have HC174_2 := Aside0.mk hl174_2
  clear hi174_2 hl174_2
  replace p174 := eq_true p174
  replace q174 := eq_true q174
  have p175 : 0 ≤ (a1 : Int) := of_decide_eq_true zA
  have q175 : a1 < (((rd_T31 l0 0).f1).length : Int) := of_decide_eq_true zA
  obtain ⟨ad175, e175, hx175_0, hx175_1, hx175_2⟩ := at_T81 HR174_1.out a1 p175 q175
  cases e175
  replace p175 := eq_true p175
  replace q175 := eq_true q175
  go_enter Try.func89, Try.ntmps89
  go_wp2_with (first | ((with_reducible refine gate_dst (N := 5) rfl ?_); refine zbx 5 #[.int .i8 0, .int .i16 0, .int .i16 0] 81 ?_; intro gb176 hg w7 hbox hb; have n_ : _ ∧ _ ∧ _ ∧ _ := ⟨zb HB hb, Aside0.mk (hbox), zg HB hg, zg HB hg⟩; clear HB; obtain ⟨HB, BK176, GW176, GE176⟩ := n_; clear hb hbox hg; obtain ⟨z8_0, z8_1, z8_2, y8_0, y8_1, y8_2⟩ := zB3 BK176) | ((with_reducible refine gate_dst (N := 21) rfl ?_); refine Kd.R_lit (Kd.int .u8) _ 5 ?hg (N := 21) ?hd (xs := ([(IntKind.i16.wrap (97 + ((rd_T81 ((rd_T31 l0 0).f1) a1).f1))) % 256] : List Int)) (inner := [.int .u8 ((IntKind.i16.wrap (97 + ((rd_T81 ((rd_T31 l0 0).f1) a1).f1))) % 256)]) (ok := fun _ => True) (okp := fun _ => True) ?hr ?hp (fun _ hk => hk) trivial (Below.refl _ _) (Nat.le_refl _) (by simp) ?_; (case hd => rfl); (case hg => rfl); (case hr => exact zgs); (case hp => exact (Reps.one (show Kd.M (Kd.int .u8) _ _ _ ((IntKind.i16.wrap (97 + ((rd_T81 ((rd_T31 l0 0).f1) a1).f1))) % 256) [.int .u8 ((IntKind.i16.wrap (97 + ((rd_T81 ((rd_T31 l0 0).f1) a1).f1))) % 256)] from rfl) (Reps.none _ _))); intro v178 w9 ho10 hb hg_ hnew_; clear hg_ hnew_; (first | rw [← Ny177.out] at ho10 | (simp only [Int.reduceToNat] at ho10; rw [← Ny177.out] at ho10)); have n_ : _ ∧ _ ∧ _ := ⟨Aside0.mk (Kd.R_lower ho10 (zz HB)), Aside0.mk (blk_below (g := gb176) (o := .cells #[.int .i8 ((rd_T81 ((rd_T31 l0 0).f1) a1).f0), .int .i16 ((rd_T81 ((rd_T31 l0 0).f1) a1).f1), .int .i16 ((rd_T81 ((rd_T31 l0 0).f1) a1).f2)] 81 (0, 0)) (zp BK176) hb), zbs hb⟩; clear BK176 HB; obtain ⟨HO179, BK176, HB⟩ := n_; clear hb ho10; have hcv11 := own_string (P := Try.prog) Try.underlying67 Try.underlying5 Try.underlying9 (Kd.own_of_R HO179.out)))
  go_ret
  exact ⟨zv, zbo⟩
 rw [if_neg c6] at H
 have c6b0 : (((rd_T81 ((rd_T31 l0 0).f1) a1).f0) == 0) = false := beq_eq_false_iff_ne.mpr c6
 have c6b1 : (((rd_T81 ((rd_T31 l0 0).f1) a1).f0) != 0) = true := bne_iff_ne.mpr c6
 by_cases c12 : ((rd_T81 ((rd_T31 l0 0).f1) a1).f0) = 1
 ·rw [if_pos c12] at H
  have c12b0 : (((rd_T81 ((rd_T31 l0 0).f1) a1).f0) == 1) = true := beq_iff_eq.mpr c12
  have c12b1 : (((rd_T81 ((rd_T31 l0 0).f1) a1).f0) != 1) = false := bne_eq_false_iff_eq.mpr c12
  clear c12
  obtain rfl := Option.some.inj H
  have p174 : 0 ≤ (0 : Int) := (by omega)
  have q174 : 0 < (l0.length : Int) := of_decide_eq_true zA
  obtain ⟨ad174, A174_1, c174_1, A174_2, c174_2, e174, hx174_0, hx174_1, hx174_2, hl174_1, hi174_1, hl174_2, hi174_2⟩ := at_T31 HR0.out 0 p174 q174
  obtain rfl : adp0 = ad174 := (by injection e174)
  have qi174 : (0 < l0.length) = True := eq_true (by omega)
  try simp only [z00, Nat.zero_mul, Addr.add_zero'] at hx174_0 hx174_1 hx174_2
  have HR174_1 := Aside0.mk hi174_1
  have HC174_1 := Aside0.mk hl174_1
  clear hi174_1 hl174_1
  have HR174_2 := Aside0.mk hi174_2
  have HC174_2 := Aside0.mk hl174_2
  clear hi174_2 hl174_2
  replace p174 := eq_true p174
  replace q174 := eq_true q174
  have p175 : 0 ≤ (a1 : Int) := of_decide_eq_true zA
  have q175 : a1 < (((rd_T31 l0 0).f1).length : Int) := of_decide_eq_true zA
  obtain ⟨ad175, e175, hx175_0, hx175_1, hx175_2⟩ := at_T81 HR174_1.out a1 p175 q175
  cases e175
  replace p175 := eq_true p175
  replace q175 := eq_true q175
  go_enter Try.func89, Try.ntmps89
  go_wp2_with (first | ((with_reducible refine gate_dst (N := 5) rfl ?_); refine zbx 5 #[.int .i8 0, .int .i16 0, .int .i16 0] 81 ?_; intro gb176 hg w13 hbox hb; have n_ : _ ∧ _ ∧ _ ∧ _ := ⟨zb HB hb, Aside0.mk (hbox), zg HB hg, zg HB hg⟩; clear HB; obtain ⟨HB, BK176, GW176, GE176⟩ := n_; clear hb hbox hg; obtain ⟨z14_0, z14_1, z14_2, y14_0, y14_1, y14_2⟩ := zB3 BK176))
  go_ret
  exact ⟨zv, zbo⟩
 rw [if_neg c12] at H
 have c12b0 : (((rd_T81 ((rd_T31 l0 0).f1) a1).f0) == 1) = false := beq_eq_false_iff_ne.mpr c12
 have c12b1 : (((rd_T81 ((rd_T31 l0 0).f1) a1).f0) != 1) = true := bne_iff_ne.mpr c12
 by_cases c15 : ((rd_T81 ((rd_T31 l0 0).f1) a1).f0) = 2
 rotate_left
 ·rw [if_neg c15] at H
  have c15b0 : (((rd_T81 ((rd_T31 l0 0).f1) a1).f0) == 2) = false := beq_eq_false_iff_ne.mpr c15
  have c15b1 : (((rd_T81 ((rd_T31 l0 0).f1) a1).f0) != 2) = true := bne_iff_ne.mpr c15
  replace H := zob H
  obtain ⟨t182, A280, H⟩ := H
  replace H : (if 1 + t182.size ≤ 9223372036854775807 then (if 1 + t182.size + 1 ≤ 9223372036854775807 then ((spec_l04Formula.f k l0 ((rd_T81 ((rd_T31 l0 0).f1) a1).f2)).bind fun t183 => (if 1 + t182.size + 1 + t183.size ≤ 9223372036854775807 then (if 1 + t182.size + 1 + t183.size + 1 ≤ 9223372036854775807 then (some (((((⟨#[40]⟩ : ByteArray) ++ t182) ++ (⟨#[45]⟩ : ByteArray)) ++ t183) ++ (⟨#[41]⟩ : ByteArray))) else (none)) else (none))) else (none)) else (none)) = some r := H
  have A28 := Aside0.mk A280
  clear A280
  by_cases c29 : 1 + t182.size ≤ 9223372036854775807
  rotate_left
  ·rw [if_neg c29] at H
   exact absurd H (by simp)
  rw [if_pos c29] at H
  have c29b0 := eq_true c29
  have c29b1 : decide (1 + t182.size ≤ 9223372036854775807) = true := decide_eq_true c29
  try have c29b2 : (9223372036854775807 < 1 + t182.size) = False := eq_false (Nat.not_lt.2 c29)
  by_cases c30 : 1 + t182.size + 1 ≤ 9223372036854775807
  rotate_left
  ·rw [if_neg c30] at H
   exact absurd H (by simp)
  rw [if_pos c30] at H
  have c30b0 := eq_true c30
  have c30b1 : decide (1 + t182.size + 1 ≤ 9223372036854775807) = true := decide_eq_true c30
  try have c30b2 : (9223372036854775807 < 1 + t182.size + 1) = False := eq_false (Nat.not_lt.2 c30)
  replace H := zob H
  obtain ⟨t183, A310, H⟩ := H
  replace H : (if 1 + t182.size + 1 + t183.size ≤ 9223372036854775807 then (if 1 + t182.size + 1 + t183.size + 1 ≤ 9223372036854775807 then (some (((((⟨#[40]⟩ : ByteArray) ++ t182) ++ (⟨#[45]⟩ : ByteArray)) ++ t183) ++ (⟨#[41]⟩ : ByteArray))) else (none)) else (none)) = some r := H
  have A31 := Aside0.mk A310
  clear A310
  by_cases c32 : 1 + t182.size + 1 + t183.size ≤ 9223372036854775807
  rotate_left
  ·rw [if_neg c32] at H
   exact absurd H (by simp)
  rw [if_pos c32] at H
  have c32b0 := eq_true c32
  have c32b1 : decide (1 + t182.size + 1 + t183.size ≤ 9223372036854775807) = true := decide_eq_true c32
  try have c32b2 : (9223372036854775807 < 1 + t182.size + 1 + t183.size) = False := eq_false (Nat.not_lt.2 c32)
  by_cases c33 : 1 + t182.size + 1 + t183.size + 1 ≤ 9223372036854775807
  rotate_left
  ·rw [if_neg c33] at H
   exact absurd H (by simp)
  rw [if_pos c33] at H
  have c33b0 := eq_true c33
  have c33b1 : decide (1 + t182.size + 1 + t183.size + 1 ≤ 9223372036854775807) = true := decide_eq_true c33
  try have c33b2 : (9223372036854775807 < 1 + t182.size + 1 + t183.size + 1) = False := eq_false (Nat.not_lt.2 c33)
  obtain rfl := Option.some.inj H
  have p174 : 0 ≤ (0 : Int) := (by omega)
  have q174 : 0 < (l0.length : Int) := of_decide_eq_true zA
  obtain ⟨ad174, A174_1, c174_1, A174_2, c174_2, e174, hx174_0, hx174_1, hx174_2, hl174_1, hi174_1, hl174_2, hi174_2⟩ := at_T31 HR0.out 0 p174 q174
  obtain rfl : adp0 = ad174 := (by injection e174)
  have qi174 : (0 < l0.length) = True := eq_true (by omega)
  try simp only [z00, Nat.zero_mul, Addr.add_zero'] at hx174_0 hx174_1 hx174_2
  have HR174_1 := Aside0.mk hi174_1
  have HC174_1 := Aside0.mk hl174_1
  clear hi174_1 hl174_1
  have HR174_2 := Aside0.mk hi174_2
  have HC174_2 := Aside0.mk hl174_2
  clear hi174_2 hl174_2
  replace p174 := eq_true p174
  replace q174 := eq_true q174
  have p175 : 0 ≤ (a1 : Int) := of_decide_eq_true zA
  have q175 : a1 < (((rd_T31 l0 0).f1).length : Int) := of_decide_eq_true zA
  obtain ⟨ad175, e175, hx175_0, hx175_1, hx175_2⟩ := at_T81 HR174_1.out a1 p175 q175
  cases e175
  replace p175 := eq_true p175
  replace q175 := eq_true q175
  go_enter Try.func89, Try.ntmps89
  try go_wp2_with (first | ((with_reducible refine gate_dst (N := 5) rfl ?_); refine zbx 5 #[.int .i8 0, .int .i16 0, .int .i16 0] 81 ?_; intro gb176 hg w34 hbox hb; have n_ : _ ∧ _ ∧ _ ∧ _ := ⟨zb HB hb, Aside0.mk (hbox), zg HB hg, zg HB hg⟩; clear HB; obtain ⟨HB, BK176, GW176, GE176⟩ := n_; clear hb hbox hg; obtain ⟨z35_0, z35_1, z35_2, y35_0, y35_1, y35_2⟩ := zB3 BK176))
  have n0_ : Aside0 ((((w34.setCell ⟨gb176, 0, none⟩ (.int .i8 ((rd_T81 ((rd_T31 l0 0).f1) a1).f0))).setCell ⟨gb176, 1, none⟩ (.int .i16 ((rd_T81 ((rd_T31 l0 0).f1) a1).f1))).setCell ⟨gb176, 2, none⟩ (.int .i16 ((rd_T81 ((rd_T31 l0 0).f1) a1).f2))).heap[gb176]? = some (.cells #[.int .i8 ((rd_T81 ((rd_T31 l0 0).f1) a1).f0), .int .i16 ((rd_T81 ((rd_T31 l0 0).f1) a1).f1), .int .i16 ((rd_T81 ((rd_T31 l0 0).f1) a1).f2)] 81 (0, 0))) := ⟨zp BK176⟩
  have n1_ : Aside0 (Below w.heap.size w (((w34.setCell ⟨gb176, 0, none⟩ (.int .i8 ((rd_T81 ((rd_T31 l0 0).f1) a1).f0))).setCell ⟨gb176, 1, none⟩ (.int .i16 ((rd_T81 ((rd_T31 l0 0).f1) a1).f1))).setCell ⟨gb176, 2, none⟩ (.int .i16 ((rd_T81 ((rd_T31 l0 0).f1) a1).f2)))) := zba
  (try clear BK176)
  (try clear HB)
  generalize (((w34.setCell ⟨gb176, 0, none⟩ (.int .i8 ((rd_T81 ((rd_T31 l0 0).f1) a1).f0))).setCell ⟨gb176, 1, none⟩ (.int .i16 ((rd_T81 ((rd_T31 l0 0).f1) a1).f1))).setCell ⟨gb176, 2, none⟩ (.int .i16 ((rd_T81 ((rd_T31 l0 0).f1) a1).f2))) = w36 at n0_ n1_ ⊢
  have BK176 := n0_
  have HB := n1_
  clear n0_ n1_
  have n_ : _ ∧ _ := ⟨Aside0.mk (blk_drew BK176.out), Aside0.mk (below_drew1 HB.out)⟩
  clear BK176 HB
  obtain ⟨BK176, HB⟩ := n_
  refine start_ (n := 13) (S := fun w' => w'.cell? ⟨gb176, 0, none⟩ = some (.int .i8 ((rd_T81 ((rd_T31 l0 0).f1) a1).f0)) ∧ w'.cell? ⟨gb176, 1, none⟩ = some (.int .i16 ((rd_T81 ((rd_T31 l0 0).f1) a1).f1)) ∧ w'.cell? ⟨gb176, 2, none⟩ = some (.int .i16 ((rd_T81 ((rd_T31 l0 0).f1) a1).f2))) (ds := []) (zq 13 0) (by kernel_rfl) rfl rfl ⟨(blk_cell BK176.out 0).trans rfl, (blk_cell BK176.out 1).trans rfl, (blk_cell BK176.out 2).trans rfl⟩ (fun hHeld => ?_); refine with_tabW spec_l04Formula.tab9 spec_l04Formula.bits9 (fun HT_ HW_ => ?_)
  generalize w36.drew = w37 at BK176 HB hHeld ⊢
  refine zpu 0 (some 39) (zq 13 1) HT_ ?_
  refine zpu 1 (some 40) (zq 13 3) HT_ ?_
  refine zpu 6 (some 45) (zq 13 67) HT_ ?_
  refine zpu 7 (some 46) (zq 13 195) HT_ ?_
  refine ztk 2 (some 41) (zq 13 199) HT_ HW_ rfl hHeld (Or.inl ⟨by rfl, by (rintro w' ⟨s0, s1, s2⟩; go_simp; with_reducible rfl)⟩) ?_
  refine ztk 8 (some 47) (zq 13 455) HT_ HW_ rfl hHeld (Or.inl ⟨by rfl, by (rintro w' ⟨s0, s1, s2⟩; go_simp; with_reducible rfl)⟩) ?_
  refine one_ (i := 3) (N := some 42) (zq 13 463) rfl rfl (one_of HT_.out (by kernel_rfl)) (by decide) (fun K hK => ?_)
  refine goes_ Try.func89 (by kernel_rfl) rfl #[.pointer (some adp0), .int .i16 ((rd_T81 ((rd_T31 l0 0).f1) a1).f1)] (by rfl) rfl rfl zm ?_
  with_reducible refine (ih k (by omega) _ l0 ((rd_T81 ((rd_T31 l0 0).f1) a1).f1) t182 _ ?side1 A28.out).mono ?_
  (case side1 => exact zcc HB HR0.out)
  rintro e w38 ⟨rfl, hb⟩
  refine ⟨_, rfl, ?_⟩
  have n_ : _ ∧ _ := ⟨Aside0.mk (blk_below (g := gb176) (o := .cells #[.int .i8 ((rd_T81 ((rd_T31 l0 0).f1) a1).f0), .int .i16 ((rd_T81 ((rd_T31 l0 0).f1) a1).f1), .int .i16 ((rd_T81 ((rd_T31 l0 0).f1) a1).f2)] 81 (0, 0)) (zh BK176).out hb), zbs hb⟩
  clear BK176 HB
  obtain ⟨BK176, HB⟩ := n_
  (try clear hb)
  (try clear hb2)
  (try clear hk)
  (try clear hi)
  refine hK.out _ _ ⟨(blk_cell BK176.out 0).trans rfl, (blk_cell BK176.out 1).trans rfl, (blk_cell BK176.out 2).trans rfl⟩ (fun hHeld => ?_)
  clear hK K
  refine norm_ (a' := ?_) ?_ ?_
  rotate_left
  ·show Act.put _ (some 42) _ = _
   exact zap
  refine zpu 4 (some 43) (zq 13 479) HT_ ?_
  refine zpu 5 (some 44) (zq 13 511) HT_ ?_
  refine one_ (i := 9) (N := some 48) (zq 13 1023) rfl rfl (one_of HT_.out (by kernel_rfl)) (by decide) (fun K hK => ?_)
  refine goes_ Try.func89 (by kernel_rfl) rfl #[.pointer (some adp0), .int .i16 ((rd_T81 ((rd_T31 l0 0).f1) a1).f2)] (by rfl) rfl rfl zm ?_
  with_reducible refine (ih k (by omega) _ l0 ((rd_T81 ((rd_T31 l0 0).f1) a1).f2) t183 _ ?side1 A31.out).mono ?_
  (case side1 => exact zcc HB HR0.out)
  rintro e w39 ⟨rfl, hb⟩
  refine ⟨_, rfl, ?_⟩
  have n_ : _ ∧ _ := ⟨Aside0.mk (blk_below (g := gb176) (o := .cells #[.int .i8 ((rd_T81 ((rd_T31 l0 0).f1) a1).f0), .int .i16 ((rd_T81 ((rd_T31 l0 0).f1) a1).f1), .int .i16 ((rd_T81 ((rd_T31 l0 0).f1) a1).f2)] 81 (0, 0)) (zh BK176).out hb), zbs hb⟩
  clear BK176 HB
  obtain ⟨BK176, HB⟩ := n_
  (try clear hb)
  (try clear hb2)
  (try clear hk)
  (try clear hi)
  refine hK.out _ _ ⟨(blk_cell BK176.out 0).trans rfl, (blk_cell BK176.out 1).trans rfl, (blk_cell BK176.out 2).trans rfl⟩ (fun hHeld => ?_)
  clear hK K
  refine norm_ (a' := ?_) ?_ ?_
  rotate_left
  ·show Act.put _ (some 48) _ = _
   exact zap
  refine zpu 10 (some 49) (zq 13 2047) HT_ ?_
  refine zpu 11 (some 50) (zq 13 4095) HT_ ?_
  refine zpu 12 (some 4) (zq 13 8191) HT_ ?_
  refine done_ (done_of HT_.out (by kernel_rfl)) ?_
  try go_wp2
  go_ret
  exact ⟨zv, zbo⟩
 rw [if_pos c15] at H
 have c15b0 : (((rd_T81 ((rd_T31 l0 0).f1) a1).f0) == 2) = true := beq_iff_eq.mpr c15
 have c15b1 : (((rd_T81 ((rd_T31 l0 0).f1) a1).f0) != 2) = false := bne_eq_false_iff_eq.mpr c15
 clear c15
 replace H := zob H
 obtain ⟨t180, A160, H⟩ := H
 replace H : (if 1 + t180.size ≤ 9223372036854775807 then (if 1 + t180.size + 1 ≤ 9223372036854775807 then ((spec_l04Formula.f k l0 ((rd_T81 ((rd_T31 l0 0).f1) a1).f2)).bind fun t181 => (if 1 + t180.size + 1 + t181.size ≤ 9223372036854775807 then (if 1 + t180.size + 1 + t181.size + 1 ≤ 9223372036854775807 then (some (((((⟨#[40]⟩ : ByteArray) ++ t180) ++ (⟨#[124]⟩ : ByteArray)) ++ t181) ++ (⟨#[41]⟩ : ByteArray))) else (none)) else (none))) else (none)) else (none)) = some r := H
 have A16 := Aside0.mk A160
 clear A160
 by_cases c17 : 1 + t180.size ≤ 9223372036854775807
 rotate_left
 ·rw [if_neg c17] at H
  exact absurd H (by simp)
 rw [if_pos c17] at H
 have c17b0 := eq_true c17
 have c17b1 : decide (1 + t180.size ≤ 9223372036854775807) = true := decide_eq_true c17
 try have c17b2 : (9223372036854775807 < 1 + t180.size) = False := eq_false (Nat.not_lt.2 c17)
 by_cases c18 : 1 + t180.size + 1 ≤ 9223372036854775807
 rotate_left
 ·rw [if_neg c18] at H
  exact absurd H (by simp)
 rw [if_pos c18] at H
 have c18b0 := eq_true c18
 have c18b1 : decide (1 + t180.size + 1 ≤ 9223372036854775807) = true := decide_eq_true c18
 try have c18b2 : (9223372036854775807 < 1 + t180.size + 1) = False := eq_false (Nat.not_lt.2 c18)
 replace H := zob H
 obtain ⟨t181, A190, H⟩ := H
 replace H : (if 1 + t180.size + 1 + t181.size ≤ 9223372036854775807 then (if 1 + t180.size + 1 + t181.size + 1 ≤ 9223372036854775807 then (some (((((⟨#[40]⟩ : ByteArray) ++ t180) ++ (⟨#[124]⟩ : ByteArray)) ++ t181) ++ (⟨#[41]⟩ : ByteArray))) else (none)) else (none)) = some r := H
 have A19 := Aside0.mk A190
 clear A190
 by_cases c20 : 1 + t180.size + 1 + t181.size ≤ 9223372036854775807
 rotate_left
 ·rw [if_neg c20] at H
  exact absurd H (by simp)
 rw [if_pos c20] at H
 have c20b0 := eq_true c20
 have c20b1 : decide (1 + t180.size + 1 + t181.size ≤ 9223372036854775807) = true := decide_eq_true c20
 try have c20b2 : (9223372036854775807 < 1 + t180.size + 1 + t181.size) = False := eq_false (Nat.not_lt.2 c20)
 by_cases c21 : 1 + t180.size + 1 + t181.size + 1 ≤ 9223372036854775807
 rotate_left
 ·rw [if_neg c21] at H
  exact absurd H (by simp)
 rw [if_pos c21] at H
 have c21b0 := eq_true c21
 have c21b1 : decide (1 + t180.size + 1 + t181.size + 1 ≤ 9223372036854775807) = true := decide_eq_true c21
 try have c21b2 : (9223372036854775807 < 1 + t180.size + 1 + t181.size + 1) = False := eq_false (Nat.not_lt.2 c21)
 obtain rfl := Option.some.inj H
 have p174 : 0 ≤ (0 : Int) := (by omega)
 have q174 : 0 < (l0.length : Int) := of_decide_eq_true zA
 obtain ⟨ad174, A174_1, c174_1, A174_2, c174_2, e174, hx174_0, hx174_1, hx174_2, hl174_1, hi174_1, hl174_2, hi174_2⟩ := at_T31 HR0.out 0 p174 q174
 obtain rfl : adp0 = ad174 := (by injection e174)
 have qi174 : (0 < l0.length) = True := eq_true (by omega)
 try simp only [z00, Nat.zero_mul, Addr.add_zero'] at hx174_0 hx174_1 hx174_2
 have HR174_1 := Aside0.mk hi174_1
 have HC174_1 := Aside0.mk hl174_1
 clear hi174_1 hl174_1
 have HR174_2 := Aside0.mk hi174_2
 have HC174_2 := Aside0.mk hl174_2
 clear hi174_2 hl174_2
 replace p174 := eq_true p174
 replace q174 := eq_true q174
 have p175 : 0 ≤ (a1 : Int) := of_decide_eq_true zA
 have q175 : a1 < (((rd_T31 l0 0).f1).length : Int) := of_decide_eq_true zA
 obtain ⟨ad175, e175, hx175_0, hx175_1, hx175_2⟩ := at_T81 HR174_1.out a1 p175 q175
 cases e175
 replace p175 := eq_true p175
 replace q175 := eq_true q175
 go_enter Try.func89, Try.ntmps89
 try go_wp2_with (first | ((with_reducible refine gate_dst (N := 5) rfl ?_); refine zbx 5 #[.int .i8 0, .int .i16 0, .int .i16 0] 81 ?_; intro gb176 hg w22 hbox hb; have n_ : _ ∧ _ ∧ _ ∧ _ := ⟨zb HB hb, Aside0.mk (hbox), zg HB hg, zg HB hg⟩; clear HB; obtain ⟨HB, BK176, GW176, GE176⟩ := n_; clear hb hbox hg; obtain ⟨z23_0, z23_1, z23_2, y23_0, y23_1, y23_2⟩ := zB3 BK176))
 have n0_ : Aside0 ((((w22.setCell ⟨gb176, 0, none⟩ (.int .i8 ((rd_T81 ((rd_T31 l0 0).f1) a1).f0))).setCell ⟨gb176, 1, none⟩ (.int .i16 ((rd_T81 ((rd_T31 l0 0).f1) a1).f1))).setCell ⟨gb176, 2, none⟩ (.int .i16 ((rd_T81 ((rd_T31 l0 0).f1) a1).f2))).heap[gb176]? = some (.cells #[.int .i8 ((rd_T81 ((rd_T31 l0 0).f1) a1).f0), .int .i16 ((rd_T81 ((rd_T31 l0 0).f1) a1).f1), .int .i16 ((rd_T81 ((rd_T31 l0 0).f1) a1).f2)] 81 (0, 0))) := ⟨zp BK176⟩
 have n1_ : Aside0 (Below w.heap.size w (((w22.setCell ⟨gb176, 0, none⟩ (.int .i8 ((rd_T81 ((rd_T31 l0 0).f1) a1).f0))).setCell ⟨gb176, 1, none⟩ (.int .i16 ((rd_T81 ((rd_T31 l0 0).f1) a1).f1))).setCell ⟨gb176, 2, none⟩ (.int .i16 ((rd_T81 ((rd_T31 l0 0).f1) a1).f2)))) := zba
 (try clear BK176)
 (try clear HB)
 generalize (((w22.setCell ⟨gb176, 0, none⟩ (.int .i8 ((rd_T81 ((rd_T31 l0 0).f1) a1).f0))).setCell ⟨gb176, 1, none⟩ (.int .i16 ((rd_T81 ((rd_T31 l0 0).f1) a1).f1))).setCell ⟨gb176, 2, none⟩ (.int .i16 ((rd_T81 ((rd_T31 l0 0).f1) a1).f2))) = w24 at n0_ n1_ ⊢
 have BK176 := n0_
 have HB := n1_
 clear n0_ n1_
 have n_ : _ ∧ _ := ⟨Aside0.mk (blk_drew BK176.out), Aside0.mk (below_drew1 HB.out)⟩
 clear BK176 HB
 obtain ⟨BK176, HB⟩ := n_
 refine start_ (n := 13) (S := fun w' => w'.cell? ⟨gb176, 0, none⟩ = some (.int .i8 ((rd_T81 ((rd_T31 l0 0).f1) a1).f0)) ∧ w'.cell? ⟨gb176, 1, none⟩ = some (.int .i16 ((rd_T81 ((rd_T31 l0 0).f1) a1).f1)) ∧ w'.cell? ⟨gb176, 2, none⟩ = some (.int .i16 ((rd_T81 ((rd_T31 l0 0).f1) a1).f2))) (ds := []) (zq 13 0) (by kernel_rfl) rfl rfl ⟨(blk_cell BK176.out 0).trans rfl, (blk_cell BK176.out 1).trans rfl, (blk_cell BK176.out 2).trans rfl⟩ (fun hHeld => ?_); refine with_tabW spec_l04Formula.tab8 spec_l04Formula.bits8 (fun HT_ HW_ => ?_)
 generalize w24.drew = w25 at BK176 HB hHeld ⊢
 refine zpu 0 (some 27) (zq 13 1) HT_ ?_
 refine zpu 1 (some 28) (zq 13 3) HT_ ?_
 refine zpu 6 (some 33) (zq 13 67) HT_ ?_
 refine zpu 7 (some 34) (zq 13 195) HT_ ?_
 refine ztk 2 (some 29) (zq 13 199) HT_ HW_ rfl hHeld (Or.inl ⟨by rfl, by (rintro w' ⟨s0, s1, s2⟩; go_simp; with_reducible rfl)⟩) ?_
 refine ztk 8 (some 35) (zq 13 455) HT_ HW_ rfl hHeld (Or.inl ⟨by rfl, by (rintro w' ⟨s0, s1, s2⟩; go_simp; with_reducible rfl)⟩) ?_
 refine one_ (i := 3) (N := some 30) (zq 13 463) rfl rfl (one_of HT_.out (by kernel_rfl)) (by decide) (fun K hK => ?_)
 refine goes_ Try.func89 (by kernel_rfl) rfl #[.pointer (some adp0), .int .i16 ((rd_T81 ((rd_T31 l0 0).f1) a1).f1)] (by rfl) rfl rfl zm ?_
 with_reducible refine (ih k (by omega) _ l0 ((rd_T81 ((rd_T31 l0 0).f1) a1).f1) t180 _ ?side1 A16.out).mono ?_
 (case side1 => exact zcc HB HR0.out)
 rintro e w26 ⟨rfl, hb⟩
 refine ⟨_, rfl, ?_⟩
 have n_ : _ ∧ _ := ⟨Aside0.mk (blk_below (g := gb176) (o := .cells #[.int .i8 ((rd_T81 ((rd_T31 l0 0).f1) a1).f0), .int .i16 ((rd_T81 ((rd_T31 l0 0).f1) a1).f1), .int .i16 ((rd_T81 ((rd_T31 l0 0).f1) a1).f2)] 81 (0, 0)) (zh BK176).out hb), zbs hb⟩
 clear BK176 HB
 obtain ⟨BK176, HB⟩ := n_
 (try clear hb)
 (try clear hb2)
 (try clear hk)
 (try clear hi)
 refine hK.out _ _ ⟨(blk_cell BK176.out 0).trans rfl, (blk_cell BK176.out 1).trans rfl, (blk_cell BK176.out 2).trans rfl⟩ (fun hHeld => ?_)
 clear hK K
 refine norm_ (a' := ?_) ?_ ?_
 rotate_left
 ·show Act.put _ (some 30) _ = _
  exact zap
 refine zpu 4 (some 31) (zq 13 479) HT_ ?_
 refine zpu 5 (some 32) (zq 13 511) HT_ ?_
 refine one_ (i := 9) (N := some 36) (zq 13 1023) rfl rfl (one_of HT_.out (by kernel_rfl)) (by decide) (fun K hK => ?_)
 refine goes_ Try.func89 (by kernel_rfl) rfl #[.pointer (some adp0), .int .i16 ((rd_T81 ((rd_T31 l0 0).f1) a1).f2)] (by rfl) rfl rfl zm ?_
 with_reducible refine (ih k (by omega) _ l0 ((rd_T81 ((rd_T31 l0 0).f1) a1).f2) t181 _ ?side1 A19.out).mono ?_
 (case side1 => exact zcc HB HR0.out)
 rintro e w27 ⟨rfl, hb⟩
 refine ⟨_, rfl, ?_⟩
 have n_ : _ ∧ _ := ⟨Aside0.mk (blk_below (g := gb176) (o := .cells #[.int .i8 ((rd_T81 ((rd_T31 l0 0).f1) a1).f0), .int .i16 ((rd_T81 ((rd_T31 l0 0).f1) a1).f1), .int .i16 ((rd_T81 ((rd_T31 l0 0).f1) a1).f2)] 81 (0, 0)) (zh BK176).out hb), zbs hb⟩
 clear BK176 HB
 obtain ⟨BK176, HB⟩ := n_
 (try clear hb)
 (try clear hb2)
 (try clear hk)
 (try clear hi)
 refine hK.out _ _ ⟨(blk_cell BK176.out 0).trans rfl, (blk_cell BK176.out 1).trans rfl, (blk_cell BK176.out 2).trans rfl⟩ (fun hHeld => ?_)
 clear hK K
 refine norm_ (a' := ?_) ?_ ?_
 rotate_left
 ·show Act.put _ (some 36) _ = _
  exact zap
 refine zpu 10 (some 37) (zq 13 2047) HT_ ?_
 refine zpu 11 (some 38) (zq 13 4095) HT_ ?_
 refine zpu 12 (some 4) (zq 13 8191) HT_ ?_
 refine done_ (done_of HT_.out (by kernel_rfl)) ?_
 try go_wp2
 go_ret
 exact ⟨zv, zbo⟩
def spec_FormulaOf.f (k : Nat) (a0_0 : Int) (l0_1 : List (S81)) (l0_2 : List Int) (a1 : Int) : Option (ByteArray × Int) := (spec_l04Ok.f k [(⟨a0_0, l0_1, l0_2⟩ : S31)]).bind fun t185 => (if t185 = true then ((spec_l00In.f a1 0 (wrap64 ((l0_2.length : Int) - 1))).bind fun t186 => (if t186 = true then ((spec_l04Long.f k [(⟨a0_0, l0_1, l0_2⟩ : S31)]).bind fun t187 => (if 0 ≤ a1 then (if a1 < (l0_2.length : Int) then (if 0 ≤ (rd l0_2 a1) then (if (rd l0_2 a1) < (t187.length : Int) then (if (rd t187 (rd l0_2 a1)) > 200 then (some ((⟨#[]⟩ : ByteArray), 3)) else ((spec_l04Formula.f k [(⟨a0_0, l0_1, l0_2⟩ : S31)] (rd l0_2 a1)).bind fun t193 => (some (t193, 0)))) else (none)) else (none)) else (none)) else (none))) else (some ((⟨#[]⟩ : ByteArray), 2)))) else (some ((⟨#[]⟩ : ByteArray), 1)))
theorem spec_FormulaOf.mono : ∀ a0 a1 a2 a3 k, LeO (spec_FormulaOf.f k a0 a1 a2 a3) (spec_FormulaOf.f (k + 1) a0 a1 a2 a3) := by
 intro a0 a1 a2 a3 k
 unfold spec_FormulaOf.f
 repeat' first | (with_reducible first | apply spec_l04Formula.mono | apply spec_l04Long.mono | apply spec_l04Ok.mono | exact LeO.refl _ | exact LeO.none _ | refine LeO.ite ?_ ?_ | refine LeO.bind ?_ (fun _ => ?_)) | apply spec_l04Formula.mono | apply spec_l04Long.mono | apply spec_l04Ok.mono | exact LeO.none _ | refine LeO.ite ?_ ?_ | refine LeO.bind ?_ (fun _ => ?_)
theorem spec_FormulaOf.calls (k : Nat) (a0_0 : Int) (A0_1 : Option Addr) (c0_1 : Nat) (l0_1 : List (S81)) (A0_2 : Option Addr) (c0_2 : Nat) (l0_2 : List Int) (a1 : Int) (r1 : ByteArray) (r2 : Int) (w : World) (hr0_1 : Kd.C k81 w A0_1 l0_1.length l0_1) (hc0_1 : l0_1.length ≤ c0_1) (hr0_2 : Kd.C (Kd.int .i16) w A0_2 l0_2.length l0_2) (hc0_2 : l0_2.length ≤ c0_2) (h : spec_FormulaOf.f k a0_0 l0_1 l0_2 a1 = some (r1, r2)) :
    Calls Try.prog 35 #[.agg #[.int .i8 a0_0, .slice A0_1 l0_1.length c0_1, .slice A0_2 l0_2.length c0_2], .int .i64 a1] w fun e w' => e = .returned (.tuple #[.string r1, .int .i64 r2]) ∧ Below w.heap.size w w' := by
 have hu31 := Try.underlying31
 have HR0_1 := Aside0.mk hr0_1
 have HC0_1 := Aside0.mk hc0_1
 clear hr0_1 hc0_1
 have HR0_2 := Aside0.mk hr0_2
 have HC0_2 := Aside0.mk hc0_2
 clear hr0_2 hc0_2
 have HB := Aside0.mk (Below.refl w.heap.size w)
 have H : ((spec_l04Ok.f k [(⟨a0_0, l0_1, l0_2⟩ : S31)]).bind fun t185 => (if t185 = true then ((spec_l00In.f a1 0 (wrap64 ((l0_2.length : Int) - 1))).bind fun t186 => (if t186 = true then ((spec_l04Long.f k [(⟨a0_0, l0_1, l0_2⟩ : S31)]).bind fun t187 => (if 0 ≤ a1 then (if a1 < (l0_2.length : Int) then (if 0 ≤ (rd l0_2 a1) then (if (rd l0_2 a1) < (t187.length : Int) then (if (rd t187 (rd l0_2 a1)) > 200 then (some ((⟨#[]⟩ : ByteArray), 3)) else ((spec_l04Formula.f k [(⟨a0_0, l0_1, l0_2⟩ : S31)] (rd l0_2 a1)).bind fun t193 => (some (t193, 0)))) else (none)) else (none)) else (none)) else (none))) else (some ((⟨#[]⟩ : ByteArray), 2)))) else (some ((⟨#[]⟩ : ByteArray), 1)))) = some (r1, r2) := h
 clear h
 replace H := zob H
 obtain ⟨t185, A30, H⟩ := H
 replace H : (if t185 = true then ((spec_l00In.f a1 0 (wrap64 ((l0_2.length : Int) - 1))).bind fun t186 => (if t186 = true then ((spec_l04Long.f k [(⟨a0_0, l0_1, l0_2⟩ : S31)]).bind fun t187 => (if 0 ≤ a1 then (if a1 < (l0_2.length : Int) then (if 0 ≤ (rd l0_2 a1) then (if (rd l0_2 a1) < (t187.length : Int) then (if (rd t187 (rd l0_2 a1)) > 200 then (some ((⟨#[]⟩ : ByteArray), 3)) else ((spec_l04Formula.f k [(⟨a0_0, l0_1, l0_2⟩ : S31)] (rd l0_2 a1)).bind fun t193 => (some (t193, 0)))) else (none)) else (none)) else (none)) else (none))) else (some ((⟨#[]⟩ : ByteArray), 2)))) else (some ((⟨#[]⟩ : ByteArray), 1))) = some (r1, r2) := H
 have A3 := Aside0.mk A30
 clear A30
 by_cases c4 : t185 = true
 rotate_left
 ·replace c4 := Bool.eq_false_iff.mpr c4
  subst c4
  have H1 : (some ((⟨#[]⟩ : ByteArray), 1)) = some (r1, r2) := by rw [if_neg (show ¬ (false = true) by decide)] at H; exact H
  clear H
  have H := H1
  clear H1
  simp only [Option.some.injEq, Prod.mk.injEq] at H
  obtain ⟨rfl, rfl⟩ := H
  go_enter Try.func35, Try.ntmps35
  go_wp2_with (first | ((with_reducible refine gate_dst (N := 2) rfl ?_); refine zbx 2 #[.int .i8 a0_0, .slice A0_1 l0_1.length c0_1, .slice A0_2 l0_2.length c0_2] 31 ?_; intro gb184 hg w30 hbox hb; have n_ : _ ∧ _ ∧ _ ∧ _ := ⟨zb HB hb, Aside0.mk (hbox), zg HB hg, zg HB hg⟩; clear HB; obtain ⟨HB, BK184, GW184, GE184⟩ := n_; clear hb hbox hg) | ((with_reducible refine gate_callee (f := 81) rfl ?_); refine goesL_ (some 7) rfl rfl Try.func81 (by kernel_rfl) rfl #[.pointer (some ⟨gb184, 0, none⟩)] rfl zm ?_; (with_reducible refine (spec_l04Ok.calls k _ [(⟨a0_0, l0_1, l0_2⟩ : S31)] false _ ?side1 A3.out).mono ?_); (case side1 => refine ro_of_blk (T := 31) (cs := #[.int .i8 a0_0, .slice A0_1 l0_1.length c0_1, .slice A0_2 l0_2.length c0_2]) (zh BK184).out ?_; exact k31_mk _ (⟨a0_0, l0_1, l0_2⟩ : S31) (by exact HC0_1.out) (by exact zcc HB HR0_1.out) (by exact HC0_2.out) (by exact zcc HB HR0_2.out)); rintro e w31 ⟨rfl, hb⟩; refine ⟨_, rfl, ?_⟩; have n_ : _ ∧ _ := ⟨zk BK184 hb, zbs hb⟩; clear BK184 HB; obtain ⟨BK184, HB⟩ := n_; (try clear hb); (try clear hb2); (try clear hk); (try clear hi)))
  go_ret2
  exact ⟨zv, zbo⟩
 subst c4
 have H1 : ((spec_l00In.f a1 0 (wrap64 ((l0_2.length : Int) - 1))).bind fun t186 => (if t186 = true then ((spec_l04Long.f k [(⟨a0_0, l0_1, l0_2⟩ : S31)]).bind fun t187 => (if 0 ≤ a1 then (if a1 < (l0_2.length : Int) then (if 0 ≤ (rd l0_2 a1) then (if (rd l0_2 a1) < (t187.length : Int) then (if (rd t187 (rd l0_2 a1)) > 200 then (some ((⟨#[]⟩ : ByteArray), 3)) else ((spec_l04Formula.f k [(⟨a0_0, l0_1, l0_2⟩ : S31)] (rd l0_2 a1)).bind fun t193 => (some (t193, 0)))) else (none)) else (none)) else (none)) else (none))) else (some ((⟨#[]⟩ : ByteArray), 2)))) = some (r1, r2) := by rw [if_pos rfl] at H; exact H
 clear H
 have H := H1
 clear H1
 replace H := zob H
 obtain ⟨t186, A50, H⟩ := H
 replace H : (if t186 = true then ((spec_l04Long.f k [(⟨a0_0, l0_1, l0_2⟩ : S31)]).bind fun t187 => (if 0 ≤ a1 then (if a1 < (l0_2.length : Int) then (if 0 ≤ (rd l0_2 a1) then (if (rd l0_2 a1) < (t187.length : Int) then (if (rd t187 (rd l0_2 a1)) > 200 then (some ((⟨#[]⟩ : ByteArray), 3)) else ((spec_l04Formula.f k [(⟨a0_0, l0_1, l0_2⟩ : S31)] (rd l0_2 a1)).bind fun t193 => (some (t193, 0)))) else (none)) else (none)) else (none)) else (none))) else (some ((⟨#[]⟩ : ByteArray), 2))) = some (r1, r2) := H
 have A5 := Aside0.mk A50
 clear A50
 by_cases c6 : t186 = true
 rotate_left
 ·replace c6 := Bool.eq_false_iff.mpr c6
  subst c6
  have H1 : (some ((⟨#[]⟩ : ByteArray), 2)) = some (r1, r2) := by rw [if_neg (show ¬ (false = true) by decide)] at H; exact H
  clear H
  have H := H1
  clear H1
  simp only [Option.some.injEq, Prod.mk.injEq] at H
  obtain ⟨rfl, rfl⟩ := H
  go_enter Try.func35, Try.ntmps35
  go_wp2_with (first | ((with_reducible refine gate_dst (N := 2) rfl ?_); refine zbx 2 #[.int .i8 a0_0, .slice A0_1 l0_1.length c0_1, .slice A0_2 l0_2.length c0_2] 31 ?_; intro gb184 hg w27 hbox hb; have n_ : _ ∧ _ ∧ _ ∧ _ := ⟨zb HB hb, Aside0.mk (hbox), zg HB hg, zg HB hg⟩; clear HB; obtain ⟨HB, BK184, GW184, GE184⟩ := n_; clear hb hbox hg) | ((with_reducible refine gate_callee (f := 81) rfl ?_); refine goesL_ (some 7) rfl rfl Try.func81 (by kernel_rfl) rfl #[.pointer (some ⟨gb184, 0, none⟩)] rfl zm ?_; (with_reducible refine (spec_l04Ok.calls k _ [(⟨a0_0, l0_1, l0_2⟩ : S31)] true _ ?side1 A3.out).mono ?_); (case side1 => refine ro_of_blk (T := 31) (cs := #[.int .i8 a0_0, .slice A0_1 l0_1.length c0_1, .slice A0_2 l0_2.length c0_2]) (zh BK184).out ?_; exact k31_mk _ (⟨a0_0, l0_1, l0_2⟩ : S31) (by exact HC0_1.out) (by exact zcc HB HR0_1.out) (by exact HC0_2.out) (by exact zcc HB HR0_2.out)); rintro e w28 ⟨rfl, hb⟩; refine ⟨_, rfl, ?_⟩; have n_ : _ ∧ _ := ⟨zk BK184 hb, zbs hb⟩; clear BK184 HB; obtain ⟨BK184, HB⟩ := n_; (try clear hb); (try clear hb2); (try clear hk); (try clear hi); obtain ⟨z29_0, z29_1, z29_2, y29_0, y29_1, y29_2⟩ := zB3 BK184) | ((with_reducible refine gate_callee (f := 87) rfl ?_); refine goesL_ (some 14) rfl rfl Try.func87 (by kernel_rfl) rfl #[.int .i64 a1, .int .i64 0, .int .i64 (wrap64 ((l0_2.length : Int) - 1))] rfl zm ?_; (with_reducible refine (spec_l00In.calls a1 0 (wrap64 ((l0_2.length : Int) - 1)) false _ A5.out).mono ?_); rintro e w' ⟨rfl, ⟨nd, rfl⟩⟩; refine ⟨_, rfl, ?_⟩))
  go_ret2
  exact ⟨zv, zbo⟩
 subst c6
 have H1 : ((spec_l04Long.f k [(⟨a0_0, l0_1, l0_2⟩ : S31)]).bind fun t187 => (if 0 ≤ a1 then (if a1 < (l0_2.length : Int) then (if 0 ≤ (rd l0_2 a1) then (if (rd l0_2 a1) < (t187.length : Int) then (if (rd t187 (rd l0_2 a1)) > 200 then (some ((⟨#[]⟩ : ByteArray), 3)) else ((spec_l04Formula.f k [(⟨a0_0, l0_1, l0_2⟩ : S31)] (rd l0_2 a1)).bind fun t193 => (some (t193, 0)))) else (none)) else (none)) else (none)) else (none))) = some (r1, r2) := by rw [if_pos rfl] at H; exact H
 clear H
 have H := H1
 clear H1
 replace H := zob H
 obtain ⟨t187, A70, H⟩ := H
 replace H : (if 0 ≤ a1 then (if a1 < (l0_2.length : Int) then (if 0 ≤ (rd l0_2 a1) then (if (rd l0_2 a1) < (t187.length : Int) then (if (rd t187 (rd l0_2 a1)) > 200 then (some ((⟨#[]⟩ : ByteArray), 3)) else ((spec_l04Formula.f k [(⟨a0_0, l0_1, l0_2⟩ : S31)] (rd l0_2 a1)).bind fun t193 => (some (t193, 0)))) else (none)) else (none)) else (none)) else (none)) = some (r1, r2) := H
 have A7 := Aside0.mk A70
 clear A70
 by_cases c8 : 0 ≤ a1
 rotate_left
 ·rw [if_neg c8] at H
  exact absurd H (by simp)
 rw [if_pos c8] at H
 have c8b0 : decide (0 ≤ a1) = true := decide_eq_true c8
 clear c8
 by_cases c9 : a1 < (l0_2.length : Int)
 rotate_left
 ·rw [if_neg c9] at H
  exact absurd H (by simp)
 rw [if_pos c9] at H
 have c9b0 : decide (a1 < (l0_2.length : Int)) = true := decide_eq_true c9
 clear c9
 by_cases c10 : 0 ≤ (rd l0_2 a1)
 rotate_left
 ·rw [if_neg c10] at H
  exact absurd H (by simp)
 rw [if_pos c10] at H
 have c10b0 : decide (0 ≤ (rd l0_2 a1)) = true := decide_eq_true c10
 clear c10
 by_cases c11 : (rd l0_2 a1) < (t187.length : Int)
 rotate_left
 ·rw [if_neg c11] at H
  exact absurd H (by simp)
 rw [if_pos c11] at H
 have c11b0 : decide ((rd l0_2 a1) < (t187.length : Int)) = true := decide_eq_true c11
 clear c11
 by_cases c12 : (rd t187 (rd l0_2 a1)) > 200
 ·rw [if_pos c12] at H
  have c12b0 : decide (200 < (rd t187 (rd l0_2 a1))) = true := decide_eq_true c12
  clear c12
  simp only [Option.some.injEq, Prod.mk.injEq] at H
  obtain ⟨rfl, rfl⟩ := H
  go_enter Try.func35, Try.ntmps35
  go_wp2_with (first | ((with_reducible refine gate_dst (N := 2) rfl ?_); refine zbx 2 #[.int .i8 a0_0, .slice A0_1 l0_1.length c0_1, .slice A0_2 l0_2.length c0_2] 31 ?_; intro gb184 hg w13 hbox hb; have n_ : _ ∧ _ ∧ _ ∧ _ := ⟨zb HB hb, Aside0.mk (hbox), zg HB hg, zg HB hg⟩; clear HB; obtain ⟨HB, BK184, GW184, GE184⟩ := n_; clear hb hbox hg) | ((with_reducible refine gate_callee (f := 81) rfl ?_); refine goesL_ (some 7) rfl rfl Try.func81 (by kernel_rfl) rfl #[.pointer (some ⟨gb184, 0, none⟩)] rfl zm ?_; (with_reducible refine (spec_l04Ok.calls k _ [(⟨a0_0, l0_1, l0_2⟩ : S31)] true _ ?side1 A3.out).mono ?_); (case side1 => refine ro_of_blk (T := 31) (cs := #[.int .i8 a0_0, .slice A0_1 l0_1.length c0_1, .slice A0_2 l0_2.length c0_2]) (zh BK184).out ?_; exact k31_mk _ (⟨a0_0, l0_1, l0_2⟩ : S31) (by exact HC0_1.out) (by exact zcc HB HR0_1.out) (by exact HC0_2.out) (by exact zcc HB HR0_2.out)); rintro e w14 ⟨rfl, hb⟩; refine ⟨_, rfl, ?_⟩; have n_ : _ ∧ _ := ⟨zk BK184 hb, zbs hb⟩; clear BK184 HB; obtain ⟨BK184, HB⟩ := n_; (try clear hb); (try clear hb2); (try clear hk); (try clear hi); obtain ⟨z15_0, z15_1, z15_2, y15_0, y15_1, y15_2⟩ := zB3 BK184) | ((with_reducible refine gate_callee (f := 87) rfl ?_); refine goesL_ (some 14) rfl rfl Try.func87 (by kernel_rfl) rfl #[.int .i64 a1, .int .i64 0, .int .i64 (wrap64 ((l0_2.length : Int) - 1))] rfl zm ?_; (with_reducible refine (spec_l00In.calls a1 0 (wrap64 ((l0_2.length : Int) - 1)) true _ A5.out).mono ?_); rintro e w' ⟨rfl, ⟨nd, rfl⟩⟩; refine ⟨_, rfl, ?_⟩) | ((with_reducible refine gate_callee (f := 88) rfl ?_); refine goesL_ (some 16) rfl rfl Try.func88 (by kernel_rfl) rfl #[.pointer (some ⟨gb184, 0, none⟩)] rfl zm ?_; (with_reducible refine (spec_l04Long.calls k _ [(⟨a0_0, l0_1, l0_2⟩ : S31)] t187 _ ?side1 A7.out).mono ?_); (case side1 => refine ro_of_blk (T := 31) (cs := #[.int .i8 a0_0, .slice A0_1 l0_1.length c0_1, .slice A0_2 l0_2.length c0_2]) (zh BK184).out ?_; exact k31_mk _ (⟨a0_0, l0_1, l0_2⟩ : S31) (by exact HC0_1.out) (by repeat (first | exact (Kd.C_below HR0_1.out zbo) | (with_reducible refine Kd.C_alloc ?_ _) | (with_reducible refine Kd.C_drewN ?_ _) | (with_reducible refine Kd.C_drew ?_))) (by exact HC0_2.out) (by repeat (first | exact (Kd.C_below HR0_2.out zbo) | (with_reducible refine Kd.C_alloc ?_ _) | (with_reducible refine Kd.C_drewN ?_ _) | (with_reducible refine Kd.C_drew ?_)))); rintro e w16 ⟨v188, rfl, ho0, hb⟩; refine ⟨_, rfl, ?_⟩; have n_ : _ ∧ _ ∧ _ := ⟨Aside0.mk (Kd.R_lower ho0 (zz HB)), zk BK184 hb, zbs hb⟩; clear BK184 HB; obtain ⟨HO189, BK184, HB⟩ := n_; (try clear hb); (try clear hb2); (try clear hk); (try clear hi); (try clear ho0); obtain ⟨z17_0, z17_1, z17_2, y17_0, y17_1, y17_2⟩ := zB3 BK184; have p190 : 0 ≤ (a1 : Int) := of_decide_eq_true zA; have q190 : a1 < (l0_2.length : Int) := of_decide_eq_true zA; obtain ⟨ad190, e190, hx190_0⟩ := Kd.at_int HR0_2.out a1 p190 q190; cases e190; replace hx190_0 := zc HB hx190_0; replace p190 := eq_true p190; replace q190 := eq_true q190; obtain ⟨Ao18, co18, eo18⟩ := Kd.R_slice HO189.out; subst eo18; have p191 : 0 ≤ ((rd l0_2 a1) : Int) := of_decide_eq_true zA; have q191 : (rd l0_2 a1) < (t187.length : Int) := of_decide_eq_true zA; obtain ⟨ad191, e191, hx191_0⟩ := Kd.at_int (Kd.R_reads' HO189.out).2.2 (rd l0_2 a1) p191 q191; cases e191; replace p191 := eq_true p191; replace q191 := eq_true q191))
  go_ret2
  exact ⟨zv, zbo⟩
 rw [if_neg c12] at H
 have c12b0 : decide (200 < (rd t187 (rd l0_2 a1))) = false := decide_eq_false c12
 clear c12
 replace H := zob H
 obtain ⟨t193, A190, H⟩ := H
 replace H : (some (t193, 0)) = some (r1, r2) := H
 have A19 := Aside0.mk A190
 clear A190
 simp only [Option.some.injEq, Prod.mk.injEq] at H
 obtain ⟨rfl, rfl⟩ := H
 go_enter Try.func35, Try.ntmps35
 go_wp2_with (first | ((with_reducible refine gate_dst (N := 2) rfl ?_); refine zbx 2 #[.int .i8 a0_0, .slice A0_1 l0_1.length c0_1, .slice A0_2 l0_2.length c0_2] 31 ?_; intro gb184 hg w20 hbox hb; have n_ : _ ∧ _ ∧ _ ∧ _ := ⟨zb HB hb, Aside0.mk (hbox), zg HB hg, zg HB hg⟩; clear HB; obtain ⟨HB, BK184, GW184, GE184⟩ := n_; clear hb hbox hg) | ((with_reducible refine gate_callee (f := 81) rfl ?_); refine goesL_ (some 7) rfl rfl Try.func81 (by kernel_rfl) rfl #[.pointer (some ⟨gb184, 0, none⟩)] rfl zm ?_; (with_reducible refine (spec_l04Ok.calls k _ [(⟨a0_0, l0_1, l0_2⟩ : S31)] true _ ?side1 A3.out).mono ?_); (case side1 => refine ro_of_blk (T := 31) (cs := #[.int .i8 a0_0, .slice A0_1 l0_1.length c0_1, .slice A0_2 l0_2.length c0_2]) (zh BK184).out ?_; exact k31_mk _ (⟨a0_0, l0_1, l0_2⟩ : S31) (by exact HC0_1.out) (by exact zcc HB HR0_1.out) (by exact HC0_2.out) (by exact zcc HB HR0_2.out)); rintro e w21 ⟨rfl, hb⟩; refine ⟨_, rfl, ?_⟩; have n_ : _ ∧ _ := ⟨zk BK184 hb, zbs hb⟩; clear BK184 HB; obtain ⟨BK184, HB⟩ := n_; (try clear hb); (try clear hb2); (try clear hk); (try clear hi); obtain ⟨z22_0, z22_1, z22_2, y22_0, y22_1, y22_2⟩ := zB3 BK184) | ((with_reducible refine gate_callee (f := 87) rfl ?_); refine goesL_ (some 14) rfl rfl Try.func87 (by kernel_rfl) rfl #[.int .i64 a1, .int .i64 0, .int .i64 (wrap64 ((l0_2.length : Int) - 1))] rfl zm ?_; (with_reducible refine (spec_l00In.calls a1 0 (wrap64 ((l0_2.length : Int) - 1)) true _ A5.out).mono ?_); rintro e w' ⟨rfl, ⟨nd, rfl⟩⟩; refine ⟨_, rfl, ?_⟩) | ((with_reducible refine gate_callee (f := 88) rfl ?_); refine goesL_ (some 16) rfl rfl Try.func88 (by kernel_rfl) rfl #[.pointer (some ⟨gb184, 0, none⟩)] rfl zm ?_; (with_reducible refine (spec_l04Long.calls k _ [(⟨a0_0, l0_1, l0_2⟩ : S31)] t187 _ ?side1 A7.out).mono ?_); (case side1 => refine ro_of_blk (T := 31) (cs := #[.int .i8 a0_0, .slice A0_1 l0_1.length c0_1, .slice A0_2 l0_2.length c0_2]) (zh BK184).out ?_; exact k31_mk _ (⟨a0_0, l0_1, l0_2⟩ : S31) (by exact HC0_1.out) (by repeat (first | exact (Kd.C_below HR0_1.out zbo) | (with_reducible refine Kd.C_alloc ?_ _) | (with_reducible refine Kd.C_drewN ?_ _) | (with_reducible refine Kd.C_drew ?_))) (by exact HC0_2.out) (by repeat (first | exact (Kd.C_below HR0_2.out zbo) | (with_reducible refine Kd.C_alloc ?_ _) | (with_reducible refine Kd.C_drewN ?_ _) | (with_reducible refine Kd.C_drew ?_)))); rintro e w23 ⟨v188, rfl, ho0, hb⟩; refine ⟨_, rfl, ?_⟩; have n_ : _ ∧ _ ∧ _ := ⟨Aside0.mk (Kd.R_lower ho0 (zz HB)), zk BK184 hb, zbs hb⟩; clear BK184 HB; obtain ⟨HO189, BK184, HB⟩ := n_; (try clear hb); (try clear hb2); (try clear hk); (try clear hi); (try clear ho0); obtain ⟨z24_0, z24_1, z24_2, y24_0, y24_1, y24_2⟩ := zB3 BK184; have p190 : 0 ≤ (a1 : Int) := of_decide_eq_true zA; have q190 : a1 < (l0_2.length : Int) := of_decide_eq_true zA; obtain ⟨ad190, e190, hx190_0⟩ := Kd.at_int HR0_2.out a1 p190 q190; cases e190; replace hx190_0 := zc HB hx190_0; replace p190 := eq_true p190; replace q190 := eq_true q190; obtain ⟨Ao25, co25, eo25⟩ := Kd.R_slice HO189.out; subst eo25; have p191 : 0 ≤ ((rd l0_2 a1) : Int) := of_decide_eq_true zA; have q191 : (rd l0_2 a1) < (t187.length : Int) := of_decide_eq_true zA; obtain ⟨ad191, e191, hx191_0⟩ := Kd.at_int (Kd.R_reads' HO189.out).2.2 (rd l0_2 a1) p191 q191; cases e191; replace p191 := eq_true p191; replace q191 := eq_true q191; have p192 : 0 ≤ (a1 : Int) := of_decide_eq_true zA; have q192 : a1 < (l0_2.length : Int) := of_decide_eq_true zA; obtain ⟨ad192, e192, hx192_0⟩ := Kd.at_int HR0_2.out a1 p192 q192; obtain rfl : ad190 = ad192 := (by injection e192); replace hx192_0 := zc HB hx192_0; replace p192 := eq_true p192; replace q192 := eq_true q192) | ((with_reducible refine gate_callee (f := 89) rfl ?_); refine goesL_ (some 31) rfl rfl Try.func89 (by kernel_rfl) rfl #[.pointer (some ⟨gb184, 0, none⟩), .int .i16 (rd l0_2 a1)] rfl zm ?_; (with_reducible refine (spec_l04Formula.calls k _ [(⟨a0_0, l0_1, l0_2⟩ : S31)] (rd l0_2 a1) t193 _ ?side1 A19.out).mono ?_); (case side1 => refine ro_of_blk (T := 31) (cs := #[.int .i8 a0_0, .slice A0_1 l0_1.length c0_1, .slice (some ad190) l0_2.length c0_2]) (zh BK184).out ?_; exact k31_mk _ (⟨a0_0, l0_1, l0_2⟩ : S31) (by exact HC0_1.out) (by exact zcc HB HR0_1.out) (by exact HC0_2.out) (by exact zcc HB HR0_2.out)); rintro e w26 ⟨rfl, hb⟩; refine ⟨_, rfl, ?_⟩; have n_ : _ ∧ _ ∧ _ := ⟨zr HO189 hb, zk BK184 hb, zbs hb⟩; clear HO189 BK184 HB; obtain ⟨HO189, BK184, HB⟩ := n_; (try clear hb); (try clear hb2); (try clear hk); (try clear hi)))
 go_ret2
 exact ⟨zv, zbo⟩
def impl_in.f (a0 : Int) (a1 : Int) (a2 : Int) : Option (Bool) := if a0 ≥ a1 then (some (decide (a0 ≤ a2))) else (some false)
theorem impl_in.calls (a0 : Int) (a1 : Int) (a2 : Int) (r : Bool) (w : World) (h : impl_in.f a0 a1 a2 = some r) :
    Calls Try.prog 82 #[.int .i64 a0, .int .i64 a1, .int .i64 a2] w fun e w' => e = .returned (.bool r) ∧ Drawn0 w w' := by
 have H : (if a0 ≥ a1 then (some (decide (a0 ≤ a2))) else (some false)) = some r := h
 clear h
 by_cases c4 : a0 ≥ a1
 ·rw [if_pos c4] at H
  have c4b0 : decide (a1 ≤ a0) = true := decide_eq_true c4
  clear c4
  obtain rfl := Option.some.inj H
  go_enter Try.func82, Try.ntmps82
  go_wp2
  go_ret
  exact ⟨zi, zdr⟩
 rw [if_neg c4] at H
 have c4b0 : decide (a1 ≤ a0) = false := decide_eq_false c4
 clear c4
 obtain rfl := Option.some.inj H
 go_enter Try.func82, Try.ntmps82
 go_wp2
 go_ret
 exact ⟨zi, zdr⟩
end Go.Proofs.Ytmpmanfoiocfgaa.PFnExactFormulaOf
