-- WRITTEN by xprint.py, a program of this session's. Not trusted: Lean checks it.
-- packed by pack.py
import Derived.Test.YtkflenibdijnaaaPFnAddersx0
import Derived.Test.YtkflenibdijnaaaPFnAddersx8
import Derived.Test.YtkflenibdijnaaaTFnAddersa
namespace Go.Proofs.Ytkflenibdijnaaa.PFnAdders
open Go.RowKit Go.Proofs.YtkflenibdijnaaaW.PrintWords Go.Proofs.YtkflenibdijnaaaW.PrintLast Go.Proofs.YtkflenibdijnaaaW.PrintMore Go.Proofs.YtkflenibdijnaaaX
attribute [local go_sem] max2_int min2_int max_two min_two max_three min_three max_four min_four   -- for this text's walks alone
set_option maxHeartbeats 8000000
set_option maxRecDepth 100000
set_option linter.unusedVariables false
set_option linter.unusedSimpArgs false

def spec_l04Tables.l0 : Nat → List (S29) → Int → List Int → Int → Option (List Int)
  | 0, _, _, _, _ => none
  | k + 1, x0, x3, x4, x5 => if 0 < (x0.length : Int) then (if x5 < (((rd_T29 x0 0).f1).length : Int) then (if 0 ≤ x5 then (if ((rd_T61 ((rd_T29 x0 0).f1) x5).f0) = 0 then ((spec_l04Input.f k (wrap64 ((rd_T29 x0 0).f0)) (wrap64 ((rd_T61 ((rd_T29 x0 0).f1) x5).f1))).bind fun t289 => (if x4.length < 17592186044416 then (spec_l04Tables.l0 k x0 x3 (x4 ++ [t289]) (wrap64 (x5 + 1))) else (none))) else (if ((rd_T61 ((rd_T29 x0 0).f1) x5).f0) = 2 then (if 0 ≤ ((rd_T61 ((rd_T29 x0 0).f1) x5).f1) then (if ((rd_T61 ((rd_T29 x0 0).f1) x5).f1) < (x4.length : Int) then (if 0 ≤ ((rd_T61 ((rd_T29 x0 0).f1) x5).f2) then (if ((rd_T61 ((rd_T29 x0 0).f1) x5).f2) < (x4.length : Int) then (if x4.length < 17592186044416 then (spec_l04Tables.l0 k x0 x3 (x4 ++ [Go.bits .or .u64 (rd x4 ((rd_T61 ((rd_T29 x0 0).f1) x5).f1)) (rd x4 ((rd_T61 ((rd_T29 x0 0).f1) x5).f2))]) (wrap64 (x5 + 1))) else (none)) else (none)) else (none)) else (none)) else (none)) else (if ((rd_T61 ((rd_T29 x0 0).f1) x5).f0) = 3 then (if 0 ≤ ((rd_T61 ((rd_T29 x0 0).f1) x5).f1) then (if ((rd_T61 ((rd_T29 x0 0).f1) x5).f1) < (x4.length : Int) then (if 0 ≤ ((rd_T61 ((rd_T29 x0 0).f1) x5).f2) then (if ((rd_T61 ((rd_T29 x0 0).f1) x5).f2) < (x4.length : Int) then (if x4.length < 17592186044416 then (spec_l04Tables.l0 k x0 x3 (x4 ++ [Go.bits .andNot .u64 (rd x4 ((rd_T61 ((rd_T29 x0 0).f1) x5).f1)) (rd x4 ((rd_T61 ((rd_T29 x0 0).f1) x5).f2))]) (wrap64 (x5 + 1))) else (none)) else (none)) else (none)) else (none)) else (none)) else (if x4.length < 17592186044416 then (spec_l04Tables.l0 k x0 x3 (x4 ++ [x3]) (wrap64 (x5 + 1))) else (none))))) else (none)) else (some x4)) else (none)
def spec_l04Tables.f (k : Nat) (l0 : List (S29)) : Option (List Int) := if 0 < (l0.length : Int) then ((spec_l04Full.f (wrap64 ((rd_T29 l0 0).f0))).bind fun t280 => (spec_l04Tables.l0 k l0 t280 (([] : List Int)) 0)) else (none)
theorem spec_l04Tables.mono_l : ∀ k, (∀ y0 y1 y2 y3, LeO (spec_l04Tables.l0 k y0 y1 y2 y3) (spec_l04Tables.l0 (k + 1) y0 y1 y2 y3))
  | 0 => fun _ _ _ _ r h => by simp [spec_l04Tables.l0] at h
  | k + 1 => by
    have ih0 := spec_l04Tables.mono_l k
    · intro y0 y1 y2 y3
      unfold spec_l04Tables.l0
      repeat' first | (with_reducible first | apply ih0 | apply spec_l04Input.mono | exact LeO.refl _ | exact LeO.none _ | refine LeO.ite ?_ ?_ | refine LeO.bind ?_ (fun _ => ?_)) | apply ih0 | apply spec_l04Input.mono | exact LeO.none _ | refine LeO.ite ?_ ?_ | refine LeO.bind ?_ (fun _ => ?_)
theorem spec_l04Tables.mono : ∀ a0 k, LeO (spec_l04Tables.f k a0) (spec_l04Tables.f (k + 1) a0) := by
 intro a0 k
 have ih0 := spec_l04Tables.mono_l k
 unfold spec_l04Tables.f
 repeat' first | (with_reducible first | apply ih0 | apply spec_l04Input.mono | exact LeO.refl _ | exact LeO.none _ | refine LeO.ite ?_ ?_ | refine LeO.bind ?_ (fun _ => ?_)) | apply ih0 | apply spec_l04Input.mono | exact LeO.none _ | refine LeO.ite ?_ ?_ | refine LeO.bind ?_ (fun _ => ?_)
theorem spec_l04Tables.calls (k : Nat) (adp0 : Addr) (l0 : List (S29)) (r : List Int) (w : World) (hr0 : Kd.C k29 w (some adp0) l0.length l0) (h : spec_l04Tables.f k l0 = some r) :
    Calls Try.prog 56 #[.pointer (some adp0)] w fun e w' => ∃ v0_ : Value, e = .returned (v0_) ∧ Kd.R (Kd.int .u64) 66 w' w.heap.size (fun _ => True) v0_ r ∧ Below w.heap.size w w' := by
 have hu61 := Try.underlying61
 have HR0 := Aside0.mk hr0
 clear hr0
 have HB := Aside0.mk (Below.refl w.heap.size w)
 have H : (if 0 < (l0.length : Int) then ((spec_l04Full.f (wrap64 ((rd_T29 l0 0).f0))).bind fun t280 => (spec_l04Tables.l0 k l0 t280 (([] : List Int)) 0)) else (none)) = some r := h
 clear h
 by_cases c2 : 0 < (l0.length : Int)
 rotate_left
 ·rw [if_neg c2] at H
  exact absurd H (by simp)
 rw [if_pos c2] at H
 have c2b0 : decide (0 < (l0.length : Int)) = true := decide_eq_true c2
 have c2b1 : decide (0 < l0.length) = true := decide_eq_true (by omega)
 clear c2
 replace H := zob H
 obtain ⟨t280, A30, H⟩ := H
 replace H : (spec_l04Tables.l0 k l0 t280 (([] : List Int)) 0) = some r := H
 have A3 := Aside0.mk A30
 clear A30
 obtain ⟨y281, hy281⟩ : ∃ y_ : List Int, y_ = (([] : List Int)) := ⟨_, rfl⟩
 replace H : (spec_l04Tables.l0 k l0 t280 y281 0) = some r := by first | (rw [hy281]; with_reducible exact H) | (have H2_ := (Option.bind_some _ _).symm.trans H; rw [hy281]; with_reducible exact H2_) | (have H2_ := (Option.bind_some _ _).symm.trans H; with_reducible exact H2_) | with_reducible exact H | (rw [hy281]; exact H) | exact H
 have Ny281 := Aside0.mk hy281
 clear hy281
 have H' := Aside0.mk H
 clear H
 have p279 : 0 ≤ (0 : Int) := (by omega)
 have q279 : 0 < (l0.length : Int) := of_decide_eq_true zA
 obtain ⟨ad279, A279_1, c279_1, A279_2, c279_2, e279, hx279_0, hx279_1, hx279_2, hl279_1, hi279_1, hl279_2, hi279_2⟩ := at_T29 HR0.out 0 p279 q279
 obtain rfl : adp0 = ad279 := (by injection e279)
 have qi279 : (0 < l0.length) = True := eq_true (by omega)
 try simp only [z00, Nat.zero_mul, Addr.add_zero'] at hx279_0 hx279_1 hx279_2
 have HR279_1 := Aside0.mk hi279_1
 have HC279_1 := Aside0.mk hl279_1
 clear hi279_1 hl279_1
 have HR279_2 := Aside0.mk hi279_2
 have HC279_2 := Aside0.mk hl279_2
 clear hi279_2 hl279_2
 replace p279 := eq_true p279
 replace q279 := eq_true q279
 go_enter Try.func56, Try.ntmps56
 go_wp2_with (first | (go_at_call 61; (with_reducible refine (spec_l04Full.calls (wrap64 ((rd_T29 l0 0).f0)) t280 _ A3.out).mono ?_); rintro e w' ⟨rfl, ⟨nd, rfl⟩⟩; (try first | exact ⟨rfl, _, World.drewN_drewN _ _ _⟩ | exact ⟨rfl, _, Eq.trans (World.drewN_drewN _ _ _) (congrArg (World.drewN _) (Nat.add_assoc _ _ _))⟩)) | ((with_reducible refine gate_dst (N := 14) rfl ?_); refine Kd.R_lit (Kd.int .u64) _ 66 ?hg (N := 14) ?hd (xs := ([] : List Int)) (inner := []) (ok := fun _ => True) (okp := fun _ => True) ?hr ?hp (fun _ hk => hk) trivial (Below.refl _ _) (Nat.le_refl _) (by simp) ?_; (case hd => rfl); (case hg => rfl); (case hr => exact zgs); (case hp => exact (Reps.none _ _)); intro v282 w4 ho5 hb hg_ hnew_; clear hg_ hnew_; (first | rw [← Ny281.out] at ho5 | (simp only [Int.reduceToNat] at ho5; rw [← Ny281.out] at ho5)); have n_ : _ ∧ _ := ⟨Aside0.mk (Kd.R_lower ho5 (zz HB)), zb HB hb⟩; clear HB; obtain ⟨HO283, HB⟩ := n_; clear hb ho5) | go_quiet (first | (go_at_call 61; (with_reducible refine (spec_l04Full.calls (wrap64 ((rd_T29 l0 0).f0)) t280 _ A3.out).mono ?_); rintro e w' ⟨rfl, ⟨nd, rfl⟩⟩; (try first | exact ⟨rfl, _, World.drewN_drewN _ _ _⟩ | exact ⟨rfl, _, Eq.trans (World.drewN_drewN _ _ _) (congrArg (World.drewN _) (Nat.add_assoc _ _ _))⟩))))
 go_loopg [4, 5] k (fun kq v4 v5 w' => ∃ (x4_1 : List Int) (x5_1 : Int), v5 = .int .i64 x5_1 ∧ Aside0 (spec_l04Tables.l0 kq l0 t280 x4_1 x5_1 = some r) ∧ Aside0 (kq ≤ k) ∧ Aside0 (Kd.R (Kd.int .u64) 66 w' w.heap.size (fun _ => True) v4 x4_1) ∧ Aside0 (Below w.heap.size w w'))
 case atStart => exact ⟨(y281), (0), zi, H', ⟨Nat.le_refl _⟩, ze HO283, zl HB⟩
 clear H'
 try clear c2
 try clear c2b0
 try clear c2b1
 try clear p2
 try clear q2
 try clear hx2
 try clear qi2
 try clear c5
 try clear hx279_0
 try clear hx279_1
 try clear hx279_2
 try clear p279
 try clear q279
 obtain ⟨x4_1, x5_1, rfl, HA, HK1, HO_4, HB⟩ := hrel
 cases gk with
 | zero => exact absurd HA.out (by simp [spec_l04Tables.l0])
 | succ k1 => ?_
 have H := HA.out
 clear HA
 simp only [spec_l04Tables.l0] at H
 by_cases c6 : 0 < (l0.length : Int)
 rotate_left
 ·rw [if_neg c6] at H
  exact absurd H (by simp)
 rw [if_pos c6] at H
 have c6b0 : decide (0 < (l0.length : Int)) = true := decide_eq_true c6
 have c6b1 : decide (0 < l0.length) = true := decide_eq_true (by omega)
 clear c6
 by_cases c7 : x5_1 < (((rd_T29 l0 0).f1).length : Int)
 rotate_left
 ·rw [if_neg c7] at H
  have c7b0 : decide (x5_1 < (((rd_T29 l0 0).f1).length : Int)) = false := decide_eq_false c7
  clear c7
  obtain rfl := Option.some.inj H
  have p284 : 0 ≤ (0 : Int) := (by omega)
  have q284 : 0 < (l0.length : Int) := of_decide_eq_true zA
  obtain ⟨ad284, A284_1, c284_1, A284_2, c284_2, e284, hx284_0, hx284_1, hx284_2, hl284_1, hi284_1, hl284_2, hi284_2⟩ := at_T29 HR0.out 0 p284 q284
  obtain rfl : adp0 = ad284 := (by injection e284)
  have qi284 : (0 < l0.length) = True := eq_true (by omega)
  try simp only [z00, Nat.zero_mul, Addr.add_zero'] at hx284_0 hx284_1 hx284_2
  replace hx284_0 := zc HB hx284_0
  replace hx284_1 := zc HB hx284_1
  replace hx284_2 := zc HB hx284_2
  have HR284_1 := Aside0.mk hi284_1
  have HC284_1 := Aside0.mk hl284_1
  clear hi284_1 hl284_1
  have HR284_2 := Aside0.mk hi284_2
  have HC284_2 := Aside0.mk hl284_2
  clear hi284_2 hl284_2
  replace p284 := eq_true p284
  replace q284 := eq_true q284
  go_wp2
  repeat (go_quiet (fail); try go_wp2)
  go_ret
  exact ⟨_, zv, by (with_reducible repeat (first | apply Kd.R_alloc | apply Kd.R_drewN | apply Kd.R_drew)); exact HO_4.out, zbo⟩
 rw [if_pos c7] at H
 have c7b0 : decide (x5_1 < (((rd_T29 l0 0).f1).length : Int)) = true := decide_eq_true c7
 clear c7
 by_cases c8 : 0 ≤ x5_1
 rotate_left
 ·rw [if_neg c8] at H
  exact absurd H (by simp)
 rw [if_pos c8] at H
 have c8b0 : decide (0 ≤ x5_1) = true := decide_eq_true c8
 clear c8
 by_cases c9 : ((rd_T61 ((rd_T29 l0 0).f1) x5_1).f0) = 0
 ·rw [if_pos c9] at H
  have c9b0 : (((rd_T61 ((rd_T29 l0 0).f1) x5_1).f0) == 0) = true := beq_iff_eq.mpr c9
  have c9b1 : (((rd_T61 ((rd_T29 l0 0).f1) x5_1).f0) != 0) = false := bne_eq_false_iff_eq.mpr c9
  clear c9
  replace H := zob H
  obtain ⟨t289, A100, H⟩ := H
  replace H : (if x4_1.length < 17592186044416 then (spec_l04Tables.l0 k1 l0 t280 (x4_1 ++ [t289]) (wrap64 (x5_1 + 1))) else (none)) = some r := H
  have A10 := Aside0.mk A100
  clear A100
  by_cases c11 : x4_1.length < 17592186044416
  rotate_left
  ·rw [if_neg c11] at H
   exact absurd H (by simp)
  rw [if_pos c11] at H
  have LMc11 := Aside0.mk c11
  clear c11
  obtain ⟨y290, hy290⟩ : ∃ y_ : List Int, y_ = (x4_1 ++ [t289]) := ⟨_, rfl⟩
  replace H : (spec_l04Tables.l0 k1 l0 t280 y290 (wrap64 (x5_1 + 1))) = some r := by first | (rw [hy290]; with_reducible exact H) | (have H2_ := (Option.bind_some _ _).symm.trans H; rw [hy290]; with_reducible exact H2_) | (have H2_ := (Option.bind_some _ _).symm.trans H; with_reducible exact H2_) | with_reducible exact H | (rw [hy290]; exact H) | exact H
  have Ny290 := Aside0.mk hy290
  clear hy290
  have H' := Aside0.mk H
  clear H
  have p284 : 0 ≤ (0 : Int) := (by omega)
  have q284 : 0 < (l0.length : Int) := of_decide_eq_true zA
  obtain ⟨ad284, A284_1, c284_1, A284_2, c284_2, e284, hx284_0, hx284_1, hx284_2, hl284_1, hi284_1, hl284_2, hi284_2⟩ := at_T29 HR0.out 0 p284 q284
  obtain rfl : adp0 = ad284 := (by injection e284)
  have qi284 : (0 < l0.length) = True := eq_true (by omega)
  try simp only [z00, Nat.zero_mul, Addr.add_zero'] at hx284_0 hx284_1 hx284_2
  replace hx284_0 := zc HB hx284_0
  replace hx284_1 := zc HB hx284_1
  replace hx284_2 := zc HB hx284_2
  have HR284_1 := Aside0.mk hi284_1
  have HC284_1 := Aside0.mk hl284_1
  clear hi284_1 hl284_1
  have HR284_2 := Aside0.mk hi284_2
  have HC284_2 := Aside0.mk hl284_2
  clear hi284_2 hl284_2
  replace p284 := eq_true p284
  replace q284 := eq_true q284
  have p285 : 0 ≤ (0 : Int) := (by omega)
  have q285 : 0 < (l0.length : Int) := of_decide_eq_true zA
  obtain ⟨ad285, A285_1, c285_1, A285_2, c285_2, e285, hx285_0, hx285_1, hx285_2, hl285_1, hi285_1, hl285_2, hi285_2⟩ := at_T29 HR0.out 0 p285 q285
  obtain rfl : adp0 = ad285 := (by injection e285)
  have qi285 : (0 < l0.length) = True := eq_true (by omega)
  try simp only [z00, Nat.zero_mul, Addr.add_zero'] at hx285_0 hx285_1 hx285_2
  replace hx285_0 := zc HB hx285_0
  replace hx285_1 := zc HB hx285_1
  replace hx285_2 := zc HB hx285_2
  have HR285_1 := Aside0.mk hi285_1
  have HC285_1 := Aside0.mk hl285_1
  clear hi285_1 hl285_1
  have HR285_2 := Aside0.mk hi285_2
  have HC285_2 := Aside0.mk hl285_2
  clear hi285_2 hl285_2
  replace p285 := eq_true p285
  replace q285 := eq_true q285
  have ea_ := Option.some.inj (hx284_1.symm.trans hx285_1)
  injection ea_ with ea_ en_ ec_
  subst ea_
  subst ec_
  clear en_
  have ea_ := Option.some.inj (hx284_2.symm.trans hx285_2)
  injection ea_ with ea_ en_ ec_
  subst ea_
  subst ec_
  clear en_
  have p286 : 0 ≤ (x5_1 : Int) := of_decide_eq_true zA
  have q286 : x5_1 < (((rd_T29 l0 0).f1).length : Int) := of_decide_eq_true zA
  obtain ⟨ad286, e286, hx286_0, hx286_1, hx286_2⟩ := at_T61 HR285_1.out x5_1 p286 q286
  cases e286
  replace hx286_0 := zc HB hx286_0
  replace hx286_1 := zc HB hx286_1
  replace hx286_2 := zc HB hx286_2
  replace p286 := eq_true p286
  replace q286 := eq_true q286
  go_wp2_with (first | ((with_reducible refine gate_dst (N := 6) rfl ?_); refine zbx 6 #[.int .i8 0, .int .i16 0, .int .i16 0] 61 ?_; intro gb287 hg w12 hbox hb; have n_ : _ ∧ _ ∧ _ ∧ _ ∧ _ := ⟨zr HO_4 hb, zb HB hb, Aside0.mk (hbox), zg HB hg, zg HB hg⟩; clear HO_4 HB; obtain ⟨HO_4, HB, BK287, GW287, GE287⟩ := n_; clear hb hbox hg; obtain ⟨z13_0, z13_1, z13_2, y13_0, y13_1, y13_2⟩ := zB3 BK287; have p288 : 0 ≤ (0 : Int) := (by omega); have q288 : 0 < (l0.length : Int) := of_decide_eq_true zA; obtain ⟨ad288, A288_1, c288_1, A288_2, c288_2, e288, hx288_0, hx288_1, hx288_2, hl288_1, hi288_1, hl288_2, hi288_2⟩ := at_T29 HR0.out 0 p288 q288; obtain rfl : adp0 = ad288 := (by injection e288); have qi288 : (0 < l0.length) = True := eq_true (by omega); (try simp only [z00, Nat.zero_mul, Addr.add_zero'] at hx288_0 hx288_1 hx288_2); have hn288_0 : adp0.block ≠ gb287 := Nat.ne_of_lt (Nat.lt_of_lt_of_le (by have := World.block_lt_of_cell? _ _ hx288_0; first | rwa [add_block] at this | exact this) GW287.out); have hn288_1 : adp0.block ≠ gb287 := Nat.ne_of_lt (Nat.lt_of_lt_of_le (by have := World.block_lt_of_cell? _ _ hx288_0; first | rwa [add_block] at this | exact this) GW287.out); have hn288_2 : adp0.block ≠ gb287 := Nat.ne_of_lt (Nat.lt_of_lt_of_le (by have := World.block_lt_of_cell? _ _ hx288_0; first | rwa [add_block] at this | exact this) GW287.out); replace hx288_0 := zc HB hx288_0; replace hx288_1 := zc HB hx288_1; replace hx288_2 := zc HB hx288_2; have HR288_1 := Aside0.mk hi288_1; have HC288_1 := Aside0.mk hl288_1; clear hi288_1 hl288_1; have HR288_2 := Aside0.mk hi288_2; have HC288_2 := Aside0.mk hl288_2; clear hi288_2 hl288_2; replace hx288_0 := (cell_far (p := ⟨gb287, 0, none⟩) (by first | (rw [add_block]; exact hn288_0) | (show (Addr.add _ _).block ≠ _; rw [add_block]; exact hn288_0) | exact hn288_0) (.int .i8 ((rd_T61 ((rd_T29 l0 0).f1) x5_1).f0))).trans hx288_0; replace hx288_1 := (cell_far (p := ⟨gb287, 0, none⟩) (by first | (rw [add_block]; exact hn288_0) | (show (Addr.add _ _).block ≠ _; rw [add_block]; exact hn288_0) | exact hn288_0) (.int .i8 ((rd_T61 ((rd_T29 l0 0).f1) x5_1).f0))).trans hx288_1; replace hx288_2 := (cell_far (p := ⟨gb287, 0, none⟩) (by first | (rw [add_block]; exact hn288_0) | (show (Addr.add _ _).block ≠ _; rw [add_block]; exact hn288_0) | exact hn288_0) (.int .i8 ((rd_T61 ((rd_T29 l0 0).f1) x5_1).f0))).trans hx288_2; replace hx288_0 := (cell_far (p := ⟨gb287, 1, none⟩) (by first | (rw [add_block]; exact hn288_1) | (show (Addr.add _ _).block ≠ _; rw [add_block]; exact hn288_1) | exact hn288_1) (.int .i16 ((rd_T61 ((rd_T29 l0 0).f1) x5_1).f1))).trans hx288_0; replace hx288_1 := (cell_far (p := ⟨gb287, 1, none⟩) (by first | (rw [add_block]; exact hn288_1) | (show (Addr.add _ _).block ≠ _; rw [add_block]; exact hn288_1) | exact hn288_1) (.int .i16 ((rd_T61 ((rd_T29 l0 0).f1) x5_1).f1))).trans hx288_1; replace hx288_2 := (cell_far (p := ⟨gb287, 1, none⟩) (by first | (rw [add_block]; exact hn288_1) | (show (Addr.add _ _).block ≠ _; rw [add_block]; exact hn288_1) | exact hn288_1) (.int .i16 ((rd_T61 ((rd_T29 l0 0).f1) x5_1).f1))).trans hx288_2; replace hx288_0 := (cell_far (p := ⟨gb287, 2, none⟩) (by first | (rw [add_block]; exact hn288_2) | (show (Addr.add _ _).block ≠ _; rw [add_block]; exact hn288_2) | exact hn288_2) (.int .i16 ((rd_T61 ((rd_T29 l0 0).f1) x5_1).f2))).trans hx288_0; replace hx288_1 := (cell_far (p := ⟨gb287, 2, none⟩) (by first | (rw [add_block]; exact hn288_2) | (show (Addr.add _ _).block ≠ _; rw [add_block]; exact hn288_2) | exact hn288_2) (.int .i16 ((rd_T61 ((rd_T29 l0 0).f1) x5_1).f2))).trans hx288_1; replace hx288_2 := (cell_far (p := ⟨gb287, 2, none⟩) (by first | (rw [add_block]; exact hn288_2) | (show (Addr.add _ _).block ≠ _; rw [add_block]; exact hn288_2) | exact hn288_2) (.int .i16 ((rd_T61 ((rd_T29 l0 0).f1) x5_1).f2))).trans hx288_2; (try have hy288_0 := fun (n_ : Nat) => (show (((((w12.drewN n_).setCell ⟨gb287, 0, none⟩ (.int .i8 ((rd_T61 ((rd_T29 l0 0).f1) x5_1).f0))).setCell ⟨gb287, 1, none⟩ (.int .i16 ((rd_T61 ((rd_T29 l0 0).f1) x5_1).f1))).setCell ⟨gb287, 2, none⟩ (.int .i16 ((rd_T61 ((rd_T29 l0 0).f1) x5_1).f2)))).cell? _ = some _ from hx288_0)); (try have hy288_1 := fun (n_ : Nat) => (show (((((w12.drewN n_).setCell ⟨gb287, 0, none⟩ (.int .i8 ((rd_T61 ((rd_T29 l0 0).f1) x5_1).f0))).setCell ⟨gb287, 1, none⟩ (.int .i16 ((rd_T61 ((rd_T29 l0 0).f1) x5_1).f1))).setCell ⟨gb287, 2, none⟩ (.int .i16 ((rd_T61 ((rd_T29 l0 0).f1) x5_1).f2)))).cell? _ = some _ from hx288_1)); (try have hy288_2 := fun (n_ : Nat) => (show (((((w12.drewN n_).setCell ⟨gb287, 0, none⟩ (.int .i8 ((rd_T61 ((rd_T29 l0 0).f1) x5_1).f0))).setCell ⟨gb287, 1, none⟩ (.int .i16 ((rd_T61 ((rd_T29 l0 0).f1) x5_1).f1))).setCell ⟨gb287, 2, none⟩ (.int .i16 ((rd_T61 ((rd_T29 l0 0).f1) x5_1).f2)))).cell? _ = some _ from hx288_2)); clear hn288_0; clear hn288_1; clear hn288_2; replace p288 := eq_true p288; replace q288 := eq_true q288) | (go_at_call 62; (with_reducible refine (spec_l04Input.calls k1 (wrap64 ((rd_T29 l0 0).f0)) (wrap64 ((rd_T61 ((rd_T29 l0 0).f1) x5_1).f1)) t289 _ A10.out).mono ?_); rintro e w' ⟨rfl, ⟨nd, rfl⟩⟩; (try first | exact ⟨rfl, _, World.drewN_drewN _ _ _⟩ | exact ⟨rfl, _, Eq.trans (World.drewN_drewN _ _ _) (congrArg (World.drewN _) (Nat.add_assoc _ _ _))⟩)) | ((with_reducible refine gate_builtin (b := .append) (xs := #[.tmp 71, .tmp 73]) rfl ?_); at_builtin; refine Kd.R_append (Kd.int .u64) (w0 := w) w.heap.size rfl (.tmp 71) (.tmp 73) 64 66 (.int .u64 0) 8 rfl Try.underlying64 info66 rfl (by decide) (by omega) u4 x4_1 t289 [.int .u64 t289] (fun _ => True) (fun _ => False) rfl (by first | (go_simp; done) | (go_simp; rfl)) ?aP (fun _ hk => hk.elim) ?aF ?aO ?aB ?aS ?aL ?_; (case aP => exact rfl); (case aB => exact zbo); (case aF => exact (fun _ _ => trivial)); (case aO => exact (Kd.R_mono (zs HO_4 BK287).out (fun _ hk => trivial))); (case aS => exact (zz HB)); (case aL => have := LMc11.out; omega); intro v291 w14 ho hb hg hat; rw [← Ny290.out] at ho; have n_ : _ ∧ _ ∧ _ := ⟨Aside0.mk (blk_grown (g := gb287) (o := .cells #[.int .i8 ((rd_T61 ((rd_T29 l0 0).f1) x5_1).f0), .int .i16 ((rd_T61 ((rd_T29 l0 0).f1) x5_1).f1), .int .i16 ((rd_T61 ((rd_T29 l0 0).f1) x5_1).f2)] 61 (0, 0)) (zp BK287) hg (Kd.R_ne HO_4.out BK287.out (by decide))), Aside0.mk (hb), Aside0.mk (ho)⟩; clear BK287 HB HO_4; obtain ⟨BK287, HB, HO292⟩ := n_; clear ho hb hg hat) | go_quiet (first | (go_at_call 62; (with_reducible refine (spec_l04Input.calls k1 (wrap64 ((rd_T29 l0 0).f0)) (wrap64 ((rd_T61 ((rd_T29 l0 0).f1) x5_1).f1)) t289 _ A10.out).mono ?_); rintro e w' ⟨rfl, ⟨nd, rfl⟩⟩; (try first | exact ⟨rfl, _, World.drewN_drewN _ _ _⟩ | exact ⟨rfl, _, Eq.trans (World.drewN_drewN _ _ _) (congrArg (World.drewN _) (Nat.add_assoc _ _ _))⟩))))
  go_roundg k1
  case measure => have := HK1.out; omega
  case rel => exact ⟨(y290), (wrap64 (x5_1 + 1)), zi, H', ⟨by have := HK1.out; omega⟩, ze HO292, zba⟩
 rw [if_neg c9] at H
 have c9b0 : (((rd_T61 ((rd_T29 l0 0).f1) x5_1).f0) == 0) = false := beq_eq_false_iff_ne.mpr c9
 have c9b1 : (((rd_T61 ((rd_T29 l0 0).f1) x5_1).f0) != 0) = true := bne_iff_ne.mpr c9
 by_cases c15 : ((rd_T61 ((rd_T29 l0 0).f1) x5_1).f0) = 2
 ·rw [if_pos c15] at H
  have c15b0 : (((rd_T61 ((rd_T29 l0 0).f1) x5_1).f0) == 2) = true := beq_iff_eq.mpr c15
  have c15b1 : (((rd_T61 ((rd_T29 l0 0).f1) x5_1).f0) != 2) = false := bne_eq_false_iff_eq.mpr c15
  clear c15
  by_cases c16 : 0 ≤ ((rd_T61 ((rd_T29 l0 0).f1) x5_1).f1)
  rotate_left
  ·rw [if_neg c16] at H
   exact absurd H (by simp)
  rw [if_pos c16] at H
  have c16b0 : decide (0 ≤ ((rd_T61 ((rd_T29 l0 0).f1) x5_1).f1)) = true := decide_eq_true c16
  clear c16
  by_cases c17 : ((rd_T61 ((rd_T29 l0 0).f1) x5_1).f1) < (x4_1.length : Int)
  rotate_left
  ·rw [if_neg c17] at H
   exact absurd H (by simp)
  rw [if_pos c17] at H
  have c17b0 : decide (((rd_T61 ((rd_T29 l0 0).f1) x5_1).f1) < (x4_1.length : Int)) = true := decide_eq_true c17
  clear c17
  by_cases c18 : 0 ≤ ((rd_T61 ((rd_T29 l0 0).f1) x5_1).f2)
  rotate_left
  ·rw [if_neg c18] at H
   exact absurd H (by simp)
  rw [if_pos c18] at H
  have c18b0 : decide (0 ≤ ((rd_T61 ((rd_T29 l0 0).f1) x5_1).f2)) = true := decide_eq_true c18
  clear c18
  by_cases c19 : ((rd_T61 ((rd_T29 l0 0).f1) x5_1).f2) < (x4_1.length : Int)
  rotate_left
  ·rw [if_neg c19] at H
   exact absurd H (by simp)
  rw [if_pos c19] at H
  have c19b0 : decide (((rd_T61 ((rd_T29 l0 0).f1) x5_1).f2) < (x4_1.length : Int)) = true := decide_eq_true c19
  clear c19
  by_cases c20 : x4_1.length < 17592186044416
  rotate_left
  ·rw [if_neg c20] at H
   exact absurd H (by simp)
  rw [if_pos c20] at H
  have LMc20 := Aside0.mk c20
  clear c20
  obtain ⟨y295, hy295⟩ : ∃ y_ : List Int, y_ = (x4_1 ++ [Go.bits .or .u64 (rd x4_1 ((rd_T61 ((rd_T29 l0 0).f1) x5_1).f1)) (rd x4_1 ((rd_T61 ((rd_T29 l0 0).f1) x5_1).f2))]) := ⟨_, rfl⟩
  replace H : (spec_l04Tables.l0 k1 l0 t280 y295 (wrap64 (x5_1 + 1))) = some r := by first | (rw [hy295]; with_reducible exact H) | (have H2_ := (Option.bind_some _ _).symm.trans H; rw [hy295]; with_reducible exact H2_) | (have H2_ := (Option.bind_some _ _).symm.trans H; with_reducible exact H2_) | with_reducible exact H | (rw [hy295]; exact H) | exact H
  have Ny295 := Aside0.mk hy295
  clear hy295
  have H' := Aside0.mk H
  clear H
  have p284 : 0 ≤ (0 : Int) := (by omega)
  have q284 : 0 < (l0.length : Int) := of_decide_eq_true zA
  obtain ⟨ad284, A284_1, c284_1, A284_2, c284_2, e284, hx284_0, hx284_1, hx284_2, hl284_1, hi284_1, hl284_2, hi284_2⟩ := at_T29 HR0.out 0 p284 q284
  obtain rfl : adp0 = ad284 := (by injection e284)
  have qi284 : (0 < l0.length) = True := eq_true (by omega)
  try simp only [z00, Nat.zero_mul, Addr.add_zero'] at hx284_0 hx284_1 hx284_2
  replace hx284_0 := zc HB hx284_0
  replace hx284_1 := zc HB hx284_1
  replace hx284_2 := zc HB hx284_2
  have HR284_1 := Aside0.mk hi284_1
  have HC284_1 := Aside0.mk hl284_1
  clear hi284_1 hl284_1
  have HR284_2 := Aside0.mk hi284_2
  have HC284_2 := Aside0.mk hl284_2
  clear hi284_2 hl284_2
  replace p284 := eq_true p284
  replace q284 := eq_true q284
  have p285 : 0 ≤ (0 : Int) := (by omega)
  have q285 : 0 < (l0.length : Int) := of_decide_eq_true zA
  obtain ⟨ad285, A285_1, c285_1, A285_2, c285_2, e285, hx285_0, hx285_1, hx285_2, hl285_1, hi285_1, hl285_2, hi285_2⟩ := at_T29 HR0.out 0 p285 q285
  obtain rfl : adp0 = ad285 := (by injection e285)
  have qi285 : (0 < l0.length) = True := eq_true (by omega)
  try simp only [z00, Nat.zero_mul, Addr.add_zero'] at hx285_0 hx285_1 hx285_2
  replace hx285_0 := zc HB hx285_0
  replace hx285_1 := zc HB hx285_1
  replace hx285_2 := zc HB hx285_2
  have HR285_1 := Aside0.mk hi285_1
  have HC285_1 := Aside0.mk hl285_1
  clear hi285_1 hl285_1
  have HR285_2 := Aside0.mk hi285_2
  have HC285_2 := Aside0.mk hl285_2
  clear hi285_2 hl285_2
  replace p285 := eq_true p285
  replace q285 := eq_true q285
  have ea_ := Option.some.inj (hx284_1.symm.trans hx285_1)
  injection ea_ with ea_ en_ ec_
  subst ea_
  subst ec_
  clear en_
  have ea_ := Option.some.inj (hx284_2.symm.trans hx285_2)
  injection ea_ with ea_ en_ ec_
  subst ea_
  subst ec_
  clear en_
  have p286 : 0 ≤ (x5_1 : Int) := of_decide_eq_true zA
  have q286 : x5_1 < (((rd_T29 l0 0).f1).length : Int) := of_decide_eq_true zA
  obtain ⟨ad286, e286, hx286_0, hx286_1, hx286_2⟩ := at_T61 HR285_1.out x5_1 p286 q286
  cases e286
  replace hx286_0 := zc HB hx286_0
  replace hx286_1 := zc HB hx286_1
  replace hx286_2 := zc HB hx286_2
  replace p286 := eq_true p286
  replace q286 := eq_true q286
  go_wp2_with (first | ((with_reducible refine gate_dst (N := 6) rfl ?_); refine zbx 6 #[.int .i8 0, .int .i16 0, .int .i16 0] 61 ?_; intro gb287 hg w21 hbox hb; have n_ : _ ∧ _ ∧ _ ∧ _ ∧ _ := ⟨zr HO_4 hb, zb HB hb, Aside0.mk (hbox), zg HB hg, zg HB hg⟩; clear HO_4 HB; obtain ⟨HO_4, HB, BK287, GW287, GE287⟩ := n_; clear hb hbox hg; obtain ⟨z22_0, z22_1, z22_2, y22_0, y22_1, y22_2⟩ := zB3 BK287; obtain ⟨Ao23, co23, eo23⟩ := Kd.R_slice HO_4.out; subst eo23; have p293 : 0 ≤ (((rd_T61 ((rd_T29 l0 0).f1) x5_1).f1) : Int) := of_decide_eq_true zA; have q293 : ((rd_T61 ((rd_T29 l0 0).f1) x5_1).f1) < (x4_1.length : Int) := of_decide_eq_true zA; obtain ⟨ad293, e293, hx293_0⟩ := Kd.at_int (Kd.R_reads' HO_4.out).2.2 ((rd_T61 ((rd_T29 l0 0).f1) x5_1).f1) p293 q293; cases e293; have hn293_0 : ad293.block ≠ gb287 := Kd.own_blk (Kd.R_ne HO_4.out BK287.out (by decide)); have hn293_1 : ad293.block ≠ gb287 := Kd.own_blk (Kd.R_ne HO_4.out BK287.out (by decide)); have hn293_2 : ad293.block ≠ gb287 := Kd.own_blk (Kd.R_ne HO_4.out BK287.out (by decide)); replace hx293_0 := (cell_far (p := ⟨gb287, 0, none⟩) (by first | (rw [add_block]; exact hn293_0) | (show (Addr.add _ _).block ≠ _; rw [add_block]; exact hn293_0) | exact hn293_0) (.int .i8 ((rd_T61 ((rd_T29 l0 0).f1) x5_1).f0))).trans hx293_0; replace hx293_0 := (cell_far (p := ⟨gb287, 1, none⟩) (by first | (rw [add_block]; exact hn293_1) | (show (Addr.add _ _).block ≠ _; rw [add_block]; exact hn293_1) | exact hn293_1) (.int .i16 ((rd_T61 ((rd_T29 l0 0).f1) x5_1).f1))).trans hx293_0; replace hx293_0 := (cell_far (p := ⟨gb287, 2, none⟩) (by first | (rw [add_block]; exact hn293_2) | (show (Addr.add _ _).block ≠ _; rw [add_block]; exact hn293_2) | exact hn293_2) (.int .i16 ((rd_T61 ((rd_T29 l0 0).f1) x5_1).f2))).trans hx293_0; (try have hy293_0 := fun (n_ : Nat) => (show (((((w21.drewN n_).setCell ⟨gb287, 0, none⟩ (.int .i8 ((rd_T61 ((rd_T29 l0 0).f1) x5_1).f0))).setCell ⟨gb287, 1, none⟩ (.int .i16 ((rd_T61 ((rd_T29 l0 0).f1) x5_1).f1))).setCell ⟨gb287, 2, none⟩ (.int .i16 ((rd_T61 ((rd_T29 l0 0).f1) x5_1).f2)))).cell? _ = some _ from hx293_0)); clear hn293_0; clear hn293_1; clear hn293_2; replace p293 := eq_true p293; replace q293 := eq_true q293; have p294 : 0 ≤ (((rd_T61 ((rd_T29 l0 0).f1) x5_1).f2) : Int) := of_decide_eq_true zA; have q294 : ((rd_T61 ((rd_T29 l0 0).f1) x5_1).f2) < (x4_1.length : Int) := of_decide_eq_true zA; obtain ⟨ad294, e294, hx294_0⟩ := Kd.at_int (Kd.R_reads' HO_4.out).2.2 ((rd_T61 ((rd_T29 l0 0).f1) x5_1).f2) p294 q294; obtain rfl : ad293 = ad294 := (by injection e294); have hn294_0 : ad293.block ≠ gb287 := Kd.own_blk (Kd.R_ne HO_4.out BK287.out (by decide)); have hn294_1 : ad293.block ≠ gb287 := Kd.own_blk (Kd.R_ne HO_4.out BK287.out (by decide)); have hn294_2 : ad293.block ≠ gb287 := Kd.own_blk (Kd.R_ne HO_4.out BK287.out (by decide)); replace hx294_0 := (cell_far (p := ⟨gb287, 0, none⟩) (by first | (rw [add_block]; exact hn294_0) | (show (Addr.add _ _).block ≠ _; rw [add_block]; exact hn294_0) | exact hn294_0) (.int .i8 ((rd_T61 ((rd_T29 l0 0).f1) x5_1).f0))).trans hx294_0; replace hx294_0 := (cell_far (p := ⟨gb287, 1, none⟩) (by first | (rw [add_block]; exact hn294_1) | (show (Addr.add _ _).block ≠ _; rw [add_block]; exact hn294_1) | exact hn294_1) (.int .i16 ((rd_T61 ((rd_T29 l0 0).f1) x5_1).f1))).trans hx294_0; replace hx294_0 := (cell_far (p := ⟨gb287, 2, none⟩) (by first | (rw [add_block]; exact hn294_2) | (show (Addr.add _ _).block ≠ _; rw [add_block]; exact hn294_2) | exact hn294_2) (.int .i16 ((rd_T61 ((rd_T29 l0 0).f1) x5_1).f2))).trans hx294_0; (try have hy294_0 := fun (n_ : Nat) => (show (((((w21.drewN n_).setCell ⟨gb287, 0, none⟩ (.int .i8 ((rd_T61 ((rd_T29 l0 0).f1) x5_1).f0))).setCell ⟨gb287, 1, none⟩ (.int .i16 ((rd_T61 ((rd_T29 l0 0).f1) x5_1).f1))).setCell ⟨gb287, 2, none⟩ (.int .i16 ((rd_T61 ((rd_T29 l0 0).f1) x5_1).f2)))).cell? _ = some _ from hx294_0)); clear hn294_0; clear hn294_1; clear hn294_2; replace p294 := eq_true p294; replace q294 := eq_true q294) | ((with_reducible refine gate_builtin (b := .append) (xs := #[.tmp 71, .tmp 73]) rfl ?_); at_builtin; refine Kd.R_append (Kd.int .u64) (w0 := w) w.heap.size rfl (.tmp 71) (.tmp 73) 64 66 (.int .u64 0) 8 rfl Try.underlying64 info66 rfl (by decide) (by omega) (.slice (some ad293) x4_1.length co23) x4_1 (Go.bits .or .u64 (rd x4_1 ((rd_T61 ((rd_T29 l0 0).f1) x5_1).f1)) (rd x4_1 ((rd_T61 ((rd_T29 l0 0).f1) x5_1).f2))) [.int .u64 (Go.bits .or .u64 (rd x4_1 ((rd_T61 ((rd_T29 l0 0).f1) x5_1).f1)) (rd x4_1 ((rd_T61 ((rd_T29 l0 0).f1) x5_1).f2)))] (fun _ => True) (fun _ => False) rfl (by first | (go_simp; done) | (go_simp; rfl)) ?aP (fun _ hk => hk.elim) ?aF ?aO ?aB ?aS ?aL ?_; (case aP => exact rfl); (case aB => exact zbo); (case aF => exact (fun _ _ => trivial)); (case aO => exact (Kd.R_mono (zs HO_4 BK287).out (fun _ hk => trivial))); (case aS => exact (zz HB)); (case aL => have := LMc20.out; omega); intro v296 w24 ho hb hg hat; rw [← Ny295.out] at ho; have n_ : _ ∧ _ ∧ _ := ⟨Aside0.mk (blk_grown (g := gb287) (o := .cells #[.int .i8 ((rd_T61 ((rd_T29 l0 0).f1) x5_1).f0), .int .i16 ((rd_T61 ((rd_T29 l0 0).f1) x5_1).f1), .int .i16 ((rd_T61 ((rd_T29 l0 0).f1) x5_1).f2)] 61 (0, 0)) (zp BK287) hg (Kd.R_ne HO_4.out BK287.out (by decide))), Aside0.mk (hb), Aside0.mk (ho)⟩; clear BK287 HB HO_4; obtain ⟨BK287, HB, HO297⟩ := n_; clear ho hb hg hat) | go_quiet (fail))
  go_roundg k1
  case measure => have := HK1.out; omega
  case rel => exact ⟨(y295), (wrap64 (x5_1 + 1)), zi, H', ⟨by have := HK1.out; omega⟩, ze HO297, zba⟩
 rw [if_neg c15] at H
 have c15b0 : (((rd_T61 ((rd_T29 l0 0).f1) x5_1).f0) == 2) = false := beq_eq_false_iff_ne.mpr c15
 have c15b1 : (((rd_T61 ((rd_T29 l0 0).f1) x5_1).f0) != 2) = true := bne_iff_ne.mpr c15
 by_cases c25 : ((rd_T61 ((rd_T29 l0 0).f1) x5_1).f0) = 3
 rotate_left
 ·rw [if_neg c25] at H
  have c25b0 : (((rd_T61 ((rd_T29 l0 0).f1) x5_1).f0) == 3) = false := beq_eq_false_iff_ne.mpr c25
  have c25b1 : (((rd_T61 ((rd_T29 l0 0).f1) x5_1).f0) != 3) = true := bne_iff_ne.mpr c25
  by_cases c35 : x4_1.length < 17592186044416
  rotate_left
  ·rw [if_neg c35] at H
   exact absurd H (by simp)
  rw [if_pos c35] at H
  have LMc35 := Aside0.mk c35
  clear c35
  obtain ⟨y303, hy303⟩ : ∃ y_ : List Int, y_ = (x4_1 ++ [t280]) := ⟨_, rfl⟩
  replace H : (spec_l04Tables.l0 k1 l0 t280 y303 (wrap64 (x5_1 + 1))) = some r := by first | (rw [hy303]; with_reducible exact H) | (have H2_ := (Option.bind_some _ _).symm.trans H; rw [hy303]; with_reducible exact H2_) | (have H2_ := (Option.bind_some _ _).symm.trans H; with_reducible exact H2_) | with_reducible exact H | (rw [hy303]; exact H) | exact H
  have Ny303 := Aside0.mk hy303
  clear hy303
  have H' := Aside0.mk H
  clear H
  have p284 : 0 ≤ (0 : Int) := (by omega)
  have q284 : 0 < (l0.length : Int) := of_decide_eq_true zA
  obtain ⟨ad284, A284_1, c284_1, A284_2, c284_2, e284, hx284_0, hx284_1, hx284_2, hl284_1, hi284_1, hl284_2, hi284_2⟩ := at_T29 HR0.out 0 p284 q284
  obtain rfl : adp0 = ad284 := (by injection e284)
  have qi284 : (0 < l0.length) = True := eq_true (by omega)
  try simp only [z00, Nat.zero_mul, Addr.add_zero'] at hx284_0 hx284_1 hx284_2
  replace hx284_0 := zc HB hx284_0
  replace hx284_1 := zc HB hx284_1
  replace hx284_2 := zc HB hx284_2
  have HR284_1 := Aside0.mk hi284_1
  have HC284_1 := Aside0.mk hl284_1
  clear hi284_1 hl284_1
  have HR284_2 := Aside0.mk hi284_2
  have HC284_2 := Aside0.mk hl284_2
  clear hi284_2 hl284_2
  replace p284 := eq_true p284
  replace q284 := eq_true q284
  have p285 : 0 ≤ (0 : Int) := (by omega)
  have q285 : 0 < (l0.length : Int) := of_decide_eq_true zA
  obtain ⟨ad285, A285_1, c285_1, A285_2, c285_2, e285, hx285_0, hx285_1, hx285_2, hl285_1, hi285_1, hl285_2, hi285_2⟩ := at_T29 HR0.out 0 p285 q285
  obtain rfl : adp0 = ad285 := (by injection e285)
  have qi285 : (0 < l0.length) = True := eq_true (by omega)
  try simp only [z00, Nat.zero_mul, Addr.add_zero'] at hx285_0 hx285_1 hx285_2
  replace hx285_0 := zc HB hx285_0
  replace hx285_1 := zc HB hx285_1
  replace hx285_2 := zc HB hx285_2
  have HR285_1 := Aside0.mk hi285_1
  have HC285_1 := Aside0.mk hl285_1
  clear hi285_1 hl285_1
  have HR285_2 := Aside0.mk hi285_2
  have HC285_2 := Aside0.mk hl285_2
  clear hi285_2 hl285_2
  replace p285 := eq_true p285
  replace q285 := eq_true q285
  have ea_ := Option.some.inj (hx284_1.symm.trans hx285_1)
  injection ea_ with ea_ en_ ec_
  subst ea_
  subst ec_
  clear en_
  have ea_ := Option.some.inj (hx284_2.symm.trans hx285_2)
  injection ea_ with ea_ en_ ec_
  subst ea_
  subst ec_
  clear en_
  have p286 : 0 ≤ (x5_1 : Int) := of_decide_eq_true zA
  have q286 : x5_1 < (((rd_T29 l0 0).f1).length : Int) := of_decide_eq_true zA
  obtain ⟨ad286, e286, hx286_0, hx286_1, hx286_2⟩ := at_T61 HR285_1.out x5_1 p286 q286
  cases e286
  replace hx286_0 := zc HB hx286_0
  replace hx286_1 := zc HB hx286_1
  replace hx286_2 := zc HB hx286_2
  replace p286 := eq_true p286
  replace q286 := eq_true q286
  go_wp2_with (first | ((with_reducible refine gate_dst (N := 6) rfl ?_); refine zbx 6 #[.int .i8 0, .int .i16 0, .int .i16 0] 61 ?_; intro gb287 hg w36 hbox hb; have n_ : _ ∧ _ ∧ _ ∧ _ ∧ _ := ⟨zr HO_4 hb, zb HB hb, Aside0.mk (hbox), zg HB hg, zg HB hg⟩; clear HO_4 HB; obtain ⟨HO_4, HB, BK287, GW287, GE287⟩ := n_; clear hb hbox hg; obtain ⟨z37_0, z37_1, z37_2, y37_0, y37_1, y37_2⟩ := zB3 BK287) | ((with_reducible refine gate_builtin (b := .append) (xs := #[.tmp 71, .tmp 73]) rfl ?_); at_builtin; refine Kd.R_append (Kd.int .u64) (w0 := w) w.heap.size rfl (.tmp 71) (.tmp 73) 64 66 (.int .u64 0) 8 rfl Try.underlying64 info66 rfl (by decide) (by omega) u4 x4_1 t280 [.int .u64 t280] (fun _ => True) (fun _ => False) rfl (by first | (go_simp; done) | (go_simp; rfl)) ?aP (fun _ hk => hk.elim) ?aF ?aO ?aB ?aS ?aL ?_; (case aP => exact rfl); (case aB => exact zbo); (case aF => exact (fun _ _ => trivial)); (case aO => exact (Kd.R_mono (zs HO_4 BK287).out (fun _ hk => trivial))); (case aS => exact (zz HB)); (case aL => have := LMc35.out; omega); intro v304 w38 ho hb hg hat; rw [← Ny303.out] at ho; have n_ : _ ∧ _ ∧ _ := ⟨Aside0.mk (blk_grown (g := gb287) (o := .cells #[.int .i8 ((rd_T61 ((rd_T29 l0 0).f1) x5_1).f0), .int .i16 ((rd_T61 ((rd_T29 l0 0).f1) x5_1).f1), .int .i16 ((rd_T61 ((rd_T29 l0 0).f1) x5_1).f2)] 61 (0, 0)) (zp BK287) hg (Kd.R_ne HO_4.out BK287.out (by decide))), Aside0.mk (hb), Aside0.mk (ho)⟩; clear BK287 HB HO_4; obtain ⟨BK287, HB, HO305⟩ := n_; clear ho hb hg hat) | go_quiet (fail))
  go_roundg k1
  case measure => have := HK1.out; omega
  case rel => exact ⟨(y303), (wrap64 (x5_1 + 1)), zi, H', ⟨by have := HK1.out; omega⟩, ze HO305, zba⟩
 rw [if_pos c25] at H
 have c25b0 : (((rd_T61 ((rd_T29 l0 0).f1) x5_1).f0) == 3) = true := beq_iff_eq.mpr c25
 have c25b1 : (((rd_T61 ((rd_T29 l0 0).f1) x5_1).f0) != 3) = false := bne_eq_false_iff_eq.mpr c25
 clear c25
 by_cases c26 : 0 ≤ ((rd_T61 ((rd_T29 l0 0).f1) x5_1).f1)
 rotate_left
 ·rw [if_neg c26] at H
  exact absurd H (by simp)
 rw [if_pos c26] at H
 have c26b0 : decide (0 ≤ ((rd_T61 ((rd_T29 l0 0).f1) x5_1).f1)) = true := decide_eq_true c26
 clear c26
 by_cases c27 : ((rd_T61 ((rd_T29 l0 0).f1) x5_1).f1) < (x4_1.length : Int)
 rotate_left
 ·rw [if_neg c27] at H
  exact absurd H (by simp)
 rw [if_pos c27] at H
 have c27b0 : decide (((rd_T61 ((rd_T29 l0 0).f1) x5_1).f1) < (x4_1.length : Int)) = true := decide_eq_true c27
 clear c27
 by_cases c28 : 0 ≤ ((rd_T61 ((rd_T29 l0 0).f1) x5_1).f2)
 rotate_left
 ·rw [if_neg c28] at H
  exact absurd H (by simp)
 rw [if_pos c28] at H
 have c28b0 : decide (0 ≤ ((rd_T61 ((rd_T29 l0 0).f1) x5_1).f2)) = true := decide_eq_true c28
 clear c28
 by_cases c29 : ((rd_T61 ((rd_T29 l0 0).f1) x5_1).f2) < (x4_1.length : Int)
 rotate_left
 ·rw [if_neg c29] at H
  exact absurd H (by simp)
 rw [if_pos c29] at H
 have c29b0 : decide (((rd_T61 ((rd_T29 l0 0).f1) x5_1).f2) < (x4_1.length : Int)) = true := decide_eq_true c29
 clear c29
 by_cases c30 : x4_1.length < 17592186044416
 rotate_left
 ·rw [if_neg c30] at H
  exact absurd H (by simp)
 rw [if_pos c30] at H
 have LMc30 := Aside0.mk c30
 clear c30
 obtain ⟨y300, hy300⟩ : ∃ y_ : List Int, y_ = (x4_1 ++ [Go.bits .andNot .u64 (rd x4_1 ((rd_T61 ((rd_T29 l0 0).f1) x5_1).f1)) (rd x4_1 ((rd_T61 ((rd_T29 l0 0).f1) x5_1).f2))]) := ⟨_, rfl⟩
 replace H : (spec_l04Tables.l0 k1 l0 t280 y300 (wrap64 (x5_1 + 1))) = some r := by first | (rw [hy300]; with_reducible exact H) | (have H2_ := (Option.bind_some _ _).symm.trans H; rw [hy300]; with_reducible exact H2_) | (have H2_ := (Option.bind_some _ _).symm.trans H; with_reducible exact H2_) | with_reducible exact H | (rw [hy300]; exact H) | exact H
 have Ny300 := Aside0.mk hy300
 clear hy300
 have H' := Aside0.mk H
 clear H
 have p284 : 0 ≤ (0 : Int) := (by omega)
 have q284 : 0 < (l0.length : Int) := of_decide_eq_true zA
 obtain ⟨ad284, A284_1, c284_1, A284_2, c284_2, e284, hx284_0, hx284_1, hx284_2, hl284_1, hi284_1, hl284_2, hi284_2⟩ := at_T29 HR0.out 0 p284 q284
 obtain rfl : adp0 = ad284 := (by injection e284)
 have qi284 : (0 < l0.length) = True := eq_true (by omega)
 try simp only [z00, Nat.zero_mul, Addr.add_zero'] at hx284_0 hx284_1 hx284_2
 replace hx284_0 := zc HB hx284_0
 replace hx284_1 := zc HB hx284_1
 replace hx284_2 := zc HB hx284_2
 have HR284_1 := Aside0.mk hi284_1
 have HC284_1 := Aside0.mk hl284_1
 clear hi284_1 hl284_1
 have HR284_2 := Aside0.mk hi284_2
 have HC284_2 := Aside0.mk hl284_2
 clear hi284_2 hl284_2
 replace p284 := eq_true p284
 replace q284 := eq_true q284
 have p285 : 0 ≤ (0 : Int) := (by omega)
 have q285 : 0 < (l0.length : Int) := of_decide_eq_true zA
 obtain ⟨ad285, A285_1, c285_1, A285_2, c285_2, e285, hx285_0, hx285_1, hx285_2, hl285_1, hi285_1, hl285_2, hi285_2⟩ := at_T29 HR0.out 0 p285 q285
 obtain rfl : adp0 = ad285 := (by injection e285)
 have qi285 : (0 < l0.length) = True := eq_true (by omega)
 try simp only [z00, Nat.zero_mul, Addr.add_zero'] at hx285_0 hx285_1 hx285_2
 replace hx285_0 := zc HB hx285_0
 replace hx285_1 := zc HB hx285_1
 replace hx285_2 := zc HB hx285_2
 have HR285_1 := Aside0.mk hi285_1
 have HC285_1 := Aside0.mk hl285_1
 clear hi285_1 hl285_1
 have HR285_2 := Aside0.mk hi285_2
 have HC285_2 := Aside0.mk hl285_2
 clear hi285_2 hl285_2
 replace p285 := eq_true p285
 replace q285 := eq_true q285
 have ea_ := Option.some.inj (hx284_1.symm.trans hx285_1)
 injection ea_ with ea_ en_ ec_
 subst ea_
 subst ec_
 clear en_
 have ea_ := Option.some.inj (hx284_2.symm.trans hx285_2)
 injection ea_ with ea_ en_ ec_
 subst ea_
 subst ec_
 clear en_
 have p286 : 0 ≤ (x5_1 : Int) := of_decide_eq_true zA
 have q286 : x5_1 < (((rd_T29 l0 0).f1).length : Int) := of_decide_eq_true zA
 obtain ⟨ad286, e286, hx286_0, hx286_1, hx286_2⟩ := at_T61 HR285_1.out x5_1 p286 q286
 cases e286
 replace hx286_0 := zc HB hx286_0
 replace hx286_1 := zc HB hx286_1
 replace hx286_2 := zc HB hx286_2
 replace p286 := eq_true p286
 replace q286 := eq_true q286
 go_wp2_with (first | ((with_reducible refine gate_dst (N := 6) rfl ?_); refine zbx 6 #[.int .i8 0, .int .i16 0, .int .i16 0] 61 ?_; intro gb287 hg w31 hbox hb; have n_ : _ ∧ _ ∧ _ ∧ _ ∧ _ := ⟨zr HO_4 hb, zb HB hb, Aside0.mk (hbox), zg HB hg, zg HB hg⟩; clear HO_4 HB; obtain ⟨HO_4, HB, BK287, GW287, GE287⟩ := n_; clear hb hbox hg; obtain ⟨z32_0, z32_1, z32_2, y32_0, y32_1, y32_2⟩ := zB3 BK287; obtain ⟨Ao33, co33, eo33⟩ := Kd.R_slice HO_4.out; subst eo33; have p298 : 0 ≤ (((rd_T61 ((rd_T29 l0 0).f1) x5_1).f1) : Int) := of_decide_eq_true zA; have q298 : ((rd_T61 ((rd_T29 l0 0).f1) x5_1).f1) < (x4_1.length : Int) := of_decide_eq_true zA; obtain ⟨ad298, e298, hx298_0⟩ := Kd.at_int (Kd.R_reads' HO_4.out).2.2 ((rd_T61 ((rd_T29 l0 0).f1) x5_1).f1) p298 q298; cases e298; have hn298_0 : ad298.block ≠ gb287 := Kd.own_blk (Kd.R_ne HO_4.out BK287.out (by decide)); have hn298_1 : ad298.block ≠ gb287 := Kd.own_blk (Kd.R_ne HO_4.out BK287.out (by decide)); have hn298_2 : ad298.block ≠ gb287 := Kd.own_blk (Kd.R_ne HO_4.out BK287.out (by decide)); replace hx298_0 := (cell_far (p := ⟨gb287, 0, none⟩) (by first | (rw [add_block]; exact hn298_0) | (show (Addr.add _ _).block ≠ _; rw [add_block]; exact hn298_0) | exact hn298_0) (.int .i8 ((rd_T61 ((rd_T29 l0 0).f1) x5_1).f0))).trans hx298_0; replace hx298_0 := (cell_far (p := ⟨gb287, 1, none⟩) (by first | (rw [add_block]; exact hn298_1) | (show (Addr.add _ _).block ≠ _; rw [add_block]; exact hn298_1) | exact hn298_1) (.int .i16 ((rd_T61 ((rd_T29 l0 0).f1) x5_1).f1))).trans hx298_0; replace hx298_0 := (cell_far (p := ⟨gb287, 2, none⟩) (by first | (rw [add_block]; exact hn298_2) | (show (Addr.add _ _).block ≠ _; rw [add_block]; exact hn298_2) | exact hn298_2) (.int .i16 ((rd_T61 ((rd_T29 l0 0).f1) x5_1).f2))).trans hx298_0; (try have hy298_0 := fun (n_ : Nat) => (show (((((w31.drewN n_).setCell ⟨gb287, 0, none⟩ (.int .i8 ((rd_T61 ((rd_T29 l0 0).f1) x5_1).f0))).setCell ⟨gb287, 1, none⟩ (.int .i16 ((rd_T61 ((rd_T29 l0 0).f1) x5_1).f1))).setCell ⟨gb287, 2, none⟩ (.int .i16 ((rd_T61 ((rd_T29 l0 0).f1) x5_1).f2)))).cell? _ = some _ from hx298_0)); clear hn298_0; clear hn298_1; clear hn298_2; replace p298 := eq_true p298; replace q298 := eq_true q298; have p299 : 0 ≤ (((rd_T61 ((rd_T29 l0 0).f1) x5_1).f2) : Int) := of_decide_eq_true zA; have q299 : ((rd_T61 ((rd_T29 l0 0).f1) x5_1).f2) < (x4_1.length : Int) := of_decide_eq_true zA; obtain ⟨ad299, e299, hx299_0⟩ := Kd.at_int (Kd.R_reads' HO_4.out).2.2 ((rd_T61 ((rd_T29 l0 0).f1) x5_1).f2) p299 q299; obtain rfl : ad298 = ad299 := (by injection e299); have hn299_0 : ad298.block ≠ gb287 := Kd.own_blk (Kd.R_ne HO_4.out BK287.out (by decide)); have hn299_1 : ad298.block ≠ gb287 := Kd.own_blk (Kd.R_ne HO_4.out BK287.out (by decide)); have hn299_2 : ad298.block ≠ gb287 := Kd.own_blk (Kd.R_ne HO_4.out BK287.out (by decide)); replace hx299_0 := (cell_far (p := ⟨gb287, 0, none⟩) (by first | (rw [add_block]; exact hn299_0) | (show (Addr.add _ _).block ≠ _; rw [add_block]; exact hn299_0) | exact hn299_0) (.int .i8 ((rd_T61 ((rd_T29 l0 0).f1) x5_1).f0))).trans hx299_0; replace hx299_0 := (cell_far (p := ⟨gb287, 1, none⟩) (by first | (rw [add_block]; exact hn299_1) | (show (Addr.add _ _).block ≠ _; rw [add_block]; exact hn299_1) | exact hn299_1) (.int .i16 ((rd_T61 ((rd_T29 l0 0).f1) x5_1).f1))).trans hx299_0; replace hx299_0 := (cell_far (p := ⟨gb287, 2, none⟩) (by first | (rw [add_block]; exact hn299_2) | (show (Addr.add _ _).block ≠ _; rw [add_block]; exact hn299_2) | exact hn299_2) (.int .i16 ((rd_T61 ((rd_T29 l0 0).f1) x5_1).f2))).trans hx299_0; (try have hy299_0 := fun (n_ : Nat) => (show (((((w31.drewN n_).setCell ⟨gb287, 0, none⟩ (.int .i8 ((rd_T61 ((rd_T29 l0 0).f1) x5_1).f0))).setCell ⟨gb287, 1, none⟩ (.int .i16 ((rd_T61 ((rd_T29 l0 0).f1) x5_1).f1))).setCell ⟨gb287, 2, none⟩ (.int .i16 ((rd_T61 ((rd_T29 l0 0).f1) x5_1).f2)))).cell? _ = some _ from hx299_0)); clear hn299_0; clear hn299_1; clear hn299_2; replace p299 := eq_true p299; replace q299 := eq_true q299) | ((with_reducible refine gate_builtin (b := .append) (xs := #[.tmp 71, .tmp 73]) rfl ?_); at_builtin; refine Kd.R_append (Kd.int .u64) (w0 := w) w.heap.size rfl (.tmp 71) (.tmp 73) 64 66 (.int .u64 0) 8 rfl Try.underlying64 info66 rfl (by decide) (by omega) (.slice (some ad298) x4_1.length co33) x4_1 (Go.bits .andNot .u64 (rd x4_1 ((rd_T61 ((rd_T29 l0 0).f1) x5_1).f1)) (rd x4_1 ((rd_T61 ((rd_T29 l0 0).f1) x5_1).f2))) [.int .u64 (Go.bits .andNot .u64 (rd x4_1 ((rd_T61 ((rd_T29 l0 0).f1) x5_1).f1)) (rd x4_1 ((rd_T61 ((rd_T29 l0 0).f1) x5_1).f2)))] (fun _ => True) (fun _ => False) rfl (by first | (go_simp; done) | (go_simp; rfl)) ?aP (fun _ hk => hk.elim) ?aF ?aO ?aB ?aS ?aL ?_; (case aP => exact rfl); (case aB => exact zbo); (case aF => exact (fun _ _ => trivial)); (case aO => exact (Kd.R_mono (zs HO_4 BK287).out (fun _ hk => trivial))); (case aS => exact (zz HB)); (case aL => have := LMc30.out; omega); intro v301 w34 ho hb hg hat; rw [← Ny300.out] at ho; have n_ : _ ∧ _ ∧ _ := ⟨Aside0.mk (blk_grown (g := gb287) (o := .cells #[.int .i8 ((rd_T61 ((rd_T29 l0 0).f1) x5_1).f0), .int .i16 ((rd_T61 ((rd_T29 l0 0).f1) x5_1).f1), .int .i16 ((rd_T61 ((rd_T29 l0 0).f1) x5_1).f2)] 61 (0, 0)) (zp BK287) hg (Kd.R_ne HO_4.out BK287.out (by decide))), Aside0.mk (hb), Aside0.mk (ho)⟩; clear BK287 HB HO_4; obtain ⟨BK287, HB, HO302⟩ := n_; clear ho hb hg hat) | go_quiet (fail))
 go_roundg k1
 case measure => have := HK1.out; omega
 case rel => exact ⟨(y300), (wrap64 (x5_1 + 1)), zi, H', ⟨by have := HK1.out; omega⟩, ze HO302, zba⟩
end Go.Proofs.Ytkflenibdijnaaa.PFnAdders
