-- WRITTEN by xprint.py, a program of this session's. Not trusted: Lean checks it.
-- packed by pack.py
import Derived.Test.YtkflenibdijnaaaPFnExactAdderOfx0
import Derived.Test.YtkflenibdijnaaaPFnExactAdderOfx7
import Derived.Test.YtkflenibdijnaaaTFnExactAdderOfa
namespace Go.Proofs.Ytkflenibdijnaaa.PFnExactAdderOf
open Go.RowKit Go.Proofs.YtkflenibdijnaaaW.PrintWords Go.Proofs.YtkflenibdijnaaaW.PrintLast Go.Proofs.YtkflenibdijnaaaW.PrintMore Go.Proofs.YtkflenibdijnaaaX
attribute [local go_sem] max2_int min2_int max_two min_two max_three min_three max_four min_four   -- for this text's walks alone
set_option maxHeartbeats 8000000
set_option maxRecDepth 100000
set_option linter.unusedVariables false
set_option linter.unusedSimpArgs false

def spec_l04Tables.l0 : Nat → List (S29) → Int → List Int → Int → Option (List Int)
  | 0, _, _, _, _ => none
  | k + 1, x0, x3, x4, x5 => if 0 < (x0.length : Int) then (if x5 < (((rd_T29 x0 0).f1).length : Int) then (if 0 ≤ x5 then (if ((rd_T61 ((rd_T29 x0 0).f1) x5).f0) = 0 then ((spec_l04Input.f k (wrap64 ((rd_T29 x0 0).f0)) (wrap64 ((rd_T61 ((rd_T29 x0 0).f1) x5).f1))).bind fun t274 => (if x4.length < 17592186044416 then (spec_l04Tables.l0 k x0 x3 (x4 ++ [t274]) (wrap64 (x5 + 1))) else (none))) else (if ((rd_T61 ((rd_T29 x0 0).f1) x5).f0) = 2 then (if 0 ≤ ((rd_T61 ((rd_T29 x0 0).f1) x5).f1) then (if ((rd_T61 ((rd_T29 x0 0).f1) x5).f1) < (x4.length : Int) then (if 0 ≤ ((rd_T61 ((rd_T29 x0 0).f1) x5).f2) then (if ((rd_T61 ((rd_T29 x0 0).f1) x5).f2) < (x4.length : Int) then (if x4.length < 17592186044416 then (spec_l04Tables.l0 k x0 x3 (x4 ++ [Go.bits .or .u64 (rd x4 ((rd_T61 ((rd_T29 x0 0).f1) x5).f1)) (rd x4 ((rd_T61 ((rd_T29 x0 0).f1) x5).f2))]) (wrap64 (x5 + 1))) else (none)) else (none)) else (none)) else (none)) else (none)) else (if ((rd_T61 ((rd_T29 x0 0).f1) x5).f0) = 3 then (if 0 ≤ ((rd_T61 ((rd_T29 x0 0).f1) x5).f1) then (if ((rd_T61 ((rd_T29 x0 0).f1) x5).f1) < (x4.length : Int) then (if 0 ≤ ((rd_T61 ((rd_T29 x0 0).f1) x5).f2) then (if ((rd_T61 ((rd_T29 x0 0).f1) x5).f2) < (x4.length : Int) then (if x4.length < 17592186044416 then (spec_l04Tables.l0 k x0 x3 (x4 ++ [Go.bits .andNot .u64 (rd x4 ((rd_T61 ((rd_T29 x0 0).f1) x5).f1)) (rd x4 ((rd_T61 ((rd_T29 x0 0).f1) x5).f2))]) (wrap64 (x5 + 1))) else (none)) else (none)) else (none)) else (none)) else (none)) else (if x4.length < 17592186044416 then (spec_l04Tables.l0 k x0 x3 (x4 ++ [x3]) (wrap64 (x5 + 1))) else (none))))) else (none)) else (some x4)) else (none)
def spec_l04Tables.f (k : Nat) (l0 : List (S29)) : Option (List Int) := if 0 < (l0.length : Int) then ((spec_l04Full.f (wrap64 ((rd_T29 l0 0).f0))).bind fun t265 => (spec_l04Tables.l0 k l0 t265 (([] : List Int)) 0)) else (none)
theorem spec_l04Tables.mono_l : ∀ k, (∀ y0 y1 y2 y3, LeO (spec_l04Tables.l0 k y0 y1 y2 y3) (spec_l04Tables.l0 (k + 1) y0 y1 y2 y3))
  | 0 => fun _ _ _ _ r h => by simp [spec_l04Tables.l0] at h
  | k + 1 => by
    have ih0 := spec_l04Tables.mono_l k
    · intro y0 y1 y2 y3
      unfold spec_l04Tables.l0
      repeat' first | (with_reducible first | apply ih0 | apply spec_l04Input.mono | exact LeO.refl _ | exact LeO.none _ | refine LeO.ite ?_ ?_ | refine LeO.bind ?_ (fun _ => ?_)) | apply ih0 | apply spec_l04Input.mono | exact LeO.none _ | refine LeO.ite ?_ ?_ | refine LeO.bind ?_ (fun _ => ?_)
theorem spec_l04Tables.mono : ∀ a0 k, LeO (spec_l04Tables.f k a0) (spec_l04Tables.f (k + 1) a0) := by
 intro a0 k
 have ih0 := spec_l04Tables.mono_l k
 unfold spec_l04Tables.f
 repeat' first | (with_reducible first | apply ih0 | apply spec_l04Input.mono | exact LeO.refl _ | exact LeO.none _ | refine LeO.ite ?_ ?_ | refine LeO.bind ?_ (fun _ => ?_)) | apply ih0 | apply spec_l04Input.mono | exact LeO.none _ | refine LeO.ite ?_ ?_ | refine LeO.bind ?_ (fun _ => ?_)
theorem spec_l04Tables.calls (k : Nat) (adp0 : Addr) (l0 : List (S29)) (r : List Int) (w : World) (hr0 : Kd.C k29 w (some adp0) l0.length l0) (h : spec_l04Tables.f k l0 = some r) :
    Calls Try.prog 56 #[.pointer (some adp0)] w fun e w' => ∃ v0_ : Value, e = .returned (v0_) ∧ Kd.R (Kd.int .u64) 66 w' w.heap.size (fun _ => True) v0_ r ∧ Below w.heap.size w w' := by
 have hu61 := Try.underlying61
 have HR0 := Aside0.mk hr0
 clear hr0
 have HB := Aside0.mk (Below.refl w.heap.size w)
 have H : (if 0 < (l0.length : Int) then ((spec_l04Full.f (wrap64 ((rd_T29 l0 0).f0))).bind fun t265 => (spec_l04Tables.l0 k l0 t265 (([] : List Int)) 0)) else (none)) = some r := h
 clear h
 by_cases c2 : 0 < (l0.length : Int)
 rotate_left
 ·rw [if_neg c2] at H
  exact absurd H (by simp)
 rw [if_pos c2] at H
 have c2b0 : decide (0 < (l0.length : Int)) = true := decide_eq_true c2
 have c2b1 : decide (0 < l0.length) = true := decide_eq_true (by omega)
 clear c2
 replace H := zob H
 obtain ⟨t265, A30, H⟩ := H
 replace H : (spec_l04Tables.l0 k l0 t265 (([] : List Int)) 0) = some r := H
 have A3 := Aside0.mk A30
 clear A30
 obtain ⟨y266, hy266⟩ : ∃ y_ : List Int, y_ = (([] : List Int)) := ⟨_, rfl⟩
 replace H : (spec_l04Tables.l0 k l0 t265 y266 0) = some r := by first | (rw [hy266]; with_reducible exact H) | (have H2_ := (Option.bind_some _ _).symm.trans H; rw [hy266]; with_reducible exact H2_) | (have H2_ := (Option.bind_some _ _).symm.trans H; with_reducible exact H2_) | with_reducible exact H | (rw [hy266]; exact H) | exact H
 have Ny266 := Aside0.mk hy266
 clear hy266
 have H' := Aside0.mk H
 clear H
 have p264 : 0 ≤ (0 : Int) := (by omega)
 have q264 : 0 < (l0.length : Int) := of_decide_eq_true zA
 obtain ⟨ad264, A264_1, c264_1, A264_2, c264_2, e264, hx264_0, hx264_1, hx264_2, hl264_1, hi264_1, hl264_2, hi264_2⟩ := at_T29 HR0.out 0 p264 q264
 obtain rfl : adp0 = ad264 := (by injection e264)
 have qi264 : (0 < l0.length) = True := eq_true (by omega)
 try simp only [z00, Nat.zero_mul, Addr.add_zero'] at hx264_0 hx264_1 hx264_2
 have HR264_1 := Aside0.mk hi264_1
 have HC264_1 := Aside0.mk hl264_1
 clear hi264_1 hl264_1
 have HR264_2 := Aside0.mk hi264_2
 have HC264_2 := Aside0.mk hl264_2
 clear hi264_2 hl264_2
 replace p264 := eq_true p264
 replace q264 := eq_true q264
 go_enter Try.func56, Try.ntmps56
 go_wp2_with (first | (go_at_call 61; (with_reducible refine (spec_l04Full.calls (wrap64 ((rd_T29 l0 0).f0)) t265 _ A3.out).mono ?_); rintro e w' ⟨rfl, ⟨nd, rfl⟩⟩; (try first | exact ⟨rfl, _, World.drewN_drewN _ _ _⟩ | exact ⟨rfl, _, Eq.trans (World.drewN_drewN _ _ _) (congrArg (World.drewN _) (Nat.add_assoc _ _ _))⟩)) | ((with_reducible refine gate_dst (N := 14) rfl ?_); refine Kd.R_lit (Kd.int .u64) _ 66 ?hg (N := 14) ?hd (xs := ([] : List Int)) (inner := []) (ok := fun _ => True) (okp := fun _ => True) ?hr ?hp (fun _ hk => hk) trivial (Below.refl _ _) (Nat.le_refl _) (by simp) ?_; (case hd => rfl); (case hg => rfl); (case hr => exact zgs); (case hp => exact (Reps.none _ _)); intro v267 w4 ho5 hb hg_ hnew_; clear hg_ hnew_; (first | rw [← Ny266.out] at ho5 | (simp only [Int.reduceToNat] at ho5; rw [← Ny266.out] at ho5)); have n_ : _ ∧ _ := ⟨Aside0.mk (Kd.R_lower ho5 (zz HB)), zb HB hb⟩; clear HB; obtain ⟨HO268, HB⟩ := n_; clear hb ho5) | go_quiet (first | (go_at_call 61; (with_reducible refine (spec_l04Full.calls (wrap64 ((rd_T29 l0 0).f0)) t265 _ A3.out).mono ?_); rintro e w' ⟨rfl, ⟨nd, rfl⟩⟩; (try first | exact ⟨rfl, _, World.drewN_drewN _ _ _⟩ | exact ⟨rfl, _, Eq.trans (World.drewN_drewN _ _ _) (congrArg (World.drewN _) (Nat.add_assoc _ _ _))⟩))))
 go_loopg [4, 5] k (fun kq v4 v5 w' => ∃ (x4_1 : List Int) (x5_1 : Int), v5 = .int .i64 x5_1 ∧ Aside0 (spec_l04Tables.l0 kq l0 t265 x4_1 x5_1 = some r) ∧ Aside0 (kq ≤ k) ∧ Aside0 (Kd.R (Kd.int .u64) 66 w' w.heap.size (fun _ => True) v4 x4_1) ∧ Aside0 (Below w.heap.size w w'))
 case atStart => exact ⟨(y266), (0), zi, H', ⟨Nat.le_refl _⟩, ze HO268, zl HB⟩
 clear H'
 try clear c2
 try clear c2b0
 try clear c2b1
 try clear p2
 try clear q2
 try clear hx2
 try clear qi2
 try clear c5
 try clear hx264_0
 try clear hx264_1
 try clear hx264_2
 try clear p264
 try clear q264
 obtain ⟨x4_1, x5_1, rfl, HA, HK1, HO_4, HB⟩ := hrel
 cases gk with
 | zero => exact absurd HA.out (by simp [spec_l04Tables.l0])
 | succ k1 => ?_
 have H := HA.out
 clear HA
 simp only [spec_l04Tables.l0] at H
 by_cases c6 : 0 < (l0.length : Int)
 rotate_left
 ·rw [if_neg c6] at H
  exact absurd H (by simp)
 rw [if_pos c6] at H
 have c6b0 : decide (0 < (l0.length : Int)) = true := decide_eq_true c6
 have c6b1 : decide (0 < l0.length) = true := decide_eq_true (by omega)
 clear c6
 by_cases c7 : x5_1 < (((rd_T29 l0 0).f1).length : Int)
 rotate_left
 ·rw [if_neg c7] at H
  have c7b0 : decide (x5_1 < (((rd_T29 l0 0).f1).length : Int)) = false := decide_eq_false c7
  clear c7
  obtain rfl := Option.some.inj H
  have p269 : 0 ≤ (0 : Int) := (by omega)
  have q269 : 0 < (l0.length : Int) := of_decide_eq_true zA
  obtain ⟨ad269, A269_1, c269_1, A269_2, c269_2, e269, hx269_0, hx269_1, hx269_2, hl269_1, hi269_1, hl269_2, hi269_2⟩ := at_T29 HR0.out 0 p269 q269
  obtain rfl : adp0 = ad269 := (by injection e269)
  have qi269 : (0 < l0.length) = True := eq_true (by omega)
  try simp only [z00, Nat.zero_mul, Addr.add_zero'] at hx269_0 hx269_1 hx269_2
  replace hx269_0 := zc HB hx269_0
  replace hx269_1 := zc HB hx269_1
  replace hx269_2 := zc HB hx269_2
  have HR269_1 := Aside0.mk hi269_1
  have HC269_1 := Aside0.mk hl269_1
  clear hi269_1 hl269_1
  have HR269_2 := Aside0.mk hi269_2
  have HC269_2 := Aside0.mk hl269_2
  clear hi269_2 hl269_2
  replace p269 := eq_true p269
  replace q269 := eq_true q269
  go_wp2
  repeat (go_quiet (fail); try go_wp2)
  go_ret
  exact ⟨_, zv, by (with_reducible repeat (first | apply Kd.R_alloc | apply Kd.R_drewN | apply Kd.R_drew)); exact HO_4.out, zbo⟩
 rw [if_pos c7] at H
 have c7b0 : decide (x5_1 < (((rd_T29 l0 0).f1).length : Int)) = true := decide_eq_true c7
 clear c7
 by_cases c8 : 0 ≤ x5_1
 rotate_left
 ·rw [if_neg c8] at H
  exact absurd H (by simp)
 rw [if_pos c8] at H
 have c8b0 : decide (0 ≤ x5_1) = true := decide_eq_true c8
 clear c8
 by_cases c9 : ((rd_T61 ((rd_T29 l0 0).f1) x5_1).f0) = 0
 ·rw [if_pos c9] at H
  have c9b0 : (((rd_T61 ((rd_T29 l0 0).f1) x5_1).f0) == 0) = true := beq_iff_eq.mpr c9
  have c9b1 : (((rd_T61 ((rd_T29 l0 0).f1) x5_1).f0) != 0) = false := bne_eq_false_iff_eq.mpr c9
  clear c9
  replace H := zob H
  obtain ⟨t274, A100, H⟩ := H
  replace H : (if x4_1.length < 17592186044416 then (spec_l04Tables.l0 k1 l0 t265 (x4_1 ++ [t274]) (wrap64 (x5_1 + 1))) else (none)) = some r := H
  have A10 := Aside0.mk A100
  clear A100
  by_cases c11 : x4_1.length < 17592186044416
  rotate_left
  ·rw [if_neg c11] at H
   exact absurd H (by simp)
  rw [if_pos c11] at H
  have LMc11 := Aside0.mk c11
  clear c11
  obtain ⟨y275, hy275⟩ : ∃ y_ : List Int, y_ = (x4_1 ++ [t274]) := ⟨_, rfl⟩
  replace H : (spec_l04Tables.l0 k1 l0 t265 y275 (wrap64 (x5_1 + 1))) = some r := by first | (rw [hy275]; with_reducible exact H) | (have H2_ := (Option.bind_some _ _).symm.trans H; rw [hy275]; with_reducible exact H2_) | (have H2_ := (Option.bind_some _ _).symm.trans H; with_reducible exact H2_) | with_reducible exact H | (rw [hy275]; exact H) | exact H
  have Ny275 := Aside0.mk hy275
  clear hy275
  have H' := Aside0.mk H
  clear H
  have p269 : 0 ≤ (0 : Int) := (by omega)
  have q269 : 0 < (l0.length : Int) := of_decide_eq_true zA
  obtain ⟨ad269, A269_1, c269_1, A269_2, c269_2, e269, hx269_0, hx269_1, hx269_2, hl269_1, hi269_1, hl269_2, hi269_2⟩ := at_T29 HR0.out 0 p269 q269
  obtain rfl : adp0 = ad269 := (by injection e269)
  have qi269 : (0 < l0.length) = True := eq_true (by omega)
  try simp only [z00, Nat.zero_mul, Addr.add_zero'] at hx269_0 hx269_1 hx269_2
  replace hx269_0 := zc HB hx269_0
  replace hx269_1 := zc HB hx269_1
  replace hx269_2 := zc HB hx269_2
  have HR269_1 := Aside0.mk hi269_1
  have HC269_1 := Aside0.mk hl269_1
  clear hi269_1 hl269_1
  have HR269_2 := Aside0.mk hi269_2
  have HC269_2 := Aside0.mk hl269_2
  clear hi269_2 hl269_2
  replace p269 := eq_true p269
  replace q269 := eq_true q269
  have p270 : 0 ≤ (0 : Int) := (by omega)
  have q270 : 0 < (l0.length : Int) := of_decide_eq_true zA
  obtain ⟨ad270, A270_1, c270_1, A270_2, c270_2, e270, hx270_0, hx270_1, hx270_2, hl270_1, hi270_1, hl270_2, hi270_2⟩ := at_T29 HR0.out 0 p270 q270
  obtain rfl : adp0 = ad270 := (by injection e270)
  have qi270 : (0 < l0.length) = True := eq_true (by omega)
  try simp only [z00, Nat.zero_mul, Addr.add_zero'] at hx270_0 hx270_1 hx270_2
  replace hx270_0 := zc HB hx270_0
  replace hx270_1 := zc HB hx270_1
  replace hx270_2 := zc HB hx270_2
  have HR270_1 := Aside0.mk hi270_1
  have HC270_1 := Aside0.mk hl270_1
  clear hi270_1 hl270_1
  have HR270_2 := Aside0.mk hi270_2
  have HC270_2 := Aside0.mk hl270_2
  clear hi270_2 hl270_2
  replace p270 := eq_true p270
  replace q270 := eq_true q270
  have ea_ := Option.some.inj (hx269_1.symm.trans hx270_1)
  injection ea_ with ea_ en_ ec_
  subst ea_
  subst ec_
  clear en_
  have ea_ := Option.some.inj (hx269_2.symm.trans hx270_2)
  injection ea_ with ea_ en_ ec_
  subst ea_
  subst ec_
  clear en_
  have p271 : 0 ≤ (x5_1 : Int) := of_decide_eq_true zA
  have q271 : x5_1 < (((rd_T29 l0 0).f1).length : Int) := of_decide_eq_true zA
  obtain ⟨ad271, e271, hx271_0, hx271_1, hx271_2⟩ := at_T61 HR270_1.out x5_1 p271 q271
  cases e271
  replace hx271_0 := zc HB hx271_0
  replace hx271_1 := zc HB hx271_1
  replace hx271_2 := zc HB hx271_2
  replace p271 := eq_true p271
  replace q271 := eq_true q271
  go_wp2_with (first | ((with_reducible refine gate_dst (N := 6) rfl ?_); refine zbx 6 #[.int .i8 0, .int .i16 0, .int .i16 0] 61 ?_; intro gb272 hg w12 hbox hb; have n_ : _ ∧ _ ∧ _ ∧ _ ∧ _ := ⟨zr HO_4 hb, zb HB hb, Aside0.mk (hbox), zg HB hg, zg HB hg⟩; clear HO_4 HB; obtain ⟨HO_4, HB, BK272, GW272, GE272⟩ := n_; clear hb hbox hg; obtain ⟨z13_0, z13_1, z13_2, y13_0, y13_1, y13_2⟩ := zB3 BK272; have p273 : 0 ≤ (0 : Int) := (by omega); have q273 : 0 < (l0.length : Int) := of_decide_eq_true zA; obtain ⟨ad273, A273_1, c273_1, A273_2, c273_2, e273, hx273_0, hx273_1, hx273_2, hl273_1, hi273_1, hl273_2, hi273_2⟩ := at_T29 HR0.out 0 p273 q273; obtain rfl : adp0 = ad273 := (by injection e273); have qi273 : (0 < l0.length) = True := eq_true (by omega); (try simp only [z00, Nat.zero_mul, Addr.add_zero'] at hx273_0 hx273_1 hx273_2); have hn273_0 : adp0.block ≠ gb272 := Nat.ne_of_lt (Nat.lt_of_lt_of_le (by have := World.block_lt_of_cell? _ _ hx273_0; first | rwa [add_block] at this | exact this) GW272.out); have hn273_1 : adp0.block ≠ gb272 := Nat.ne_of_lt (Nat.lt_of_lt_of_le (by have := World.block_lt_of_cell? _ _ hx273_0; first | rwa [add_block] at this | exact this) GW272.out); have hn273_2 : adp0.block ≠ gb272 := Nat.ne_of_lt (Nat.lt_of_lt_of_le (by have := World.block_lt_of_cell? _ _ hx273_0; first | rwa [add_block] at this | exact this) GW272.out); replace hx273_0 := zc HB hx273_0; replace hx273_1 := zc HB hx273_1; replace hx273_2 := zc HB hx273_2; have HR273_1 := Aside0.mk hi273_1; have HC273_1 := Aside0.mk hl273_1; clear hi273_1 hl273_1; have HR273_2 := Aside0.mk hi273_2; have HC273_2 := Aside0.mk hl273_2; clear hi273_2 hl273_2; replace hx273_0 := (cell_far (p := ⟨gb272, 0, none⟩) (by first | (rw [add_block]; exact hn273_0) | (show (Addr.add _ _).block ≠ _; rw [add_block]; exact hn273_0) | exact hn273_0) (.int .i8 ((rd_T61 ((rd_T29 l0 0).f1) x5_1).f0))).trans hx273_0; replace hx273_1 := (cell_far (p := ⟨gb272, 0, none⟩) (by first | (rw [add_block]; exact hn273_0) | (show (Addr.add _ _).block ≠ _; rw [add_block]; exact hn273_0) | exact hn273_0) (.int .i8 ((rd_T61 ((rd_T29 l0 0).f1) x5_1).f0))).trans hx273_1; replace hx273_2 := (cell_far (p := ⟨gb272, 0, none⟩) (by first | (rw [add_block]; exact hn273_0) | (show (Addr.add _ _).block ≠ _; rw [add_block]; exact hn273_0) | exact hn273_0) (.int .i8 ((rd_T61 ((rd_T29 l0 0).f1) x5_1).f0))).trans hx273_2; replace hx273_0 := (cell_far (p := ⟨gb272, 1, none⟩) (by first | (rw [add_block]; exact hn273_1) | (show (Addr.add _ _).block ≠ _; rw [add_block]; exact hn273_1) | exact hn273_1) (.int .i16 ((rd_T61 ((rd_T29 l0 0).f1) x5_1).f1))).trans hx273_0; replace hx273_1 := (cell_far (p := ⟨gb272, 1, none⟩) (by first | (rw [add_block]; exact hn273_1) | (show (Addr.add _ _).block ≠ _; rw [add_block]; exact hn273_1) | exact hn273_1) (.int .i16 ((rd_T61 ((rd_T29 l0 0).f1) x5_1).f1))).trans hx273_1; replace hx273_2 := (cell_far (p := ⟨gb272, 1, none⟩) (by first | (rw [add_block]; exact hn273_1) | (show (Addr.add _ _).block ≠ _; rw [add_block]; exact hn273_1) | exact hn273_1) (.int .i16 ((rd_T61 ((rd_T29 l0 0).f1) x5_1).f1))).trans hx273_2; replace hx273_0 := (cell_far (p := ⟨gb272, 2, none⟩) (by first | (rw [add_block]; exact hn273_2) | (show (Addr.add _ _).block ≠ _; rw [add_block]; exact hn273_2) | exact hn273_2) (.int .i16 ((rd_T61 ((rd_T29 l0 0).f1) x5_1).f2))).trans hx273_0; replace hx273_1 := (cell_far (p := ⟨gb272, 2, none⟩) (by first | (rw [add_block]; exact hn273_2) | (show (Addr.add _ _).block ≠ _; rw [add_block]; exact hn273_2) | exact hn273_2) (.int .i16 ((rd_T61 ((rd_T29 l0 0).f1) x5_1).f2))).trans hx273_1; replace hx273_2 := (cell_far (p := ⟨gb272, 2, none⟩) (by first | (rw [add_block]; exact hn273_2) | (show (Addr.add _ _).block ≠ _; rw [add_block]; exact hn273_2) | exact hn273_2) (.int .i16 ((rd_T61 ((rd_T29 l0 0).f1) x5_1).f2))).trans hx273_2; (try have hy273_0 := fun (n_ : Nat) => (show (((((w12.drewN n_).setCell ⟨gb272, 0, none⟩ (.int .i8 ((rd_T61 ((rd_T29 l0 0).f1) x5_1).f0))).setCell ⟨gb272, 1, none⟩ (.int .i16 ((rd_T61 ((rd_T29 l0 0).f1) x5_1).f1))).setCell ⟨gb272, 2, none⟩ (.int .i16 ((rd_T61 ((rd_T29 l0 0).f1) x5_1).f2)))).cell? _ = some _ from hx273_0)); (try have hy273_1 := fun (n_ : Nat) => (show (((((w12.drewN n_).setCell ⟨gb272, 0, none⟩ (.int .i8 ((rd_T61 ((rd_T29 l0 0).f1) x5_1).f0))).setCell ⟨gb272, 1, none⟩ (.int .i16 ((rd_T61 ((rd_T29 l0 0).f1) x5_1).f1))).setCell ⟨gb272, 2, none⟩ (.int .i16 ((rd_T61 ((rd_T29 l0 0).f1) x5_1).f2)))).cell? _ = some _ from hx273_1)); (try have hy273_2 := fun (n_ : Nat) => (show (((((w12.drewN n_).setCell ⟨gb272, 0, none⟩ (.int .i8 ((rd_T61 ((rd_T29 l0 0).f1) x5_1).f0))).setCell ⟨gb272, 1, none⟩ (.int .i16 ((rd_T61 ((rd_T29 l0 0).f1) x5_1).f1))).setCell ⟨gb272, 2, none⟩ (.int .i16 ((rd_T61 ((rd_T29 l0 0).f1) x5_1).f2)))).cell? _ = some _ from hx273_2)); clear hn273_0; clear hn273_1; clear hn273_2; replace p273 := eq_true p273; replace q273 := eq_true q273) | (go_at_call 62; (with_reducible refine (spec_l04Input.calls k1 (wrap64 ((rd_T29 l0 0).f0)) (wrap64 ((rd_T61 ((rd_T29 l0 0).f1) x5_1).f1)) t274 _ A10.out).mono ?_); rintro e w' ⟨rfl, ⟨nd, rfl⟩⟩; (try first | exact ⟨rfl, _, World.drewN_drewN _ _ _⟩ | exact ⟨rfl, _, Eq.trans (World.drewN_drewN _ _ _) (congrArg (World.drewN _) (Nat.add_assoc _ _ _))⟩)) | ((with_reducible refine gate_builtin (b := .append) (xs := #[.tmp 71, .tmp 73]) rfl ?_); at_builtin; refine Kd.R_append (Kd.int .u64) (w0 := w) w.heap.size rfl (.tmp 71) (.tmp 73) 64 66 (.int .u64 0) 8 rfl Try.underlying64 info66 rfl (by decide) (by omega) u4 x4_1 t274 [.int .u64 t274] (fun _ => True) (fun _ => False) rfl (by first | (go_simp; done) | (go_simp; rfl)) ?aP (fun _ hk => hk.elim) ?aF ?aO ?aB ?aS ?aL ?_; (case aP => exact rfl); (case aB => exact zbo); (case aF => exact (fun _ _ => trivial)); (case aO => exact (Kd.R_mono (zs HO_4 BK272).out (fun _ hk => trivial))); (case aS => exact (zz HB)); (case aL => have := LMc11.out; omega); intro v276 w14 ho hb hg hat; rw [← Ny275.out] at ho; have n_ : _ ∧ _ ∧ _ := ⟨Aside0.mk (blk_grown (g := gb272) (o := .cells #[.int .i8 ((rd_T61 ((rd_T29 l0 0).f1) x5_1).f0), .int .i16 ((rd_T61 ((rd_T29 l0 0).f1) x5_1).f1), .int .i16 ((rd_T61 ((rd_T29 l0 0).f1) x5_1).f2)] 61 (0, 0)) (zp BK272) hg (Kd.R_ne HO_4.out BK272.out (by decide))), Aside0.mk (hb), Aside0.mk (ho)⟩; clear BK272 HB HO_4; obtain ⟨BK272, HB, HO277⟩ := n_; clear ho hb hg hat) | go_quiet (first | (go_at_call 62; (with_reducible refine (spec_l04Input.calls k1 (wrap64 ((rd_T29 l0 0).f0)) (wrap64 ((rd_T61 ((rd_T29 l0 0).f1) x5_1).f1)) t274 _ A10.out).mono ?_); rintro e w' ⟨rfl, ⟨nd, rfl⟩⟩; (try first | exact ⟨rfl, _, World.drewN_drewN _ _ _⟩ | exact ⟨rfl, _, Eq.trans (World.drewN_drewN _ _ _) (congrArg (World.drewN _) (Nat.add_assoc _ _ _))⟩))))
  go_roundg k1
  case measure => have := HK1.out; omega
  case rel => exact ⟨(y275), (wrap64 (x5_1 + 1)), zi, H', ⟨by have := HK1.out; omega⟩, ze HO277, zba⟩
 rw [if_neg c9] at H
 have c9b0 : (((rd_T61 ((rd_T29 l0 0).f1) x5_1).f0) == 0) = false := beq_eq_false_iff_ne.mpr c9
 have c9b1 : (((rd_T61 ((rd_T29 l0 0).f1) x5_1).f0) != 0) = true := bne_iff_ne.mpr c9
 by_cases c15 : ((rd_T61 ((rd_T29 l0 0).f1) x5_1).f0) = 2
 ·rw [if_pos c15] at H
  have c15b0 : (((rd_T61 ((rd_T29 l0 0).f1) x5_1).f0) == 2) = true := beq_iff_eq.mpr c15
  have c15b1 : (((rd_T61 ((rd_T29 l0 0).f1) x5_1).f0) != 2) = false := bne_eq_false_iff_eq.mpr c15
  clear c15
  by_cases c16 : 0 ≤ ((rd_T61 ((rd_T29 l0 0).f1) x5_1).f1)
  rotate_left
  ·rw [if_neg c16] at H
   exact absurd H (by simp)
  rw [if_pos c16] at H
  have c16b0 : decide (0 ≤ ((rd_T61 ((rd_T29 l0 0).f1) x5_1).f1)) = true := decide_eq_true c16
  clear c16
  by_cases c17 : ((rd_T61 ((rd_T29 l0 0).f1) x5_1).f1) < (x4_1.length : Int)
  rotate_left
  ·rw [if_neg c17] at H
   exact absurd H (by simp)
  rw [if_pos c17] at H
  have c17b0 : decide (((rd_T61 ((rd_T29 l0 0).f1) x5_1).f1) < (x4_1.length : Int)) = true := decide_eq_true c17
  clear c17
  by_cases c18 : 0 ≤ ((rd_T61 ((rd_T29 l0 0).f1) x5_1).f2)
  rotate_left
  ·rw [if_neg c18] at H
   exact absurd H (by simp)
  rw [if_pos c18] at H
  have c18b0 : decide (0 ≤ ((rd_T61 ((rd_T29 l0 0).f1) x5_1).f2)) = true := decide_eq_true c18
  clear c18
  by_cases c19 : ((rd_T61 ((rd_T29 l0 0).f1) x5_1).f2) < (x4_1.length : Int)
  rotate_left
  ·rw [if_neg c19] at H
   exact absurd H (by simp)
  rw [if_pos c19] at H
  have c19b0 : decide (((rd_T61 ((rd_T29 l0 0).f1) x5_1).f2) < (x4_1.length : Int)) = true := decide_eq_true c19
  clear c19
  by_cases c20 : x4_1.length < 17592186044416
  rotate_left
  ·rw [if_neg c20] at H
   exact absurd H (by simp)
  rw [if_pos c20] at H
  have LMc20 := Aside0.mk c20
  clear c20
  obtain ⟨y280, hy280⟩ : ∃ y_ : List Int, y_ = (x4_1 ++ [Go.bits .or .u64 (rd x4_1 ((rd_T61 ((rd_T29 l0 0).f1) x5_1).f1)) (rd x4_1 ((rd_T61 ((rd_T29 l0 0).f1) x5_1).f2))]) := ⟨_, rfl⟩
  replace H : (spec_l04Tables.l0 k1 l0 t265 y280 (wrap64 (x5_1 + 1))) = some r := by first | (rw [hy280]; with_reducible exact H) | (have H2_ := (Option.bind_some _ _).symm.trans H; rw [hy280]; with_reducible exact H2_) | (have H2_ := (Option.bind_some _ _).symm.trans H; with_reducible exact H2_) | with_reducible exact H | (rw [hy280]; exact H) | exact H
  have Ny280 := Aside0.mk hy280
  clear hy280
  have H' := Aside0.mk H
  clear H
  have p269 : 0 ≤ (0 : Int) := (by omega)
  have q269 : 0 < (l0.length : Int) := of_decide_eq_true zA
  obtain ⟨ad269, A269_1, c269_1, A269_2, c269_2, e269, hx269_0, hx269_1, hx269_2, hl269_1, hi269_1, hl269_2, hi269_2⟩ := at_T29 HR0.out 0 p269 q269
  obtain rfl : adp0 = ad269 := (by injection e269)
  have qi269 : (0 < l0.length) = True := eq_true (by omega)
  try simp only [z00, Nat.zero_mul, Addr.add_zero'] at hx269_0 hx269_1 hx269_2
  replace hx269_0 := zc HB hx269_0
  replace hx269_1 := zc HB hx269_1
  replace hx269_2 := zc HB hx269_2
  have HR269_1 := Aside0.mk hi269_1
  have HC269_1 := Aside0.mk hl269_1
  clear hi269_1 hl269_1
  have HR269_2 := Aside0.mk hi269_2
  have HC269_2 := Aside0.mk hl269_2
  clear hi269_2 hl269_2
  replace p269 := eq_true p269
  replace q269 := eq_true q269
  have p270 : 0 ≤ (0 : Int) := (by omega)
  have q270 : 0 < (l0.length : Int) := of_decide_eq_true zA
  obtain ⟨ad270, A270_1, c270_1, A270_2, c270_2, e270, hx270_0, hx270_1, hx270_2, hl270_1, hi270_1, hl270_2, hi270_2⟩ := at_T29 HR0.out 0 p270 q270
  obtain rfl : adp0 = ad270 := (by injection e270)
  have qi270 : (0 < l0.length) = True := eq_true (by omega)
  try simp only [z00, Nat.zero_mul, Addr.add_zero'] at hx270_0 hx270_1 hx270_2
  replace hx270_0 := zc HB hx270_0
  replace hx270_1 := zc HB hx270_1
  replace hx270_2 := zc HB hx270_2
  have HR270_1 := Aside0.mk hi270_1
  have HC270_1 := Aside0.mk hl270_1
  clear hi270_1 hl270_1
  have HR270_2 := Aside0.mk hi270_2
  have HC270_2 := Aside0.mk hl270_2
  clear hi270_2 hl270_2
  replace p270 := eq_true p270
  replace q270 := eq_true q270
  have ea_ := Option.some.inj (hx269_1.symm.trans hx270_1)
  injection ea_ with ea_ en_ ec_
  subst ea_
  subst ec_
  clear en_
  have ea_ := Option.some.inj (hx269_2.symm.trans hx270_2)
  injection ea_ with ea_ en_ ec_
  subst ea_
  subst ec_
  clear en_
  have p271 : 0 ≤ (x5_1 : Int) := of_decide_eq_true zA
  have q271 : x5_1 < (((rd_T29 l0 0).f1).length : Int) := of_decide_eq_true zA
  obtain ⟨ad271, e271, hx271_0, hx271_1, hx271_2⟩ := at_T61 HR270_1.out x5_1 p271 q271
  cases e271
  replace hx271_0 := zc HB hx271_0
  replace hx271_1 := zc HB hx271_1
  replace hx271_2 := zc HB hx271_2
  replace p271 := eq_true p271
  replace q271 := eq_true q271
  go_wp2_with (first | ((with_reducible refine gate_dst (N := 6) rfl ?_); refine zbx 6 #[.int .i8 0, .int .i16 0, .int .i16 0] 61 ?_; intro gb272 hg w21 hbox hb; have n_ : _ ∧ _ ∧ _ ∧ _ ∧ _ := ⟨zr HO_4 hb, zb HB hb, Aside0.mk (hbox), zg HB hg, zg HB hg⟩; clear HO_4 HB; obtain ⟨HO_4, HB, BK272, GW272, GE272⟩ := n_; clear hb hbox hg; obtain ⟨z22_0, z22_1, z22_2, y22_0, y22_1, y22_2⟩ := zB3 BK272; obtain ⟨Ao23, co23, eo23⟩ := Kd.R_slice HO_4.out; subst eo23; have p278 : 0 ≤ (((rd_T61 ((rd_T29 l0 0).f1) x5_1).f1) : Int) := of_decide_eq_true zA; have q278 : ((rd_T61 ((rd_T29 l0 0).f1) x5_1).f1) < (x4_1.length : Int) := of_decide_eq_true zA; obtain ⟨ad278, e278, hx278_0⟩ := Kd.at_int (Kd.R_reads' HO_4.out).2.2 ((rd_T61 ((rd_T29 l0 0).f1) x5_1).f1) p278 q278; cases e278; have hn278_0 : ad278.block ≠ gb272 := Kd.own_blk (Kd.R_ne HO_4.out BK272.out (by decide)); have hn278_1 : ad278.block ≠ gb272 := Kd.own_blk (Kd.R_ne HO_4.out BK272.out (by decide)); have hn278_2 : ad278.block ≠ gb272 := Kd.own_blk (Kd.R_ne HO_4.out BK272.out (by decide)); replace hx278_0 := (cell_far (p := ⟨gb272, 0, none⟩) (by first | (rw [add_block]; exact hn278_0) | (show (Addr.add _ _).block ≠ _; rw [add_block]; exact hn278_0) | exact hn278_0) (.int .i8 ((rd_T61 ((rd_T29 l0 0).f1) x5_1).f0))).trans hx278_0; replace hx278_0 := (cell_far (p := ⟨gb272, 1, none⟩) (by first | (rw [add_block]; exact hn278_1) | (show (Addr.add _ _).block ≠ _; rw [add_block]; exact hn278_1) | exact hn278_1) (.int .i16 ((rd_T61 ((rd_T29 l0 0).f1) x5_1).f1))).trans hx278_0; replace hx278_0 := (cell_far (p := ⟨gb272, 2, none⟩) (by first | (rw [add_block]; exact hn278_2) | (show (Addr.add _ _).block ≠ _; rw [add_block]; exact hn278_2) | exact hn278_2) (.int .i16 ((rd_T61 ((rd_T29 l0 0).f1) x5_1).f2))).trans hx278_0; (try have hy278_0 := fun (n_ : Nat) => (show (((((w21.drewN n_).setCell ⟨gb272, 0, none⟩ (.int .i8 ((rd_T61 ((rd_T29 l0 0).f1) x5_1).f0))).setCell ⟨gb272, 1, none⟩ (.int .i16 ((rd_T61 ((rd_T29 l0 0).f1) x5_1).f1))).setCell ⟨gb272, 2, none⟩ (.int .i16 ((rd_T61 ((rd_T29 l0 0).f1) x5_1).f2)))).cell? _ = some _ from hx278_0)); clear hn278_0; clear hn278_1; clear hn278_2; replace p278 := eq_true p278; replace q278 := eq_true q278; have p279 : 0 ≤ (((rd_T61 ((rd_T29 l0 0).f1) x5_1).f2) : Int) := of_decide_eq_true zA; have q279 : ((rd_T61 ((rd_T29 l0 0).f1) x5_1).f2) < (x4_1.length : Int) := of_decide_eq_true zA; obtain ⟨ad279, e279, hx279_0⟩ := Kd.at_int (Kd.R_reads' HO_4.out).2.2 ((rd_T61 ((rd_T29 l0 0).f1) x5_1).f2) p279 q279; obtain rfl : ad278 = ad279 := (by injection e279); have hn279_0 : ad278.block ≠ gb272 := Kd.own_blk (Kd.R_ne HO_4.out BK272.out (by decide)); have hn279_1 : ad278.block ≠ gb272 := Kd.own_blk (Kd.R_ne HO_4.out BK272.out (by decide)); have hn279_2 : ad278.block ≠ gb272 := Kd.own_blk (Kd.R_ne HO_4.out BK272.out (by decide)); replace hx279_0 := (cell_far (p := ⟨gb272, 0, none⟩) (by first | (rw [add_block]; exact hn279_0) | (show (Addr.add _ _).block ≠ _; rw [add_block]; exact hn279_0) | exact hn279_0) (.int .i8 ((rd_T61 ((rd_T29 l0 0).f1) x5_1).f0))).trans hx279_0; replace hx279_0 := (cell_far (p := ⟨gb272, 1, none⟩) (by first | (rw [add_block]; exact hn279_1) | (show (Addr.add _ _).block ≠ _; rw [add_block]; exact hn279_1) | exact hn279_1) (.int .i16 ((rd_T61 ((rd_T29 l0 0).f1) x5_1).f1))).trans hx279_0; replace hx279_0 := (cell_far (p := ⟨gb272, 2, none⟩) (by first | (rw [add_block]; exact hn279_2) | (show (Addr.add _ _).block ≠ _; rw [add_block]; exact hn279_2) | exact hn279_2) (.int .i16 ((rd_T61 ((rd_T29 l0 0).f1) x5_1).f2))).trans hx279_0; (try have hy279_0 := fun (n_ : Nat) => (show (((((w21.drewN n_).setCell ⟨gb272, 0, none⟩ (.int .i8 ((rd_T61 ((rd_T29 l0 0).f1) x5_1).f0))).setCell ⟨gb272, 1, none⟩ (.int .i16 ((rd_T61 ((rd_T29 l0 0).f1) x5_1).f1))).setCell ⟨gb272, 2, none⟩ (.int .i16 ((rd_T61 ((rd_T29 l0 0).f1) x5_1).f2)))).cell? _ = some _ from hx279_0)); clear hn279_0; clear hn279_1; clear hn279_2; replace p279 := eq_true p279; replace q279 := eq_true q279) | ((with_reducible refine gate_builtin (b := .append) (xs := #[.tmp 71, .tmp 73]) rfl ?_); at_builtin; refine Kd.R_append (Kd.int .u64) (w0 := w) w.heap.size rfl (.tmp 71) (.tmp 73) 64 66 (.int .u64 0) 8 rfl Try.underlying64 info66 rfl (by decide) (by omega) (.slice (some ad278) x4_1.length co23) x4_1 (Go.bits .or .u64 (rd x4_1 ((rd_T61 ((rd_T29 l0 0).f1) x5_1).f1)) (rd x4_1 ((rd_T61 ((rd_T29 l0 0).f1) x5_1).f2))) [.int .u64 (Go.bits .or .u64 (rd x4_1 ((rd_T61 ((rd_T29 l0 0).f1) x5_1).f1)) (rd x4_1 ((rd_T61 ((rd_T29 l0 0).f1) x5_1).f2)))] (fun _ => True) (fun _ => False) rfl (by first | (go_simp; done) | (go_simp; rfl)) ?aP (fun _ hk => hk.elim) ?aF ?aO ?aB ?aS ?aL ?_; (case aP => exact rfl); (case aB => exact zbo); (case aF => exact (fun _ _ => trivial)); (case aO => exact (Kd.R_mono (zs HO_4 BK272).out (fun _ hk => trivial))); (case aS => exact (zz HB)); (case aL => have := LMc20.out; omega); intro v281 w24 ho hb hg hat; rw [← Ny280.out] at ho; have n_ : _ ∧ _ ∧ _ := ⟨Aside0.mk (blk_grown (g := gb272) (o := .cells #[.int .i8 ((rd_T61 ((rd_T29 l0 0).f1) x5_1).f0), .int .i16 ((rd_T61 ((rd_T29 l0 0).f1) x5_1).f1), .int .i16 ((rd_T61 ((rd_T29 l0 0).f1) x5_1).f2)] 61 (0, 0)) (zp BK272) hg (Kd.R_ne HO_4.out BK272.out (by decide))), Aside0.mk (hb), Aside0.mk (ho)⟩; clear BK272 HB HO_4; obtain ⟨BK272, HB, HO282⟩ := n_; clear ho hb hg hat) | go_quiet (fail))
  go_roundg k1
  case measure => have := HK1.out; omega
  case rel => exact ⟨(y280), (wrap64 (x5_1 + 1)), zi, H', ⟨by have := HK1.out; omega⟩, ze HO282, zba⟩
 rw [if_neg c15] at H
 have c15b0 : (((rd_T61 ((rd_T29 l0 0).f1) x5_1).f0) == 2) = false := beq_eq_false_iff_ne.mpr c15
 have c15b1 : (((rd_T61 ((rd_T29 l0 0).f1) x5_1).f0) != 2) = true := bne_iff_ne.mpr c15
 by_cases c25 : ((rd_T61 ((rd_T29 l0 0).f1) x5_1).f0) = 3
 rotate_left
 ·rw [if_neg c25] at H
  have c25b0 : (((rd_T61 ((rd_T29 l0 0).f1) x5_1).f0) == 3) = false := beq_eq_false_iff_ne.mpr c25
  have c25b1 : (((rd_T61 ((rd_T29 l0 0).f1) x5_1).f0) != 3) = true := bne_iff_ne.mpr c25
  by_cases c35 : x4_1.length < 17592186044416
  rotate_left
  ·rw [if_neg c35] at H
   exact absurd H (by simp)
  rw [if_pos c35] at H
  have LMc35 := Aside0.mk c35
  clear c35
  obtain ⟨y288, hy288⟩ : ∃ y_ : List Int, y_ = (x4_1 ++ [t265]) := ⟨_, rfl⟩
  replace H : (spec_l04Tables.l0 k1 l0 t265 y288 (wrap64 (x5_1 + 1))) = some r := by first | (rw [hy288]; with_reducible exact H) | (have H2_ := (Option.bind_some _ _).symm.trans H; rw [hy288]; with_reducible exact H2_) | (have H2_ := (Option.bind_some _ _).symm.trans H; with_reducible exact H2_) | with_reducible exact H | (rw [hy288]; exact H) | exact H
  have Ny288 := Aside0.mk hy288
  clear hy288
  have H' := Aside0.mk H
  clear H
  have p269 : 0 ≤ (0 : Int) := (by omega)
  have q269 : 0 < (l0.length : Int) := of_decide_eq_true zA
  obtain ⟨ad269, A269_1, c269_1, A269_2, c269_2, e269, hx269_0, hx269_1, hx269_2, hl269_1, hi269_1, hl269_2, hi269_2⟩ := at_T29 HR0.out 0 p269 q269
  obtain rfl : adp0 = ad269 := (by injection e269)
  have qi269 : (0 < l0.length) = True := eq_true (by omega)
  try simp only [z00, Nat.zero_mul, Addr.add_zero'] at hx269_0 hx269_1 hx269_2
  replace hx269_0 := zc HB hx269_0
  replace hx269_1 := zc HB hx269_1
  replace hx269_2 := zc HB hx269_2
  have HR269_1 := Aside0.mk hi269_1
  have HC269_1 := Aside0.mk hl269_1
  clear hi269_1 hl269_1
  have HR269_2 := Aside0.mk hi269_2
  have HC269_2 := Aside0.mk hl269_2
  clear hi269_2 hl269_2
  replace p269 := eq_true p269
  replace q269 := eq_true q269
  have p270 : 0 ≤ (0 : Int) := (by omega)
  have q270 : 0 < (l0.length : Int) := of_decide_eq_true zA
  obtain ⟨ad270, A270_1, c270_1, A270_2, c270_2, e270, hx270_0, hx270_1, hx270_2, hl270_1, hi270_1, hl270_2, hi270_2⟩ := at_T29 HR0.out 0 p270 q270
  obtain rfl : adp0 = ad270 := (by injection e270)
  have qi270 : (0 < l0.length) = True := eq_true (by omega)
  try simp only [z00, Nat.zero_mul, Addr.add_zero'] at hx270_0 hx270_1 hx270_2
  replace hx270_0 := zc HB hx270_0
  replace hx270_1 := zc HB hx270_1
  replace hx270_2 := zc HB hx270_2
  have HR270_1 := Aside0.mk hi270_1
  have HC270_1 := Aside0.mk hl270_1
  clear hi270_1 hl270_1
  have HR270_2 := Aside0.mk hi270_2
  have HC270_2 := Aside0.mk hl270_2
  clear hi270_2 hl270_2
  replace p270 := eq_true p270
  replace q270 := eq_true q270
  have ea_ := Option.some.inj (hx269_1.symm.trans hx270_1)
  injection ea_ with ea_ en_ ec_
  subst ea_
  subst ec_
  clear en_
  have ea_ := Option.some.inj (hx269_2.symm.trans hx270_2)
  injection ea_ with ea_ en_ ec_
  subst ea_
  subst ec_
  clear en_
  have p271 : 0 ≤ (x5_1 : Int) := of_decide_eq_true zA
  have q271 : x5_1 < (((rd_T29 l0 0).f1).length : Int) := of_decide_eq_true zA
  obtain ⟨ad271, e271, hx271_0, hx271_1, hx271_2⟩ := at_T61 HR270_1.out x5_1 p271 q271
  cases e271
  replace hx271_0 := zc HB hx271_0
  replace hx271_1 := zc HB hx271_1
  replace hx271_2 := zc HB hx271_2
  replace p271 := eq_true p271
  replace q271 := eq_true q271
  go_wp2_with (first | ((with_reducible refine gate_dst (N := 6) rfl ?_); refine zbx 6 #[.int .i8 0, .int .i16 0, .int .i16 0] 61 ?_; intro gb272 hg w36 hbox hb; have n_ : _ ∧ _ ∧ _ ∧ _ ∧ _ := ⟨zr HO_4 hb, zb HB hb, Aside0.mk (hbox), zg HB hg, zg HB hg⟩; clear HO_4 HB; obtain ⟨HO_4, HB, BK272, GW272, GE272⟩ := n_; clear hb hbox hg; obtain ⟨z37_0, z37_1, z37_2, y37_0, y37_1, y37_2⟩ := zB3 BK272) | ((with_reducible refine gate_builtin (b := .append) (xs := #[.tmp 71, .tmp 73]) rfl ?_); at_builtin; refine Kd.R_append (Kd.int .u64) (w0 := w) w.heap.size rfl (.tmp 71) (.tmp 73) 64 66 (.int .u64 0) 8 rfl Try.underlying64 info66 rfl (by decide) (by omega) u4 x4_1 t265 [.int .u64 t265] (fun _ => True) (fun _ => False) rfl (by first | (go_simp; done) | (go_simp; rfl)) ?aP (fun _ hk => hk.elim) ?aF ?aO ?aB ?aS ?aL ?_; (case aP => exact rfl); (case aB => exact zbo); (case aF => exact (fun _ _ => trivial)); (case aO => exact (Kd.R_mono (zs HO_4 BK272).out (fun _ hk => trivial))); (case aS => exact (zz HB)); (case aL => have := LMc35.out; omega); intro v289 w38 ho hb hg hat; rw [← Ny288.out] at ho; have n_ : _ ∧ _ ∧ _ := ⟨Aside0.mk (blk_grown (g := gb272) (o := .cells #[.int .i8 ((rd_T61 ((rd_T29 l0 0).f1) x5_1).f0), .int .i16 ((rd_T61 ((rd_T29 l0 0).f1) x5_1).f1), .int .i16 ((rd_T61 ((rd_T29 l0 0).f1) x5_1).f2)] 61 (0, 0)) (zp BK272) hg (Kd.R_ne HO_4.out BK272.out (by decide))), Aside0.mk (hb), Aside0.mk (ho)⟩; clear BK272 HB HO_4; obtain ⟨BK272, HB, HO290⟩ := n_; clear ho hb hg hat) | go_quiet (fail))
  go_roundg k1
  case measure => have := HK1.out; omega
  case rel => exact ⟨(y288), (wrap64 (x5_1 + 1)), zi, H', ⟨by have := HK1.out; omega⟩, ze HO290, zba⟩
 rw [if_pos c25] at H
 have c25b0 : (((rd_T61 ((rd_T29 l0 0).f1) x5_1).f0) == 3) = true := beq_iff_eq.mpr c25
 have c25b1 : (((rd_T61 ((rd_T29 l0 0).f1) x5_1).f0) != 3) = false := bne_eq_false_iff_eq.mpr c25
 clear c25
 by_cases c26 : 0 ≤ ((rd_T61 ((rd_T29 l0 0).f1) x5_1).f1)
 rotate_left
 ·rw [if_neg c26] at H
  exact absurd H (by simp)
 rw [if_pos c26] at H
 have c26b0 : decide (0 ≤ ((rd_T61 ((rd_T29 l0 0).f1) x5_1).f1)) = true := decide_eq_true c26
 clear c26
 by_cases c27 : ((rd_T61 ((rd_T29 l0 0).f1) x5_1).f1) < (x4_1.length : Int)
 rotate_left
 ·rw [if_neg c27] at H
  exact absurd H (by simp)
 rw [if_pos c27] at H
 have c27b0 : decide (((rd_T61 ((rd_T29 l0 0).f1) x5_1).f1) < (x4_1.length : Int)) = true := decide_eq_true c27
 clear c27
 by_cases c28 : 0 ≤ ((rd_T61 ((rd_T29 l0 0).f1) x5_1).f2)
 rotate_left
 ·rw [if_neg c28] at H
  exact absurd H (by simp)
 rw [if_pos c28] at H
 have c28b0 : decide (0 ≤ ((rd_T61 ((rd_T29 l0 0).f1) x5_1).f2)) = true := decide_eq_true c28
 clear c28
 by_cases c29 : ((rd_T61 ((rd_T29 l0 0).f1) x5_1).f2) < (x4_1.length : Int)
 rotate_left
 ·rw [if_neg c29] at H
  exact absurd H (by simp)
 rw [if_pos c29] at H
 have c29b0 : decide (((rd_T61 ((rd_T29 l0 0).f1) x5_1).f2) < (x4_1.length : Int)) = true := decide_eq_true c29
 clear c29
 by_cases c30 : x4_1.length < 17592186044416
 rotate_left
 ·rw [if_neg c30] at H
  exact absurd H (by simp)
 rw [if_pos c30] at H
 have LMc30 := Aside0.mk c30
 clear c30
 obtain ⟨y285, hy285⟩ : ∃ y_ : List Int, y_ = (x4_1 ++ [Go.bits .andNot .u64 (rd x4_1 ((rd_T61 ((rd_T29 l0 0).f1) x5_1).f1)) (rd x4_1 ((rd_T61 ((rd_T29 l0 0).f1) x5_1).f2))]) := ⟨_, rfl⟩
 replace H : (spec_l04Tables.l0 k1 l0 t265 y285 (wrap64 (x5_1 + 1))) = some r := by first | (rw [hy285]; with_reducible exact H) | (have H2_ := (Option.bind_some _ _).symm.trans H; rw [hy285]; with_reducible exact H2_) | (have H2_ := (Option.bind_some _ _).symm.trans H; with_reducible exact H2_) | with_reducible exact H | (rw [hy285]; exact H) | exact H
 have Ny285 := Aside0.mk hy285
 clear hy285
 have H' := Aside0.mk H
 clear H
 have p269 : 0 ≤ (0 : Int) := (by omega)
 have q269 : 0 < (l0.length : Int) := of_decide_eq_true zA
 obtain ⟨ad269, A269_1, c269_1, A269_2, c269_2, e269, hx269_0, hx269_1, hx269_2, hl269_1, hi269_1, hl269_2, hi269_2⟩ := at_T29 HR0.out 0 p269 q269
 obtain rfl : adp0 = ad269 := (by injection e269)
 have qi269 : (0 < l0.length) = True := eq_true (by omega)
 try simp only [z00, Nat.zero_mul, Addr.add_zero'] at hx269_0 hx269_1 hx269_2
 replace hx269_0 := zc HB hx269_0
 replace hx269_1 := zc HB hx269_1
 replace hx269_2 := zc HB hx269_2
 have HR269_1 := Aside0.mk hi269_1
 have HC269_1 := Aside0.mk hl269_1
 clear hi269_1 hl269_1
 have HR269_2 := Aside0.mk hi269_2
 have HC269_2 := Aside0.mk hl269_2
 clear hi269_2 hl269_2
 replace p269 := eq_true p269
 replace q269 := eq_true q269
 have p270 : 0 ≤ (0 : Int) := (by omega)
 have q270 : 0 < (l0.length : Int) := of_decide_eq_true zA
 obtain ⟨ad270, A270_1, c270_1, A270_2, c270_2, e270, hx270_0, hx270_1, hx270_2, hl270_1, hi270_1, hl270_2, hi270_2⟩ := at_T29 HR0.out 0 p270 q270
 obtain rfl : adp0 = ad270 := (by injection e270)
 have qi270 : (0 < l0.length) = True := eq_true (by omega)
 try simp only [z00, Nat.zero_mul, Addr.add_zero'] at hx270_0 hx270_1 hx270_2
 replace hx270_0 := zc HB hx270_0
 replace hx270_1 := zc HB hx270_1
 replace hx270_2 := zc HB hx270_2
 have HR270_1 := Aside0.mk hi270_1
 have HC270_1 := Aside0.mk hl270_1
 clear hi270_1 hl270_1
 have HR270_2 := Aside0.mk hi270_2
 have HC270_2 := Aside0.mk hl270_2
 clear hi270_2 hl270_2
 replace p270 := eq_true p270
 replace q270 := eq_true q270
 have ea_ := Option.some.inj (hx269_1.symm.trans hx270_1)
 injection ea_ with ea_ en_ ec_
 subst ea_
 subst ec_
 clear en_
 have ea_ := Option.some.inj (hx269_2.symm.trans hx270_2)
 injection ea_ with ea_ en_ ec_
 subst ea_
 subst ec_
 clear en_
 have p271 : 0 ≤ (x5_1 : Int) := of_decide_eq_true zA
 have q271 : x5_1 < (((rd_T29 l0 0).f1).length : Int) := of_decide_eq_true zA
 obtain ⟨ad271, e271, hx271_0, hx271_1, hx271_2⟩ := at_T61 HR270_1.out x5_1 p271 q271
 cases e271
 replace hx271_0 := zc HB hx271_0
 replace hx271_1 := zc HB hx271_1
 replace hx271_2 := zc HB hx271_2
 replace p271 := eq_true p271
 replace q271 := eq_true q271
 go_wp2_with (first | ((with_reducible refine gate_dst (N := 6) rfl ?_); refine zbx 6 #[.int .i8 0, .int .i16 0, .int .i16 0] 61 ?_; intro gb272 hg w31 hbox hb; have n_ : _ ∧ _ ∧ _ ∧ _ ∧ _ := ⟨zr HO_4 hb, zb HB hb, Aside0.mk (hbox), zg HB hg, zg HB hg⟩; clear HO_4 HB; obtain ⟨HO_4, HB, BK272, GW272, GE272⟩ := n_; clear hb hbox hg; obtain ⟨z32_0, z32_1, z32_2, y32_0, y32_1, y32_2⟩ := zB3 BK272; obtain ⟨Ao33, co33, eo33⟩ := Kd.R_slice HO_4.out; subst eo33; have p283 : 0 ≤ (((rd_T61 ((rd_T29 l0 0).f1) x5_1).f1) : Int) := of_decide_eq_true zA; have q283 : ((rd_T61 ((rd_T29 l0 0).f1) x5_1).f1) < (x4_1.length : Int) := of_decide_eq_true zA; obtain ⟨ad283, e283, hx283_0⟩ := Kd.at_int (Kd.R_reads' HO_4.out).2.2 ((rd_T61 ((rd_T29 l0 0).f1) x5_1).f1) p283 q283; cases e283; have hn283_0 : ad283.block ≠ gb272 := Kd.own_blk (Kd.R_ne HO_4.out BK272.out (by decide)); have hn283_1 : ad283.block ≠ gb272 := Kd.own_blk (Kd.R_ne HO_4.out BK272.out (by decide)); have hn283_2 : ad283.block ≠ gb272 := Kd.own_blk (Kd.R_ne HO_4.out BK272.out (by decide)); replace hx283_0 := (cell_far (p := ⟨gb272, 0, none⟩) (by first | (rw [add_block]; exact hn283_0) | (show (Addr.add _ _).block ≠ _; rw [add_block]; exact hn283_0) | exact hn283_0) (.int .i8 ((rd_T61 ((rd_T29 l0 0).f1) x5_1).f0))).trans hx283_0; replace hx283_0 := (cell_far (p := ⟨gb272, 1, none⟩) (by first | (rw [add_block]; exact hn283_1) | (show (Addr.add _ _).block ≠ _; rw [add_block]; exact hn283_1) | exact hn283_1) (.int .i16 ((rd_T61 ((rd_T29 l0 0).f1) x5_1).f1))).trans hx283_0; replace hx283_0 := (cell_far (p := ⟨gb272, 2, none⟩) (by first | (rw [add_block]; exact hn283_2) | (show (Addr.add _ _).block ≠ _; rw [add_block]; exact hn283_2) | exact hn283_2) (.int .i16 ((rd_T61 ((rd_T29 l0 0).f1) x5_1).f2))).trans hx283_0; (try have hy283_0 := fun (n_ : Nat) => (show (((((w31.drewN n_).setCell ⟨gb272, 0, none⟩ (.int .i8 ((rd_T61 ((rd_T29 l0 0).f1) x5_1).f0))).setCell ⟨gb272, 1, none⟩ (.int .i16 ((rd_T61 ((rd_T29 l0 0).f1) x5_1).f1))).setCell ⟨gb272, 2, none⟩ (.int .i16 ((rd_T61 ((rd_T29 l0 0).f1) x5_1).f2)))).cell? _ = some _ from hx283_0)); clear hn283_0; clear hn283_1; clear hn283_2; replace p283 := eq_true p283; replace q283 := eq_true q283; have p284 : 0 ≤ (((rd_T61 ((rd_T29 l0 0).f1) x5_1).f2) : Int) := of_decide_eq_true zA; have q284 : ((rd_T61 ((rd_T29 l0 0).f1) x5_1).f2) < (x4_1.length : Int) := of_decide_eq_true zA; obtain ⟨ad284, e284, hx284_0⟩ := Kd.at_int (Kd.R_reads' HO_4.out).2.2 ((rd_T61 ((rd_T29 l0 0).f1) x5_1).f2) p284 q284; obtain rfl : ad283 = ad284 := (by injection e284); have hn284_0 : ad283.block ≠ gb272 := Kd.own_blk (Kd.R_ne HO_4.out BK272.out (by decide)); have hn284_1 : ad283.block ≠ gb272 := Kd.own_blk (Kd.R_ne HO_4.out BK272.out (by decide)); have hn284_2 : ad283.block ≠ gb272 := Kd.own_blk (Kd.R_ne HO_4.out BK272.out (by decide)); replace hx284_0 := (cell_far (p := ⟨gb272, 0, none⟩) (by first | (rw [add_block]; exact hn284_0) | (show (Addr.add _ _).block ≠ _; rw [add_block]; exact hn284_0) | exact hn284_0) (.int .i8 ((rd_T61 ((rd_T29 l0 0).f1) x5_1).f0))).trans hx284_0; replace hx284_0 := (cell_far (p := ⟨gb272, 1, none⟩) (by first | (rw [add_block]; exact hn284_1) | (show (Addr.add _ _).block ≠ _; rw [add_block]; exact hn284_1) | exact hn284_1) (.int .i16 ((rd_T61 ((rd_T29 l0 0).f1) x5_1).f1))).trans hx284_0; replace hx284_0 := (cell_far (p := ⟨gb272, 2, none⟩) (by first | (rw [add_block]; exact hn284_2) | (show (Addr.add _ _).block ≠ _; rw [add_block]; exact hn284_2) | exact hn284_2) (.int .i16 ((rd_T61 ((rd_T29 l0 0).f1) x5_1).f2))).trans hx284_0; (try have hy284_0 := fun (n_ : Nat) => (show (((((w31.drewN n_).setCell ⟨gb272, 0, none⟩ (.int .i8 ((rd_T61 ((rd_T29 l0 0).f1) x5_1).f0))).setCell ⟨gb272, 1, none⟩ (.int .i16 ((rd_T61 ((rd_T29 l0 0).f1) x5_1).f1))).setCell ⟨gb272, 2, none⟩ (.int .i16 ((rd_T61 ((rd_T29 l0 0).f1) x5_1).f2)))).cell? _ = some _ from hx284_0)); clear hn284_0; clear hn284_1; clear hn284_2; replace p284 := eq_true p284; replace q284 := eq_true q284) | ((with_reducible refine gate_builtin (b := .append) (xs := #[.tmp 71, .tmp 73]) rfl ?_); at_builtin; refine Kd.R_append (Kd.int .u64) (w0 := w) w.heap.size rfl (.tmp 71) (.tmp 73) 64 66 (.int .u64 0) 8 rfl Try.underlying64 info66 rfl (by decide) (by omega) (.slice (some ad283) x4_1.length co33) x4_1 (Go.bits .andNot .u64 (rd x4_1 ((rd_T61 ((rd_T29 l0 0).f1) x5_1).f1)) (rd x4_1 ((rd_T61 ((rd_T29 l0 0).f1) x5_1).f2))) [.int .u64 (Go.bits .andNot .u64 (rd x4_1 ((rd_T61 ((rd_T29 l0 0).f1) x5_1).f1)) (rd x4_1 ((rd_T61 ((rd_T29 l0 0).f1) x5_1).f2)))] (fun _ => True) (fun _ => False) rfl (by first | (go_simp; done) | (go_simp; rfl)) ?aP (fun _ hk => hk.elim) ?aF ?aO ?aB ?aS ?aL ?_; (case aP => exact rfl); (case aB => exact zbo); (case aF => exact (fun _ _ => trivial)); (case aO => exact (Kd.R_mono (zs HO_4 BK272).out (fun _ hk => trivial))); (case aS => exact (zz HB)); (case aL => have := LMc30.out; omega); intro v286 w34 ho hb hg hat; rw [← Ny285.out] at ho; have n_ : _ ∧ _ ∧ _ := ⟨Aside0.mk (blk_grown (g := gb272) (o := .cells #[.int .i8 ((rd_T61 ((rd_T29 l0 0).f1) x5_1).f0), .int .i16 ((rd_T61 ((rd_T29 l0 0).f1) x5_1).f1), .int .i16 ((rd_T61 ((rd_T29 l0 0).f1) x5_1).f2)] 61 (0, 0)) (zp BK272) hg (Kd.R_ne HO_4.out BK272.out (by decide))), Aside0.mk (hb), Aside0.mk (ho)⟩; clear BK272 HB HO_4; obtain ⟨BK272, HB, HO287⟩ := n_; clear ho hb hg hat) | go_quiet (fail))
 go_roundg k1
 case measure => have := HK1.out; omega
 case rel => exact ⟨(y285), (wrap64 (x5_1 + 1)), zi, H', ⟨by have := HK1.out; omega⟩, ze HO287, zba⟩
end Go.Proofs.Ytkflenibdijnaaa.PFnExactAdderOf
