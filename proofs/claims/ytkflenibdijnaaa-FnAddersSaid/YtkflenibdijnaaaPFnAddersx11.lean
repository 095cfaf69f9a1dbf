-- WRITTEN by xprint.py, a program of this session's. Not trusted: Lean checks it.
-- packed by pack.py
import Derived.Test.YtkflenibdijnaaaPFnAddersx0
import Derived.Test.YtkflenibdijnaaaTFnAddersa
namespace Go.Proofs.Ytkflenibdijnaaa.PFnAdders
open Go.RowKit Go.Proofs.YtkflenibdijnaaaW.PrintWords Go.Proofs.YtkflenibdijnaaaW.PrintLast Go.Proofs.YtkflenibdijnaaaW.PrintMore Go.Proofs.YtkflenibdijnaaaX
attribute [local go_sem] max2_int min2_int max_two min_two max_three min_three max_four min_four   -- for this text's walks alone
set_option maxHeartbeats 8000000
set_option maxRecDepth 100000
set_option linter.unusedVariables false
set_option linter.unusedSimpArgs false

mutual
def spec_l04Trim.l0 : Nat → List (S29) → List Bool → Int → Option (Int × (List (S61)) × List Int)
  | 0, _, _, _ => none
  | k + 1, x0, x3, x4 => if 0 < (x0.length : Int) then (if x4 < (((rd_T29 x0 0).f2).length : Int) then (if 0 ≤ x4 then (if 0 ≤ (rd ((rd_T29 x0 0).f2) x4) then (if (rd ((rd_T29 x0 0).f2) x4) < (x3.length : Int) then (spec_l04Trim.l0 k x0 (x3.set ((rd ((rd_T29 x0 0).f2) x4) : Int).toNat true) (wrap64 (x4 + 1))) else (none)) else (none)) else (none)) else (spec_l04Trim.l1 k x0 x3 (wrap64 ((((rd_T29 x0 0).f1).length : Int) - 1)))) else (none)
def spec_l04Trim.l1 : Nat → List (S29) → List Bool → Int → Option (Int × (List (S61)) × List Int)
  | 0, _, _, _ => none
  | k + 1, x0, x3, x5 => if x5 ≥ 0 then (if 0 ≤ x5 then (if x5 < (x3.length : Int) then (if rdOf false x3 x5 = true then (if 0 < (x0.length : Int) then (if x5 < (((rd_T29 x0 0).f1).length : Int) then (if ((rd_T61 ((rd_T29 x0 0).f1) x5).f0) ≥ 2 then (if 0 ≤ ((rd_T61 ((rd_T29 x0 0).f1) x5).f1) then (if ((rd_T61 ((rd_T29 x0 0).f1) x5).f1) < (x3.length : Int) then (if 0 ≤ ((rd_T61 ((rd_T29 x0 0).f1) x5).f2) then (if ((rd_T61 ((rd_T29 x0 0).f1) x5).f2) < (x3.length : Int) then (spec_l04Trim.l1 k x0 ((x3.set (((rd_T61 ((rd_T29 x0 0).f1) x5).f1) : Int).toNat true).set (((rd_T61 ((rd_T29 x0 0).f1) x5).f2) : Int).toNat true) (wrap64 (x5 - 1))) else (none)) else (none)) else (none)) else (none)) else (spec_l04Trim.l1 k x0 x3 (wrap64 (x5 - 1)))) else (none)) else (none)) else (spec_l04Trim.l1 k x0 x3 (wrap64 (x5 - 1)))) else (none)) else (none)) else (if 0 < (x0.length : Int) then (if 0 ≤ (((rd_T29 x0 0).f1).length : Int) then (if ((((rd_T29 x0 0).f1).length : Int) : Int).toNat ≤ 140737488355328 then (spec_l04Trim.l2 k x0 x3 (List.replicate ((((rd_T29 x0 0).f1).length : Int) : Int).toNat 0) 0 ((rd_T29 x0 0).f0) ([] : List (S61))) else (none)) else (none)) else (none))
def spec_l04Trim.l2 : Nat → List (S29) → List Bool → List Int → Int → Int → List (S61) → Option (Int × (List (S61)) × List Int)
  | 0, _, _, _, _, _, _ => none
  | k + 1, x0, x3, x6, x8, x381000, x381001 => if 0 < (x0.length : Int) then (if x8 < (((rd_T29 x0 0).f1).length : Int) then (if 0 ≤ x8 then (if x8 < (x3.length : Int) then (if rdOf false x3 x8 = true then (if ((rd_T61 ((rd_T29 x0 0).f1) x8).f0) ≥ 2 then (if 0 ≤ ((rd_T61 ((rd_T29 x0 0).f1) x8).f1) then (if ((rd_T61 ((rd_T29 x0 0).f1) x8).f1) < (x6.length : Int) then (if 0 ≤ ((rd_T61 ((rd_T29 x0 0).f1) x8).f2) then (if ((rd_T61 ((rd_T29 x0 0).f1) x8).f2) < (x6.length : Int) then (if x8 < (x6.length : Int) then (if x381001.length < 23456248059221 then (spec_l04Trim.l2 k x0 x3 (x6.set (x8 : Int).toNat (IntKind.i16.wrap ((x381001.length : Int)))) (wrap64 (x8 + 1)) x381000 (x381001 ++ [(⟨(rd_T61 ((rd_T29 x0 0).f1) x8).f0, rd x6 ((rd_T61 ((rd_T29 x0 0).f1) x8).f1), rd x6 ((rd_T61 ((rd_T29 x0 0).f1) x8).f2)⟩ : S61)])) else (none)) else (none)) else (none)) else (none)) else (none)) else (none)) else (if x8 < (x6.length : Int) then (if x381001.length < 23456248059221 then (spec_l04Trim.l2 k x0 x3 (x6.set (x8 : Int).toNat (IntKind.i16.wrap ((x381001.length : Int)))) (wrap64 (x8 + 1)) x381000 (x381001 ++ [(⟨(rd_T61 ((rd_T29 x0 0).f1) x8).f0, (rd_T61 ((rd_T29 x0 0).f1) x8).f1, (rd_T61 ((rd_T29 x0 0).f1) x8).f2⟩ : S61)])) else (none)) else (none))) else (spec_l04Trim.l2 k x0 x3 x6 (wrap64 (x8 + 1)) x381000 x381001)) else (none)) else (none)) else (spec_l04Trim.l3 k x0 x6 0 x381000 x381001 ([] : List Int))) else (none)
def spec_l04Trim.l3 : Nat → List (S29) → List Int → Int → Int → List (S61) → List Int → Option (Int × (List (S61)) × List Int)
  | 0, _, _, _, _, _, _ => none
  | k + 1, x0, x6, x10, x381000, x381001, x381002 => if 0 < (x0.length : Int) then (if x10 < (((rd_T29 x0 0).f2).length : Int) then (if 0 ≤ x10 then (if 0 ≤ (rd ((rd_T29 x0 0).f2) x10) then (if (rd ((rd_T29 x0 0).f2) x10) < (x6.length : Int) then (if x381002.length < 70368744177664 then (spec_l04Trim.l3 k x0 x6 (wrap64 (x10 + 1)) x381000 x381001 (x381002 ++ [rd x6 (rd ((rd_T29 x0 0).f2) x10)])) else (none)) else (none)) else (none)) else (none)) else (some (x381000, x381001, x381002))) else (none)
end
def spec_l04Trim.f (k : Nat) (l0 : List (S29)) : Option (Int × (List (S61)) × List Int) := if 0 < (l0.length : Int) then (if 0 ≤ (((rd_T29 l0 0).f1).length : Int) then (if ((((rd_T29 l0 0).f1).length : Int) : Int).toNat ≤ 281474976710656 then (spec_l04Trim.l0 k l0 (List.replicate ((((rd_T29 l0 0).f1).length : Int) : Int).toNat false) 0) else (none)) else (none)) else (none)
theorem spec_l04Trim.mono_l : ∀ k, (∀ y0 y1 y2, LeO (spec_l04Trim.l0 k y0 y1 y2) (spec_l04Trim.l0 (k + 1) y0 y1 y2)) ∧ (∀ y0 y1 y2, LeO (spec_l04Trim.l1 k y0 y1 y2) (spec_l04Trim.l1 (k + 1) y0 y1 y2)) ∧ (∀ y0 y1 y2 y3 y4 y5, LeO (spec_l04Trim.l2 k y0 y1 y2 y3 y4 y5) (spec_l04Trim.l2 (k + 1) y0 y1 y2 y3 y4 y5)) ∧ (∀ y0 y1 y2 y3 y4 y5, LeO (spec_l04Trim.l3 k y0 y1 y2 y3 y4 y5) (spec_l04Trim.l3 (k + 1) y0 y1 y2 y3 y4 y5))
  | 0 => ⟨fun _ _ _ r h => by simp [spec_l04Trim.l0] at h, fun _ _ _ r h => by simp [spec_l04Trim.l1] at h, fun _ _ _ _ _ _ r h => by simp [spec_l04Trim.l2] at h, fun _ _ _ _ _ _ r h => by simp [spec_l04Trim.l3] at h⟩
  | k + 1 => by
    obtain ⟨ih0, ih1, ih2, ih3⟩ := spec_l04Trim.mono_l k
    refine ⟨?_, ?_, ?_, ?_⟩
    · intro y0 y1 y2
      unfold spec_l04Trim.l0
      repeat' first | (with_reducible first | apply ih0 | apply ih1 | apply ih2 | apply ih3 | exact LeO.refl _ | exact LeO.none _ | refine LeO.ite ?_ ?_ | refine LeO.bind ?_ (fun _ => ?_)) | apply ih0 | apply ih1 | apply ih2 | apply ih3 | exact LeO.none _ | refine LeO.ite ?_ ?_ | refine LeO.bind ?_ (fun _ => ?_)
    · intro y0 y1 y2
      unfold spec_l04Trim.l1
      repeat' first | (with_reducible first | apply ih0 | apply ih1 | apply ih2 | apply ih3 | exact LeO.refl _ | exact LeO.none _ | refine LeO.ite ?_ ?_ | refine LeO.bind ?_ (fun _ => ?_)) | apply ih0 | apply ih1 | apply ih2 | apply ih3 | exact LeO.none _ | refine LeO.ite ?_ ?_ | refine LeO.bind ?_ (fun _ => ?_)
    · intro y0 y1 y2 y3 y4 y5
      unfold spec_l04Trim.l2
      repeat' first | (with_reducible first | apply ih0 | apply ih1 | apply ih2 | apply ih3 | exact LeO.refl _ | exact LeO.none _ | refine LeO.ite ?_ ?_ | refine LeO.bind ?_ (fun _ => ?_)) | apply ih0 | apply ih1 | apply ih2 | apply ih3 | exact LeO.none _ | refine LeO.ite ?_ ?_ | refine LeO.bind ?_ (fun _ => ?_)
    · intro y0 y1 y2 y3 y4 y5
      unfold spec_l04Trim.l3
      repeat' first | (with_reducible first | apply ih0 | apply ih1 | apply ih2 | apply ih3 | exact LeO.refl _ | exact LeO.none _ | refine LeO.ite ?_ ?_ | refine LeO.bind ?_ (fun _ => ?_)) | apply ih0 | apply ih1 | apply ih2 | apply ih3 | exact LeO.none _ | refine LeO.ite ?_ ?_ | refine LeO.bind ?_ (fun _ => ?_)
theorem spec_l04Trim.mono : ∀ a0 k, LeO (spec_l04Trim.f k a0) (spec_l04Trim.f (k + 1) a0) := by
 intro a0 k
 obtain ⟨ih0, ih1, ih2, ih3⟩ := spec_l04Trim.mono_l k
 unfold spec_l04Trim.f
 repeat' first | (with_reducible first | apply ih0 | apply ih1 | apply ih2 | apply ih3 | exact LeO.refl _ | exact LeO.none _ | refine LeO.ite ?_ ?_ | refine LeO.bind ?_ (fun _ => ?_)) | apply ih0 | apply ih1 | apply ih2 | apply ih3 | exact LeO.none _ | refine LeO.ite ?_ ?_ | refine LeO.bind ?_ (fun _ => ?_)
def spec_l04Trim.T27 : Bool × List (List Nat × List Nat) := (true, [([], []), ([0], [0]), ([], []), ([], []), ([3], [3]), ([4], [4]), ([5], [5]), ([], []), ([6, 7], [6, 7]), ([8], [8]), ([2, 9], [2, 9]), ([10], [10]), ([11], [11]), ([1, 12], [1, 12]), ([0, 1, 2, 3, 4, 5, 6, 7, 8, 9, 10, 11, 12, 13], []), ([14, 13, 13, 0, 1, 2, 3, 4, 5, 6, 7, 8, 9, 10, 11, 12, 13], [13, 14])])
def spec_l04Trim.B27 : List Nat := [0, 1, 0, 0, 8, 24, 56, 0, 248, 504, 1020, 2044, 4092, 8191, 16383, 32767]
theorem spec_l04Trim.tab27 : rtab .any (opsOf Try.f45 27) = spec_l04Trim.T27 := by kernel_rfl
theorem spec_l04Trim.bits27 : waitsOk spec_l04Trim.T27.2 spec_l04Trim.B27 = true := by kernel_rfl
theorem spec_l04Trim.calls (k : Nat) (adp0 : Addr) (l0 : List (S29)) (r1 : Int) (r2 : List (S61)) (r3 : List Int) (w : World) (hr0 : Kd.C k29 w (some adp0) l0.length l0) (h : spec_l04Trim.f k l0 = some (r1, r2, r3)) :
    Calls Try.prog 45 #[.pointer (some adp0)] w fun e w' => ∃ v1_ v2_ : Value, e = .returned (.agg #[.int .i8 r1, v1_, v2_]) ∧ Kd.R k61 61 w' w.heap.size (fun _ => True) v1_ r2 ∧ Kd.R (Kd.int .i16) 54 w' w.heap.size (fun _ => True) v2_ r3 ∧ Below w.heap.size w w' := by
 have hu29 := Try.underlying29
 have hu61 := Try.underlying61
 have HR0 := Aside0.mk hr0
 clear hr0
 have HB := Aside0.mk (Below.refl w.heap.size w)
 have H : (if 0 < (l0.length : Int) then (if 0 ≤ (((rd_T29 l0 0).f1).length : Int) then (if ((((rd_T29 l0 0).f1).length : Int) : Int).toNat ≤ 281474976710656 then (spec_l04Trim.l0 k l0 (List.replicate ((((rd_T29 l0 0).f1).length : Int) : Int).toNat false) 0) else (none)) else (none)) else (none)) = some (r1, r2, r3) := h
 clear h
 by_cases c2 : 0 < (l0.length : Int)
 rotate_left
 ·rw [if_neg c2] at H
  exact absurd H (by simp)
 rw [if_pos c2] at H
 have c2b0 : decide (0 < (l0.length : Int)) = true := decide_eq_true c2
 have c2b1 : decide (0 < l0.length) = true := decide_eq_true (by omega)
 clear c2
 by_cases c3 : 0 ≤ (((rd_T29 l0 0).f1).length : Int)
 rotate_left
 ·rw [if_neg c3] at H
  exact absurd H (by simp)
 rw [if_pos c3] at H
 have c3b0 := eq_true c3
 have c3b1 : decide (0 ≤ (((rd_T29 l0 0).f1).length : Int)) = true := decide_eq_true c3
 clear c3
 by_cases c4 : ((((rd_T29 l0 0).f1).length : Int) : Int).toNat ≤ 281474976710656
 rotate_left
 ·rw [if_neg c4] at H
  exact absurd H (by simp)
 rw [if_pos c4] at H
 have c4b0 := eq_true c4
 have c4b1 : decide (((((rd_T29 l0 0).f1).length : Int) : Int).toNat ≤ 281474976710656) = true := decide_eq_true c4
 clear c4
 obtain ⟨y358, hy358⟩ : ∃ y_ : List Bool, y_ = (List.replicate ((((rd_T29 l0 0).f1).length : Int) : Int).toNat false) := ⟨_, rfl⟩
 replace H : (spec_l04Trim.l0 k l0 y358 0) = some (r1, r2, r3) := by first | (rw [hy358]; with_reducible exact H) | (have H2_ := (Option.bind_some _ _).symm.trans H; rw [hy358]; with_reducible exact H2_) | (have H2_ := (Option.bind_some _ _).symm.trans H; with_reducible exact H2_) | with_reducible exact H | (rw [hy358]; exact H) | exact H
 have Ny358 := Aside0.mk hy358
 clear hy358
 have H' := Aside0.mk H
 clear H
 go_enter Try.func45, Try.ntmps45
 go_wp2_with (first | ((with_reducible refine gate_dst (N := 2) rfl ?_); refine zbx 2 #[.int .i8 0, .slice none 0 0, .slice none 0 0] 29 ?_; intro gb356 hg w5 hbox hb; have n_ : _ ∧ _ ∧ _ ∧ _ := ⟨zb HB hb, Aside0.mk (hbox), zg HB hg, zg HB hg⟩; clear HB; obtain ⟨HB, BK356, GW356, GE356⟩ := n_; clear hb hbox hg; have p357 : 0 ≤ (0 : Int) := (by omega); have q357 : 0 < (l0.length : Int) := of_decide_eq_true zA; obtain ⟨ad357, A357_1, c357_1, A357_2, c357_2, e357, hx357_0, hx357_1, hx357_2, hl357_1, hi357_1, hl357_2, hi357_2⟩ := at_T29 HR0.out 0 p357 q357; obtain rfl : adp0 = ad357 := (by injection e357); have qi357 : (0 < l0.length) = True := eq_true (by omega); (try simp only [z00, Nat.zero_mul, Addr.add_zero'] at hx357_0 hx357_1 hx357_2); replace hx357_0 := zc HB hx357_0; replace hx357_1 := zc HB hx357_1; replace hx357_2 := zc HB hx357_2; have HR357_1 := Aside0.mk hi357_1; have HC357_1 := Aside0.mk hl357_1; clear hi357_1 hl357_1; have HR357_2 := Aside0.mk hi357_2; have HC357_2 := Aside0.mk hl357_2; clear hi357_2 hl357_2; replace p357 := eq_true p357; replace q357 := eq_true q357) | ((with_reducible refine gate_dst (N := 16) rfl ?_); refine Kd.R_make Kd.bool _ 4 rfl (N := 16) rfl 89 _ _ rfl (((rd_T29 l0 0).f1).length : Int) rfl rfl Try.underlying89 (.bool false) 1 info4 rfl (by decide) (by omega) false (ok := fun _ => True) (okp := fun _ => True) rfl (fun _ hk => hk) trivial (of_decide_eq_true zA) (Nat.le_trans (Nat.mul_le_mul_right _ (of_decide_eq_true zA : (((rd_T29 l0 0).f1).length : Int).toNat ≤ 281474976710656)) (by omega)) (Below.refl _ _) (Nat.le_refl _) ?_; intro v359 w6 ho7 hb hg_ hnew_; clear hg_ hnew_; (first | rw [← Ny358.out] at ho7 | (simp only [Int.reduceToNat] at ho7; rw [← Ny358.out] at ho7)); have n_ : _ ∧ _ ∧ _ := ⟨Aside0.mk (Kd.R_lower ho7 (zz HB)), zk BK356 hb, zbs hb⟩; clear BK356 HB; obtain ⟨HO360, BK356, HB⟩ := n_; clear hb ho7))
 go_loopg [4] k (fun kq v4 w' => ∃ (x3_1 : List Bool) (x4_1 : Int), v4 = .int .i64 x4_1 ∧ Aside0 (spec_l04Trim.l0 kq l0 x3_1 x4_1 = some (r1, r2, r3)) ∧ Aside0 (kq ≤ k) ∧ Aside0 (Kd.R Kd.bool 4 w' w.heap.size (fun _ => True) v359 x3_1) ∧ Aside0 (w'.heap[gb356]? = some (.cells #[.int .i8 0, (.slice none 0 0), (.slice none 0 0)] 29 (0, 0))) ∧ Aside0 (Below w.heap.size w w'))
 case atStart => exact ⟨(y358), (0), zi, H', ⟨Nat.le_refl _⟩, ze HO360, zh BK356, zba⟩
 clear H'
 try clear c2
 try clear c2b0
 try clear c2b1
 try clear p2
 try clear c3
 try clear c3b0
 try clear c3b1
 try clear p3
 try clear q3
 try clear hx3
 try clear qi3
 try clear c4
 try clear c4b0
 try clear c4b1
 try clear hx357_0
 try clear hx357_1
 try clear hx357_2
 try clear p357
 try clear q357
 obtain ⟨x3_1, x4_1, rfl, HA, HK1, HO_3, BK356, HB⟩ := hrel
 cases gk with
 | zero => exact absurd HA.out (by simp [spec_l04Trim.l0])
 | succ k1 => ?_
 have H := HA.out
 clear HA
 simp only [spec_l04Trim.l0] at H
 by_cases c8 : 0 < (l0.length : Int)
 rotate_left
 ·rw [if_neg c8] at H
  exact absurd H (by simp)
 rw [if_pos c8] at H
 have c8b0 : decide (0 < (l0.length : Int)) = true := decide_eq_true c8
 have c8b1 : decide (0 < l0.length) = true := decide_eq_true (by omega)
 clear c8
 by_cases c9 : x4_1 < (((rd_T29 l0 0).f2).length : Int)
 ·rw [if_pos c9] at H
  have c9b0 : decide (x4_1 < (((rd_T29 l0 0).f2).length : Int)) = true := decide_eq_true c9
  clear c9
  by_cases c10 : 0 ≤ x4_1
  rotate_left
  ·rw [if_neg c10] at H
   exact absurd H (by simp)
  rw [if_pos c10] at H
  have c10b0 : decide (0 ≤ x4_1) = true := decide_eq_true c10
  clear c10
  by_cases c11 : 0 ≤ (rd ((rd_T29 l0 0).f2) x4_1)
  rotate_left
  ·rw [if_neg c11] at H
   exact absurd H (by simp)
  rw [if_pos c11] at H
  have c11b0 : decide (0 ≤ (rd ((rd_T29 l0 0).f2) x4_1)) = true := decide_eq_true c11
  clear c11
  by_cases c12 : (rd ((rd_T29 l0 0).f2) x4_1) < (x3_1.length : Int)
  rotate_left
  ·rw [if_neg c12] at H
   exact absurd H (by simp)
  rw [if_pos c12] at H
  have c12b0 : decide ((rd ((rd_T29 l0 0).f2) x4_1) < (x3_1.length : Int)) = true := decide_eq_true c12
  clear c12
  obtain ⟨y364, hy364⟩ : ∃ y_ : List Bool, y_ = (x3_1.set ((rd ((rd_T29 l0 0).f2) x4_1) : Int).toNat true) := ⟨_, rfl⟩
  replace H : (spec_l04Trim.l0 k1 l0 y364 (wrap64 (x4_1 + 1))) = some (r1, r2, r3) := by first | (rw [hy364]; with_reducible exact H) | (have H2_ := (Option.bind_some _ _).symm.trans H; rw [hy364]; with_reducible exact H2_) | (have H2_ := (Option.bind_some _ _).symm.trans H; with_reducible exact H2_) | with_reducible exact H | (rw [hy364]; exact H) | exact H
  have Ny364 := Aside0.mk hy364
  clear hy364
  have H' := Aside0.mk H
  clear H
  have p361 : 0 ≤ (0 : Int) := (by omega)
  have q361 : 0 < (l0.length : Int) := of_decide_eq_true zA
  obtain ⟨ad361, A361_1, c361_1, A361_2, c361_2, e361, hx361_0, hx361_1, hx361_2, hl361_1, hi361_1, hl361_2, hi361_2⟩ := at_T29 HR0.out 0 p361 q361
  obtain rfl : adp0 = ad361 := (by injection e361)
  have qi361 : (0 < l0.length) = True := eq_true (by omega)
  try simp only [z00, Nat.zero_mul, Addr.add_zero'] at hx361_0 hx361_1 hx361_2
  replace hx361_0 := zc HB hx361_0
  replace hx361_1 := zc HB hx361_1
  replace hx361_2 := zc HB hx361_2
  have HR361_1 := Aside0.mk hi361_1
  have HC361_1 := Aside0.mk hl361_1
  clear hi361_1 hl361_1
  have HR361_2 := Aside0.mk hi361_2
  have HC361_2 := Aside0.mk hl361_2
  clear hi361_2 hl361_2
  replace p361 := eq_true p361
  replace q361 := eq_true q361
  have p362 : 0 ≤ (0 : Int) := (by omega)
  have q362 : 0 < (l0.length : Int) := of_decide_eq_true zA
  obtain ⟨ad362, A362_1, c362_1, A362_2, c362_2, e362, hx362_0, hx362_1, hx362_2, hl362_1, hi362_1, hl362_2, hi362_2⟩ := at_T29 HR0.out 0 p362 q362
  obtain rfl : adp0 = ad362 := (by injection e362)
  have qi362 : (0 < l0.length) = True := eq_true (by omega)
  try simp only [z00, Nat.zero_mul, Addr.add_zero'] at hx362_0 hx362_1 hx362_2
  replace hx362_0 := zc HB hx362_0
  replace hx362_1 := zc HB hx362_1
  replace hx362_2 := zc HB hx362_2
  have HR362_1 := Aside0.mk hi362_1
  have HC362_1 := Aside0.mk hl362_1
  clear hi362_1 hl362_1
  have HR362_2 := Aside0.mk hi362_2
  have HC362_2 := Aside0.mk hl362_2
  clear hi362_2 hl362_2
  replace p362 := eq_true p362
  replace q362 := eq_true q362
  have ea_ := Option.some.inj (hx361_1.symm.trans hx362_1)
  injection ea_ with ea_ en_ ec_
  subst ea_
  subst ec_
  clear en_
  have ea_ := Option.some.inj (hx361_2.symm.trans hx362_2)
  injection ea_ with ea_ en_ ec_
  subst ea_
  subst ec_
  clear en_
  have p363 : 0 ≤ (x4_1 : Int) := of_decide_eq_true zA
  have q363 : x4_1 < (((rd_T29 l0 0).f2).length : Int) := of_decide_eq_true zA
  obtain ⟨ad363, e363, hx363_0⟩ := Kd.at_int HR362_2.out x4_1 p363 q363
  cases e363
  replace hx363_0 := zc HB hx363_0
  replace p363 := eq_true p363
  replace q363 := eq_true q363
  have p13 : 0 ≤ ((rd ((rd_T29 l0 0).f2) x4_1) : Int) := of_decide_eq_true zA
  have q13 : ((rd ((rd_T29 l0 0).f2) x4_1) : Int) < ((x3_1.length : Int) : Int) := of_decide_eq_true zA
  obtain ⟨go13, co13, eo13, gb13, gl13, cl13, HG13⟩ := Kd.R_form HO_3.out (by omega)
  (first | cases eo13 | (injection eo13 with ea_ en_ ec_; (first | subst ea_ | (injection ea_ with ea_; subst ea_)); subst ec_; clear en_))
  have GB13 := Aside0.mk gb13
  have GG13 := Aside0.mk HG13
  clear gb13 gl13 HG13
  obtain ⟨hx13_0, hf13_0⟩ := Kd.R_celln false HO_3.out ((rd ((rd_T29 l0 0).f2) x4_1) : Int) p13 q13
  replace p13 := eq_true p13
  replace q13 := eq_true q13
  have HP14 := Kd.R_putg HO_3.out ((rd ((rd_T29 l0 0).f2) x4_1) : Int) true
  go_wp2_with (first | ((with_reducible refine gate_store (t := 4) (p := 34) rfl ?_); refine store_event (t := 4) (p := 34) (v := ?vo_w15) (w1 := (wr.setCell ⟨go13, ((rd ((rd_T29 l0 0).f2) x4_1) : Int).toNat, none⟩ (.bool true))) ?hg ?ho ?hn ?hr ?_; (case ho => rfl); (case hg => rfl); (case hn => rfl); (case hr => exact zgs); intro w15 hw; have hg : wr.grownBy w15 (some go13) := (by rw [hw]; exact HP14.2); have hp_ : Kd.R Kd.bool 4 w15 w.heap.size (fun _ => True) (.slice (some ⟨go13, 0, none⟩) x3_1.length co13) y364 := (by rw [hw, Ny364.out]; exact HP14.1); clear HP14; have n_ : _ ∧ _ ∧ _ := ⟨Aside0.mk (hp_), Aside0.mk (blk_grown (g := gb356) (o := .cells #[.int .i8 0, .slice none 0 0, .slice none 0 0] 29 (0, 0)) (zh BK356).out hg (Kd.R_ne HO_3.out BK356.out (by decide))), Aside0.mk ((by rw [hw]; exact below_set (HB.out) GB13.out : Below w.heap.size w w15))⟩; clear HO_3 BK356 HB; obtain ⟨HO_3, BK356, HB⟩ := n_; clear hg hw hp_))
  go_roundg k1
  case measure => have := HK1.out; omega
  case rel => exact ⟨(y364), (wrap64 (x4_1 + 1)), zi, H', ⟨by have := HK1.out; omega⟩, ze HO_3, zh BK356, zba⟩
 rw [if_neg c9] at H
 have c9b0 : decide (x4_1 < (((rd_T29 l0 0).f2).length : Int)) = false := decide_eq_false c9
 clear c9
 have H' := Aside0.mk H
 clear H
 have p361 : 0 ≤ (0 : Int) := (by omega)
 have q361 : 0 < (l0.length : Int) := of_decide_eq_true zA
 obtain ⟨ad361, A361_1, c361_1, A361_2, c361_2, e361, hx361_0, hx361_1, hx361_2, hl361_1, hi361_1, hl361_2, hi361_2⟩ := at_T29 HR0.out 0 p361 q361
 obtain rfl : adp0 = ad361 := (by injection e361)
 have qi361 : (0 < l0.length) = True := eq_true (by omega)
 try simp only [z00, Nat.zero_mul, Addr.add_zero'] at hx361_0 hx361_1 hx361_2
 replace hx361_0 := zc HB hx361_0
 replace hx361_1 := zc HB hx361_1
 replace hx361_2 := zc HB hx361_2
 have HR361_1 := Aside0.mk hi361_1
 have HC361_1 := Aside0.mk hl361_1
 clear hi361_1 hl361_1
 have HR361_2 := Aside0.mk hi361_2
 have HC361_2 := Aside0.mk hl361_2
 clear hi361_2 hl361_2
 replace p361 := eq_true p361
 replace q361 := eq_true q361
 have p365 : 0 ≤ (0 : Int) := (by omega)
 have q365 : 0 < (l0.length : Int) := of_decide_eq_true zA
 obtain ⟨ad365, A365_1, c365_1, A365_2, c365_2, e365, hx365_0, hx365_1, hx365_2, hl365_1, hi365_1, hl365_2, hi365_2⟩ := at_T29 HR0.out 0 p365 q365
 obtain rfl : adp0 = ad365 := (by injection e365)
 have qi365 : (0 < l0.length) = True := eq_true (by omega)
 try simp only [z00, Nat.zero_mul, Addr.add_zero'] at hx365_0 hx365_1 hx365_2
 replace hx365_0 := zc HB hx365_0
 replace hx365_1 := zc HB hx365_1
 replace hx365_2 := zc HB hx365_2
 have HR365_1 := Aside0.mk hi365_1
 have HC365_1 := Aside0.mk hl365_1
 clear hi365_1 hl365_1
 have HR365_2 := Aside0.mk hi365_2
 have HC365_2 := Aside0.mk hl365_2
 clear hi365_2 hl365_2
 replace p365 := eq_true p365
 replace q365 := eq_true q365
 have ea_ := Option.some.inj (hx361_1.symm.trans hx365_1)
 injection ea_ with ea_ en_ ec_
 subst ea_
 subst ec_
 clear en_
 have ea_ := Option.some.inj (hx361_2.symm.trans hx365_2)
 injection ea_ with ea_ en_ ec_
 subst ea_
 subst ec_
 clear en_
 go_wp2
 go_loopg [5] k1 (fun kq v5 w' => ∃ (x3_2 : List Bool) (x5_2 : Int), v5 = .int .i64 x5_2 ∧ Aside0 (spec_l04Trim.l1 kq l0 x3_2 x5_2 = some (r1, r2, r3)) ∧ Aside0 (kq ≤ k1) ∧ Aside0 (Kd.R Kd.bool 4 w' w.heap.size (fun _ => True) v359 x3_2) ∧ Aside0 (w'.heap[gb356]? = some (.cells #[.int .i8 0, (.slice none 0 0), (.slice none 0 0)] 29 (0, 0))) ∧ Aside0 (Below w.heap.size w w'))
 case atStart => exact ⟨(x3_1), (wrap64 ((((rd_T29 l0 0).f1).length : Int) - 1)), zi, H', ⟨Nat.le_refl _⟩, ze HO_3, zh BK356, zba⟩
 clear H'
 try clear c1
 try clear p1
 try clear q1
 try clear hx1
 try clear hf1
 try clear c2
 try clear c2b0
 try clear c2b1
 try clear p2
 try clear c3
 try clear c3b0
 try clear c3b1
 try clear p3
 try clear q3
 try clear hx3
 try clear qi3
 try clear c4
 try clear c4b0
 try clear c4b1
 try clear p6
 try clear c8
 try clear c8b0
 try clear c8b1
 try clear c9
 try clear c9b0
 try clear c10
 try clear c10b0
 try clear c11
 try clear c11b0
 try clear c12
 try clear c12b0
 try clear p13
 try clear q13
 try clear hx13
 try clear hf13
 try clear hx13_0
 try clear hx357_0
 try clear hx357_1
 try clear hx357_2
 try clear hx361_0
 try clear hx361_1
 try clear hx361_2
 try clear hx362_0
 try clear hx362_1
 try clear hx362_2
 try clear hx363_0
 try clear hx365_0
 try clear hx365_1
 try clear hx365_2
 try clear p13
 try clear p2
 try clear p3
 try clear p357
 try clear p361
 try clear p362
 try clear p363
 try clear p365
 try clear q13
 try clear q3
 try clear q357
 try clear q361
 try clear q362
 try clear q363
 try clear q365
 obtain ⟨x3_2, x5_2, rfl, HA, HK2, HO_3, BK356, HB⟩ := hrel
 cases gk with
 | zero => exact absurd HA.out (by simp [spec_l04Trim.l1])
 | succ k2 => ?_
 have H := HA.out
 clear HA
 simp only [spec_l04Trim.l1] at H
 by_cases c16 : x5_2 ≥ 0
 ·rw [if_pos c16] at H
  have c16b0 : decide (0 ≤ x5_2) = true := decide_eq_true c16
  clear c16
  by_cases c17 : 0 ≤ x5_2
  rotate_left
  ·rw [if_neg c17] at H
   exact absurd H (by simp)
  rw [if_pos c17] at H
  have c17b0 : decide (0 ≤ x5_2) = true := decide_eq_true c17
  clear c17
  by_cases c18 : x5_2 < (x3_2.length : Int)
  rotate_left
  ·rw [if_neg c18] at H
   exact absurd H (by simp)
  rw [if_pos c18] at H
  have c18b0 : decide (x5_2 < (x3_2.length : Int)) = true := decide_eq_true c18
  clear c18
  obtain ⟨bq19, hbq19⟩ : ∃ b_ : Bool, b_ = (rdOf false x3_2 x5_2) := ⟨_, rfl⟩
  replace H : (if bq19 = true then (if 0 < (l0.length : Int) then (if x5_2 < (((rd_T29 l0 0).f1).length : Int) then (if ((rd_T61 ((rd_T29 l0 0).f1) x5_2).f0) ≥ 2 then (if 0 ≤ ((rd_T61 ((rd_T29 l0 0).f1) x5_2).f1) then (if ((rd_T61 ((rd_T29 l0 0).f1) x5_2).f1) < (x3_2.length : Int) then (if 0 ≤ ((rd_T61 ((rd_T29 l0 0).f1) x5_2).f2) then (if ((rd_T61 ((rd_T29 l0 0).f1) x5_2).f2) < (x3_2.length : Int) then (spec_l04Trim.l1 k2 l0 ((x3_2.set (((rd_T61 ((rd_T29 l0 0).f1) x5_2).f1) : Int).toNat true).set (((rd_T61 ((rd_T29 l0 0).f1) x5_2).f2) : Int).toNat true) (wrap64 (x5_2 - 1))) else (none)) else (none)) else (none)) else (none)) else (spec_l04Trim.l1 k2 l0 x3_2 (wrap64 (x5_2 - 1)))) else (none)) else (none)) else (spec_l04Trim.l1 k2 l0 x3_2 (wrap64 (x5_2 - 1)))) = some (r1, r2, r3) := by rw [← hbq19] at H; exact H
  have Nbq19 := Aside0.mk hbq19
  clear hbq19
  by_cases c20 : bq19 = true
  rotate_left
  ·replace c20 := Bool.eq_false_iff.mpr c20
   subst c20
   have H1 : (spec_l04Trim.l1 k2 l0 x3_2 (wrap64 (x5_2 - 1))) = some (r1, r2, r3) := by rw [if_neg (show ¬ (false = true) by decide)] at H; exact H
   clear H
   have H := H1
   clear H1
   have H' := Aside0.mk H
   clear H
   obtain ⟨Ao36, co36, eo36⟩ := Kd.R_slice HO_3.out
   subst eo36
   have p366 : 0 ≤ (x5_2 : Int) := of_decide_eq_true zA
   have q366 : x5_2 < (x3_2.length : Int) := of_decide_eq_true zA
   obtain ⟨ad366, e366, hx366_0⟩ := Kd.at_bool (Kd.R_reads' HO_3.out).2.2 x5_2 p366 q366
   (try rw [← Nbq19.out] at hx366_0)
   cases e366
   replace p366 := eq_true p366
   replace q366 := eq_true q366
   go_wp2
   go_roundg k2
   case measure => have := HK1.out; have := HK2.out; omega
   case rel => exact ⟨(x3_2), (wrap64 (x5_2 - 1)), zi, H', ⟨by have := HK1.out; have := HK2.out; omega⟩, ze HO_3, zh BK356, zba⟩
  subst c20
  have H1 : (if 0 < (l0.length : Int) then (if x5_2 < (((rd_T29 l0 0).f1).length : Int) then (if ((rd_T61 ((rd_T29 l0 0).f1) x5_2).f0) ≥ 2 then (if 0 ≤ ((rd_T61 ((rd_T29 l0 0).f1) x5_2).f1) then (if ((rd_T61 ((rd_T29 l0 0).f1) x5_2).f1) < (x3_2.length : Int) then (if 0 ≤ ((rd_T61 ((rd_T29 l0 0).f1) x5_2).f2) then (if ((rd_T61 ((rd_T29 l0 0).f1) x5_2).f2) < (x3_2.length : Int) then (spec_l04Trim.l1 k2 l0 ((x3_2.set (((rd_T61 ((rd_T29 l0 0).f1) x5_2).f1) : Int).toNat true).set (((rd_T61 ((rd_T29 l0 0).f1) x5_2).f2) : Int).toNat true) (wrap64 (x5_2 - 1))) else (none)) else (none)) else (none)) else (none)) else (spec_l04Trim.l1 k2 l0 x3_2 (wrap64 (x5_2 - 1)))) else (none)) else (none)) = some (r1, r2, r3) := by rw [if_pos rfl] at H; exact H
  clear H
  have H := H1
  clear H1
  by_cases c21 : 0 < (l0.length : Int)
  rotate_left
  ·rw [if_neg c21] at H
   exact absurd H (by simp)
  rw [if_pos c21] at H
  have c21b0 : decide (0 < (l0.length : Int)) = true := decide_eq_true c21
  have c21b1 : decide (0 < l0.length) = true := decide_eq_true (by omega)
  clear c21
  by_cases c22 : x5_2 < (((rd_T29 l0 0).f1).length : Int)
  rotate_left
  ·rw [if_neg c22] at H
   exact absurd H (by simp)
  rw [if_pos c22] at H
  have c22b0 : decide (x5_2 < (((rd_T29 l0 0).f1).length : Int)) = true := decide_eq_true c22
  clear c22
  by_cases c23 : ((rd_T61 ((rd_T29 l0 0).f1) x5_2).f0) ≥ 2
  rotate_left
  ·rw [if_neg c23] at H
   have c23b0 : decide (2 ≤ ((rd_T61 ((rd_T29 l0 0).f1) x5_2).f0)) = false := decide_eq_false c23
   clear c23
   have H' := Aside0.mk H
   clear H
   obtain ⟨Ao35, co35, eo35⟩ := Kd.R_slice HO_3.out
   subst eo35
   have p366 : 0 ≤ (x5_2 : Int) := of_decide_eq_true zA
   have q366 : x5_2 < (x3_2.length : Int) := of_decide_eq_true zA
   obtain ⟨ad366, e366, hx366_0⟩ := Kd.at_bool (Kd.R_reads' HO_3.out).2.2 x5_2 p366 q366
   (try rw [← Nbq19.out] at hx366_0)
   cases e366
   replace p366 := eq_true p366
   replace q366 := eq_true q366
   have p367 : 0 ≤ (0 : Int) := (by omega)
   have q367 : 0 < (l0.length : Int) := of_decide_eq_true zA
   obtain ⟨ad367, A367_1, c367_1, A367_2, c367_2, e367, hx367_0, hx367_1, hx367_2, hl367_1, hi367_1, hl367_2, hi367_2⟩ := at_T29 HR0.out 0 p367 q367
   obtain rfl : adp0 = ad367 := (by injection e367)
   have qi367 : (0 < l0.length) = True := eq_true (by omega)
   try simp only [z00, Nat.zero_mul, Addr.add_zero'] at hx367_0 hx367_1 hx367_2
   replace hx367_0 := zc HB hx367_0
   replace hx367_1 := zc HB hx367_1
   replace hx367_2 := zc HB hx367_2
   have HR367_1 := Aside0.mk hi367_1
   have HC367_1 := Aside0.mk hl367_1
   clear hi367_1 hl367_1
   have HR367_2 := Aside0.mk hi367_2
   have HC367_2 := Aside0.mk hl367_2
   clear hi367_2 hl367_2
   replace p367 := eq_true p367
   replace q367 := eq_true q367
   have p368 : 0 ≤ (x5_2 : Int) := of_decide_eq_true zA
   have q368 : x5_2 < (((rd_T29 l0 0).f1).length : Int) := of_decide_eq_true zA
   obtain ⟨ad368, e368, hx368_0, hx368_1, hx368_2⟩ := at_T61 HR367_1.out x5_2 p368 q368
   cases e368
   replace hx368_0 := zc HB hx368_0
   replace hx368_1 := zc HB hx368_1
   replace hx368_2 := zc HB hx368_2
   replace p368 := eq_true p368
   replace q368 := eq_true q368
   go_wp2
   go_roundg k2
   case measure => have := HK1.out; have := HK2.out; omega
   case rel => exact ⟨(x3_2), (wrap64 (x5_2 - 1)), zi, H', ⟨by have := HK1.out; have := HK2.out; omega⟩, ze HO_3, zh BK356, zba⟩
  rw [if_pos c23] at H
  have c23b0 : decide (2 ≤ ((rd_T61 ((rd_T29 l0 0).f1) x5_2).f0)) = true := decide_eq_true c23
  clear c23
  by_cases c24 : 0 ≤ ((rd_T61 ((rd_T29 l0 0).f1) x5_2).f1)
  rotate_left
  ·rw [if_neg c24] at H
   exact absurd H (by simp)
  rw [if_pos c24] at H
  have c24b0 : decide (0 ≤ ((rd_T61 ((rd_T29 l0 0).f1) x5_2).f1)) = true := decide_eq_true c24
  clear c24
  by_cases c25 : ((rd_T61 ((rd_T29 l0 0).f1) x5_2).f1) < (x3_2.length : Int)
  rotate_left
  ·rw [if_neg c25] at H
   exact absurd H (by simp)
  rw [if_pos c25] at H
  have c25b0 : decide (((rd_T61 ((rd_T29 l0 0).f1) x5_2).f1) < (x3_2.length : Int)) = true := decide_eq_true c25
  clear c25
  obtain ⟨y371, hy371⟩ : ∃ y_ : List Bool, y_ = (x3_2.set (((rd_T61 ((rd_T29 l0 0).f1) x5_2).f1) : Int).toNat true) := ⟨_, rfl⟩
  replace H : (if 0 ≤ ((rd_T61 ((rd_T29 l0 0).f1) x5_2).f2) then (if ((rd_T61 ((rd_T29 l0 0).f1) x5_2).f2) < (x3_2.length : Int) then (spec_l04Trim.l1 k2 l0 (y371.set (((rd_T61 ((rd_T29 l0 0).f1) x5_2).f2) : Int).toNat true) (wrap64 (x5_2 - 1))) else (none)) else (none)) = some (r1, r2, r3) := by first | (rw [hy371]; with_reducible exact H) | (have H2_ := (Option.bind_some _ _).symm.trans H; rw [hy371]; with_reducible exact H2_) | (have H2_ := (Option.bind_some _ _).symm.trans H; with_reducible exact H2_) | with_reducible exact H | (rw [hy371]; exact H) | exact H
  have Ny371 := Aside0.mk hy371
  clear hy371
  by_cases c27 : 0 ≤ ((rd_T61 ((rd_T29 l0 0).f1) x5_2).f2)
  rotate_left
  ·rw [if_neg c27] at H
   exact absurd H (by simp)
  rw [if_pos c27] at H
  have c27b0 : decide (0 ≤ ((rd_T61 ((rd_T29 l0 0).f1) x5_2).f2)) = true := decide_eq_true c27
  clear c27
  by_cases c28 : ((rd_T61 ((rd_T29 l0 0).f1) x5_2).f2) < (x3_2.length : Int)
  rotate_left
  ·rw [if_neg c28] at H
   exact absurd H (by simp)
  rw [if_pos c28] at H
  have c28b0 : decide (((rd_T61 ((rd_T29 l0 0).f1) x5_2).f2) < (x3_2.length : Int)) = true := decide_eq_true c28
  clear c28
  obtain ⟨y374, hy374⟩ : ∃ y_ : List Bool, y_ = (y371.set (((rd_T61 ((rd_T29 l0 0).f1) x5_2).f2) : Int).toNat true) := ⟨_, rfl⟩
  replace H : (spec_l04Trim.l1 k2 l0 y374 (wrap64 (x5_2 - 1))) = some (r1, r2, r3) := by first | (rw [hy374]; with_reducible exact H) | (have H2_ := (Option.bind_some _ _).symm.trans H; rw [hy374]; with_reducible exact H2_) | (have H2_ := (Option.bind_some _ _).symm.trans H; with_reducible exact H2_) | with_reducible exact H | (rw [hy374]; exact H) | exact H
  have Ny374 := Aside0.mk hy374
  clear hy374
  have H' := Aside0.mk H
  clear H
  obtain ⟨Ao30, co30, eo30⟩ := Kd.R_slice HO_3.out
  subst eo30
  have p366 : 0 ≤ (x5_2 : Int) := of_decide_eq_true zA
  have q366 : x5_2 < (x3_2.length : Int) := of_decide_eq_true zA
  obtain ⟨ad366, e366, hx366_0⟩ := Kd.at_bool (Kd.R_reads' HO_3.out).2.2 x5_2 p366 q366
  (try rw [← Nbq19.out] at hx366_0)
  cases e366
  replace p366 := eq_true p366
  replace q366 := eq_true q366
  have p367 : 0 ≤ (0 : Int) := (by omega)
  have q367 : 0 < (l0.length : Int) := of_decide_eq_true zA
  obtain ⟨ad367, A367_1, c367_1, A367_2, c367_2, e367, hx367_0, hx367_1, hx367_2, hl367_1, hi367_1, hl367_2, hi367_2⟩ := at_T29 HR0.out 0 p367 q367
  obtain rfl : adp0 = ad367 := (by injection e367)
  have qi367 : (0 < l0.length) = True := eq_true (by omega)
  try simp only [z00, Nat.zero_mul, Addr.add_zero'] at hx367_0 hx367_1 hx367_2
  replace hx367_0 := zc HB hx367_0
  replace hx367_1 := zc HB hx367_1
  replace hx367_2 := zc HB hx367_2
  have HR367_1 := Aside0.mk hi367_1
  have HC367_1 := Aside0.mk hl367_1
  clear hi367_1 hl367_1
  have HR367_2 := Aside0.mk hi367_2
  have HC367_2 := Aside0.mk hl367_2
  clear hi367_2 hl367_2
  replace p367 := eq_true p367
  replace q367 := eq_true q367
  have p368 : 0 ≤ (x5_2 : Int) := of_decide_eq_true zA
  have q368 : x5_2 < (((rd_T29 l0 0).f1).length : Int) := of_decide_eq_true zA
  obtain ⟨ad368, e368, hx368_0, hx368_1, hx368_2⟩ := at_T61 HR367_1.out x5_2 p368 q368
  cases e368
  replace hx368_0 := zc HB hx368_0
  replace hx368_1 := zc HB hx368_1
  replace hx368_2 := zc HB hx368_2
  replace p368 := eq_true p368
  replace q368 := eq_true q368
  have p369 : 0 ≤ (0 : Int) := (by omega)
  have q369 : 0 < (l0.length : Int) := of_decide_eq_true zA
  obtain ⟨ad369, A369_1, c369_1, A369_2, c369_2, e369, hx369_0, hx369_1, hx369_2, hl369_1, hi369_1, hl369_2, hi369_2⟩ := at_T29 HR0.out 0 p369 q369
  obtain rfl : adp0 = ad369 := (by injection e369)
  have qi369 : (0 < l0.length) = True := eq_true (by omega)
  try simp only [z00, Nat.zero_mul, Addr.add_zero'] at hx369_0 hx369_1 hx369_2
  replace hx369_0 := zc HB hx369_0
  replace hx369_1 := zc HB hx369_1
  replace hx369_2 := zc HB hx369_2
  have HR369_1 := Aside0.mk hi369_1
  have HC369_1 := Aside0.mk hl369_1
  clear hi369_1 hl369_1
  have HR369_2 := Aside0.mk hi369_2
  have HC369_2 := Aside0.mk hl369_2
  clear hi369_2 hl369_2
  replace p369 := eq_true p369
  replace q369 := eq_true q369
  have ea_ := Option.some.inj (hx367_1.symm.trans hx369_1)
  injection ea_ with ea_ en_ ec_
  subst ea_
  subst ec_
  clear en_
  have ea_ := Option.some.inj (hx367_2.symm.trans hx369_2)
  injection ea_ with ea_ en_ ec_
  subst ea_
  subst ec_
  clear en_
  have p370 : 0 ≤ (x5_2 : Int) := of_decide_eq_true zA
  have q370 : x5_2 < (((rd_T29 l0 0).f1).length : Int) := of_decide_eq_true zA
  obtain ⟨ad370, e370, hx370_0, hx370_1, hx370_2⟩ := at_T61 HR369_1.out x5_2 p370 q370
  obtain rfl : ad368 = ad370 := (by injection e370)
  replace hx370_0 := zc HB hx370_0
  replace hx370_1 := zc HB hx370_1
  replace hx370_2 := zc HB hx370_2
  replace p370 := eq_true p370
  replace q370 := eq_true q370
  have p26 : 0 ≤ (((rd_T61 ((rd_T29 l0 0).f1) x5_2).f1) : Int) := of_decide_eq_true zA
  have q26 : (((rd_T61 ((rd_T29 l0 0).f1) x5_2).f1) : Int) < ((x3_2.length : Int) : Int) := of_decide_eq_true zA
  obtain ⟨go26, co26, eo26, gb26, gl26, cl26, HG26⟩ := Kd.R_form HO_3.out (by omega)
  (first | cases eo26 | (injection eo26 with ea_ en_ ec_; (first | subst ea_ | (injection ea_ with ea_; subst ea_)); subst ec_; clear en_))
  have GB26 := Aside0.mk gb26
  have GG26 := Aside0.mk HG26
  clear gb26 gl26 HG26
  (first | simp only [add_plain] at hx366_0 | skip)
  obtain ⟨hx26_0, hf26_0⟩ := Kd.R_celln false HO_3.out (((rd_T61 ((rd_T29 l0 0).f1) x5_2).f1) : Int) p26 q26
  replace p26 := eq_true p26
  replace q26 := eq_true q26
  have HP31 := Kd.R_putg HO_3.out (((rd_T61 ((rd_T29 l0 0).f1) x5_2).f1) : Int) true
  go_wp2_with (first | ((with_reducible refine gate_store (t := 4) (p := 69) rfl ?_); refine store_event (t := 4) (p := 69) (v := ?vo_w32) (w1 := (wr.setCell ⟨go26, (((rd_T61 ((rd_T29 l0 0).f1) x5_2).f1) : Int).toNat, none⟩ (.bool true))) ?hg ?ho ?hn ?hr ?_; (case ho => rfl); (case hg => rfl); (case hn => rfl); (case hr => exact zgs); intro w32 hw; have hg : wr.grownBy w32 (some go26) := (by rw [hw]; exact HP31.2); have hp_ : Kd.R Kd.bool 4 w32 w.heap.size (fun _ => True) (.slice (some ⟨go26, 0, none⟩) x3_2.length co30) y371 := (by rw [hw, Ny371.out]; exact HP31.1); clear HP31; have n_ : _ ∧ _ ∧ _ := ⟨Aside0.mk (hp_), Aside0.mk (blk_grown (g := gb356) (o := .cells #[.int .i8 0, .slice none 0 0, .slice none 0 0] 29 (0, 0)) (zh BK356).out hg (Kd.R_ne HO_3.out BK356.out (by decide))), Aside0.mk ((by rw [hw]; exact below_set (HB.out) GB26.out : Below w.heap.size w w32))⟩; clear HO_3 BK356 HB; obtain ⟨HO_3, BK356, HB⟩ := n_; clear hg hw hp_; have p372 : 0 ≤ (0 : Int) := (by omega); have q372 : 0 < (l0.length : Int) := of_decide_eq_true zA; obtain ⟨ad372, A372_1, c372_1, A372_2, c372_2, e372, hx372_0, hx372_1, hx372_2, hl372_1, hi372_1, hl372_2, hi372_2⟩ := at_T29 HR0.out 0 p372 q372; obtain rfl : adp0 = ad372 := (by injection e372); have qi372 : (0 < l0.length) = True := eq_true (by omega); (try simp only [z00, Nat.zero_mul, Addr.add_zero'] at hx372_0 hx372_1 hx372_2); replace hx372_0 := zc HB hx372_0; replace hx372_1 := zc HB hx372_1; replace hx372_2 := zc HB hx372_2; have HR372_1 := Aside0.mk hi372_1; have HC372_1 := Aside0.mk hl372_1; clear hi372_1 hl372_1; have HR372_2 := Aside0.mk hi372_2; have HC372_2 := Aside0.mk hl372_2; clear hi372_2 hl372_2; replace p372 := eq_true p372; replace q372 := eq_true q372; have p373 : 0 ≤ (x5_2 : Int) := of_decide_eq_true zA; have q373 : x5_2 < (((rd_T29 l0 0).f1).length : Int) := of_decide_eq_true zA; obtain ⟨ad373, e373, hx373_0, hx373_1, hx373_2⟩ := at_T61 HR372_1.out x5_2 p373 q373; cases e373; replace hx373_0 := zc HB hx373_0; replace hx373_1 := zc HB hx373_1; replace hx373_2 := zc HB hx373_2; replace p373 := eq_true p373; replace q373 := eq_true q373; have p29 : 0 ≤ (((rd_T61 ((rd_T29 l0 0).f1) x5_2).f2) : Int) := of_decide_eq_true zA; have q29 : (((rd_T61 ((rd_T29 l0 0).f1) x5_2).f2) : Int) < ((x3_2.length : Int) : Int) := of_decide_eq_true zA; obtain ⟨hx29_0, hf29_0⟩ := Kd.R_celln false HO_3.out (((rd_T61 ((rd_T29 l0 0).f1) x5_2).f2) : Int) p29 q29; replace p29 := eq_true p29; replace q29 := eq_true q29; obtain ⟨hy33_, hz33_⟩ := Kd.R_celln false HO_3.out (((rd_T61 ((rd_T29 l0 0).f1) x5_2).f2) : Int) (of_decide_eq_true zA) (of_decide_eq_true zA); have HP33 := Kd.R_putg HO_3.out (((rd_T61 ((rd_T29 l0 0).f1) x5_2).f2) : Int) true) | ((with_reducible refine gate_store (t := 4) (p := 79) rfl ?_); refine store_event (t := 4) (p := 79) (v := ?vo_w34) (w1 := (w32.setCell ⟨go26, (((rd_T61 ((rd_T29 l0 0).f1) x5_2).f2) : Int).toNat, none⟩ (.bool true))) ?hg ?ho ?hn ?hr ?_; (case ho => rfl); (case hg => rfl); (case hn => rfl); (case hr => exact zgs); intro w34 hw; have hg : w32.grownBy w34 (some go26) := (by rw [hw]; exact HP33.2); have hp_ : Kd.R Kd.bool 4 w34 w.heap.size (fun _ => True) (.slice (some ⟨go26, 0, none⟩) x3_2.length co30) y374 := (by rw [hw, Ny374.out]; exact HP33.1); clear HP33; have n_ : _ ∧ _ ∧ _ := ⟨Aside0.mk (hp_), Aside0.mk (blk_grown (g := gb356) (o := .cells #[.int .i8 0, .slice none 0 0, .slice none 0 0] 29 (0, 0)) (zh BK356).out hg (Kd.R_ne HO_3.out BK356.out (by decide))), Aside0.mk ((by rw [hw]; exact below_set (HB.out) GB26.out : Below w.heap.size w w34))⟩; clear HO_3 BK356 HB; obtain ⟨HO_3, BK356, HB⟩ := n_; clear hg hw hp_))
  go_roundg k2
  case measure => have := HK1.out; have := HK2.out; omega
  case rel => exact ⟨(y374), (wrap64 (x5_2 - 1)), zi, H', ⟨by have := HK1.out; have := HK2.out; omega⟩, ze HO_3, zh BK356, zba⟩
 rw [if_neg c16] at H
 have c16b0 : decide (0 ≤ x5_2) = false := decide_eq_false c16
 clear c16
 by_cases c37 : 0 < (l0.length : Int)
 rotate_left
 ·rw [if_neg c37] at H
  exact absurd H (by simp)
 rw [if_pos c37] at H
 have c37b0 : decide (0 < (l0.length : Int)) = true := decide_eq_true c37
 have c37b1 : decide (0 < l0.length) = true := decide_eq_true (by omega)
 clear c37
 by_cases c38 : 0 ≤ (((rd_T29 l0 0).f1).length : Int)
 rotate_left
 ·rw [if_neg c38] at H
  exact absurd H (by simp)
 rw [if_pos c38] at H
 have c38b0 := eq_true c38
 have c38b1 : decide (0 ≤ (((rd_T29 l0 0).f1).length : Int)) = true := decide_eq_true c38
 clear c38
 by_cases c39 : ((((rd_T29 l0 0).f1).length : Int) : Int).toNat ≤ 140737488355328
 rotate_left
 ·rw [if_neg c39] at H
  exact absurd H (by simp)
 rw [if_pos c39] at H
 have c39b0 := eq_true c39
 have c39b1 : decide (((((rd_T29 l0 0).f1).length : Int) : Int).toNat ≤ 140737488355328) = true := decide_eq_true c39
 clear c39
 obtain ⟨y376, hy376⟩ : ∃ y_ : List Int, y_ = (List.replicate ((((rd_T29 l0 0).f1).length : Int) : Int).toNat 0) := ⟨_, rfl⟩
 replace H : (spec_l04Trim.l2 k2 l0 x3_2 y376 0 ((rd_T29 l0 0).f0) ([] : List (S61))) = some (r1, r2, r3) := by first | (rw [hy376]; with_reducible exact H) | (have H2_ := (Option.bind_some _ _).symm.trans H; rw [hy376]; with_reducible exact H2_) | (have H2_ := (Option.bind_some _ _).symm.trans H; with_reducible exact H2_) | with_reducible exact H | (rw [hy376]; exact H) | exact H
 have Ny376 := Aside0.mk hy376
 clear hy376
 have H' := Aside0.mk H
 clear H
 have p375 : 0 ≤ (0 : Int) := (by omega)
 have q375 : 0 < (l0.length : Int) := of_decide_eq_true zA
 obtain ⟨ad375, A375_1, c375_1, A375_2, c375_2, e375, hx375_0, hx375_1, hx375_2, hl375_1, hi375_1, hl375_2, hi375_2⟩ := at_T29 HR0.out 0 p375 q375
 obtain rfl : adp0 = ad375 := (by injection e375)
 have qi375 : (0 < l0.length) = True := eq_true (by omega)
 try simp only [z00, Nat.zero_mul, Addr.add_zero'] at hx375_0 hx375_1 hx375_2
 replace hx375_0 := zc HB hx375_0
 replace hx375_1 := zc HB hx375_1
 replace hx375_2 := zc HB hx375_2
 have HR375_1 := Aside0.mk hi375_1
 have HC375_1 := Aside0.mk hl375_1
 clear hi375_1 hl375_1
 have HR375_2 := Aside0.mk hi375_2
 have HC375_2 := Aside0.mk hl375_2
 clear hi375_2 hl375_2
 replace p375 := eq_true p375
 replace q375 := eq_true q375
 go_wp2_with (first | ((with_reducible refine gate_dst (N := 85) rfl ?_); refine Kd.R_make (Kd.int .i16) _ 54 rfl (N := 85) rfl 27 _ _ rfl (((rd_T29 l0 0).f1).length : Int) rfl rfl Try.underlying27 (.int .i16 0) 2 info54 rfl (by decide) (by omega) 0 (ok := fun _ => True) (okp := fun _ => True) rfl (fun _ hk => hk) trivial (of_decide_eq_true zA) (Nat.le_trans (Nat.mul_le_mul_right _ (of_decide_eq_true zA : (((rd_T29 l0 0).f1).length : Int).toNat ≤ 140737488355328)) (by omega)) (Below.refl _ _) (Nat.le_refl _) ?_; intro v377 w40 ho41 hb hg_ hnew_; clear hg_ hnew_; (first | rw [← Ny376.out] at ho41 | (simp only [Int.reduceToNat] at ho41; rw [← Ny376.out] at ho41)); have n_ : _ ∧ _ ∧ _ ∧ _ := ⟨zr HO_3 hb, Aside0.mk (Kd.R_lower ho41 (zz HB)), zk BK356 hb, zbs hb⟩; clear HO_3 BK356 HB; obtain ⟨HO_3, HO378, BK356, HB⟩ := n_; clear hb ho41; have p379 : 0 ≤ (0 : Int) := (by omega); have q379 : 0 < (l0.length : Int) := of_decide_eq_true zA; obtain ⟨ad379, A379_1, c379_1, A379_2, c379_2, e379, hx379_0, hx379_1, hx379_2, hl379_1, hi379_1, hl379_2, hi379_2⟩ := at_T29 HR0.out 0 p379 q379; obtain rfl : adp0 = ad379 := (by injection e379); have qi379 : (0 < l0.length) = True := eq_true (by omega); (try simp only [z00, Nat.zero_mul, Addr.add_zero'] at hx379_0 hx379_1 hx379_2); replace hx379_0 := zc HB hx379_0; replace hx379_1 := zc HB hx379_1; replace hx379_2 := zc HB hx379_2; have HR379_1 := Aside0.mk hi379_1; have HC379_1 := Aside0.mk hl379_1; clear hi379_1 hl379_1; have HR379_2 := Aside0.mk hi379_2; have HC379_2 := Aside0.mk hl379_2; clear hi379_2 hl379_2; replace p379 := eq_true p379; replace q379 := eq_true q379) | ((with_reducible refine gate_dst (N := 7) rfl ?_); refine zbx 7 #[.int .i8 0, .slice none 0 0, .slice none 0 0] 29 ?_; intro gb380 hg w42 hbox hb; have n_ : _ ∧ _ ∧ _ ∧ _ ∧ _ ∧ _ ∧ _ ∧ _ ∧ _ := ⟨zr HO_3 hb, zr HO378 hb, zk BK356 hb, zbs hb, Aside0.mk (hbox), zg HB hg, zg HB hg, zn1 BK356 hg, zn2 BK356 hg⟩; clear HO_3 HO378 BK356 HB; obtain ⟨HO_3, HO378, BK356, HB, BK380, GW380, GE380, NB356_380, NB380_356⟩ := n_; clear hb hbox hg; have hnb43 := NB380_356.out; have hnc43 := NB356_380.out; obtain ⟨z44_0, z44_1, z44_2, y44_0, y44_1, y44_2⟩ := zB3 BK380))
 go_loopg [8] k2 (fun kq v8 w' => ∃ (x6_3 : List Int) (x8_3 : Int) (x381001_3 : List (S61)) (u381001 : Value), v8 = .int .i64 x8_3 ∧ Aside0 (spec_l04Trim.l2 kq l0 x3_2 x6_3 x8_3 ((rd_T29 l0 0).f0) x381001_3 = some (r1, r2, r3)) ∧ Aside0 (kq ≤ k2) ∧ Aside0 (Kd.R Kd.bool 4 w' w.heap.size (fun _ => True) v359 x3_2) ∧ Aside0 (Kd.R (Kd.int .i16) 54 w' w.heap.size (fun _ => True) v377 x6_3) ∧ Aside0 (Kd.R k61 61 w' w.heap.size (fun _ => True) u381001 x381001_3) ∧ Aside0 (w'.heap[gb356]? = some (.cells #[.int .i8 0, (.slice none 0 0), (.slice none 0 0)] 29 (0, 0))) ∧ Aside0 (w'.heap[gb380]? = some (.cells #[.int .i8 ((rd_T29 l0 0).f0), u381001, (.slice none 0 0)] 29 (0, 0))) ∧ Aside0 (Below w.heap.size w w'))
 case atStart => exact ⟨(y376), (0), (([] : List (S61))), (.slice none 0 0), zi, H', ⟨Nat.le_refl _⟩, ⟨Kd.R_mono (zs HO_3 BK380).out (fun _ hk => trivial)⟩, ⟨Kd.R_mono (zs HO378 BK380).out (fun _ hk => trivial)⟩, ⟨by first | exact Kd.R_nil _ _ _ _ _ | exact Kd.N_nil _ _ _ _ _ | exact Kd.V_nil _ _ _ _ _ | exact Kd.Q_nil _ _ _ _ _ | exact Kd.S_nil _ _ _ _ _⟩, zf BK356 NB356_380, ⟨zp BK380⟩, zba⟩
 clear H'
 try clear c1
 try clear p1
 try clear q1
 try clear hx1
 try clear hf1
 try clear c2
 try clear c2b0
 try clear c2b1
 try clear p2
 try clear q2
 try clear hx2
 try clear hf2
 try clear c3
 try clear c3b0
 try clear c3b1
 try clear p3
 try clear q3
 try clear hx3
 try clear qi3
 try clear c4
 try clear c4b0
 try clear c4b1
 try clear p6
 try clear c8
 try clear c8b0
 try clear c8b1
 try clear c9
 try clear c9b0
 try clear c10
 try clear c10b0
 try clear c11
 try clear c11b0
 try clear c12
 try clear c12b0
 try clear p13
 try clear q13
 try clear hx13
 try clear hf13
 try clear c16
 try clear c16b0
 try clear c17
 try clear c17b0
 try clear c18
 try clear c18b0
 try clear q19
 try clear c20
 try clear c21
 try clear c21b0
 try clear c21b1
 try clear c22
 try clear c22b0
 try clear c23
 try clear c23b0
 try clear c24
 try clear c24b0
 try clear c25
 try clear c25b0
 try clear p26
 try clear q26
 try clear hx26
 try clear hf26
 try clear c27
 try clear c27b0
 try clear c28
 try clear c28b0
 try clear p29
 try clear q29
 try clear hx29
 try clear hf29
 try clear c35
 try clear p35
 try clear q35
 try clear hx35
 try clear qi35
 try clear c36
 try clear p36
 try clear q36
 try clear hx36
 try clear qi36
 try clear c37
 try clear c37b0
 try clear c37b1
 try clear p37
 try clear q37
 try clear hx37
 try clear qi37
 try clear c38
 try clear c38b0
 try clear c38b1
 try clear c39
 try clear c39b0
 try clear c39b1
 try clear c43
 try clear z44_0 z44_1 z44_2 y44_0 y44_1 y44_2
 try clear hx13_0
 try clear hx26_0
 try clear hx29_0
 try clear hx357_0
 try clear hx357_1
 try clear hx357_2
 try clear hx361_0
 try clear hx361_1
 try clear hx361_2
 try clear hx362_0
 try clear hx362_1
 try clear hx362_2
 try clear hx363_0
 try clear hx365_0
 try clear hx365_1
 try clear hx365_2
 try clear hx366_0
 try clear hx367_0
 try clear hx367_1
 try clear hx367_2
 try clear hx368_0
 try clear hx368_1
 try clear hx368_2
 try clear hx369_0
 try clear hx369_1
 try clear hx369_2
 try clear hx370_0
 try clear hx370_1
 try clear hx370_2
 try clear hx372_0
 try clear hx372_1
 try clear hx372_2
 try clear hx373_0
 try clear hx373_1
 try clear hx373_2
 try clear hx375_0
 try clear hx375_1
 try clear hx375_2
 try clear hx379_0
 try clear hx379_1
 try clear hx379_2
 try clear p1
 try clear p13
 try clear p2
 try clear p26
 try clear p29
 try clear p3
 try clear p357
 try clear p361
 try clear p362
 try clear p363
 try clear p365
 try clear p366
 try clear p367
 try clear p368
 try clear p369
 try clear p370
 try clear p372
 try clear p373
 try clear p375
 try clear p379
 try clear p6
 try clear q1
 try clear q13
 try clear q26
 try clear q29
 try clear q3
 try clear q357
 try clear q361
 try clear q362
 try clear q363
 try clear q365
 try clear q366
 try clear q367
 try clear q368
 try clear q369
 try clear q370
 try clear q372
 try clear q373
 try clear q375
 try clear q379
 obtain ⟨x6_3, x8_3, x381001_3, u381001, rfl, HA, HK3, HO_3, HO_6, HO_381001, BK356, BK380, HB⟩ := hrel
 cases gk with
 | zero => exact absurd HA.out (by simp [spec_l04Trim.l2])
 | succ k3 => ?_
 have H := HA.out
 clear HA
 simp only [spec_l04Trim.l2] at H
 by_cases c45 : 0 < (l0.length : Int)
 rotate_left
 ·rw [if_neg c45] at H
  exact absurd H (by simp)
 rw [if_pos c45] at H
 have c45b0 : decide (0 < (l0.length : Int)) = true := decide_eq_true c45
 have c45b1 : decide (0 < l0.length) = true := decide_eq_true (by omega)
 clear c45
 by_cases c46 : x8_3 < (((rd_T29 l0 0).f1).length : Int)
 rotate_left
 ·rw [if_neg c46] at H
  have c46b0 : decide (x8_3 < (((rd_T29 l0 0).f1).length : Int)) = false := decide_eq_false c46
  clear c46
  have H' := Aside0.mk H
  clear H
  have p381 : 0 ≤ (0 : Int) := (by omega)
  have q381 : 0 < (l0.length : Int) := of_decide_eq_true zA
  obtain ⟨ad381, A381_1, c381_1, A381_2, c381_2, e381, hx381_0, hx381_1, hx381_2, hl381_1, hi381_1, hl381_2, hi381_2⟩ := at_T29 HR0.out 0 p381 q381
  obtain rfl : adp0 = ad381 := (by injection e381)
  have qi381 : (0 < l0.length) = True := eq_true (by omega)
  try simp only [z00, Nat.zero_mul, Addr.add_zero'] at hx381_0 hx381_1 hx381_2
  replace hx381_0 := zc HB hx381_0
  replace hx381_1 := zc HB hx381_1
  replace hx381_2 := zc HB hx381_2
  have HR381_1 := Aside0.mk hi381_1
  have HC381_1 := Aside0.mk hl381_1
  clear hi381_1 hl381_1
  have HR381_2 := Aside0.mk hi381_2
  have HC381_2 := Aside0.mk hl381_2
  clear hi381_2 hl381_2
  replace p381 := eq_true p381
  replace q381 := eq_true q381
  go_wp2
  go_loopg [10] k3 (fun kq v10 w' => ∃ (x10_4 : Int) (x381002_4 : List Int) (u381002 : Value), v10 = .int .i64 x10_4 ∧ Aside0 (spec_l04Trim.l3 kq l0 x6_3 x10_4 ((rd_T29 l0 0).f0) x381001_3 x381002_4 = some (r1, r2, r3)) ∧ Aside0 (kq ≤ k3) ∧ Aside0 (Kd.R (Kd.int .i16) 54 w' w.heap.size (fun k_ => some k_ ≠ (u381002 : Value).ownBlock) v377 x6_3) ∧ Aside0 (Kd.R k61 61 w' w.heap.size (fun _ => True) u381001 x381001_3) ∧ Aside0 (Kd.R (Kd.int .i16) 54 w' w.heap.size (fun k_ => some k_ ≠ (v377 : Value).ownBlock) u381002 x381002_4) ∧ Aside0 (w'.heap[gb356]? = some (.cells #[.int .i8 0, (.slice none 0 0), (.slice none 0 0)] 29 (0, 0))) ∧ Aside0 (w'.heap[gb380]? = some (.cells #[.int .i8 ((rd_T29 l0 0).f0), u381001, u381002] 29 (0, 0))) ∧ Aside0 (Below w.heap.size w w'))
  case atStart => exact ⟨(0), (([] : List Int)), (.slice none 0 0), zi, H', ⟨Nat.le_refl _⟩, ⟨by (with_reducible repeat (first | apply Kd.R_alloc | apply Kd.R_drewN | apply Kd.R_drew)); exact Kd.R_mono HO_6.out (fun _ hk => (by simp [Value.ownBlock]))⟩, ze HO_381001, ⟨by first | exact Kd.R_nil _ _ _ _ _ | exact Kd.N_nil _ _ _ _ _ | exact Kd.V_nil _ _ _ _ _ | exact Kd.Q_nil _ _ _ _ _ | exact Kd.S_nil _ _ _ _ _⟩, zh BK356, zh BK380, zba⟩
  clear H'
  try clear c1
  try clear p1
  try clear q1
  try clear hx1
  try clear hf1
  try clear c2
  try clear c2b0
  try clear c2b1
  try clear p2
  try clear q2
  try clear hx2
  try clear hf2
  try clear c3
  try clear c3b0
  try clear c3b1
  try clear p3
  try clear q3
  try clear hx3
  try clear qi3
  try clear c4
  try clear c4b0
  try clear c4b1
  try clear q4
  try clear c5
  try clear p5
  try clear q5
  try clear hx5
  try clear hf5
  try clear c6
  try clear p6
  try clear c7
  try clear c8
  try clear c8b0
  try clear c8b1
  try clear p8
  try clear q8
  try clear hx8
  try clear hf8
  try clear c9
  try clear c9b0
  try clear c10
  try clear c10b0
  try clear c11
  try clear c11b0
  try clear c12
  try clear c12b0
  try clear p13
  try clear q13
  try clear hx13
  try clear hf13
  try clear c16
  try clear c16b0
  try clear c17
  try clear c17b0
  try clear c18
  try clear c18b0
  try clear q19
  try clear c20
  try clear c21
  try clear c21b0
  try clear c21b1
  try clear c22
  try clear c22b0
  try clear c23
  try clear c23b0
  try clear c24
  try clear c24b0
  try clear c25
  try clear c25b0
  try clear p26
  try clear q26
  try clear hx26
  try clear hf26
  try clear c27
  try clear c27b0
  try clear c28
  try clear c28b0
  try clear p29
  try clear q29
  try clear hx29
  try clear hf29
  try clear c35
  try clear p35
  try clear q35
  try clear hx35
  try clear qi35
  try clear c36
  try clear p36
  try clear q36
  try clear hx36
  try clear qi36
  try clear c37
  try clear c37b0
  try clear c37b1
  try clear p37
  try clear q37
  try clear hx37
  try clear qi37
  try clear c38
  try clear c38b0
  try clear c38b1
  try clear p38
  try clear q38
  try clear hx38
  try clear qi38
  try clear c39
  try clear c39b0
  try clear c39b1
  try clear c43
  try clear c45
  try clear c45b0
  try clear c45b1
  try clear c46
  try clear c46b0
  try clear c47
  try clear c47b0
  try clear c48
  try clear c48b0
  try clear q49
  try clear c50
  try clear c51
  try clear c51b0
  try clear c52
  try clear c52b0
  try clear c53
  try clear c53b0
  try clear c54
  try clear c54b0
  try clear c55
  try clear c55b0
  try clear c56
  try clear c56b0
  try clear p57
  try clear q57
  try clear hx57
  try clear hf57
  try clear c58
  try clear c61
  try clear c62
  try clear p64
  try clear c70
  try clear c80
  try clear c80b0
  try clear p81
  try clear q81
  try clear hx81
  try clear hf81
  try clear c82
  try clear c85
  try clear c86
  try clear c90
  try clear z44_0 z44_1 z44_2
  try clear z63_0 z63_1 z63_2
  try clear z65_0 z65_1 z65_2
  try clear z68_0 z68_1 z68_2
  try clear z71_0 z71_1 z71_2
  try clear z75_0 z75_1 z75_2
  try clear z76_0 z76_1 z76_2
  try clear z79_0 z79_1 z79_2
  try clear z87_0 z87_1 z87_2
  try clear z89_0 z89_1 z89_2
  try clear z91_0 z91_1 z91_2
  try clear z95_0 z95_1 z95_2
  try clear z96_0 z96_1 z96_2
  try clear z99_0 z99_1 z99_2
  try clear y44_0
  try clear y44_1
  try clear y44_2
  try clear y63_0
  try clear y63_1
  try clear y63_2
  try clear y65_0
  try clear y65_1
  try clear y65_2
  try clear y68_0
  try clear y68_1
  try clear y68_2
  try clear y71_0
  try clear y71_1
  try clear y71_2
  try clear y75_0
  try clear y75_1
  try clear y75_2
  try clear y76_0
  try clear y76_1
  try clear y76_2
  try clear y79_0
  try clear y79_1
  try clear y79_2
  try clear y87_0
  try clear y87_1
  try clear y87_2
  try clear y89_0
  try clear y89_1
  try clear y89_2
  try clear y91_0
  try clear y91_1
  try clear y91_2
  try clear y95_0
  try clear y95_1
  try clear y95_2
  try clear y96_0
  try clear y96_1
  try clear y96_2
  try clear y99_0
  try clear y99_1
  try clear y99_2
  try clear hx13_0
  try clear hx26_0
  try clear hx29_0
  try clear hx357_0
  try clear hx357_1
  try clear hx357_2
  try clear hx361_0
  try clear hx361_1
  try clear hx361_2
  try clear hx362_0
  try clear hx362_1
  try clear hx362_2
  try clear hx363_0
  try clear hx365_0
  try clear hx365_1
  try clear hx365_2
  try clear hx366_0
  try clear hx367_0
  try clear hx367_1
  try clear hx367_2
  try clear hx368_0
  try clear hx368_1
  try clear hx368_2
  try clear hx369_0
  try clear hx369_1
  try clear hx369_2
  try clear hx370_0
  try clear hx370_1
  try clear hx370_2
  try clear hx372_0
  try clear hx372_1
  try clear hx372_2
  try clear hx373_0
  try clear hx373_1
  try clear hx373_2
  try clear hx375_0
  try clear hx375_1
  try clear hx375_2
  try clear hx379_0
  try clear hx379_1
  try clear hx379_2
  try clear hx381_0
  try clear hx381_1
  try clear hx381_2
  try clear hx382_0
  try clear hx383_0
  try clear hx383_1
  try clear hx383_2
  try clear hx384_0
  try clear hx384_1
  try clear hx384_2
  try clear hx386_0
  try clear hx387_0
  try clear hx57_0
  try clear hx81_0
  try clear p1
  try clear p13
  try clear p2
  try clear p26
  try clear p29
  try clear p3
  try clear p35
  try clear p357
  try clear p36
  try clear p361
  try clear p362
  try clear p363
  try clear p365
  try clear p366
  try clear p367
  try clear p368
  try clear p369
  try clear p37
  try clear p370
  try clear p372
  try clear p373
  try clear p375
  try clear p379
  try clear p381
  try clear p382
  try clear p383
  try clear p384
  try clear p386
  try clear p387
  try clear p57
  try clear p6
  try clear p81
  try clear q1
  try clear q13
  try clear q19
  try clear q2
  try clear q26
  try clear q29
  try clear q3
  try clear q35
  try clear q357
  try clear q36
  try clear q361
  try clear q362
  try clear q363
  try clear q365
  try clear q366
  try clear q367
  try clear q368
  try clear q369
  try clear q37
  try clear q370
  try clear q372
  try clear q373
  try clear q375
  try clear q379
  try clear q381
  try clear q382
  try clear q383
  try clear q384
  try clear q386
  try clear q387
  try clear q57
  try clear q81
  obtain ⟨x10_4, x381002_4, u381002, rfl, HA, HK4, HO_6, HO_381001, HO_381002, BK356, BK380, HB⟩ := hrel
  cases gk with
  | zero => exact absurd HA.out (by simp [spec_l04Trim.l3])
  | succ k4 => ?_
  have H := HA.out
  clear HA
  simp only [spec_l04Trim.l3] at H
  by_cases c101 : 0 < (l0.length : Int)
  rotate_left
  ·rw [if_neg c101] at H
   exact absurd H (by simp)
  rw [if_pos c101] at H
  have c101b0 : decide (0 < (l0.length : Int)) = true := decide_eq_true c101
  have c101b1 : decide (0 < l0.length) = true := decide_eq_true (by omega)
  clear c101
  by_cases c102 : x10_4 < (((rd_T29 l0 0).f2).length : Int)
  rotate_left
  ·rw [if_neg c102] at H
   have c102b0 : decide (x10_4 < (((rd_T29 l0 0).f2).length : Int)) = false := decide_eq_false c102
   clear c102
   simp only [Option.some.injEq, Prod.mk.injEq] at H
   obtain ⟨rfl, rfl, rfl⟩ := H
   have p396 : 0 ≤ (0 : Int) := (by omega)
   have q396 : 0 < (l0.length : Int) := of_decide_eq_true zA
   obtain ⟨ad396, A396_1, c396_1, A396_2, c396_2, e396, hx396_0, hx396_1, hx396_2, hl396_1, hi396_1, hl396_2, hi396_2⟩ := at_T29 HR0.out 0 p396 q396
   obtain rfl : adp0 = ad396 := (by injection e396)
   have qi396 : (0 < l0.length) = True := eq_true (by omega)
   try simp only [z00, Nat.zero_mul, Addr.add_zero'] at hx396_0 hx396_1 hx396_2
   replace hx396_0 := zc HB hx396_0
   replace hx396_1 := zc HB hx396_1
   replace hx396_2 := zc HB hx396_2
   have HR396_1 := Aside0.mk hi396_1
   have HC396_1 := Aside0.mk hl396_1
   clear hi396_1 hl396_1
   have HR396_2 := Aside0.mk hi396_2
   have HC396_2 := Aside0.mk hl396_2
   clear hi396_2 hl396_2
   replace p396 := eq_true p396
   replace q396 := eq_true q396
   have hnb112 := NB380_356.out
   have hnc112 := NB356_380.out
   obtain ⟨z113_0, z113_1, z113_2, y113_0, y113_1, y113_2⟩ := zB3 BK380
   obtain ⟨z114_0, z114_1, z114_2, y114_0, y114_1, y114_2⟩ := zB3 BK356
   obtain ⟨Ao115, co115, eo115⟩ := Kd.R_slice HO_381001.out
   subst eo115
   obtain ⟨Ao116, co116, eo116⟩ := Kd.R_slice HO_381002.out
   subst eo116
   go_wp2
   refine bodyPost_ret (results_cell_row rfl _ _ gb356 29 #[.int .i8 ((rd_T29 l0 0).f0), .slice Ao115 x381001_3.length co115, .slice Ao116 x381002_4.length co116] (0, 0) _ rfl (zp BK356) Try.underlying29 rfl (by kernel_rfl)) rfl ?_
   exact ⟨_, _, zv, Kd.R_mono (zs HO_381001 BK356).out (fun _ hk => trivial), Kd.R_mono (zs HO_381002 BK356).out (fun _ hk => trivial), zbo⟩
  rw [if_pos c102] at H
  have c102b0 : decide (x10_4 < (((rd_T29 l0 0).f2).length : Int)) = true := decide_eq_true c102
  clear c102
  by_cases c103 : 0 ≤ x10_4
  rotate_left
  ·rw [if_neg c103] at H
   exact absurd H (by simp)
  rw [if_pos c103] at H
  have c103b0 : decide (0 ≤ x10_4) = true := decide_eq_true c103
  clear c103
  by_cases c104 : 0 ≤ (rd ((rd_T29 l0 0).f2) x10_4)
  rotate_left
  ·rw [if_neg c104] at H
   exact absurd H (by simp)
  rw [if_pos c104] at H
  have c104b0 : decide (0 ≤ (rd ((rd_T29 l0 0).f2) x10_4)) = true := decide_eq_true c104
  clear c104
  by_cases c105 : (rd ((rd_T29 l0 0).f2) x10_4) < (x6_3.length : Int)
  rotate_left
  ·rw [if_neg c105] at H
   exact absurd H (by simp)
  rw [if_pos c105] at H
  have c105b0 : decide ((rd ((rd_T29 l0 0).f2) x10_4) < (x6_3.length : Int)) = true := decide_eq_true c105
  clear c105
  by_cases c106 : x381002_4.length < 70368744177664
  rotate_left
  ·rw [if_neg c106] at H
   exact absurd H (by simp)
  rw [if_pos c106] at H
  have LMc106 := Aside0.mk c106
  clear c106
  obtain ⟨y400, hy400⟩ : ∃ y_ : List Int, y_ = (x381002_4 ++ [rd x6_3 (rd ((rd_T29 l0 0).f2) x10_4)]) := ⟨_, rfl⟩
  replace H : (spec_l04Trim.l3 k4 l0 x6_3 (wrap64 (x10_4 + 1)) ((rd_T29 l0 0).f0) x381001_3 y400) = some (r1, r2, r3) := by first | (rw [hy400]; with_reducible exact H) | (have H2_ := (Option.bind_some _ _).symm.trans H; rw [hy400]; with_reducible exact H2_) | (have H2_ := (Option.bind_some _ _).symm.trans H; with_reducible exact H2_) | with_reducible exact H | (rw [hy400]; exact H) | exact H
  have Ny400 := Aside0.mk hy400
  clear hy400
  have H' := Aside0.mk H
  clear H
  have p396 : 0 ≤ (0 : Int) := (by omega)
  have q396 : 0 < (l0.length : Int) := of_decide_eq_true zA
  obtain ⟨ad396, A396_1, c396_1, A396_2, c396_2, e396, hx396_0, hx396_1, hx396_2, hl396_1, hi396_1, hl396_2, hi396_2⟩ := at_T29 HR0.out 0 p396 q396
  obtain rfl : adp0 = ad396 := (by injection e396)
  have qi396 : (0 < l0.length) = True := eq_true (by omega)
  try simp only [z00, Nat.zero_mul, Addr.add_zero'] at hx396_0 hx396_1 hx396_2
  replace hx396_0 := zc HB hx396_0
  replace hx396_1 := zc HB hx396_1
  replace hx396_2 := zc HB hx396_2
  have HR396_1 := Aside0.mk hi396_1
  have HC396_1 := Aside0.mk hl396_1
  clear hi396_1 hl396_1
  have HR396_2 := Aside0.mk hi396_2
  have HC396_2 := Aside0.mk hl396_2
  clear hi396_2 hl396_2
  replace p396 := eq_true p396
  replace q396 := eq_true q396
  try go_wp2
  have n_ : _ ∧ _ ∧ _ ∧ _ ∧ _ ∧ _ := ⟨Aside0.mk (Kd.R_drew HO_6.out), Aside0.mk (Kd.R_drew HO_381001.out), Aside0.mk (Kd.R_drew HO_381002.out), Aside0.mk (blk_drew BK356.out), Aside0.mk (blk_drew BK380.out), Aside0.mk (below_drew1 HB.out)⟩
  clear HO_6 HO_381001 HO_381002 BK356 BK380 HB
  obtain ⟨HO_6, HO_381001, HO_381002, BK356, BK380, HB⟩ := n_
  have p397 : 0 ≤ (0 : Int) := (by omega)
  have q397 : 0 < (l0.length : Int) := of_decide_eq_true zA
  obtain ⟨ad397, A397_1, c397_1, A397_2, c397_2, e397, hx397_0, hx397_1, hx397_2, hl397_1, hi397_1, hl397_2, hi397_2⟩ := at_T29 HR0.out 0 p397 q397
  have hw397_2 := hx397_2
  try simp only [z00, Nat.zero_mul, Addr.add_zero'] at hw397_2
  have hw397_1 := hx397_1
  try simp only [z00, Nat.zero_mul, Addr.add_zero'] at hw397_1
  have hw397_0 := hx397_0
  try simp only [z00, Nat.zero_mul, Addr.add_zero'] at hw397_0
  obtain rfl : adp0 = ad397 := (by injection e397)
  have qi397 : (0 < l0.length) = True := eq_true (by omega)
  try simp only [z00, Nat.zero_mul, Addr.add_zero'] at hx397_0 hx397_1 hx397_2
  replace hx397_0 := zc HB hx397_0
  replace hx397_1 := zc HB hx397_1
  replace hx397_2 := zc HB hx397_2
  have HR397_1 := Aside0.mk hi397_1
  have HC397_1 := Aside0.mk hl397_1
  clear hi397_1 hl397_1
  have HR397_2 := Aside0.mk hi397_2
  have HC397_2 := Aside0.mk hl397_2
  clear hi397_2 hl397_2
  replace p397 := eq_true p397
  replace q397 := eq_true q397
  have p398 : 0 ≤ (x10_4 : Int) := of_decide_eq_true zA
  have q398 : x10_4 < (((rd_T29 l0 0).f2).length : Int) := of_decide_eq_true zA
  obtain ⟨ad398, e398, hx398_0⟩ := Kd.at_int HR397_2.out x10_4 p398 q398
  have hw398_0 := hx398_0
  cases e398
  replace hx398_0 := zc HB hx398_0
  replace p398 := eq_true p398
  replace q398 := eq_true q398
  obtain ⟨Ao108, co108, eo108⟩ := Kd.R_slice HO_6.out
  (first | subst eo108 | (injection eo108 with f1_ f2_ f3_; have f4_ := f1_.symm; have f5_ := f3_.symm; clear f1_ f2_ f3_; subst f4_; subst f5_))
  have p399 : 0 ≤ ((rd ((rd_T29 l0 0).f2) x10_4) : Int) := of_decide_eq_true zA
  have q399 : (rd ((rd_T29 l0 0).f2) x10_4) < (x6_3.length : Int) := of_decide_eq_true zA
  obtain ⟨ad399, e399, hx399_0⟩ := Kd.at_int (Kd.R_reads' HO_6.out).2.2 (rd ((rd_T29 l0 0).f2) x10_4) p399 q399
  cases e399
  replace p399 := eq_true p399
  replace q399 := eq_true q399
  refine start_ (n := 16) (S := fun w' => w'.cell? ⟨gb380, 0, none⟩ = some (.int .i8 ((rd_T29 l0 0).f0)) ∧ w'.cell? ⟨gb380, 1, none⟩ = some (u381001) ∧ w'.cell? ⟨gb380, 2, none⟩ = some (u381002) ∧ w'.cell? adp0 = some (.int .i8 ((rd_T29 l0 0).f0)) ∧ w'.cell? ⟨adp0.block, adp0.off + 1, none⟩ = some (.slice A397_1 ((rd_T29 l0 0).f1).length c397_1) ∧ w'.cell? ⟨adp0.block, adp0.off + 2, none⟩ = some (.slice (some ad398) ((rd_T29 l0 0).f2).length c397_2) ∧ w'.cell? (ad398.add (x10_4).toNat) = some (.int .i16 (rd ((rd_T29 l0 0).f2) x10_4)) ∧ w'.cell? (ad399.add ((rd ((rd_T29 l0 0).f2) x10_4)).toNat) = some (.int .i16 (rd x6_3 (rd ((rd_T29 l0 0).f2) x10_4)))) (ds := [13, 15]) (zq 16 0) (by kernel_rfl) rfl rfl ⟨(blk_cell BK380.out 0).trans rfl, (blk_cell BK380.out 1).trans rfl, (blk_cell BK380.out 2).trans rfl, (zc HB hw397_0), (zc HB hw397_1), (zc HB hw397_2), (zc HB hw398_0), hx399_0⟩ (fun hHeld => ?_); refine with_tabW spec_l04Trim.tab27 spec_l04Trim.bits27 (fun HT_ HW_ => ?_)
  generalize wr.drew = w107 at HO_6 HO_381001 HO_381002 BK356 BK380 HB HR397_1 HR397_2 hx397_0 hx397_1 hx397_2 hx398_0 hx399_0 hHeld ⊢
  refine zpu 0 (some 149) (zq 16 1) HT_ ?_
  refine zpu 2 (some 151) (zq 16 5) HT_ ?_
  refine zpu 3 (some 152) (zq 16 13) HT_ ?_
  refine zpu 4 (some 153) (zq 16 29) HT_ ?_
  refine zpu 5 (some 154) (zq 16 61) HT_ ?_
  refine zpu 7 (some 156) (zq 16 189) HT_ ?_
  refine ztk 1 (some 150) (zq 16 191) HT_ HW_ rfl hHeld (Or.inl ⟨by rfl, by (rintro w' ⟨s0, s1, s2, s3, s4, s5, s6, s7⟩; go_simp; with_reducible rfl)⟩) ?_
  refine ztk 6 (some 155) (zq 16 255) HT_ HW_ rfl hHeld (Or.inl ⟨by rfl, by (rintro w' ⟨s0, s1, s2, s3, s4, s5, s6, s7⟩; go_simp; with_reducible rfl)⟩) ?_
  refine zpu 8 (some 157) (zq 16 511) HT_ ?_
  refine ztk 9 (some 158) (zq 16 1023) HT_ HW_ rfl hHeld (Or.inl ⟨by rfl, by (rintro w' ⟨s0, s1, s2, s3, s4, s5, s6, s7⟩; go_simp; with_reducible rfl)⟩) ?_
  refine zpu 10 (some 159) (zq 16 2047) HT_ ?_
  refine ztk 11 (some 160) (zq 16 4095) HT_ HW_ rfl hHeld (Or.inl ⟨by rfl, by (rintro w' ⟨s0, s1, s2, s3, s4, s5, s6, s7⟩; go_simp; with_reducible rfl)⟩) ?_
  refine one_ (i := 12) (N := some 161) (zq 16 8191) rfl rfl (one_of HT_.out (by kernel_rfl)) (by decide) (fun K hK => ?_)
  refine value_ (w1 := ?_) (v := ?_) (by rfl) rfl ?_ ?_
  rotate_left 2
  ·go_simp
   constructor
   rotate_left
   ·rfl
   rfl
  refine hK.out _ _ ⟨(blk_cell (blk_alloc BK380.out _) 0).trans rfl, (blk_cell (blk_alloc BK380.out _) 1).trans rfl, (blk_cell (blk_alloc BK380.out _) 2).trans rfl, (World.cell?_alloc_lt _ _ _ (World.block_lt_of_cell? _ _ ((zc HB hw397_0)))).trans ((zc HB hw397_0)), (World.cell?_alloc_lt _ _ _ (World.block_lt_of_cell? _ _ ((zc HB hw397_1)))).trans ((zc HB hw397_1)), (World.cell?_alloc_lt _ _ _ (World.block_lt_of_cell? _ _ ((zc HB hw397_2)))).trans ((zc HB hw397_2)), (World.cell?_alloc_lt _ _ _ (World.block_lt_of_cell? _ _ ((zc HB hw398_0)))).trans ((zc HB hw398_0)), (World.cell?_alloc_lt _ _ _ (World.block_lt_of_cell? _ _ (hHeld.2.2.2.2.2.2.2))).trans (hHeld.2.2.2.2.2.2.2)⟩ (fun hHeld => ?_)
  clear hK K
  refine norm_ (a' := ?_) ?_ ?_
  rotate_left
  ·show Act.put _ (some 161) _ = _
   exact zap
  refine last_ (i := 13) (N := some 162) (zq 16 16383) rfl rfl (one_of HT_.out (by kernel_rfl)) (by decide) (fun K hK => ?_)
  refine Kd.R_append_step (Kd.int .i16) (w0 := w) w.heap.size (by rfl) (.tmp 150) (.tmp 161) 27 54 (.int .i16 0) 2 rfl Try.underlying27 info54 rfl (by decide) (by omega) u381002 x381002_4 (rd x6_3 (rd ((rd_T29 l0 0).f2) x10_4)) [.int .i16 (rd x6_3 (rd ((rd_T29 l0 0).f2) x10_4))] (fun k_ => some k_ ≠ (.slice (some ad399) x6_3.length co108 : Value).ownBlock) (fun _ => False) rfl rfl ?aP (fun _ hk => hk.elim) ?aF ?aO ?aB ?aS ?aL ?_
  (case aP => exact rfl)
  (case aB => exact zbo)
  (case aF => exact (fun k_ hk => Kd.fresh' (Kd.R_lt (ze HO_6).out) k_ hk))
  (case aO => exact (ze HO_381002).out)
  (case aS => exact (zz HB))
  (case aL => have := LMc106.out; omega)
  intro v401 w109 ho hb hg hat
  rw [← Ny400.out] at ho
  have n_ : _ ∧ _ ∧ _ ∧ _ ∧ _ ∧ _ := ⟨Aside0.mk (Kd.R_after (ok := (fun _ => True)) (by (with_reducible repeat (first | apply Kd.R_alloc | apply Kd.R_drewN | apply Kd.R_drew)); exact Kd.R_mono HO_6.out (fun _ hk => ⟨trivial, hk⟩)) hg hat), Aside0.mk (Kd.R_over' (ze HO_381001).out (Kd.R_typed (ze HO_381002).out) (by decide) hg), Aside0.mk (blk_grown (g := gb356) (o := .cells #[.int .i8 0, .slice none 0 0, .slice none 0 0] 29 (0, 0)) (zh BK356).out hg (Kd.R_ne HO_381002.out BK356.out (by decide))), Aside0.mk (blk_grown (g := gb380) (o := .cells #[.int .i8 ((rd_T29 l0 0).f0), u381001, u381002] 29 (0, 0)) (zh BK380).out hg (Kd.R_ne HO_381002.out BK380.out (by decide))), Aside0.mk (hb), Aside0.mk (ho)⟩
  clear HO_6 HO_381001 BK356 BK380 HB HO_381002
  obtain ⟨HO_6, HO_381001, BK356, BK380, HB, HO402⟩ := n_
  clear ho hb hg hat
  obtain ⟨Ao110, co110, eo110⟩ := Kd.R_slice HO402.out
  (first | subst eo110 | (injection eo110 with f1_ f2_ f3_; have f4_ := f1_.symm; have f5_ := f3_.symm; clear f1_ f2_ f3_; subst f4_; subst f5_))
  refine hK.out _ _ ?_
  clear hK K
  refine norm_ (a' := ?_) ?_ ?_
  rotate_left
  ·show Act.put _ (some 162) _ = _
   exact zap
  refine zpu 14 (some 163) (zq 16 32767) HT_ ?_
  refine last_ (i := 15) (N := none) (zq 16 65535) rfl rfl (one_of HT_.out (by kernel_rfl)) (by decide) (fun K hK => ?_)
  have hs111 : w109.cell? ⟨gb380, 2, none⟩ = some (u381002) := (blk_cell BK380.out 2).trans rfl
  have hfs111 := blk_frozen BK380.out 2
  have hns111_0 := NB356_380.out
  have hms111_0 := NB380_356.out
  refine skip_ (w1 := ?_) (by rfl) rfl ?_ ?_
  rotate_left
  ·go_simp
   rfl
  refine hK.out _ _ ?_
  clear hK K
  refine done_ (done_of HT_.out (by kernel_rfl)) ?_
  try go_wp2
  go_roundg k4
  case measure => have := HK1.out; have := HK2.out; have := HK3.out; have := HK4.out; omega
  case rel => exact ⟨(wrap64 (x10_4 + 1)), (y400), (.slice Ao110 y400.length co110), zi, H', ⟨by have := HK1.out; have := HK2.out; have := HK3.out; have := HK4.out; omega⟩, ⟨by (with_reducible repeat (first | apply Kd.R_alloc | apply Kd.R_drewN | apply Kd.R_drew)); exact Kd.R_mono (Kd.R_far (p := ⟨gb380, 2, none⟩) (Kd.R_types HO_6.out BK380.out (by decide)) (fun _ hk => hk.2) (.slice Ao110 y400.length co110)) (fun _ hk => hk.1.2)⟩, ⟨Kd.R_mono (zs HO_381001 BK380).out (fun _ hk => trivial)⟩, ⟨by (with_reducible repeat (first | apply Kd.R_alloc | apply Kd.R_drewN | apply Kd.R_drew)); exact Kd.R_mono (Kd.R_far (p := ⟨gb380, 2, none⟩) (Kd.R_types HO402.out BK380.out (by decide)) (fun _ hk => hk.2) (.slice Ao110 y400.length co110)) (fun _ hk => hk.1)⟩, zf BK356 NB356_380, ⟨zp BK380⟩, zba⟩
 rw [if_pos c46] at H
 have c46b0 : decide (x8_3 < (((rd_T29 l0 0).f1).length : Int)) = true := decide_eq_true c46
 clear c46
 by_cases c47 : 0 ≤ x8_3
 rotate_left
 ·rw [if_neg c47] at H
  exact absurd H (by simp)
 rw [if_pos c47] at H
 have c47b0 : decide (0 ≤ x8_3) = true := decide_eq_true c47
 clear c47
 by_cases c48 : x8_3 < (x3_2.length : Int)
 rotate_left
 ·rw [if_neg c48] at H
  exact absurd H (by simp)
 rw [if_pos c48] at H
 have c48b0 : decide (x8_3 < (x3_2.length : Int)) = true := decide_eq_true c48
 clear c48
 obtain ⟨bq49, hbq49⟩ : ∃ b_ : Bool, b_ = (rdOf false x3_2 x8_3) := ⟨_, rfl⟩
 replace H : (if bq49 = true then (if ((rd_T61 ((rd_T29 l0 0).f1) x8_3).f0) ≥ 2 then (if 0 ≤ ((rd_T61 ((rd_T29 l0 0).f1) x8_3).f1) then (if ((rd_T61 ((rd_T29 l0 0).f1) x8_3).f1) < (x6_3.length : Int) then (if 0 ≤ ((rd_T61 ((rd_T29 l0 0).f1) x8_3).f2) then (if ((rd_T61 ((rd_T29 l0 0).f1) x8_3).f2) < (x6_3.length : Int) then (if x8_3 < (x6_3.length : Int) then (if x381001_3.length < 23456248059221 then (spec_l04Trim.l2 k3 l0 x3_2 (x6_3.set (x8_3 : Int).toNat (IntKind.i16.wrap ((x381001_3.length : Int)))) (wrap64 (x8_3 + 1)) ((rd_T29 l0 0).f0) (x381001_3 ++ [(⟨(rd_T61 ((rd_T29 l0 0).f1) x8_3).f0, rd x6_3 ((rd_T61 ((rd_T29 l0 0).f1) x8_3).f1), rd x6_3 ((rd_T61 ((rd_T29 l0 0).f1) x8_3).f2)⟩ : S61)])) else (none)) else (none)) else (none)) else (none)) else (none)) else (none)) else (if x8_3 < (x6_3.length : Int) then (if x381001_3.length < 23456248059221 then (spec_l04Trim.l2 k3 l0 x3_2 (x6_3.set (x8_3 : Int).toNat (IntKind.i16.wrap ((x381001_3.length : Int)))) (wrap64 (x8_3 + 1)) ((rd_T29 l0 0).f0) (x381001_3 ++ [(⟨(rd_T61 ((rd_T29 l0 0).f1) x8_3).f0, (rd_T61 ((rd_T29 l0 0).f1) x8_3).f1, (rd_T61 ((rd_T29 l0 0).f1) x8_3).f2⟩ : S61)])) else (none)) else (none))) else (spec_l04Trim.l2 k3 l0 x3_2 x6_3 (wrap64 (x8_3 + 1)) ((rd_T29 l0 0).f0) x381001_3)) = some (r1, r2, r3) := by rw [← hbq49] at H; exact H
 have Nbq49 := Aside0.mk hbq49
 clear hbq49
 by_cases c50 : bq49 = true
 rotate_left
 ·replace c50 := Bool.eq_false_iff.mpr c50
  subst c50
  have H1 : (spec_l04Trim.l2 k3 l0 x3_2 x6_3 (wrap64 (x8_3 + 1)) ((rd_T29 l0 0).f0) x381001_3) = some (r1, r2, r3) := by rw [if_neg (show ¬ (false = true) by decide)] at H; exact H
  clear H
  have H := H1
  clear H1
  have H' := Aside0.mk H
  clear H
  have p381 : 0 ≤ (0 : Int) := (by omega)
  have q381 : 0 < (l0.length : Int) := of_decide_eq_true zA
  obtain ⟨ad381, A381_1, c381_1, A381_2, c381_2, e381, hx381_0, hx381_1, hx381_2, hl381_1, hi381_1, hl381_2, hi381_2⟩ := at_T29 HR0.out 0 p381 q381
  obtain rfl : adp0 = ad381 := (by injection e381)
  have qi381 : (0 < l0.length) = True := eq_true (by omega)
  try simp only [z00, Nat.zero_mul, Addr.add_zero'] at hx381_0 hx381_1 hx381_2
  replace hx381_0 := zc HB hx381_0
  replace hx381_1 := zc HB hx381_1
  replace hx381_2 := zc HB hx381_2
  have HR381_1 := Aside0.mk hi381_1
  have HC381_1 := Aside0.mk hl381_1
  clear hi381_1 hl381_1
  have HR381_2 := Aside0.mk hi381_2
  have HC381_2 := Aside0.mk hl381_2
  clear hi381_2 hl381_2
  replace p381 := eq_true p381
  replace q381 := eq_true q381
  obtain ⟨Ao100, co100, eo100⟩ := Kd.R_slice HO_3.out
  subst eo100
  have p382 : 0 ≤ (x8_3 : Int) := of_decide_eq_true zA
  have q382 : x8_3 < (x3_2.length : Int) := of_decide_eq_true zA
  obtain ⟨ad382, e382, hx382_0⟩ := Kd.at_bool (Kd.R_reads' HO_3.out).2.2 x8_3 p382 q382
  (try rw [← Nbq49.out] at hx382_0)
  cases e382
  replace p382 := eq_true p382
  replace q382 := eq_true q382
  go_wp2
  go_roundg k3
  case measure => have := HK1.out; have := HK2.out; have := HK3.out; omega
  case rel => exact ⟨(x6_3), (wrap64 (x8_3 + 1)), (x381001_3), (u381001), zi, H', ⟨by have := HK1.out; have := HK2.out; have := HK3.out; omega⟩, ze HO_3, ze HO_6, ze HO_381001, zh BK356, zh BK380, zba⟩
 subst c50
 have H1 : (if ((rd_T61 ((rd_T29 l0 0).f1) x8_3).f0) ≥ 2 then (if 0 ≤ ((rd_T61 ((rd_T29 l0 0).f1) x8_3).f1) then (if ((rd_T61 ((rd_T29 l0 0).f1) x8_3).f1) < (x6_3.length : Int) then (if 0 ≤ ((rd_T61 ((rd_T29 l0 0).f1) x8_3).f2) then (if ((rd_T61 ((rd_T29 l0 0).f1) x8_3).f2) < (x6_3.length : Int) then (if x8_3 < (x6_3.length : Int) then (if x381001_3.length < 23456248059221 then (spec_l04Trim.l2 k3 l0 x3_2 (x6_3.set (x8_3 : Int).toNat (IntKind.i16.wrap ((x381001_3.length : Int)))) (wrap64 (x8_3 + 1)) ((rd_T29 l0 0).f0) (x381001_3 ++ [(⟨(rd_T61 ((rd_T29 l0 0).f1) x8_3).f0, rd x6_3 ((rd_T61 ((rd_T29 l0 0).f1) x8_3).f1), rd x6_3 ((rd_T61 ((rd_T29 l0 0).f1) x8_3).f2)⟩ : S61)])) else (none)) else (none)) else (none)) else (none)) else (none)) else (none)) else (if x8_3 < (x6_3.length : Int) then (if x381001_3.length < 23456248059221 then (spec_l04Trim.l2 k3 l0 x3_2 (x6_3.set (x8_3 : Int).toNat (IntKind.i16.wrap ((x381001_3.length : Int)))) (wrap64 (x8_3 + 1)) ((rd_T29 l0 0).f0) (x381001_3 ++ [(⟨(rd_T61 ((rd_T29 l0 0).f1) x8_3).f0, (rd_T61 ((rd_T29 l0 0).f1) x8_3).f1, (rd_T61 ((rd_T29 l0 0).f1) x8_3).f2⟩ : S61)])) else (none)) else (none))) = some (r1, r2, r3) := by rw [if_pos rfl] at H; exact H
 clear H
 have H := H1
 clear H1
 by_cases c51 : ((rd_T61 ((rd_T29 l0 0).f1) x8_3).f0) ≥ 2
 rotate_left
 ·rw [if_neg c51] at H
  have c51b0 : decide (2 ≤ ((rd_T61 ((rd_T29 l0 0).f1) x8_3).f0)) = false := decide_eq_false c51
  clear c51
  by_cases c80 : x8_3 < (x6_3.length : Int)
  rotate_left
  ·rw [if_neg c80] at H
   exact absurd H (by simp)
  rw [if_pos c80] at H
  have c80b0 : decide (x8_3 < (x6_3.length : Int)) = true := decide_eq_true c80
  clear c80
  obtain ⟨y392, hy392⟩ : ∃ y_ : List Int, y_ = (x6_3.set (x8_3 : Int).toNat (IntKind.i16.wrap ((x381001_3.length : Int)))) := ⟨_, rfl⟩
  replace H : (if x381001_3.length < 23456248059221 then (spec_l04Trim.l2 k3 l0 x3_2 y392 (wrap64 (x8_3 + 1)) ((rd_T29 l0 0).f0) (x381001_3 ++ [(⟨(rd_T61 ((rd_T29 l0 0).f1) x8_3).f0, (rd_T61 ((rd_T29 l0 0).f1) x8_3).f1, (rd_T61 ((rd_T29 l0 0).f1) x8_3).f2⟩ : S61)])) else (none)) = some (r1, r2, r3) := by first | (rw [hy392]; with_reducible exact H) | (have H2_ := (Option.bind_some _ _).symm.trans H; rw [hy392]; with_reducible exact H2_) | (have H2_ := (Option.bind_some _ _).symm.trans H; with_reducible exact H2_) | with_reducible exact H | (rw [hy392]; exact H) | exact H
  have Ny392 := Aside0.mk hy392
  clear hy392
  by_cases c82 : x381001_3.length < 23456248059221
  rotate_left
  ·rw [if_neg c82] at H
   exact absurd H (by simp)
  rw [if_pos c82] at H
  have LMc82 := Aside0.mk c82
  clear c82
  obtain ⟨y393, hy393⟩ : ∃ y_ : List (S61), y_ = (x381001_3 ++ [(⟨(rd_T61 ((rd_T29 l0 0).f1) x8_3).f0, (rd_T61 ((rd_T29 l0 0).f1) x8_3).f1, (rd_T61 ((rd_T29 l0 0).f1) x8_3).f2⟩ : S61)]) := ⟨_, rfl⟩
  replace H : (spec_l04Trim.l2 k3 l0 x3_2 y392 (wrap64 (x8_3 + 1)) ((rd_T29 l0 0).f0) y393) = some (r1, r2, r3) := by first | (rw [hy393]; with_reducible exact H) | (have H2_ := (Option.bind_some _ _).symm.trans H; rw [hy393]; with_reducible exact H2_) | (have H2_ := (Option.bind_some _ _).symm.trans H; with_reducible exact H2_) | with_reducible exact H | (rw [hy393]; exact H) | exact H
  have Ny393 := Aside0.mk hy393
  clear hy393
  have H' := Aside0.mk H
  clear H
  have p381 : 0 ≤ (0 : Int) := (by omega)
  have q381 : 0 < (l0.length : Int) := of_decide_eq_true zA
  obtain ⟨ad381, A381_1, c381_1, A381_2, c381_2, e381, hx381_0, hx381_1, hx381_2, hl381_1, hi381_1, hl381_2, hi381_2⟩ := at_T29 HR0.out 0 p381 q381
  obtain rfl : adp0 = ad381 := (by injection e381)
  have qi381 : (0 < l0.length) = True := eq_true (by omega)
  try simp only [z00, Nat.zero_mul, Addr.add_zero'] at hx381_0 hx381_1 hx381_2
  replace hx381_0 := zc HB hx381_0
  replace hx381_1 := zc HB hx381_1
  replace hx381_2 := zc HB hx381_2
  have HR381_1 := Aside0.mk hi381_1
  have HC381_1 := Aside0.mk hl381_1
  clear hi381_1 hl381_1
  have HR381_2 := Aside0.mk hi381_2
  have HC381_2 := Aside0.mk hl381_2
  clear hi381_2 hl381_2
  replace p381 := eq_true p381
  replace q381 := eq_true q381
  obtain ⟨Ao83, co83, eo83⟩ := Kd.R_slice HO_3.out
  subst eo83
  have p382 : 0 ≤ (x8_3 : Int) := of_decide_eq_true zA
  have q382 : x8_3 < (x3_2.length : Int) := of_decide_eq_true zA
  obtain ⟨ad382, e382, hx382_0⟩ := Kd.at_bool (Kd.R_reads' HO_3.out).2.2 x8_3 p382 q382
  (try rw [← Nbq49.out] at hx382_0)
  cases e382
  replace p382 := eq_true p382
  replace q382 := eq_true q382
  have p383 : 0 ≤ (0 : Int) := (by omega)
  have q383 : 0 < (l0.length : Int) := of_decide_eq_true zA
  obtain ⟨ad383, A383_1, c383_1, A383_2, c383_2, e383, hx383_0, hx383_1, hx383_2, hl383_1, hi383_1, hl383_2, hi383_2⟩ := at_T29 HR0.out 0 p383 q383
  obtain rfl : adp0 = ad383 := (by injection e383)
  have qi383 : (0 < l0.length) = True := eq_true (by omega)
  try simp only [z00, Nat.zero_mul, Addr.add_zero'] at hx383_0 hx383_1 hx383_2
  replace hx383_0 := zc HB hx383_0
  replace hx383_1 := zc HB hx383_1
  replace hx383_2 := zc HB hx383_2
  have HR383_1 := Aside0.mk hi383_1
  have HC383_1 := Aside0.mk hl383_1
  clear hi383_1 hl383_1
  have HR383_2 := Aside0.mk hi383_2
  have HC383_2 := Aside0.mk hl383_2
  clear hi383_2 hl383_2
  replace p383 := eq_true p383
  replace q383 := eq_true q383
  have ea_ := Option.some.inj (hx381_1.symm.trans hx383_1)
  injection ea_ with ea_ en_ ec_
  subst ea_
  subst ec_
  clear en_
  have ea_ := Option.some.inj (hx381_2.symm.trans hx383_2)
  injection ea_ with ea_ en_ ec_
  subst ea_
  subst ec_
  clear en_
  have p384 : 0 ≤ (x8_3 : Int) := of_decide_eq_true zA
  have q384 : x8_3 < (((rd_T29 l0 0).f1).length : Int) := of_decide_eq_true zA
  obtain ⟨ad384, e384, hx384_0, hx384_1, hx384_2⟩ := at_T61 HR383_1.out x8_3 p384 q384
  cases e384
  replace hx384_0 := zc HB hx384_0
  replace hx384_1 := zc HB hx384_1
  replace hx384_2 := zc HB hx384_2
  replace p384 := eq_true p384
  replace q384 := eq_true q384
  go_wp2_with (first | ((with_reducible refine gate_dst (N := 9) rfl ?_); refine zbx 9 #[.int .i8 0, .int .i16 0, .int .i16 0] 61 ?_; intro gb385 hg w84 hbox hb; have n_ : _ ∧ _ ∧ _ ∧ _ ∧ _ ∧ _ ∧ _ ∧ _ ∧ _ ∧ _ ∧ _ ∧ _ ∧ _ := ⟨zr HO_3 hb, zr HO_6 hb, Aside0.mk (Kd.R_below (Kd.R_elderB (ze HO_381001).out gb385 (Nat.le_of_eq hg.symm)) hb), zk BK356 hb, zk BK380 hb, zbs hb, Aside0.mk (hbox), zg HB hg, zg HB hg, zn1 BK356 hg, zn2 BK356 hg, zn1 BK380 hg, zn2 BK380 hg⟩; clear HO_3 HO_6 HO_381001 BK356 BK380 HB; obtain ⟨HO_3, HO_6, HO_381001, BK356, BK380, HB, BK385, GW385, GE385, NB356_385, NB385_356, NB380_385, NB385_380⟩ := n_; clear hb hbox hg; have hnb85 := NB385_356.out; have hnc85 := NB356_385.out; have hnb86 := NB385_380.out; have hnc86 := NB380_385.out; obtain ⟨z87_0, z87_1, z87_2, y87_0, y87_1, y87_2⟩ := zB3 BK385) | ((with_reducible refine gate_store (t := 61) (p := 9) rfl ?_); refine store_event (t := 61) (p := 9) (v := ?vo_w88) (w1 := (((w84.setCell ⟨gb385, 0, none⟩ (.int .i8 ((rd_T61 ((rd_T29 l0 0).f1) x8_3).f0))).setCell ⟨gb385, 1, none⟩ (.int .i16 ((rd_T61 ((rd_T29 l0 0).f1) x8_3).f1))).setCell ⟨gb385, 2, none⟩ (.int .i16 ((rd_T61 ((rd_T29 l0 0).f1) x8_3).f2)))) ?hg ?ho ?hn ?hr ?_; (case ho => rfl); (case hg => rfl); (case hn => rfl); (case hr => exact zgs); intro w88 hw; have n0_ : Aside0 (Kd.R Kd.bool 4 w88 w.heap.size (fun _ => True) (.slice (some ad382) x3_2.length co83) x3_2) := ⟨(by rw [hw]; exact (Kd.R_mono (zs HO_3 BK385).out (fun _ hk => trivial)))⟩; have n1_ : Aside0 (Kd.R (Kd.int .i16) 54 w88 w.heap.size (fun _ => True) v377 x6_3) := ⟨(by rw [hw]; exact (Kd.R_mono (zs HO_6 BK385).out (fun _ hk => trivial)))⟩; have n2_ : Aside0 (Kd.R k61 61 w88 w.heap.size (fun k_ => k_ ≠ gb385) u381001 x381001_3) := ⟨(by rw [hw]; exact (by (with_reducible repeat (first | apply Kd.R_alloc | apply Kd.R_drewN | apply Kd.R_drew)); exact Kd.R_mono (Kd.R_far (p := ⟨gb385, 2, none⟩) (Kd.R_far (p := ⟨gb385, 1, none⟩) (Kd.R_far (p := ⟨gb385, 0, none⟩) (Kd.R_mono HO_381001.out (fun k_ hk => (⟨hk, hk.2⟩ : _ ∧ k_ ≠ gb385))) (fun _ hk => hk.2) (.int .i8 ((rd_T61 ((rd_T29 l0 0).f1) x8_3).f0))) (fun _ hk => hk.2) (.int .i16 ((rd_T61 ((rd_T29 l0 0).f1) x8_3).f1))) (fun _ hk => hk.2) (.int .i16 ((rd_T61 ((rd_T29 l0 0).f1) x8_3).f2))) (fun _ hk => hk.1.2)))⟩; have n3_ : Aside0 (w88.heap[gb356]? = some (.cells #[.int .i8 0, .slice none 0 0, .slice none 0 0] 29 (0, 0))) := ⟨(by rw [hw]; exact (zf BK356 NB356_385).out)⟩; have n4_ : Aside0 (w88.heap[gb380]? = some (.cells #[.int .i8 ((rd_T29 l0 0).f0), u381001, .slice none 0 0] 29 (0, 0))) := ⟨(by rw [hw]; exact (zf BK380 NB380_385).out)⟩; have n5_ : Aside0 (w88.heap[gb385]? = some (.cells #[.int .i8 ((rd_T61 ((rd_T29 l0 0).f1) x8_3).f0), .int .i16 ((rd_T61 ((rd_T29 l0 0).f1) x8_3).f1), .int .i16 ((rd_T61 ((rd_T29 l0 0).f1) x8_3).f2)] 61 (0, 0))) := ⟨(by rw [hw]; exact (zp BK385))⟩; have n6_ : Aside0 (Below w.heap.size w w88) := ⟨(by rw [hw]; exact zbo)⟩; clear hw; clear HO_3; clear HO_6; clear HO_381001; clear BK356; clear BK380; clear BK385; clear HB; have HO_3 := n0_; have HO_6 := n1_; have HO_381001 := n2_; have BK356 := n3_; have BK380 := n4_; have BK385 := n5_; have HB := n6_; clear n0_ n1_ n2_ n3_ n4_ n5_ n6_; obtain ⟨z89_0, z89_1, z89_2, y89_0, y89_1, y89_2⟩ := zB3 BK385; have hnb90 := NB380_356.out; have hnc90 := NB356_380.out; obtain ⟨z91_0, z91_1, z91_2, y91_0, y91_1, y91_2⟩ := zB3 BK380; obtain ⟨Ao92, co92, eo92⟩ := Kd.R_slice HO_381001.out; subst eo92; have p81 : 0 ≤ (x8_3 : Int) := of_decide_eq_true zA; have q81 : (x8_3 : Int) < ((x6_3.length : Int) : Int) := of_decide_eq_true zA; obtain ⟨go81, co81, eo81, gb81, gl81, cl81, HG81⟩ := Kd.R_form HO_6.out (by omega); (first | cases eo81 | (injection eo81 with ea_ en_ ec_; (first | subst ea_ | (injection ea_ with ea_; subst ea_)); subst ec_; clear en_)); have GB81 := Aside0.mk gb81; have GG81 := Aside0.mk HG81; clear gb81 gl81 HG81; obtain ⟨hx81_0, hf81_0⟩ := Kd.R_celln 0 HO_6.out (x8_3 : Int) p81 q81; replace p81 := eq_true p81; replace q81 := eq_true q81; obtain ⟨hy93_, hz93_⟩ := Kd.R_celln 0 HO_6.out (x8_3 : Int) (of_decide_eq_true zA) (of_decide_eq_true zA); have HP93 := Kd.R_putg HO_6.out (x8_3 : Int) (IntKind.i16.wrap ((x381001_3.length : Int)))) | ((with_reducible refine gate_store (t := 54) (p := 133) rfl ?_); refine store_event (t := 54) (p := 133) (v := ?vo_w94) (w1 := (w88.setCell ⟨go81, (x8_3 : Int).toNat, none⟩ (.int .i16 (IntKind.i16.wrap ((x381001_3.length : Int)))))) ?hg ?ho ?hn ?hr ?_; (case ho => rfl); (case hg => rfl); (case hn => rfl); (case hr => exact zgs); intro w94 hw; have hg : w88.grownBy w94 (some go81) := (by rw [hw]; exact HP93.2); have hp_ : Kd.R (Kd.int .i16) 54 w94 w.heap.size (fun _ => True) (.slice (some ⟨go81, 0, none⟩) x6_3.length co81) y392 := (by rw [hw, Ny392.out]; exact HP93.1); clear HP93; have n_ : _ ∧ _ ∧ _ ∧ _ ∧ _ ∧ _ ∧ _ := ⟨Aside0.mk (Kd.R_over' (v := (.slice (some ⟨go81, 0, none⟩) x6_3.length co81)) (ze HO_3).out (Kd.R_typed HO_6.out) (by decide) hg), Aside0.mk (hp_), Aside0.mk (Kd.R_over' (v := (.slice (some ⟨go81, 0, none⟩) x6_3.length co81)) (ze HO_381001).out (Kd.R_typed HO_6.out) (by decide) hg), Aside0.mk (blk_grown (g := gb356) (o := .cells #[.int .i8 0, .slice none 0 0, .slice none 0 0] 29 (0, 0)) (zh BK356).out hg (Kd.R_ne HO_6.out BK356.out (by decide))), Aside0.mk (blk_grown (g := gb380) (o := .cells #[.int .i8 ((rd_T29 l0 0).f0), .slice Ao92 x381001_3.length co92, .slice none 0 0] 29 (0, 0)) (zh BK380).out hg (Kd.R_ne HO_6.out BK380.out (by decide))), Aside0.mk (blk_grown (g := gb385) (o := .cells #[.int .i8 ((rd_T61 ((rd_T29 l0 0).f1) x8_3).f0), .int .i16 ((rd_T61 ((rd_T29 l0 0).f1) x8_3).f1), .int .i16 ((rd_T61 ((rd_T29 l0 0).f1) x8_3).f2)] 61 (0, 0)) (zh BK385).out hg (Kd.R_ne HO_6.out BK385.out (by decide))), Aside0.mk ((by rw [hw]; exact below_set (HB.out) GB81.out : Below w.heap.size w w94))⟩; clear HO_3 HO_6 HO_381001 BK356 BK380 BK385 HB; obtain ⟨HO_3, HO_6, HO_381001, BK356, BK380, BK385, HB⟩ := n_; clear hg hw hp_; obtain ⟨z95_0, z95_1, z95_2, y95_0, y95_1, y95_2⟩ := zB3 BK380; obtain ⟨z96_0, z96_1, z96_2, y96_0, y96_1, y96_2⟩ := zB3 BK385) | ((with_reducible refine gate_builtin (b := .append) (xs := #[.tmp 135, .tmp 137]) rfl ?_); at_builtin; refine Kd.R_append k61 (w0 := w) w.heap.size rfl (.tmp 135) (.tmp 137) 26 61 (.agg #[(.int .i8 0), (.int .i16 0), (.int .i16 0)]) 6 rfl Try.underlying26 info61 rfl (by decide) (by omega) (.slice Ao92 x381001_3.length co92) x381001_3 (⟨(rd_T61 ((rd_T29 l0 0).f1) x8_3).f0, (rd_T61 ((rd_T29 l0 0).f1) x8_3).f1, (rd_T61 ((rd_T29 l0 0).f1) x8_3).f2⟩ : S61) [.int .i8 ((rd_T61 ((rd_T29 l0 0).f1) x8_3).f0), .int .i16 ((rd_T61 ((rd_T29 l0 0).f1) x8_3).f1), .int .i16 ((rd_T61 ((rd_T29 l0 0).f1) x8_3).f2)] (fun k_ => k_ ≠ gb385) (fun _ => False) rfl rfl ?aP (fun _ hk => hk.elim) ?aF ?aO ?aB ?aS ?aL ?_; (case aP => exact k61_mkM _ _ _ (⟨(rd_T61 ((rd_T29 l0 0).f1) x8_3).f0, (rd_T61 ((rd_T29 l0 0).f1) x8_3).f1, (rd_T61 ((rd_T29 l0 0).f1) x8_3).f2⟩ : S61)); (case aB => exact zbo); (case aF => exact (fun k_ hk => Kd.freshB (g := gb385) (o := .cells #[.int .i8 ((rd_T61 ((rd_T29 l0 0).f1) x8_3).f0), .int .i16 ((rd_T61 ((rd_T29 l0 0).f1) x8_3).f1), .int .i16 ((rd_T61 ((rd_T29 l0 0).f1) x8_3).f2)] 61 (0, 0)) (zh BK385).out k_ hk)); (case aO => exact (ze HO_381001).out); (case aS => exact (zz HB)); (case aL => have := LMc82.out; omega); intro v394 w97 ho hb hg hat; rw [← Ny393.out] at ho; have n_ : _ ∧ _ ∧ _ ∧ _ ∧ _ ∧ _ ∧ _ := ⟨Aside0.mk (Kd.R_over' (ze HO_3).out (Kd.R_typed (ze HO_381001).out) (by decide) hg), Aside0.mk (Kd.R_over' (ze HO_6).out (Kd.R_typed (ze HO_381001).out) (by decide) hg), Aside0.mk (blk_grown (g := gb356) (o := .cells #[.int .i8 0, .slice none 0 0, .slice none 0 0] 29 (0, 0)) (zh BK356).out hg (Kd.R_ne HO_381001.out BK356.out (by decide))), Aside0.mk (blk_grown (g := gb380) (o := .cells #[.int .i8 ((rd_T29 l0 0).f0), .slice Ao92 x381001_3.length co92, .slice none 0 0] 29 (0, 0)) (zh BK380).out hg (Kd.R_ne HO_381001.out BK380.out (by decide))), Aside0.mk (blk_grown (g := gb385) (o := .cells #[.int .i8 ((rd_T61 ((rd_T29 l0 0).f1) x8_3).f0), .int .i16 ((rd_T61 ((rd_T29 l0 0).f1) x8_3).f1), .int .i16 ((rd_T61 ((rd_T29 l0 0).f1) x8_3).f2)] 61 (0, 0)) (zh BK385).out hg (Kd.R_away HO_381001.out (fun _ hk => hk))), Aside0.mk (hb), Aside0.mk (ho)⟩; clear HO_3 HO_6 BK356 BK380 BK385 HB HO_381001; obtain ⟨HO_3, HO_6, BK356, BK380, BK385, HB, HO395⟩ := n_; clear ho hb hg hat; obtain ⟨Ao98, co98, eo98⟩ := Kd.R_slice HO395.out; subst eo98; obtain ⟨z99_0, z99_1, z99_2, y99_0, y99_1, y99_2⟩ := zB3 BK380))
  go_roundg k3
  case measure => have := HK1.out; have := HK2.out; have := HK3.out; omega
  case rel => exact ⟨(y392), (wrap64 (x8_3 + 1)), (y393), (.slice Ao98 y393.length co98), zi, H', ⟨by have := HK1.out; have := HK2.out; have := HK3.out; omega⟩, ⟨Kd.R_mono (zs HO_3 BK380).out (fun _ hk => trivial)⟩, ⟨Kd.R_mono (zs HO_6 BK380).out (fun _ hk => trivial)⟩, ⟨Kd.R_mono (zs HO395 BK380).out (fun _ hk => trivial)⟩, zf BK356 NB356_380, ⟨zp BK380⟩, zba⟩
 rw [if_pos c51] at H
 have c51b0 : decide (2 ≤ ((rd_T61 ((rd_T29 l0 0).f1) x8_3).f0)) = true := decide_eq_true c51
 clear c51
 by_cases c52 : 0 ≤ ((rd_T61 ((rd_T29 l0 0).f1) x8_3).f1)
 rotate_left
 ·rw [if_neg c52] at H
  exact absurd H (by simp)
 rw [if_pos c52] at H
 have c52b0 : decide (0 ≤ ((rd_T61 ((rd_T29 l0 0).f1) x8_3).f1)) = true := decide_eq_true c52
 clear c52
 by_cases c53 : ((rd_T61 ((rd_T29 l0 0).f1) x8_3).f1) < (x6_3.length : Int)
 rotate_left
 ·rw [if_neg c53] at H
  exact absurd H (by simp)
 rw [if_pos c53] at H
 have c53b0 : decide (((rd_T61 ((rd_T29 l0 0).f1) x8_3).f1) < (x6_3.length : Int)) = true := decide_eq_true c53
 clear c53
 by_cases c54 : 0 ≤ ((rd_T61 ((rd_T29 l0 0).f1) x8_3).f2)
 rotate_left
 ·rw [if_neg c54] at H
  exact absurd H (by simp)
 rw [if_pos c54] at H
 have c54b0 : decide (0 ≤ ((rd_T61 ((rd_T29 l0 0).f1) x8_3).f2)) = true := decide_eq_true c54
 clear c54
 by_cases c55 : ((rd_T61 ((rd_T29 l0 0).f1) x8_3).f2) < (x6_3.length : Int)
 rotate_left
 ·rw [if_neg c55] at H
  exact absurd H (by simp)
 rw [if_pos c55] at H
 have c55b0 : decide (((rd_T61 ((rd_T29 l0 0).f1) x8_3).f2) < (x6_3.length : Int)) = true := decide_eq_true c55
 clear c55
 by_cases c56 : x8_3 < (x6_3.length : Int)
 rotate_left
 ·rw [if_neg c56] at H
  exact absurd H (by simp)
 rw [if_pos c56] at H
 have c56b0 : decide (x8_3 < (x6_3.length : Int)) = true := decide_eq_true c56
 clear c56
 obtain ⟨y388, hy388⟩ : ∃ y_ : List Int, y_ = (x6_3.set (x8_3 : Int).toNat (IntKind.i16.wrap ((x381001_3.length : Int)))) := ⟨_, rfl⟩
 replace H : (if x381001_3.length < 23456248059221 then (spec_l04Trim.l2 k3 l0 x3_2 y388 (wrap64 (x8_3 + 1)) ((rd_T29 l0 0).f0) (x381001_3 ++ [(⟨(rd_T61 ((rd_T29 l0 0).f1) x8_3).f0, rd x6_3 ((rd_T61 ((rd_T29 l0 0).f1) x8_3).f1), rd x6_3 ((rd_T61 ((rd_T29 l0 0).f1) x8_3).f2)⟩ : S61)])) else (none)) = some (r1, r2, r3) := by first | (rw [hy388]; with_reducible exact H) | (have H2_ := (Option.bind_some _ _).symm.trans H; rw [hy388]; with_reducible exact H2_) | (have H2_ := (Option.bind_some _ _).symm.trans H; with_reducible exact H2_) | with_reducible exact H | (rw [hy388]; exact H) | exact H
 have Ny388 := Aside0.mk hy388
 clear hy388
 by_cases c58 : x381001_3.length < 23456248059221
 rotate_left
 ·rw [if_neg c58] at H
  exact absurd H (by simp)
 rw [if_pos c58] at H
 have LMc58 := Aside0.mk c58
 clear c58
 obtain ⟨y389, hy389⟩ : ∃ y_ : List (S61), y_ = (x381001_3 ++ [(⟨(rd_T61 ((rd_T29 l0 0).f1) x8_3).f0, rd x6_3 ((rd_T61 ((rd_T29 l0 0).f1) x8_3).f1), rd x6_3 ((rd_T61 ((rd_T29 l0 0).f1) x8_3).f2)⟩ : S61)]) := ⟨_, rfl⟩
 replace H : (spec_l04Trim.l2 k3 l0 x3_2 y388 (wrap64 (x8_3 + 1)) ((rd_T29 l0 0).f0) y389) = some (r1, r2, r3) := by first | (rw [hy389]; with_reducible exact H) | (have H2_ := (Option.bind_some _ _).symm.trans H; rw [hy389]; with_reducible exact H2_) | (have H2_ := (Option.bind_some _ _).symm.trans H; with_reducible exact H2_) | with_reducible exact H | (rw [hy389]; exact H) | exact H
 have Ny389 := Aside0.mk hy389
 clear hy389
 have H' := Aside0.mk H
 clear H
 have p381 : 0 ≤ (0 : Int) := (by omega)
 have q381 : 0 < (l0.length : Int) := of_decide_eq_true zA
 obtain ⟨ad381, A381_1, c381_1, A381_2, c381_2, e381, hx381_0, hx381_1, hx381_2, hl381_1, hi381_1, hl381_2, hi381_2⟩ := at_T29 HR0.out 0 p381 q381
 obtain rfl : adp0 = ad381 := (by injection e381)
 have qi381 : (0 < l0.length) = True := eq_true (by omega)
 try simp only [z00, Nat.zero_mul, Addr.add_zero'] at hx381_0 hx381_1 hx381_2
 replace hx381_0 := zc HB hx381_0
 replace hx381_1 := zc HB hx381_1
 replace hx381_2 := zc HB hx381_2
 have HR381_1 := Aside0.mk hi381_1
 have HC381_1 := Aside0.mk hl381_1
 clear hi381_1 hl381_1
 have HR381_2 := Aside0.mk hi381_2
 have HC381_2 := Aside0.mk hl381_2
 clear hi381_2 hl381_2
 replace p381 := eq_true p381
 replace q381 := eq_true q381
 obtain ⟨Ao59, co59, eo59⟩ := Kd.R_slice HO_3.out
 subst eo59
 have p382 : 0 ≤ (x8_3 : Int) := of_decide_eq_true zA
 have q382 : x8_3 < (x3_2.length : Int) := of_decide_eq_true zA
 obtain ⟨ad382, e382, hx382_0⟩ := Kd.at_bool (Kd.R_reads' HO_3.out).2.2 x8_3 p382 q382
 (try rw [← Nbq49.out] at hx382_0)
 cases e382
 replace p382 := eq_true p382
 replace q382 := eq_true q382
 have p383 : 0 ≤ (0 : Int) := (by omega)
 have q383 : 0 < (l0.length : Int) := of_decide_eq_true zA
 obtain ⟨ad383, A383_1, c383_1, A383_2, c383_2, e383, hx383_0, hx383_1, hx383_2, hl383_1, hi383_1, hl383_2, hi383_2⟩ := at_T29 HR0.out 0 p383 q383
 obtain rfl : adp0 = ad383 := (by injection e383)
 have qi383 : (0 < l0.length) = True := eq_true (by omega)
 try simp only [z00, Nat.zero_mul, Addr.add_zero'] at hx383_0 hx383_1 hx383_2
 replace hx383_0 := zc HB hx383_0
 replace hx383_1 := zc HB hx383_1
 replace hx383_2 := zc HB hx383_2
 have HR383_1 := Aside0.mk hi383_1
 have HC383_1 := Aside0.mk hl383_1
 clear hi383_1 hl383_1
 have HR383_2 := Aside0.mk hi383_2
 have HC383_2 := Aside0.mk hl383_2
 clear hi383_2 hl383_2
 replace p383 := eq_true p383
 replace q383 := eq_true q383
 have ea_ := Option.some.inj (hx381_1.symm.trans hx383_1)
 injection ea_ with ea_ en_ ec_
 subst ea_
 subst ec_
 clear en_
 have ea_ := Option.some.inj (hx381_2.symm.trans hx383_2)
 injection ea_ with ea_ en_ ec_
 subst ea_
 subst ec_
 clear en_
 have p384 : 0 ≤ (x8_3 : Int) := of_decide_eq_true zA
 have q384 : x8_3 < (((rd_T29 l0 0).f1).length : Int) := of_decide_eq_true zA
 obtain ⟨ad384, e384, hx384_0, hx384_1, hx384_2⟩ := at_T61 HR383_1.out x8_3 p384 q384
 cases e384
 replace hx384_0 := zc HB hx384_0
 replace hx384_1 := zc HB hx384_1
 replace hx384_2 := zc HB hx384_2
 replace p384 := eq_true p384
 replace q384 := eq_true q384
 go_wp2_with (first | ((with_reducible refine gate_dst (N := 9) rfl ?_); refine zbx 9 #[.int .i8 0, .int .i16 0, .int .i16 0] 61 ?_; intro gb385 hg w60 hbox hb; have n_ : _ ∧ _ ∧ _ ∧ _ ∧ _ ∧ _ ∧ _ ∧ _ ∧ _ ∧ _ ∧ _ ∧ _ ∧ _ := ⟨zr HO_3 hb, zr HO_6 hb, Aside0.mk (Kd.R_below (Kd.R_elderB (ze HO_381001).out gb385 (Nat.le_of_eq hg.symm)) hb), zk BK356 hb, zk BK380 hb, zbs hb, Aside0.mk (hbox), zg HB hg, zg HB hg, zn1 BK356 hg, zn2 BK356 hg, zn1 BK380 hg, zn2 BK380 hg⟩; clear HO_3 HO_6 HO_381001 BK356 BK380 HB; obtain ⟨HO_3, HO_6, HO_381001, BK356, BK380, HB, BK385, GW385, GE385, NB356_385, NB385_356, NB380_385, NB385_380⟩ := n_; clear hb hbox hg; have hnb61 := NB385_356.out; have hnc61 := NB356_385.out; have hnb62 := NB385_380.out; have hnc62 := NB380_385.out; obtain ⟨z63_0, z63_1, z63_2, y63_0, y63_1, y63_2⟩ := zB3 BK385) | ((with_reducible refine gate_store (t := 61) (p := 9) rfl ?_); refine store_event (t := 61) (p := 9) (v := ?vo_w64) (w1 := (((w60.setCell ⟨gb385, 0, none⟩ (.int .i8 ((rd_T61 ((rd_T29 l0 0).f1) x8_3).f0))).setCell ⟨gb385, 1, none⟩ (.int .i16 ((rd_T61 ((rd_T29 l0 0).f1) x8_3).f1))).setCell ⟨gb385, 2, none⟩ (.int .i16 ((rd_T61 ((rd_T29 l0 0).f1) x8_3).f2)))) ?hg ?ho ?hn ?hr ?_; (case ho => rfl); (case hg => rfl); (case hn => rfl); (case hr => exact zgs); intro w64 hw; have n0_ : Aside0 (Kd.R Kd.bool 4 w64 w.heap.size (fun _ => True) (.slice (some ad382) x3_2.length co59) x3_2) := ⟨(by rw [hw]; exact (Kd.R_mono (zs HO_3 BK385).out (fun _ hk => trivial)))⟩; have n1_ : Aside0 (Kd.R (Kd.int .i16) 54 w64 w.heap.size (fun _ => True) v377 x6_3) := ⟨(by rw [hw]; exact (Kd.R_mono (zs HO_6 BK385).out (fun _ hk => trivial)))⟩; have n2_ : Aside0 (Kd.R k61 61 w64 w.heap.size (fun k_ => k_ ≠ gb385) u381001 x381001_3) := ⟨(by rw [hw]; exact (by (with_reducible repeat (first | apply Kd.R_alloc | apply Kd.R_drewN | apply Kd.R_drew)); exact Kd.R_mono (Kd.R_far (p := ⟨gb385, 2, none⟩) (Kd.R_far (p := ⟨gb385, 1, none⟩) (Kd.R_far (p := ⟨gb385, 0, none⟩) (Kd.R_mono HO_381001.out (fun k_ hk => (⟨hk, hk.2⟩ : _ ∧ k_ ≠ gb385))) (fun _ hk => hk.2) (.int .i8 ((rd_T61 ((rd_T29 l0 0).f1) x8_3).f0))) (fun _ hk => hk.2) (.int .i16 ((rd_T61 ((rd_T29 l0 0).f1) x8_3).f1))) (fun _ hk => hk.2) (.int .i16 ((rd_T61 ((rd_T29 l0 0).f1) x8_3).f2))) (fun _ hk => hk.1.2)))⟩; have n3_ : Aside0 (w64.heap[gb356]? = some (.cells #[.int .i8 0, .slice none 0 0, .slice none 0 0] 29 (0, 0))) := ⟨(by rw [hw]; exact (zf BK356 NB356_385).out)⟩; have n4_ : Aside0 (w64.heap[gb380]? = some (.cells #[.int .i8 ((rd_T29 l0 0).f0), u381001, .slice none 0 0] 29 (0, 0))) := ⟨(by rw [hw]; exact (zf BK380 NB380_385).out)⟩; have n5_ : Aside0 (w64.heap[gb385]? = some (.cells #[.int .i8 ((rd_T61 ((rd_T29 l0 0).f1) x8_3).f0), .int .i16 ((rd_T61 ((rd_T29 l0 0).f1) x8_3).f1), .int .i16 ((rd_T61 ((rd_T29 l0 0).f1) x8_3).f2)] 61 (0, 0))) := ⟨(by rw [hw]; exact (zp BK385))⟩; have n6_ : Aside0 (Below w.heap.size w w64) := ⟨(by rw [hw]; exact zbo)⟩; clear hw; clear HO_3; clear HO_6; clear HO_381001; clear BK356; clear BK380; clear BK385; clear HB; have HO_3 := n0_; have HO_6 := n1_; have HO_381001 := n2_; have BK356 := n3_; have BK380 := n4_; have BK385 := n5_; have HB := n6_; clear n0_ n1_ n2_ n3_ n4_ n5_ n6_; obtain ⟨z65_0, z65_1, z65_2, y65_0, y65_1, y65_2⟩ := zB3 BK385; obtain ⟨Ao66, co66, eo66⟩ := Kd.R_slice HO_6.out; subst eo66; have p386 : 0 ≤ (((rd_T61 ((rd_T29 l0 0).f1) x8_3).f1) : Int) := of_decide_eq_true zA; have q386 : ((rd_T61 ((rd_T29 l0 0).f1) x8_3).f1) < (x6_3.length : Int) := of_decide_eq_true zA; obtain ⟨ad386, e386, hx386_0⟩ := Kd.at_int (Kd.R_reads' HO_6.out).2.2 ((rd_T61 ((rd_T29 l0 0).f1) x8_3).f1) p386 q386; cases e386; replace p386 := eq_true p386; replace q386 := eq_true q386) | ((with_reducible refine gate_store (t := 54) (p := 120) rfl ?_); refine store_event (t := 54) (p := 120) (v := ?vo_w67) (w1 := (w64.setCell ⟨gb385, 1, none⟩ (.int .i16 (rd x6_3 ((rd_T61 ((rd_T29 l0 0).f1) x8_3).f1))))) ?hg ?ho ?hn ?hr ?_; (case ho => rfl); (case hg => rfl); (case hn => rfl); (case hr => exact zgs); intro w67 hw; have n0_ : Aside0 (Kd.R Kd.bool 4 w67 w.heap.size (fun _ => True) (.slice (some ad382) x3_2.length co59) x3_2) := ⟨(by rw [hw]; exact (Kd.R_mono (zs HO_3 BK385).out (fun _ hk => trivial)))⟩; have n1_ : Aside0 (Kd.R (Kd.int .i16) 54 w67 w.heap.size (fun _ => True) (.slice (some ad386) x6_3.length co66) x6_3) := ⟨(by rw [hw]; exact (Kd.R_mono (zs HO_6 BK385).out (fun _ hk => trivial)))⟩; have n2_ : Aside0 (Kd.R k61 61 w67 w.heap.size (fun k_ => k_ ≠ gb385) u381001 x381001_3) := ⟨(by rw [hw]; exact (by (with_reducible repeat (first | apply Kd.R_alloc | apply Kd.R_drewN | apply Kd.R_drew)); exact Kd.R_mono (Kd.R_far (p := ⟨gb385, 1, none⟩) (Kd.R_mono HO_381001.out (fun k_ hk => (⟨hk, hk⟩ : _ ∧ k_ ≠ gb385))) (fun _ hk => hk.2) (.int .i16 (rd x6_3 ((rd_T61 ((rd_T29 l0 0).f1) x8_3).f1)))) (fun _ hk => hk.1)))⟩; have n3_ : Aside0 (w67.heap[gb356]? = some (.cells #[.int .i8 0, .slice none 0 0, .slice none 0 0] 29 (0, 0))) := ⟨(by rw [hw]; exact (zf BK356 NB356_385).out)⟩; have n4_ : Aside0 (w67.heap[gb380]? = some (.cells #[.int .i8 ((rd_T29 l0 0).f0), u381001, .slice none 0 0] 29 (0, 0))) := ⟨(by rw [hw]; exact (zf BK380 NB380_385).out)⟩; have n5_ : Aside0 (w67.heap[gb385]? = some (.cells #[.int .i8 ((rd_T61 ((rd_T29 l0 0).f1) x8_3).f0), .int .i16 (rd x6_3 ((rd_T61 ((rd_T29 l0 0).f1) x8_3).f1)), .int .i16 ((rd_T61 ((rd_T29 l0 0).f1) x8_3).f2)] 61 (0, 0))) := ⟨(by rw [hw]; exact (zp BK385))⟩; have n6_ : Aside0 (Below w.heap.size w w67) := ⟨(by rw [hw]; exact zbo)⟩; clear hw; clear HO_3; clear HO_6; clear HO_381001; clear BK356; clear BK380; clear BK385; clear HB; have HO_3 := n0_; have HO_6 := n1_; have HO_381001 := n2_; have BK356 := n3_; have BK380 := n4_; have BK385 := n5_; have HB := n6_; clear n0_ n1_ n2_ n3_ n4_ n5_ n6_; obtain ⟨z68_0, z68_1, z68_2, y68_0, y68_1, y68_2⟩ := zB3 BK385; have p387 : 0 ≤ (((rd_T61 ((rd_T29 l0 0).f1) x8_3).f2) : Int) := of_decide_eq_true zA; have q387 : ((rd_T61 ((rd_T29 l0 0).f1) x8_3).f2) < (x6_3.length : Int) := of_decide_eq_true zA; obtain ⟨ad387, e387, hx387_0⟩ := Kd.at_int (Kd.R_reads' HO_6.out).2.2 ((rd_T61 ((rd_T29 l0 0).f1) x8_3).f2) p387 q387; obtain rfl : ad386 = ad387 := (by injection e387); replace p387 := eq_true p387; replace q387 := eq_true q387) | ((with_reducible refine gate_store (t := 54) (p := 126) rfl ?_); refine store_event (t := 54) (p := 126) (v := ?vo_w69) (w1 := (w67.setCell ⟨gb385, 2, none⟩ (.int .i16 (rd x6_3 ((rd_T61 ((rd_T29 l0 0).f1) x8_3).f2))))) ?hg ?ho ?hn ?hr ?_; (case ho => rfl); (case hg => rfl); (case hn => rfl); (case hr => exact zgs); intro w69 hw; have n0_ : Aside0 (Kd.R Kd.bool 4 w69 w.heap.size (fun _ => True) (.slice (some ad382) x3_2.length co59) x3_2) := ⟨(by rw [hw]; exact (Kd.R_mono (zs HO_3 BK385).out (fun _ hk => trivial)))⟩; have n1_ : Aside0 (Kd.R (Kd.int .i16) 54 w69 w.heap.size (fun _ => True) (.slice (some ad386) x6_3.length co66) x6_3) := ⟨(by rw [hw]; exact (Kd.R_mono (zs HO_6 BK385).out (fun _ hk => trivial)))⟩; have n2_ : Aside0 (Kd.R k61 61 w69 w.heap.size (fun k_ => k_ ≠ gb385) u381001 x381001_3) := ⟨(by rw [hw]; exact (by (with_reducible repeat (first | apply Kd.R_alloc | apply Kd.R_drewN | apply Kd.R_drew)); exact Kd.R_mono (Kd.R_far (p := ⟨gb385, 2, none⟩) (Kd.R_mono HO_381001.out (fun k_ hk => (⟨hk, hk⟩ : _ ∧ k_ ≠ gb385))) (fun _ hk => hk.2) (.int .i16 (rd x6_3 ((rd_T61 ((rd_T29 l0 0).f1) x8_3).f2)))) (fun _ hk => hk.1)))⟩; have n3_ : Aside0 (w69.heap[gb356]? = some (.cells #[.int .i8 0, .slice none 0 0, .slice none 0 0] 29 (0, 0))) := ⟨(by rw [hw]; exact (zf BK356 NB356_385).out)⟩; have n4_ : Aside0 (w69.heap[gb380]? = some (.cells #[.int .i8 ((rd_T29 l0 0).f0), u381001, .slice none 0 0] 29 (0, 0))) := ⟨(by rw [hw]; exact (zf BK380 NB380_385).out)⟩; have n5_ : Aside0 (w69.heap[gb385]? = some (.cells #[.int .i8 ((rd_T61 ((rd_T29 l0 0).f1) x8_3).f0), .int .i16 (rd x6_3 ((rd_T61 ((rd_T29 l0 0).f1) x8_3).f1)), .int .i16 (rd x6_3 ((rd_T61 ((rd_T29 l0 0).f1) x8_3).f2))] 61 (0, 0))) := ⟨(by rw [hw]; exact (zp BK385))⟩; have n6_ : Aside0 (Below w.heap.size w w69) := ⟨(by rw [hw]; exact zbo)⟩; clear hw; clear HO_3; clear HO_6; clear HO_381001; clear BK356; clear BK380; clear BK385; clear HB; have HO_3 := n0_; have HO_6 := n1_; have HO_381001 := n2_; have BK356 := n3_; have BK380 := n4_; have BK385 := n5_; have HB := n6_; clear n0_ n1_ n2_ n3_ n4_ n5_ n6_; have hnb70 := NB380_356.out; have hnc70 := NB356_380.out; obtain ⟨z71_0, z71_1, z71_2, y71_0, y71_1, y71_2⟩ := zB3 BK380; obtain ⟨Ao72, co72, eo72⟩ := Kd.R_slice HO_381001.out; subst eo72; have p57 : 0 ≤ (x8_3 : Int) := of_decide_eq_true zA; have q57 : (x8_3 : Int) < ((x6_3.length : Int) : Int) := of_decide_eq_true zA; obtain ⟨go57, co57, eo57, gb57, gl57, cl57, HG57⟩ := Kd.R_form HO_6.out (by omega); (first | cases eo57 | (injection eo57 with ea_ en_ ec_; (first | subst ea_ | (injection ea_ with ea_; subst ea_)); subst ec_; clear en_)); have GB57 := Aside0.mk gb57; have GG57 := Aside0.mk HG57; clear gb57 gl57 HG57; (first | simp only [add_plain] at hx386_0 | skip); (first | simp only [add_plain] at hx387_0 | skip); obtain ⟨hx57_0, hf57_0⟩ := Kd.R_celln 0 HO_6.out (x8_3 : Int) p57 q57; replace p57 := eq_true p57; replace q57 := eq_true q57; obtain ⟨hy73_, hz73_⟩ := Kd.R_celln 0 HO_6.out (x8_3 : Int) (of_decide_eq_true zA) (of_decide_eq_true zA); have HP73 := Kd.R_putg HO_6.out (x8_3 : Int) (IntKind.i16.wrap ((x381001_3.length : Int)))) | ((with_reducible refine gate_store (t := 54) (p := 133) rfl ?_); refine store_event (t := 54) (p := 133) (v := ?vo_w74) (w1 := (w69.setCell ⟨go57, (x8_3 : Int).toNat, none⟩ (.int .i16 (IntKind.i16.wrap ((x381001_3.length : Int)))))) ?hg ?ho ?hn ?hr ?_; (case ho => rfl); (case hg => rfl); (case hn => rfl); (case hr => exact zgs); intro w74 hw; have hg : w69.grownBy w74 (some go57) := (by rw [hw]; exact HP73.2); have hp_ : Kd.R (Kd.int .i16) 54 w74 w.heap.size (fun _ => True) (.slice (some ⟨go57, 0, none⟩) x6_3.length co66) y388 := (by rw [hw, Ny388.out]; exact HP73.1); clear HP73; have n_ : _ ∧ _ ∧ _ ∧ _ ∧ _ ∧ _ ∧ _ := ⟨Aside0.mk (Kd.R_over' (v := (.slice (some ⟨go57, 0, none⟩) x6_3.length co66)) (ze HO_3).out (Kd.R_typed HO_6.out) (by decide) hg), Aside0.mk (hp_), Aside0.mk (Kd.R_over' (v := (.slice (some ⟨go57, 0, none⟩) x6_3.length co66)) (ze HO_381001).out (Kd.R_typed HO_6.out) (by decide) hg), Aside0.mk (blk_grown (g := gb356) (o := .cells #[.int .i8 0, .slice none 0 0, .slice none 0 0] 29 (0, 0)) (zh BK356).out hg (Kd.R_ne HO_6.out BK356.out (by decide))), Aside0.mk (blk_grown (g := gb380) (o := .cells #[.int .i8 ((rd_T29 l0 0).f0), .slice Ao72 x381001_3.length co72, .slice none 0 0] 29 (0, 0)) (zh BK380).out hg (Kd.R_ne HO_6.out BK380.out (by decide))), Aside0.mk (blk_grown (g := gb385) (o := .cells #[.int .i8 ((rd_T61 ((rd_T29 l0 0).f1) x8_3).f0), .int .i16 (rd x6_3 ((rd_T61 ((rd_T29 l0 0).f1) x8_3).f1)), .int .i16 (rd x6_3 ((rd_T61 ((rd_T29 l0 0).f1) x8_3).f2))] 61 (0, 0)) (zh BK385).out hg (Kd.R_ne HO_6.out BK385.out (by decide))), Aside0.mk ((by rw [hw]; exact below_set (HB.out) GB57.out : Below w.heap.size w w74))⟩; clear HO_3 HO_6 HO_381001 BK356 BK380 BK385 HB; obtain ⟨HO_3, HO_6, HO_381001, BK356, BK380, BK385, HB⟩ := n_; clear hg hw hp_; obtain ⟨z75_0, z75_1, z75_2, y75_0, y75_1, y75_2⟩ := zB3 BK380; obtain ⟨z76_0, z76_1, z76_2, y76_0, y76_1, y76_2⟩ := zB3 BK385) | ((with_reducible refine gate_builtin (b := .append) (xs := #[.tmp 135, .tmp 137]) rfl ?_); at_builtin; refine Kd.R_append k61 (w0 := w) w.heap.size rfl (.tmp 135) (.tmp 137) 26 61 (.agg #[(.int .i8 0), (.int .i16 0), (.int .i16 0)]) 6 rfl Try.underlying26 info61 rfl (by decide) (by omega) (.slice Ao72 x381001_3.length co72) x381001_3 (⟨(rd_T61 ((rd_T29 l0 0).f1) x8_3).f0, rd x6_3 ((rd_T61 ((rd_T29 l0 0).f1) x8_3).f1), rd x6_3 ((rd_T61 ((rd_T29 l0 0).f1) x8_3).f2)⟩ : S61) [.int .i8 ((rd_T61 ((rd_T29 l0 0).f1) x8_3).f0), .int .i16 (rd x6_3 ((rd_T61 ((rd_T29 l0 0).f1) x8_3).f1)), .int .i16 (rd x6_3 ((rd_T61 ((rd_T29 l0 0).f1) x8_3).f2))] (fun k_ => k_ ≠ gb385) (fun _ => False) rfl rfl ?aP (fun _ hk => hk.elim) ?aF ?aO ?aB ?aS ?aL ?_; (case aP => exact k61_mkM _ _ _ (⟨(rd_T61 ((rd_T29 l0 0).f1) x8_3).f0, rd x6_3 ((rd_T61 ((rd_T29 l0 0).f1) x8_3).f1), rd x6_3 ((rd_T61 ((rd_T29 l0 0).f1) x8_3).f2)⟩ : S61)); (case aB => exact zbo); (case aF => exact (fun k_ hk => Kd.freshB (g := gb385) (o := .cells #[.int .i8 ((rd_T61 ((rd_T29 l0 0).f1) x8_3).f0), .int .i16 (rd x6_3 ((rd_T61 ((rd_T29 l0 0).f1) x8_3).f1)), .int .i16 (rd x6_3 ((rd_T61 ((rd_T29 l0 0).f1) x8_3).f2))] 61 (0, 0)) (zh BK385).out k_ hk)); (case aO => exact (ze HO_381001).out); (case aS => exact (zz HB)); (case aL => have := LMc58.out; omega); intro v390 w77 ho hb hg hat; rw [← Ny389.out] at ho; have n_ : _ ∧ _ ∧ _ ∧ _ ∧ _ ∧ _ ∧ _ := ⟨Aside0.mk (Kd.R_over' (ze HO_3).out (Kd.R_typed (ze HO_381001).out) (by decide) hg), Aside0.mk (Kd.R_over' (ze HO_6).out (Kd.R_typed (ze HO_381001).out) (by decide) hg), Aside0.mk (blk_grown (g := gb356) (o := .cells #[.int .i8 0, .slice none 0 0, .slice none 0 0] 29 (0, 0)) (zh BK356).out hg (Kd.R_ne HO_381001.out BK356.out (by decide))), Aside0.mk (blk_grown (g := gb380) (o := .cells #[.int .i8 ((rd_T29 l0 0).f0), .slice Ao72 x381001_3.length co72, .slice none 0 0] 29 (0, 0)) (zh BK380).out hg (Kd.R_ne HO_381001.out BK380.out (by decide))), Aside0.mk (blk_grown (g := gb385) (o := .cells #[.int .i8 ((rd_T61 ((rd_T29 l0 0).f1) x8_3).f0), .int .i16 (rd x6_3 ((rd_T61 ((rd_T29 l0 0).f1) x8_3).f1)), .int .i16 (rd x6_3 ((rd_T61 ((rd_T29 l0 0).f1) x8_3).f2))] 61 (0, 0)) (zh BK385).out hg (Kd.R_away HO_381001.out (fun _ hk => hk))), Aside0.mk (hb), Aside0.mk (ho)⟩; clear HO_3 HO_6 BK356 BK380 BK385 HB HO_381001; obtain ⟨HO_3, HO_6, BK356, BK380, BK385, HB, HO391⟩ := n_; clear ho hb hg hat; obtain ⟨Ao78, co78, eo78⟩ := Kd.R_slice HO391.out; subst eo78; obtain ⟨z79_0, z79_1, z79_2, y79_0, y79_1, y79_2⟩ := zB3 BK380))
 go_roundg k3
 case measure => have := HK1.out; have := HK2.out; have := HK3.out; omega
 case rel => exact ⟨(y388), (wrap64 (x8_3 + 1)), (y389), (.slice Ao78 y389.length co78), zi, H', ⟨by have := HK1.out; have := HK2.out; have := HK3.out; omega⟩, ⟨Kd.R_mono (zs HO_3 BK380).out (fun _ hk => trivial)⟩, ⟨Kd.R_mono (zs HO_6 BK380).out (fun _ hk => trivial)⟩, ⟨Kd.R_mono (zs HO391 BK380).out (fun _ hk => trivial)⟩, zf BK356 NB356_380, ⟨zp BK380⟩, zba⟩
end Go.Proofs.Ytkflenibdijnaaa.PFnAdders
