-- WRITTEN by xprint.py, a program of this session's. Not trusted: Lean checks it.
-- packed by pack.py
import Derived.Test.YtmpmanfoiocfgaaPFnExactSimplifyNetworkx0
import Derived.Test.YtmpmanfoiocfgaaTFnExactSimplifyNetworka
namespace Go.Proofs.Ytmpmanfoiocfgaa.PFnExactSimplifyNetwork
open Go.RowKit Go.Proofs.YtmpmanfoiocfgaaW.PrintWords Go.Proofs.YtmpmanfoiocfgaaW.PrintLast Go.Proofs.YtmpmanfoiocfgaaW.PrintMore Go.Proofs.YtmpmanfoiocfgaaX
attribute [local go_sem] max2_int min2_int max_two min_two max_three min_three max_four min_four   -- for this text's walks alone
set_option maxHeartbeats 8000000
set_option maxRecDepth 100000
set_option linter.unusedVariables false
set_option linter.unusedSimpArgs false

mutual
def spec_l04Trim.l0 : Nat → List (S31) → List Bool → Int → Option (Int × (List (S81)) × List Int)
  | 0, _, _, _ => none
  | k + 1, x0, x3, x4 => if 0 < (x0.length : Int) then (if x4 < (((rd_T31 x0 0).f2).length : Int) then (if 0 ≤ x4 then (if 0 ≤ (rd ((rd_T31 x0 0).f2) x4) then (if (rd ((rd_T31 x0 0).f2) x4) < (x3.length : Int) then (spec_l04Trim.l0 k x0 (x3.set ((rd ((rd_T31 x0 0).f2) x4) : Int).toNat true) (wrap64 (x4 + 1))) else (none)) else (none)) else (none)) else (spec_l04Trim.l1 k x0 x3 (wrap64 ((((rd_T31 x0 0).f1).length : Int) - 1)))) else (none)
def spec_l04Trim.l1 : Nat → List (S31) → List Bool → Int → Option (Int × (List (S81)) × List Int)
  | 0, _, _, _ => none
  | k + 1, x0, x3, x5 => if x5 ≥ 0 then (if 0 ≤ x5 then (if x5 < (x3.length : Int) then (if rdOf false x3 x5 = true then (if 0 < (x0.length : Int) then (if x5 < (((rd_T31 x0 0).f1).length : Int) then (if ((rd_T81 ((rd_T31 x0 0).f1) x5).f0) ≥ 2 then (if 0 ≤ ((rd_T81 ((rd_T31 x0 0).f1) x5).f1) then (if ((rd_T81 ((rd_T31 x0 0).f1) x5).f1) < (x3.length : Int) then (if 0 ≤ ((rd_T81 ((rd_T31 x0 0).f1) x5).f2) then (if ((rd_T81 ((rd_T31 x0 0).f1) x5).f2) < (x3.length : Int) then (spec_l04Trim.l1 k x0 ((x3.set (((rd_T81 ((rd_T31 x0 0).f1) x5).f1) : Int).toNat true).set (((rd_T81 ((rd_T31 x0 0).f1) x5).f2) : Int).toNat true) (wrap64 (x5 - 1))) else (none)) else (none)) else (none)) else (none)) else (spec_l04Trim.l1 k x0 x3 (wrap64 (x5 - 1)))) else (none)) else (none)) else (spec_l04Trim.l1 k x0 x3 (wrap64 (x5 - 1)))) else (none)) else (none)) else (if 0 < (x0.length : Int) then (if 0 ≤ (((rd_T31 x0 0).f1).length : Int) then (if ((((rd_T31 x0 0).f1).length : Int) : Int).toNat ≤ 140737488355328 then (spec_l04Trim.l2 k x0 x3 (List.replicate ((((rd_T31 x0 0).f1).length : Int) : Int).toNat 0) 0 ((rd_T31 x0 0).f0) ([] : List (S81))) else (none)) else (none)) else (none))
def spec_l04Trim.l2 : Nat → List (S31) → List Bool → List Int → Int → Int → List (S81) → Option (Int × (List (S81)) × List Int)
  | 0, _, _, _, _, _, _ => none
  | k + 1, x0, x3, x6, x8, x199000, x199001 => if 0 < (x0.length : Int) then (if x8 < (((rd_T31 x0 0).f1).length : Int) then (if 0 ≤ x8 then (if x8 < (x3.length : Int) then (if rdOf false x3 x8 = true then (if ((rd_T81 ((rd_T31 x0 0).f1) x8).f0) ≥ 2 then (if 0 ≤ ((rd_T81 ((rd_T31 x0 0).f1) x8).f1) then (if ((rd_T81 ((rd_T31 x0 0).f1) x8).f1) < (x6.length : Int) then (if 0 ≤ ((rd_T81 ((rd_T31 x0 0).f1) x8).f2) then (if ((rd_T81 ((rd_T31 x0 0).f1) x8).f2) < (x6.length : Int) then (if x8 < (x6.length : Int) then (if x199001.length < 23456248059221 then (spec_l04Trim.l2 k x0 x3 (x6.set (x8 : Int).toNat (IntKind.i16.wrap ((x199001.length : Int)))) (wrap64 (x8 + 1)) x199000 (x199001 ++ [(⟨(rd_T81 ((rd_T31 x0 0).f1) x8).f0, rd x6 ((rd_T81 ((rd_T31 x0 0).f1) x8).f1), rd x6 ((rd_T81 ((rd_T31 x0 0).f1) x8).f2)⟩ : S81)])) else (none)) else (none)) else (none)) else (none)) else (none)) else (none)) else (if x8 < (x6.length : Int) then (if x199001.length < 23456248059221 then (spec_l04Trim.l2 k x0 x3 (x6.set (x8 : Int).toNat (IntKind.i16.wrap ((x199001.length : Int)))) (wrap64 (x8 + 1)) x199000 (x199001 ++ [(⟨(rd_T81 ((rd_T31 x0 0).f1) x8).f0, (rd_T81 ((rd_T31 x0 0).f1) x8).f1, (rd_T81 ((rd_T31 x0 0).f1) x8).f2⟩ : S81)])) else (none)) else (none))) else (spec_l04Trim.l2 k x0 x3 x6 (wrap64 (x8 + 1)) x199000 x199001)) else (none)) else (none)) else (spec_l04Trim.l3 k x0 x6 0 x199000 x199001 ([] : List Int))) else (none)
def spec_l04Trim.l3 : Nat → List (S31) → List Int → Int → Int → List (S81) → List Int → Option (Int × (List (S81)) × List Int)
  | 0, _, _, _, _, _, _ => none
  | k + 1, x0, x6, x10, x199000, x199001, x199002 => if 0 < (x0.length : Int) then (if x10 < (((rd_T31 x0 0).f2).length : Int) then (if 0 ≤ x10 then (if 0 ≤ (rd ((rd_T31 x0 0).f2) x10) then (if (rd ((rd_T31 x0 0).f2) x10) < (x6.length : Int) then (if x199002.length < 70368744177664 then (spec_l04Trim.l3 k x0 x6 (wrap64 (x10 + 1)) x199000 x199001 (x199002 ++ [rd x6 (rd ((rd_T31 x0 0).f2) x10)])) else (none)) else (none)) else (none)) else (none)) else (some (x199000, x199001, x199002))) else (none)
end
def spec_l04Trim.f (k : Nat) (l0 : List (S31)) : Option (Int × (List (S81)) × List Int) := if 0 < (l0.length : Int) then (if 0 ≤ (((rd_T31 l0 0).f1).length : Int) then (if ((((rd_T31 l0 0).f1).length : Int) : Int).toNat ≤ 281474976710656 then (spec_l04Trim.l0 k l0 (List.replicate ((((rd_T31 l0 0).f1).length : Int) : Int).toNat false) 0) else (none)) else (none)) else (none)
theorem spec_l04Trim.mono_l : ∀ k, (∀ y0 y1 y2, LeO (spec_l04Trim.l0 k y0 y1 y2) (spec_l04Trim.l0 (k + 1) y0 y1 y2)) ∧ (∀ y0 y1 y2, LeO (spec_l04Trim.l1 k y0 y1 y2) (spec_l04Trim.l1 (k + 1) y0 y1 y2)) ∧ (∀ y0 y1 y2 y3 y4 y5, LeO (spec_l04Trim.l2 k y0 y1 y2 y3 y4 y5) (spec_l04Trim.l2 (k + 1) y0 y1 y2 y3 y4 y5)) ∧ (∀ y0 y1 y2 y3 y4 y5, LeO (spec_l04Trim.l3 k y0 y1 y2 y3 y4 y5) (spec_l04Trim.l3 (k + 1) y0 y1 y2 y3 y4 y5))
  | 0 => ⟨fun _ _ _ r h => by simp [spec_l04Trim.l0] at h, fun _ _ _ r h => by simp [spec_l04Trim.l1] at h, fun _ _ _ _ _ _ r h => by simp [spec_l04Trim.l2] at h, fun _ _ _ _ _ _ r h => by simp [spec_l04Trim.l3] at h⟩
  | k + 1 => by
    obtain ⟨ih0, ih1, ih2, ih3⟩ := spec_l04Trim.mono_l k
    refine ⟨?_, ?_, ?_, ?_⟩
    · intro y0 y1 y2
      unfold spec_l04Trim.l0
      repeat' first | (with_reducible first | apply ih0 | apply ih1 | apply ih2 | apply ih3 | exact LeO.refl _ | exact LeO.none _ | refine LeO.ite ?_ ?_ | refine LeO.bind ?_ (fun _ => ?_)) | apply ih0 | apply ih1 | apply ih2 | apply ih3 | exact LeO.none _ | refine LeO.ite ?_ ?_ | refine LeO.bind ?_ (fun _ => ?_)
    · intro y0 y1 y2
      unfold spec_l04Trim.l1
      repeat' first | (with_reducible first | apply ih0 | apply ih1 | apply ih2 | apply ih3 | exact LeO.refl _ | exact LeO.none _ | refine LeO.ite ?_ ?_ | refine LeO.bind ?_ (fun _ => ?_)) | apply ih0 | apply ih1 | apply ih2 | apply ih3 | exact LeO.none _ | refine LeO.ite ?_ ?_ | refine LeO.bind ?_ (fun _ => ?_)
    · intro y0 y1 y2 y3 y4 y5
      unfold spec_l04Trim.l2
      repeat' first | (with_reducible first | apply ih0 | apply ih1 | apply ih2 | apply ih3 | exact LeO.refl _ | exact LeO.none _ | refine LeO.ite ?_ ?_ | refine LeO.bind ?_ (fun _ => ?_)) | apply ih0 | apply ih1 | apply ih2 | apply ih3 | exact LeO.none _ | refine LeO.ite ?_ ?_ | refine LeO.bind ?_ (fun _ => ?_)
    · intro y0 y1 y2 y3 y4 y5
      unfold spec_l04Trim.l3
      repeat' first | (with_reducible first | apply ih0 | apply ih1 | apply ih2 | apply ih3 | exact LeO.refl _ | exact LeO.none _ | refine LeO.ite ?_ ?_ | refine LeO.bind ?_ (fun _ => ?_)) | apply ih0 | apply ih1 | apply ih2 | apply ih3 | exact LeO.none _ | refine LeO.ite ?_ ?_ | refine LeO.bind ?_ (fun _ => ?_)
theorem spec_l04Trim.mono : ∀ a0 k, LeO (spec_l04Trim.f k a0) (spec_l04Trim.f (k + 1) a0) := by
 intro a0 k
 obtain ⟨ih0, ih1, ih2, ih3⟩ := spec_l04Trim.mono_l k
 unfold spec_l04Trim.f
 repeat' first | (with_reducible first | apply ih0 | apply ih1 | apply ih2 | apply ih3 | exact LeO.refl _ | exact LeO.none _ | refine LeO.ite ?_ ?_ | refine LeO.bind ?_ (fun _ => ?_)) | apply ih0 | apply ih1 | apply ih2 | apply ih3 | exact LeO.none _ | refine LeO.ite ?_ ?_ | refine LeO.bind ?_ (fun _ => ?_)
def spec_l04Trim.T27 : Bool × List (List Nat × List Nat) := (true, [([], []), ([0], [0]), ([], []), ([], []), ([3], [3]), ([4], [4]), ([5], [5]), ([], []), ([6, 7], [6, 7]), ([8], [8]), ([2, 9], [2, 9]), ([10], [10]), ([11], [11]), ([1, 12], [1, 12]), ([0, 1, 2, 3, 4, 5, 6, 7, 8, 9, 10, 11, 12, 13], []), ([14, 13, 13, 0, 1, 2, 3, 4, 5, 6, 7, 8, 9, 10, 11, 12, 13], [13, 14])])
def spec_l04Trim.B27 : List Nat := [0, 1, 0, 0, 8, 24, 56, 0, 248, 504, 1020, 2044, 4092, 8191, 16383, 32767]
theorem spec_l04Trim.tab27 : rtab .any (opsOf Try.f100 27) = spec_l04Trim.T27 := by kernel_rfl
theorem spec_l04Trim.bits27 : waitsOk spec_l04Trim.T27.2 spec_l04Trim.B27 = true := by kernel_rfl
theorem spec_l04Trim.calls (k : Nat) (adp0 : Addr) (l0 : List (S31)) (r1 : Int) (r2 : List (S81)) (r3 : List Int) (w : World) (hr0 : Kd.C k31 w (some adp0) l0.length l0) (h : spec_l04Trim.f k l0 = some (r1, r2, r3)) :
    Calls Try.prog 100 #[.pointer (some adp0)] w fun e w' => ∃ v1_ v2_ : Value, e = .returned (.agg #[.int .i8 r1, v1_, v2_]) ∧ Kd.R k81 81 w' w.heap.size (fun _ => True) v1_ r2 ∧ Kd.R (Kd.int .i16) 79 w' w.heap.size (fun _ => True) v2_ r3 ∧ Below w.heap.size w w' := by
 have hu31 := Try.underlying31
 have hu81 := Try.underlying81
 have HR0 := Aside0.mk hr0
 clear hr0
 have HB := Aside0.mk (Below.refl w.heap.size w)
 have H : (if 0 < (l0.length : Int) then (if 0 ≤ (((rd_T31 l0 0).f1).length : Int) then (if ((((rd_T31 l0 0).f1).length : Int) : Int).toNat ≤ 281474976710656 then (spec_l04Trim.l0 k l0 (List.replicate ((((rd_T31 l0 0).f1).length : Int) : Int).toNat false) 0) else (none)) else (none)) else (none)) = some (r1, r2, r3) := h
 clear h
 by_cases c2 : 0 < (l0.length : Int)
 rotate_left
 ·rw [if_neg c2] at H
  exact absurd H (by simp)
 rw [if_pos c2] at H
 have c2b0 : decide (0 < (l0.length : Int)) = true := decide_eq_true c2
 have c2b1 : decide (0 < l0.length) = true := decide_eq_true (by omega)
 clear c2
 by_cases c3 : 0 ≤ (((rd_T31 l0 0).f1).length : Int)
 rotate_left
 ·rw [if_neg c3] at H
  exact absurd H (by simp)
 rw [if_pos c3] at H
 have c3b0 := eq_true c3
 have c3b1 : decide (0 ≤ (((rd_T31 l0 0).f1).length : Int)) = true := decide_eq_true c3
 clear c3
 by_cases c4 : ((((rd_T31 l0 0).f1).length : Int) : Int).toNat ≤ 281474976710656
 rotate_left
 ·rw [if_neg c4] at H
  exact absurd H (by simp)
 rw [if_pos c4] at H
 have c4b0 := eq_true c4
 have c4b1 : decide (((((rd_T31 l0 0).f1).length : Int) : Int).toNat ≤ 281474976710656) = true := decide_eq_true c4
 clear c4
 obtain ⟨y176, hy176⟩ : ∃ y_ : List Bool, y_ = (List.replicate ((((rd_T31 l0 0).f1).length : Int) : Int).toNat false) := ⟨_, rfl⟩
 replace H : (spec_l04Trim.l0 k l0 y176 0) = some (r1, r2, r3) := by first | (rw [hy176]; with_reducible exact H) | (have H2_ := (Option.bind_some _ _).symm.trans H; rw [hy176]; with_reducible exact H2_) | (have H2_ := (Option.bind_some _ _).symm.trans H; with_reducible exact H2_) | with_reducible exact H | (rw [hy176]; exact H) | exact H
 have Ny176 := Aside0.mk hy176
 clear hy176
 have H' := Aside0.mk H
 clear H
 go_enter Try.func100, Try.ntmps100
 go_wp2_with (first | ((with_reducible refine gate_dst (N := 2) rfl ?_); refine zbx 2 #[.int .i8 0, .slice none 0 0, .slice none 0 0] 31 ?_; intro gb174 hg w5 hbox hb; have n_ : _ ∧ _ ∧ _ ∧ _ := ⟨zb HB hb, Aside0.mk (hbox), zg HB hg, zg HB hg⟩; clear HB; obtain ⟨HB, BK174, GW174, GE174⟩ := n_; clear hb hbox hg; have p175 : 0 ≤ (0 : Int) := (by omega); have q175 : 0 < (l0.length : Int) := of_decide_eq_true zA; obtain ⟨ad175, A175_1, c175_1, A175_2, c175_2, e175, hx175_0, hx175_1, hx175_2, hl175_1, hi175_1, hl175_2, hi175_2⟩ := at_T31 HR0.out 0 p175 q175; obtain rfl : adp0 = ad175 := (by injection e175); have qi175 : (0 < l0.length) = True := eq_true (by omega); (try simp only [z00, Nat.zero_mul, Addr.add_zero'] at hx175_0 hx175_1 hx175_2); replace hx175_0 := zc HB hx175_0; replace hx175_1 := zc HB hx175_1; replace hx175_2 := zc HB hx175_2; have HR175_1 := Aside0.mk hi175_1; have HC175_1 := Aside0.mk hl175_1; clear hi175_1 hl175_1; have HR175_2 := Aside0.mk hi175_2; have HC175_2 := Aside0.mk hl175_2; clear hi175_2 hl175_2; replace p175 := eq_true p175; replace q175 := eq_true q175) | ((with_reducible refine gate_dst (N := 16) rfl ?_); refine Kd.R_make Kd.bool _ 4 rfl (N := 16) rfl 62 _ _ rfl (((rd_T31 l0 0).f1).length : Int) rfl rfl Try.underlying62 (.bool false) 1 info4 rfl (by decide) (by omega) false (ok := fun _ => True) (okp := fun _ => True) rfl (fun _ hk => hk) trivial (of_decide_eq_true zA) (Nat.le_trans (Nat.mul_le_mul_right _ (of_decide_eq_true zA : (((rd_T31 l0 0).f1).length : Int).toNat ≤ 281474976710656)) (by omega)) (Below.refl _ _) (Nat.le_refl _) ?_; intro v177 w6 ho7 hb hg_ hnew_; clear hg_ hnew_; (first | rw [← Ny176.out] at ho7 | (simp only [Int.reduceToNat] at ho7; rw [← Ny176.out] at ho7)); have n_ : _ ∧ _ ∧ _ := ⟨Aside0.mk (Kd.R_lower ho7 (zz HB)), zk BK174 hb, zbs hb⟩; clear BK174 HB; obtain ⟨HO178, BK174, HB⟩ := n_; clear hb ho7))
 go_loopg [4] k (fun kq v4 w' => ∃ (x3_1 : List Bool) (x4_1 : Int), v4 = .int .i64 x4_1 ∧ Aside0 (spec_l04Trim.l0 kq l0 x3_1 x4_1 = some (r1, r2, r3)) ∧ Aside0 (kq ≤ k) ∧ Aside0 (Kd.R Kd.bool 4 w' w.heap.size (fun _ => True) v177 x3_1) ∧ Aside0 (w'.heap[gb174]? = some (.cells #[.int .i8 0, (.slice none 0 0), (.slice none 0 0)] 31 (0, 0))) ∧ Aside0 (Below w.heap.size w w'))
 case atStart => exact ⟨(y176), (0), zi, H', ⟨Nat.le_refl _⟩, ze HO178, zh BK174, zba⟩
 clear H'
 try clear c1
 try clear p1
 try clear q1
 try clear hx1
 try clear qi1
 try clear c2
 try clear c2b0
 try clear c2b1
 try clear p2
 try clear c3
 try clear c3b0
 try clear c3b1
 try clear c4
 try clear c4b0
 try clear c4b1
 try clear hx175_0
 try clear hx175_1
 try clear hx175_2
 try clear p175
 try clear q175
 obtain ⟨x3_1, x4_1, rfl, HA, HK1, HO_3, BK174, HB⟩ := hrel
 cases gk with
 | zero => exact absurd HA.out (by simp [spec_l04Trim.l0])
 | succ k1 => ?_
 have H := HA.out
 clear HA
 simp only [spec_l04Trim.l0] at H
 by_cases c8 : 0 < (l0.length : Int)
 rotate_left
 ·rw [if_neg c8] at H
  exact absurd H (by simp)
 rw [if_pos c8] at H
 have c8b0 : decide (0 < (l0.length : Int)) = true := decide_eq_true c8
 have c8b1 : decide (0 < l0.length) = true := decide_eq_true (by omega)
 clear c8
 by_cases c9 : x4_1 < (((rd_T31 l0 0).f2).length : Int)
 ·rw [if_pos c9] at H
  have c9b0 : decide (x4_1 < (((rd_T31 l0 0).f2).length : Int)) = true := decide_eq_true c9
  clear c9
  by_cases c10 : 0 ≤ x4_1
  rotate_left
  ·rw [if_neg c10] at H
   exact absurd H (by simp)
  rw [if_pos c10] at H
  have c10b0 : decide (0 ≤ x4_1) = true := decide_eq_true c10
  clear c10
  by_cases c11 : 0 ≤ (rd ((rd_T31 l0 0).f2) x4_1)
  rotate_left
  ·rw [if_neg c11] at H
   exact absurd H (by simp)
  rw [if_pos c11] at H
  have c11b0 : decide (0 ≤ (rd ((rd_T31 l0 0).f2) x4_1)) = true := decide_eq_true c11
  clear c11
  by_cases c12 : (rd ((rd_T31 l0 0).f2) x4_1) < (x3_1.length : Int)
  rotate_left
  ·rw [if_neg c12] at H
   exact absurd H (by simp)
  rw [if_pos c12] at H
  have c12b0 : decide ((rd ((rd_T31 l0 0).f2) x4_1) < (x3_1.length : Int)) = true := decide_eq_true c12
  clear c12
  obtain ⟨y182, hy182⟩ : ∃ y_ : List Bool, y_ = (x3_1.set ((rd ((rd_T31 l0 0).f2) x4_1) : Int).toNat true) := ⟨_, rfl⟩
  replace H : (spec_l04Trim.l0 k1 l0 y182 (wrap64 (x4_1 + 1))) = some (r1, r2, r3) := by first | (rw [hy182]; with_reducible exact H) | (have H2_ := (Option.bind_some _ _).symm.trans H; rw [hy182]; with_reducible exact H2_) | (have H2_ := (Option.bind_some _ _).symm.trans H; with_reducible exact H2_) | with_reducible exact H | (rw [hy182]; exact H) | exact H
  have Ny182 := Aside0.mk hy182
  clear hy182
  have H' := Aside0.mk H
  clear H
  have p179 : 0 ≤ (0 : Int) := (by omega)
  have q179 : 0 < (l0.length : Int) := of_decide_eq_true zA
  obtain ⟨ad179, A179_1, c179_1, A179_2, c179_2, e179, hx179_0, hx179_1, hx179_2, hl179_1, hi179_1, hl179_2, hi179_2⟩ := at_T31 HR0.out 0 p179 q179
  obtain rfl : adp0 = ad179 := (by injection e179)
  have qi179 : (0 < l0.length) = True := eq_true (by omega)
  try simp only [z00, Nat.zero_mul, Addr.add_zero'] at hx179_0 hx179_1 hx179_2
  replace hx179_0 := zc HB hx179_0
  replace hx179_1 := zc HB hx179_1
  replace hx179_2 := zc HB hx179_2
  have HR179_1 := Aside0.mk hi179_1
  have HC179_1 := Aside0.mk hl179_1
  clear hi179_1 hl179_1
  have HR179_2 := Aside0.mk hi179_2
  have HC179_2 := Aside0.mk hl179_2
  clear hi179_2 hl179_2
  replace p179 := eq_true p179
  replace q179 := eq_true q179
  have p180 : 0 ≤ (0 : Int) := (by omega)
  have q180 : 0 < (l0.length : Int) := of_decide_eq_true zA
  obtain ⟨ad180, A180_1, c180_1, A180_2, c180_2, e180, hx180_0, hx180_1, hx180_2, hl180_1, hi180_1, hl180_2, hi180_2⟩ := at_T31 HR0.out 0 p180 q180
  obtain rfl : adp0 = ad180 := (by injection e180)
  have qi180 : (0 < l0.length) = True := eq_true (by omega)
  try simp only [z00, Nat.zero_mul, Addr.add_zero'] at hx180_0 hx180_1 hx180_2
  replace hx180_0 := zc HB hx180_0
  replace hx180_1 := zc HB hx180_1
  replace hx180_2 := zc HB hx180_2
  have HR180_1 := Aside0.mk hi180_1
  have HC180_1 := Aside0.mk hl180_1
  clear hi180_1 hl180_1
  have HR180_2 := Aside0.mk hi180_2
  have HC180_2 := Aside0.mk hl180_2
  clear hi180_2 hl180_2
  replace p180 := eq_true p180
  replace q180 := eq_true q180
  have ea_ := Option.some.inj (hx179_1.symm.trans hx180_1)
  injection ea_ with ea_ en_ ec_
  subst ea_
  subst ec_
  clear en_
  have ea_ := Option.some.inj (hx179_2.symm.trans hx180_2)
  injection ea_ with ea_ en_ ec_
  subst ea_
  subst ec_
  clear en_
  have p181 : 0 ≤ (x4_1 : Int) := of_decide_eq_true zA
  have q181 : x4_1 < (((rd_T31 l0 0).f2).length : Int) := of_decide_eq_true zA
  obtain ⟨ad181, e181, hx181_0⟩ := Kd.at_int HR180_2.out x4_1 p181 q181
  cases e181
  replace hx181_0 := zc HB hx181_0
  replace p181 := eq_true p181
  replace q181 := eq_true q181
  have p13 : 0 ≤ ((rd ((rd_T31 l0 0).f2) x4_1) : Int) := of_decide_eq_true zA
  have q13 : ((rd ((rd_T31 l0 0).f2) x4_1) : Int) < ((x3_1.length : Int) : Int) := of_decide_eq_true zA
  obtain ⟨go13, co13, eo13, gb13, gl13, cl13, HG13⟩ := Kd.R_form HO_3.out (by omega)
  (first | cases eo13 | (injection eo13 with ea_ en_ ec_; (first | subst ea_ | (injection ea_ with ea_; subst ea_)); subst ec_; clear en_))
  have GB13 := Aside0.mk gb13
  have GG13 := Aside0.mk HG13
  clear gb13 gl13 HG13
  obtain ⟨hx13_0, hf13_0⟩ := Kd.R_celln false HO_3.out ((rd ((rd_T31 l0 0).f2) x4_1) : Int) p13 q13
  replace p13 := eq_true p13
  replace q13 := eq_true q13
  have HP14 := Kd.R_putg HO_3.out ((rd ((rd_T31 l0 0).f2) x4_1) : Int) true
  go_wp2_with (first | ((with_reducible refine gate_store (t := 4) (p := 34) rfl ?_); refine store_event (t := 4) (p := 34) (v := ?vo_w15) (w1 := (wr.setCell ⟨go13, ((rd ((rd_T31 l0 0).f2) x4_1) : Int).toNat, none⟩ (.bool true))) ?hg ?ho ?hn ?hr ?_; (case ho => rfl); (case hg => rfl); (case hn => rfl); (case hr => exact zgs); intro w15 hw; have hg : wr.grownBy w15 (some go13) := (by rw [hw]; exact HP14.2); have hp_ : Kd.R Kd.bool 4 w15 w.heap.size (fun _ => True) (.slice (some ⟨go13, 0, none⟩) x3_1.length co13) y182 := (by rw [hw, Ny182.out]; exact HP14.1); clear HP14; have n_ : _ ∧ _ ∧ _ := ⟨Aside0.mk (hp_), Aside0.mk (blk_grown (g := gb174) (o := .cells #[.int .i8 0, .slice none 0 0, .slice none 0 0] 31 (0, 0)) (zh BK174).out hg (Kd.R_ne HO_3.out BK174.out (by decide))), Aside0.mk ((by rw [hw]; exact below_set (HB.out) GB13.out : Below w.heap.size w w15))⟩; clear HO_3 BK174 HB; obtain ⟨HO_3, BK174, HB⟩ := n_; clear hg hw hp_))
  go_roundg k1
  case measure => have := HK1.out; omega
  case rel => exact ⟨(y182), (wrap64 (x4_1 + 1)), zi, H', ⟨by have := HK1.out; omega⟩, ze HO_3, zh BK174, zba⟩
 rw [if_neg c9] at H
 have c9b0 : decide (x4_1 < (((rd_T31 l0 0).f2).length : Int)) = false := decide_eq_false c9
 clear c9
 have H' := Aside0.mk H
 clear H
 have p179 : 0 ≤ (0 : Int) := (by omega)
 have q179 : 0 < (l0.length : Int) := of_decide_eq_true zA
 obtain ⟨ad179, A179_1, c179_1, A179_2, c179_2, e179, hx179_0, hx179_1, hx179_2, hl179_1, hi179_1, hl179_2, hi179_2⟩ := at_T31 HR0.out 0 p179 q179
 obtain rfl : adp0 = ad179 := (by injection e179)
 have qi179 : (0 < l0.length) = True := eq_true (by omega)
 try simp only [z00, Nat.zero_mul, Addr.add_zero'] at hx179_0 hx179_1 hx179_2
 replace hx179_0 := zc HB hx179_0
 replace hx179_1 := zc HB hx179_1
 replace hx179_2 := zc HB hx179_2
 have HR179_1 := Aside0.mk hi179_1
 have HC179_1 := Aside0.mk hl179_1
 clear hi179_1 hl179_1
 have HR179_2 := Aside0.mk hi179_2
 have HC179_2 := Aside0.mk hl179_2
 clear hi179_2 hl179_2
 replace p179 := eq_true p179
 replace q179 := eq_true q179
 have p183 : 0 ≤ (0 : Int) := (by omega)
 have q183 : 0 < (l0.length : Int) := of_decide_eq_true zA
 obtain ⟨ad183, A183_1, c183_1, A183_2, c183_2, e183, hx183_0, hx183_1, hx183_2, hl183_1, hi183_1, hl183_2, hi183_2⟩ := at_T31 HR0.out 0 p183 q183
 obtain rfl : adp0 = ad183 := (by injection e183)
 have qi183 : (0 < l0.length) = True := eq_true (by omega)
 try simp only [z00, Nat.zero_mul, Addr.add_zero'] at hx183_0 hx183_1 hx183_2
 replace hx183_0 := zc HB hx183_0
 replace hx183_1 := zc HB hx183_1
 replace hx183_2 := zc HB hx183_2
 have HR183_1 := Aside0.mk hi183_1
 have HC183_1 := Aside0.mk hl183_1
 clear hi183_1 hl183_1
 have HR183_2 := Aside0.mk hi183_2
 have HC183_2 := Aside0.mk hl183_2
 clear hi183_2 hl183_2
 replace p183 := eq_true p183
 replace q183 := eq_true q183
 have ea_ := Option.some.inj (hx179_1.symm.trans hx183_1)
 injection ea_ with ea_ en_ ec_
 subst ea_
 subst ec_
 clear en_
 have ea_ := Option.some.inj (hx179_2.symm.trans hx183_2)
 injection ea_ with ea_ en_ ec_
 subst ea_
 subst ec_
 clear en_
 go_wp2
 go_loopg [5] k1 (fun kq v5 w' => ∃ (x3_2 : List Bool) (x5_2 : Int), v5 = .int .i64 x5_2 ∧ Aside0 (spec_l04Trim.l1 kq l0 x3_2 x5_2 = some (r1, r2, r3)) ∧ Aside0 (kq ≤ k1) ∧ Aside0 (Kd.R Kd.bool 4 w' w.heap.size (fun _ => True) v177 x3_2) ∧ Aside0 (w'.heap[gb174]? = some (.cells #[.int .i8 0, (.slice none 0 0), (.slice none 0 0)] 31 (0, 0))) ∧ Aside0 (Below w.heap.size w w'))
 case atStart => exact ⟨(x3_1), (wrap64 ((((rd_T31 l0 0).f1).length : Int) - 1)), zi, H', ⟨Nat.le_refl _⟩, ze HO_3, zh BK174, zba⟩
 clear H'
 try clear c1
 try clear p1
 try clear q1
 try clear hx1
 try clear qi1
 try clear hf1
 try clear c2
 try clear c2b0
 try clear c2b1
 try clear p2
 try clear c3
 try clear c3b0
 try clear c3b1
 try clear c4
 try clear c4b0
 try clear c4b1
 try clear p6
 try clear c8
 try clear c8b0
 try clear c8b1
 try clear c9
 try clear c9b0
 try clear c10
 try clear c10b0
 try clear c11
 try clear c11b0
 try clear c12
 try clear c12b0
 try clear p13
 try clear q13
 try clear hx13
 try clear hf13
 try clear hx13_0
 try clear hx175_0
 try clear hx175_1
 try clear hx175_2
 try clear hx179_0
 try clear hx179_1
 try clear hx179_2
 try clear hx180_0
 try clear hx180_1
 try clear hx180_2
 try clear hx181_0
 try clear hx183_0
 try clear hx183_1
 try clear hx183_2
 try clear p1
 try clear p13
 try clear p175
 try clear p179
 try clear p180
 try clear p181
 try clear p183
 try clear p2
 try clear q1
 try clear q13
 try clear q175
 try clear q179
 try clear q180
 try clear q181
 try clear q183
 obtain ⟨x3_2, x5_2, rfl, HA, HK2, HO_3, BK174, HB⟩ := hrel
 cases gk with
 | zero => exact absurd HA.out (by simp [spec_l04Trim.l1])
 | succ k2 => ?_
 have H := HA.out
 clear HA
 simp only [spec_l04Trim.l1] at H
 by_cases c16 : x5_2 ≥ 0
 ·rw [if_pos c16] at H
  have c16b0 : decide (0 ≤ x5_2) = true := decide_eq_true c16
  clear c16
  by_cases c17 : 0 ≤ x5_2
  rotate_left
  ·rw [if_neg c17] at H
   exact absurd H (by simp)
  rw [if_pos c17] at H
  have c17b0 : decide (0 ≤ x5_2) = true := decide_eq_true c17
  clear c17
  by_cases c18 : x5_2 < (x3_2.length : Int)
  rotate_left
  ·rw [if_neg c18] at H
   exact absurd H (by simp)
  rw [if_pos c18] at H
  have c18b0 : decide (x5_2 < (x3_2.length : Int)) = true := decide_eq_true c18
  clear c18
  obtain ⟨bq19, hbq19⟩ : ∃ b_ : Bool, b_ = (rdOf false x3_2 x5_2) := ⟨_, rfl⟩
  replace H : (if bq19 = true then (if 0 < (l0.length : Int) then (if x5_2 < (((rd_T31 l0 0).f1).length : Int) then (if ((rd_T81 ((rd_T31 l0 0).f1) x5_2).f0) ≥ 2 then (if 0 ≤ ((rd_T81 ((rd_T31 l0 0).f1) x5_2).f1) then (if ((rd_T81 ((rd_T31 l0 0).f1) x5_2).f1) < (x3_2.length : Int) then (if 0 ≤ ((rd_T81 ((rd_T31 l0 0).f1) x5_2).f2) then (if ((rd_T81 ((rd_T31 l0 0).f1) x5_2).f2) < (x3_2.length : Int) then (spec_l04Trim.l1 k2 l0 ((x3_2.set (((rd_T81 ((rd_T31 l0 0).f1) x5_2).f1) : Int).toNat true).set (((rd_T81 ((rd_T31 l0 0).f1) x5_2).f2) : Int).toNat true) (wrap64 (x5_2 - 1))) else (none)) else (none)) else (none)) else (none)) else (spec_l04Trim.l1 k2 l0 x3_2 (wrap64 (x5_2 - 1)))) else (none)) else (none)) else (spec_l04Trim.l1 k2 l0 x3_2 (wrap64 (x5_2 - 1)))) = some (r1, r2, r3) := by rw [← hbq19] at H; exact H
  have Nbq19 := Aside0.mk hbq19
  clear hbq19
  by_cases c20 : bq19 = true
  rotate_left
  ·replace c20 := Bool.eq_false_iff.mpr c20
   subst c20
   have H1 : (spec_l04Trim.l1 k2 l0 x3_2 (wrap64 (x5_2 - 1))) = some (r1, r2, r3) := by rw [if_neg (show ¬ (false = true) by decide)] at H; exact H
   clear H
   have H := H1
   clear H1
   have H' := Aside0.mk H
   clear H
   obtain ⟨Ao36, co36, eo36⟩ := Kd.R_slice HO_3.out
   subst eo36
   have p184 : 0 ≤ (x5_2 : Int) := of_decide_eq_true zA
   have q184 : x5_2 < (x3_2.length : Int) := of_decide_eq_true zA
   obtain ⟨ad184, e184, hx184_0⟩ := Kd.at_bool (Kd.R_reads' HO_3.out).2.2 x5_2 p184 q184
   (try rw [← Nbq19.out] at hx184_0)
   cases e184
   replace p184 := eq_true p184
   replace q184 := eq_true q184
   go_wp2
   go_roundg k2
   case measure => have := HK1.out; have := HK2.out; omega
   case rel => exact ⟨(x3_2), (wrap64 (x5_2 - 1)), zi, H', ⟨by have := HK1.out; have := HK2.out; omega⟩, ze HO_3, zh BK174, zba⟩
  subst c20
  have H1 : (if 0 < (l0.length : Int) then (if x5_2 < (((rd_T31 l0 0).f1).length : Int) then (if ((rd_T81 ((rd_T31 l0 0).f1) x5_2).f0) ≥ 2 then (if 0 ≤ ((rd_T81 ((rd_T31 l0 0).f1) x5_2).f1) then (if ((rd_T81 ((rd_T31 l0 0).f1) x5_2).f1) < (x3_2.length : Int) then (if 0 ≤ ((rd_T81 ((rd_T31 l0 0).f1) x5_2).f2) then (if ((rd_T81 ((rd_T31 l0 0).f1) x5_2).f2) < (x3_2.length : Int) then (spec_l04Trim.l1 k2 l0 ((x3_2.set (((rd_T81 ((rd_T31 l0 0).f1) x5_2).f1) : Int).toNat true).set (((rd_T81 ((rd_T31 l0 0).f1) x5_2).f2) : Int).toNat true) (wrap64 (x5_2 - 1))) else (none)) else (none)) else (none)) else (none)) else (spec_l04Trim.l1 k2 l0 x3_2 (wrap64 (x5_2 - 1)))) else (none)) else (none)) = some (r1, r2, r3) := by rw [if_pos rfl] at H; exact H
  clear H
  have H := H1
  clear H1
  by_cases c21 : 0 < (l0.length : Int)
  rotate_left
  ·rw [if_neg c21] at H
   exact absurd H (by simp)
  rw [if_pos c21] at H
  have c21b0 : decide (0 < (l0.length : Int)) = true := decide_eq_true c21
  have c21b1 : decide (0 < l0.length) = true := decide_eq_true (by omega)
  clear c21
  by_cases c22 : x5_2 < (((rd_T31 l0 0).f1).length : Int)
  rotate_left
  ·rw [if_neg c22] at H
   exact absurd H (by simp)
  rw [if_pos c22] at H
  have c22b0 : decide (x5_2 < (((rd_T31 l0 0).f1).length : Int)) = true := decide_eq_true c22
  clear c22
  by_cases c23 : ((rd_T81 ((rd_T31 l0 0).f1) x5_2).f0) ≥ 2
  rotate_left
  ·rw [if_neg c23] at H
   have c23b0 : decide (2 ≤ ((rd_T81 ((rd_T31 l0 0).f1) x5_2).f0)) = false := decide_eq_false c23
   clear c23
   have H' := Aside0.mk H
   clear H
   obtain ⟨Ao35, co35, eo35⟩ := Kd.R_slice HO_3.out
   subst eo35
   have p184 : 0 ≤ (x5_2 : Int) := of_decide_eq_true zA
   have q184 : x5_2 < (x3_2.length : Int) := of_decide_eq_true zA
   obtain ⟨ad184, e184, hx184_0⟩ := Kd.at_bool (Kd.R_reads' HO_3.out).2.2 x5_2 p184 q184
   (try rw [← Nbq19.out] at hx184_0)
   cases e184
   replace p184 := eq_true p184
   replace q184 := eq_true q184
   have p185 : 0 ≤ (0 : Int) := (by omega)
   have q185 : 0 < (l0.length : Int) := of_decide_eq_true zA
   obtain ⟨ad185, A185_1, c185_1, A185_2, c185_2, e185, hx185_0, hx185_1, hx185_2, hl185_1, hi185_1, hl185_2, hi185_2⟩ := at_T31 HR0.out 0 p185 q185
   obtain rfl : adp0 = ad185 := (by injection e185)
   have qi185 : (0 < l0.length) = True := eq_true (by omega)
   try simp only [z00, Nat.zero_mul, Addr.add_zero'] at hx185_0 hx185_1 hx185_2
   replace hx185_0 := zc HB hx185_0
   replace hx185_1 := zc HB hx185_1
   replace hx185_2 := zc HB hx185_2
   have HR185_1 := Aside0.mk hi185_1
   have HC185_1 := Aside0.mk hl185_1
   clear hi185_1 hl185_1
   have HR185_2 := Aside0.mk hi185_2
   have HC185_2 := Aside0.mk hl185_2
   clear hi185_2 hl185_2
   replace p185 := eq_true p185
   replace q185 := eq_true q185
   have p186 : 0 ≤ (x5_2 : Int) := of_decide_eq_true zA
   have q186 : x5_2 < (((rd_T31 l0 0).f1).length : Int) := of_decide_eq_true zA
   obtain ⟨ad186, e186, hx186_0, hx186_1, hx186_2⟩ := at_T81 HR185_1.out x5_2 p186 q186
   cases e186
   replace hx186_0 := zc HB hx186_0
   replace hx186_1 := zc HB hx186_1
   replace hx186_2 := zc HB hx186_2
   replace p186 := eq_true p186
   replace q186 := eq_true q186
   go_wp2
   go_roundg k2
   case measure => have := HK1.out; have := HK2.out; omega
   case rel => exact ⟨(x3_2), (wrap64 (x5_2 - 1)), zi, H', ⟨by have := HK1.out; have := HK2.out; omega⟩, ze HO_3, zh BK174, zba⟩
  rw [if_pos c23] at H
  have c23b0 : decide (2 ≤ ((rd_T81 ((rd_T31 l0 0).f1) x5_2).f0)) = true := decide_eq_true c23
  clear c23
  by_cases c24 : 0 ≤ ((rd_T81 ((rd_T31 l0 0).f1) x5_2).f1)
  rotate_left
  ·rw [if_neg c24] at H
   exact absurd H (by simp)
  rw [if_pos c24] at H
  have c24b0 : decide (0 ≤ ((rd_T81 ((rd_T31 l0 0).f1) x5_2).f1)) = true := decide_eq_true c24
  clear c24
  by_cases c25 : ((rd_T81 ((rd_T31 l0 0).f1) x5_2).f1) < (x3_2.length : Int)
  rotate_left
  ·rw [if_neg c25] at H
   exact absurd H (by simp)
  rw [if_pos c25] at H
  have c25b0 : decide (((rd_T81 ((rd_T31 l0 0).f1) x5_2).f1) < (x3_2.length : Int)) = true := decide_eq_true c25
  clear c25
  obtain ⟨y189, hy189⟩ : ∃ y_ : List Bool, y_ = (x3_2.set (((rd_T81 ((rd_T31 l0 0).f1) x5_2).f1) : Int).toNat true) := ⟨_, rfl⟩
  replace H : (if 0 ≤ ((rd_T81 ((rd_T31 l0 0).f1) x5_2).f2) then (if ((rd_T81 ((rd_T31 l0 0).f1) x5_2).f2) < (x3_2.length : Int) then (spec_l04Trim.l1 k2 l0 (y189.set (((rd_T81 ((rd_T31 l0 0).f1) x5_2).f2) : Int).toNat true) (wrap64 (x5_2 - 1))) else (none)) else (none)) = some (r1, r2, r3) := by first | (rw [hy189]; with_reducible exact H) | (have H2_ := (Option.bind_some _ _).symm.trans H; rw [hy189]; with_reducible exact H2_) | (have H2_ := (Option.bind_some _ _).symm.trans H; with_reducible exact H2_) | with_reducible exact H | (rw [hy189]; exact H) | exact H
  have Ny189 := Aside0.mk hy189
  clear hy189
  by_cases c27 : 0 ≤ ((rd_T81 ((rd_T31 l0 0).f1) x5_2).f2)
  rotate_left
  ·rw [if_neg c27] at H
   exact absurd H (by simp)
  rw [if_pos c27] at H
  have c27b0 : decide (0 ≤ ((rd_T81 ((rd_T31 l0 0).f1) x5_2).f2)) = true := decide_eq_true c27
  clear c27
  by_cases c28 : ((rd_T81 ((rd_T31 l0 0).f1) x5_2).f2) < (x3_2.length : Int)
  rotate_left
  ·rw [if_neg c28] at H
   exact absurd H (by simp)
  rw [if_pos c28] at H
  have c28b0 : decide (((rd_T81 ((rd_T31 l0 0).f1) x5_2).f2) < (x3_2.length : Int)) = true := decide_eq_true c28
  clear c28
  obtain ⟨y192, hy192⟩ : ∃ y_ : List Bool, y_ = (y189.set (((rd_T81 ((rd_T31 l0 0).f1) x5_2).f2) : Int).toNat true) := ⟨_, rfl⟩
  replace H : (spec_l04Trim.l1 k2 l0 y192 (wrap64 (x5_2 - 1))) = some (r1, r2, r3) := by first | (rw [hy192]; with_reducible exact H) | (have H2_ := (Option.bind_some _ _).symm.trans H; rw [hy192]; with_reducible exact H2_) | (have H2_ := (Option.bind_some _ _).symm.trans H; with_reducible exact H2_) | with_reducible exact H | (rw [hy192]; exact H) | exact H
  have Ny192 := Aside0.mk hy192
  clear hy192
  have H' := Aside0.mk H
  clear H
  obtain ⟨Ao30, co30, eo30⟩ := Kd.R_slice HO_3.out
  subst eo30
  have p184 : 0 ≤ (x5_2 : Int) := of_decide_eq_true zA
  have q184 : x5_2 < (x3_2.length : Int) := of_decide_eq_true zA
  obtain ⟨ad184, e184, hx184_0⟩ := Kd.at_bool (Kd.R_reads' HO_3.out).2.2 x5_2 p184 q184
  (try rw [← Nbq19.out] at hx184_0)
  cases e184
  replace p184 := eq_true p184
  replace q184 := eq_true q184
  have p185 : 0 ≤ (0 : Int) := (by omega)
  have q185 : 0 < (l0.length : Int) := of_decide_eq_true zA
  obtain ⟨ad185, A185_1, c185_1, A185_2, c185_2, e185, hx185_0, hx185_1, hx185_2, hl185_1, hi185_1, hl185_2, hi185_2⟩ := at_T31 HR0.out 0 p185 q185
  obtain rfl : adp0 = ad185 := (by injection e185)
  have qi185 : (0 < l0.length) = True := eq_true (by omega)
  try simp only [z00, Nat.zero_mul, Addr.add_zero'] at hx185_0 hx185_1 hx185_2
  replace hx185_0 := zc HB hx185_0
  replace hx185_1 := zc HB hx185_1
  replace hx185_2 := zc HB hx185_2
  have HR185_1 := Aside0.mk hi185_1
  have HC185_1 := Aside0.mk hl185_1
  clear hi185_1 hl185_1
  have HR185_2 := Aside0.mk hi185_2
  have HC185_2 := Aside0.mk hl185_2
  clear hi185_2 hl185_2
  replace p185 := eq_true p185
  replace q185 := eq_true q185
  have p186 : 0 ≤ (x5_2 : Int) := of_decide_eq_true zA
  have q186 : x5_2 < (((rd_T31 l0 0).f1).length : Int) := of_decide_eq_true zA
  obtain ⟨ad186, e186, hx186_0, hx186_1, hx186_2⟩ := at_T81 HR185_1.out x5_2 p186 q186
  cases e186
  replace hx186_0 := zc HB hx186_0
  replace hx186_1 := zc HB hx186_1
  replace hx186_2 := zc HB hx186_2
  replace p186 := eq_true p186
  replace q186 := eq_true q186
  have p187 : 0 ≤ (0 : Int) := (by omega)
  have q187 : 0 < (l0.length : Int) := of_decide_eq_true zA
  obtain ⟨ad187, A187_1, c187_1, A187_2, c187_2, e187, hx187_0, hx187_1, hx187_2, hl187_1, hi187_1, hl187_2, hi187_2⟩ := at_T31 HR0.out 0 p187 q187
  obtain rfl : adp0 = ad187 := (by injection e187)
  have qi187 : (0 < l0.length) = True := eq_true (by omega)
  try simp only [z00, Nat.zero_mul, Addr.add_zero'] at hx187_0 hx187_1 hx187_2
  replace hx187_0 := zc HB hx187_0
  replace hx187_1 := zc HB hx187_1
  replace hx187_2 := zc HB hx187_2
  have HR187_1 := Aside0.mk hi187_1
  have HC187_1 := Aside0.mk hl187_1
  clear hi187_1 hl187_1
  have HR187_2 := Aside0.mk hi187_2
  have HC187_2 := Aside0.mk hl187_2
  clear hi187_2 hl187_2
  replace p187 := eq_true p187
  replace q187 := eq_true q187
  have ea_ := Option.some.inj (hx185_1.symm.trans hx187_1)
  injection ea_ with ea_ en_ ec_
  subst ea_
  subst ec_
  clear en_
  have ea_ := Option.some.inj (hx185_2.symm.trans hx187_2)
  injection ea_ with ea_ en_ ec_
  subst ea_
  subst ec_
  clear en_
  have p188 : 0 ≤ (x5_2 : Int) := of_decide_eq_true zA
  have q188 : x5_2 < (((rd_T31 l0 0).f1).length : Int) := of_decide_eq_true zA
  obtain ⟨ad188, e188, hx188_0, hx188_1, hx188_2⟩ := at_T81 HR187_1.out x5_2 p188 q188
  obtain rfl : ad186 = ad188 := (by injection e188)
  replace hx188_0 := zc HB hx188_0
  replace hx188_1 := zc HB hx188_1
  replace hx188_2 := zc HB hx188_2
  replace p188 := eq_true p188
  replace q188 := eq_true q188
  have p26 : 0 ≤ (((rd_T81 ((rd_T31 l0 0).f1) x5_2).f1) : Int) := of_decide_eq_true zA
  have q26 : (((rd_T81 ((rd_T31 l0 0).f1) x5_2).f1) : Int) < ((x3_2.length : Int) : Int) := of_decide_eq_true zA
  obtain ⟨go26, co26, eo26, gb26, gl26, cl26, HG26⟩ := Kd.R_form HO_3.out (by omega)
  (first | cases eo26 | (injection eo26 with ea_ en_ ec_; (first | subst ea_ | (injection ea_ with ea_; subst ea_)); subst ec_; clear en_))
  have GB26 := Aside0.mk gb26
  have GG26 := Aside0.mk HG26
  clear gb26 gl26 HG26
  (first | simp only [add_plain] at hx184_0 | skip)
  obtain ⟨hx26_0, hf26_0⟩ := Kd.R_celln false HO_3.out (((rd_T81 ((rd_T31 l0 0).f1) x5_2).f1) : Int) p26 q26
  replace p26 := eq_true p26
  replace q26 := eq_true q26
  have HP31 := Kd.R_putg HO_3.out (((rd_T81 ((rd_T31 l0 0).f1) x5_2).f1) : Int) true
  go_wp2_with (first | ((with_reducible refine gate_store (t := 4) (p := 69) rfl ?_); refine store_event (t := 4) (p := 69) (v := ?vo_w32) (w1 := (wr.setCell ⟨go26, (((rd_T81 ((rd_T31 l0 0).f1) x5_2).f1) : Int).toNat, none⟩ (.bool true))) ?hg ?ho ?hn ?hr ?_; (case ho => rfl); (case hg => rfl); (case hn => rfl); (case hr => exact zgs); intro w32 hw; have hg : wr.grownBy w32 (some go26) := (by rw [hw]; exact HP31.2); have hp_ : Kd.R Kd.bool 4 w32 w.heap.size (fun _ => True) (.slice (some ⟨go26, 0, none⟩) x3_2.length co30) y189 := (by rw [hw, Ny189.out]; exact HP31.1); clear HP31; have n_ : _ ∧ _ ∧ _ := ⟨Aside0.mk (hp_), Aside0.mk (blk_grown (g := gb174) (o := .cells #[.int .i8 0, .slice none 0 0, .slice none 0 0] 31 (0, 0)) (zh BK174).out hg (Kd.R_ne HO_3.out BK174.out (by decide))), Aside0.mk ((by rw [hw]; exact below_set (HB.out) GB26.out : Below w.heap.size w w32))⟩; clear HO_3 BK174 HB; obtain ⟨HO_3, BK174, HB⟩ := n_; clear hg hw hp_; have p190 : 0 ≤ (0 : Int) := (by omega); have q190 : 0 < (l0.length : Int) := of_decide_eq_true zA; obtain ⟨ad190, A190_1, c190_1, A190_2, c190_2, e190, hx190_0, hx190_1, hx190_2, hl190_1, hi190_1, hl190_2, hi190_2⟩ := at_T31 HR0.out 0 p190 q190; obtain rfl : adp0 = ad190 := (by injection e190); have qi190 : (0 < l0.length) = True := eq_true (by omega); (try simp only [z00, Nat.zero_mul, Addr.add_zero'] at hx190_0 hx190_1 hx190_2); replace hx190_0 := zc HB hx190_0; replace hx190_1 := zc HB hx190_1; replace hx190_2 := zc HB hx190_2; have HR190_1 := Aside0.mk hi190_1; have HC190_1 := Aside0.mk hl190_1; clear hi190_1 hl190_1; have HR190_2 := Aside0.mk hi190_2; have HC190_2 := Aside0.mk hl190_2; clear hi190_2 hl190_2; replace p190 := eq_true p190; replace q190 := eq_true q190; have p191 : 0 ≤ (x5_2 : Int) := of_decide_eq_true zA; have q191 : x5_2 < (((rd_T31 l0 0).f1).length : Int) := of_decide_eq_true zA; obtain ⟨ad191, e191, hx191_0, hx191_1, hx191_2⟩ := at_T81 HR190_1.out x5_2 p191 q191; cases e191; replace hx191_0 := zc HB hx191_0; replace hx191_1 := zc HB hx191_1; replace hx191_2 := zc HB hx191_2; replace p191 := eq_true p191; replace q191 := eq_true q191; have p29 : 0 ≤ (((rd_T81 ((rd_T31 l0 0).f1) x5_2).f2) : Int) := of_decide_eq_true zA; have q29 : (((rd_T81 ((rd_T31 l0 0).f1) x5_2).f2) : Int) < ((x3_2.length : Int) : Int) := of_decide_eq_true zA; obtain ⟨hx29_0, hf29_0⟩ := Kd.R_celln false HO_3.out (((rd_T81 ((rd_T31 l0 0).f1) x5_2).f2) : Int) p29 q29; replace p29 := eq_true p29; replace q29 := eq_true q29; obtain ⟨hy33_, hz33_⟩ := Kd.R_celln false HO_3.out (((rd_T81 ((rd_T31 l0 0).f1) x5_2).f2) : Int) (of_decide_eq_true zA) (of_decide_eq_true zA); have HP33 := Kd.R_putg HO_3.out (((rd_T81 ((rd_T31 l0 0).f1) x5_2).f2) : Int) true) | ((with_reducible refine gate_store (t := 4) (p := 79) rfl ?_); refine store_event (t := 4) (p := 79) (v := ?vo_w34) (w1 := (w32.setCell ⟨go26, (((rd_T81 ((rd_T31 l0 0).f1) x5_2).f2) : Int).toNat, none⟩ (.bool true))) ?hg ?ho ?hn ?hr ?_; (case ho => rfl); (case hg => rfl); (case hn => rfl); (case hr => exact zgs); intro w34 hw; have hg : w32.grownBy w34 (some go26) := (by rw [hw]; exact HP33.2); have hp_ : Kd.R Kd.bool 4 w34 w.heap.size (fun _ => True) (.slice (some ⟨go26, 0, none⟩) x3_2.length co30) y192 := (by rw [hw, Ny192.out]; exact HP33.1); clear HP33; have n_ : _ ∧ _ ∧ _ := ⟨Aside0.mk (hp_), Aside0.mk (blk_grown (g := gb174) (o := .cells #[.int .i8 0, .slice none 0 0, .slice none 0 0] 31 (0, 0)) (zh BK174).out hg (Kd.R_ne HO_3.out BK174.out (by decide))), Aside0.mk ((by rw [hw]; exact below_set (HB.out) GB26.out : Below w.heap.size w w34))⟩; clear HO_3 BK174 HB; obtain ⟨HO_3, BK174, HB⟩ := n_; clear hg hw hp_))
  go_roundg k2
  case measure => have := HK1.out; have := HK2.out; omega
  case rel => exact ⟨(y192), (wrap64 (x5_2 - 1)), zi, H', ⟨by have := HK1.out; have := HK2.out; omega⟩, ze HO_3, zh BK174, zba⟩
 rw [if_neg c16] at H
 have c16b0 : decide (0 ≤ x5_2) = false := decide_eq_false c16
 clear c16
 by_cases c37 : 0 < (l0.length : Int)
 rotate_left
 ·rw [if_neg c37] at H
  exact absurd H (by simp)
 rw [if_pos c37] at H
 have c37b0 : decide (0 < (l0.length : Int)) = true := decide_eq_true c37
 have c37b1 : decide (0 < l0.length) = true := decide_eq_true (by omega)
 clear c37
 by_cases c38 : 0 ≤ (((rd_T31 l0 0).f1).length : Int)
 rotate_left
 ·rw [if_neg c38] at H
  exact absurd H (by simp)
 rw [if_pos c38] at H
 have c38b0 := eq_true c38
 have c38b1 : decide (0 ≤ (((rd_T31 l0 0).f1).length : Int)) = true := decide_eq_true c38
 clear c38
 by_cases c39 : ((((rd_T31 l0 0).f1).length : Int) : Int).toNat ≤ 140737488355328
 rotate_left
 ·rw [if_neg c39] at H
  exact absurd H (by simp)
 rw [if_pos c39] at H
 have c39b0 := eq_true c39
 have c39b1 : decide (((((rd_T31 l0 0).f1).length : Int) : Int).toNat ≤ 140737488355328) = true := decide_eq_true c39
 clear c39
 obtain ⟨y194, hy194⟩ : ∃ y_ : List Int, y_ = (List.replicate ((((rd_T31 l0 0).f1).length : Int) : Int).toNat 0) := ⟨_, rfl⟩
 replace H : (spec_l04Trim.l2 k2 l0 x3_2 y194 0 ((rd_T31 l0 0).f0) ([] : List (S81))) = some (r1, r2, r3) := by first | (rw [hy194]; with_reducible exact H) | (have H2_ := (Option.bind_some _ _).symm.trans H; rw [hy194]; with_reducible exact H2_) | (have H2_ := (Option.bind_some _ _).symm.trans H; with_reducible exact H2_) | with_reducible exact H | (rw [hy194]; exact H) | exact H
 have Ny194 := Aside0.mk hy194
 clear hy194
 have H' := Aside0.mk H
 clear H
 have p193 : 0 ≤ (0 : Int) := (by omega)
 have q193 : 0 < (l0.length : Int) := of_decide_eq_true zA
 obtain ⟨ad193, A193_1, c193_1, A193_2, c193_2, e193, hx193_0, hx193_1, hx193_2, hl193_1, hi193_1, hl193_2, hi193_2⟩ := at_T31 HR0.out 0 p193 q193
 obtain rfl : adp0 = ad193 := (by injection e193)
 have qi193 : (0 < l0.length) = True := eq_true (by omega)
 try simp only [z00, Nat.zero_mul, Addr.add_zero'] at hx193_0 hx193_1 hx193_2
 replace hx193_0 := zc HB hx193_0
 replace hx193_1 := zc HB hx193_1
 replace hx193_2 := zc HB hx193_2
 have HR193_1 := Aside0.mk hi193_1
 have HC193_1 := Aside0.mk hl193_1
 clear hi193_1 hl193_1
 have HR193_2 := Aside0.mk hi193_2
 have HC193_2 := Aside0.mk hl193_2
 clear hi193_2 hl193_2
 replace p193 := eq_true p193
 replace q193 := eq_true q193
 go_wp2_with (first | ((with_reducible refine gate_dst (N := 85) rfl ?_); refine Kd.R_make (Kd.int .i16) _ 79 rfl (N := 85) rfl 24 _ _ rfl (((rd_T31 l0 0).f1).length : Int) rfl rfl Try.underlying24 (.int .i16 0) 2 info79 rfl (by decide) (by omega) 0 (ok := fun _ => True) (okp := fun _ => True) rfl (fun _ hk => hk) trivial (of_decide_eq_true zA) (Nat.le_trans (Nat.mul_le_mul_right _ (of_decide_eq_true zA : (((rd_T31 l0 0).f1).length : Int).toNat ≤ 140737488355328)) (by omega)) (Below.refl _ _) (Nat.le_refl _) ?_; intro v195 w40 ho41 hb hg_ hnew_; clear hg_ hnew_; (first | rw [← Ny194.out] at ho41 | (simp only [Int.reduceToNat] at ho41; rw [← Ny194.out] at ho41)); have n_ : _ ∧ _ ∧ _ ∧ _ := ⟨zr HO_3 hb, Aside0.mk (Kd.R_lower ho41 (zz HB)), zk BK174 hb, zbs hb⟩; clear HO_3 BK174 HB; obtain ⟨HO_3, HO196, BK174, HB⟩ := n_; clear hb ho41; have p197 : 0 ≤ (0 : Int) := (by omega); have q197 : 0 < (l0.length : Int) := of_decide_eq_true zA; obtain ⟨ad197, A197_1, c197_1, A197_2, c197_2, e197, hx197_0, hx197_1, hx197_2, hl197_1, hi197_1, hl197_2, hi197_2⟩ := at_T31 HR0.out 0 p197 q197; obtain rfl : adp0 = ad197 := (by injection e197); have qi197 : (0 < l0.length) = True := eq_true (by omega); (try simp only [z00, Nat.zero_mul, Addr.add_zero'] at hx197_0 hx197_1 hx197_2); replace hx197_0 := zc HB hx197_0; replace hx197_1 := zc HB hx197_1; replace hx197_2 := zc HB hx197_2; have HR197_1 := Aside0.mk hi197_1; have HC197_1 := Aside0.mk hl197_1; clear hi197_1 hl197_1; have HR197_2 := Aside0.mk hi197_2; have HC197_2 := Aside0.mk hl197_2; clear hi197_2 hl197_2; replace p197 := eq_true p197; replace q197 := eq_true q197) | ((with_reducible refine gate_dst (N := 7) rfl ?_); refine zbx 7 #[.int .i8 0, .slice none 0 0, .slice none 0 0] 31 ?_; intro gb198 hg w42 hbox hb; have n_ : _ ∧ _ ∧ _ ∧ _ ∧ _ ∧ _ ∧ _ ∧ _ ∧ _ := ⟨zr HO_3 hb, zr HO196 hb, zk BK174 hb, zbs hb, Aside0.mk (hbox), zg HB hg, zg HB hg, zn1 BK174 hg, zn2 BK174 hg⟩; clear HO_3 HO196 BK174 HB; obtain ⟨HO_3, HO196, BK174, HB, BK198, GW198, GE198, NB174_198, NB198_174⟩ := n_; clear hb hbox hg; have hnb43 := NB198_174.out; have hnc43 := NB174_198.out; obtain ⟨z44_0, z44_1, z44_2, y44_0, y44_1, y44_2⟩ := zB3 BK198))
 go_loopg [8] k2 (fun kq v8 w' => ∃ (x6_3 : List Int) (x8_3 : Int) (x199001_3 : List (S81)) (u199001 : Value), v8 = .int .i64 x8_3 ∧ Aside0 (spec_l04Trim.l2 kq l0 x3_2 x6_3 x8_3 ((rd_T31 l0 0).f0) x199001_3 = some (r1, r2, r3)) ∧ Aside0 (kq ≤ k2) ∧ Aside0 (Kd.R Kd.bool 4 w' w.heap.size (fun _ => True) v177 x3_2) ∧ Aside0 (Kd.R (Kd.int .i16) 79 w' w.heap.size (fun _ => True) v195 x6_3) ∧ Aside0 (Kd.R k81 81 w' w.heap.size (fun _ => True) u199001 x199001_3) ∧ Aside0 (w'.heap[gb174]? = some (.cells #[.int .i8 0, (.slice none 0 0), (.slice none 0 0)] 31 (0, 0))) ∧ Aside0 (w'.heap[gb198]? = some (.cells #[.int .i8 ((rd_T31 l0 0).f0), u199001, (.slice none 0 0)] 31 (0, 0))) ∧ Aside0 (Below w.heap.size w w'))
 case atStart => exact ⟨(y194), (0), (([] : List (S81))), (.slice none 0 0), zi, H', ⟨Nat.le_refl _⟩, ⟨Kd.R_mono (zs HO_3 BK198).out (fun _ hk => trivial)⟩, ⟨Kd.R_mono (zs HO196 BK198).out (fun _ hk => trivial)⟩, ⟨by first | exact Kd.R_nil _ _ _ _ _ | exact Kd.N_nil _ _ _ _ _ | exact Kd.V_nil _ _ _ _ _ | exact Kd.Q_nil _ _ _ _ _ | exact Kd.S_nil _ _ _ _ _⟩, zf BK174 NB174_198, ⟨zp BK198⟩, zba⟩
 clear H'
 try clear c1
 try clear p1
 try clear q1
 try clear hx1
 try clear qi1
 try clear hf1
 try clear c2
 try clear c2b0
 try clear c2b1
 try clear p2
 try clear q2
 try clear hx2
 try clear hf2
 try clear c3
 try clear c3b0
 try clear c3b1
 try clear c4
 try clear c4b0
 try clear c4b1
 try clear p6
 try clear c8
 try clear c8b0
 try clear c8b1
 try clear c9
 try clear c9b0
 try clear c10
 try clear c10b0
 try clear c11
 try clear c11b0
 try clear c12
 try clear c12b0
 try clear p13
 try clear q13
 try clear hx13
 try clear hf13
 try clear c16
 try clear c16b0
 try clear c17
 try clear c17b0
 try clear p17
 try clear q17
 try clear hx17
 try clear qi17
 try clear c18
 try clear c18b0
 try clear p18
 try clear q18
 try clear hx18
 try clear qi18
 try clear c19
 try clear p19
 try clear q19
 try clear hx19
 try clear qi19
 try clear c20
 try clear c21
 try clear c21b0
 try clear c21b1
 try clear c22
 try clear c22b0
 try clear c23
 try clear c23b0
 try clear c24
 try clear c24b0
 try clear c25
 try clear c25b0
 try clear p26
 try clear q26
 try clear hx26
 try clear hf26
 try clear c27
 try clear c27b0
 try clear c28
 try clear c28b0
 try clear p29
 try clear q29
 try clear hx29
 try clear hf29
 try clear c37
 try clear c37b0
 try clear c37b1
 try clear c38
 try clear c38b0
 try clear c38b1
 try clear c39
 try clear c39b0
 try clear c39b1
 try clear c43
 try clear z44_0 z44_1 z44_2 y44_0 y44_1 y44_2
 try clear hx13_0
 try clear hx175_0
 try clear hx175_1
 try clear hx175_2
 try clear hx179_0
 try clear hx179_1
 try clear hx179_2
 try clear hx180_0
 try clear hx180_1
 try clear hx180_2
 try clear hx181_0
 try clear hx183_0
 try clear hx183_1
 try clear hx183_2
 try clear hx184_0
 try clear hx185_0
 try clear hx185_1
 try clear hx185_2
 try clear hx186_0
 try clear hx186_1
 try clear hx186_2
 try clear hx187_0
 try clear hx187_1
 try clear hx187_2
 try clear hx188_0
 try clear hx188_1
 try clear hx188_2
 try clear hx190_0
 try clear hx190_1
 try clear hx190_2
 try clear hx191_0
 try clear hx191_1
 try clear hx191_2
 try clear hx193_0
 try clear hx193_1
 try clear hx193_2
 try clear hx197_0
 try clear hx197_1
 try clear hx197_2
 try clear hx26_0
 try clear hx29_0
 try clear p1
 try clear p13
 try clear p175
 try clear p179
 try clear p180
 try clear p181
 try clear p183
 try clear p184
 try clear p185
 try clear p186
 try clear p187
 try clear p188
 try clear p190
 try clear p191
 try clear p193
 try clear p197
 try clear p2
 try clear p26
 try clear p29
 try clear p6
 try clear q1
 try clear q13
 try clear q175
 try clear q179
 try clear q180
 try clear q181
 try clear q183
 try clear q184
 try clear q185
 try clear q186
 try clear q187
 try clear q188
 try clear q190
 try clear q191
 try clear q193
 try clear q197
 try clear q26
 try clear q29
 obtain ⟨x6_3, x8_3, x199001_3, u199001, rfl, HA, HK3, HO_3, HO_6, HO_199001, BK174, BK198, HB⟩ := hrel
 cases gk with
 | zero => exact absurd HA.out (by simp [spec_l04Trim.l2])
 | succ k3 => ?_
 have H := HA.out
 clear HA
 simp only [spec_l04Trim.l2] at H
 by_cases c45 : 0 < (l0.length : Int)
 rotate_left
 ·rw [if_neg c45] at H
  exact absurd H (by simp)
 rw [if_pos c45] at H
 have c45b0 : decide (0 < (l0.length : Int)) = true := decide_eq_true c45
 have c45b1 : decide (0 < l0.length) = true := decide_eq_true (by omega)
 clear c45
 by_cases c46 : x8_3 < (((rd_T31 l0 0).f1).length : Int)
 rotate_left
 ·rw [if_neg c46] at H
  have c46b0 : decide (x8_3 < (((rd_T31 l0 0).f1).length : Int)) = false := decide_eq_false c46
  clear c46
  have H' := Aside0.mk H
  clear H
  have p199 : 0 ≤ (0 : Int) := (by omega)
  have q199 : 0 < (l0.length : Int) := of_decide_eq_true zA
  obtain ⟨ad199, A199_1, c199_1, A199_2, c199_2, e199, hx199_0, hx199_1, hx199_2, hl199_1, hi199_1, hl199_2, hi199_2⟩ := at_T31 HR0.out 0 p199 q199
  obtain rfl : adp0 = ad199 := (by injection e199)
  have qi199 : (0 < l0.length) = True := eq_true (by omega)
  try simp only [z00, Nat.zero_mul, Addr.add_zero'] at hx199_0 hx199_1 hx199_2
  replace hx199_0 := zc HB hx199_0
  replace hx199_1 := zc HB hx199_1
  replace hx199_2 := zc HB hx199_2
  have HR199_1 := Aside0.mk hi199_1
  have HC199_1 := Aside0.mk hl199_1
  clear hi199_1 hl199_1
  have HR199_2 := Aside0.mk hi199_2
  have HC199_2 := Aside0.mk hl199_2
  clear hi199_2 hl199_2
  replace p199 := eq_true p199
  replace q199 := eq_true q199
  go_wp2
  go_loopg [10] k3 (fun kq v10 w' => ∃ (x10_4 : Int) (x199002_4 : List Int) (u199002 : Value), v10 = .int .i64 x10_4 ∧ Aside0 (spec_l04Trim.l3 kq l0 x6_3 x10_4 ((rd_T31 l0 0).f0) x199001_3 x199002_4 = some (r1, r2, r3)) ∧ Aside0 (kq ≤ k3) ∧ Aside0 (Kd.R (Kd.int .i16) 79 w' w.heap.size (fun k_ => some k_ ≠ (u199002 : Value).ownBlock) v195 x6_3) ∧ Aside0 (Kd.R k81 81 w' w.heap.size (fun _ => True) u199001 x199001_3) ∧ Aside0 (Kd.R (Kd.int .i16) 79 w' w.heap.size (fun k_ => some k_ ≠ (v195 : Value).ownBlock) u199002 x199002_4) ∧ Aside0 (w'.heap[gb174]? = some (.cells #[.int .i8 0, (.slice none 0 0), (.slice none 0 0)] 31 (0, 0))) ∧ Aside0 (w'.heap[gb198]? = some (.cells #[.int .i8 ((rd_T31 l0 0).f0), u199001, u199002] 31 (0, 0))) ∧ Aside0 (Below w.heap.size w w'))
  case atStart => exact ⟨(0), (([] : List Int)), (.slice none 0 0), zi, H', ⟨Nat.le_refl _⟩, ⟨by (with_reducible repeat (first | apply Kd.R_alloc | apply Kd.R_drewN | apply Kd.R_drew)); exact Kd.R_mono HO_6.out (fun _ hk => (by simp [Value.ownBlock]))⟩, ze HO_199001, ⟨by first | exact Kd.R_nil _ _ _ _ _ | exact Kd.N_nil _ _ _ _ _ | exact Kd.V_nil _ _ _ _ _ | exact Kd.Q_nil _ _ _ _ _ | exact Kd.S_nil _ _ _ _ _⟩, zh BK174, zh BK198, zba⟩
  clear H'
  try clear c1
  try clear p1
  try clear q1
  try clear hx1
  try clear qi1
  try clear hf1
  try clear c2
  try clear c2b0
  try clear c2b1
  try clear p2
  try clear q2
  try clear hx2
  try clear qi2
  try clear hf2
  try clear c3
  try clear c3b0
  try clear c3b1
  try clear c4
  try clear c4b0
  try clear c4b1
  try clear q4
  try clear c5
  try clear p5
  try clear q5
  try clear hx5
  try clear hf5
  try clear c6
  try clear p6
  try clear c7
  try clear c8
  try clear c8b0
  try clear c8b1
  try clear p8
  try clear q8
  try clear hx8
  try clear hf8
  try clear c9
  try clear c9b0
  try clear c10
  try clear c10b0
  try clear c11
  try clear c11b0
  try clear c12
  try clear c12b0
  try clear p13
  try clear q13
  try clear hx13
  try clear hf13
  try clear c16
  try clear c16b0
  try clear c17
  try clear c17b0
  try clear p17
  try clear q17
  try clear hx17
  try clear qi17
  try clear c18
  try clear c18b0
  try clear p18
  try clear q18
  try clear hx18
  try clear qi18
  try clear c19
  try clear p19
  try clear q19
  try clear hx19
  try clear qi19
  try clear c20
  try clear p20
  try clear q20
  try clear hx20
  try clear qi20
  try clear c21
  try clear c21b0
  try clear c21b1
  try clear c22
  try clear c22b0
  try clear c23
  try clear c23b0
  try clear c24
  try clear c24b0
  try clear c25
  try clear c25b0
  try clear p26
  try clear q26
  try clear hx26
  try clear hf26
  try clear c27
  try clear c27b0
  try clear c28
  try clear c28b0
  try clear p29
  try clear q29
  try clear hx29
  try clear hf29
  try clear c37
  try clear c37b0
  try clear c37b1
  try clear c38
  try clear c38b0
  try clear c38b1
  try clear c39
  try clear c39b0
  try clear c39b1
  try clear c43
  try clear c45
  try clear c45b0
  try clear c45b1
  try clear c46
  try clear c46b0
  try clear c47
  try clear c47b0
  try clear c48
  try clear c48b0
  try clear q49
  try clear c50
  try clear c51
  try clear c51b0
  try clear c52
  try clear c52b0
  try clear c53
  try clear c53b0
  try clear c54
  try clear c54b0
  try clear c55
  try clear c55b0
  try clear c56
  try clear c56b0
  try clear p57
  try clear q57
  try clear hx57
  try clear hf57
  try clear c58
  try clear c61
  try clear c62
  try clear p64
  try clear c70
  try clear c80
  try clear c80b0
  try clear p81
  try clear q81
  try clear hx81
  try clear hf81
  try clear c82
  try clear c85
  try clear c86
  try clear c90
  try clear z44_0 z44_1 z44_2
  try clear z63_0 z63_1 z63_2
  try clear z65_0 z65_1 z65_2
  try clear z68_0 z68_1 z68_2
  try clear z71_0 z71_1 z71_2
  try clear z75_0 z75_1 z75_2
  try clear z76_0 z76_1 z76_2
  try clear z79_0 z79_1 z79_2
  try clear z87_0 z87_1 z87_2
  try clear z89_0 z89_1 z89_2
  try clear z91_0 z91_1 z91_2
  try clear z95_0 z95_1 z95_2
  try clear z96_0 z96_1 z96_2
  try clear z99_0 z99_1 z99_2
  try clear y44_0
  try clear y44_1
  try clear y44_2
  try clear y63_0
  try clear y63_1
  try clear y63_2
  try clear y65_0
  try clear y65_1
  try clear y65_2
  try clear y68_0
  try clear y68_1
  try clear y68_2
  try clear y71_0
  try clear y71_1
  try clear y71_2
  try clear y75_0
  try clear y75_1
  try clear y75_2
  try clear y76_0
  try clear y76_1
  try clear y76_2
  try clear y79_0
  try clear y79_1
  try clear y79_2
  try clear y87_0
  try clear y87_1
  try clear y87_2
  try clear y89_0
  try clear y89_1
  try clear y89_2
  try clear y91_0
  try clear y91_1
  try clear y91_2
  try clear y95_0
  try clear y95_1
  try clear y95_2
  try clear y96_0
  try clear y96_1
  try clear y96_2
  try clear y99_0
  try clear y99_1
  try clear y99_2
  try clear hx13_0
  try clear hx175_0
  try clear hx175_1
  try clear hx175_2
  try clear hx179_0
  try clear hx179_1
  try clear hx179_2
  try clear hx180_0
  try clear hx180_1
  try clear hx180_2
  try clear hx181_0
  try clear hx183_0
  try clear hx183_1
  try clear hx183_2
  try clear hx184_0
  try clear hx185_0
  try clear hx185_1
  try clear hx185_2
  try clear hx186_0
  try clear hx186_1
  try clear hx186_2
  try clear hx187_0
  try clear hx187_1
  try clear hx187_2
  try clear hx188_0
  try clear hx188_1
  try clear hx188_2
  try clear hx190_0
  try clear hx190_1
  try clear hx190_2
  try clear hx191_0
  try clear hx191_1
  try clear hx191_2
  try clear hx193_0
  try clear hx193_1
  try clear hx193_2
  try clear hx197_0
  try clear hx197_1
  try clear hx197_2
  try clear hx199_0
  try clear hx199_1
  try clear hx199_2
  try clear hx200_0
  try clear hx201_0
  try clear hx201_1
  try clear hx201_2
  try clear hx202_0
  try clear hx202_1
  try clear hx202_2
  try clear hx204_0
  try clear hx205_0
  try clear hx26_0
  try clear hx29_0
  try clear hx57_0
  try clear hx81_0
  try clear p1
  try clear p13
  try clear p17
  try clear p175
  try clear p179
  try clear p18
  try clear p180
  try clear p181
  try clear p183
  try clear p184
  try clear p185
  try clear p186
  try clear p187
  try clear p188
  try clear p19
  try clear p190
  try clear p191
  try clear p193
  try clear p197
  try clear p199
  try clear p2
  try clear p200
  try clear p201
  try clear p202
  try clear p204
  try clear p205
  try clear p26
  try clear p29
  try clear p57
  try clear p6
  try clear p81
  try clear q1
  try clear q13
  try clear q17
  try clear q175
  try clear q179
  try clear q18
  try clear q180
  try clear q181
  try clear q183
  try clear q184
  try clear q185
  try clear q186
  try clear q187
  try clear q188
  try clear q19
  try clear q190
  try clear q191
  try clear q193
  try clear q197
  try clear q199
  try clear q2
  try clear q200
  try clear q201
  try clear q202
  try clear q204
  try clear q205
  try clear q26
  try clear q29
  try clear q57
  try clear q81
  obtain ⟨x10_4, x199002_4, u199002, rfl, HA, HK4, HO_6, HO_199001, HO_199002, BK174, BK198, HB⟩ := hrel
  cases gk with
  | zero => exact absurd HA.out (by simp [spec_l04Trim.l3])
  | succ k4 => ?_
  have H := HA.out
  clear HA
  simp only [spec_l04Trim.l3] at H
  by_cases c101 : 0 < (l0.length : Int)
  rotate_left
  ·rw [if_neg c101] at H
   exact absurd H (by simp)
  rw [if_pos c101] at H
  have c101b0 : decide (0 < (l0.length : Int)) = true := decide_eq_true c101
  have c101b1 : decide (0 < l0.length) = true := decide_eq_true (by omega)
  clear c101
  by_cases c102 : x10_4 < (((rd_T31 l0 0).f2).length : Int)
  rotate_left
  ·rw [if_neg c102] at H
   have c102b0 : decide (x10_4 < (((rd_T31 l0 0).f2).length : Int)) = false := decide_eq_false c102
   clear c102
   simp only [Option.some.injEq, Prod.mk.injEq] at H
   obtain ⟨rfl, rfl, rfl⟩ := H
   have p214 : 0 ≤ (0 : Int) := (by omega)
   have q214 : 0 < (l0.length : Int) := of_decide_eq_true zA
   obtain ⟨ad214, A214_1, c214_1, A214_2, c214_2, e214, hx214_0, hx214_1, hx214_2, hl214_1, hi214_1, hl214_2, hi214_2⟩ := at_T31 HR0.out 0 p214 q214
   obtain rfl : adp0 = ad214 := (by injection e214)
   have qi214 : (0 < l0.length) = True := eq_true (by omega)
   try simp only [z00, Nat.zero_mul, Addr.add_zero'] at hx214_0 hx214_1 hx214_2
   replace hx214_0 := zc HB hx214_0
   replace hx214_1 := zc HB hx214_1
   replace hx214_2 := zc HB hx214_2
   have HR214_1 := Aside0.mk hi214_1
   have HC214_1 := Aside0.mk hl214_1
   clear hi214_1 hl214_1
   have HR214_2 := Aside0.mk hi214_2
   have HC214_2 := Aside0.mk hl214_2
   clear hi214_2 hl214_2
   replace p214 := eq_true p214
   replace q214 := eq_true q214
   have hnb112 := NB198_174.out
   have hnc112 := NB174_198.out
   obtain ⟨z113_0, z113_1, z113_2, y113_0, y113_1, y113_2⟩ := zB3 BK198
   obtain ⟨z114_0, z114_1, z114_2, y114_0, y114_1, y114_2⟩ := zB3 BK174
   obtain ⟨Ao115, co115, eo115⟩ := Kd.R_slice HO_199001.out
   subst eo115
   obtain ⟨Ao116, co116, eo116⟩ := Kd.R_slice HO_199002.out
   subst eo116
   go_wp2
   refine bodyPost_ret (results_cell_row rfl _ _ gb174 31 #[.int .i8 ((rd_T31 l0 0).f0), .slice Ao115 x199001_3.length co115, .slice Ao116 x199002_4.length co116] (0, 0) _ rfl (zp BK174) Try.underlying31 rfl (by kernel_rfl)) rfl ?_
   exact ⟨_, _, zv, Kd.R_mono (zs HO_199001 BK174).out (fun _ hk => trivial), Kd.R_mono (zs HO_199002 BK174).out (fun _ hk => trivial), zbo⟩
  rw [if_pos c102] at H
  have c102b0 : decide (x10_4 < (((rd_T31 l0 0).f2).length : Int)) = true := decide_eq_true c102
  clear c102
  by_cases c103 : 0 ≤ x10_4
  rotate_left
  ·rw [if_neg c103] at H
   exact absurd H (by simp)
  rw [if_pos c103] at H
  have c103b0 : decide (0 ≤ x10_4) = true := decide_eq_true c103
  clear c103
  by_cases c104 : 0 ≤ (rd ((rd_T31 l0 0).f2) x10_4)
  rotate_left
  ·rw [if_neg c104] at H
   exact absurd H (by simp)
  rw [if_pos c104] at H
  have c104b0 : decide (0 ≤ (rd ((rd_T31 l0 0).f2) x10_4)) = true := decide_eq_true c104
  clear c104
  by_cases c105 : (rd ((rd_T31 l0 0).f2) x10_4) < (x6_3.length : Int)
  rotate_left
  ·rw [if_neg c105] at H
   exact absurd H (by simp)
  rw [if_pos c105] at H
  have c105b0 : decide ((rd ((rd_T31 l0 0).f2) x10_4) < (x6_3.length : Int)) = true := decide_eq_true c105
  clear c105
  by_cases c106 : x199002_4.length < 70368744177664
  rotate_left
  ·rw [if_neg c106] at H
   exact absurd H (by simp)
  rw [if_pos c106] at H
  have LMc106 := Aside0.mk c106
  clear c106
  obtain ⟨y218, hy218⟩ : ∃ y_ : List Int, y_ = (x199002_4 ++ [rd x6_3 (rd ((rd_T31 l0 0).f2) x10_4)]) := ⟨_, rfl⟩
  replace H : (spec_l04Trim.l3 k4 l0 x6_3 (wrap64 (x10_4 + 1)) ((rd_T31 l0 0).f0) x199001_3 y218) = some (r1, r2, r3) := by first | (rw [hy218]; with_reducible exact H) | (have H2_ := (Option.bind_some _ _).symm.trans H; rw [hy218]; with_reducible exact H2_) | (have H2_ := (Option.bind_some _ _).symm.trans H; with_reducible exact H2_) | with_reducible exact H | (rw [hy218]; exact H) | exact H
  have Ny218 := Aside0.mk hy218
  clear hy218
  have H' := Aside0.mk H
  clear H
  have p214 : 0 ≤ (0 : Int) := (by omega)
  have q214 : 0 < (l0.length : Int) := of_decide_eq_true zA
  obtain ⟨ad214, A214_1, c214_1, A214_2, c214_2, e214, hx214_0, hx214_1, hx214_2, hl214_1, hi214_1, hl214_2, hi214_2⟩ := at_T31 HR0.out 0 p214 q214
  obtain rfl : adp0 = ad214 := (by injection e214)
  have qi214 : (0 < l0.length) = True := eq_true (by omega)
  try simp only [z00, Nat.zero_mul, Addr.add_zero'] at hx214_0 hx214_1 hx214_2
  replace hx214_0 := zc HB hx214_0
  replace hx214_1 := zc HB hx214_1
  replace hx214_2 := zc HB hx214_2
  have HR214_1 := Aside0.mk hi214_1
  have HC214_1 := Aside0.mk hl214_1
  clear hi214_1 hl214_1
  have HR214_2 := Aside0.mk hi214_2
  have HC214_2 := Aside0.mk hl214_2
  clear hi214_2 hl214_2
  replace p214 := eq_true p214
  replace q214 := eq_true q214
  try go_wp2
  have n_ : _ ∧ _ ∧ _ ∧ _ ∧ _ ∧ _ := ⟨Aside0.mk (Kd.R_drew HO_6.out), Aside0.mk (Kd.R_drew HO_199001.out), Aside0.mk (Kd.R_drew HO_199002.out), Aside0.mk (blk_drew BK174.out), Aside0.mk (blk_drew BK198.out), Aside0.mk (below_drew1 HB.out)⟩
  clear HO_6 HO_199001 HO_199002 BK174 BK198 HB
  obtain ⟨HO_6, HO_199001, HO_199002, BK174, BK198, HB⟩ := n_
  have p215 : 0 ≤ (0 : Int) := (by omega)
  have q215 : 0 < (l0.length : Int) := of_decide_eq_true zA
  obtain ⟨ad215, A215_1, c215_1, A215_2, c215_2, e215, hx215_0, hx215_1, hx215_2, hl215_1, hi215_1, hl215_2, hi215_2⟩ := at_T31 HR0.out 0 p215 q215
  have hw215_2 := hx215_2
  try simp only [z00, Nat.zero_mul, Addr.add_zero'] at hw215_2
  have hw215_1 := hx215_1
  try simp only [z00, Nat.zero_mul, Addr.add_zero'] at hw215_1
  have hw215_0 := hx215_0
  try simp only [z00, Nat.zero_mul, Addr.add_zero'] at hw215_0
  obtain rfl : adp0 = ad215 := (by injection e215)
  have qi215 : (0 < l0.length) = True := eq_true (by omega)
  try simp only [z00, Nat.zero_mul, Addr.add_zero'] at hx215_0 hx215_1 hx215_2
  replace hx215_0 := zc HB hx215_0
  replace hx215_1 := zc HB hx215_1
  replace hx215_2 := zc HB hx215_2
  have HR215_1 := Aside0.mk hi215_1
  have HC215_1 := Aside0.mk hl215_1
  clear hi215_1 hl215_1
  have HR215_2 := Aside0.mk hi215_2
  have HC215_2 := Aside0.mk hl215_2
  clear hi215_2 hl215_2
  replace p215 := eq_true p215
  replace q215 := eq_true q215
  have p216 : 0 ≤ (x10_4 : Int) := of_decide_eq_true zA
  have q216 : x10_4 < (((rd_T31 l0 0).f2).length : Int) := of_decide_eq_true zA
  obtain ⟨ad216, e216, hx216_0⟩ := Kd.at_int HR215_2.out x10_4 p216 q216
  have hw216_0 := hx216_0
  cases e216
  replace hx216_0 := zc HB hx216_0
  replace p216 := eq_true p216
  replace q216 := eq_true q216
  obtain ⟨Ao108, co108, eo108⟩ := Kd.R_slice HO_6.out
  (first | subst eo108 | (injection eo108 with f1_ f2_ f3_; have f4_ := f1_.symm; have f5_ := f3_.symm; clear f1_ f2_ f3_; subst f4_; subst f5_))
  have p217 : 0 ≤ ((rd ((rd_T31 l0 0).f2) x10_4) : Int) := of_decide_eq_true zA
  have q217 : (rd ((rd_T31 l0 0).f2) x10_4) < (x6_3.length : Int) := of_decide_eq_true zA
  obtain ⟨ad217, e217, hx217_0⟩ := Kd.at_int (Kd.R_reads' HO_6.out).2.2 (rd ((rd_T31 l0 0).f2) x10_4) p217 q217
  cases e217
  replace p217 := eq_true p217
  replace q217 := eq_true q217
  refine start_ (n := 16) (S := fun w' => w'.cell? ⟨gb198, 0, none⟩ = some (.int .i8 ((rd_T31 l0 0).f0)) ∧ w'.cell? ⟨gb198, 1, none⟩ = some (u199001) ∧ w'.cell? ⟨gb198, 2, none⟩ = some (u199002) ∧ w'.cell? adp0 = some (.int .i8 ((rd_T31 l0 0).f0)) ∧ w'.cell? ⟨adp0.block, adp0.off + 1, none⟩ = some (.slice A215_1 ((rd_T31 l0 0).f1).length c215_1) ∧ w'.cell? ⟨adp0.block, adp0.off + 2, none⟩ = some (.slice (some ad216) ((rd_T31 l0 0).f2).length c215_2) ∧ w'.cell? (ad216.add (x10_4).toNat) = some (.int .i16 (rd ((rd_T31 l0 0).f2) x10_4)) ∧ w'.cell? (ad217.add ((rd ((rd_T31 l0 0).f2) x10_4)).toNat) = some (.int .i16 (rd x6_3 (rd ((rd_T31 l0 0).f2) x10_4)))) (ds := [13, 15]) (zq 16 0) (by kernel_rfl) rfl rfl ⟨(blk_cell BK198.out 0).trans rfl, (blk_cell BK198.out 1).trans rfl, (blk_cell BK198.out 2).trans rfl, (zc HB hw215_0), (zc HB hw215_1), (zc HB hw215_2), (zc HB hw216_0), hx217_0⟩ (fun hHeld => ?_); refine with_tabW spec_l04Trim.tab27 spec_l04Trim.bits27 (fun HT_ HW_ => ?_)
  generalize wr.drew = w107 at HO_6 HO_199001 HO_199002 BK174 BK198 HB HR215_1 HR215_2 hx215_0 hx215_1 hx215_2 hx216_0 hx217_0 hHeld ⊢
  refine zpu 0 (some 149) (zq 16 1) HT_ ?_
  refine zpu 2 (some 151) (zq 16 5) HT_ ?_
  refine zpu 3 (some 152) (zq 16 13) HT_ ?_
  refine zpu 4 (some 153) (zq 16 29) HT_ ?_
  refine zpu 5 (some 154) (zq 16 61) HT_ ?_
  refine zpu 7 (some 156) (zq 16 189) HT_ ?_
  refine ztk 1 (some 150) (zq 16 191) HT_ HW_ rfl hHeld (Or.inl ⟨by rfl, by (rintro w' ⟨s0, s1, s2, s3, s4, s5, s6, s7⟩; go_simp; with_reducible rfl)⟩) ?_
  refine ztk 6 (some 155) (zq 16 255) HT_ HW_ rfl hHeld (Or.inl ⟨by rfl, by (rintro w' ⟨s0, s1, s2, s3, s4, s5, s6, s7⟩; go_simp; with_reducible rfl)⟩) ?_
  refine zpu 8 (some 157) (zq 16 511) HT_ ?_
  refine ztk 9 (some 158) (zq 16 1023) HT_ HW_ rfl hHeld (Or.inl ⟨by rfl, by (rintro w' ⟨s0, s1, s2, s3, s4, s5, s6, s7⟩; go_simp; with_reducible rfl)⟩) ?_
  refine zpu 10 (some 159) (zq 16 2047) HT_ ?_
  refine ztk 11 (some 160) (zq 16 4095) HT_ HW_ rfl hHeld (Or.inl ⟨by rfl, by (rintro w' ⟨s0, s1, s2, s3, s4, s5, s6, s7⟩; go_simp; with_reducible rfl)⟩) ?_
  refine one_ (i := 12) (N := some 161) (zq 16 8191) rfl rfl (one_of HT_.out (by kernel_rfl)) (by decide) (fun K hK => ?_)
  refine value_ (w1 := ?_) (v := ?_) (by rfl) rfl ?_ ?_
  rotate_left 2
  ·go_simp
   constructor
   rotate_left
   ·rfl
   rfl
  refine hK.out _ _ ⟨(blk_cell (blk_alloc BK198.out _) 0).trans rfl, (blk_cell (blk_alloc BK198.out _) 1).trans rfl, (blk_cell (blk_alloc BK198.out _) 2).trans rfl, (World.cell?_alloc_lt _ _ _ (World.block_lt_of_cell? _ _ ((zc HB hw215_0)))).trans ((zc HB hw215_0)), (World.cell?_alloc_lt _ _ _ (World.block_lt_of_cell? _ _ ((zc HB hw215_1)))).trans ((zc HB hw215_1)), (World.cell?_alloc_lt _ _ _ (World.block_lt_of_cell? _ _ ((zc HB hw215_2)))).trans ((zc HB hw215_2)), (World.cell?_alloc_lt _ _ _ (World.block_lt_of_cell? _ _ ((zc HB hw216_0)))).trans ((zc HB hw216_0)), (World.cell?_alloc_lt _ _ _ (World.block_lt_of_cell? _ _ (hHeld.2.2.2.2.2.2.2))).trans (hHeld.2.2.2.2.2.2.2)⟩ (fun hHeld => ?_)
  clear hK K
  refine norm_ (a' := ?_) ?_ ?_
  rotate_left
  ·show Act.put _ (some 161) _ = _
   exact zap
  refine last_ (i := 13) (N := some 162) (zq 16 16383) rfl rfl (one_of HT_.out (by kernel_rfl)) (by decide) (fun K hK => ?_)
  refine Kd.R_append_step (Kd.int .i16) (w0 := w) w.heap.size (by rfl) (.tmp 150) (.tmp 161) 24 79 (.int .i16 0) 2 rfl Try.underlying24 info79 rfl (by decide) (by omega) u199002 x199002_4 (rd x6_3 (rd ((rd_T31 l0 0).f2) x10_4)) [.int .i16 (rd x6_3 (rd ((rd_T31 l0 0).f2) x10_4))] (fun k_ => some k_ ≠ (.slice (some ad217) x6_3.length co108 : Value).ownBlock) (fun _ => False) rfl rfl ?aP (fun _ hk => hk.elim) ?aF ?aO ?aB ?aS ?aL ?_
  (case aP => exact rfl)
  (case aB => exact zbo)
  (case aF => exact (fun k_ hk => Kd.fresh' (Kd.R_lt (ze HO_6).out) k_ hk))
  (case aO => exact (ze HO_199002).out)
  (case aS => exact (zz HB))
  (case aL => have := LMc106.out; omega)
  intro v219 w109 ho hb hg hat
  rw [← Ny218.out] at ho
  have n_ : _ ∧ _ ∧ _ ∧ _ ∧ _ ∧ _ := ⟨Aside0.mk (Kd.R_after (ok := (fun _ => True)) (by (with_reducible repeat (first | apply Kd.R_alloc | apply Kd.R_drewN | apply Kd.R_drew)); exact Kd.R_mono HO_6.out (fun _ hk => ⟨trivial, hk⟩)) hg hat), Aside0.mk (Kd.R_over' (ze HO_199001).out (Kd.R_typed (ze HO_199002).out) (by decide) hg), Aside0.mk (blk_grown (g := gb174) (o := .cells #[.int .i8 0, .slice none 0 0, .slice none 0 0] 31 (0, 0)) (zh BK174).out hg (Kd.R_ne HO_199002.out BK174.out (by decide))), Aside0.mk (blk_grown (g := gb198) (o := .cells #[.int .i8 ((rd_T31 l0 0).f0), u199001, u199002] 31 (0, 0)) (zh BK198).out hg (Kd.R_ne HO_199002.out BK198.out (by decide))), Aside0.mk (hb), Aside0.mk (ho)⟩
  clear HO_6 HO_199001 BK174 BK198 HB HO_199002
  obtain ⟨HO_6, HO_199001, BK174, BK198, HB, HO220⟩ := n_
  clear ho hb hg hat
  obtain ⟨Ao110, co110, eo110⟩ := Kd.R_slice HO220.out
  (first | subst eo110 | (injection eo110 with f1_ f2_ f3_; have f4_ := f1_.symm; have f5_ := f3_.symm; clear f1_ f2_ f3_; subst f4_; subst f5_))
  refine hK.out _ _ ?_
  clear hK K
  refine norm_ (a' := ?_) ?_ ?_
  rotate_left
  ·show Act.put _ (some 162) _ = _
   exact zap
  refine zpu 14 (some 163) (zq 16 32767) HT_ ?_
  refine last_ (i := 15) (N := none) (zq 16 65535) rfl rfl (one_of HT_.out (by kernel_rfl)) (by decide) (fun K hK => ?_)
  have hs111 : w109.cell? ⟨gb198, 2, none⟩ = some (u199002) := (blk_cell BK198.out 2).trans rfl
  have hfs111 := blk_frozen BK198.out 2
  have hns111_0 := NB174_198.out
  have hms111_0 := NB198_174.out
  refine skip_ (w1 := ?_) (by rfl) rfl ?_ ?_
  rotate_left
  ·go_simp
   rfl
  refine hK.out _ _ ?_
  clear hK K
  refine done_ (done_of HT_.out (by kernel_rfl)) ?_
  try go_wp2
  go_roundg k4
  case measure => have := HK1.out; have := HK2.out; have := HK3.out; have := HK4.out; omega
  case rel => exact ⟨(wrap64 (x10_4 + 1)), (y218), (.slice Ao110 y218.length co110), zi, H', ⟨by have := HK1.out; have := HK2.out; have := HK3.out; have := HK4.out; omega⟩, ⟨by (with_reducible repeat (first | apply Kd.R_alloc | apply Kd.R_drewN | apply Kd.R_drew)); exact Kd.R_mono (Kd.R_far (p := ⟨gb198, 2, none⟩) (Kd.R_types HO_6.out BK198.out (by decide)) (fun _ hk => hk.2) (.slice Ao110 y218.length co110)) (fun _ hk => hk.1.2)⟩, ⟨Kd.R_mono (zs HO_199001 BK198).out (fun _ hk => trivial)⟩, ⟨by (with_reducible repeat (first | apply Kd.R_alloc | apply Kd.R_drewN | apply Kd.R_drew)); exact Kd.R_mono (Kd.R_far (p := ⟨gb198, 2, none⟩) (Kd.R_types HO220.out BK198.out (by decide)) (fun _ hk => hk.2) (.slice Ao110 y218.length co110)) (fun _ hk => hk.1)⟩, zf BK174 NB174_198, ⟨zp BK198⟩, zba⟩
 rw [if_pos c46] at H
 have c46b0 : decide (x8_3 < (((rd_T31 l0 0).f1).length : Int)) = true := decide_eq_true c46
 clear c46
 by_cases c47 : 0 ≤ x8_3
 rotate_left
 ·rw [if_neg c47] at H
  exact absurd H (by simp)
 rw [if_pos c47] at H
 have c47b0 : decide (0 ≤ x8_3) = true := decide_eq_true c47
 clear c47
 by_cases c48 : x8_3 < (x3_2.length : Int)
 rotate_left
 ·rw [if_neg c48] at H
  exact absurd H (by simp)
 rw [if_pos c48] at H
 have c48b0 : decide (x8_3 < (x3_2.length : Int)) = true := decide_eq_true c48
 clear c48
 obtain ⟨bq49, hbq49⟩ : ∃ b_ : Bool, b_ = (rdOf false x3_2 x8_3) := ⟨_, rfl⟩
 replace H : (if bq49 = true then (if ((rd_T81 ((rd_T31 l0 0).f1) x8_3).f0) ≥ 2 then (if 0 ≤ ((rd_T81 ((rd_T31 l0 0).f1) x8_3).f1) then (if ((rd_T81 ((rd_T31 l0 0).f1) x8_3).f1) < (x6_3.length : Int) then (if 0 ≤ ((rd_T81 ((rd_T31 l0 0).f1) x8_3).f2) then (if ((rd_T81 ((rd_T31 l0 0).f1) x8_3).f2) < (x6_3.length : Int) then (if x8_3 < (x6_3.length : Int) then (if x199001_3.length < 23456248059221 then (spec_l04Trim.l2 k3 l0 x3_2 (x6_3.set (x8_3 : Int).toNat (IntKind.i16.wrap ((x199001_3.length : Int)))) (wrap64 (x8_3 + 1)) ((rd_T31 l0 0).f0) (x199001_3 ++ [(⟨(rd_T81 ((rd_T31 l0 0).f1) x8_3).f0, rd x6_3 ((rd_T81 ((rd_T31 l0 0).f1) x8_3).f1), rd x6_3 ((rd_T81 ((rd_T31 l0 0).f1) x8_3).f2)⟩ : S81)])) else (none)) else (none)) else (none)) else (none)) else (none)) else (none)) else (if x8_3 < (x6_3.length : Int) then (if x199001_3.length < 23456248059221 then (spec_l04Trim.l2 k3 l0 x3_2 (x6_3.set (x8_3 : Int).toNat (IntKind.i16.wrap ((x199001_3.length : Int)))) (wrap64 (x8_3 + 1)) ((rd_T31 l0 0).f0) (x199001_3 ++ [(⟨(rd_T81 ((rd_T31 l0 0).f1) x8_3).f0, (rd_T81 ((rd_T31 l0 0).f1) x8_3).f1, (rd_T81 ((rd_T31 l0 0).f1) x8_3).f2⟩ : S81)])) else (none)) else (none))) else (spec_l04Trim.l2 k3 l0 x3_2 x6_3 (wrap64 (x8_3 + 1)) ((rd_T31 l0 0).f0) x199001_3)) = some (r1, r2, r3) := by rw [← hbq49] at H; exact H
 have Nbq49 := Aside0.mk hbq49
 clear hbq49
 by_cases c50 : bq49 = true
 rotate_left
 ·replace c50 := Bool.eq_false_iff.mpr c50
  subst c50
  have H1 : (spec_l04Trim.l2 k3 l0 x3_2 x6_3 (wrap64 (x8_3 + 1)) ((rd_T31 l0 0).f0) x199001_3) = some (r1, r2, r3) := by rw [if_neg (show ¬ (false = true) by decide)] at H; exact H
  clear H
  have H := H1
  clear H1
  have H' := Aside0.mk H
  clear H
  have p199 : 0 ≤ (0 : Int) := (by omega)
  have q199 : 0 < (l0.length : Int) := of_decide_eq_true zA
  obtain ⟨ad199, A199_1, c199_1, A199_2, c199_2, e199, hx199_0, hx199_1, hx199_2, hl199_1, hi199_1, hl199_2, hi199_2⟩ := at_T31 HR0.out 0 p199 q199
  obtain rfl : adp0 = ad199 := (by injection e199)
  have qi199 : (0 < l0.length) = True := eq_true (by omega)
  try simp only [z00, Nat.zero_mul, Addr.add_zero'] at hx199_0 hx199_1 hx199_2
  replace hx199_0 := zc HB hx199_0
  replace hx199_1 := zc HB hx199_1
  replace hx199_2 := zc HB hx199_2
  have HR199_1 := Aside0.mk hi199_1
  have HC199_1 := Aside0.mk hl199_1
  clear hi199_1 hl199_1
  have HR199_2 := Aside0.mk hi199_2
  have HC199_2 := Aside0.mk hl199_2
  clear hi199_2 hl199_2
  replace p199 := eq_true p199
  replace q199 := eq_true q199
  obtain ⟨Ao100, co100, eo100⟩ := Kd.R_slice HO_3.out
  subst eo100
  have p200 : 0 ≤ (x8_3 : Int) := of_decide_eq_true zA
  have q200 : x8_3 < (x3_2.length : Int) := of_decide_eq_true zA
  obtain ⟨ad200, e200, hx200_0⟩ := Kd.at_bool (Kd.R_reads' HO_3.out).2.2 x8_3 p200 q200
  (try rw [← Nbq49.out] at hx200_0)
  cases e200
  replace p200 := eq_true p200
  replace q200 := eq_true q200
  go_wp2
  go_roundg k3
  case measure => have := HK1.out; have := HK2.out; have := HK3.out; omega
  case rel => exact ⟨(x6_3), (wrap64 (x8_3 + 1)), (x199001_3), (u199001), zi, H', ⟨by have := HK1.out; have := HK2.out; have := HK3.out; omega⟩, ze HO_3, ze HO_6, ze HO_199001, zh BK174, zh BK198, zba⟩
 subst c50
 have H1 : (if ((rd_T81 ((rd_T31 l0 0).f1) x8_3).f0) ≥ 2 then (if 0 ≤ ((rd_T81 ((rd_T31 l0 0).f1) x8_3).f1) then (if ((rd_T81 ((rd_T31 l0 0).f1) x8_3).f1) < (x6_3.length : Int) then (if 0 ≤ ((rd_T81 ((rd_T31 l0 0).f1) x8_3).f2) then (if ((rd_T81 ((rd_T31 l0 0).f1) x8_3).f2) < (x6_3.length : Int) then (if x8_3 < (x6_3.length : Int) then (if x199001_3.length < 23456248059221 then (spec_l04Trim.l2 k3 l0 x3_2 (x6_3.set (x8_3 : Int).toNat (IntKind.i16.wrap ((x199001_3.length : Int)))) (wrap64 (x8_3 + 1)) ((rd_T31 l0 0).f0) (x199001_3 ++ [(⟨(rd_T81 ((rd_T31 l0 0).f1) x8_3).f0, rd x6_3 ((rd_T81 ((rd_T31 l0 0).f1) x8_3).f1), rd x6_3 ((rd_T81 ((rd_T31 l0 0).f1) x8_3).f2)⟩ : S81)])) else (none)) else (none)) else (none)) else (none)) else (none)) else (none)) else (if x8_3 < (x6_3.length : Int) then (if x199001_3.length < 23456248059221 then (spec_l04Trim.l2 k3 l0 x3_2 (x6_3.set (x8_3 : Int).toNat (IntKind.i16.wrap ((x199001_3.length : Int)))) (wrap64 (x8_3 + 1)) ((rd_T31 l0 0).f0) (x199001_3 ++ [(⟨(rd_T81 ((rd_T31 l0 0).f1) x8_3).f0, (rd_T81 ((rd_T31 l0 0).f1) x8_3).f1, (rd_T81 ((rd_T31 l0 0).f1) x8_3).f2⟩ : S81)])) else (none)) else (none))) = some (r1, r2, r3) := by rw [if_pos rfl] at H; exact H
 clear H
 have H := H1
 clear H1
 by_cases c51 : ((rd_T81 ((rd_T31 l0 0).f1) x8_3).f0) ≥ 2
 rotate_left
 ·rw [if_neg c51] at H
  have c51b0 : decide (2 ≤ ((rd_T81 ((rd_T31 l0 0).f1) x8_3).f0)) = false := decide_eq_false c51
  clear c51
  by_cases c80 : x8_3 < (x6_3.length : Int)
  rotate_left
  ·rw [if_neg c80] at H
   exact absurd H (by simp)
  rw [if_pos c80] at H
  have c80b0 : decide (x8_3 < (x6_3.length : Int)) = true := decide_eq_true c80
  clear c80
  obtain ⟨y210, hy210⟩ : ∃ y_ : List Int, y_ = (x6_3.set (x8_3 : Int).toNat (IntKind.i16.wrap ((x199001_3.length : Int)))) := ⟨_, rfl⟩
  replace H : (if x199001_3.length < 23456248059221 then (spec_l04Trim.l2 k3 l0 x3_2 y210 (wrap64 (x8_3 + 1)) ((rd_T31 l0 0).f0) (x199001_3 ++ [(⟨(rd_T81 ((rd_T31 l0 0).f1) x8_3).f0, (rd_T81 ((rd_T31 l0 0).f1) x8_3).f1, (rd_T81 ((rd_T31 l0 0).f1) x8_3).f2⟩ : S81)])) else (none)) = some (r1, r2, r3) := by first | (rw [hy210]; with_reducible exact H) | (have H2_ := (Option.bind_some _ _).symm.trans H; rw [hy210]; with_reducible exact H2_) | (have H2_ := (Option.bind_some _ _).symm.trans H; with_reducible exact H2_) | with_reducible exact H | (rw [hy210]; exact H) | exact H
  have Ny210 := Aside0.mk hy210
  clear hy210
  by_cases c82 : x199001_3.length < 23456248059221
  rotate_left
  ·rw [if_neg c82] at H
   exact absurd H (by simp)
  rw [if_pos c82] at H
  have LMc82 := Aside0.mk c82
  clear c82
  obtain ⟨y211, hy211⟩ : ∃ y_ : List (S81), y_ = (x199001_3 ++ [(⟨(rd_T81 ((rd_T31 l0 0).f1) x8_3).f0, (rd_T81 ((rd_T31 l0 0).f1) x8_3).f1, (rd_T81 ((rd_T31 l0 0).f1) x8_3).f2⟩ : S81)]) := ⟨_, rfl⟩
  replace H : (spec_l04Trim.l2 k3 l0 x3_2 y210 (wrap64 (x8_3 + 1)) ((rd_T31 l0 0).f0) y211) = some (r1, r2, r3) := by first | (rw [hy211]; with_reducible exact H) | (have H2_ := (Option.bind_some _ _).symm.trans H; rw [hy211]; with_reducible exact H2_) | (have H2_ := (Option.bind_some _ _).symm.trans H; with_reducible exact H2_) | with_reducible exact H | (rw [hy211]; exact H) | exact H
  have Ny211 := Aside0.mk hy211
  clear hy211
  have H' := Aside0.mk H
  clear H
  have p199 : 0 ≤ (0 : Int) := (by omega)
  have q199 : 0 < (l0.length : Int) := of_decide_eq_true zA
  obtain ⟨ad199, A199_1, c199_1, A199_2, c199_2, e199, hx199_0, hx199_1, hx199_2, hl199_1, hi199_1, hl199_2, hi199_2⟩ := at_T31 HR0.out 0 p199 q199
  obtain rfl : adp0 = ad199 := (by injection e199)
  have qi199 : (0 < l0.length) = True := eq_true (by omega)
  try simp only [z00, Nat.zero_mul, Addr.add_zero'] at hx199_0 hx199_1 hx199_2
  replace hx199_0 := zc HB hx199_0
  replace hx199_1 := zc HB hx199_1
  replace hx199_2 := zc HB hx199_2
  have HR199_1 := Aside0.mk hi199_1
  have HC199_1 := Aside0.mk hl199_1
  clear hi199_1 hl199_1
  have HR199_2 := Aside0.mk hi199_2
  have HC199_2 := Aside0.mk hl199_2
  clear hi199_2 hl199_2
  replace p199 := eq_true p199
  replace q199 := eq_true q199
  obtain ⟨Ao83, co83, eo83⟩ := Kd.R_slice HO_3.out
  subst eo83
  have p200 : 0 ≤ (x8_3 : Int) := of_decide_eq_true zA
  have q200 : x8_3 < (x3_2.length : Int) := of_decide_eq_true zA
  obtain ⟨ad200, e200, hx200_0⟩ := Kd.at_bool (Kd.R_reads' HO_3.out).2.2 x8_3 p200 q200
  (try rw [← Nbq49.out] at hx200_0)
  cases e200
  replace p200 := eq_true p200
  replace q200 := eq_true q200
  have p201 : 0 ≤ (0 : Int) := (by omega)
  have q201 : 0 < (l0.length : Int) := of_decide_eq_true zA
  obtain ⟨ad201, A201_1, c201_1, A201_2, c201_2, e201, hx201_0, hx201_1, hx201_2, hl201_1, hi201_1, hl201_2, hi201_2⟩ := at_T31 HR0.out 0 p201 q201
  obtain rfl : adp0 = ad201 := (by injection e201)
  have qi201 : (0 < l0.length) = True := eq_true (by omega)
  try simp only [z00, Nat.zero_mul, Addr.add_zero'] at hx201_0 hx201_1 hx201_2
  replace hx201_0 := zc HB hx201_0
  replace hx201_1 := zc HB hx201_1
  replace hx201_2 := zc HB hx201_2
  have HR201_1 := Aside0.mk hi201_1
  have HC201_1 := Aside0.mk hl201_1
  clear hi201_1 hl201_1
  have HR201_2 := Aside0.mk hi201_2
  have HC201_2 := Aside0.mk hl201_2
  clear hi201_2 hl201_2
  replace p201 := eq_true p201
  replace q201 := eq_true q201
  have ea_ := Option.some.inj (hx199_1.symm.trans hx201_1)
  injection ea_ with ea_ en_ ec_
  subst ea_
  subst ec_
  clear en_
  have ea_ := Option.some.inj (hx199_2.symm.trans hx201_2)
  injection ea_ with ea_ en_ ec_
  subst ea_
  subst ec_
  clear en_
  have p202 : 0 ≤ (x8_3 : Int) := of_decide_eq_true zA
  have q202 : x8_3 < (((rd_T31 l0 0).f1).length : Int) := of_decide_eq_true zA
  obtain ⟨ad202, e202, hx202_0, hx202_1, hx202_2⟩ := at_T81 HR201_1.out x8_3 p202 q202
  cases e202
  replace hx202_0 := zc HB hx202_0
  replace hx202_1 := zc HB hx202_1
  replace hx202_2 := zc HB hx202_2
  replace p202 := eq_true p202
  replace q202 := eq_true q202
  go_wp2_with (first | ((with_reducible refine gate_dst (N := 9) rfl ?_); refine zbx 9 #[.int .i8 0, .int .i16 0, .int .i16 0] 81 ?_; intro gb203 hg w84 hbox hb; have n_ : _ ∧ _ ∧ _ ∧ _ ∧ _ ∧ _ ∧ _ ∧ _ ∧ _ ∧ _ ∧ _ ∧ _ ∧ _ := ⟨zr HO_3 hb, zr HO_6 hb, Aside0.mk (Kd.R_below (Kd.R_elderB (ze HO_199001).out gb203 (Nat.le_of_eq hg.symm)) hb), zk BK174 hb, zk BK198 hb, zbs hb, Aside0.mk (hbox), zg HB hg, zg HB hg, zn1 BK174 hg, zn2 BK174 hg, zn1 BK198 hg, zn2 BK198 hg⟩; clear HO_3 HO_6 HO_199001 BK174 BK198 HB; obtain ⟨HO_3, HO_6, HO_199001, BK174, BK198, HB, BK203, GW203, GE203, NB174_203, NB203_174, NB198_203, NB203_198⟩ := n_; clear hb hbox hg; have hnb85 := NB203_174.out; have hnc85 := NB174_203.out; have hnb86 := NB203_198.out; have hnc86 := NB198_203.out; obtain ⟨z87_0, z87_1, z87_2, y87_0, y87_1, y87_2⟩ := zB3 BK203) | ((with_reducible refine gate_store (t := 81) (p := 9) rfl ?_); refine store_event (t := 81) (p := 9) (v := ?vo_w88) (w1 := (((w84.setCell ⟨gb203, 0, none⟩ (.int .i8 ((rd_T81 ((rd_T31 l0 0).f1) x8_3).f0))).setCell ⟨gb203, 1, none⟩ (.int .i16 ((rd_T81 ((rd_T31 l0 0).f1) x8_3).f1))).setCell ⟨gb203, 2, none⟩ (.int .i16 ((rd_T81 ((rd_T31 l0 0).f1) x8_3).f2)))) ?hg ?ho ?hn ?hr ?_; (case ho => rfl); (case hg => rfl); (case hn => rfl); (case hr => exact zgs); intro w88 hw; have n0_ : Aside0 (Kd.R Kd.bool 4 w88 w.heap.size (fun _ => True) (.slice (some ad200) x3_2.length co83) x3_2) := ⟨(by rw [hw]; exact (Kd.R_mono (zs HO_3 BK203).out (fun _ hk => trivial)))⟩; have n1_ : Aside0 (Kd.R (Kd.int .i16) 79 w88 w.heap.size (fun _ => True) v195 x6_3) := ⟨(by rw [hw]; exact (Kd.R_mono (zs HO_6 BK203).out (fun _ hk => trivial)))⟩; have n2_ : Aside0 (Kd.R k81 81 w88 w.heap.size (fun k_ => k_ ≠ gb203) u199001 x199001_3) := ⟨(by rw [hw]; exact (by (with_reducible repeat (first | apply Kd.R_alloc | apply Kd.R_drewN | apply Kd.R_drew)); exact Kd.R_mono (Kd.R_far (p := ⟨gb203, 2, none⟩) (Kd.R_far (p := ⟨gb203, 1, none⟩) (Kd.R_far (p := ⟨gb203, 0, none⟩) (Kd.R_mono HO_199001.out (fun k_ hk => (⟨hk, hk.2⟩ : _ ∧ k_ ≠ gb203))) (fun _ hk => hk.2) (.int .i8 ((rd_T81 ((rd_T31 l0 0).f1) x8_3).f0))) (fun _ hk => hk.2) (.int .i16 ((rd_T81 ((rd_T31 l0 0).f1) x8_3).f1))) (fun _ hk => hk.2) (.int .i16 ((rd_T81 ((rd_T31 l0 0).f1) x8_3).f2))) (fun _ hk => hk.1.2)))⟩; have n3_ : Aside0 (w88.heap[gb174]? = some (.cells #[.int .i8 0, .slice none 0 0, .slice none 0 0] 31 (0, 0))) := ⟨(by rw [hw]; exact (zf BK174 NB174_203).out)⟩; have n4_ : Aside0 (w88.heap[gb198]? = some (.cells #[.int .i8 ((rd_T31 l0 0).f0), u199001, .slice none 0 0] 31 (0, 0))) := ⟨(by rw [hw]; exact (zf BK198 NB198_203).out)⟩; have n5_ : Aside0 (w88.heap[gb203]? = some (.cells #[.int .i8 ((rd_T81 ((rd_T31 l0 0).f1) x8_3).f0), .int .i16 ((rd_T81 ((rd_T31 l0 0).f1) x8_3).f1), .int .i16 ((rd_T81 ((rd_T31 l0 0).f1) x8_3).f2)] 81 (0, 0))) := ⟨(by rw [hw]; exact (zp BK203))⟩; have n6_ : Aside0 (Below w.heap.size w w88) := ⟨(by rw [hw]; exact zbo)⟩; clear hw; clear HO_3; clear HO_6; clear HO_199001; clear BK174; clear BK198; clear BK203; clear HB; have HO_3 := n0_; have HO_6 := n1_; have HO_199001 := n2_; have BK174 := n3_; have BK198 := n4_; have BK203 := n5_; have HB := n6_; clear n0_ n1_ n2_ n3_ n4_ n5_ n6_; obtain ⟨z89_0, z89_1, z89_2, y89_0, y89_1, y89_2⟩ := zB3 BK203; have hnb90 := NB198_174.out; have hnc90 := NB174_198.out; obtain ⟨z91_0, z91_1, z91_2, y91_0, y91_1, y91_2⟩ := zB3 BK198; obtain ⟨Ao92, co92, eo92⟩ := Kd.R_slice HO_199001.out; subst eo92; have p81 : 0 ≤ (x8_3 : Int) := of_decide_eq_true zA; have q81 : (x8_3 : Int) < ((x6_3.length : Int) : Int) := of_decide_eq_true zA; obtain ⟨go81, co81, eo81, gb81, gl81, cl81, HG81⟩ := Kd.R_form HO_6.out (by omega); (first | cases eo81 | (injection eo81 with ea_ en_ ec_; (first | subst ea_ | (injection ea_ with ea_; subst ea_)); subst ec_; clear en_)); have GB81 := Aside0.mk gb81; have GG81 := Aside0.mk HG81; clear gb81 gl81 HG81; obtain ⟨hx81_0, hf81_0⟩ := Kd.R_celln 0 HO_6.out (x8_3 : Int) p81 q81; replace p81 := eq_true p81; replace q81 := eq_true q81; obtain ⟨hy93_, hz93_⟩ := Kd.R_celln 0 HO_6.out (x8_3 : Int) (of_decide_eq_true zA) (of_decide_eq_true zA); have HP93 := Kd.R_putg HO_6.out (x8_3 : Int) (IntKind.i16.wrap ((x199001_3.length : Int)))) | ((with_reducible refine gate_store (t := 79) (p := 133) rfl ?_); refine store_event (t := 79) (p := 133) (v := ?vo_w94) (w1 := (w88.setCell ⟨go81, (x8_3 : Int).toNat, none⟩ (.int .i16 (IntKind.i16.wrap ((x199001_3.length : Int)))))) ?hg ?ho ?hn ?hr ?_; (case ho => rfl); (case hg => rfl); (case hn => rfl); (case hr => exact zgs); intro w94 hw; have hg : w88.grownBy w94 (some go81) := (by rw [hw]; exact HP93.2); have hp_ : Kd.R (Kd.int .i16) 79 w94 w.heap.size (fun _ => True) (.slice (some ⟨go81, 0, none⟩) x6_3.length co81) y210 := (by rw [hw, Ny210.out]; exact HP93.1); clear HP93; have n_ : _ ∧ _ ∧ _ ∧ _ ∧ _ ∧ _ ∧ _ := ⟨Aside0.mk (Kd.R_over' (v := (.slice (some ⟨go81, 0, none⟩) x6_3.length co81)) (ze HO_3).out (Kd.R_typed HO_6.out) (by decide) hg), Aside0.mk (hp_), Aside0.mk (Kd.R_over' (v := (.slice (some ⟨go81, 0, none⟩) x6_3.length co81)) (ze HO_199001).out (Kd.R_typed HO_6.out) (by decide) hg), Aside0.mk (blk_grown (g := gb174) (o := .cells #[.int .i8 0, .slice none 0 0, .slice none 0 0] 31 (0, 0)) (zh BK174).out hg (Kd.R_ne HO_6.out BK174.out (by decide))), Aside0.mk (blk_grown (g := gb198) (o := .cells #[.int .i8 ((rd_T31 l0 0).f0), .slice Ao92 x199001_3.length co92, .slice none 0 0] 31 (0, 0)) (zh BK198).out hg (Kd.R_ne HO_6.out BK198.out (by decide))), Aside0.mk (blk_grown (g := gb203) (o := .cells #[.int .i8 ((rd_T81 ((rd_T31 l0 0).f1) x8_3).f0), .int .i16 ((rd_T81 ((rd_T31 l0 0).f1) x8_3).f1), .int .i16 ((rd_T81 ((rd_T31 l0 0).f1) x8_3).f2)] 81 (0, 0)) (zh BK203).out hg (Kd.R_ne HO_6.out BK203.out (by decide))), Aside0.mk ((by rw [hw]; exact below_set (HB.out) GB81.out : Below w.heap.size w w94))⟩; clear HO_3 HO_6 HO_199001 BK174 BK198 BK203 HB; obtain ⟨HO_3, HO_6, HO_199001, BK174, BK198, BK203, HB⟩ := n_; clear hg hw hp_; obtain ⟨z95_0, z95_1, z95_2, y95_0, y95_1, y95_2⟩ := zB3 BK198; obtain ⟨z96_0, z96_1, z96_2, y96_0, y96_1, y96_2⟩ := zB3 BK203) | ((with_reducible refine gate_builtin (b := .append) (xs := #[.tmp 135, .tmp 137]) rfl ?_); at_builtin; refine Kd.R_append k81 (w0 := w) w.heap.size rfl (.tmp 135) (.tmp 137) 29 81 (.agg #[(.int .i8 0), (.int .i16 0), (.int .i16 0)]) 6 rfl Try.underlying29 info81 rfl (by decide) (by omega) (.slice Ao92 x199001_3.length co92) x199001_3 (⟨(rd_T81 ((rd_T31 l0 0).f1) x8_3).f0, (rd_T81 ((rd_T31 l0 0).f1) x8_3).f1, (rd_T81 ((rd_T31 l0 0).f1) x8_3).f2⟩ : S81) [.int .i8 ((rd_T81 ((rd_T31 l0 0).f1) x8_3).f0), .int .i16 ((rd_T81 ((rd_T31 l0 0).f1) x8_3).f1), .int .i16 ((rd_T81 ((rd_T31 l0 0).f1) x8_3).f2)] (fun k_ => k_ ≠ gb203) (fun _ => False) rfl rfl ?aP (fun _ hk => hk.elim) ?aF ?aO ?aB ?aS ?aL ?_; (case aP => exact k81_mkM _ _ _ (⟨(rd_T81 ((rd_T31 l0 0).f1) x8_3).f0, (rd_T81 ((rd_T31 l0 0).f1) x8_3).f1, (rd_T81 ((rd_T31 l0 0).f1) x8_3).f2⟩ : S81)); (case aB => exact zbo); (case aF => exact (fun k_ hk => Kd.freshB (g := gb203) (o := .cells #[.int .i8 ((rd_T81 ((rd_T31 l0 0).f1) x8_3).f0), .int .i16 ((rd_T81 ((rd_T31 l0 0).f1) x8_3).f1), .int .i16 ((rd_T81 ((rd_T31 l0 0).f1) x8_3).f2)] 81 (0, 0)) (zh BK203).out k_ hk)); (case aO => exact (ze HO_199001).out); (case aS => exact (zz HB)); (case aL => have := LMc82.out; omega); intro v212 w97 ho hb hg hat; rw [← Ny211.out] at ho; have n_ : _ ∧ _ ∧ _ ∧ _ ∧ _ ∧ _ ∧ _ := ⟨Aside0.mk (Kd.R_over' (ze HO_3).out (Kd.R_typed (ze HO_199001).out) (by decide) hg), Aside0.mk (Kd.R_over' (ze HO_6).out (Kd.R_typed (ze HO_199001).out) (by decide) hg), Aside0.mk (blk_grown (g := gb174) (o := .cells #[.int .i8 0, .slice none 0 0, .slice none 0 0] 31 (0, 0)) (zh BK174).out hg (Kd.R_ne HO_199001.out BK174.out (by decide))), Aside0.mk (blk_grown (g := gb198) (o := .cells #[.int .i8 ((rd_T31 l0 0).f0), .slice Ao92 x199001_3.length co92, .slice none 0 0] 31 (0, 0)) (zh BK198).out hg (Kd.R_ne HO_199001.out BK198.out (by decide))), Aside0.mk (blk_grown (g := gb203) (o := .cells #[.int .i8 ((rd_T81 ((rd_T31 l0 0).f1) x8_3).f0), .int .i16 ((rd_T81 ((rd_T31 l0 0).f1) x8_3).f1), .int .i16 ((rd_T81 ((rd_T31 l0 0).f1) x8_3).f2)] 81 (0, 0)) (zh BK203).out hg (Kd.R_away HO_199001.out (fun _ hk => hk))), Aside0.mk (hb), Aside0.mk (ho)⟩; clear HO_3 HO_6 BK174 BK198 BK203 HB HO_199001; obtain ⟨HO_3, HO_6, BK174, BK198, BK203, HB, HO213⟩ := n_; clear ho hb hg hat; obtain ⟨Ao98, co98, eo98⟩ := Kd.R_slice HO213.out; subst eo98; obtain ⟨z99_0, z99_1, z99_2, y99_0, y99_1, y99_2⟩ := zB3 BK198))
  go_roundg k3
  case measure => have := HK1.out; have := HK2.out; have := HK3.out; omega
  case rel => exact ⟨(y210), (wrap64 (x8_3 + 1)), (y211), (.slice Ao98 y211.length co98), zi, H', ⟨by have := HK1.out; have := HK2.out; have := HK3.out; omega⟩, ⟨Kd.R_mono (zs HO_3 BK198).out (fun _ hk => trivial)⟩, ⟨Kd.R_mono (zs HO_6 BK198).out (fun _ hk => trivial)⟩, ⟨Kd.R_mono (zs HO213 BK198).out (fun _ hk => trivial)⟩, zf BK174 NB174_198, ⟨zp BK198⟩, zba⟩
 rw [if_pos c51] at H
 have c51b0 : decide (2 ≤ ((rd_T81 ((rd_T31 l0 0).f1) x8_3).f0)) = true := decide_eq_true c51
 clear c51
 by_cases c52 : 0 ≤ ((rd_T81 ((rd_T31 l0 0).f1) x8_3).f1)
 rotate_left
 ·rw [if_neg c52] at H
  exact absurd H (by simp)
 rw [if_pos c52] at H
 have c52b0 : decide (0 ≤ ((rd_T81 ((rd_T31 l0 0).f1) x8_3).f1)) = true := decide_eq_true c52
 clear c52
 by_cases c53 : ((rd_T81 ((rd_T31 l0 0).f1) x8_3).f1) < (x6_3.length : Int)
 rotate_left
 ·rw [if_neg c53] at H
  exact absurd H (by simp)
 rw [if_pos c53] at H
 have c53b0 : decide (((rd_T81 ((rd_T31 l0 0).f1) x8_3).f1) < (x6_3.length : Int)) = true := decide_eq_true c53
 clear c53
 by_cases c54 : 0 ≤ ((rd_T81 ((rd_T31 l0 0).f1) x8_3).f2)
 rotate_left
 ·rw [if_neg c54] at H
  exact absurd H (by simp)
 rw [if_pos c54] at H
 have c54b0 : decide (0 ≤ ((rd_T81 ((rd_T31 l0 0).f1) x8_3).f2)) = true := decide_eq_true c54
 clear c54
 by_cases c55 : ((rd_T81 ((rd_T31 l0 0).f1) x8_3).f2) < (x6_3.length : Int)
 rotate_left
 ·rw [if_neg c55] at H
  exact absurd H (by simp)
 rw [if_pos c55] at H
 have c55b0 : decide (((rd_T81 ((rd_T31 l0 0).f1) x8_3).f2) < (x6_3.length : Int)) = true := decide_eq_true c55
 clear c55
 by_cases c56 : x8_3 < (x6_3.length : Int)
 rotate_left
 ·rw [if_neg c56] at H
  exact absurd H (by simp)
 rw [if_pos c56] at H
 have c56b0 : decide (x8_3 < (x6_3.length : Int)) = true := decide_eq_true c56
 clear c56
 obtain ⟨y206, hy206⟩ : ∃ y_ : List Int, y_ = (x6_3.set (x8_3 : Int).toNat (IntKind.i16.wrap ((x199001_3.length : Int)))) := ⟨_, rfl⟩
 replace H : (if x199001_3.length < 23456248059221 then (spec_l04Trim.l2 k3 l0 x3_2 y206 (wrap64 (x8_3 + 1)) ((rd_T31 l0 0).f0) (x199001_3 ++ [(⟨(rd_T81 ((rd_T31 l0 0).f1) x8_3).f0, rd x6_3 ((rd_T81 ((rd_T31 l0 0).f1) x8_3).f1), rd x6_3 ((rd_T81 ((rd_T31 l0 0).f1) x8_3).f2)⟩ : S81)])) else (none)) = some (r1, r2, r3) := by first | (rw [hy206]; with_reducible exact H) | (have H2_ := (Option.bind_some _ _).symm.trans H; rw [hy206]; with_reducible exact H2_) | (have H2_ := (Option.bind_some _ _).symm.trans H; with_reducible exact H2_) | with_reducible exact H | (rw [hy206]; exact H) | exact H
 have Ny206 := Aside0.mk hy206
 clear hy206
 by_cases c58 : x199001_3.length < 23456248059221
 rotate_left
 ·rw [if_neg c58] at H
  exact absurd H (by simp)
 rw [if_pos c58] at H
 have LMc58 := Aside0.mk c58
 clear c58
 obtain ⟨y207, hy207⟩ : ∃ y_ : List (S81), y_ = (x199001_3 ++ [(⟨(rd_T81 ((rd_T31 l0 0).f1) x8_3).f0, rd x6_3 ((rd_T81 ((rd_T31 l0 0).f1) x8_3).f1), rd x6_3 ((rd_T81 ((rd_T31 l0 0).f1) x8_3).f2)⟩ : S81)]) := ⟨_, rfl⟩
 replace H : (spec_l04Trim.l2 k3 l0 x3_2 y206 (wrap64 (x8_3 + 1)) ((rd_T31 l0 0).f0) y207) = some (r1, r2, r3) := by first | (rw [hy207]; with_reducible exact H) | (have H2_ := (Option.bind_some _ _).symm.trans H; rw [hy207]; with_reducible exact H2_) | (have H2_ := (Option.bind_some _ _).symm.trans H; with_reducible exact H2_) | with_reducible exact H | (rw [hy207]; exact H) | exact H
 have Ny207 := Aside0.mk hy207
 clear hy207
 have H' := Aside0.mk H
 clear H
 have p199 : 0 ≤ (0 : Int) := (by omega)
 have q199 : 0 < (l0.length : Int) := of_decide_eq_true zA
 obtain ⟨ad199, A199_1, c199_1, A199_2, c199_2, e199, hx199_0, hx199_1, hx199_2, hl199_1, hi199_1, hl199_2, hi199_2⟩ := at_T31 HR0.out 0 p199 q199
 obtain rfl : adp0 = ad199 := (by injection e199)
 have qi199 : (0 < l0.length) = True := eq_true (by omega)
 try simp only [z00, Nat.zero_mul, Addr.add_zero'] at hx199_0 hx199_1 hx199_2
 replace hx199_0 := zc HB hx199_0
 replace hx199_1 := zc HB hx199_1
 replace hx199_2 := zc HB hx199_2
 have HR199_1 := Aside0.mk hi199_1
 have HC199_1 := Aside0.mk hl199_1
 clear hi199_1 hl199_1
 have HR199_2 := Aside0.mk hi199_2
 have HC199_2 := Aside0.mk hl199_2
 clear hi199_2 hl199_2
 replace p199 := eq_true p199
 replace q199 := eq_true q199
 obtain ⟨Ao59, co59, eo59⟩ := Kd.R_slice HO_3.out
 subst eo59
 have p200 : 0 ≤ (x8_3 : Int) := of_decide_eq_true zA
 have q200 : x8_3 < (x3_2.length : Int) := of_decide_eq_true zA
 obtain ⟨ad200, e200, hx200_0⟩ := Kd.at_bool (Kd.R_reads' HO_3.out).2.2 x8_3 p200 q200
 (try rw [← Nbq49.out] at hx200_0)
 cases e200
 replace p200 := eq_true p200
 replace q200 := eq_true q200
 have p201 : 0 ≤ (0 : Int) := (by omega)
 have q201 : 0 < (l0.length : Int) := of_decide_eq_true zA
 obtain ⟨ad201, A201_1, c201_1, A201_2, c201_2, e201, hx201_0, hx201_1, hx201_2, hl201_1, hi201_1, hl201_2, hi201_2⟩ := at_T31 HR0.out 0 p201 q201
 obtain rfl : adp0 = ad201 := (by injection e201)
 have qi201 : (0 < l0.length) = True := eq_true (by omega)
 try simp only [z00, Nat.zero_mul, Addr.add_zero'] at hx201_0 hx201_1 hx201_2
 replace hx201_0 := zc HB hx201_0
 replace hx201_1 := zc HB hx201_1
 replace hx201_2 := zc HB hx201_2
 have HR201_1 := Aside0.mk hi201_1
 have HC201_1 := Aside0.mk hl201_1
 clear hi201_1 hl201_1
 have HR201_2 := Aside0.mk hi201_2
 have HC201_2 := Aside0.mk hl201_2
 clear hi201_2 hl201_2
 replace p201 := eq_true p201
 replace q201 := eq_true q201
 have ea_ := Option.some.inj (hx199_1.symm.trans hx201_1)
 injection ea_ with ea_ en_ ec_
 subst ea_
 subst ec_
 clear en_
 have ea_ := Option.some.inj (hx199_2.symm.trans hx201_2)
 injection ea_ with ea_ en_ ec_
 subst ea_
 subst ec_
 clear en_
 have p202 : 0 ≤ (x8_3 : Int) := of_decide_eq_true zA
 have q202 : x8_3 < (((rd_T31 l0 0).f1).length : Int) := of_decide_eq_true zA
 obtain ⟨ad202, e202, hx202_0, hx202_1, hx202_2⟩ := at_T81 HR201_1.out x8_3 p202 q202
 cases e202
 replace hx202_0 := zc HB hx202_0
 replace hx202_1 := zc HB hx202_1
 replace hx202_2 := zc HB hx202_2
 replace p202 := eq_true p202
 replace q202 := eq_true q202
 go_wp2_with (first | ((with_reducible refine gate_dst (N := 9) rfl ?_); refine zbx 9 #[.int .i8 0, .int .i16 0, .int .i16 0] 81 ?_; intro gb203 hg w60 hbox hb; have n_ : _ ∧ _ ∧ _ ∧ _ ∧ _ ∧ _ ∧ _ ∧ _ ∧ _ ∧ _ ∧ _ ∧ _ ∧ _ := ⟨zr HO_3 hb, zr HO_6 hb, Aside0.mk (Kd.R_below (Kd.R_elderB (ze HO_199001).out gb203 (Nat.le_of_eq hg.symm)) hb), zk BK174 hb, zk BK198 hb, zbs hb, Aside0.mk (hbox), zg HB hg, zg HB hg, zn1 BK174 hg, zn2 BK174 hg, zn1 BK198 hg, zn2 BK198 hg⟩; clear HO_3 HO_6 HO_199001 BK174 BK198 HB; obtain ⟨HO_3, HO_6, HO_199001, BK174, BK198, HB, BK203, GW203, GE203, NB174_203, NB203_174, NB198_203, NB203_198⟩ := n_; clear hb hbox hg; have hnb61 := NB203_174.out; have hnc61 := NB174_203.out; have hnb62 := NB203_198.out; have hnc62 := NB198_203.out; obtain ⟨z63_0, z63_1, z63_2, y63_0, y63_1, y63_2⟩ := zB3 BK203) | ((with_reducible refine gate_store (t := 81) (p := 9) rfl ?_); refine store_event (t := 81) (p := 9) (v := ?vo_w64) (w1 := (((w60.setCell ⟨gb203, 0, none⟩ (.int .i8 ((rd_T81 ((rd_T31 l0 0).f1) x8_3).f0))).setCell ⟨gb203, 1, none⟩ (.int .i16 ((rd_T81 ((rd_T31 l0 0).f1) x8_3).f1))).setCell ⟨gb203, 2, none⟩ (.int .i16 ((rd_T81 ((rd_T31 l0 0).f1) x8_3).f2)))) ?hg ?ho ?hn ?hr ?_; (case ho => rfl); (case hg => rfl); (case hn => rfl); (case hr => exact zgs); intro w64 hw; have n0_ : Aside0 (Kd.R Kd.bool 4 w64 w.heap.size (fun _ => True) (.slice (some ad200) x3_2.length co59) x3_2) := ⟨(by rw [hw]; exact (Kd.R_mono (zs HO_3 BK203).out (fun _ hk => trivial)))⟩; have n1_ : Aside0 (Kd.R (Kd.int .i16) 79 w64 w.heap.size (fun _ => True) v195 x6_3) := ⟨(by rw [hw]; exact (Kd.R_mono (zs HO_6 BK203).out (fun _ hk => trivial)))⟩; have n2_ : Aside0 (Kd.R k81 81 w64 w.heap.size (fun k_ => k_ ≠ gb203) u199001 x199001_3) := ⟨(by rw [hw]; exact (by (with_reducible repeat (first | apply Kd.R_alloc | apply Kd.R_drewN | apply Kd.R_drew)); exact Kd.R_mono (Kd.R_far (p := ⟨gb203, 2, none⟩) (Kd.R_far (p := ⟨gb203, 1, none⟩) (Kd.R_far (p := ⟨gb203, 0, none⟩) (Kd.R_mono HO_199001.out (fun k_ hk => (⟨hk, hk.2⟩ : _ ∧ k_ ≠ gb203))) (fun _ hk => hk.2) (.int .i8 ((rd_T81 ((rd_T31 l0 0).f1) x8_3).f0))) (fun _ hk => hk.2) (.int .i16 ((rd_T81 ((rd_T31 l0 0).f1) x8_3).f1))) (fun _ hk => hk.2) (.int .i16 ((rd_T81 ((rd_T31 l0 0).f1) x8_3).f2))) (fun _ hk => hk.1.2)))⟩; have n3_ : Aside0 (w64.heap[gb174]? = some (.cells #[.int .i8 0, .slice none 0 0, .slice none 0 0] 31 (0, 0))) := ⟨(by rw [hw]; exact (zf BK174 NB174_203).out)⟩; have n4_ : Aside0 (w64.heap[gb198]? = some (.cells #[.int .i8 ((rd_T31 l0 0).f0), u199001, .slice none 0 0] 31 (0, 0))) := ⟨(by rw [hw]; exact (zf BK198 NB198_203).out)⟩; have n5_ : Aside0 (w64.heap[gb203]? = some (.cells #[.int .i8 ((rd_T81 ((rd_T31 l0 0).f1) x8_3).f0), .int .i16 ((rd_T81 ((rd_T31 l0 0).f1) x8_3).f1), .int .i16 ((rd_T81 ((rd_T31 l0 0).f1) x8_3).f2)] 81 (0, 0))) := ⟨(by rw [hw]; exact (zp BK203))⟩; have n6_ : Aside0 (Below w.heap.size w w64) := ⟨(by rw [hw]; exact zbo)⟩; clear hw; clear HO_3; clear HO_6; clear HO_199001; clear BK174; clear BK198; clear BK203; clear HB; have HO_3 := n0_; have HO_6 := n1_; have HO_199001 := n2_; have BK174 := n3_; have BK198 := n4_; have BK203 := n5_; have HB := n6_; clear n0_ n1_ n2_ n3_ n4_ n5_ n6_; obtain ⟨z65_0, z65_1, z65_2, y65_0, y65_1, y65_2⟩ := zB3 BK203; obtain ⟨Ao66, co66, eo66⟩ := Kd.R_slice HO_6.out; subst eo66; have p204 : 0 ≤ (((rd_T81 ((rd_T31 l0 0).f1) x8_3).f1) : Int) := of_decide_eq_true zA; have q204 : ((rd_T81 ((rd_T31 l0 0).f1) x8_3).f1) < (x6_3.length : Int) := of_decide_eq_true zA; obtain ⟨ad204, e204, hx204_0⟩ := Kd.at_int (Kd.R_reads' HO_6.out).2.2 ((rd_T81 ((rd_T31 l0 0).f1) x8_3).f1) p204 q204; cases e204; replace p204 := eq_true p204; replace q204 := eq_true q204) | ((with_reducible refine gate_store (t := 79) (p := 120) rfl ?_); refine store_event (t := 79) (p := 120) (v := ?vo_w67) (w1 := (w64.setCell ⟨gb203, 1, none⟩ (.int .i16 (rd x6_3 ((rd_T81 ((rd_T31 l0 0).f1) x8_3).f1))))) ?hg ?ho ?hn ?hr ?_; (case ho => rfl); (case hg => rfl); (case hn => rfl); (case hr => exact zgs); intro w67 hw; have n0_ : Aside0 (Kd.R Kd.bool 4 w67 w.heap.size (fun _ => True) (.slice (some ad200) x3_2.length co59) x3_2) := ⟨(by rw [hw]; exact (Kd.R_mono (zs HO_3 BK203).out (fun _ hk => trivial)))⟩; have n1_ : Aside0 (Kd.R (Kd.int .i16) 79 w67 w.heap.size (fun _ => True) (.slice (some ad204) x6_3.length co66) x6_3) := ⟨(by rw [hw]; exact (Kd.R_mono (zs HO_6 BK203).out (fun _ hk => trivial)))⟩; have n2_ : Aside0 (Kd.R k81 81 w67 w.heap.size (fun k_ => k_ ≠ gb203) u199001 x199001_3) := ⟨(by rw [hw]; exact (by (with_reducible repeat (first | apply Kd.R_alloc | apply Kd.R_drewN | apply Kd.R_drew)); exact Kd.R_mono (Kd.R_far (p := ⟨gb203, 1, none⟩) (Kd.R_mono HO_199001.out (fun k_ hk => (⟨hk, hk⟩ : _ ∧ k_ ≠ gb203))) (fun _ hk => hk.2) (.int .i16 (rd x6_3 ((rd_T81 ((rd_T31 l0 0).f1) x8_3).f1)))) (fun _ hk => hk.1)))⟩; have n3_ : Aside0 (w67.heap[gb174]? = some (.cells #[.int .i8 0, .slice none 0 0, .slice none 0 0] 31 (0, 0))) := ⟨(by rw [hw]; exact (zf BK174 NB174_203).out)⟩; have n4_ : Aside0 (w67.heap[gb198]? = some (.cells #[.int .i8 ((rd_T31 l0 0).f0), u199001, .slice none 0 0] 31 (0, 0))) := ⟨(by rw [hw]; exact (zf BK198 NB198_203).out)⟩; have n5_ : Aside0 (w67.heap[gb203]? = some (.cells #[.int .i8 ((rd_T81 ((rd_T31 l0 0).f1) x8_3).f0), .int .i16 (rd x6_3 ((rd_T81 ((rd_T31 l0 0).f1) x8_3).f1)), .int .i16 ((rd_T81 ((rd_T31 l0 0).f1) x8_3).f2)] 81 (0, 0))) := ⟨(by rw [hw]; exact (zp BK203))⟩; have n6_ : Aside0 (Below w.heap.size w w67) := ⟨(by rw [hw]; exact zbo)⟩; clear hw; clear HO_3; clear HO_6; clear HO_199001; clear BK174; clear BK198; clear BK203; clear HB; have HO_3 := n0_; have HO_6 := n1_; have HO_199001 := n2_; have BK174 := n3_; have BK198 := n4_; have BK203 := n5_; have HB := n6_; clear n0_ n1_ n2_ n3_ n4_ n5_ n6_; obtain ⟨z68_0, z68_1, z68_2, y68_0, y68_1, y68_2⟩ := zB3 BK203; have p205 : 0 ≤ (((rd_T81 ((rd_T31 l0 0).f1) x8_3).f2) : Int) := of_decide_eq_true zA; have q205 : ((rd_T81 ((rd_T31 l0 0).f1) x8_3).f2) < (x6_3.length : Int) := of_decide_eq_true zA; obtain ⟨ad205, e205, hx205_0⟩ := Kd.at_int (Kd.R_reads' HO_6.out).2.2 ((rd_T81 ((rd_T31 l0 0).f1) x8_3).f2) p205 q205; obtain rfl : ad204 = ad205 := (by injection e205); replace p205 := eq_true p205; replace q205 := eq_true q205) | ((with_reducible refine gate_store (t := 79) (p := 126) rfl ?_); refine store_event (t := 79) (p := 126) (v := ?vo_w69) (w1 := (w67.setCell ⟨gb203, 2, none⟩ (.int .i16 (rd x6_3 ((rd_T81 ((rd_T31 l0 0).f1) x8_3).f2))))) ?hg ?ho ?hn ?hr ?_; (case ho => rfl); (case hg => rfl); (case hn => rfl); (case hr => exact zgs); intro w69 hw; have n0_ : Aside0 (Kd.R Kd.bool 4 w69 w.heap.size (fun _ => True) (.slice (some ad200) x3_2.length co59) x3_2) := ⟨(by rw [hw]; exact (Kd.R_mono (zs HO_3 BK203).out (fun _ hk => trivial)))⟩; have n1_ : Aside0 (Kd.R (Kd.int .i16) 79 w69 w.heap.size (fun _ => True) (.slice (some ad204) x6_3.length co66) x6_3) := ⟨(by rw [hw]; exact (Kd.R_mono (zs HO_6 BK203).out (fun _ hk => trivial)))⟩; have n2_ : Aside0 (Kd.R k81 81 w69 w.heap.size (fun k_ => k_ ≠ gb203) u199001 x199001_3) := ⟨(by rw [hw]; exact (by (with_reducible repeat (first | apply Kd.R_alloc | apply Kd.R_drewN | apply Kd.R_drew)); exact Kd.R_mono (Kd.R_far (p := ⟨gb203, 2, none⟩) (Kd.R_mono HO_199001.out (fun k_ hk => (⟨hk, hk⟩ : _ ∧ k_ ≠ gb203))) (fun _ hk => hk.2) (.int .i16 (rd x6_3 ((rd_T81 ((rd_T31 l0 0).f1) x8_3).f2)))) (fun _ hk => hk.1)))⟩; have n3_ : Aside0 (w69.heap[gb174]? = some (.cells #[.int .i8 0, .slice none 0 0, .slice none 0 0] 31 (0, 0))) := ⟨(by rw [hw]; exact (zf BK174 NB174_203).out)⟩; have n4_ : Aside0 (w69.heap[gb198]? = some (.cells #[.int .i8 ((rd_T31 l0 0).f0), u199001, .slice none 0 0] 31 (0, 0))) := ⟨(by rw [hw]; exact (zf BK198 NB198_203).out)⟩; have n5_ : Aside0 (w69.heap[gb203]? = some (.cells #[.int .i8 ((rd_T81 ((rd_T31 l0 0).f1) x8_3).f0), .int .i16 (rd x6_3 ((rd_T81 ((rd_T31 l0 0).f1) x8_3).f1)), .int .i16 (rd x6_3 ((rd_T81 ((rd_T31 l0 0).f1) x8_3).f2))] 81 (0, 0))) := ⟨(by rw [hw]; exact (zp BK203))⟩; have n6_ : Aside0 (Below w.heap.size w w69) := ⟨(by rw [hw]; exact zbo)⟩; clear hw; clear HO_3; clear HO_6; clear HO_199001; clear BK174; clear BK198; clear BK203; clear HB; have HO_3 := n0_; have HO_6 := n1_; have HO_199001 := n2_; have BK174 := n3_; have BK198 := n4_; have BK203 := n5_; have HB := n6_; clear n0_ n1_ n2_ n3_ n4_ n5_ n6_; have hnb70 := NB198_174.out; have hnc70 := NB174_198.out; obtain ⟨z71_0, z71_1, z71_2, y71_0, y71_1, y71_2⟩ := zB3 BK198; obtain ⟨Ao72, co72, eo72⟩ := Kd.R_slice HO_199001.out; subst eo72; have p57 : 0 ≤ (x8_3 : Int) := of_decide_eq_true zA; have q57 : (x8_3 : Int) < ((x6_3.length : Int) : Int) := of_decide_eq_true zA; obtain ⟨go57, co57, eo57, gb57, gl57, cl57, HG57⟩ := Kd.R_form HO_6.out (by omega); (first | cases eo57 | (injection eo57 with ea_ en_ ec_; (first | subst ea_ | (injection ea_ with ea_; subst ea_)); subst ec_; clear en_)); have GB57 := Aside0.mk gb57; have GG57 := Aside0.mk HG57; clear gb57 gl57 HG57; (first | simp only [add_plain] at hx204_0 | skip); (first | simp only [add_plain] at hx205_0 | skip); obtain ⟨hx57_0, hf57_0⟩ := Kd.R_celln 0 HO_6.out (x8_3 : Int) p57 q57; replace p57 := eq_true p57; replace q57 := eq_true q57; obtain ⟨hy73_, hz73_⟩ := Kd.R_celln 0 HO_6.out (x8_3 : Int) (of_decide_eq_true zA) (of_decide_eq_true zA); have HP73 := Kd.R_putg HO_6.out (x8_3 : Int) (IntKind.i16.wrap ((x199001_3.length : Int)))) | ((with_reducible refine gate_store (t := 79) (p := 133) rfl ?_); refine store_event (t := 79) (p := 133) (v := ?vo_w74) (w1 := (w69.setCell ⟨go57, (x8_3 : Int).toNat, none⟩ (.int .i16 (IntKind.i16.wrap ((x199001_3.length : Int)))))) ?hg ?ho ?hn ?hr ?_; (case ho => rfl); (case hg => rfl); (case hn => rfl); (case hr => exact zgs); intro w74 hw; have hg : w69.grownBy w74 (some go57) := (by rw [hw]; exact HP73.2); have hp_ : Kd.R (Kd.int .i16) 79 w74 w.heap.size (fun _ => True) (.slice (some ⟨go57, 0, none⟩) x6_3.length co66) y206 := (by rw [hw, Ny206.out]; exact HP73.1); clear HP73; have n_ : _ ∧ _ ∧ _ ∧ _ ∧ _ ∧ _ ∧ _ := ⟨Aside0.mk (Kd.R_over' (v := (.slice (some ⟨go57, 0, none⟩) x6_3.length co66)) (ze HO_3).out (Kd.R_typed HO_6.out) (by decide) hg), Aside0.mk (hp_), Aside0.mk (Kd.R_over' (v := (.slice (some ⟨go57, 0, none⟩) x6_3.length co66)) (ze HO_199001).out (Kd.R_typed HO_6.out) (by decide) hg), Aside0.mk (blk_grown (g := gb174) (o := .cells #[.int .i8 0, .slice none 0 0, .slice none 0 0] 31 (0, 0)) (zh BK174).out hg (Kd.R_ne HO_6.out BK174.out (by decide))), Aside0.mk (blk_grown (g := gb198) (o := .cells #[.int .i8 ((rd_T31 l0 0).f0), .slice Ao72 x199001_3.length co72, .slice none 0 0] 31 (0, 0)) (zh BK198).out hg (Kd.R_ne HO_6.out BK198.out (by decide))), Aside0.mk (blk_grown (g := gb203) (o := .cells #[.int .i8 ((rd_T81 ((rd_T31 l0 0).f1) x8_3).f0), .int .i16 (rd x6_3 ((rd_T81 ((rd_T31 l0 0).f1) x8_3).f1)), .int .i16 (rd x6_3 ((rd_T81 ((rd_T31 l0 0).f1) x8_3).f2))] 81 (0, 0)) (zh BK203).out hg (Kd.R_ne HO_6.out BK203.out (by decide))), Aside0.mk ((by rw [hw]; exact below_set (HB.out) GB57.out : Below w.heap.size w w74))⟩; clear HO_3 HO_6 HO_199001 BK174 BK198 BK203 HB; obtain ⟨HO_3, HO_6, HO_199001, BK174, BK198, BK203, HB⟩ := n_; clear hg hw hp_; obtain ⟨z75_0, z75_1, z75_2, y75_0, y75_1, y75_2⟩ := zB3 BK198; obtain ⟨z76_0, z76_1, z76_2, y76_0, y76_1, y76_2⟩ := zB3 BK203) | ((with_reducible refine gate_builtin (b := .append) (xs := #[.tmp 135, .tmp 137]) rfl ?_); at_builtin; refine Kd.R_append k81 (w0 := w) w.heap.size rfl (.tmp 135) (.tmp 137) 29 81 (.agg #[(.int .i8 0), (.int .i16 0), (.int .i16 0)]) 6 rfl Try.underlying29 info81 rfl (by decide) (by omega) (.slice Ao72 x199001_3.length co72) x199001_3 (⟨(rd_T81 ((rd_T31 l0 0).f1) x8_3).f0, rd x6_3 ((rd_T81 ((rd_T31 l0 0).f1) x8_3).f1), rd x6_3 ((rd_T81 ((rd_T31 l0 0).f1) x8_3).f2)⟩ : S81) [.int .i8 ((rd_T81 ((rd_T31 l0 0).f1) x8_3).f0), .int .i16 (rd x6_3 ((rd_T81 ((rd_T31 l0 0).f1) x8_3).f1)), .int .i16 (rd x6_3 ((rd_T81 ((rd_T31 l0 0).f1) x8_3).f2))] (fun k_ => k_ ≠ gb203) (fun _ => False) rfl rfl ?aP (fun _ hk => hk.elim) ?aF ?aO ?aB ?aS ?aL ?_; (case aP => exact k81_mkM _ _ _ (⟨(rd_T81 ((rd_T31 l0 0).f1) x8_3).f0, rd x6_3 ((rd_T81 ((rd_T31 l0 0).f1) x8_3).f1), rd x6_3 ((rd_T81 ((rd_T31 l0 0).f1) x8_3).f2)⟩ : S81)); (case aB => exact zbo); (case aF => exact (fun k_ hk => Kd.freshB (g := gb203) (o := .cells #[.int .i8 ((rd_T81 ((rd_T31 l0 0).f1) x8_3).f0), .int .i16 (rd x6_3 ((rd_T81 ((rd_T31 l0 0).f1) x8_3).f1)), .int .i16 (rd x6_3 ((rd_T81 ((rd_T31 l0 0).f1) x8_3).f2))] 81 (0, 0)) (zh BK203).out k_ hk)); (case aO => exact (ze HO_199001).out); (case aS => exact (zz HB)); (case aL => have := LMc58.out; omega); intro v208 w77 ho hb hg hat; rw [← Ny207.out] at ho; have n_ : _ ∧ _ ∧ _ ∧ _ ∧ _ ∧ _ ∧ _ := ⟨Aside0.mk (Kd.R_over' (ze HO_3).out (Kd.R_typed (ze HO_199001).out) (by decide) hg), Aside0.mk (Kd.R_over' (ze HO_6).out (Kd.R_typed (ze HO_199001).out) (by decide) hg), Aside0.mk (blk_grown (g := gb174) (o := .cells #[.int .i8 0, .slice none 0 0, .slice none 0 0] 31 (0, 0)) (zh BK174).out hg (Kd.R_ne HO_199001.out BK174.out (by decide))), Aside0.mk (blk_grown (g := gb198) (o := .cells #[.int .i8 ((rd_T31 l0 0).f0), .slice Ao72 x199001_3.length co72, .slice none 0 0] 31 (0, 0)) (zh BK198).out hg (Kd.R_ne HO_199001.out BK198.out (by decide))), Aside0.mk (blk_grown (g := gb203) (o := .cells #[.int .i8 ((rd_T81 ((rd_T31 l0 0).f1) x8_3).f0), .int .i16 (rd x6_3 ((rd_T81 ((rd_T31 l0 0).f1) x8_3).f1)), .int .i16 (rd x6_3 ((rd_T81 ((rd_T31 l0 0).f1) x8_3).f2))] 81 (0, 0)) (zh BK203).out hg (Kd.R_away HO_199001.out (fun _ hk => hk))), Aside0.mk (hb), Aside0.mk (ho)⟩; clear HO_3 HO_6 BK174 BK198 BK203 HB HO_199001; obtain ⟨HO_3, HO_6, BK174, BK198, BK203, HB, HO209⟩ := n_; clear ho hb hg hat; obtain ⟨Ao78, co78, eo78⟩ := Kd.R_slice HO209.out; subst eo78; obtain ⟨z79_0, z79_1, z79_2, y79_0, y79_1, y79_2⟩ := zB3 BK198))
 go_roundg k3
 case measure => have := HK1.out; have := HK2.out; have := HK3.out; omega
 case rel => exact ⟨(y206), (wrap64 (x8_3 + 1)), (y207), (.slice Ao78 y207.length co78), zi, H', ⟨by have := HK1.out; have := HK2.out; have := HK3.out; omega⟩, ⟨Kd.R_mono (zs HO_3 BK198).out (fun _ hk => trivial)⟩, ⟨Kd.R_mono (zs HO_6 BK198).out (fun _ hk => trivial)⟩, ⟨Kd.R_mono (zs HO209 BK198).out (fun _ hk => trivial)⟩, zf BK174 NB174_198, ⟨zp BK198⟩, zba⟩
end Go.Proofs.Ytmpmanfoiocfgaa.PFnExactSimplifyNetwork
