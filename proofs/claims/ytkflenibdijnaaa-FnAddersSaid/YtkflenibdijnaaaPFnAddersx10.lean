-- WRITTEN by xprint.py, a program of this session's. Not trusted: Lean checks it.
-- packed by pack.py
import Derived.Test.YtkflenibdijnaaaPFnAddersx0
import Derived.Test.YtkflenibdijnaaaPFnAddersx9
import Derived.Test.YtkflenibdijnaaaTFnAddersa
namespace Go.Proofs.Ytkflenibdijnaaa.PFnAdders
open Go.RowKit Go.Proofs.YtkflenibdijnaaaW.PrintWords Go.Proofs.YtkflenibdijnaaaW.PrintLast Go.Proofs.YtkflenibdijnaaaW.PrintMore Go.Proofs.YtkflenibdijnaaaX
attribute [local go_sem] max2_int min2_int max_two min_two max_three min_three max_four min_four   -- for this text's walks alone
set_option maxHeartbeats 8000000
set_option maxRecDepth 100000
set_option linter.unusedVariables false
set_option linter.unusedSimpArgs false

mutual
def spec_l04Merge.l0 : Nat → List (S29) → List Int → List Int → List Int → Int → Int → List (S61) → Option (Int × (List (S61)) × List Int × List Int)
  | 0, _, _, _, _, _, _, _ => none
  | k + 1, x0, x4, x5, x6, x8, x318000, x318001 => if 0 < (x0.length : Int) then (if x8 < (((rd_T29 x0 0).f1).length : Int) then (spec_l04Merge.l1 k x0 x4 x5 x6 x8 0 x318000 x318001) else (spec_l04Merge.l2 k x0 x5 0 x318000 x318001 ([] : List Int))) else (none)
def spec_l04Merge.j2 : Nat → List (S29) → List Int → List Int → List Int → Int → Int → Int → List (S61) → Option (Int × (List (S61)) × List Int × List Int)
  | 0, _, _, _, _, _, _, _, _ => none
  | k + 1, x0, x4, x5, x6, x8, x9, x318000, x318001 => if x9 = (x6.length : Int) then (if 0 < (x0.length : Int) then (if 0 ≤ x8 then (if x8 < (((rd_T29 x0 0).f1).length : Int) then (if ((rd_T61 ((rd_T29 x0 0).f1) x8).f0) ≥ 2 then (if 0 ≤ ((rd_T61 ((rd_T29 x0 0).f1) x8).f1) then (if ((rd_T61 ((rd_T29 x0 0).f1) x8).f1) < (x5.length : Int) then (if 0 ≤ ((rd_T61 ((rd_T29 x0 0).f1) x8).f2) then (if ((rd_T61 ((rd_T29 x0 0).f1) x8).f2) < (x5.length : Int) then (if x8 < (x4.length : Int) then (if x6.length < 17592186044416 then (if x318001.length < 23456248059221 then (if x5.length < 17592186044416 then (spec_l04Merge.l0 k x0 x4 (x5 ++ [x9]) (x6 ++ [rd x4 x8]) (wrap64 (x8 + 1)) x318000 (x318001 ++ [(⟨(rd_T61 ((rd_T29 x0 0).f1) x8).f0, IntKind.i16.wrap (rd x5 ((rd_T61 ((rd_T29 x0 0).f1) x8).f1)), IntKind.i16.wrap (rd x5 ((rd_T61 ((rd_T29 x0 0).f1) x8).f2))⟩ : S61)])) else (none)) else (none)) else (none)) else (none)) else (none)) else (none)) else (none)) else (none)) else (if x8 < (x4.length : Int) then (if x6.length < 17592186044416 then (if x318001.length < 23456248059221 then (if x5.length < 17592186044416 then (spec_l04Merge.l0 k x0 x4 (x5 ++ [x9]) (x6 ++ [rd x4 x8]) (wrap64 (x8 + 1)) x318000 (x318001 ++ [(⟨(rd_T61 ((rd_T29 x0 0).f1) x8).f0, (rd_T61 ((rd_T29 x0 0).f1) x8).f1, (rd_T61 ((rd_T29 x0 0).f1) x8).f2⟩ : S61)])) else (none)) else (none)) else (none)) else (none))) else (none)) else (none)) else (none)) else (if x5.length < 17592186044416 then (spec_l04Merge.l0 k x0 x4 (x5 ++ [x9]) x6 (wrap64 (x8 + 1)) x318000 x318001) else (none))
def spec_l04Merge.l1 : Nat → List (S29) → List Int → List Int → List Int → Int → Int → Int → List (S61) → Option (Int × (List (S61)) × List Int × List Int)
  | 0, _, _, _, _, _, _, _, _ => none
  | k + 1, x0, x4, x5, x6, x8, x9, x318000, x318001 => if x9 < (x6.length : Int) then (if 0 ≤ x9 then (if 0 ≤ x8 then (if x8 < (x4.length : Int) then (if (rd x6 x9) = (rd x4 x8) then (spec_l04Merge.j2 k x0 x4 x5 x6 x8 x9 x318000 x318001) else (spec_l04Merge.l1 k x0 x4 x5 x6 x8 (wrap64 (x9 + 1)) x318000 x318001)) else (none)) else (none)) else (none)) else (spec_l04Merge.j2 k x0 x4 x5 x6 x8 x9 x318000 x318001)
def spec_l04Merge.l2 : Nat → List (S29) → List Int → Int → Int → List (S61) → List Int → Option (Int × (List (S61)) × List Int × List Int)
  | 0, _, _, _, _, _, _ => none
  | k + 1, x0, x5, x11, x318000, x318001, x318002 => if 0 < (x0.length : Int) then (if x11 < (((rd_T29 x0 0).f2).length : Int) then (if 0 ≤ x11 then (if 0 ≤ (rd ((rd_T29 x0 0).f2) x11) then (if (rd ((rd_T29 x0 0).f2) x11) < (x5.length : Int) then (if x318002.length < 70368744177664 then (spec_l04Merge.l2 k x0 x5 (wrap64 (x11 + 1)) x318000 x318001 (x318002 ++ [IntKind.i16.wrap (rd x5 (rd ((rd_T29 x0 0).f2) x11))])) else (none)) else (none)) else (none)) else (none)) else (some (x318000, x318001, x318002, x5))) else (none)
end
def spec_l04Merge.f (k : Nat) (l0 : List (S29)) : Option (Int × (List (S61)) × List Int × List Int) := (spec_l04Tables.f k l0).bind fun t307 => (if 0 < (l0.length : Int) then (spec_l04Merge.l0 k l0 t307 (([] : List Int)) (([] : List Int)) 0 ((rd_T29 l0 0).f0) ([] : List (S61))) else (none))
theorem spec_l04Merge.mono_l : ∀ k, (∀ y0 y1 y2 y3 y4 y5 y6, LeO (spec_l04Merge.l0 k y0 y1 y2 y3 y4 y5 y6) (spec_l04Merge.l0 (k + 1) y0 y1 y2 y3 y4 y5 y6)) ∧ (∀ y0 y1 y2 y3 y4 y5 y6 y7, LeO (spec_l04Merge.j2 k y0 y1 y2 y3 y4 y5 y6 y7) (spec_l04Merge.j2 (k + 1) y0 y1 y2 y3 y4 y5 y6 y7)) ∧ (∀ y0 y1 y2 y3 y4 y5 y6 y7, LeO (spec_l04Merge.l1 k y0 y1 y2 y3 y4 y5 y6 y7) (spec_l04Merge.l1 (k + 1) y0 y1 y2 y3 y4 y5 y6 y7)) ∧ (∀ y0 y1 y2 y3 y4 y5, LeO (spec_l04Merge.l2 k y0 y1 y2 y3 y4 y5) (spec_l04Merge.l2 (k + 1) y0 y1 y2 y3 y4 y5))
  | 0 => ⟨fun _ _ _ _ _ _ _ r h => by simp [spec_l04Merge.l0] at h, fun _ _ _ _ _ _ _ _ r h => by simp [spec_l04Merge.j2] at h, fun _ _ _ _ _ _ _ _ r h => by simp [spec_l04Merge.l1] at h, fun _ _ _ _ _ _ r h => by simp [spec_l04Merge.l2] at h⟩
  | k + 1 => by
    obtain ⟨ih0, ih1, ih2, ih3⟩ := spec_l04Merge.mono_l k
    refine ⟨?_, ?_, ?_, ?_⟩
    · intro y0 y1 y2 y3 y4 y5 y6
      unfold spec_l04Merge.l0
      repeat' first | (with_reducible first | apply ih0 | apply ih1 | apply ih2 | apply ih3 | apply spec_l04Tables.mono | exact LeO.refl _ | exact LeO.none _ | refine LeO.ite ?_ ?_ | refine LeO.bind ?_ (fun _ => ?_)) | apply ih0 | apply ih1 | apply ih2 | apply ih3 | apply spec_l04Tables.mono | exact LeO.none _ | refine LeO.ite ?_ ?_ | refine LeO.bind ?_ (fun _ => ?_)
    · intro y0 y1 y2 y3 y4 y5 y6 y7
      unfold spec_l04Merge.j2
      repeat' first | (with_reducible first | apply ih0 | apply ih1 | apply ih2 | apply ih3 | apply spec_l04Tables.mono | exact LeO.refl _ | exact LeO.none _ | refine LeO.ite ?_ ?_ | refine LeO.bind ?_ (fun _ => ?_)) | apply ih0 | apply ih1 | apply ih2 | apply ih3 | apply spec_l04Tables.mono | exact LeO.none _ | refine LeO.ite ?_ ?_ | refine LeO.bind ?_ (fun _ => ?_)
    · intro y0 y1 y2 y3 y4 y5 y6 y7
      unfold spec_l04Merge.l1
      repeat' first | (with_reducible first | apply ih0 | apply ih1 | apply ih2 | apply ih3 | apply spec_l04Tables.mono | exact LeO.refl _ | exact LeO.none _ | refine LeO.ite ?_ ?_ | refine LeO.bind ?_ (fun _ => ?_)) | apply ih0 | apply ih1 | apply ih2 | apply ih3 | apply spec_l04Tables.mono | exact LeO.none _ | refine LeO.ite ?_ ?_ | refine LeO.bind ?_ (fun _ => ?_)
    · intro y0 y1 y2 y3 y4 y5
      unfold spec_l04Merge.l2
      repeat' first | (with_reducible first | apply ih0 | apply ih1 | apply ih2 | apply ih3 | apply spec_l04Tables.mono | exact LeO.refl _ | exact LeO.none _ | refine LeO.ite ?_ ?_ | refine LeO.bind ?_ (fun _ => ?_)) | apply ih0 | apply ih1 | apply ih2 | apply ih3 | apply spec_l04Tables.mono | exact LeO.none _ | refine LeO.ite ?_ ?_ | refine LeO.bind ?_ (fun _ => ?_)
theorem spec_l04Merge.mono : ∀ a0 k, LeO (spec_l04Merge.f k a0) (spec_l04Merge.f (k + 1) a0) := by
 intro a0 k
 obtain ⟨ih0, ih1, ih2, ih3⟩ := spec_l04Merge.mono_l k
 unfold spec_l04Merge.f
 repeat' first | (with_reducible first | apply ih0 | apply ih1 | apply ih2 | apply ih3 | apply spec_l04Tables.mono | exact LeO.refl _ | exact LeO.none _ | refine LeO.ite ?_ ?_ | refine LeO.bind ?_ (fun _ => ?_)) | apply ih0 | apply ih1 | apply ih2 | apply ih3 | apply spec_l04Tables.mono | exact LeO.none _ | refine LeO.ite ?_ ?_ | refine LeO.bind ?_ (fun _ => ?_)
def spec_l04Merge.T9 : Bool × List (List Nat × List Nat) := (true, [([], []), ([], []), ([1], [1]), ([0, 2], [0, 2]), ([3], [3]), ([4], [4]), ([4], [4]), ([5, 6, 4], [4, 5, 6]), ([7, 4], [4, 7]), ([4], [4]), ([4], [4]), ([9, 10, 4], [4, 9, 10]), ([11, 4], [4, 11]), ([8, 12, 4], [4, 8, 12]), ([4, 13], [4, 13])])
def spec_l04Merge.B9 : List Nat := [0, 0, 2, 7, 15, 31, 31, 127, 255, 31, 31, 1567, 3615, 8191, 16383]
theorem spec_l04Merge.tab9 : rtab .any (opsOf Try.f44 9) = spec_l04Merge.T9 := by kernel_rfl
theorem spec_l04Merge.bits9 : waitsOk spec_l04Merge.T9.2 spec_l04Merge.B9 = true := by kernel_rfl
def spec_l04Merge.T22 : Bool × List (List Nat × List Nat) := (true, [([], []), ([0], [0]), ([], []), ([], []), ([3], [3]), ([4], [4]), ([5], [5]), ([], []), ([6, 7], [6, 7]), ([8], [8]), ([2, 9], [2, 9]), ([10], [10]), ([11], [11]), ([12], [12]), ([1, 13], [1, 13]), ([0, 1, 2, 3, 4, 5, 6, 7, 8, 9, 10, 11, 12, 13, 14], []), ([15, 14, 14, 0, 1, 2, 3, 4, 5, 6, 7, 8, 9, 10, 11, 12, 13, 14], [14, 15])])
def spec_l04Merge.B22 : List Nat := [0, 1, 0, 0, 8, 24, 56, 0, 248, 504, 1020, 2044, 4092, 8188, 16383, 32767, 65535]
theorem spec_l04Merge.tab22 : rtab .any (opsOf Try.f44 22) = spec_l04Merge.T22 := by kernel_rfl
theorem spec_l04Merge.bits22 : waitsOk spec_l04Merge.T22.2 spec_l04Merge.B22 = true := by kernel_rfl
theorem spec_l04Merge.calls (k : Nat) (adp0 : Addr) (l0 : List (S29)) (r1 : Int) (r2 : List (S61)) (r3 : List Int) (r4 : List Int) (w : World) (hr0 : Kd.C k29 w (some adp0) l0.length l0) (h : spec_l04Merge.f k l0 = some (r1, r2, r3, r4)) :
    Calls Try.prog 44 #[.pointer (some adp0)] w fun e w' => ∃ v1_ v2_ v3_ : Value, e = .returned (.tuple #[.agg #[.int .i8 r1, v1_, v2_], v3_]) ∧ Kd.R k61 61 w' w.heap.size (fun _ => True) v1_ r2 ∧ Kd.R (Kd.int .i16) 54 w' w.heap.size (fun _ => True) v2_ r3 ∧ Kd.R (Kd.int .i64) 2 w' w.heap.size (fun _ => True) v3_ r4 ∧ Below w.heap.size w w' := by
 have hu29 := Try.underlying29
 have hu61 := Try.underlying61
 have HR0 := Aside0.mk hr0
 clear hr0
 have HB := Aside0.mk (Below.refl w.heap.size w)
 have H : ((spec_l04Tables.f k l0).bind fun t307 => (if 0 < (l0.length : Int) then (spec_l04Merge.l0 k l0 t307 (([] : List Int)) (([] : List Int)) 0 ((rd_T29 l0 0).f0) ([] : List (S61))) else (none))) = some (r1, r2, r3, r4) := h
 clear h
 replace H := zob H
 obtain ⟨t307, A20, H⟩ := H
 replace H : (if 0 < (l0.length : Int) then (spec_l04Merge.l0 k l0 t307 (([] : List Int)) (([] : List Int)) 0 ((rd_T29 l0 0).f0) ([] : List (S61))) else (none)) = some (r1, r2, r3, r4) := H
 have A2 := Aside0.mk A20
 clear A20
 obtain ⟨y310, hy310⟩ : ∃ y_ : List Int, y_ = (([] : List Int)) := ⟨_, rfl⟩
 replace H : (if 0 < (l0.length : Int) then (spec_l04Merge.l0 k l0 t307 y310 (([] : List Int)) 0 ((rd_T29 l0 0).f0) ([] : List (S61))) else (none)) = some (r1, r2, r3, r4) := by first | (rw [hy310]; with_reducible exact H) | (have H2_ := (Option.bind_some _ _).symm.trans H; rw [hy310]; with_reducible exact H2_) | (have H2_ := (Option.bind_some _ _).symm.trans H; with_reducible exact H2_) | with_reducible exact H | (rw [hy310]; exact H) | exact H
 have Ny310 := Aside0.mk hy310
 clear hy310
 obtain ⟨y313, hy313⟩ : ∃ y_ : List Int, y_ = (([] : List Int)) := ⟨_, rfl⟩
 replace H : (if 0 < (l0.length : Int) then (spec_l04Merge.l0 k l0 t307 y310 y313 0 ((rd_T29 l0 0).f0) ([] : List (S61))) else (none)) = some (r1, r2, r3, r4) := by first | (rw [hy313]; with_reducible exact H) | (have H2_ := (Option.bind_some _ _).symm.trans H; rw [hy313]; with_reducible exact H2_) | (have H2_ := (Option.bind_some _ _).symm.trans H; with_reducible exact H2_) | with_reducible exact H | (rw [hy313]; exact H) | exact H
 have Ny313 := Aside0.mk hy313
 clear hy313
 by_cases c3 : 0 < (l0.length : Int)
 rotate_left
 ·rw [if_neg c3] at H
  exact absurd H (by simp)
 rw [if_pos c3] at H
 have c3b0 : decide (0 < (l0.length : Int)) = true := decide_eq_true c3
 have c3b1 : decide (0 < l0.length) = true := decide_eq_true (by omega)
 clear c3
 have H' := Aside0.mk H
 clear H
 go_enter Try.func44, Try.ntmps44
 go_wp2_with (first | ((with_reducible refine gate_dst (N := 2) rfl ?_); refine zbx 2 #[.int .i8 0, .slice none 0 0, .slice none 0 0] 29 ?_; intro gb306 hg w4 hbox hb; have n_ : _ ∧ _ ∧ _ ∧ _ := ⟨zb HB hb, Aside0.mk (hbox), zg HB hg, zg HB hg⟩; clear HB; obtain ⟨HB, BK306, GW306, GE306⟩ := n_; clear hb hbox hg) | ((with_reducible refine gate_callee (f := 56) rfl ?_); refine goesL_ (some 13) rfl rfl Try.func56 (by kernel_rfl) rfl #[.pointer (some adp0)] rfl zm ?_; (with_reducible refine (spec_l04Tables.calls k _ l0 t307 _ ?side1 A2.out).mono ?_); (case side1 => exact zcc HB HR0.out); rintro e w5 ⟨v308, rfl, ho0, hb⟩; refine ⟨_, rfl, ?_⟩; have n_ : _ ∧ _ ∧ _ := ⟨Aside0.mk (Kd.R_lower ho0 (zz HB)), zk BK306 hb, zbs hb⟩; clear BK306 HB; obtain ⟨HO309, BK306, HB⟩ := n_; (try clear hb); (try clear hb2); (try clear hk); (try clear hi); (try clear ho0)) | ((with_reducible refine gate_dst (N := 14) rfl ?_); refine Kd.R_lit (Kd.int .i64) _ 2 ?hg (N := 14) ?hd (xs := ([] : List Int)) (inner := []) (ok := fun _ => True) (okp := fun _ => True) ?hr ?hp (fun _ hk => hk) trivial (Below.refl _ _) (Nat.le_refl _) (by simp) ?_; (case hd => rfl); (case hg => rfl); (case hr => exact zgs); (case hp => exact (Reps.none _ _)); intro v311 w6 ho7 hb hg_ hnew_; clear hg_ hnew_; (first | rw [← Ny310.out] at ho7 | (simp only [Int.reduceToNat] at ho7; rw [← Ny310.out] at ho7)); have n_ : _ ∧ _ ∧ _ ∧ _ := ⟨zr HO309 hb, Aside0.mk (Kd.R_lower ho7 (zz HB)), zk BK306 hb, zbs hb⟩; clear HO309 BK306 HB; obtain ⟨HO309, HO312, BK306, HB⟩ := n_; clear hb ho7) | ((with_reducible refine gate_dst (N := 15) rfl ?_); refine Kd.R_lit (Kd.int .u64) _ 66 ?hg (N := 15) ?hd (xs := ([] : List Int)) (inner := []) (ok := fun _ => True) (okp := fun _ => True) ?hr ?hp (fun _ hk => hk) trivial (Below.refl _ _) (Nat.le_refl _) (by simp) ?_; (case hd => rfl); (case hg => rfl); (case hr => exact zgs); (case hp => exact (Reps.none _ _)); intro v314 w8 ho9 hb hg_ hnew_; clear hg_ hnew_; (first | rw [← Ny313.out] at ho9 | (simp only [Int.reduceToNat] at ho9; rw [← Ny313.out] at ho9)); have n_ : _ ∧ _ ∧ _ ∧ _ ∧ _ := ⟨Aside0.mk (Kd.R_elder' (ze HO309).out (Kd.R_base ho9) hb), zr HO312 hb, Aside0.mk (Kd.R_lower (Kd.R_new' ho9 (Kd.R_lt (ze HO309).out)) (zz HB)), zk BK306 hb, zbs hb⟩; clear HO309 HO312 BK306 HB; obtain ⟨HO309, HO312, HO315, BK306, HB⟩ := n_; clear hb ho9; have p316 : 0 ≤ (0 : Int) := (by omega); have q316 : 0 < (l0.length : Int) := of_decide_eq_true zA; obtain ⟨ad316, A316_1, c316_1, A316_2, c316_2, e316, hx316_0, hx316_1, hx316_2, hl316_1, hi316_1, hl316_2, hi316_2⟩ := at_T29 HR0.out 0 p316 q316; obtain rfl : adp0 = ad316 := (by injection e316); have qi316 : (0 < l0.length) = True := eq_true (by omega); (try simp only [z00, Nat.zero_mul, Addr.add_zero'] at hx316_0 hx316_1 hx316_2); replace hx316_0 := zc HB hx316_0; replace hx316_1 := zc HB hx316_1; replace hx316_2 := zc HB hx316_2; have HR316_1 := Aside0.mk hi316_1; have HC316_1 := Aside0.mk hl316_1; clear hi316_1 hl316_1; have HR316_2 := Aside0.mk hi316_2; have HC316_2 := Aside0.mk hl316_2; clear hi316_2 hl316_2; replace p316 := eq_true p316; replace q316 := eq_true q316) | ((with_reducible refine gate_dst (N := 7) rfl ?_); refine zbx 7 #[.int .i8 0, .slice none 0 0, .slice none 0 0] 29 ?_; intro gb317 hg w10 hbox hb; have n_ : _ ∧ _ ∧ _ ∧ _ ∧ _ ∧ _ ∧ _ ∧ _ ∧ _ ∧ _ := ⟨zr HO309 hb, zr HO312 hb, zr HO315 hb, zk BK306 hb, zbs hb, Aside0.mk (hbox), zg HB hg, zg HB hg, zn1 BK306 hg, zn2 BK306 hg⟩; clear HO309 HO312 HO315 BK306 HB; obtain ⟨HO309, HO312, HO315, BK306, HB, BK317, GW317, GE317, NB306_317, NB317_306⟩ := n_; clear hb hbox hg; have hnb11 := NB317_306.out; have hnc11 := NB306_317.out; obtain ⟨z12_0, z12_1, z12_2, y12_0, y12_1, y12_2⟩ := zB3 BK317))
 go_loopg [5, 6, 8] k (fun kq v5 v6 v8 w' => ∃ (x5_1 : List Int) (x6_1 : List Int) (x8_1 : Int) (x318001_1 : List (S61)) (u318001 : Value), v8 = .int .i64 x8_1 ∧ Aside0 (spec_l04Merge.l0 kq l0 t307 x5_1 x6_1 x8_1 ((rd_T29 l0 0).f0) x318001_1 = some (r1, r2, r3, r4)) ∧ Aside0 (kq ≤ k) ∧ Aside0 (Kd.R (Kd.int .u64) 66 w' w.heap.size (fun k_ => some k_ ≠ (v6 : Value).ownBlock) v308 t307) ∧ Aside0 (Kd.R (Kd.int .i64) 2 w' w.heap.size (fun _ => True) v5 x5_1) ∧ Aside0 (Kd.R (Kd.int .u64) 66 w' w.heap.size (fun k_ => some k_ ≠ (v308 : Value).ownBlock) v6 x6_1) ∧ Aside0 (Kd.R k61 61 w' w.heap.size (fun _ => True) u318001 x318001_1) ∧ Aside0 (w'.heap[gb306]? = some (.cells #[.int .i8 0, (.slice none 0 0), (.slice none 0 0)] 29 (0, 0))) ∧ Aside0 (w'.heap[gb317]? = some (.cells #[.int .i8 ((rd_T29 l0 0).f0), u318001, (.slice none 0 0)] 29 (0, 0))) ∧ Aside0 (Below w.heap.size w w'))
 case atStart => exact ⟨(y310), (y313), (0), (([] : List (S61))), (.slice none 0 0), zi, H', ⟨Nat.le_refl _⟩, ⟨by (with_reducible repeat (first | apply Kd.R_alloc | apply Kd.R_drewN | apply Kd.R_drew)); exact Kd.R_mono (Kd.R_far (p := ⟨gb317, 2, none⟩) (Kd.R_far (p := ⟨gb317, 1, none⟩) (Kd.R_far (p := ⟨gb317, 0, none⟩) (Kd.R_types HO309.out BK317.out (by decide)) (fun _ hk => hk.2) (.int .i8 ((rd_T29 l0 0).f0))) (fun _ hk => hk.2) (.slice none 0 0)) (fun _ hk => hk.2) (.slice none 0 0)) (fun _ hk => hk.1.2)⟩, ⟨Kd.R_mono (zs HO312 BK317).out (fun _ hk => trivial)⟩, ⟨by (with_reducible repeat (first | apply Kd.R_alloc | apply Kd.R_drewN | apply Kd.R_drew)); exact Kd.R_mono (Kd.R_far (p := ⟨gb317, 2, none⟩) (Kd.R_far (p := ⟨gb317, 1, none⟩) (Kd.R_far (p := ⟨gb317, 0, none⟩) (Kd.R_types HO315.out BK317.out (by decide)) (fun _ hk => hk.2) (.int .i8 ((rd_T29 l0 0).f0))) (fun _ hk => hk.2) (.slice none 0 0)) (fun _ hk => hk.2) (.slice none 0 0)) (fun _ hk => hk.1.2)⟩, ⟨by first | exact Kd.R_nil _ _ _ _ _ | exact Kd.N_nil _ _ _ _ _ | exact Kd.V_nil _ _ _ _ _ | exact Kd.Q_nil _ _ _ _ _ | exact Kd.S_nil _ _ _ _ _⟩, zf BK306 NB306_317, ⟨zp BK317⟩, zba⟩
 clear H'
 try clear c1
 try clear p2
 try clear c3
 try clear c3b0
 try clear c3b1
 try clear p3
 try clear q3
 try clear hx3
 try clear qi3
 try clear c4
 try clear c5
 try clear c11
 try clear z12_0 z12_1 z12_2 y12_0 y12_1 y12_2
 try clear hx316_0
 try clear hx316_1
 try clear hx316_2
 try clear p316
 try clear q316
 obtain ⟨x5_1, x6_1, x8_1, x318001_1, u318001, rfl, HA, HK1, HO_4, HO_5, HO_6, HO_318001, BK306, BK317, HB⟩ := hrel
 cases gk with
 | zero => exact absurd HA.out (by simp [spec_l04Merge.l0])
 | succ k1 => ?_
 have H := HA.out
 clear HA
 simp only [spec_l04Merge.l0] at H
 by_cases c13 : 0 < (l0.length : Int)
 rotate_left
 ·rw [if_neg c13] at H
  exact absurd H (by simp)
 rw [if_pos c13] at H
 have c13b0 : decide (0 < (l0.length : Int)) = true := decide_eq_true c13
 have c13b1 : decide (0 < l0.length) = true := decide_eq_true (by omega)
 clear c13
 by_cases c14 : x8_1 < (((rd_T29 l0 0).f1).length : Int)
 rotate_left
 ·rw [if_neg c14] at H
  have c14b0 : decide (x8_1 < (((rd_T29 l0 0).f1).length : Int)) = false := decide_eq_false c14
  clear c14
  have H' := Aside0.mk H
  clear H
  have p318 : 0 ≤ (0 : Int) := (by omega)
  have q318 : 0 < (l0.length : Int) := of_decide_eq_true zA
  obtain ⟨ad318, A318_1, c318_1, A318_2, c318_2, e318, hx318_0, hx318_1, hx318_2, hl318_1, hi318_1, hl318_2, hi318_2⟩ := at_T29 HR0.out 0 p318 q318
  obtain rfl : adp0 = ad318 := (by injection e318)
  have qi318 : (0 < l0.length) = True := eq_true (by omega)
  try simp only [z00, Nat.zero_mul, Addr.add_zero'] at hx318_0 hx318_1 hx318_2
  replace hx318_0 := zc HB hx318_0
  replace hx318_1 := zc HB hx318_1
  replace hx318_2 := zc HB hx318_2
  have HR318_1 := Aside0.mk hi318_1
  have HC318_1 := Aside0.mk hl318_1
  clear hi318_1 hl318_1
  have HR318_2 := Aside0.mk hi318_2
  have HC318_2 := Aside0.mk hl318_2
  clear hi318_2 hl318_2
  replace p318 := eq_true p318
  replace q318 := eq_true q318
  go_wp2
  go_loopg [11] k1 (fun kq v11 w' => ∃ (x11_2 : Int) (x318002_2 : List Int) (u318002 : Value), v11 = .int .i64 x11_2 ∧ Aside0 (spec_l04Merge.l2 kq l0 x5_1 x11_2 ((rd_T29 l0 0).f0) x318001_1 x318002_2 = some (r1, r2, r3, r4)) ∧ Aside0 (kq ≤ k1) ∧ Aside0 (Kd.R (Kd.int .i64) 2 w' w.heap.size (fun _ => True) u5 x5_1) ∧ Aside0 (Kd.R k61 61 w' w.heap.size (fun _ => True) u318001 x318001_1) ∧ Aside0 (Kd.R (Kd.int .i16) 54 w' w.heap.size (fun _ => True) u318002 x318002_2) ∧ Aside0 (w'.heap[gb306]? = some (.cells #[.int .i8 0, (.slice none 0 0), (.slice none 0 0)] 29 (0, 0))) ∧ Aside0 (w'.heap[gb317]? = some (.cells #[.int .i8 ((rd_T29 l0 0).f0), u318001, u318002] 29 (0, 0))) ∧ Aside0 (Below w.heap.size w w'))
  case atStart => exact ⟨(0), (([] : List Int)), (.slice none 0 0), zi, H', ⟨Nat.le_refl _⟩, ze HO_5, ze HO_318001, ⟨by first | exact Kd.R_nil _ _ _ _ _ | exact Kd.N_nil _ _ _ _ _ | exact Kd.V_nil _ _ _ _ _ | exact Kd.Q_nil _ _ _ _ _ | exact Kd.S_nil _ _ _ _ _⟩, zh BK306, zh BK317, zba⟩
  clear H'
  try clear c1
  try clear c2
  try clear p2
  try clear c3
  try clear c3b0
  try clear c3b1
  try clear p3
  try clear q3
  try clear hx3
  try clear qi3
  try clear c4
  try clear c5
  try clear c6
  try clear p6
  try clear c7
  try clear c11
  try clear c13
  try clear c13b0
  try clear c13b1
  try clear c14
  try clear c14b0
  try clear c16
  try clear c16b0
  try clear c17
  try clear c17b0
  try clear c18
  try clear c18b0
  try clear c19
  try clear c19b0
  try clear c20
  try clear c20b0
  try clear c20b1
  try clear c29
  try clear c29b0
  try clear c29b1
  try clear c30
  try clear c30b0
  try clear c30b1
  try clear c31
  try clear c31b0
  try clear p31
  try clear q31
  try clear hx31
  try clear qi31
  try clear c32
  try clear c32b0
  try clear p32
  try clear q32
  try clear hx32
  try clear qi32
  try clear c33
  try clear c33b0
  try clear p33
  try clear q33
  try clear hx33
  try clear c34
  try clear c34b0
  try clear c35
  try clear c35b0
  try clear c36
  try clear c36b0
  try clear c37
  try clear c37b0
  try clear c38
  try clear c38b0
  try clear c39
  try clear c40
  try clear c41
  try clear c44
  try clear c45
  try clear c50
  try clear c57
  try clear c57b0
  try clear c58
  try clear c59
  try clear c60
  try clear c63
  try clear c64
  try clear p64
  try clear c68
  try clear c75
  try clear z12_0 z12_1 z12_2
  try clear z46_0 z46_1 z46_2
  try clear z51_0 z51_1 z51_2
  try clear z52_0 z52_1 z52_2
  try clear z55_0 z55_1 z55_2
  try clear z65_0 z65_1 z65_2
  try clear z69_0 z69_1 z69_2
  try clear z70_0 z70_1 z70_2
  try clear z73_0 z73_1 z73_2
  try clear y12_0
  try clear y12_1
  try clear y12_2
  try clear y46_0
  try clear y46_1
  try clear y46_2
  try clear y51_0
  try clear y51_1
  try clear y51_2
  try clear y52_0
  try clear y52_1
  try clear y52_2
  try clear y55_0
  try clear y55_1
  try clear y55_2
  try clear y65_0
  try clear y65_1
  try clear y65_2
  try clear y69_0
  try clear y69_1
  try clear y69_2
  try clear y70_0
  try clear y70_1
  try clear y70_2
  try clear y73_0
  try clear y73_1
  try clear y73_2
  try clear hx316_0
  try clear hx316_1
  try clear hx316_2
  try clear hx318_0
  try clear hx318_1
  try clear hx318_2
  try clear hx319_0
  try clear hx320_0
  try clear hx321_0
  try clear hx321_1
  try clear hx321_2
  try clear hx322_0
  try clear hx322_1
  try clear hx322_2
  try clear hx324_0
  try clear hx325_0
  try clear hx326_0
  try clear hx336_0
  try clear p2
  try clear p3
  try clear p316
  try clear p318
  try clear p319
  try clear p320
  try clear p321
  try clear p322
  try clear p324
  try clear p325
  try clear p326
  try clear p336
  try clear p6
  try clear q3
  try clear q316
  try clear q318
  try clear q319
  try clear q320
  try clear q321
  try clear q322
  try clear q324
  try clear q325
  try clear q326
  try clear q336
  obtain ⟨x11_2, x318002_2, u318002, rfl, HA, HK2, HO_5, HO_318001, HO_318002, BK306, BK317, HB⟩ := hrel
  cases gk with
  | zero => exact absurd HA.out (by simp [spec_l04Merge.l2])
  | succ k2 => ?_
  have H := HA.out
  clear HA
  simp only [spec_l04Merge.l2] at H
  by_cases c78 : 0 < (l0.length : Int)
  rotate_left
  ·rw [if_neg c78] at H
   exact absurd H (by simp)
  rw [if_pos c78] at H
  have c78b0 : decide (0 < (l0.length : Int)) = true := decide_eq_true c78
  have c78b1 : decide (0 < l0.length) = true := decide_eq_true (by omega)
  clear c78
  by_cases c79 : x11_2 < (((rd_T29 l0 0).f2).length : Int)
  rotate_left
  ·rw [if_neg c79] at H
   have c79b0 : decide (x11_2 < (((rd_T29 l0 0).f2).length : Int)) = false := decide_eq_false c79
   clear c79
   simp only [Option.some.injEq, Prod.mk.injEq] at H
   obtain ⟨rfl, rfl, rfl, rfl⟩ := H
   have p349 : 0 ≤ (0 : Int) := (by omega)
   have q349 : 0 < (l0.length : Int) := of_decide_eq_true zA
   obtain ⟨ad349, A349_1, c349_1, A349_2, c349_2, e349, hx349_0, hx349_1, hx349_2, hl349_1, hi349_1, hl349_2, hi349_2⟩ := at_T29 HR0.out 0 p349 q349
   obtain rfl : adp0 = ad349 := (by injection e349)
   have qi349 : (0 < l0.length) = True := eq_true (by omega)
   try simp only [z00, Nat.zero_mul, Addr.add_zero'] at hx349_0 hx349_1 hx349_2
   replace hx349_0 := zc HB hx349_0
   replace hx349_1 := zc HB hx349_1
   replace hx349_2 := zc HB hx349_2
   have HR349_1 := Aside0.mk hi349_1
   have HC349_1 := Aside0.mk hl349_1
   clear hi349_1 hl349_1
   have HR349_2 := Aside0.mk hi349_2
   have HC349_2 := Aside0.mk hl349_2
   clear hi349_2 hl349_2
   replace p349 := eq_true p349
   replace q349 := eq_true q349
   have hnb89 := NB317_306.out
   have hnc89 := NB306_317.out
   obtain ⟨z90_0, z90_1, z90_2, y90_0, y90_1, y90_2⟩ := zB3 BK317
   obtain ⟨z91_0, z91_1, z91_2, y91_0, y91_1, y91_2⟩ := zB3 BK306
   obtain ⟨Ao92, co92, eo92⟩ := Kd.R_slice HO_318001.out
   subst eo92
   obtain ⟨Ao93, co93, eo93⟩ := Kd.R_slice HO_318002.out
   subst eo93
   go_wp2
   refine bodyPost_ret (results_ct rfl _ _ gb306 29 #[.int .i8 ((rd_T29 l0 0).f0), .slice Ao92 x318001_1.length co92, .slice Ao93 x318002_2.length co93] (0, 0) _ rfl (zp BK306) Try.underlying29 rfl (by kernel_rfl)) rfl ?_
   exact ⟨_, _, _, zv, Kd.R_mono (zs HO_318001 BK306).out (fun _ hk => trivial), Kd.R_mono (zs HO_318002 BK306).out (fun _ hk => trivial), Kd.R_mono (zs HO_5 BK306).out (fun _ hk => trivial), zbo⟩
  rw [if_pos c79] at H
  have c79b0 : decide (x11_2 < (((rd_T29 l0 0).f2).length : Int)) = true := decide_eq_true c79
  clear c79
  by_cases c80 : 0 ≤ x11_2
  rotate_left
  ·rw [if_neg c80] at H
   exact absurd H (by simp)
  rw [if_pos c80] at H
  have c80b0 : decide (0 ≤ x11_2) = true := decide_eq_true c80
  clear c80
  by_cases c81 : 0 ≤ (rd ((rd_T29 l0 0).f2) x11_2)
  rotate_left
  ·rw [if_neg c81] at H
   exact absurd H (by simp)
  rw [if_pos c81] at H
  have c81b0 : decide (0 ≤ (rd ((rd_T29 l0 0).f2) x11_2)) = true := decide_eq_true c81
  clear c81
  by_cases c82 : (rd ((rd_T29 l0 0).f2) x11_2) < (x5_1.length : Int)
  rotate_left
  ·rw [if_neg c82] at H
   exact absurd H (by simp)
  rw [if_pos c82] at H
  have c82b0 : decide ((rd ((rd_T29 l0 0).f2) x11_2) < (x5_1.length : Int)) = true := decide_eq_true c82
  clear c82
  by_cases c83 : x318002_2.length < 70368744177664
  rotate_left
  ·rw [if_neg c83] at H
   exact absurd H (by simp)
  rw [if_pos c83] at H
  have LMc83 := Aside0.mk c83
  clear c83
  obtain ⟨y353, hy353⟩ : ∃ y_ : List Int, y_ = (x318002_2 ++ [IntKind.i16.wrap (rd x5_1 (rd ((rd_T29 l0 0).f2) x11_2))]) := ⟨_, rfl⟩
  replace H : (spec_l04Merge.l2 k2 l0 x5_1 (wrap64 (x11_2 + 1)) ((rd_T29 l0 0).f0) x318001_1 y353) = some (r1, r2, r3, r4) := by first | (rw [hy353]; with_reducible exact H) | (have H2_ := (Option.bind_some _ _).symm.trans H; rw [hy353]; with_reducible exact H2_) | (have H2_ := (Option.bind_some _ _).symm.trans H; with_reducible exact H2_) | with_reducible exact H | (rw [hy353]; exact H) | exact H
  have Ny353 := Aside0.mk hy353
  clear hy353
  have H' := Aside0.mk H
  clear H
  have p349 : 0 ≤ (0 : Int) := (by omega)
  have q349 : 0 < (l0.length : Int) := of_decide_eq_true zA
  obtain ⟨ad349, A349_1, c349_1, A349_2, c349_2, e349, hx349_0, hx349_1, hx349_2, hl349_1, hi349_1, hl349_2, hi349_2⟩ := at_T29 HR0.out 0 p349 q349
  obtain rfl : adp0 = ad349 := (by injection e349)
  have qi349 : (0 < l0.length) = True := eq_true (by omega)
  try simp only [z00, Nat.zero_mul, Addr.add_zero'] at hx349_0 hx349_1 hx349_2
  replace hx349_0 := zc HB hx349_0
  replace hx349_1 := zc HB hx349_1
  replace hx349_2 := zc HB hx349_2
  have HR349_1 := Aside0.mk hi349_1
  have HC349_1 := Aside0.mk hl349_1
  clear hi349_1 hl349_1
  have HR349_2 := Aside0.mk hi349_2
  have HC349_2 := Aside0.mk hl349_2
  clear hi349_2 hl349_2
  replace p349 := eq_true p349
  replace q349 := eq_true q349
  try go_wp2
  have n_ : _ ∧ _ ∧ _ ∧ _ ∧ _ ∧ _ := ⟨Aside0.mk (Kd.R_drew HO_5.out), Aside0.mk (Kd.R_drew HO_318001.out), Aside0.mk (Kd.R_drew HO_318002.out), Aside0.mk (blk_drew BK306.out), Aside0.mk (blk_drew BK317.out), Aside0.mk (below_drew1 HB.out)⟩
  clear HO_5 HO_318001 HO_318002 BK306 BK317 HB
  obtain ⟨HO_5, HO_318001, HO_318002, BK306, BK317, HB⟩ := n_
  have p350 : 0 ≤ (0 : Int) := (by omega)
  have q350 : 0 < (l0.length : Int) := of_decide_eq_true zA
  obtain ⟨ad350, A350_1, c350_1, A350_2, c350_2, e350, hx350_0, hx350_1, hx350_2, hl350_1, hi350_1, hl350_2, hi350_2⟩ := at_T29 HR0.out 0 p350 q350
  have hw350_2 := hx350_2
  try simp only [z00, Nat.zero_mul, Addr.add_zero'] at hw350_2
  have hw350_1 := hx350_1
  try simp only [z00, Nat.zero_mul, Addr.add_zero'] at hw350_1
  have hw350_0 := hx350_0
  try simp only [z00, Nat.zero_mul, Addr.add_zero'] at hw350_0
  obtain rfl : adp0 = ad350 := (by injection e350)
  have qi350 : (0 < l0.length) = True := eq_true (by omega)
  try simp only [z00, Nat.zero_mul, Addr.add_zero'] at hx350_0 hx350_1 hx350_2
  replace hx350_0 := zc HB hx350_0
  replace hx350_1 := zc HB hx350_1
  replace hx350_2 := zc HB hx350_2
  have HR350_1 := Aside0.mk hi350_1
  have HC350_1 := Aside0.mk hl350_1
  clear hi350_1 hl350_1
  have HR350_2 := Aside0.mk hi350_2
  have HC350_2 := Aside0.mk hl350_2
  clear hi350_2 hl350_2
  replace p350 := eq_true p350
  replace q350 := eq_true q350
  have p351 : 0 ≤ (x11_2 : Int) := of_decide_eq_true zA
  have q351 : x11_2 < (((rd_T29 l0 0).f2).length : Int) := of_decide_eq_true zA
  obtain ⟨ad351, e351, hx351_0⟩ := Kd.at_int HR350_2.out x11_2 p351 q351
  have hw351_0 := hx351_0
  cases e351
  replace hx351_0 := zc HB hx351_0
  replace p351 := eq_true p351
  replace q351 := eq_true q351
  obtain ⟨Ao85, co85, eo85⟩ := Kd.R_slice HO_5.out
  (first | subst eo85 | (injection eo85 with f1_ f2_ f3_; have f4_ := f1_.symm; have f5_ := f3_.symm; clear f1_ f2_ f3_; subst f4_; subst f5_))
  have p352 : 0 ≤ ((rd ((rd_T29 l0 0).f2) x11_2) : Int) := of_decide_eq_true zA
  have q352 : (rd ((rd_T29 l0 0).f2) x11_2) < (x5_1.length : Int) := of_decide_eq_true zA
  obtain ⟨ad352, e352, hx352_0⟩ := Kd.at_int (Kd.R_reads' HO_5.out).2.2 (rd ((rd_T29 l0 0).f2) x11_2) p352 q352
  cases e352
  replace p352 := eq_true p352
  replace q352 := eq_true q352
  refine start_ (n := 17) (S := fun w' => w'.cell? ⟨gb317, 0, none⟩ = some (.int .i8 ((rd_T29 l0 0).f0)) ∧ w'.cell? ⟨gb317, 1, none⟩ = some (u318001) ∧ w'.cell? ⟨gb317, 2, none⟩ = some (u318002) ∧ w'.cell? adp0 = some (.int .i8 ((rd_T29 l0 0).f0)) ∧ w'.cell? ⟨adp0.block, adp0.off + 1, none⟩ = some (.slice A350_1 ((rd_T29 l0 0).f1).length c350_1) ∧ w'.cell? ⟨adp0.block, adp0.off + 2, none⟩ = some (.slice (some ad351) ((rd_T29 l0 0).f2).length c350_2) ∧ w'.cell? (ad351.add (x11_2).toNat) = some (.int .i16 (rd ((rd_T29 l0 0).f2) x11_2)) ∧ w'.cell? (ad352.add ((rd ((rd_T29 l0 0).f2) x11_2)).toNat) = some (.int .i64 (rd x5_1 (rd ((rd_T29 l0 0).f2) x11_2)))) (ds := [14, 16]) (zq 17 0) (by kernel_rfl) rfl rfl ⟨(blk_cell BK317.out 0).trans rfl, (blk_cell BK317.out 1).trans rfl, (blk_cell BK317.out 2).trans rfl, (zc HB hw350_0), (zc HB hw350_1), (zc HB hw350_2), (zc HB hw351_0), hx352_0⟩ (fun hHeld => ?_); refine with_tabW spec_l04Merge.tab22 spec_l04Merge.bits22 (fun HT_ HW_ => ?_)
  generalize wr.drew = w84 at HO_5 HO_318001 HO_318002 BK306 BK317 HB HR350_1 HR350_2 hx350_0 hx350_1 hx350_2 hx351_0 hx352_0 hHeld ⊢
  refine zpu 0 (some 101) (zq 17 1) HT_ ?_
  refine zpu 2 (some 103) (zq 17 5) HT_ ?_
  refine zpu 3 (some 104) (zq 17 13) HT_ ?_
  refine zpu 4 (some 105) (zq 17 29) HT_ ?_
  refine zpu 5 (some 106) (zq 17 61) HT_ ?_
  refine zpu 7 (some 108) (zq 17 189) HT_ ?_
  refine ztk 1 (some 102) (zq 17 191) HT_ HW_ rfl hHeld (Or.inl ⟨by rfl, by (rintro w' ⟨s0, s1, s2, s3, s4, s5, s6, s7⟩; go_simp; with_reducible rfl)⟩) ?_
  refine ztk 6 (some 107) (zq 17 255) HT_ HW_ rfl hHeld (Or.inl ⟨by rfl, by (rintro w' ⟨s0, s1, s2, s3, s4, s5, s6, s7⟩; go_simp; with_reducible rfl)⟩) ?_
  refine zpu 8 (some 109) (zq 17 511) HT_ ?_
  refine ztk 9 (some 110) (zq 17 1023) HT_ HW_ rfl hHeld (Or.inl ⟨by rfl, by (rintro w' ⟨s0, s1, s2, s3, s4, s5, s6, s7⟩; go_simp; with_reducible rfl)⟩) ?_
  refine zpu 10 (some 111) (zq 17 2047) HT_ ?_
  refine ztk 11 (some 112) (zq 17 4095) HT_ HW_ rfl hHeld (Or.inl ⟨by rfl, by (rintro w' ⟨s0, s1, s2, s3, s4, s5, s6, s7⟩; go_simp; with_reducible rfl)⟩) ?_
  refine zpu 12 (some 113) (zq 17 8191) HT_ ?_
  refine one_ (i := 13) (N := some 114) (zq 17 16383) rfl rfl (one_of HT_.out (by kernel_rfl)) (by decide) (fun K hK => ?_)
  refine value_ (w1 := ?_) (v := ?_) (by rfl) rfl ?_ ?_
  rotate_left 2
  ·go_simp
   constructor
   rotate_left
   ·rfl
   rfl
  refine hK.out _ _ ⟨(blk_cell (blk_alloc BK317.out _) 0).trans rfl, (blk_cell (blk_alloc BK317.out _) 1).trans rfl, (blk_cell (blk_alloc BK317.out _) 2).trans rfl, (World.cell?_alloc_lt _ _ _ (World.block_lt_of_cell? _ _ ((zc HB hw350_0)))).trans ((zc HB hw350_0)), (World.cell?_alloc_lt _ _ _ (World.block_lt_of_cell? _ _ ((zc HB hw350_1)))).trans ((zc HB hw350_1)), (World.cell?_alloc_lt _ _ _ (World.block_lt_of_cell? _ _ ((zc HB hw350_2)))).trans ((zc HB hw350_2)), (World.cell?_alloc_lt _ _ _ (World.block_lt_of_cell? _ _ ((zc HB hw351_0)))).trans ((zc HB hw351_0)), (World.cell?_alloc_lt _ _ _ (World.block_lt_of_cell? _ _ (hHeld.2.2.2.2.2.2.2))).trans (hHeld.2.2.2.2.2.2.2)⟩ (fun hHeld => ?_)
  clear hK K
  refine norm_ (a' := ?_) ?_ ?_
  rotate_left
  ·show Act.put _ (some 114) _ = _
   exact zap
  refine last_ (i := 14) (N := some 115) (zq 17 32767) rfl rfl (one_of HT_.out (by kernel_rfl)) (by decide) (fun K hK => ?_)
  refine Kd.R_append_step (Kd.int .i16) (w0 := w) w.heap.size (by rfl) (.tmp 102) (.tmp 114) 27 54 (.int .i16 0) 2 rfl Try.underlying27 info54 rfl (by decide) (by omega) u318002 x318002_2 (IntKind.i16.wrap (rd x5_1 (rd ((rd_T29 l0 0).f2) x11_2))) [.int .i16 (IntKind.i16.wrap (rd x5_1 (rd ((rd_T29 l0 0).f2) x11_2)))] (fun _ => True) (fun _ => False) rfl rfl ?aP (fun _ hk => hk.elim) ?aF ?aO ?aB ?aS ?aL ?_
  (case aP => exact rfl)
  (case aB => exact zbo)
  (case aF => exact (fun _ _ => trivial))
  (case aO => exact (ze HO_318002).out)
  (case aS => exact (zz HB))
  (case aL => have := LMc83.out; omega)
  intro v354 w86 ho hb hg hat
  rw [← Ny353.out] at ho
  have n_ : _ ∧ _ ∧ _ ∧ _ ∧ _ ∧ _ := ⟨Aside0.mk (Kd.R_over' (ze HO_5).out (Kd.R_typed (ze HO_318002).out) (by decide) hg), Aside0.mk (Kd.R_over' (ze HO_318001).out (Kd.R_typed (ze HO_318002).out) (by decide) hg), Aside0.mk (blk_grown (g := gb306) (o := .cells #[.int .i8 0, .slice none 0 0, .slice none 0 0] 29 (0, 0)) (zh BK306).out hg (Kd.R_ne HO_318002.out BK306.out (by decide))), Aside0.mk (blk_grown (g := gb317) (o := .cells #[.int .i8 ((rd_T29 l0 0).f0), u318001, u318002] 29 (0, 0)) (zh BK317).out hg (Kd.R_ne HO_318002.out BK317.out (by decide))), Aside0.mk (hb), Aside0.mk (ho)⟩
  clear HO_5 HO_318001 BK306 BK317 HB HO_318002
  obtain ⟨HO_5, HO_318001, BK306, BK317, HB, HO355⟩ := n_
  clear ho hb hg hat
  obtain ⟨Ao87, co87, eo87⟩ := Kd.R_slice HO355.out
  (first | subst eo87 | (injection eo87 with f1_ f2_ f3_; have f4_ := f1_.symm; have f5_ := f3_.symm; clear f1_ f2_ f3_; subst f4_; subst f5_))
  refine hK.out _ _ ?_
  clear hK K
  refine norm_ (a' := ?_) ?_ ?_
  rotate_left
  ·show Act.put _ (some 115) _ = _
   exact zap
  refine zpu 15 (some 116) (zq 17 65535) HT_ ?_
  refine last_ (i := 16) (N := none) (zq 17 131071) rfl rfl (one_of HT_.out (by kernel_rfl)) (by decide) (fun K hK => ?_)
  have hs88 : w86.cell? ⟨gb317, 2, none⟩ = some (u318002) := (blk_cell BK317.out 2).trans rfl
  have hfs88 := blk_frozen BK317.out 2
  have hns88_0 := NB306_317.out
  have hms88_0 := NB317_306.out
  refine skip_ (w1 := ?_) (by rfl) rfl ?_ ?_
  rotate_left
  ·go_simp
   rfl
  refine hK.out _ _ ?_
  clear hK K
  refine done_ (done_of HT_.out (by kernel_rfl)) ?_
  try go_wp2
  go_roundg k2
  case measure => have := HK1.out; have := HK2.out; omega
  case rel => exact ⟨(wrap64 (x11_2 + 1)), (y353), (.slice Ao87 y353.length co87), zi, H', ⟨by have := HK1.out; have := HK2.out; omega⟩, ⟨Kd.R_mono (zs HO_5 BK317).out (fun _ hk => trivial)⟩, ⟨Kd.R_mono (zs HO_318001 BK317).out (fun _ hk => trivial)⟩, ⟨Kd.R_mono (zs HO355 BK317).out (fun _ hk => trivial)⟩, zf BK306 NB306_317, ⟨zp BK317⟩, zba⟩
 rw [if_pos c14] at H
 have c14b0 : decide (x8_1 < (((rd_T29 l0 0).f1).length : Int)) = true := decide_eq_true c14
 clear c14
 have HC15 := Aside0.mk H
 clear H
 have p318 : 0 ≤ (0 : Int) := (by omega)
 have q318 : 0 < (l0.length : Int) := of_decide_eq_true zA
 obtain ⟨ad318, A318_1, c318_1, A318_2, c318_2, e318, hx318_0, hx318_1, hx318_2, hl318_1, hi318_1, hl318_2, hi318_2⟩ := at_T29 HR0.out 0 p318 q318
 obtain rfl : adp0 = ad318 := (by injection e318)
 have qi318 : (0 < l0.length) = True := eq_true (by omega)
 try simp only [z00, Nat.zero_mul, Addr.add_zero'] at hx318_0 hx318_1 hx318_2
 replace hx318_0 := zc HB hx318_0
 replace hx318_1 := zc HB hx318_1
 replace hx318_2 := zc HB hx318_2
 have HR318_1 := Aside0.mk hi318_1
 have HC318_1 := Aside0.mk hl318_1
 clear hi318_1 hl318_1
 have HR318_2 := Aside0.mk hi318_2
 have HC318_2 := Aside0.mk hl318_2
 clear hi318_2 hl318_2
 replace p318 := eq_true p318
 replace q318 := eq_true q318
 go_upto_block 2 with (fail)
 go_cut [9] (fun v9 wc => ∃ (kq : Nat) (x9_14 : Int), v9 = .int .i64 x9_14 ∧ Aside0 (spec_l04Merge.j2 kq l0 t307 x5_1 x6_1 x8_1 x9_14 ((rd_T29 l0 0).f0) x318001_1 = some (r1, r2, r3, r4)) ∧ Aside0 (kq ≤ k1) ∧ Aside0 (Kd.R (Kd.int .u64) 66 wc w.heap.size (fun k_ => some k_ ≠ (u6 : Value).ownBlock) v308 t307) ∧ Aside0 (Kd.R (Kd.int .i64) 2 wc w.heap.size (fun _ => True) u5 x5_1) ∧ Aside0 (Kd.R (Kd.int .u64) 66 wc w.heap.size (fun k_ => some k_ ≠ (v308 : Value).ownBlock) u6 x6_1) ∧ Aside0 (Kd.R k61 61 wc w.heap.size (fun _ => True) u318001 x318001_1) ∧ Aside0 (wc.heap[gb306]? = some (.cells #[.int .i8 0, (.slice none 0 0), (.slice none 0 0)] 29 (0, 0))) ∧ Aside0 (wc.heap[gb317]? = some (.cells #[.int .i8 ((rd_T29 l0 0).f0), u318001, (.slice none 0 0)] 29 (0, 0))) ∧ Aside0 (Below w.heap.size w wc))
 case first =>
  have H := HC15.out
  clear HC15
  have H' := Aside0.mk H
  clear H
  go_wp2
  go_loopg [9] k1 (fun kq v9 w' => ∃ (x9_2 : Int), v9 = .int .i64 x9_2 ∧ Aside0 (spec_l04Merge.l1 kq l0 t307 x5_1 x6_1 x8_1 x9_2 ((rd_T29 l0 0).f0) x318001_1 = some (r1, r2, r3, r4)) ∧ Aside0 (kq ≤ k1) ∧ Aside0 (Kd.R (Kd.int .u64) 66 w' w.heap.size (fun k_ => some k_ ≠ (u6 : Value).ownBlock) v308 t307) ∧ Aside0 (Kd.R (Kd.int .i64) 2 w' w.heap.size (fun _ => True) u5 x5_1) ∧ Aside0 (Kd.R (Kd.int .u64) 66 w' w.heap.size (fun k_ => some k_ ≠ (v308 : Value).ownBlock) u6 x6_1) ∧ Aside0 (Kd.R k61 61 w' w.heap.size (fun _ => True) u318001 x318001_1) ∧ Aside0 (w'.heap[gb306]? = some (.cells #[.int .i8 0, (.slice none 0 0), (.slice none 0 0)] 29 (0, 0))) ∧ Aside0 (w'.heap[gb317]? = some (.cells #[.int .i8 ((rd_T29 l0 0).f0), u318001, (.slice none 0 0)] 29 (0, 0))) ∧ Aside0 (Below w.heap.size w w'))
  case atStart => exact ⟨(0), zi, H', ⟨Nat.le_refl _⟩, ze HO_4, ze HO_5, ze HO_6, ze HO_318001, zh BK306, zh BK317, zba⟩
  clear H'
  try clear c1
  try clear p2
  try clear c3
  try clear c3b0
  try clear c3b1
  try clear p3
  try clear q3
  try clear hx3
  try clear qi3
  try clear c4
  try clear c5
  try clear c11
  try clear c13
  try clear c13b0
  try clear c13b1
  try clear c14
  try clear c14b0
  try clear z12_0 z12_1 z12_2 y12_0 y12_1 y12_2
  try clear hx316_0
  try clear hx316_1
  try clear hx316_2
  try clear hx318_0
  try clear hx318_1
  try clear hx318_2
  try clear p2
  try clear p3
  try clear p316
  try clear p318
  try clear q3
  try clear q316
  try clear q318
  obtain ⟨x9_2, rfl, HA, HK2, HO_4, HO_5, HO_6, HO_318001, BK306, BK317, HB⟩ := hrel
  cases gk with
  | zero => exact absurd HA.out (by simp [spec_l04Merge.l1])
  | succ k2 => ?_
  have H := HA.out
  clear HA
  simp only [spec_l04Merge.l1] at H
  by_cases c16 : x9_2 < (x6_1.length : Int)
  rotate_left
  ·rw [if_neg c16] at H
   have c16b0 : decide (x9_2 < (x6_1.length : Int)) = false := decide_eq_false c16
   clear c16
   (first | rw [c16b0] | (simp only [i64_w, i32_w]; rw [c16b0]) | (have h_ := c16b0; simp only [bne] at h_; rw [h_]) | skip)
   have H' := Aside0.mk H
   clear H
   try go_wp2
   have n_ : _ ∧ _ ∧ _ ∧ _ ∧ _ ∧ _ ∧ _ := ⟨Aside0.mk (Kd.R_drew HO_4.out), Aside0.mk (Kd.R_drew HO_5.out), Aside0.mk (Kd.R_drew HO_6.out), Aside0.mk (Kd.R_drew HO_318001.out), Aside0.mk (blk_drew BK306.out), Aside0.mk (blk_drew BK317.out), Aside0.mk (below_drew1 HB.out)⟩
   clear HO_4 HO_5 HO_6 HO_318001 BK306 BK317 HB
   obtain ⟨HO_4, HO_5, HO_6, HO_318001, BK306, BK317, HB⟩ := n_
   obtain ⟨Ao28, co28, eo28⟩ := Kd.R_slice HO_6.out
   (first | subst eo28 | (injection eo28 with f1_ f2_ f3_; have f4_ := f1_.symm; have f5_ := f3_.symm; clear f1_ f2_ f3_; subst f4_; subst f5_))
   refine start_ (n := 15) (S := fun w' => True) (ds := []) (zq 15 0) (by kernel_rfl) rfl rfl trivial (fun hHeld => ?_); refine with_tabW spec_l04Merge.tab9 spec_l04Merge.bits9 (fun HT_ HW_ => ?_)
   generalize wr.drew = w27 at HO_4 HO_5 HO_6 HO_318001 BK306 BK317 HB hHeld ⊢
   refine zpu 0 (some 30) (zq 15 1) HT_ ?_
   refine zpu 1 (some 31) (zq 15 3) HT_ ?_
   refine zpu 2 (some 32) (zq 15 7) HT_ ?_
   refine zpu 3 (some 33) (zq 15 15) HT_ ?_
   refine zpu 4 (some 34) (zq 15 31) HT_ ?_
   refine zpn 5 (some 35) (zq 15 63) HT_ ?_
   refine zpn 6 (some 36) (zq 15 127) HT_ ?_
   refine zpn 7 (some 37) (zq 15 255) HT_ ?_
   refine zpn 8 (some 38) (zq 15 511) HT_ ?_
   refine zpn 9 (some 39) (zq 15 1023) HT_ ?_
   refine zpn 10 (some 40) (zq 15 2047) HT_ ?_
   refine zpn 11 (some 41) (zq 15 4095) HT_ ?_
   refine zpn 12 (some 42) (zq 15 8191) HT_ ?_
   refine zpn 13 (some 43) (zq 15 16383) HT_ ?_
   refine zpu 14 (some 44) (zq 15 32767) HT_ ?_
   refine done_ (done_of HT_.out (by kernel_rfl)) ?_
   try go_wp2
   go_meet
   case rel => exact ⟨_, (x9_2), zi, H', ⟨by have := HK1.out; have := HK2.out; first | omega | exact Nat.le_refl _⟩, ze HO_4, ze HO_5, ze HO_6, ze HO_318001, zh BK306, zh BK317, zba⟩
  rw [if_pos c16] at H
  have c16b0 : decide (x9_2 < (x6_1.length : Int)) = true := decide_eq_true c16
  clear c16
  (first | rw [c16b0] | (simp only [i64_w, i32_w]; rw [c16b0]) | (have h_ := c16b0; simp only [bne] at h_; rw [h_]) | skip)
  by_cases c17 : 0 ≤ x9_2
  rotate_left
  ·rw [if_neg c17] at H
   exact absurd H (by simp)
  rw [if_pos c17] at H
  have c17b0 : decide (0 ≤ x9_2) = true := decide_eq_true c17
  clear c17
  by_cases c18 : 0 ≤ x8_1
  rotate_left
  ·rw [if_neg c18] at H
   exact absurd H (by simp)
  rw [if_pos c18] at H
  have c18b0 : decide (0 ≤ x8_1) = true := decide_eq_true c18
  clear c18
  by_cases c19 : x8_1 < (t307.length : Int)
  rotate_left
  ·rw [if_neg c19] at H
   exact absurd H (by simp)
  rw [if_pos c19] at H
  have c19b0 : decide (x8_1 < (t307.length : Int)) = true := decide_eq_true c19
  clear c19
  by_cases c20 : (rd x6_1 x9_2) = (rd t307 x8_1)
  ·rw [if_pos c20] at H
   have c20b0 : ((rd x6_1 x9_2) == (rd t307 x8_1)) = true := beq_iff_eq.mpr c20
   have c20b1 : ((rd x6_1 x9_2) != (rd t307 x8_1)) = false := bne_eq_false_iff_eq.mpr c20
   clear c20
   have H' := Aside0.mk H
   clear H
   try go_wp2
   have n_ : _ ∧ _ ∧ _ ∧ _ ∧ _ ∧ _ ∧ _ := ⟨Aside0.mk (Kd.R_drew HO_4.out), Aside0.mk (Kd.R_drew HO_5.out), Aside0.mk (Kd.R_drew HO_6.out), Aside0.mk (Kd.R_drew HO_318001.out), Aside0.mk (blk_drew BK306.out), Aside0.mk (blk_drew BK317.out), Aside0.mk (below_drew1 HB.out)⟩
   clear HO_4 HO_5 HO_6 HO_318001 BK306 BK317 HB
   obtain ⟨HO_4, HO_5, HO_6, HO_318001, BK306, BK317, HB⟩ := n_
   obtain ⟨Ao22, co22, eo22⟩ := Kd.R_slice HO_6.out
   (first | subst eo22 | (injection eo22 with f1_ f2_ f3_; have f4_ := f1_.symm; have f5_ := f3_.symm; clear f1_ f2_ f3_; subst f4_; subst f5_))
   have p319 : 0 ≤ (x9_2 : Int) := of_decide_eq_true zA
   have q319 : x9_2 < (x6_1.length : Int) := of_decide_eq_true zA
   obtain ⟨ad319, e319, hx319_0⟩ := Kd.at_int (Kd.R_reads' HO_6.out).2.2 x9_2 p319 q319
   cases e319
   replace p319 := eq_true p319
   replace q319 := eq_true q319
   obtain ⟨Ao23, co23, eo23⟩ := Kd.R_slice HO_4.out
   (first | subst eo23 | (injection eo23 with f1_ f2_ f3_; have f4_ := f1_.symm; have f5_ := f3_.symm; clear f1_ f2_ f3_; subst f4_; subst f5_))
   have p320 : 0 ≤ (x8_1 : Int) := of_decide_eq_true zA
   have q320 : x8_1 < (t307.length : Int) := of_decide_eq_true zA
   obtain ⟨ad320, e320, hx320_0⟩ := Kd.at_int (Kd.R_reads' HO_4.out).2.2 x8_1 p320 q320
   cases e320
   replace p320 := eq_true p320
   replace q320 := eq_true q320
   refine start_ (n := 15) (S := fun w' => w'.cell? (ad319.add (x9_2).toNat) = some (.int .u64 (rd x6_1 x9_2)) ∧ w'.cell? (ad320.add (x8_1).toNat) = some (.int .u64 (rd t307 x8_1))) (ds := []) (zq 15 0) (by kernel_rfl) rfl rfl ⟨hx319_0, hx320_0⟩ (fun hHeld => ?_); refine with_tabW spec_l04Merge.tab9 spec_l04Merge.bits9 (fun HT_ HW_ => ?_)
   generalize wr.drew = w21 at HO_4 HO_5 HO_6 HO_318001 BK306 BK317 HB hx319_0 hx320_0 hHeld ⊢
   refine zpu 0 (some 30) (zq 15 1) HT_ ?_
   refine zpu 1 (some 31) (zq 15 3) HT_ ?_
   refine zpu 2 (some 32) (zq 15 7) HT_ ?_
   refine zpu 3 (some 33) (zq 15 15) HT_ ?_
   refine zpu 4 (some 34) (zq 15 31) HT_ ?_
   refine zpu 5 (some 35) (zq 15 63) HT_ ?_
   refine zpu 6 (some 36) (zq 15 127) HT_ ?_
   refine zpu 7 (some 37) (zq 15 255) HT_ ?_
   refine zpu 9 (some 39) (zq 15 767) HT_ ?_
   refine zpu 10 (some 40) (zq 15 1791) HT_ ?_
   refine zpu 11 (some 41) (zq 15 3839) HT_ ?_
   refine ztk 8 (some 38) (zq 15 4095) HT_ HW_ rfl hHeld (Or.inl ⟨by rfl, by (rintro w' ⟨s0, s1⟩; go_simp; with_reducible rfl)⟩) ?_
   refine ztk 12 (some 42) (zq 15 8191) HT_ HW_ rfl hHeld (Or.inl ⟨by rfl, by (rintro w' ⟨s0, s1⟩; go_simp; with_reducible rfl)⟩) ?_
   refine zpu 13 (some 43) (zq 15 16383) HT_ ?_
   refine zpu 14 (some 44) (zq 15 32767) HT_ ?_
   refine done_ (done_of HT_.out (by kernel_rfl)) ?_
   try go_wp2
   go_meet
   case rel => exact ⟨_, (x9_2), zi, H', ⟨by have := HK1.out; have := HK2.out; first | omega | exact Nat.le_refl _⟩, ze HO_4, ze HO_5, ze HO_6, ze HO_318001, zh BK306, zh BK317, zba⟩
  rw [if_neg c20] at H
  have c20b0 : ((rd x6_1 x9_2) == (rd t307 x8_1)) = false := beq_eq_false_iff_ne.mpr c20
  have c20b1 : ((rd x6_1 x9_2) != (rd t307 x8_1)) = true := bne_iff_ne.mpr c20
  have H' := Aside0.mk H
  clear H
  try go_wp2
  have n_ : _ ∧ _ ∧ _ ∧ _ ∧ _ ∧ _ ∧ _ := ⟨Aside0.mk (Kd.R_drew HO_4.out), Aside0.mk (Kd.R_drew HO_5.out), Aside0.mk (Kd.R_drew HO_6.out), Aside0.mk (Kd.R_drew HO_318001.out), Aside0.mk (blk_drew BK306.out), Aside0.mk (blk_drew BK317.out), Aside0.mk (below_drew1 HB.out)⟩
  clear HO_4 HO_5 HO_6 HO_318001 BK306 BK317 HB
  obtain ⟨HO_4, HO_5, HO_6, HO_318001, BK306, BK317, HB⟩ := n_
  obtain ⟨Ao25, co25, eo25⟩ := Kd.R_slice HO_6.out
  (first | subst eo25 | (injection eo25 with f1_ f2_ f3_; have f4_ := f1_.symm; have f5_ := f3_.symm; clear f1_ f2_ f3_; subst f4_; subst f5_))
  have p319 : 0 ≤ (x9_2 : Int) := of_decide_eq_true zA
  have q319 : x9_2 < (x6_1.length : Int) := of_decide_eq_true zA
  obtain ⟨ad319, e319, hx319_0⟩ := Kd.at_int (Kd.R_reads' HO_6.out).2.2 x9_2 p319 q319
  cases e319
  replace p319 := eq_true p319
  replace q319 := eq_true q319
  obtain ⟨Ao26, co26, eo26⟩ := Kd.R_slice HO_4.out
  (first | subst eo26 | (injection eo26 with f1_ f2_ f3_; have f4_ := f1_.symm; have f5_ := f3_.symm; clear f1_ f2_ f3_; subst f4_; subst f5_))
  have p320 : 0 ≤ (x8_1 : Int) := of_decide_eq_true zA
  have q320 : x8_1 < (t307.length : Int) := of_decide_eq_true zA
  obtain ⟨ad320, e320, hx320_0⟩ := Kd.at_int (Kd.R_reads' HO_4.out).2.2 x8_1 p320 q320
  cases e320
  replace p320 := eq_true p320
  replace q320 := eq_true q320
  refine start_ (n := 15) (S := fun w' => w'.cell? (ad319.add (x9_2).toNat) = some (.int .u64 (rd x6_1 x9_2)) ∧ w'.cell? (ad320.add (x8_1).toNat) = some (.int .u64 (rd t307 x8_1))) (ds := []) (zq 15 0) (by kernel_rfl) rfl rfl ⟨hx319_0, hx320_0⟩ (fun hHeld => ?_); refine with_tabW spec_l04Merge.tab9 spec_l04Merge.bits9 (fun HT_ HW_ => ?_)
  generalize wr.drew = w24 at HO_4 HO_5 HO_6 HO_318001 BK306 BK317 HB hx319_0 hx320_0 hHeld ⊢
  refine zpu 0 (some 30) (zq 15 1) HT_ ?_
  refine zpu 1 (some 31) (zq 15 3) HT_ ?_
  refine zpu 2 (some 32) (zq 15 7) HT_ ?_
  refine zpu 3 (some 33) (zq 15 15) HT_ ?_
  refine zpu 4 (some 34) (zq 15 31) HT_ ?_
  refine zpu 5 (some 35) (zq 15 63) HT_ ?_
  refine zpu 6 (some 36) (zq 15 127) HT_ ?_
  refine zpu 7 (some 37) (zq 15 255) HT_ ?_
  refine zpu 9 (some 39) (zq 15 767) HT_ ?_
  refine zpu 10 (some 40) (zq 15 1791) HT_ ?_
  refine zpu 11 (some 41) (zq 15 3839) HT_ ?_
  refine ztk 8 (some 38) (zq 15 4095) HT_ HW_ rfl hHeld (Or.inl ⟨by rfl, by (rintro w' ⟨s0, s1⟩; go_simp; with_reducible rfl)⟩) ?_
  refine ztk 12 (some 42) (zq 15 8191) HT_ HW_ rfl hHeld (Or.inl ⟨by rfl, by (rintro w' ⟨s0, s1⟩; go_simp; with_reducible rfl)⟩) ?_
  refine zpu 13 (some 43) (zq 15 16383) HT_ ?_
  refine zpu 14 (some 44) (zq 15 32767) HT_ ?_
  refine done_ (done_of HT_.out (by kernel_rfl)) ?_
  try go_wp2
  go_roundg k2
  case measure => have := HK1.out; have := HK2.out; omega
  case rel => exact ⟨(wrap64 (x9_2 + 1)), zi, H', ⟨by have := HK1.out; have := HK2.out; omega⟩, ze HO_4, ze HO_5, ze HO_6, ze HO_318001, zh BK306, zh BK317, zba⟩
 clear HC15
 try clear c1
 try clear c2
 try clear p2
 try clear c3
 try clear c3b0
 try clear c3b1
 try clear p3
 try clear q3
 try clear hx3
 try clear qi3
 try clear c4
 try clear c5
 try clear p6
 try clear c11
 try clear c13
 try clear c13b0
 try clear c13b1
 try clear c14
 try clear c14b0
 try clear c16
 try clear c16b0
 try clear c17
 try clear c17b0
 try clear c18
 try clear c18b0
 try clear c19
 try clear c19b0
 try clear c20
 try clear c20b0
 try clear c20b1
 try clear z12_0 z12_1 z12_2 y12_0 y12_1 y12_2
 try clear hx316_0
 try clear hx316_1
 try clear hx316_2
 try clear hx318_0
 try clear hx318_1
 try clear hx318_2
 try clear hx319_0
 try clear hx320_0
 try clear p2
 try clear p3
 try clear p316
 try clear p318
 try clear p319
 try clear p320
 try clear q3
 try clear q316
 try clear q318
 try clear q319
 try clear q320
 obtain ⟨kq, x9_14, rfl, HA, HJ14, HO_4, HO_5, HO_6, HO_318001, BK306, BK317, HB⟩ := hcut
 cases kq with
 | zero => exact absurd HA.out (by simp [spec_l04Merge.j2])
 | succ kj14 => ?_
 have H := HA.out
 clear HA
 simp only [spec_l04Merge.j2] at H
 by_cases c29 : x9_14 = (x6_1.length : Int)
 rotate_left
 ·rw [if_neg c29] at H
  have c29b0 : (x9_14 == (x6_1.length : Int)) = false := beq_eq_false_iff_ne.mpr c29
  have c29b1 : (x9_14 != (x6_1.length : Int)) = true := bne_iff_ne.mpr c29
  by_cases c75 : x5_1.length < 17592186044416
  rotate_left
  ·rw [if_neg c75] at H
   exact absurd H (by simp)
  rw [if_pos c75] at H
  have LMc75 := Aside0.mk c75
  clear c75
  obtain ⟨y346, hy346⟩ : ∃ y_ : List Int, y_ = (x5_1 ++ [x9_14]) := ⟨_, rfl⟩
  replace H : (spec_l04Merge.l0 kj14 l0 t307 y346 x6_1 (wrap64 (x8_1 + 1)) ((rd_T29 l0 0).f0) x318001_1) = some (r1, r2, r3, r4) := by first | (rw [hy346]; with_reducible exact H) | (have H2_ := (Option.bind_some _ _).symm.trans H; rw [hy346]; with_reducible exact H2_) | (have H2_ := (Option.bind_some _ _).symm.trans H; with_reducible exact H2_) | with_reducible exact H | (rw [hy346]; exact H) | exact H
  have Ny346 := Aside0.mk hy346
  clear hy346
  have H' := Aside0.mk H
  clear H
  obtain ⟨Ao76, co76, eo76⟩ := Kd.R_slice HO_6.out
  subst eo76
  go_wp2_with (first | ((with_reducible refine gate_builtin (b := .append) (xs := #[.tmp 88, .tmp 90]) rfl ?_); at_builtin; refine Kd.R_append (Kd.int .i64) (w0 := w) w.heap.size rfl (.tmp 88) (.tmp 90) 79 2 (.int .i64 0) 8 rfl Try.underlying79 info2 rfl (by decide) (by omega) u5 x5_1 x9_14 [.int .i64 x9_14] (fun _ => True) (fun _ => False) rfl rfl ?aP (fun _ hk => hk.elim) ?aF ?aO ?aB ?aS ?aL ?_; (case aP => exact rfl); (case aB => exact zbo); (case aF => exact (fun _ _ => trivial)); (case aO => exact (ze HO_5).out); (case aS => exact (zz HB)); (case aL => have := LMc75.out; omega); intro v347 w77 ho hb hg hat; rw [← Ny346.out] at ho; have n_ : _ ∧ _ ∧ _ ∧ _ ∧ _ ∧ _ ∧ _ := ⟨Aside0.mk (Kd.R_over' (ze HO_4).out (Kd.R_typed (ze HO_5).out) (by decide) hg), Aside0.mk (Kd.R_over' (ze HO_6).out (Kd.R_typed (ze HO_5).out) (by decide) hg), Aside0.mk (Kd.R_over' (ze HO_318001).out (Kd.R_typed (ze HO_5).out) (by decide) hg), Aside0.mk (blk_grown (g := gb306) (o := .cells #[.int .i8 0, .slice none 0 0, .slice none 0 0] 29 (0, 0)) (zh BK306).out hg (Kd.R_ne HO_5.out BK306.out (by decide))), Aside0.mk (blk_grown (g := gb317) (o := .cells #[.int .i8 ((rd_T29 l0 0).f0), u318001, .slice none 0 0] 29 (0, 0)) (zh BK317).out hg (Kd.R_ne HO_5.out BK317.out (by decide))), Aside0.mk (hb), Aside0.mk (ho)⟩; clear HO_4 HO_6 HO_318001 BK306 BK317 HB HO_5; obtain ⟨HO_4, HO_6, HO_318001, BK306, BK317, HB, HO348⟩ := n_; clear ho hb hg hat))
  go_roundg kj14
  case measure => have := HK1.out; have := HJ14.out; omega
  case rel => exact ⟨(y346), (x6_1), (wrap64 (x8_1 + 1)), (x318001_1), (u318001), zi, H', ⟨by have := HK1.out; have := HJ14.out; omega⟩, ze HO_4, ze HO348, ze HO_6, ze HO_318001, zh BK306, zh BK317, zba⟩
 rw [if_pos c29] at H
 have c29b0 : (x9_14 == (x6_1.length : Int)) = true := beq_iff_eq.mpr c29
 have c29b1 : (x9_14 != (x6_1.length : Int)) = false := bne_eq_false_iff_eq.mpr c29
 clear c29
 by_cases c30 : 0 < (l0.length : Int)
 rotate_left
 ·rw [if_neg c30] at H
  exact absurd H (by simp)
 rw [if_pos c30] at H
 have c30b0 : decide (0 < (l0.length : Int)) = true := decide_eq_true c30
 have c30b1 : decide (0 < l0.length) = true := decide_eq_true (by omega)
 clear c30
 by_cases c31 : 0 ≤ x8_1
 rotate_left
 ·rw [if_neg c31] at H
  exact absurd H (by simp)
 rw [if_pos c31] at H
 have c31b0 : decide (0 ≤ x8_1) = true := decide_eq_true c31
 clear c31
 by_cases c32 : x8_1 < (((rd_T29 l0 0).f1).length : Int)
 rotate_left
 ·rw [if_neg c32] at H
  exact absurd H (by simp)
 rw [if_pos c32] at H
 have c32b0 : decide (x8_1 < (((rd_T29 l0 0).f1).length : Int)) = true := decide_eq_true c32
 clear c32
 by_cases c33 : ((rd_T61 ((rd_T29 l0 0).f1) x8_1).f0) ≥ 2
 rotate_left
 ·rw [if_neg c33] at H
  have c33b0 : decide (2 ≤ ((rd_T61 ((rd_T29 l0 0).f1) x8_1).f0)) = false := decide_eq_false c33
  clear c33
  by_cases c57 : x8_1 < (t307.length : Int)
  rotate_left
  ·rw [if_neg c57] at H
   exact absurd H (by simp)
  rw [if_pos c57] at H
  have c57b0 : decide (x8_1 < (t307.length : Int)) = true := decide_eq_true c57
  clear c57
  by_cases c58 : x6_1.length < 17592186044416
  rotate_left
  ·rw [if_neg c58] at H
   exact absurd H (by simp)
  rw [if_pos c58] at H
  have LMc58 := Aside0.mk c58
  clear c58
  obtain ⟨y337, hy337⟩ : ∃ y_ : List Int, y_ = (x6_1 ++ [rd t307 x8_1]) := ⟨_, rfl⟩
  replace H : (if x318001_1.length < 23456248059221 then (if x5_1.length < 17592186044416 then (spec_l04Merge.l0 kj14 l0 t307 (x5_1 ++ [x9_14]) y337 (wrap64 (x8_1 + 1)) ((rd_T29 l0 0).f0) (x318001_1 ++ [(⟨(rd_T61 ((rd_T29 l0 0).f1) x8_1).f0, (rd_T61 ((rd_T29 l0 0).f1) x8_1).f1, (rd_T61 ((rd_T29 l0 0).f1) x8_1).f2⟩ : S61)])) else (none)) else (none)) = some (r1, r2, r3, r4) := by first | (rw [hy337]; with_reducible exact H) | (have H2_ := (Option.bind_some _ _).symm.trans H; rw [hy337]; with_reducible exact H2_) | (have H2_ := (Option.bind_some _ _).symm.trans H; with_reducible exact H2_) | with_reducible exact H | (rw [hy337]; exact H) | exact H
  have Ny337 := Aside0.mk hy337
  clear hy337
  by_cases c59 : x318001_1.length < 23456248059221
  rotate_left
  ·rw [if_neg c59] at H
   exact absurd H (by simp)
  rw [if_pos c59] at H
  have LMc59 := Aside0.mk c59
  clear c59
  obtain ⟨y340, hy340⟩ : ∃ y_ : List (S61), y_ = (x318001_1 ++ [(⟨(rd_T61 ((rd_T29 l0 0).f1) x8_1).f0, (rd_T61 ((rd_T29 l0 0).f1) x8_1).f1, (rd_T61 ((rd_T29 l0 0).f1) x8_1).f2⟩ : S61)]) := ⟨_, rfl⟩
  replace H : (if x5_1.length < 17592186044416 then (spec_l04Merge.l0 kj14 l0 t307 (x5_1 ++ [x9_14]) y337 (wrap64 (x8_1 + 1)) ((rd_T29 l0 0).f0) y340) else (none)) = some (r1, r2, r3, r4) := by first | (rw [hy340]; with_reducible exact H) | (have H2_ := (Option.bind_some _ _).symm.trans H; rw [hy340]; with_reducible exact H2_) | (have H2_ := (Option.bind_some _ _).symm.trans H; with_reducible exact H2_) | with_reducible exact H | (rw [hy340]; exact H) | exact H
  have Ny340 := Aside0.mk hy340
  clear hy340
  by_cases c60 : x5_1.length < 17592186044416
  rotate_left
  ·rw [if_neg c60] at H
   exact absurd H (by simp)
  rw [if_pos c60] at H
  have LMc60 := Aside0.mk c60
  clear c60
  obtain ⟨y343, hy343⟩ : ∃ y_ : List Int, y_ = (x5_1 ++ [x9_14]) := ⟨_, rfl⟩
  replace H : (spec_l04Merge.l0 kj14 l0 t307 y343 y337 (wrap64 (x8_1 + 1)) ((rd_T29 l0 0).f0) y340) = some (r1, r2, r3, r4) := by first | (rw [hy343]; with_reducible exact H) | (have H2_ := (Option.bind_some _ _).symm.trans H; rw [hy343]; with_reducible exact H2_) | (have H2_ := (Option.bind_some _ _).symm.trans H; with_reducible exact H2_) | with_reducible exact H | (rw [hy343]; exact H) | exact H
  have Ny343 := Aside0.mk hy343
  clear hy343
  have H' := Aside0.mk H
  clear H
  obtain ⟨Ao61, co61, eo61⟩ := Kd.R_slice HO_6.out
  subst eo61
  have p321 : 0 ≤ (0 : Int) := (by omega)
  have q321 : 0 < (l0.length : Int) := of_decide_eq_true zA
  obtain ⟨ad321, A321_1, c321_1, A321_2, c321_2, e321, hx321_0, hx321_1, hx321_2, hl321_1, hi321_1, hl321_2, hi321_2⟩ := at_T29 HR0.out 0 p321 q321
  obtain rfl : adp0 = ad321 := (by injection e321)
  have qi321 : (0 < l0.length) = True := eq_true (by omega)
  try simp only [z00, Nat.zero_mul, Addr.add_zero'] at hx321_0 hx321_1 hx321_2
  replace hx321_0 := zc HB hx321_0
  replace hx321_1 := zc HB hx321_1
  replace hx321_2 := zc HB hx321_2
  have HR321_1 := Aside0.mk hi321_1
  have HC321_1 := Aside0.mk hl321_1
  clear hi321_1 hl321_1
  have HR321_2 := Aside0.mk hi321_2
  have HC321_2 := Aside0.mk hl321_2
  clear hi321_2 hl321_2
  replace p321 := eq_true p321
  replace q321 := eq_true q321
  have p322 : 0 ≤ (x8_1 : Int) := of_decide_eq_true zA
  have q322 : x8_1 < (((rd_T29 l0 0).f1).length : Int) := of_decide_eq_true zA
  obtain ⟨ad322, e322, hx322_0, hx322_1, hx322_2⟩ := at_T61 HR321_1.out x8_1 p322 q322
  cases e322
  replace hx322_0 := zc HB hx322_0
  replace hx322_1 := zc HB hx322_1
  replace hx322_2 := zc HB hx322_2
  replace p322 := eq_true p322
  replace q322 := eq_true q322
  go_wp2_with (first | ((with_reducible refine gate_dst (N := 10) rfl ?_); refine zbx 10 #[.int .i8 0, .int .i16 0, .int .i16 0] 61 ?_; intro gb323 hg w62 hbox hb; have n_ : _ ∧ _ ∧ _ ∧ _ ∧ _ ∧ _ ∧ _ ∧ _ ∧ _ ∧ _ ∧ _ ∧ _ ∧ _ ∧ _ := ⟨zr HO_4 hb, zr HO_5 hb, zr HO_6 hb, Aside0.mk (Kd.R_below (Kd.R_elderB (ze HO_318001).out gb323 (Nat.le_of_eq hg.symm)) hb), zk BK306 hb, zk BK317 hb, zbs hb, Aside0.mk (hbox), zg HB hg, zg HB hg, zn1 BK306 hg, zn2 BK306 hg, zn1 BK317 hg, zn2 BK317 hg⟩; clear HO_4 HO_5 HO_6 HO_318001 BK306 BK317 HB; obtain ⟨HO_4, HO_5, HO_6, HO_318001, BK306, BK317, HB, BK323, GW323, GE323, NB306_323, NB323_306, NB317_323, NB323_317⟩ := n_; clear hb hbox hg; have hnb63 := NB323_306.out; have hnc63 := NB306_323.out; have hnb64 := NB323_317.out; have hnc64 := NB317_323.out; obtain ⟨z65_0, z65_1, z65_2, y65_0, y65_1, y65_2⟩ := zB3 BK323; obtain ⟨Ao66, co66, eo66⟩ := Kd.R_slice HO_4.out; subst eo66; have p336 : 0 ≤ (x8_1 : Int) := of_decide_eq_true zA; have q336 : x8_1 < (t307.length : Int) := of_decide_eq_true zA; obtain ⟨ad336, e336, hx336_0⟩ := Kd.at_int (Kd.R_reads' HO_4.out).2.2 x8_1 p336 q336; cases e336; have hn336_0 : ad336.block ≠ gb323 := Kd.own_blk (Kd.R_ne HO_4.out BK323.out (by decide)); have hn336_1 : ad336.block ≠ gb323 := Kd.own_blk (Kd.R_ne HO_4.out BK323.out (by decide)); have hn336_2 : ad336.block ≠ gb323 := Kd.own_blk (Kd.R_ne HO_4.out BK323.out (by decide)); replace hx336_0 := (cell_far (p := ⟨gb323, 0, none⟩) (by first | (rw [add_block]; exact hn336_0) | (show (Addr.add _ _).block ≠ _; rw [add_block]; exact hn336_0) | exact hn336_0) (.int .i8 ((rd_T61 ((rd_T29 l0 0).f1) x8_1).f0))).trans hx336_0; replace hx336_0 := (cell_far (p := ⟨gb323, 1, none⟩) (by first | (rw [add_block]; exact hn336_1) | (show (Addr.add _ _).block ≠ _; rw [add_block]; exact hn336_1) | exact hn336_1) (.int .i16 ((rd_T61 ((rd_T29 l0 0).f1) x8_1).f1))).trans hx336_0; replace hx336_0 := (cell_far (p := ⟨gb323, 2, none⟩) (by first | (rw [add_block]; exact hn336_2) | (show (Addr.add _ _).block ≠ _; rw [add_block]; exact hn336_2) | exact hn336_2) (.int .i16 ((rd_T61 ((rd_T29 l0 0).f1) x8_1).f2))).trans hx336_0; clear hn336_0; clear hn336_1; clear hn336_2; replace p336 := eq_true p336; replace q336 := eq_true q336) | ((with_reducible refine gate_builtin (b := .append) (xs := #[.tmp 75, .tmp 80]) rfl ?_); at_builtin; refine Kd.R_append (Kd.int .u64) (w0 := w) w.heap.size rfl (.tmp 75) (.tmp 80) 64 66 (.int .u64 0) 8 rfl Try.underlying64 info66 rfl (by decide) (by omega) (.slice Ao61 x6_1.length co61) x6_1 (rd t307 x8_1) [.int .u64 (rd t307 x8_1)] (fun k_ => some k_ ≠ (.slice (some ad336) t307.length co66 : Value).ownBlock) (fun _ => False) rfl (by first | (go_simp; done) | (go_simp; rfl)) ?aP (fun _ hk => hk.elim) ?aF ?aO ?aB ?aS ?aL ?_; (case aP => exact rfl); (case aB => exact zbo); (case aF => exact (fun k_ hk => Kd.fresh' (Kd.R_lt (zs HO_4 BK323).out) k_ hk)); (case aO => exact (by (with_reducible repeat (first | apply Kd.R_alloc | apply Kd.R_drewN | apply Kd.R_drew)); exact Kd.R_mono (Kd.R_far (p := ⟨gb323, 2, none⟩) (Kd.R_far (p := ⟨gb323, 1, none⟩) (Kd.R_far (p := ⟨gb323, 0, none⟩) (Kd.R_types HO_6.out BK323.out (by decide)) (fun _ hk => hk.2) (.int .i8 ((rd_T61 ((rd_T29 l0 0).f1) x8_1).f0))) (fun _ hk => hk.2) (.int .i16 ((rd_T61 ((rd_T29 l0 0).f1) x8_1).f1))) (fun _ hk => hk.2) (.int .i16 ((rd_T61 ((rd_T29 l0 0).f1) x8_1).f2))) (fun _ hk => hk.1))); (case aS => exact (zz HB)); (case aL => have := LMc58.out; omega); intro v338 w67 ho hb hg hat; rw [← Ny337.out] at ho; have n_ : _ ∧ _ ∧ _ ∧ _ ∧ _ ∧ _ ∧ _ ∧ _ := ⟨Aside0.mk (Kd.R_after (ok := (fun _ => True)) (by (with_reducible repeat (first | apply Kd.R_alloc | apply Kd.R_drewN | apply Kd.R_drew)); exact Kd.R_mono (Kd.R_far (p := ⟨gb323, 2, none⟩) (Kd.R_far (p := ⟨gb323, 1, none⟩) (Kd.R_far (p := ⟨gb323, 0, none⟩) (Kd.R_types HO_4.out BK323.out (by decide)) (fun _ hk => hk.2) (.int .i8 ((rd_T61 ((rd_T29 l0 0).f1) x8_1).f0))) (fun _ hk => hk.2) (.int .i16 ((rd_T61 ((rd_T29 l0 0).f1) x8_1).f1))) (fun _ hk => hk.2) (.int .i16 ((rd_T61 ((rd_T29 l0 0).f1) x8_1).f2))) (fun _ hk => ⟨trivial, hk.1⟩)) hg hat), Aside0.mk (Kd.R_over' (zs HO_5 BK323).out (Kd.R_typed (zs HO_6 BK323).out) (by decide) hg), Aside0.mk (Kd.R_over' (by (with_reducible repeat (first | apply Kd.R_alloc | apply Kd.R_drewN | apply Kd.R_drew)); exact (Kd.R_mono (Kd.R_far (p := ⟨gb323, 2, none⟩) (Kd.R_far (p := ⟨gb323, 1, none⟩) (Kd.R_far (p := ⟨gb323, 0, none⟩) (Kd.R_mono HO_318001.out (fun k_ hk => (⟨hk, hk.2⟩ : _ ∧ k_ ≠ gb323))) (fun _ hk => hk.2) (.int .i8 ((rd_T61 ((rd_T29 l0 0).f1) x8_1).f0))) (fun _ hk => hk.2) (.int .i16 ((rd_T61 ((rd_T29 l0 0).f1) x8_1).f1))) (fun _ hk => hk.2) (.int .i16 ((rd_T61 ((rd_T29 l0 0).f1) x8_1).f2))) (fun _ h_ => h_.1))) (Kd.R_typed (zs HO_6 BK323).out) (by decide) hg), Aside0.mk (blk_grown (g := gb306) (o := .cells #[.int .i8 0, .slice none 0 0, .slice none 0 0] 29 (0, 0)) (zf BK306 NB306_323).out hg (Kd.R_ne HO_6.out BK306.out (by decide))), Aside0.mk (blk_grown (g := gb317) (o := .cells #[.int .i8 ((rd_T29 l0 0).f0), u318001, .slice none 0 0] 29 (0, 0)) (zf BK317 NB317_323).out hg (Kd.R_ne HO_6.out BK317.out (by decide))), Aside0.mk (blk_grown (g := gb323) (o := .cells #[.int .i8 ((rd_T61 ((rd_T29 l0 0).f1) x8_1).f0), .int .i16 ((rd_T61 ((rd_T29 l0 0).f1) x8_1).f1), .int .i16 ((rd_T61 ((rd_T29 l0 0).f1) x8_1).f2)] 61 (0, 0)) (zp BK323) hg (Kd.R_ne HO_6.out BK323.out (by decide))), Aside0.mk (hb), Aside0.mk (ho)⟩; clear HO_4 HO_5 HO_318001 BK306 BK317 BK323 HB HO_6; obtain ⟨HO_4, HO_5, HO_318001, BK306, BK317, BK323, HB, HO339⟩ := n_; clear ho hb hg hat; have hnb68 := NB317_306.out; have hnc68 := NB306_317.out; obtain ⟨z69_0, z69_1, z69_2, y69_0, y69_1, y69_2⟩ := zB3 BK317; obtain ⟨z70_0, z70_1, z70_2, y70_0, y70_1, y70_2⟩ := zB3 BK323) | ((with_reducible refine gate_builtin (b := .append) (xs := #[.tmp 83, .tmp 85]) rfl ?_); at_builtin; refine Kd.R_append k61 (w0 := w) w.heap.size rfl (.tmp 83) (.tmp 85) 26 61 (.agg #[(.int .i8 0), (.int .i16 0), (.int .i16 0)]) 6 rfl Try.underlying26 info61 rfl (by decide) (by omega) u318001 x318001_1 (⟨(rd_T61 ((rd_T29 l0 0).f1) x8_1).f0, (rd_T61 ((rd_T29 l0 0).f1) x8_1).f1, (rd_T61 ((rd_T29 l0 0).f1) x8_1).f2⟩ : S61) [.int .i8 ((rd_T61 ((rd_T29 l0 0).f1) x8_1).f0), .int .i16 ((rd_T61 ((rd_T29 l0 0).f1) x8_1).f1), .int .i16 ((rd_T61 ((rd_T29 l0 0).f1) x8_1).f2)] (fun k_ => k_ ≠ gb323) (fun _ => False) rfl rfl ?aP (fun _ hk => hk.elim) ?aF ?aO ?aB ?aS ?aL ?_; (case aP => exact k61_mkM _ _ _ (⟨(rd_T61 ((rd_T29 l0 0).f1) x8_1).f0, (rd_T61 ((rd_T29 l0 0).f1) x8_1).f1, (rd_T61 ((rd_T29 l0 0).f1) x8_1).f2⟩ : S61)); (case aB => exact zbo); (case aF => exact (fun k_ hk => Kd.freshB (g := gb323) (o := .cells #[.int .i8 ((rd_T61 ((rd_T29 l0 0).f1) x8_1).f0), .int .i16 ((rd_T61 ((rd_T29 l0 0).f1) x8_1).f1), .int .i16 ((rd_T61 ((rd_T29 l0 0).f1) x8_1).f2)] 61 (0, 0)) (zh BK323).out k_ hk)); (case aO => exact (by (with_reducible repeat (first | apply Kd.R_alloc | apply Kd.R_drewN | apply Kd.R_drew)); exact Kd.R_mono HO_318001.out (fun _ hk => hk.2))); (case aS => exact (zz HB)); (case aL => have := LMc59.out; omega); intro v341 w71 ho hb hg hat; rw [← Ny340.out] at ho; have n_ : _ ∧ _ ∧ _ ∧ _ ∧ _ ∧ _ ∧ _ ∧ _ := ⟨Aside0.mk (Kd.R_over' (ze HO_4).out (Kd.R_typed (ze HO_318001).out) (by decide) hg), Aside0.mk (Kd.R_over' (ze HO_5).out (Kd.R_typed (ze HO_318001).out) (by decide) hg), Aside0.mk (blk_grown (g := gb306) (o := .cells #[.int .i8 0, .slice none 0 0, .slice none 0 0] 29 (0, 0)) (zh BK306).out hg (Kd.R_ne HO_318001.out BK306.out (by decide))), Aside0.mk (blk_grown (g := gb317) (o := .cells #[.int .i8 ((rd_T29 l0 0).f0), u318001, .slice none 0 0] 29 (0, 0)) (zh BK317).out hg (Kd.R_ne HO_318001.out BK317.out (by decide))), Aside0.mk (blk_grown (g := gb323) (o := .cells #[.int .i8 ((rd_T61 ((rd_T29 l0 0).f1) x8_1).f0), .int .i16 ((rd_T61 ((rd_T29 l0 0).f1) x8_1).f1), .int .i16 ((rd_T61 ((rd_T29 l0 0).f1) x8_1).f2)] 61 (0, 0)) (zh BK323).out hg (Kd.R_away HO_318001.out (fun _ hk => hk.2))), Aside0.mk (Kd.R_over' (ze HO339).out (Kd.R_typed (ze HO_318001).out) (by decide) hg), Aside0.mk (hb), Aside0.mk (ho)⟩; clear HO_4 HO_5 BK306 BK317 BK323 HO339 HB HO_318001; obtain ⟨HO_4, HO_5, BK306, BK317, BK323, HO339, HB, HO342⟩ := n_; clear ho hb hg hat; obtain ⟨Ao72, co72, eo72⟩ := Kd.R_slice HO342.out; subst eo72; obtain ⟨z73_0, z73_1, z73_2, y73_0, y73_1, y73_2⟩ := zB3 BK317) | ((with_reducible refine gate_builtin (b := .append) (xs := #[.tmp 88, .tmp 90]) rfl ?_); at_builtin; refine Kd.R_append (Kd.int .i64) (w0 := w) w.heap.size rfl (.tmp 88) (.tmp 90) 79 2 (.int .i64 0) 8 rfl Try.underlying79 info2 rfl (by decide) (by omega) u5 x5_1 x9_14 [.int .i64 x9_14] (fun _ => True) (fun _ => False) rfl (by first | (go_simp; done) | (go_simp; rfl)) ?aP (fun _ hk => hk.elim) ?aF ?aO ?aB ?aS ?aL ?_; (case aP => exact rfl); (case aB => exact zbo); (case aF => exact (fun _ _ => trivial)); (case aO => exact (Kd.R_mono (zs HO_5 BK317).out (fun _ hk => trivial))); (case aS => exact (zz HB)); (case aL => have := LMc60.out; omega); intro v344 w74 ho hb hg hat; rw [← Ny343.out] at ho; have n_ : _ ∧ _ ∧ _ ∧ _ ∧ _ ∧ _ ∧ _ ∧ _ := ⟨Aside0.mk (Kd.R_over' (zs HO_4 BK317).out (Kd.R_typed (zs HO_5 BK317).out) (by decide) hg), Aside0.mk (blk_grown (g := gb306) (o := .cells #[.int .i8 0, .slice none 0 0, .slice none 0 0] 29 (0, 0)) (zf BK306 NB306_317).out hg (Kd.R_ne HO_5.out BK306.out (by decide))), Aside0.mk (blk_grown (g := gb317) (o := .cells #[.int .i8 ((rd_T29 l0 0).f0), .slice Ao72 y340.length co72, .slice none 0 0] 29 (0, 0)) (zp BK317) hg (Kd.R_ne HO_5.out BK317.out (by decide))), Aside0.mk (blk_grown (g := gb323) (o := .cells #[.int .i8 ((rd_T61 ((rd_T29 l0 0).f1) x8_1).f0), .int .i16 ((rd_T61 ((rd_T29 l0 0).f1) x8_1).f1), .int .i16 ((rd_T61 ((rd_T29 l0 0).f1) x8_1).f2)] 61 (0, 0)) (zf BK323 NB323_317).out hg (Kd.R_ne HO_5.out BK323.out (by decide))), Aside0.mk (Kd.R_over' (zs HO339 BK317).out (Kd.R_typed (zs HO_5 BK317).out) (by decide) hg), Aside0.mk (Kd.R_over' (zs HO342 BK317).out (Kd.R_typed (zs HO_5 BK317).out) (by decide) hg), Aside0.mk (hb), Aside0.mk (ho)⟩; clear HO_4 BK306 BK317 BK323 HO339 HO342 HB HO_5; obtain ⟨HO_4, BK306, BK317, BK323, HO339, HO342, HB, HO345⟩ := n_; clear ho hb hg hat))
  go_roundg kj14
  case measure => have := HK1.out; have := HJ14.out; omega
  case rel => exact ⟨(y343), (y337), (wrap64 (x8_1 + 1)), (y340), (.slice Ao72 y340.length co72), zi, H', ⟨by have := HK1.out; have := HJ14.out; omega⟩, ⟨by (with_reducible repeat (first | apply Kd.R_alloc | apply Kd.R_drewN | apply Kd.R_drew)); exact Kd.R_mono HO_4.out (fun _ hk => hk.2)⟩, ze HO345, ze HO339, ⟨by (with_reducible repeat (first | apply Kd.R_alloc | apply Kd.R_drewN | apply Kd.R_drew)); exact Kd.R_mono HO342.out (fun _ hk => trivial)⟩, zh BK306, zh BK317, zba⟩
 rw [if_pos c33] at H
 have c33b0 : decide (2 ≤ ((rd_T61 ((rd_T29 l0 0).f1) x8_1).f0)) = true := decide_eq_true c33
 clear c33
 by_cases c34 : 0 ≤ ((rd_T61 ((rd_T29 l0 0).f1) x8_1).f1)
 rotate_left
 ·rw [if_neg c34] at H
  exact absurd H (by simp)
 rw [if_pos c34] at H
 have c34b0 : decide (0 ≤ ((rd_T61 ((rd_T29 l0 0).f1) x8_1).f1)) = true := decide_eq_true c34
 clear c34
 by_cases c35 : ((rd_T61 ((rd_T29 l0 0).f1) x8_1).f1) < (x5_1.length : Int)
 rotate_left
 ·rw [if_neg c35] at H
  exact absurd H (by simp)
 rw [if_pos c35] at H
 have c35b0 : decide (((rd_T61 ((rd_T29 l0 0).f1) x8_1).f1) < (x5_1.length : Int)) = true := decide_eq_true c35
 clear c35
 by_cases c36 : 0 ≤ ((rd_T61 ((rd_T29 l0 0).f1) x8_1).f2)
 rotate_left
 ·rw [if_neg c36] at H
  exact absurd H (by simp)
 rw [if_pos c36] at H
 have c36b0 : decide (0 ≤ ((rd_T61 ((rd_T29 l0 0).f1) x8_1).f2)) = true := decide_eq_true c36
 clear c36
 by_cases c37 : ((rd_T61 ((rd_T29 l0 0).f1) x8_1).f2) < (x5_1.length : Int)
 rotate_left
 ·rw [if_neg c37] at H
  exact absurd H (by simp)
 rw [if_pos c37] at H
 have c37b0 : decide (((rd_T61 ((rd_T29 l0 0).f1) x8_1).f2) < (x5_1.length : Int)) = true := decide_eq_true c37
 clear c37
 by_cases c38 : x8_1 < (t307.length : Int)
 rotate_left
 ·rw [if_neg c38] at H
  exact absurd H (by simp)
 rw [if_pos c38] at H
 have c38b0 : decide (x8_1 < (t307.length : Int)) = true := decide_eq_true c38
 clear c38
 by_cases c39 : x6_1.length < 17592186044416
 rotate_left
 ·rw [if_neg c39] at H
  exact absurd H (by simp)
 rw [if_pos c39] at H
 have LMc39 := Aside0.mk c39
 clear c39
 obtain ⟨y327, hy327⟩ : ∃ y_ : List Int, y_ = (x6_1 ++ [rd t307 x8_1]) := ⟨_, rfl⟩
 replace H : (if x318001_1.length < 23456248059221 then (if x5_1.length < 17592186044416 then (spec_l04Merge.l0 kj14 l0 t307 (x5_1 ++ [x9_14]) y327 (wrap64 (x8_1 + 1)) ((rd_T29 l0 0).f0) (x318001_1 ++ [(⟨(rd_T61 ((rd_T29 l0 0).f1) x8_1).f0, IntKind.i16.wrap (rd x5_1 ((rd_T61 ((rd_T29 l0 0).f1) x8_1).f1)), IntKind.i16.wrap (rd x5_1 ((rd_T61 ((rd_T29 l0 0).f1) x8_1).f2))⟩ : S61)])) else (none)) else (none)) = some (r1, r2, r3, r4) := by first | (rw [hy327]; with_reducible exact H) | (have H2_ := (Option.bind_some _ _).symm.trans H; rw [hy327]; with_reducible exact H2_) | (have H2_ := (Option.bind_some _ _).symm.trans H; with_reducible exact H2_) | with_reducible exact H | (rw [hy327]; exact H) | exact H
 have Ny327 := Aside0.mk hy327
 clear hy327
 by_cases c40 : x318001_1.length < 23456248059221
 rotate_left
 ·rw [if_neg c40] at H
  exact absurd H (by simp)
 rw [if_pos c40] at H
 have LMc40 := Aside0.mk c40
 clear c40
 obtain ⟨y330, hy330⟩ : ∃ y_ : List (S61), y_ = (x318001_1 ++ [(⟨(rd_T61 ((rd_T29 l0 0).f1) x8_1).f0, IntKind.i16.wrap (rd x5_1 ((rd_T61 ((rd_T29 l0 0).f1) x8_1).f1)), IntKind.i16.wrap (rd x5_1 ((rd_T61 ((rd_T29 l0 0).f1) x8_1).f2))⟩ : S61)]) := ⟨_, rfl⟩
 replace H : (if x5_1.length < 17592186044416 then (spec_l04Merge.l0 kj14 l0 t307 (x5_1 ++ [x9_14]) y327 (wrap64 (x8_1 + 1)) ((rd_T29 l0 0).f0) y330) else (none)) = some (r1, r2, r3, r4) := by first | (rw [hy330]; with_reducible exact H) | (have H2_ := (Option.bind_some _ _).symm.trans H; rw [hy330]; with_reducible exact H2_) | (have H2_ := (Option.bind_some _ _).symm.trans H; with_reducible exact H2_) | with_reducible exact H | (rw [hy330]; exact H) | exact H
 have Ny330 := Aside0.mk hy330
 clear hy330
 by_cases c41 : x5_1.length < 17592186044416
 rotate_left
 ·rw [if_neg c41] at H
  exact absurd H (by simp)
 rw [if_pos c41] at H
 have LMc41 := Aside0.mk c41
 clear c41
 obtain ⟨y333, hy333⟩ : ∃ y_ : List Int, y_ = (x5_1 ++ [x9_14]) := ⟨_, rfl⟩
 replace H : (spec_l04Merge.l0 kj14 l0 t307 y333 y327 (wrap64 (x8_1 + 1)) ((rd_T29 l0 0).f0) y330) = some (r1, r2, r3, r4) := by first | (rw [hy333]; with_reducible exact H) | (have H2_ := (Option.bind_some _ _).symm.trans H; rw [hy333]; with_reducible exact H2_) | (have H2_ := (Option.bind_some _ _).symm.trans H; with_reducible exact H2_) | with_reducible exact H | (rw [hy333]; exact H) | exact H
 have Ny333 := Aside0.mk hy333
 clear hy333
 have H' := Aside0.mk H
 clear H
 obtain ⟨Ao42, co42, eo42⟩ := Kd.R_slice HO_6.out
 subst eo42
 have p321 : 0 ≤ (0 : Int) := (by omega)
 have q321 : 0 < (l0.length : Int) := of_decide_eq_true zA
 obtain ⟨ad321, A321_1, c321_1, A321_2, c321_2, e321, hx321_0, hx321_1, hx321_2, hl321_1, hi321_1, hl321_2, hi321_2⟩ := at_T29 HR0.out 0 p321 q321
 obtain rfl : adp0 = ad321 := (by injection e321)
 have qi321 : (0 < l0.length) = True := eq_true (by omega)
 try simp only [z00, Nat.zero_mul, Addr.add_zero'] at hx321_0 hx321_1 hx321_2
 replace hx321_0 := zc HB hx321_0
 replace hx321_1 := zc HB hx321_1
 replace hx321_2 := zc HB hx321_2
 have HR321_1 := Aside0.mk hi321_1
 have HC321_1 := Aside0.mk hl321_1
 clear hi321_1 hl321_1
 have HR321_2 := Aside0.mk hi321_2
 have HC321_2 := Aside0.mk hl321_2
 clear hi321_2 hl321_2
 replace p321 := eq_true p321
 replace q321 := eq_true q321
 have p322 : 0 ≤ (x8_1 : Int) := of_decide_eq_true zA
 have q322 : x8_1 < (((rd_T29 l0 0).f1).length : Int) := of_decide_eq_true zA
 obtain ⟨ad322, e322, hx322_0, hx322_1, hx322_2⟩ := at_T61 HR321_1.out x8_1 p322 q322
 cases e322
 replace hx322_0 := zc HB hx322_0
 replace hx322_1 := zc HB hx322_1
 replace hx322_2 := zc HB hx322_2
 replace p322 := eq_true p322
 replace q322 := eq_true q322
 go_wp2_with (first | ((with_reducible refine gate_dst (N := 10) rfl ?_); refine zbx 10 #[.int .i8 0, .int .i16 0, .int .i16 0] 61 ?_; intro gb323 hg w43 hbox hb; have n_ : _ ∧ _ ∧ _ ∧ _ ∧ _ ∧ _ ∧ _ ∧ _ ∧ _ ∧ _ ∧ _ ∧ _ ∧ _ ∧ _ := ⟨zr HO_4 hb, zr HO_5 hb, zr HO_6 hb, Aside0.mk (Kd.R_below (Kd.R_elderB (ze HO_318001).out gb323 (Nat.le_of_eq hg.symm)) hb), zk BK306 hb, zk BK317 hb, zbs hb, Aside0.mk (hbox), zg HB hg, zg HB hg, zn1 BK306 hg, zn2 BK306 hg, zn1 BK317 hg, zn2 BK317 hg⟩; clear HO_4 HO_5 HO_6 HO_318001 BK306 BK317 HB; obtain ⟨HO_4, HO_5, HO_6, HO_318001, BK306, BK317, HB, BK323, GW323, GE323, NB306_323, NB323_306, NB317_323, NB323_317⟩ := n_; clear hb hbox hg; have hnb44 := NB323_306.out; have hnc44 := NB306_323.out; have hnb45 := NB323_317.out; have hnc45 := NB317_323.out; obtain ⟨z46_0, z46_1, z46_2, y46_0, y46_1, y46_2⟩ := zB3 BK323; obtain ⟨Ao47, co47, eo47⟩ := Kd.R_slice HO_5.out; subst eo47; have p324 : 0 ≤ (((rd_T61 ((rd_T29 l0 0).f1) x8_1).f1) : Int) := of_decide_eq_true zA; have q324 : ((rd_T61 ((rd_T29 l0 0).f1) x8_1).f1) < (x5_1.length : Int) := of_decide_eq_true zA; obtain ⟨ad324, e324, hx324_0⟩ := Kd.at_int (Kd.R_reads' HO_5.out).2.2 ((rd_T61 ((rd_T29 l0 0).f1) x8_1).f1) p324 q324; cases e324; have hn324_0 : ad324.block ≠ gb323 := Kd.own_blk (Kd.R_ne HO_5.out BK323.out (by decide)); have hn324_1 : ad324.block ≠ gb323 := Kd.own_blk (Kd.R_ne HO_5.out BK323.out (by decide)); have hn324_2 : ad324.block ≠ gb323 := Kd.own_blk (Kd.R_ne HO_5.out BK323.out (by decide)); replace hx324_0 := (cell_far (p := ⟨gb323, 0, none⟩) (by first | (rw [add_block]; exact hn324_0) | (show (Addr.add _ _).block ≠ _; rw [add_block]; exact hn324_0) | exact hn324_0) (.int .i8 ((rd_T61 ((rd_T29 l0 0).f1) x8_1).f0))).trans hx324_0; replace hx324_0 := (cell_far (p := ⟨gb323, 1, none⟩) (by first | (rw [add_block]; exact hn324_1) | (show (Addr.add _ _).block ≠ _; rw [add_block]; exact hn324_1) | exact hn324_1) (.int .i16 ((rd_T61 ((rd_T29 l0 0).f1) x8_1).f1))).trans hx324_0; replace hx324_0 := (cell_far (p := ⟨gb323, 2, none⟩) (by first | (rw [add_block]; exact hn324_2) | (show (Addr.add _ _).block ≠ _; rw [add_block]; exact hn324_2) | exact hn324_2) (.int .i16 ((rd_T61 ((rd_T29 l0 0).f1) x8_1).f2))).trans hx324_0; clear hn324_0; clear hn324_1; clear hn324_2; replace p324 := eq_true p324; replace q324 := eq_true q324; have p325 : 0 ≤ (((rd_T61 ((rd_T29 l0 0).f1) x8_1).f2) : Int) := of_decide_eq_true zA; have q325 : ((rd_T61 ((rd_T29 l0 0).f1) x8_1).f2) < (x5_1.length : Int) := of_decide_eq_true zA; obtain ⟨ad325, e325, hx325_0⟩ := Kd.at_int (Kd.R_reads' HO_5.out).2.2 ((rd_T61 ((rd_T29 l0 0).f1) x8_1).f2) p325 q325; obtain rfl : ad324 = ad325 := (by injection e325); have hn325_0 : ad324.block ≠ gb323 := Kd.own_blk (Kd.R_ne HO_5.out BK323.out (by decide)); have hn325_1 : ad324.block ≠ gb323 := Kd.own_blk (Kd.R_ne HO_5.out BK323.out (by decide)); have hn325_2 : ad324.block ≠ gb323 := Kd.own_blk (Kd.R_ne HO_5.out BK323.out (by decide)); have hn325_3 : ad324.block ≠ gb323 := Kd.own_blk (Kd.R_ne HO_5.out BK323.out (by decide)); replace hx325_0 := (cell_far (p := ⟨gb323, 0, none⟩) (by first | (rw [add_block]; exact hn325_0) | (show (Addr.add _ _).block ≠ _; rw [add_block]; exact hn325_0) | exact hn325_0) (.int .i8 ((rd_T61 ((rd_T29 l0 0).f1) x8_1).f0))).trans hx325_0; replace hx325_0 := (cell_far (p := ⟨gb323, 1, none⟩) (by first | (rw [add_block]; exact hn325_1) | (show (Addr.add _ _).block ≠ _; rw [add_block]; exact hn325_1) | exact hn325_1) (.int .i16 ((rd_T61 ((rd_T29 l0 0).f1) x8_1).f1))).trans hx325_0; replace hx325_0 := (cell_far (p := ⟨gb323, 2, none⟩) (by first | (rw [add_block]; exact hn325_2) | (show (Addr.add _ _).block ≠ _; rw [add_block]; exact hn325_2) | exact hn325_2) (.int .i16 ((rd_T61 ((rd_T29 l0 0).f1) x8_1).f2))).trans hx325_0; replace hx325_0 := (cell_far (p := ⟨gb323, 1, none⟩) (by first | (rw [add_block]; exact hn325_3) | (show (Addr.add _ _).block ≠ _; rw [add_block]; exact hn325_3) | exact hn325_3) (.int .i16 (IntKind.i16.wrap (rd x5_1 ((rd_T61 ((rd_T29 l0 0).f1) x8_1).f1))))).trans hx325_0; clear hn325_0; clear hn325_1; clear hn325_2; clear hn325_3; replace p325 := eq_true p325; replace q325 := eq_true q325; obtain ⟨Ao48, co48, eo48⟩ := Kd.R_slice HO_4.out; subst eo48; have p326 : 0 ≤ (x8_1 : Int) := of_decide_eq_true zA; have q326 : x8_1 < (t307.length : Int) := of_decide_eq_true zA; obtain ⟨ad326, e326, hx326_0⟩ := Kd.at_int (Kd.R_reads' HO_4.out).2.2 x8_1 p326 q326; cases e326; have hn326_0 : ad326.block ≠ gb323 := Kd.own_blk (Kd.R_ne HO_4.out BK323.out (by decide)); have hn326_1 : ad326.block ≠ gb323 := Kd.own_blk (Kd.R_ne HO_4.out BK323.out (by decide)); have hn326_2 : ad326.block ≠ gb323 := Kd.own_blk (Kd.R_ne HO_4.out BK323.out (by decide)); have hn326_3 : ad326.block ≠ gb323 := Kd.own_blk (Kd.R_ne HO_4.out BK323.out (by decide)); have hn326_4 : ad326.block ≠ gb323 := Kd.own_blk (Kd.R_ne HO_4.out BK323.out (by decide)); replace hx326_0 := (cell_far (p := ⟨gb323, 0, none⟩) (by first | (rw [add_block]; exact hn326_0) | (show (Addr.add _ _).block ≠ _; rw [add_block]; exact hn326_0) | exact hn326_0) (.int .i8 ((rd_T61 ((rd_T29 l0 0).f1) x8_1).f0))).trans hx326_0; replace hx326_0 := (cell_far (p := ⟨gb323, 1, none⟩) (by first | (rw [add_block]; exact hn326_1) | (show (Addr.add _ _).block ≠ _; rw [add_block]; exact hn326_1) | exact hn326_1) (.int .i16 ((rd_T61 ((rd_T29 l0 0).f1) x8_1).f1))).trans hx326_0; replace hx326_0 := (cell_far (p := ⟨gb323, 2, none⟩) (by first | (rw [add_block]; exact hn326_2) | (show (Addr.add _ _).block ≠ _; rw [add_block]; exact hn326_2) | exact hn326_2) (.int .i16 ((rd_T61 ((rd_T29 l0 0).f1) x8_1).f2))).trans hx326_0; replace hx326_0 := (cell_far (p := ⟨gb323, 1, none⟩) (by first | (rw [add_block]; exact hn326_3) | (show (Addr.add _ _).block ≠ _; rw [add_block]; exact hn326_3) | exact hn326_3) (.int .i16 (IntKind.i16.wrap (rd x5_1 ((rd_T61 ((rd_T29 l0 0).f1) x8_1).f1))))).trans hx326_0; replace hx326_0 := (cell_far (p := ⟨gb323, 2, none⟩) (by first | (rw [add_block]; exact hn326_4) | (show (Addr.add _ _).block ≠ _; rw [add_block]; exact hn326_4) | exact hn326_4) (.int .i16 (IntKind.i16.wrap (rd x5_1 ((rd_T61 ((rd_T29 l0 0).f1) x8_1).f2))))).trans hx326_0; clear hn326_0; clear hn326_1; clear hn326_2; clear hn326_3; clear hn326_4; replace p326 := eq_true p326; replace q326 := eq_true q326) | ((with_reducible refine gate_builtin (b := .append) (xs := #[.tmp 75, .tmp 80]) rfl ?_); at_builtin; refine Kd.R_append (Kd.int .u64) (w0 := w) w.heap.size rfl (.tmp 75) (.tmp 80) 64 66 (.int .u64 0) 8 rfl Try.underlying64 info66 rfl (by decide) (by omega) (.slice Ao42 x6_1.length co42) x6_1 (rd t307 x8_1) [.int .u64 (rd t307 x8_1)] (fun k_ => some k_ ≠ (.slice (some ad326) t307.length co48 : Value).ownBlock) (fun _ => False) rfl (by first | (go_simp; done) | (go_simp; rfl)) ?aP (fun _ hk => hk.elim) ?aF ?aO ?aB ?aS ?aL ?_; (case aP => exact rfl); (case aB => exact zbo); (case aF => exact (fun k_ hk => Kd.fresh' (Kd.R_lt (zs HO_4 BK323).out) k_ hk)); (case aO => exact (by (with_reducible repeat (first | apply Kd.R_alloc | apply Kd.R_drewN | apply Kd.R_drew)); exact Kd.R_mono (Kd.R_far (p := ⟨gb323, 2, none⟩) (Kd.R_far (p := ⟨gb323, 1, none⟩) (Kd.R_far (p := ⟨gb323, 2, none⟩) (Kd.R_far (p := ⟨gb323, 1, none⟩) (Kd.R_far (p := ⟨gb323, 0, none⟩) (Kd.R_types HO_6.out BK323.out (by decide)) (fun _ hk => hk.2) (.int .i8 ((rd_T61 ((rd_T29 l0 0).f1) x8_1).f0))) (fun _ hk => hk.2) (.int .i16 ((rd_T61 ((rd_T29 l0 0).f1) x8_1).f1))) (fun _ hk => hk.2) (.int .i16 ((rd_T61 ((rd_T29 l0 0).f1) x8_1).f2))) (fun _ hk => hk.2) (.int .i16 (IntKind.i16.wrap (rd x5_1 ((rd_T61 ((rd_T29 l0 0).f1) x8_1).f1))))) (fun _ hk => hk.2) (.int .i16 (IntKind.i16.wrap (rd x5_1 ((rd_T61 ((rd_T29 l0 0).f1) x8_1).f2))))) (fun _ hk => hk.1))); (case aS => exact (zz HB)); (case aL => have := LMc39.out; omega); intro v328 w49 ho hb hg hat; rw [← Ny327.out] at ho; have n_ : _ ∧ _ ∧ _ ∧ _ ∧ _ ∧ _ ∧ _ ∧ _ := ⟨Aside0.mk (Kd.R_after (ok := (fun _ => True)) (by (with_reducible repeat (first | apply Kd.R_alloc | apply Kd.R_drewN | apply Kd.R_drew)); exact Kd.R_mono (Kd.R_far (p := ⟨gb323, 2, none⟩) (Kd.R_far (p := ⟨gb323, 1, none⟩) (Kd.R_far (p := ⟨gb323, 2, none⟩) (Kd.R_far (p := ⟨gb323, 1, none⟩) (Kd.R_far (p := ⟨gb323, 0, none⟩) (Kd.R_types HO_4.out BK323.out (by decide)) (fun _ hk => hk.2) (.int .i8 ((rd_T61 ((rd_T29 l0 0).f1) x8_1).f0))) (fun _ hk => hk.2) (.int .i16 ((rd_T61 ((rd_T29 l0 0).f1) x8_1).f1))) (fun _ hk => hk.2) (.int .i16 ((rd_T61 ((rd_T29 l0 0).f1) x8_1).f2))) (fun _ hk => hk.2) (.int .i16 (IntKind.i16.wrap (rd x5_1 ((rd_T61 ((rd_T29 l0 0).f1) x8_1).f1))))) (fun _ hk => hk.2) (.int .i16 (IntKind.i16.wrap (rd x5_1 ((rd_T61 ((rd_T29 l0 0).f1) x8_1).f2))))) (fun _ hk => ⟨trivial, hk.1⟩)) hg hat), Aside0.mk (Kd.R_over' (zs HO_5 BK323).out (Kd.R_typed (zs HO_6 BK323).out) (by decide) hg), Aside0.mk (Kd.R_over' (by (with_reducible repeat (first | apply Kd.R_alloc | apply Kd.R_drewN | apply Kd.R_drew)); exact (Kd.R_mono (Kd.R_far (p := ⟨gb323, 2, none⟩) (Kd.R_far (p := ⟨gb323, 1, none⟩) (Kd.R_far (p := ⟨gb323, 2, none⟩) (Kd.R_far (p := ⟨gb323, 1, none⟩) (Kd.R_far (p := ⟨gb323, 0, none⟩) (Kd.R_mono HO_318001.out (fun k_ hk => (⟨hk, hk.2⟩ : _ ∧ k_ ≠ gb323))) (fun _ hk => hk.2) (.int .i8 ((rd_T61 ((rd_T29 l0 0).f1) x8_1).f0))) (fun _ hk => hk.2) (.int .i16 ((rd_T61 ((rd_T29 l0 0).f1) x8_1).f1))) (fun _ hk => hk.2) (.int .i16 ((rd_T61 ((rd_T29 l0 0).f1) x8_1).f2))) (fun _ hk => hk.2) (.int .i16 (IntKind.i16.wrap (rd x5_1 ((rd_T61 ((rd_T29 l0 0).f1) x8_1).f1))))) (fun _ hk => hk.2) (.int .i16 (IntKind.i16.wrap (rd x5_1 ((rd_T61 ((rd_T29 l0 0).f1) x8_1).f2))))) (fun _ h_ => h_.1))) (Kd.R_typed (zs HO_6 BK323).out) (by decide) hg), Aside0.mk (blk_grown (g := gb306) (o := .cells #[.int .i8 0, .slice none 0 0, .slice none 0 0] 29 (0, 0)) (zf BK306 NB306_323).out hg (Kd.R_ne HO_6.out BK306.out (by decide))), Aside0.mk (blk_grown (g := gb317) (o := .cells #[.int .i8 ((rd_T29 l0 0).f0), u318001, .slice none 0 0] 29 (0, 0)) (zf BK317 NB317_323).out hg (Kd.R_ne HO_6.out BK317.out (by decide))), Aside0.mk (blk_grown (g := gb323) (o := .cells #[.int .i8 ((rd_T61 ((rd_T29 l0 0).f1) x8_1).f0), .int .i16 (IntKind.i16.wrap (rd x5_1 ((rd_T61 ((rd_T29 l0 0).f1) x8_1).f1))), .int .i16 (IntKind.i16.wrap (rd x5_1 ((rd_T61 ((rd_T29 l0 0).f1) x8_1).f2)))] 61 (0, 0)) (zp BK323) hg (Kd.R_ne HO_6.out BK323.out (by decide))), Aside0.mk (hb), Aside0.mk (ho)⟩; clear HO_4 HO_5 HO_318001 BK306 BK317 BK323 HB HO_6; obtain ⟨HO_4, HO_5, HO_318001, BK306, BK317, BK323, HB, HO329⟩ := n_; clear ho hb hg hat; have hnb50 := NB317_306.out; have hnc50 := NB306_317.out; obtain ⟨z51_0, z51_1, z51_2, y51_0, y51_1, y51_2⟩ := zB3 BK317; obtain ⟨z52_0, z52_1, z52_2, y52_0, y52_1, y52_2⟩ := zB3 BK323) | ((with_reducible refine gate_builtin (b := .append) (xs := #[.tmp 83, .tmp 85]) rfl ?_); at_builtin; refine Kd.R_append k61 (w0 := w) w.heap.size rfl (.tmp 83) (.tmp 85) 26 61 (.agg #[(.int .i8 0), (.int .i16 0), (.int .i16 0)]) 6 rfl Try.underlying26 info61 rfl (by decide) (by omega) u318001 x318001_1 (⟨(rd_T61 ((rd_T29 l0 0).f1) x8_1).f0, IntKind.i16.wrap (rd x5_1 ((rd_T61 ((rd_T29 l0 0).f1) x8_1).f1)), IntKind.i16.wrap (rd x5_1 ((rd_T61 ((rd_T29 l0 0).f1) x8_1).f2))⟩ : S61) [.int .i8 ((rd_T61 ((rd_T29 l0 0).f1) x8_1).f0), .int .i16 (IntKind.i16.wrap (rd x5_1 ((rd_T61 ((rd_T29 l0 0).f1) x8_1).f1))), .int .i16 (IntKind.i16.wrap (rd x5_1 ((rd_T61 ((rd_T29 l0 0).f1) x8_1).f2)))] (fun k_ => k_ ≠ gb323) (fun _ => False) rfl rfl ?aP (fun _ hk => hk.elim) ?aF ?aO ?aB ?aS ?aL ?_; (case aP => exact k61_mkM _ _ _ (⟨(rd_T61 ((rd_T29 l0 0).f1) x8_1).f0, IntKind.i16.wrap (rd x5_1 ((rd_T61 ((rd_T29 l0 0).f1) x8_1).f1)), IntKind.i16.wrap (rd x5_1 ((rd_T61 ((rd_T29 l0 0).f1) x8_1).f2))⟩ : S61)); (case aB => exact zbo); (case aF => exact (fun k_ hk => Kd.freshB (g := gb323) (o := .cells #[.int .i8 ((rd_T61 ((rd_T29 l0 0).f1) x8_1).f0), .int .i16 (IntKind.i16.wrap (rd x5_1 ((rd_T61 ((rd_T29 l0 0).f1) x8_1).f1))), .int .i16 (IntKind.i16.wrap (rd x5_1 ((rd_T61 ((rd_T29 l0 0).f1) x8_1).f2)))] 61 (0, 0)) (zh BK323).out k_ hk)); (case aO => exact (by (with_reducible repeat (first | apply Kd.R_alloc | apply Kd.R_drewN | apply Kd.R_drew)); exact Kd.R_mono HO_318001.out (fun _ hk => hk.2))); (case aS => exact (zz HB)); (case aL => have := LMc40.out; omega); intro v331 w53 ho hb hg hat; rw [← Ny330.out] at ho; have n_ : _ ∧ _ ∧ _ ∧ _ ∧ _ ∧ _ ∧ _ ∧ _ := ⟨Aside0.mk (Kd.R_over' (ze HO_4).out (Kd.R_typed (ze HO_318001).out) (by decide) hg), Aside0.mk (Kd.R_over' (ze HO_5).out (Kd.R_typed (ze HO_318001).out) (by decide) hg), Aside0.mk (blk_grown (g := gb306) (o := .cells #[.int .i8 0, .slice none 0 0, .slice none 0 0] 29 (0, 0)) (zh BK306).out hg (Kd.R_ne HO_318001.out BK306.out (by decide))), Aside0.mk (blk_grown (g := gb317) (o := .cells #[.int .i8 ((rd_T29 l0 0).f0), u318001, .slice none 0 0] 29 (0, 0)) (zh BK317).out hg (Kd.R_ne HO_318001.out BK317.out (by decide))), Aside0.mk (blk_grown (g := gb323) (o := .cells #[.int .i8 ((rd_T61 ((rd_T29 l0 0).f1) x8_1).f0), .int .i16 (IntKind.i16.wrap (rd x5_1 ((rd_T61 ((rd_T29 l0 0).f1) x8_1).f1))), .int .i16 (IntKind.i16.wrap (rd x5_1 ((rd_T61 ((rd_T29 l0 0).f1) x8_1).f2)))] 61 (0, 0)) (zh BK323).out hg (Kd.R_away HO_318001.out (fun _ hk => hk.2))), Aside0.mk (Kd.R_over' (ze HO329).out (Kd.R_typed (ze HO_318001).out) (by decide) hg), Aside0.mk (hb), Aside0.mk (ho)⟩; clear HO_4 HO_5 BK306 BK317 BK323 HO329 HB HO_318001; obtain ⟨HO_4, HO_5, BK306, BK317, BK323, HO329, HB, HO332⟩ := n_; clear ho hb hg hat; obtain ⟨Ao54, co54, eo54⟩ := Kd.R_slice HO332.out; subst eo54; obtain ⟨z55_0, z55_1, z55_2, y55_0, y55_1, y55_2⟩ := zB3 BK317) | ((with_reducible refine gate_builtin (b := .append) (xs := #[.tmp 88, .tmp 90]) rfl ?_); at_builtin; refine Kd.R_append (Kd.int .i64) (w0 := w) w.heap.size rfl (.tmp 88) (.tmp 90) 79 2 (.int .i64 0) 8 rfl Try.underlying79 info2 rfl (by decide) (by omega) (.slice (some ad324) x5_1.length co47) x5_1 x9_14 [.int .i64 x9_14] (fun _ => True) (fun _ => False) rfl (by first | (go_simp; done) | (go_simp; rfl)) ?aP (fun _ hk => hk.elim) ?aF ?aO ?aB ?aS ?aL ?_; (case aP => exact rfl); (case aB => exact zbo); (case aF => exact (fun _ _ => trivial)); (case aO => exact (Kd.R_mono (zs HO_5 BK317).out (fun _ hk => trivial))); (case aS => exact (zz HB)); (case aL => have := LMc41.out; omega); intro v334 w56 ho hb hg hat; rw [← Ny333.out] at ho; have n_ : _ ∧ _ ∧ _ ∧ _ ∧ _ ∧ _ ∧ _ ∧ _ := ⟨Aside0.mk (Kd.R_over' (zs HO_4 BK317).out (Kd.R_typed (zs HO_5 BK317).out) (by decide) hg), Aside0.mk (blk_grown (g := gb306) (o := .cells #[.int .i8 0, .slice none 0 0, .slice none 0 0] 29 (0, 0)) (zf BK306 NB306_317).out hg (Kd.R_ne HO_5.out BK306.out (by decide))), Aside0.mk (blk_grown (g := gb317) (o := .cells #[.int .i8 ((rd_T29 l0 0).f0), .slice Ao54 y330.length co54, .slice none 0 0] 29 (0, 0)) (zp BK317) hg (Kd.R_ne HO_5.out BK317.out (by decide))), Aside0.mk (blk_grown (g := gb323) (o := .cells #[.int .i8 ((rd_T61 ((rd_T29 l0 0).f1) x8_1).f0), .int .i16 (IntKind.i16.wrap (rd x5_1 ((rd_T61 ((rd_T29 l0 0).f1) x8_1).f1))), .int .i16 (IntKind.i16.wrap (rd x5_1 ((rd_T61 ((rd_T29 l0 0).f1) x8_1).f2)))] 61 (0, 0)) (zf BK323 NB323_317).out hg (Kd.R_ne HO_5.out BK323.out (by decide))), Aside0.mk (Kd.R_over' (zs HO329 BK317).out (Kd.R_typed (zs HO_5 BK317).out) (by decide) hg), Aside0.mk (Kd.R_over' (zs HO332 BK317).out (Kd.R_typed (zs HO_5 BK317).out) (by decide) hg), Aside0.mk (hb), Aside0.mk (ho)⟩; clear HO_4 BK306 BK317 BK323 HO329 HO332 HB HO_5; obtain ⟨HO_4, BK306, BK317, BK323, HO329, HO332, HB, HO335⟩ := n_; clear ho hb hg hat))
 go_roundg kj14
 case measure => have := HK1.out; have := HJ14.out; omega
 case rel => exact ⟨(y333), (y327), (wrap64 (x8_1 + 1)), (y330), (.slice Ao54 y330.length co54), zi, H', ⟨by have := HK1.out; have := HJ14.out; omega⟩, ⟨by (with_reducible repeat (first | apply Kd.R_alloc | apply Kd.R_drewN | apply Kd.R_drew)); exact Kd.R_mono HO_4.out (fun _ hk => hk.2)⟩, ze HO335, ze HO329, ⟨by (with_reducible repeat (first | apply Kd.R_alloc | apply Kd.R_drewN | apply Kd.R_drew)); exact Kd.R_mono HO332.out (fun _ hk => trivial)⟩, zh BK306, zh BK317, zba⟩
end Go.Proofs.Ytkflenibdijnaaa.PFnAdders
