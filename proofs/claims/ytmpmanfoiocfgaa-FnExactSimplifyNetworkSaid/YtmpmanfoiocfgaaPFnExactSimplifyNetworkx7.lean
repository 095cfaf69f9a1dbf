-- WRITTEN by xprint.py, a program of this session's. Not trusted: Lean checks it.
-- packed by pack.py
import Derived.Test.YtmpmanfoiocfgaaPFnExactSimplifyNetworkx0
import Derived.Test.YtmpmanfoiocfgaaPFnExactSimplifyNetworkx6
import Derived.Test.YtmpmanfoiocfgaaTFnExactSimplifyNetworka
namespace Go.Proofs.Ytmpmanfoiocfgaa.PFnExactSimplifyNetwork
open Go.RowKit Go.Proofs.YtmpmanfoiocfgaaW.PrintWords Go.Proofs.YtmpmanfoiocfgaaW.PrintLast Go.Proofs.YtmpmanfoiocfgaaW.PrintMore Go.Proofs.YtmpmanfoiocfgaaX
attribute [local go_sem] max2_int min2_int max_two min_two max_three min_three max_four min_four   -- for this text's walks alone
set_option maxHeartbeats 8000000
set_option maxRecDepth 100000
set_option linter.unusedVariables false
set_option linter.unusedSimpArgs false

mutual
def spec_l04Merge.l0 : Nat → List (S31) → List Int → List Int → List Int → Int → Int → List (S81) → Option (Int × (List (S81)) × List Int × List Int)
  | 0, _, _, _, _, _, _, _ => none
  | k + 1, x0, x4, x5, x6, x8, x262000, x262001 => if 0 < (x0.length : Int) then (if x8 < (((rd_T31 x0 0).f1).length : Int) then (spec_l04Merge.l1 k x0 x4 x5 x6 x8 0 x262000 x262001) else (spec_l04Merge.l2 k x0 x5 0 x262000 x262001 ([] : List Int))) else (none)
def spec_l04Merge.j2 : Nat → List (S31) → List Int → List Int → List Int → Int → Int → Int → List (S81) → Option (Int × (List (S81)) × List Int × List Int)
  | 0, _, _, _, _, _, _, _, _ => none
  | k + 1, x0, x4, x5, x6, x8, x9, x262000, x262001 => if x9 = (x6.length : Int) then (if 0 < (x0.length : Int) then (if 0 ≤ x8 then (if x8 < (((rd_T31 x0 0).f1).length : Int) then (if ((rd_T81 ((rd_T31 x0 0).f1) x8).f0) ≥ 2 then (if 0 ≤ ((rd_T81 ((rd_T31 x0 0).f1) x8).f1) then (if ((rd_T81 ((rd_T31 x0 0).f1) x8).f1) < (x5.length : Int) then (if 0 ≤ ((rd_T81 ((rd_T31 x0 0).f1) x8).f2) then (if ((rd_T81 ((rd_T31 x0 0).f1) x8).f2) < (x5.length : Int) then (if x8 < (x4.length : Int) then (if x6.length < 17592186044416 then (if x262001.length < 23456248059221 then (if x5.length < 17592186044416 then (spec_l04Merge.l0 k x0 x4 (x5 ++ [x9]) (x6 ++ [rd x4 x8]) (wrap64 (x8 + 1)) x262000 (x262001 ++ [(⟨(rd_T81 ((rd_T31 x0 0).f1) x8).f0, IntKind.i16.wrap (rd x5 ((rd_T81 ((rd_T31 x0 0).f1) x8).f1)), IntKind.i16.wrap (rd x5 ((rd_T81 ((rd_T31 x0 0).f1) x8).f2))⟩ : S81)])) else (none)) else (none)) else (none)) else (none)) else (none)) else (none)) else (none)) else (none)) else (if x8 < (x4.length : Int) then (if x6.length < 17592186044416 then (if x262001.length < 23456248059221 then (if x5.length < 17592186044416 then (spec_l04Merge.l0 k x0 x4 (x5 ++ [x9]) (x6 ++ [rd x4 x8]) (wrap64 (x8 + 1)) x262000 (x262001 ++ [(⟨(rd_T81 ((rd_T31 x0 0).f1) x8).f0, (rd_T81 ((rd_T31 x0 0).f1) x8).f1, (rd_T81 ((rd_T31 x0 0).f1) x8).f2⟩ : S81)])) else (none)) else (none)) else (none)) else (none))) else (none)) else (none)) else (none)) else (if x5.length < 17592186044416 then (spec_l04Merge.l0 k x0 x4 (x5 ++ [x9]) x6 (wrap64 (x8 + 1)) x262000 x262001) else (none))
def spec_l04Merge.l1 : Nat → List (S31) → List Int → List Int → List Int → Int → Int → Int → List (S81) → Option (Int × (List (S81)) × List Int × List Int)
  | 0, _, _, _, _, _, _, _, _ => none
  | k + 1, x0, x4, x5, x6, x8, x9, x262000, x262001 => if x9 < (x6.length : Int) then (if 0 ≤ x9 then (if 0 ≤ x8 then (if x8 < (x4.length : Int) then (if (rd x6 x9) = (rd x4 x8) then (spec_l04Merge.j2 k x0 x4 x5 x6 x8 x9 x262000 x262001) else (spec_l04Merge.l1 k x0 x4 x5 x6 x8 (wrap64 (x9 + 1)) x262000 x262001)) else (none)) else (none)) else (none)) else (spec_l04Merge.j2 k x0 x4 x5 x6 x8 x9 x262000 x262001)
def spec_l04Merge.l2 : Nat → List (S31) → List Int → Int → Int → List (S81) → List Int → Option (Int × (List (S81)) × List Int × List Int)
  | 0, _, _, _, _, _, _ => none
  | k + 1, x0, x5, x11, x262000, x262001, x262002 => if 0 < (x0.length : Int) then (if x11 < (((rd_T31 x0 0).f2).length : Int) then (if 0 ≤ x11 then (if 0 ≤ (rd ((rd_T31 x0 0).f2) x11) then (if (rd ((rd_T31 x0 0).f2) x11) < (x5.length : Int) then (if x262002.length < 70368744177664 then (spec_l04Merge.l2 k x0 x5 (wrap64 (x11 + 1)) x262000 x262001 (x262002 ++ [IntKind.i16.wrap (rd x5 (rd ((rd_T31 x0 0).f2) x11))])) else (none)) else (none)) else (none)) else (none)) else (some (x262000, x262001, x262002, x5))) else (none)
end
def spec_l04Merge.f (k : Nat) (l0 : List (S31)) : Option (Int × (List (S81)) × List Int × List Int) := (spec_l04Tables.f k l0).bind fun t251 => (if 0 < (l0.length : Int) then (spec_l04Merge.l0 k l0 t251 (([] : List Int)) (([] : List Int)) 0 ((rd_T31 l0 0).f0) ([] : List (S81))) else (none))
theorem spec_l04Merge.mono_l : ∀ k, (∀ y0 y1 y2 y3 y4 y5 y6, LeO (spec_l04Merge.l0 k y0 y1 y2 y3 y4 y5 y6) (spec_l04Merge.l0 (k + 1) y0 y1 y2 y3 y4 y5 y6)) ∧ (∀ y0 y1 y2 y3 y4 y5 y6 y7, LeO (spec_l04Merge.j2 k y0 y1 y2 y3 y4 y5 y6 y7) (spec_l04Merge.j2 (k + 1) y0 y1 y2 y3 y4 y5 y6 y7)) ∧ (∀ y0 y1 y2 y3 y4 y5 y6 y7, LeO (spec_l04Merge.l1 k y0 y1 y2 y3 y4 y5 y6 y7) (spec_l04Merge.l1 (k + 1) y0 y1 y2 y3 y4 y5 y6 y7)) ∧ (∀ y0 y1 y2 y3 y4 y5, LeO (spec_l04Merge.l2 k y0 y1 y2 y3 y4 y5) (spec_l04Merge.l2 (k + 1) y0 y1 y2 y3 y4 y5))
  | 0 => ⟨fun _ _ _ _ _ _ _ r h => by simp [spec_l04Merge.l0] at h, fun _ _ _ _ _ _ _ _ r h => by simp [spec_l04Merge.j2] at h, fun _ _ _ _ _ _ _ _ r h => by simp [spec_l04Merge.l1] at h, fun _ _ _ _ _ _ r h => by simp [spec_l04Merge.l2] at h⟩
  | k + 1 => by
    obtain ⟨ih0, ih1, ih2, ih3⟩ := spec_l04Merge.mono_l k
    refine ⟨?_, ?_, ?_, ?_⟩
    · intro y0 y1 y2 y3 y4 y5 y6
      unfold spec_l04Merge.l0
      repeat' first | (with_reducible first | apply ih0 | apply ih1 | apply ih2 | apply ih3 | apply spec_l04Tables.mono | exact LeO.refl _ | exact LeO.none _ | refine LeO.ite ?_ ?_ | refine LeO.bind ?_ (fun _ => ?_)) | apply ih0 | apply ih1 | apply ih2 | apply ih3 | apply spec_l04Tables.mono | exact LeO.none _ | refine LeO.ite ?_ ?_ | refine LeO.bind ?_ (fun _ => ?_)
    · intro y0 y1 y2 y3 y4 y5 y6 y7
      unfold spec_l04Merge.j2
      repeat' first | (with_reducible first | apply ih0 | apply ih1 | apply ih2 | apply ih3 | apply spec_l04Tables.mono | exact LeO.refl _ | exact LeO.none _ | refine LeO.ite ?_ ?_ | refine LeO.bind ?_ (fun _ => ?_)) | apply ih0 | apply ih1 | apply ih2 | apply ih3 | apply spec_l04Tables.mono | exact LeO.none _ | refine LeO.ite ?_ ?_ | refine LeO.bind ?_ (fun _ => ?_)
    · intro y0 y1 y2 y3 y4 y5 y6 y7
      unfold spec_l04Merge.l1
      repeat' first | (with_reducible first | apply ih0 | apply ih1 | apply ih2 | apply ih3 | apply spec_l04Tables.mono | exact LeO.refl _ | exact LeO.none _ | refine LeO.ite ?_ ?_ | refine LeO.bind ?_ (fun _ => ?_)) | apply ih0 | apply ih1 | apply ih2 | apply ih3 | apply spec_l04Tables.mono | exact LeO.none _ | refine LeO.ite ?_ ?_ | refine LeO.bind ?_ (fun _ => ?_)
    · intro y0 y1 y2 y3 y4 y5
      unfold spec_l04Merge.l2
      repeat' first | (with_reducible first | apply ih0 | apply ih1 | apply ih2 | apply ih3 | apply spec_l04Tables.mono | exact LeO.refl _ | exact LeO.none _ | refine LeO.ite ?_ ?_ | refine LeO.bind ?_ (fun _ => ?_)) | apply ih0 | apply ih1 | apply ih2 | apply ih3 | apply spec_l04Tables.mono | exact LeO.none _ | refine LeO.ite ?_ ?_ | refine LeO.bind ?_ (fun _ => ?_)
theorem spec_l04Merge.mono : ∀ a0 k, LeO (spec_l04Merge.f k a0) (spec_l04Merge.f (k + 1) a0) := by
 intro a0 k
 obtain ⟨ih0, ih1, ih2, ih3⟩ := spec_l04Merge.mono_l k
 unfold spec_l04Merge.f
 repeat' first | (with_reducible first | apply ih0 | apply ih1 | apply ih2 | apply ih3 | apply spec_l04Tables.mono | exact LeO.refl _ | exact LeO.none _ | refine LeO.ite ?_ ?_ | refine LeO.bind ?_ (fun _ => ?_)) | apply ih0 | apply ih1 | apply ih2 | apply ih3 | apply spec_l04Tables.mono | exact LeO.none _ | refine LeO.ite ?_ ?_ | refine LeO.bind ?_ (fun _ => ?_)
def spec_l04Merge.T9 : Bool × List (List Nat × List Nat) := (true, [([], []), ([], []), ([1], [1]), ([0, 2], [0, 2]), ([3], [3]), ([4], [4]), ([4], [4]), ([5, 6, 4], [4, 5, 6]), ([7, 4], [4, 7]), ([4], [4]), ([4], [4]), ([9, 10, 4], [4, 9, 10]), ([11, 4], [4, 11]), ([8, 12, 4], [4, 8, 12]), ([4, 13], [4, 13])])
def spec_l04Merge.B9 : List Nat := [0, 0, 2, 7, 15, 31, 31, 127, 255, 31, 31, 1567, 3615, 8191, 16383]
theorem spec_l04Merge.tab9 : rtab .any (opsOf Try.f121 9) = spec_l04Merge.T9 := by kernel_rfl
theorem spec_l04Merge.bits9 : waitsOk spec_l04Merge.T9.2 spec_l04Merge.B9 = true := by kernel_rfl
def spec_l04Merge.T22 : Bool × List (List Nat × List Nat) := (true, [([], []), ([0], [0]), ([], []), ([], []), ([3], [3]), ([4], [4]), ([5], [5]), ([], []), ([6, 7], [6, 7]), ([8], [8]), ([2, 9], [2, 9]), ([10], [10]), ([11], [11]), ([12], [12]), ([1, 13], [1, 13]), ([0, 1, 2, 3, 4, 5, 6, 7, 8, 9, 10, 11, 12, 13, 14], []), ([15, 14, 14, 0, 1, 2, 3, 4, 5, 6, 7, 8, 9, 10, 11, 12, 13, 14], [14, 15])])
def spec_l04Merge.B22 : List Nat := [0, 1, 0, 0, 8, 24, 56, 0, 248, 504, 1020, 2044, 4092, 8188, 16383, 32767, 65535]
theorem spec_l04Merge.tab22 : rtab .any (opsOf Try.f121 22) = spec_l04Merge.T22 := by kernel_rfl
theorem spec_l04Merge.bits22 : waitsOk spec_l04Merge.T22.2 spec_l04Merge.B22 = true := by kernel_rfl
theorem spec_l04Merge.calls (k : Nat) (adp0 : Addr) (l0 : List (S31)) (r1 : Int) (r2 : List (S81)) (r3 : List Int) (r4 : List Int) (w : World) (hr0 : Kd.C k31 w (some adp0) l0.length l0) (h : spec_l04Merge.f k l0 = some (r1, r2, r3, r4)) :
    Calls Try.prog 121 #[.pointer (some adp0)] w fun e w' => ∃ v1_ v2_ v3_ : Value, e = .returned (.tuple #[.agg #[.int .i8 r1, v1_, v2_], v3_]) ∧ Kd.R k81 81 w' w.heap.size (fun _ => True) v1_ r2 ∧ Kd.R (Kd.int .i16) 79 w' w.heap.size (fun _ => True) v2_ r3 ∧ Kd.R (Kd.int .i64) 2 w' w.heap.size (fun _ => True) v3_ r4 ∧ Below w.heap.size w w' := by
 have hu31 := Try.underlying31
 have hu81 := Try.underlying81
 have HR0 := Aside0.mk hr0
 clear hr0
 have HB := Aside0.mk (Below.refl w.heap.size w)
 have H : ((spec_l04Tables.f k l0).bind fun t251 => (if 0 < (l0.length : Int) then (spec_l04Merge.l0 k l0 t251 (([] : List Int)) (([] : List Int)) 0 ((rd_T31 l0 0).f0) ([] : List (S81))) else (none))) = some (r1, r2, r3, r4) := h
 clear h
 replace H := zob H
 obtain ⟨t251, A20, H⟩ := H
 replace H : (if 0 < (l0.length : Int) then (spec_l04Merge.l0 k l0 t251 (([] : List Int)) (([] : List Int)) 0 ((rd_T31 l0 0).f0) ([] : List (S81))) else (none)) = some (r1, r2, r3, r4) := H
 have A2 := Aside0.mk A20
 clear A20
 obtain ⟨y254, hy254⟩ : ∃ y_ : List Int, y_ = (([] : List Int)) := ⟨_, rfl⟩
 replace H : (if 0 < (l0.length : Int) then (spec_l04Merge.l0 k l0 t251 y254 (([] : List Int)) 0 ((rd_T31 l0 0).f0) ([] : List (S81))) else (none)) = some (r1, r2, r3, r4) := by first | (rw [hy254]; with_reducible exact H) | (have H2_ := (Option.bind_some _ _).symm.trans H; rw [hy254]; with_reducible exact H2_) | (have H2_ := (Option.bind_some _ _).symm.trans H; with_reducible exact H2_) | with_reducible exact H | (rw [hy254]; exact H) | exact H
 have Ny254 := Aside0.mk hy254
 clear hy254
 obtain ⟨y257, hy257⟩ : ∃ y_ : List Int, y_ = (([] : List Int)) := ⟨_, rfl⟩
 replace H : (if 0 < (l0.length : Int) then (spec_l04Merge.l0 k l0 t251 y254 y257 0 ((rd_T31 l0 0).f0) ([] : List (S81))) else (none)) = some (r1, r2, r3, r4) := by first | (rw [hy257]; with_reducible exact H) | (have H2_ := (Option.bind_some _ _).symm.trans H; rw [hy257]; with_reducible exact H2_) | (have H2_ := (Option.bind_some _ _).symm.trans H; with_reducible exact H2_) | with_reducible exact H | (rw [hy257]; exact H) | exact H
 have Ny257 := Aside0.mk hy257
 clear hy257
 by_cases c3 : 0 < (l0.length : Int)
 rotate_left
 ·rw [if_neg c3] at H
  exact absurd H (by simp)
 rw [if_pos c3] at H
 have c3b0 : decide (0 < (l0.length : Int)) = true := decide_eq_true c3
 have c3b1 : decide (0 < l0.length) = true := decide_eq_true (by omega)
 clear c3
 have H' := Aside0.mk H
 clear H
 go_enter Try.func121, Try.ntmps121
 go_wp2_with (first | ((with_reducible refine gate_dst (N := 2) rfl ?_); refine zbx 2 #[.int .i8 0, .slice none 0 0, .slice none 0 0] 31 ?_; intro gb250 hg w4 hbox hb; have n_ : _ ∧ _ ∧ _ ∧ _ := ⟨zb HB hb, Aside0.mk (hbox), zg HB hg, zg HB hg⟩; clear HB; obtain ⟨HB, BK250, GW250, GE250⟩ := n_; clear hb hbox hg) | ((with_reducible refine gate_callee (f := 96) rfl ?_); refine goesL_ (some 13) rfl rfl Try.func96 (by kernel_rfl) rfl #[.pointer (some adp0)] rfl zm ?_; (with_reducible refine (spec_l04Tables.calls k _ l0 t251 _ ?side1 A2.out).mono ?_); (case side1 => exact zcc HB HR0.out); rintro e w5 ⟨v252, rfl, ho0, hb⟩; refine ⟨_, rfl, ?_⟩; have n_ : _ ∧ _ ∧ _ := ⟨Aside0.mk (Kd.R_lower ho0 (zz HB)), zk BK250 hb, zbs hb⟩; clear BK250 HB; obtain ⟨HO253, BK250, HB⟩ := n_; (try clear hb); (try clear hb2); (try clear hk); (try clear hi); (try clear ho0)) | ((with_reducible refine gate_dst (N := 14) rfl ?_); refine Kd.R_lit (Kd.int .i64) _ 2 ?hg (N := 14) ?hd (xs := ([] : List Int)) (inner := []) (ok := fun _ => True) (okp := fun _ => True) ?hr ?hp (fun _ hk => hk) trivial (Below.refl _ _) (Nat.le_refl _) (by simp) ?_; (case hd => rfl); (case hg => rfl); (case hr => exact zgs); (case hp => exact (Reps.none _ _)); intro v255 w6 ho7 hb hg_ hnew_; clear hg_ hnew_; (first | rw [← Ny254.out] at ho7 | (simp only [Int.reduceToNat] at ho7; rw [← Ny254.out] at ho7)); have n_ : _ ∧ _ ∧ _ ∧ _ := ⟨zr HO253 hb, Aside0.mk (Kd.R_lower ho7 (zz HB)), zk BK250 hb, zbs hb⟩; clear HO253 BK250 HB; obtain ⟨HO253, HO256, BK250, HB⟩ := n_; clear hb ho7) | ((with_reducible refine gate_dst (N := 15) rfl ?_); refine Kd.R_lit (Kd.int .u64) _ 98 ?hg (N := 15) ?hd (xs := ([] : List Int)) (inner := []) (ok := fun _ => True) (okp := fun _ => True) ?hr ?hp (fun _ hk => hk) trivial (Below.refl _ _) (Nat.le_refl _) (by simp) ?_; (case hd => rfl); (case hg => rfl); (case hr => exact zgs); (case hp => exact (Reps.none _ _)); intro v258 w8 ho9 hb hg_ hnew_; clear hg_ hnew_; (first | rw [← Ny257.out] at ho9 | (simp only [Int.reduceToNat] at ho9; rw [← Ny257.out] at ho9)); have n_ : _ ∧ _ ∧ _ ∧ _ ∧ _ := ⟨Aside0.mk (Kd.R_elder' (ze HO253).out (Kd.R_base ho9) hb), zr HO256 hb, Aside0.mk (Kd.R_lower (Kd.R_new' ho9 (Kd.R_lt (ze HO253).out)) (zz HB)), zk BK250 hb, zbs hb⟩; clear HO253 HO256 BK250 HB; obtain ⟨HO253, HO256, HO259, BK250, HB⟩ := n_; clear hb ho9; have p260 : 0 ≤ (0 : Int) := (by omega); have q260 : 0 < (l0.length : Int) := of_decide_eq_true zA; obtain ⟨ad260, A260_1, c260_1, A260_2, c260_2, e260, hx260_0, hx260_1, hx260_2, hl260_1, hi260_1, hl260_2, hi260_2⟩ := at_T31 HR0.out 0 p260 q260; obtain rfl : adp0 = ad260 := (by injection e260); have qi260 : (0 < l0.length) = True := eq_true (by omega); (try simp only [z00, Nat.zero_mul, Addr.add_zero'] at hx260_0 hx260_1 hx260_2); replace hx260_0 := zc HB hx260_0; replace hx260_1 := zc HB hx260_1; replace hx260_2 := zc HB hx260_2; have HR260_1 := Aside0.mk hi260_1; have HC260_1 := Aside0.mk hl260_1; clear hi260_1 hl260_1; have HR260_2 := Aside0.mk hi260_2; have HC260_2 := Aside0.mk hl260_2; clear hi260_2 hl260_2; replace p260 := eq_true p260; replace q260 := eq_true q260) | ((with_reducible refine gate_dst (N := 7) rfl ?_); refine zbx 7 #[.int .i8 0, .slice none 0 0, .slice none 0 0] 31 ?_; intro gb261 hg w10 hbox hb; have n_ : _ ∧ _ ∧ _ ∧ _ ∧ _ ∧ _ ∧ _ ∧ _ ∧ _ ∧ _ := ⟨zr HO253 hb, zr HO256 hb, zr HO259 hb, zk BK250 hb, zbs hb, Aside0.mk (hbox), zg HB hg, zg HB hg, zn1 BK250 hg, zn2 BK250 hg⟩; clear HO253 HO256 HO259 BK250 HB; obtain ⟨HO253, HO256, HO259, BK250, HB, BK261, GW261, GE261, NB250_261, NB261_250⟩ := n_; clear hb hbox hg; have hnb11 := NB261_250.out; have hnc11 := NB250_261.out; obtain ⟨z12_0, z12_1, z12_2, y12_0, y12_1, y12_2⟩ := zB3 BK261))
 go_loopg [5, 6, 8] k (fun kq v5 v6 v8 w' => ∃ (x5_1 : List Int) (x6_1 : List Int) (x8_1 : Int) (x262001_1 : List (S81)) (u262001 : Value), v8 = .int .i64 x8_1 ∧ Aside0 (spec_l04Merge.l0 kq l0 t251 x5_1 x6_1 x8_1 ((rd_T31 l0 0).f0) x262001_1 = some (r1, r2, r3, r4)) ∧ Aside0 (kq ≤ k) ∧ Aside0 (Kd.R (Kd.int .u64) 98 w' w.heap.size (fun k_ => some k_ ≠ (v6 : Value).ownBlock) v252 t251) ∧ Aside0 (Kd.R (Kd.int .i64) 2 w' w.heap.size (fun _ => True) v5 x5_1) ∧ Aside0 (Kd.R (Kd.int .u64) 98 w' w.heap.size (fun k_ => some k_ ≠ (v252 : Value).ownBlock) v6 x6_1) ∧ Aside0 (Kd.R k81 81 w' w.heap.size (fun _ => True) u262001 x262001_1) ∧ Aside0 (w'.heap[gb250]? = some (.cells #[.int .i8 0, (.slice none 0 0), (.slice none 0 0)] 31 (0, 0))) ∧ Aside0 (w'.heap[gb261]? = some (.cells #[.int .i8 ((rd_T31 l0 0).f0), u262001, (.slice none 0 0)] 31 (0, 0))) ∧ Aside0 (Below w.heap.size w w'))
 case atStart => exact ⟨(y254), (y257), (0), (([] : List (S81))), (.slice none 0 0), zi, H', ⟨Nat.le_refl _⟩, ⟨by (with_reducible repeat (first | apply Kd.R_alloc | apply Kd.R_drewN | apply Kd.R_drew)); exact Kd.R_mono (Kd.R_far (p := ⟨gb261, 2, none⟩) (Kd.R_far (p := ⟨gb261, 1, none⟩) (Kd.R_far (p := ⟨gb261, 0, none⟩) (Kd.R_types HO253.out BK261.out (by decide)) (fun _ hk => hk.2) (.int .i8 ((rd_T31 l0 0).f0))) (fun _ hk => hk.2) (.slice none 0 0)) (fun _ hk => hk.2) (.slice none 0 0)) (fun _ hk => hk.1.2)⟩, ⟨Kd.R_mono (zs HO256 BK261).out (fun _ hk => trivial)⟩, ⟨by (with_reducible repeat (first | apply Kd.R_alloc | apply Kd.R_drewN | apply Kd.R_drew)); exact Kd.R_mono (Kd.R_far (p := ⟨gb261, 2, none⟩) (Kd.R_far (p := ⟨gb261, 1, none⟩) (Kd.R_far (p := ⟨gb261, 0, none⟩) (Kd.R_types HO259.out BK261.out (by decide)) (fun _ hk => hk.2) (.int .i8 ((rd_T31 l0 0).f0))) (fun _ hk => hk.2) (.slice none 0 0)) (fun _ hk => hk.2) (.slice none 0 0)) (fun _ hk => hk.1.2)⟩, ⟨by first | exact Kd.R_nil _ _ _ _ _ | exact Kd.N_nil _ _ _ _ _ | exact Kd.V_nil _ _ _ _ _ | exact Kd.Q_nil _ _ _ _ _ | exact Kd.S_nil _ _ _ _ _⟩, zf BK250 NB250_261, ⟨zp BK261⟩, zba⟩
 clear H'
 try clear c1
 try clear c2
 try clear p2
 try clear q2
 try clear hx2
 try clear qi2
 try clear c3
 try clear c3b0
 try clear c3b1
 try clear c9
 try clear c11
 try clear c12
 try clear z12_0 z12_1 z12_2 y12_0 y12_1 y12_2
 try clear hx260_0
 try clear hx260_1
 try clear hx260_2
 try clear p260
 try clear q260
 obtain ⟨x5_1, x6_1, x8_1, x262001_1, u262001, rfl, HA, HK1, HO_4, HO_5, HO_6, HO_262001, BK250, BK261, HB⟩ := hrel
 cases gk with
 | zero => exact absurd HA.out (by simp [spec_l04Merge.l0])
 | succ k1 => ?_
 have H := HA.out
 clear HA
 simp only [spec_l04Merge.l0] at H
 by_cases c13 : 0 < (l0.length : Int)
 rotate_left
 ·rw [if_neg c13] at H
  exact absurd H (by simp)
 rw [if_pos c13] at H
 have c13b0 : decide (0 < (l0.length : Int)) = true := decide_eq_true c13
 have c13b1 : decide (0 < l0.length) = true := decide_eq_true (by omega)
 clear c13
 by_cases c14 : x8_1 < (((rd_T31 l0 0).f1).length : Int)
 rotate_left
 ·rw [if_neg c14] at H
  have c14b0 : decide (x8_1 < (((rd_T31 l0 0).f1).length : Int)) = false := decide_eq_false c14
  clear c14
  have H' := Aside0.mk H
  clear H
  have p262 : 0 ≤ (0 : Int) := (by omega)
  have q262 : 0 < (l0.length : Int) := of_decide_eq_true zA
  obtain ⟨ad262, A262_1, c262_1, A262_2, c262_2, e262, hx262_0, hx262_1, hx262_2, hl262_1, hi262_1, hl262_2, hi262_2⟩ := at_T31 HR0.out 0 p262 q262
  obtain rfl : adp0 = ad262 := (by injection e262)
  have qi262 : (0 < l0.length) = True := eq_true (by omega)
  try simp only [z00, Nat.zero_mul, Addr.add_zero'] at hx262_0 hx262_1 hx262_2
  replace hx262_0 := zc HB hx262_0
  replace hx262_1 := zc HB hx262_1
  replace hx262_2 := zc HB hx262_2
  have HR262_1 := Aside0.mk hi262_1
  have HC262_1 := Aside0.mk hl262_1
  clear hi262_1 hl262_1
  have HR262_2 := Aside0.mk hi262_2
  have HC262_2 := Aside0.mk hl262_2
  clear hi262_2 hl262_2
  replace p262 := eq_true p262
  replace q262 := eq_true q262
  go_wp2
  go_loopg [11] k1 (fun kq v11 w' => ∃ (x11_2 : Int) (x262002_2 : List Int) (u262002 : Value), v11 = .int .i64 x11_2 ∧ Aside0 (spec_l04Merge.l2 kq l0 x5_1 x11_2 ((rd_T31 l0 0).f0) x262001_1 x262002_2 = some (r1, r2, r3, r4)) ∧ Aside0 (kq ≤ k1) ∧ Aside0 (Kd.R (Kd.int .i64) 2 w' w.heap.size (fun _ => True) u5 x5_1) ∧ Aside0 (Kd.R k81 81 w' w.heap.size (fun _ => True) u262001 x262001_1) ∧ Aside0 (Kd.R (Kd.int .i16) 79 w' w.heap.size (fun _ => True) u262002 x262002_2) ∧ Aside0 (w'.heap[gb250]? = some (.cells #[.int .i8 0, (.slice none 0 0), (.slice none 0 0)] 31 (0, 0))) ∧ Aside0 (w'.heap[gb261]? = some (.cells #[.int .i8 ((rd_T31 l0 0).f0), u262001, u262002] 31 (0, 0))) ∧ Aside0 (Below w.heap.size w w'))
  case atStart => exact ⟨(0), (([] : List Int)), (.slice none 0 0), zi, H', ⟨Nat.le_refl _⟩, ze HO_5, ze HO_262001, ⟨by first | exact Kd.R_nil _ _ _ _ _ | exact Kd.N_nil _ _ _ _ _ | exact Kd.V_nil _ _ _ _ _ | exact Kd.Q_nil _ _ _ _ _ | exact Kd.S_nil _ _ _ _ _⟩, zh BK250, zh BK261, zba⟩
  clear H'
  try clear c1
  try clear c2
  try clear p2
  try clear q2
  try clear hx2
  try clear qi2
  try clear c3
  try clear c3b0
  try clear c3b1
  try clear c4
  try clear c5
  try clear c6
  try clear p6
  try clear c7
  try clear c9
  try clear c11
  try clear c12
  try clear c13
  try clear c13b0
  try clear c13b1
  try clear c14
  try clear c14b0
  try clear c16
  try clear c16b0
  try clear c17
  try clear c17b0
  try clear c18
  try clear c18b0
  try clear c19
  try clear c19b0
  try clear c20
  try clear c20b0
  try clear c20b1
  try clear c26
  try clear p26
  try clear q26
  try clear hx26
  try clear qi26
  try clear p27
  try clear q27
  try clear hx27
  try clear p28
  try clear q28
  try clear hx28
  try clear c29
  try clear c29b0
  try clear c29b1
  try clear c30
  try clear c30b0
  try clear c30b1
  try clear c31
  try clear c31b0
  try clear c32
  try clear c32b0
  try clear c33
  try clear c33b0
  try clear c34
  try clear c34b0
  try clear c35
  try clear c35b0
  try clear c36
  try clear c36b0
  try clear c37
  try clear c37b0
  try clear c38
  try clear c38b0
  try clear c39
  try clear c40
  try clear c41
  try clear c44
  try clear c45
  try clear c50
  try clear c57
  try clear c57b0
  try clear c58
  try clear c59
  try clear c60
  try clear c63
  try clear c64
  try clear p64
  try clear c68
  try clear c75
  try clear z12_0 z12_1 z12_2
  try clear z46_0 z46_1 z46_2
  try clear z51_0 z51_1 z51_2
  try clear z52_0 z52_1 z52_2
  try clear z55_0 z55_1 z55_2
  try clear z65_0 z65_1 z65_2
  try clear z69_0 z69_1 z69_2
  try clear z70_0 z70_1 z70_2
  try clear z73_0 z73_1 z73_2
  try clear y12_0
  try clear y12_1
  try clear y12_2
  try clear y46_0
  try clear y46_1
  try clear y46_2
  try clear y51_0
  try clear y51_1
  try clear y51_2
  try clear y52_0
  try clear y52_1
  try clear y52_2
  try clear y55_0
  try clear y55_1
  try clear y55_2
  try clear y65_0
  try clear y65_1
  try clear y65_2
  try clear y69_0
  try clear y69_1
  try clear y69_2
  try clear y70_0
  try clear y70_1
  try clear y70_2
  try clear y73_0
  try clear y73_1
  try clear y73_2
  try clear hx260_0
  try clear hx260_1
  try clear hx260_2
  try clear hx262_0
  try clear hx262_1
  try clear hx262_2
  try clear hx263_0
  try clear hx264_0
  try clear hx265_0
  try clear hx265_1
  try clear hx265_2
  try clear hx266_0
  try clear hx266_1
  try clear hx266_2
  try clear hx268_0
  try clear hx269_0
  try clear hx270_0
  try clear hx280_0
  try clear p2
  try clear p26
  try clear p260
  try clear p262
  try clear p263
  try clear p264
  try clear p265
  try clear p266
  try clear p268
  try clear p269
  try clear p270
  try clear p280
  try clear p6
  try clear q2
  try clear q26
  try clear q260
  try clear q262
  try clear q263
  try clear q264
  try clear q265
  try clear q266
  try clear q268
  try clear q269
  try clear q270
  try clear q280
  obtain ⟨x11_2, x262002_2, u262002, rfl, HA, HK2, HO_5, HO_262001, HO_262002, BK250, BK261, HB⟩ := hrel
  cases gk with
  | zero => exact absurd HA.out (by simp [spec_l04Merge.l2])
  | succ k2 => ?_
  have H := HA.out
  clear HA
  simp only [spec_l04Merge.l2] at H
  by_cases c78 : 0 < (l0.length : Int)
  rotate_left
  ·rw [if_neg c78] at H
   exact absurd H (by simp)
  rw [if_pos c78] at H
  have c78b0 : decide (0 < (l0.length : Int)) = true := decide_eq_true c78
  have c78b1 : decide (0 < l0.length) = true := decide_eq_true (by omega)
  clear c78
  by_cases c79 : x11_2 < (((rd_T31 l0 0).f2).length : Int)
  rotate_left
  ·rw [if_neg c79] at H
   have c79b0 : decide (x11_2 < (((rd_T31 l0 0).f2).length : Int)) = false := decide_eq_false c79
   clear c79
   simp only [Option.some.injEq, Prod.mk.injEq] at H
   obtain ⟨rfl, rfl, rfl, rfl⟩ := H
   have p293 : 0 ≤ (0 : Int) := (by omega)
   have q293 : 0 < (l0.length : Int) := of_decide_eq_true zA
   obtain ⟨ad293, A293_1, c293_1, A293_2, c293_2, e293, hx293_0, hx293_1, hx293_2, hl293_1, hi293_1, hl293_2, hi293_2⟩ := at_T31 HR0.out 0 p293 q293
   obtain rfl : adp0 = ad293 := (by injection e293)
   have qi293 : (0 < l0.length) = True := eq_true (by omega)
   try simp only [z00, Nat.zero_mul, Addr.add_zero'] at hx293_0 hx293_1 hx293_2
   replace hx293_0 := zc HB hx293_0
   replace hx293_1 := zc HB hx293_1
   replace hx293_2 := zc HB hx293_2
   have HR293_1 := Aside0.mk hi293_1
   have HC293_1 := Aside0.mk hl293_1
   clear hi293_1 hl293_1
   have HR293_2 := Aside0.mk hi293_2
   have HC293_2 := Aside0.mk hl293_2
   clear hi293_2 hl293_2
   replace p293 := eq_true p293
   replace q293 := eq_true q293
   have hnb89 := NB261_250.out
   have hnc89 := NB250_261.out
   obtain ⟨z90_0, z90_1, z90_2, y90_0, y90_1, y90_2⟩ := zB3 BK261
   obtain ⟨z91_0, z91_1, z91_2, y91_0, y91_1, y91_2⟩ := zB3 BK250
   obtain ⟨Ao92, co92, eo92⟩ := Kd.R_slice HO_262001.out
   subst eo92
   obtain ⟨Ao93, co93, eo93⟩ := Kd.R_slice HO_262002.out
   subst eo93
   go_wp2
   refine bodyPost_ret (results_ct rfl _ _ gb250 31 #[.int .i8 ((rd_T31 l0 0).f0), .slice Ao92 x262001_1.length co92, .slice Ao93 x262002_2.length co93] (0, 0) _ rfl (zp BK250) Try.underlying31 rfl (by kernel_rfl)) rfl ?_
   exact ⟨_, _, _, zv, Kd.R_mono (zs HO_262001 BK250).out (fun _ hk => trivial), Kd.R_mono (zs HO_262002 BK250).out (fun _ hk => trivial), Kd.R_mono (zs HO_5 BK250).out (fun _ hk => trivial), zbo⟩
  rw [if_pos c79] at H
  have c79b0 : decide (x11_2 < (((rd_T31 l0 0).f2).length : Int)) = true := decide_eq_true c79
  clear c79
  by_cases c80 : 0 ≤ x11_2
  rotate_left
  ·rw [if_neg c80] at H
   exact absurd H (by simp)
  rw [if_pos c80] at H
  have c80b0 : decide (0 ≤ x11_2) = true := decide_eq_true c80
  clear c80
  by_cases c81 : 0 ≤ (rd ((rd_T31 l0 0).f2) x11_2)
  rotate_left
  ·rw [if_neg c81] at H
   exact absurd H (by simp)
  rw [if_pos c81] at H
  have c81b0 : decide (0 ≤ (rd ((rd_T31 l0 0).f2) x11_2)) = true := decide_eq_true c81
  clear c81
  by_cases c82 : (rd ((rd_T31 l0 0).f2) x11_2) < (x5_1.length : Int)
  rotate_left
  ·rw [if_neg c82] at H
   exact absurd H (by simp)
  rw [if_pos c82] at H
  have c82b0 : decide ((rd ((rd_T31 l0 0).f2) x11_2) < (x5_1.length : Int)) = true := decide_eq_true c82
  clear c82
  by_cases c83 : x262002_2.length < 70368744177664
  rotate_left
  ·rw [if_neg c83] at H
   exact absurd H (by simp)
  rw [if_pos c83] at H
  have LMc83 := Aside0.mk c83
  clear c83
  obtain ⟨y297, hy297⟩ : ∃ y_ : List Int, y_ = (x262002_2 ++ [IntKind.i16.wrap (rd x5_1 (rd ((rd_T31 l0 0).f2) x11_2))]) := ⟨_, rfl⟩
  replace H : (spec_l04Merge.l2 k2 l0 x5_1 (wrap64 (x11_2 + 1)) ((rd_T31 l0 0).f0) x262001_1 y297) = some (r1, r2, r3, r4) := by first | (rw [hy297]; with_reducible exact H) | (have H2_ := (Option.bind_some _ _).symm.trans H; rw [hy297]; with_reducible exact H2_) | (have H2_ := (Option.bind_some _ _).symm.trans H; with_reducible exact H2_) | with_reducible exact H | (rw [hy297]; exact H) | exact H
  have Ny297 := Aside0.mk hy297
  clear hy297
  have H' := Aside0.mk H
  clear H
  have p293 : 0 ≤ (0 : Int) := (by omega)
  have q293 : 0 < (l0.length : Int) := of_decide_eq_true zA
  obtain ⟨ad293, A293_1, c293_1, A293_2, c293_2, e293, hx293_0, hx293_1, hx293_2, hl293_1, hi293_1, hl293_2, hi293_2⟩ := at_T31 HR0.out 0 p293 q293
  obtain rfl : adp0 = ad293 := (by injection e293)
  have qi293 : (0 < l0.length) = True := eq_true (by omega)
  try simp only [z00, Nat.zero_mul, Addr.add_zero'] at hx293_0 hx293_1 hx293_2
  replace hx293_0 := zc HB hx293_0
  replace hx293_1 := zc HB hx293_1
  replace hx293_2 := zc HB hx293_2
  have HR293_1 := Aside0.mk hi293_1
  have HC293_1 := Aside0.mk hl293_1
  clear hi293_1 hl293_1
  have HR293_2 := Aside0.mk hi293_2
  have HC293_2 := Aside0.mk hl293_2
  clear hi293_2 hl293_2
  replace p293 := eq_true p293
  replace q293 := eq_true q293
  try go_wp2
  have n_ : _ ∧ _ ∧ _ ∧ _ ∧ _ ∧ _ := ⟨Aside0.mk (Kd.R_drew HO_5.out), Aside0.mk (Kd.R_drew HO_262001.out), Aside0.mk (Kd.R_drew HO_262002.out), Aside0.mk (blk_drew BK250.out), Aside0.mk (blk_drew BK261.out), Aside0.mk (below_drew1 HB.out)⟩
  clear HO_5 HO_262001 HO_262002 BK250 BK261 HB
  obtain ⟨HO_5, HO_262001, HO_262002, BK250, BK261, HB⟩ := n_
  have p294 : 0 ≤ (0 : Int) := (by omega)
  have q294 : 0 < (l0.length : Int) := of_decide_eq_true zA
  obtain ⟨ad294, A294_1, c294_1, A294_2, c294_2, e294, hx294_0, hx294_1, hx294_2, hl294_1, hi294_1, hl294_2, hi294_2⟩ := at_T31 HR0.out 0 p294 q294
  have hw294_2 := hx294_2
  try simp only [z00, Nat.zero_mul, Addr.add_zero'] at hw294_2
  have hw294_1 := hx294_1
  try simp only [z00, Nat.zero_mul, Addr.add_zero'] at hw294_1
  have hw294_0 := hx294_0
  try simp only [z00, Nat.zero_mul, Addr.add_zero'] at hw294_0
  obtain rfl : adp0 = ad294 := (by injection e294)
  have qi294 : (0 < l0.length) = True := eq_true (by omega)
  try simp only [z00, Nat.zero_mul, Addr.add_zero'] at hx294_0 hx294_1 hx294_2
  replace hx294_0 := zc HB hx294_0
  replace hx294_1 := zc HB hx294_1
  replace hx294_2 := zc HB hx294_2
  have HR294_1 := Aside0.mk hi294_1
  have HC294_1 := Aside0.mk hl294_1
  clear hi294_1 hl294_1
  have HR294_2 := Aside0.mk hi294_2
  have HC294_2 := Aside0.mk hl294_2
  clear hi294_2 hl294_2
  replace p294 := eq_true p294
  replace q294 := eq_true q294
  have p295 : 0 ≤ (x11_2 : Int) := of_decide_eq_true zA
  have q295 : x11_2 < (((rd_T31 l0 0).f2).length : Int) := of_decide_eq_true zA
  obtain ⟨ad295, e295, hx295_0⟩ := Kd.at_int HR294_2.out x11_2 p295 q295
  have hw295_0 := hx295_0
  cases e295
  replace hx295_0 := zc HB hx295_0
  replace p295 := eq_true p295
  replace q295 := eq_true q295
  obtain ⟨Ao85, co85, eo85⟩ := Kd.R_slice HO_5.out
  (first | subst eo85 | (injection eo85 with f1_ f2_ f3_; have f4_ := f1_.symm; have f5_ := f3_.symm; clear f1_ f2_ f3_; subst f4_; subst f5_))
  have p296 : 0 ≤ ((rd ((rd_T31 l0 0).f2) x11_2) : Int) := of_decide_eq_true zA
  have q296 : (rd ((rd_T31 l0 0).f2) x11_2) < (x5_1.length : Int) := of_decide_eq_true zA
  obtain ⟨ad296, e296, hx296_0⟩ := Kd.at_int (Kd.R_reads' HO_5.out).2.2 (rd ((rd_T31 l0 0).f2) x11_2) p296 q296
  cases e296
  replace p296 := eq_true p296
  replace q296 := eq_true q296
  refine start_ (n := 17) (S := fun w' => w'.cell? ⟨gb261, 0, none⟩ = some (.int .i8 ((rd_T31 l0 0).f0)) ∧ w'.cell? ⟨gb261, 1, none⟩ = some (u262001) ∧ w'.cell? ⟨gb261, 2, none⟩ = some (u262002) ∧ w'.cell? adp0 = some (.int .i8 ((rd_T31 l0 0).f0)) ∧ w'.cell? ⟨adp0.block, adp0.off + 1, none⟩ = some (.slice A294_1 ((rd_T31 l0 0).f1).length c294_1) ∧ w'.cell? ⟨adp0.block, adp0.off + 2, none⟩ = some (.slice (some ad295) ((rd_T31 l0 0).f2).length c294_2) ∧ w'.cell? (ad295.add (x11_2).toNat) = some (.int .i16 (rd ((rd_T31 l0 0).f2) x11_2)) ∧ w'.cell? (ad296.add ((rd ((rd_T31 l0 0).f2) x11_2)).toNat) = some (.int .i64 (rd x5_1 (rd ((rd_T31 l0 0).f2) x11_2)))) (ds := [14, 16]) (zq 17 0) (by kernel_rfl) rfl rfl ⟨(blk_cell BK261.out 0).trans rfl, (blk_cell BK261.out 1).trans rfl, (blk_cell BK261.out 2).trans rfl, (zc HB hw294_0), (zc HB hw294_1), (zc HB hw294_2), (zc HB hw295_0), hx296_0⟩ (fun hHeld => ?_); refine with_tabW spec_l04Merge.tab22 spec_l04Merge.bits22 (fun HT_ HW_ => ?_)
  generalize wr.drew = w84 at HO_5 HO_262001 HO_262002 BK250 BK261 HB HR294_1 HR294_2 hx294_0 hx294_1 hx294_2 hx295_0 hx296_0 hHeld ⊢
  refine zpu 0 (some 101) (zq 17 1) HT_ ?_
  refine zpu 2 (some 103) (zq 17 5) HT_ ?_
  refine zpu 3 (some 104) (zq 17 13) HT_ ?_
  refine zpu 4 (some 105) (zq 17 29) HT_ ?_
  refine zpu 5 (some 106) (zq 17 61) HT_ ?_
  refine zpu 7 (some 108) (zq 17 189) HT_ ?_
  refine ztk 1 (some 102) (zq 17 191) HT_ HW_ rfl hHeld (Or.inl ⟨by rfl, by (rintro w' ⟨s0, s1, s2, s3, s4, s5, s6, s7⟩; go_simp; with_reducible rfl)⟩) ?_
  refine ztk 6 (some 107) (zq 17 255) HT_ HW_ rfl hHeld (Or.inl ⟨by rfl, by (rintro w' ⟨s0, s1, s2, s3, s4, s5, s6, s7⟩; go_simp; with_reducible rfl)⟩) ?_
  refine zpu 8 (some 109) (zq 17 511) HT_ ?_
  refine ztk 9 (some 110) (zq 17 1023) HT_ HW_ rfl hHeld (Or.inl ⟨by rfl, by (rintro w' ⟨s0, s1, s2, s3, s4, s5, s6, s7⟩; go_simp; with_reducible rfl)⟩) ?_
  refine zpu 10 (some 111) (zq 17 2047) HT_ ?_
  refine ztk 11 (some 112) (zq 17 4095) HT_ HW_ rfl hHeld (Or.inl ⟨by rfl, by (rintro w' ⟨s0, s1, s2, s3, s4, s5, s6, s7⟩; go_simp; with_reducible rfl)⟩) ?_
  refine zpu 12 (some 113) (zq 17 8191) HT_ ?_
  refine one_ (i := 13) (N := some 114) (zq 17 16383) rfl rfl (one_of HT_.out (by kernel_rfl)) (by decide) (fun K hK => ?_)
  refine value_ (w1 := ?_) (v := ?_) (by rfl) rfl ?_ ?_
  rotate_left 2
  ·go_simp
   constructor
   rotate_left
   ·rfl
   rfl
  refine hK.out _ _ ⟨(blk_cell (blk_alloc BK261.out _) 0).trans rfl, (blk_cell (blk_alloc BK261.out _) 1).trans rfl, (blk_cell (blk_alloc BK261.out _) 2).trans rfl, (World.cell?_alloc_lt _ _ _ (World.block_lt_of_cell? _ _ ((zc HB hw294_0)))).trans ((zc HB hw294_0)), (World.cell?_alloc_lt _ _ _ (World.block_lt_of_cell? _ _ ((zc HB hw294_1)))).trans ((zc HB hw294_1)), (World.cell?_alloc_lt _ _ _ (World.block_lt_of_cell? _ _ ((zc HB hw294_2)))).trans ((zc HB hw294_2)), (World.cell?_alloc_lt _ _ _ (World.block_lt_of_cell? _ _ ((zc HB hw295_0)))).trans ((zc HB hw295_0)), (World.cell?_alloc_lt _ _ _ (World.block_lt_of_cell? _ _ (hHeld.2.2.2.2.2.2.2))).trans (hHeld.2.2.2.2.2.2.2)⟩ (fun hHeld => ?_)
  clear hK K
  refine norm_ (a' := ?_) ?_ ?_
  rotate_left
  ·show Act.put _ (some 114) _ = _
   exact zap
  refine last_ (i := 14) (N := some 115) (zq 17 32767) rfl rfl (one_of HT_.out (by kernel_rfl)) (by decide) (fun K hK => ?_)
  refine Kd.R_append_step (Kd.int .i16) (w0 := w) w.heap.size (by rfl) (.tmp 102) (.tmp 114) 24 79 (.int .i16 0) 2 rfl Try.underlying24 info79 rfl (by decide) (by omega) u262002 x262002_2 (IntKind.i16.wrap (rd x5_1 (rd ((rd_T31 l0 0).f2) x11_2))) [.int .i16 (IntKind.i16.wrap (rd x5_1 (rd ((rd_T31 l0 0).f2) x11_2)))] (fun _ => True) (fun _ => False) rfl rfl ?aP (fun _ hk => hk.elim) ?aF ?aO ?aB ?aS ?aL ?_
  (case aP => exact rfl)
  (case aB => exact zbo)
  (case aF => exact (fun _ _ => trivial))
  (case aO => exact (ze HO_262002).out)
  (case aS => exact (zz HB))
  (case aL => have := LMc83.out; omega)
  intro v298 w86 ho hb hg hat
  rw [← Ny297.out] at ho
  have n_ : _ ∧ _ ∧ _ ∧ _ ∧ _ ∧ _ := ⟨Aside0.mk (Kd.R_over' (ze HO_5).out (Kd.R_typed (ze HO_262002).out) (by decide) hg), Aside0.mk (Kd.R_over' (ze HO_262001).out (Kd.R_typed (ze HO_262002).out) (by decide) hg), Aside0.mk (blk_grown (g := gb250) (o := .cells #[.int .i8 0, .slice none 0 0, .slice none 0 0] 31 (0, 0)) (zh BK250).out hg (Kd.R_ne HO_262002.out BK250.out (by decide))), Aside0.mk (blk_grown (g := gb261) (o := .cells #[.int .i8 ((rd_T31 l0 0).f0), u262001, u262002] 31 (0, 0)) (zh BK261).out hg (Kd.R_ne HO_262002.out BK261.out (by decide))), Aside0.mk (hb), Aside0.mk (ho)⟩
  clear HO_5 HO_262001 BK250 BK261 HB HO_262002
  obtain ⟨HO_5, HO_262001, BK250, BK261, HB, HO299⟩ := n_
  clear ho hb hg hat
  obtain ⟨Ao87, co87, eo87⟩ := Kd.R_slice HO299.out
  (first | subst eo87 | (injection eo87 with f1_ f2_ f3_; have f4_ := f1_.symm; have f5_ := f3_.symm; clear f1_ f2_ f3_; subst f4_; subst f5_))
  refine hK.out _ _ ?_
  clear hK K
  refine norm_ (a' := ?_) ?_ ?_
  rotate_left
  ·show Act.put _ (some 115) _ = _
   exact zap
  refine zpu 15 (some 116) (zq 17 65535) HT_ ?_
  refine last_ (i := 16) (N := none) (zq 17 131071) rfl rfl (one_of HT_.out (by kernel_rfl)) (by decide) (fun K hK => ?_)
  have hs88 : w86.cell? ⟨gb261, 2, none⟩ = some (u262002) := (blk_cell BK261.out 2).trans rfl
  have hfs88 := blk_frozen BK261.out 2
  have hns88_0 := NB250_261.out
  have hms88_0 := NB261_250.out
  refine skip_ (w1 := ?_) (by rfl) rfl ?_ ?_
  rotate_left
  ·go_simp
   rfl
  refine hK.out _ _ ?_
  clear hK K
  refine done_ (done_of HT_.out (by kernel_rfl)) ?_
  try go_wp2
  go_roundg k2
  case measure => have := HK1.out; have := HK2.out; omega
  case rel => exact ⟨(wrap64 (x11_2 + 1)), (y297), (.slice Ao87 y297.length co87), zi, H', ⟨by have := HK1.out; have := HK2.out; omega⟩, ⟨Kd.R_mono (zs HO_5 BK261).out (fun _ hk => trivial)⟩, ⟨Kd.R_mono (zs HO_262001 BK261).out (fun _ hk => trivial)⟩, ⟨Kd.R_mono (zs HO299 BK261).out (fun _ hk => trivial)⟩, zf BK250 NB250_261, ⟨zp BK261⟩, zba⟩
 rw [if_pos c14] at H
 have c14b0 : decide (x8_1 < (((rd_T31 l0 0).f1).length : Int)) = true := decide_eq_true c14
 clear c14
 have HC15 := Aside0.mk H
 clear H
 have p262 : 0 ≤ (0 : Int) := (by omega)
 have q262 : 0 < (l0.length : Int) := of_decide_eq_true zA
 obtain ⟨ad262, A262_1, c262_1, A262_2, c262_2, e262, hx262_0, hx262_1, hx262_2, hl262_1, hi262_1, hl262_2, hi262_2⟩ := at_T31 HR0.out 0 p262 q262
 obtain rfl : adp0 = ad262 := (by injection e262)
 have qi262 : (0 < l0.length) = True := eq_true (by omega)
 try simp only [z00, Nat.zero_mul, Addr.add_zero'] at hx262_0 hx262_1 hx262_2
 replace hx262_0 := zc HB hx262_0
 replace hx262_1 := zc HB hx262_1
 replace hx262_2 := zc HB hx262_2
 have HR262_1 := Aside0.mk hi262_1
 have HC262_1 := Aside0.mk hl262_1
 clear hi262_1 hl262_1
 have HR262_2 := Aside0.mk hi262_2
 have HC262_2 := Aside0.mk hl262_2
 clear hi262_2 hl262_2
 replace p262 := eq_true p262
 replace q262 := eq_true q262
 go_upto_block 2 with (fail)
 go_cut [9] (fun v9 wc => ∃ (kq : Nat) (x9_14 : Int), v9 = .int .i64 x9_14 ∧ Aside0 (spec_l04Merge.j2 kq l0 t251 x5_1 x6_1 x8_1 x9_14 ((rd_T31 l0 0).f0) x262001_1 = some (r1, r2, r3, r4)) ∧ Aside0 (kq ≤ k1) ∧ Aside0 (Kd.R (Kd.int .u64) 98 wc w.heap.size (fun k_ => some k_ ≠ (u6 : Value).ownBlock) v252 t251) ∧ Aside0 (Kd.R (Kd.int .i64) 2 wc w.heap.size (fun _ => True) u5 x5_1) ∧ Aside0 (Kd.R (Kd.int .u64) 98 wc w.heap.size (fun k_ => some k_ ≠ (v252 : Value).ownBlock) u6 x6_1) ∧ Aside0 (Kd.R k81 81 wc w.heap.size (fun _ => True) u262001 x262001_1) ∧ Aside0 (wc.heap[gb250]? = some (.cells #[.int .i8 0, (.slice none 0 0), (.slice none 0 0)] 31 (0, 0))) ∧ Aside0 (wc.heap[gb261]? = some (.cells #[.int .i8 ((rd_T31 l0 0).f0), u262001, (.slice none 0 0)] 31 (0, 0))) ∧ Aside0 (Below w.heap.size w wc))
 case first =>
  have H := HC15.out
  clear HC15
  have H' := Aside0.mk H
  clear H
  go_wp2
  go_loopg [9] k1 (fun kq v9 w' => ∃ (x9_2 : Int), v9 = .int .i64 x9_2 ∧ Aside0 (spec_l04Merge.l1 kq l0 t251 x5_1 x6_1 x8_1 x9_2 ((rd_T31 l0 0).f0) x262001_1 = some (r1, r2, r3, r4)) ∧ Aside0 (kq ≤ k1) ∧ Aside0 (Kd.R (Kd.int .u64) 98 w' w.heap.size (fun k_ => some k_ ≠ (u6 : Value).ownBlock) v252 t251) ∧ Aside0 (Kd.R (Kd.int .i64) 2 w' w.heap.size (fun _ => True) u5 x5_1) ∧ Aside0 (Kd.R (Kd.int .u64) 98 w' w.heap.size (fun k_ => some k_ ≠ (v252 : Value).ownBlock) u6 x6_1) ∧ Aside0 (Kd.R k81 81 w' w.heap.size (fun _ => True) u262001 x262001_1) ∧ Aside0 (w'.heap[gb250]? = some (.cells #[.int .i8 0, (.slice none 0 0), (.slice none 0 0)] 31 (0, 0))) ∧ Aside0 (w'.heap[gb261]? = some (.cells #[.int .i8 ((rd_T31 l0 0).f0), u262001, (.slice none 0 0)] 31 (0, 0))) ∧ Aside0 (Below w.heap.size w w'))
  case atStart => exact ⟨(0), zi, H', ⟨Nat.le_refl _⟩, ze HO_4, ze HO_5, ze HO_6, ze HO_262001, zh BK250, zh BK261, zba⟩
  clear H'
  try clear c1
  try clear c2
  try clear p2
  try clear q2
  try clear hx2
  try clear qi2
  try clear c3
  try clear c3b0
  try clear c3b1
  try clear c9
  try clear c11
  try clear c12
  try clear c13
  try clear c13b0
  try clear c13b1
  try clear c14
  try clear c14b0
  try clear z12_0 z12_1 z12_2 y12_0 y12_1 y12_2
  try clear hx260_0
  try clear hx260_1
  try clear hx260_2
  try clear hx262_0
  try clear hx262_1
  try clear hx262_2
  try clear p2
  try clear p260
  try clear p262
  try clear q2
  try clear q260
  try clear q262
  obtain ⟨x9_2, rfl, HA, HK2, HO_4, HO_5, HO_6, HO_262001, BK250, BK261, HB⟩ := hrel
  cases gk with
  | zero => exact absurd HA.out (by simp [spec_l04Merge.l1])
  | succ k2 => ?_
  have H := HA.out
  clear HA
  simp only [spec_l04Merge.l1] at H
  by_cases c16 : x9_2 < (x6_1.length : Int)
  rotate_left
  ·rw [if_neg c16] at H
   have c16b0 : decide (x9_2 < (x6_1.length : Int)) = false := decide_eq_false c16
   clear c16
   (first | rw [c16b0] | (simp only [i64_w, i32_w]; rw [c16b0]) | (have h_ := c16b0; simp only [bne] at h_; rw [h_]) | skip)
   have H' := Aside0.mk H
   clear H
   try go_wp2
   have n_ : _ ∧ _ ∧ _ ∧ _ ∧ _ ∧ _ ∧ _ := ⟨Aside0.mk (Kd.R_drew HO_4.out), Aside0.mk (Kd.R_drew HO_5.out), Aside0.mk (Kd.R_drew HO_6.out), Aside0.mk (Kd.R_drew HO_262001.out), Aside0.mk (blk_drew BK250.out), Aside0.mk (blk_drew BK261.out), Aside0.mk (below_drew1 HB.out)⟩
   clear HO_4 HO_5 HO_6 HO_262001 BK250 BK261 HB
   obtain ⟨HO_4, HO_5, HO_6, HO_262001, BK250, BK261, HB⟩ := n_
   obtain ⟨Ao28, co28, eo28⟩ := Kd.R_slice HO_6.out
   (first | subst eo28 | (injection eo28 with f1_ f2_ f3_; have f4_ := f1_.symm; have f5_ := f3_.symm; clear f1_ f2_ f3_; subst f4_; subst f5_))
   refine start_ (n := 15) (S := fun w' => True) (ds := []) (zq 15 0) (by kernel_rfl) rfl rfl trivial (fun hHeld => ?_); refine with_tabW spec_l04Merge.tab9 spec_l04Merge.bits9 (fun HT_ HW_ => ?_)
   generalize wr.drew = w27 at HO_4 HO_5 HO_6 HO_262001 BK250 BK261 HB hHeld ⊢
   refine zpu 0 (some 30) (zq 15 1) HT_ ?_
   refine zpu 1 (some 31) (zq 15 3) HT_ ?_
   refine zpu 2 (some 32) (zq 15 7) HT_ ?_
   refine zpu 3 (some 33) (zq 15 15) HT_ ?_
   refine zpu 4 (some 34) (zq 15 31) HT_ ?_
   refine zpn 5 (some 35) (zq 15 63) HT_ ?_
   refine zpn 6 (some 36) (zq 15 127) HT_ ?_
   refine zpn 7 (some 37) (zq 15 255) HT_ ?_
   refine zpn 8 (some 38) (zq 15 511) HT_ ?_
   refine zpn 9 (some 39) (zq 15 1023) HT_ ?_
   refine zpn 10 (some 40) (zq 15 2047) HT_ ?_
   refine zpn 11 (some 41) (zq 15 4095) HT_ ?_
   refine zpn 12 (some 42) (zq 15 8191) HT_ ?_
   refine zpn 13 (some 43) (zq 15 16383) HT_ ?_
   refine zpu 14 (some 44) (zq 15 32767) HT_ ?_
   refine done_ (done_of HT_.out (by kernel_rfl)) ?_
   try go_wp2
   go_meet
   case rel => exact ⟨_, (x9_2), zi, H', ⟨by have := HK1.out; have := HK2.out; first | omega | exact Nat.le_refl _⟩, ze HO_4, ze HO_5, ze HO_6, ze HO_262001, zh BK250, zh BK261, zba⟩
  rw [if_pos c16] at H
  have c16b0 : decide (x9_2 < (x6_1.length : Int)) = true := decide_eq_true c16
  clear c16
  (first | rw [c16b0] | (simp only [i64_w, i32_w]; rw [c16b0]) | (have h_ := c16b0; simp only [bne] at h_; rw [h_]) | skip)
  by_cases c17 : 0 ≤ x9_2
  rotate_left
  ·rw [if_neg c17] at H
   exact absurd H (by simp)
  rw [if_pos c17] at H
  have c17b0 : decide (0 ≤ x9_2) = true := decide_eq_true c17
  clear c17
  by_cases c18 : 0 ≤ x8_1
  rotate_left
  ·rw [if_neg c18] at H
   exact absurd H (by simp)
  rw [if_pos c18] at H
  have c18b0 : decide (0 ≤ x8_1) = true := decide_eq_true c18
  clear c18
  by_cases c19 : x8_1 < (t251.length : Int)
  rotate_left
  ·rw [if_neg c19] at H
   exact absurd H (by simp)
  rw [if_pos c19] at H
  have c19b0 : decide (x8_1 < (t251.length : Int)) = true := decide_eq_true c19
  clear c19
  by_cases c20 : (rd x6_1 x9_2) = (rd t251 x8_1)
  ·rw [if_pos c20] at H
   have c20b0 : ((rd x6_1 x9_2) == (rd t251 x8_1)) = true := beq_iff_eq.mpr c20
   have c20b1 : ((rd x6_1 x9_2) != (rd t251 x8_1)) = false := bne_eq_false_iff_eq.mpr c20
   clear c20
   have H' := Aside0.mk H
   clear H
   try go_wp2
   have n_ : _ ∧ _ ∧ _ ∧ _ ∧ _ ∧ _ ∧ _ := ⟨Aside0.mk (Kd.R_drew HO_4.out), Aside0.mk (Kd.R_drew HO_5.out), Aside0.mk (Kd.R_drew HO_6.out), Aside0.mk (Kd.R_drew HO_262001.out), Aside0.mk (blk_drew BK250.out), Aside0.mk (blk_drew BK261.out), Aside0.mk (below_drew1 HB.out)⟩
   clear HO_4 HO_5 HO_6 HO_262001 BK250 BK261 HB
   obtain ⟨HO_4, HO_5, HO_6, HO_262001, BK250, BK261, HB⟩ := n_
   obtain ⟨Ao22, co22, eo22⟩ := Kd.R_slice HO_6.out
   (first | subst eo22 | (injection eo22 with f1_ f2_ f3_; have f4_ := f1_.symm; have f5_ := f3_.symm; clear f1_ f2_ f3_; subst f4_; subst f5_))
   have p263 : 0 ≤ (x9_2 : Int) := of_decide_eq_true zA
   have q263 : x9_2 < (x6_1.length : Int) := of_decide_eq_true zA
   obtain ⟨ad263, e263, hx263_0⟩ := Kd.at_int (Kd.R_reads' HO_6.out).2.2 x9_2 p263 q263
   cases e263
   replace p263 := eq_true p263
   replace q263 := eq_true q263
   obtain ⟨Ao23, co23, eo23⟩ := Kd.R_slice HO_4.out
   (first | subst eo23 | (injection eo23 with f1_ f2_ f3_; have f4_ := f1_.symm; have f5_ := f3_.symm; clear f1_ f2_ f3_; subst f4_; subst f5_))
   have p264 : 0 ≤ (x8_1 : Int) := of_decide_eq_true zA
   have q264 : x8_1 < (t251.length : Int) := of_decide_eq_true zA
   obtain ⟨ad264, e264, hx264_0⟩ := Kd.at_int (Kd.R_reads' HO_4.out).2.2 x8_1 p264 q264
   cases e264
   replace p264 := eq_true p264
   replace q264 := eq_true q264
   refine start_ (n := 15) (S := fun w' => w'.cell? (ad263.add (x9_2).toNat) = some (.int .u64 (rd x6_1 x9_2)) ∧ w'.cell? (ad264.add (x8_1).toNat) = some (.int .u64 (rd t251 x8_1))) (ds := []) (zq 15 0) (by kernel_rfl) rfl rfl ⟨hx263_0, hx264_0⟩ (fun hHeld => ?_); refine with_tabW spec_l04Merge.tab9 spec_l04Merge.bits9 (fun HT_ HW_ => ?_)
   generalize wr.drew = w21 at HO_4 HO_5 HO_6 HO_262001 BK250 BK261 HB hx263_0 hx264_0 hHeld ⊢
   refine zpu 0 (some 30) (zq 15 1) HT_ ?_
   refine zpu 1 (some 31) (zq 15 3) HT_ ?_
   refine zpu 2 (some 32) (zq 15 7) HT_ ?_
   refine zpu 3 (some 33) (zq 15 15) HT_ ?_
   refine zpu 4 (some 34) (zq 15 31) HT_ ?_
   refine zpu 5 (some 35) (zq 15 63) HT_ ?_
   refine zpu 6 (some 36) (zq 15 127) HT_ ?_
   refine zpu 7 (some 37) (zq 15 255) HT_ ?_
   refine zpu 9 (some 39) (zq 15 767) HT_ ?_
   refine zpu 10 (some 40) (zq 15 1791) HT_ ?_
   refine zpu 11 (some 41) (zq 15 3839) HT_ ?_
   refine ztk 8 (some 38) (zq 15 4095) HT_ HW_ rfl hHeld (Or.inl ⟨by rfl, by (rintro w' ⟨s0, s1⟩; go_simp; with_reducible rfl)⟩) ?_
   refine ztk 12 (some 42) (zq 15 8191) HT_ HW_ rfl hHeld (Or.inl ⟨by rfl, by (rintro w' ⟨s0, s1⟩; go_simp; with_reducible rfl)⟩) ?_
   refine zpu 13 (some 43) (zq 15 16383) HT_ ?_
   refine zpu 14 (some 44) (zq 15 32767) HT_ ?_
   refine done_ (done_of HT_.out (by kernel_rfl)) ?_
   try go_wp2
   go_meet
   case rel => exact ⟨_, (x9_2), zi, H', ⟨by have := HK1.out; have := HK2.out; first | omega | exact Nat.le_refl _⟩, ze HO_4, ze HO_5, ze HO_6, ze HO_262001, zh BK250, zh BK261, zba⟩
  rw [if_neg c20] at H
  have c20b0 : ((rd x6_1 x9_2) == (rd t251 x8_1)) = false := beq_eq_false_iff_ne.mpr c20
  have c20b1 : ((rd x6_1 x9_2) != (rd t251 x8_1)) = true := bne_iff_ne.mpr c20
  have H' := Aside0.mk H
  clear H
  try go_wp2
  have n_ : _ ∧ _ ∧ _ ∧ _ ∧ _ ∧ _ ∧ _ := ⟨Aside0.mk (Kd.R_drew HO_4.out), Aside0.mk (Kd.R_drew HO_5.out), Aside0.mk (Kd.R_drew HO_6.out), Aside0.mk (Kd.R_drew HO_262001.out), Aside0.mk (blk_drew BK250.out), Aside0.mk (blk_drew BK261.out), Aside0.mk (below_drew1 HB.out)⟩
  clear HO_4 HO_5 HO_6 HO_262001 BK250 BK261 HB
  obtain ⟨HO_4, HO_5, HO_6, HO_262001, BK250, BK261, HB⟩ := n_
  obtain ⟨Ao25, co25, eo25⟩ := Kd.R_slice HO_6.out
  (first | subst eo25 | (injection eo25 with f1_ f2_ f3_; have f4_ := f1_.symm; have f5_ := f3_.symm; clear f1_ f2_ f3_; subst f4_; subst f5_))
  have p263 : 0 ≤ (x9_2 : Int) := of_decide_eq_true zA
  have q263 : x9_2 < (x6_1.length : Int) := of_decide_eq_true zA
  obtain ⟨ad263, e263, hx263_0⟩ := Kd.at_int (Kd.R_reads' HO_6.out).2.2 x9_2 p263 q263
  cases e263
  replace p263 := eq_true p263
  replace q263 := eq_true q263
  obtain ⟨Ao26, co26, eo26⟩ := Kd.R_slice HO_4.out
  (first | subst eo26 | (injection eo26 with f1_ f2_ f3_; have f4_ := f1_.symm; have f5_ := f3_.symm; clear f1_ f2_ f3_; subst f4_; subst f5_))
  have p264 : 0 ≤ (x8_1 : Int) := of_decide_eq_true zA
  have q264 : x8_1 < (t251.length : Int) := of_decide_eq_true zA
  obtain ⟨ad264, e264, hx264_0⟩ := Kd.at_int (Kd.R_reads' HO_4.out).2.2 x8_1 p264 q264
  cases e264
  replace p264 := eq_true p264
  replace q264 := eq_true q264
  refine start_ (n := 15) (S := fun w' => w'.cell? (ad263.add (x9_2).toNat) = some (.int .u64 (rd x6_1 x9_2)) ∧ w'.cell? (ad264.add (x8_1).toNat) = some (.int .u64 (rd t251 x8_1))) (ds := []) (zq 15 0) (by kernel_rfl) rfl rfl ⟨hx263_0, hx264_0⟩ (fun hHeld => ?_); refine with_tabW spec_l04Merge.tab9 spec_l04Merge.bits9 (fun HT_ HW_ => ?_)
  generalize wr.drew = w24 at HO_4 HO_5 HO_6 HO_262001 BK250 BK261 HB hx263_0 hx264_0 hHeld ⊢
  refine zpu 0 (some 30) (zq 15 1) HT_ ?_
  refine zpu 1 (some 31) (zq 15 3) HT_ ?_
  refine zpu 2 (some 32) (zq 15 7) HT_ ?_
  refine zpu 3 (some 33) (zq 15 15) HT_ ?_
  refine zpu 4 (some 34) (zq 15 31) HT_ ?_
  refine zpu 5 (some 35) (zq 15 63) HT_ ?_
  refine zpu 6 (some 36) (zq 15 127) HT_ ?_
  refine zpu 7 (some 37) (zq 15 255) HT_ ?_
  refine zpu 9 (some 39) (zq 15 767) HT_ ?_
  refine zpu 10 (some 40) (zq 15 1791) HT_ ?_
  refine zpu 11 (some 41) (zq 15 3839) HT_ ?_
  refine ztk 8 (some 38) (zq 15 4095) HT_ HW_ rfl hHeld (Or.inl ⟨by rfl, by (rintro w' ⟨s0, s1⟩; go_simp; with_reducible rfl)⟩) ?_
  refine ztk 12 (some 42) (zq 15 8191) HT_ HW_ rfl hHeld (Or.inl ⟨by rfl, by (rintro w' ⟨s0, s1⟩; go_simp; with_reducible rfl)⟩) ?_
  refine zpu 13 (some 43) (zq 15 16383) HT_ ?_
  refine zpu 14 (some 44) (zq 15 32767) HT_ ?_
  refine done_ (done_of HT_.out (by kernel_rfl)) ?_
  try go_wp2
  go_roundg k2
  case measure => have := HK1.out; have := HK2.out; omega
  case rel => exact ⟨(wrap64 (x9_2 + 1)), zi, H', ⟨by have := HK1.out; have := HK2.out; omega⟩, ze HO_4, ze HO_5, ze HO_6, ze HO_262001, zh BK250, zh BK261, zba⟩
 clear HC15
 try clear c1
 try clear c2
 try clear p2
 try clear q2
 try clear hx2
 try clear qi2
 try clear c3
 try clear c3b0
 try clear c3b1
 try clear p6
 try clear c9
 try clear c11
 try clear c12
 try clear c13
 try clear c13b0
 try clear c13b1
 try clear c14
 try clear c14b0
 try clear c16
 try clear c16b0
 try clear c17
 try clear c17b0
 try clear c18
 try clear c18b0
 try clear c19
 try clear c19b0
 try clear c20
 try clear c20b0
 try clear c20b1
 try clear c26
 try clear p26
 try clear q26
 try clear hx26
 try clear qi26
 try clear z12_0 z12_1 z12_2 y12_0 y12_1 y12_2
 try clear hx260_0
 try clear hx260_1
 try clear hx260_2
 try clear hx262_0
 try clear hx262_1
 try clear hx262_2
 try clear hx263_0
 try clear hx264_0
 try clear p2
 try clear p260
 try clear p262
 try clear p263
 try clear p264
 try clear q2
 try clear q260
 try clear q262
 try clear q263
 try clear q264
 obtain ⟨kq, x9_14, rfl, HA, HJ14, HO_4, HO_5, HO_6, HO_262001, BK250, BK261, HB⟩ := hcut
 cases kq with
 | zero => exact absurd HA.out (by simp [spec_l04Merge.j2])
 | succ kj14 => ?_
 have H := HA.out
 clear HA
 simp only [spec_l04Merge.j2] at H
 by_cases c29 : x9_14 = (x6_1.length : Int)
 rotate_left
 ·rw [if_neg c29] at H
  have c29b0 : (x9_14 == (x6_1.length : Int)) = false := beq_eq_false_iff_ne.mpr c29
  have c29b1 : (x9_14 != (x6_1.length : Int)) = true := bne_iff_ne.mpr c29
  by_cases c75 : x5_1.length < 17592186044416
  rotate_left
  ·rw [if_neg c75] at H
   exact absurd H (by simp)
  rw [if_pos c75] at H
  have LMc75 := Aside0.mk c75
  clear c75
  obtain ⟨y290, hy290⟩ : ∃ y_ : List Int, y_ = (x5_1 ++ [x9_14]) := ⟨_, rfl⟩
  replace H : (spec_l04Merge.l0 kj14 l0 t251 y290 x6_1 (wrap64 (x8_1 + 1)) ((rd_T31 l0 0).f0) x262001_1) = some (r1, r2, r3, r4) := by first | (rw [hy290]; with_reducible exact H) | (have H2_ := (Option.bind_some _ _).symm.trans H; rw [hy290]; with_reducible exact H2_) | (have H2_ := (Option.bind_some _ _).symm.trans H; with_reducible exact H2_) | with_reducible exact H | (rw [hy290]; exact H) | exact H
  have Ny290 := Aside0.mk hy290
  clear hy290
  have H' := Aside0.mk H
  clear H
  obtain ⟨Ao76, co76, eo76⟩ := Kd.R_slice HO_6.out
  subst eo76
  go_wp2_with (first | ((with_reducible refine gate_builtin (b := .append) (xs := #[.tmp 88, .tmp 90]) rfl ?_); at_builtin; refine Kd.R_append (Kd.int .i64) (w0 := w) w.heap.size rfl (.tmp 88) (.tmp 90) 47 2 (.int .i64 0) 8 rfl Try.underlying47 info2 rfl (by decide) (by omega) u5 x5_1 x9_14 [.int .i64 x9_14] (fun _ => True) (fun _ => False) rfl rfl ?aP (fun _ hk => hk.elim) ?aF ?aO ?aB ?aS ?aL ?_; (case aP => exact rfl); (case aB => exact zbo); (case aF => exact (fun _ _ => trivial)); (case aO => exact (ze HO_5).out); (case aS => exact (zz HB)); (case aL => have := LMc75.out; omega); intro v291 w77 ho hb hg hat; rw [← Ny290.out] at ho; have n_ : _ ∧ _ ∧ _ ∧ _ ∧ _ ∧ _ ∧ _ := ⟨Aside0.mk (Kd.R_over' (ze HO_4).out (Kd.R_typed (ze HO_5).out) (by decide) hg), Aside0.mk (Kd.R_over' (ze HO_6).out (Kd.R_typed (ze HO_5).out) (by decide) hg), Aside0.mk (Kd.R_over' (ze HO_262001).out (Kd.R_typed (ze HO_5).out) (by decide) hg), Aside0.mk (blk_grown (g := gb250) (o := .cells #[.int .i8 0, .slice none 0 0, .slice none 0 0] 31 (0, 0)) (zh BK250).out hg (Kd.R_ne HO_5.out BK250.out (by decide))), Aside0.mk (blk_grown (g := gb261) (o := .cells #[.int .i8 ((rd_T31 l0 0).f0), u262001, .slice none 0 0] 31 (0, 0)) (zh BK261).out hg (Kd.R_ne HO_5.out BK261.out (by decide))), Aside0.mk (hb), Aside0.mk (ho)⟩; clear HO_4 HO_6 HO_262001 BK250 BK261 HB HO_5; obtain ⟨HO_4, HO_6, HO_262001, BK250, BK261, HB, HO292⟩ := n_; clear ho hb hg hat))
  go_roundg kj14
  case measure => have := HK1.out; have := HJ14.out; omega
  case rel => exact ⟨(y290), (x6_1), (wrap64 (x8_1 + 1)), (x262001_1), (u262001), zi, H', ⟨by have := HK1.out; have := HJ14.out; omega⟩, ze HO_4, ze HO292, ze HO_6, ze HO_262001, zh BK250, zh BK261, zba⟩
 rw [if_pos c29] at H
 have c29b0 : (x9_14 == (x6_1.length : Int)) = true := beq_iff_eq.mpr c29
 have c29b1 : (x9_14 != (x6_1.length : Int)) = false := bne_eq_false_iff_eq.mpr c29
 clear c29
 by_cases c30 : 0 < (l0.length : Int)
 rotate_left
 ·rw [if_neg c30] at H
  exact absurd H (by simp)
 rw [if_pos c30] at H
 have c30b0 : decide (0 < (l0.length : Int)) = true := decide_eq_true c30
 have c30b1 : decide (0 < l0.length) = true := decide_eq_true (by omega)
 clear c30
 by_cases c31 : 0 ≤ x8_1
 rotate_left
 ·rw [if_neg c31] at H
  exact absurd H (by simp)
 rw [if_pos c31] at H
 have c31b0 : decide (0 ≤ x8_1) = true := decide_eq_true c31
 clear c31
 by_cases c32 : x8_1 < (((rd_T31 l0 0).f1).length : Int)
 rotate_left
 ·rw [if_neg c32] at H
  exact absurd H (by simp)
 rw [if_pos c32] at H
 have c32b0 : decide (x8_1 < (((rd_T31 l0 0).f1).length : Int)) = true := decide_eq_true c32
 clear c32
 by_cases c33 : ((rd_T81 ((rd_T31 l0 0).f1) x8_1).f0) ≥ 2
 rotate_left
 ·rw [if_neg c33] at H
  have c33b0 : decide (2 ≤ ((rd_T81 ((rd_T31 l0 0).f1) x8_1).f0)) = false := decide_eq_false c33
  clear c33
  by_cases c57 : x8_1 < (t251.length : Int)
  rotate_left
  ·rw [if_neg c57] at H
   exact absurd H (by simp)
  rw [if_pos c57] at H
  have c57b0 : decide (x8_1 < (t251.length : Int)) = true := decide_eq_true c57
  clear c57
  by_cases c58 : x6_1.length < 17592186044416
  rotate_left
  ·rw [if_neg c58] at H
   exact absurd H (by simp)
  rw [if_pos c58] at H
  have LMc58 := Aside0.mk c58
  clear c58
  obtain ⟨y281, hy281⟩ : ∃ y_ : List Int, y_ = (x6_1 ++ [rd t251 x8_1]) := ⟨_, rfl⟩
  replace H : (if x262001_1.length < 23456248059221 then (if x5_1.length < 17592186044416 then (spec_l04Merge.l0 kj14 l0 t251 (x5_1 ++ [x9_14]) y281 (wrap64 (x8_1 + 1)) ((rd_T31 l0 0).f0) (x262001_1 ++ [(⟨(rd_T81 ((rd_T31 l0 0).f1) x8_1).f0, (rd_T81 ((rd_T31 l0 0).f1) x8_1).f1, (rd_T81 ((rd_T31 l0 0).f1) x8_1).f2⟩ : S81)])) else (none)) else (none)) = some (r1, r2, r3, r4) := by first | (rw [hy281]; with_reducible exact H) | (have H2_ := (Option.bind_some _ _).symm.trans H; rw [hy281]; with_reducible exact H2_) | (have H2_ := (Option.bind_some _ _).symm.trans H; with_reducible exact H2_) | with_reducible exact H | (rw [hy281]; exact H) | exact H
  have Ny281 := Aside0.mk hy281
  clear hy281
  by_cases c59 : x262001_1.length < 23456248059221
  rotate_left
  ·rw [if_neg c59] at H
   exact absurd H (by simp)
  rw [if_pos c59] at H
  have LMc59 := Aside0.mk c59
  clear c59
  obtain ⟨y284, hy284⟩ : ∃ y_ : List (S81), y_ = (x262001_1 ++ [(⟨(rd_T81 ((rd_T31 l0 0).f1) x8_1).f0, (rd_T81 ((rd_T31 l0 0).f1) x8_1).f1, (rd_T81 ((rd_T31 l0 0).f1) x8_1).f2⟩ : S81)]) := ⟨_, rfl⟩
  replace H : (if x5_1.length < 17592186044416 then (spec_l04Merge.l0 kj14 l0 t251 (x5_1 ++ [x9_14]) y281 (wrap64 (x8_1 + 1)) ((rd_T31 l0 0).f0) y284) else (none)) = some (r1, r2, r3, r4) := by first | (rw [hy284]; with_reducible exact H) | (have H2_ := (Option.bind_some _ _).symm.trans H; rw [hy284]; with_reducible exact H2_) | (have H2_ := (Option.bind_some _ _).symm.trans H; with_reducible exact H2_) | with_reducible exact H | (rw [hy284]; exact H) | exact H
  have Ny284 := Aside0.mk hy284
  clear hy284
  by_cases c60 : x5_1.length < 17592186044416
  rotate_left
  ·rw [if_neg c60] at H
   exact absurd H (by simp)
  rw [if_pos c60] at H
  have LMc60 := Aside0.mk c60
  clear c60
  obtain ⟨y287, hy287⟩ : ∃ y_ : List Int, y_ = (x5_1 ++ [x9_14]) := ⟨_, rfl⟩
  replace H : (spec_l04Merge.l0 kj14 l0 t251 y287 y281 (wrap64 (x8_1 + 1)) ((rd_T31 l0 0).f0) y284) = some (r1, r2, r3, r4) := by first | (rw [hy287]; with_reducible exact H) | (have H2_ := (Option.bind_some _ _).symm.trans H; rw [hy287]; with_reducible exact H2_) | (have H2_ := (Option.bind_some _ _).symm.trans H; with_reducible exact H2_) | with_reducible exact H | (rw [hy287]; exact H) | exact H
  have Ny287 := Aside0.mk hy287
  clear hy287
  have H' := Aside0.mk H
  clear H
  obtain ⟨Ao61, co61, eo61⟩ := Kd.R_slice HO_6.out
  subst eo61
  have p265 : 0 ≤ (0 : Int) := (by omega)
  have q265 : 0 < (l0.length : Int) := of_decide_eq_true zA
  obtain ⟨ad265, A265_1, c265_1, A265_2, c265_2, e265, hx265_0, hx265_1, hx265_2, hl265_1, hi265_1, hl265_2, hi265_2⟩ := at_T31 HR0.out 0 p265 q265
  obtain rfl : adp0 = ad265 := (by injection e265)
  have qi265 : (0 < l0.length) = True := eq_true (by omega)
  try simp only [z00, Nat.zero_mul, Addr.add_zero'] at hx265_0 hx265_1 hx265_2
  replace hx265_0 := zc HB hx265_0
  replace hx265_1 := zc HB hx265_1
  replace hx265_2 := zc HB hx265_2
  have HR265_1 := Aside0.mk hi265_1
  have HC265_1 := Aside0.mk hl265_1
  clear hi265_1 hl265_1
  have HR265_2 := Aside0.mk hi265_2
  have HC265_2 := Aside0.mk hl265_2
  clear hi265_2 hl265_2
  replace p265 := eq_true p265
  replace q265 := eq_true q265
  have p266 : 0 ≤ (x8_1 : Int) := of_decide_eq_true zA
  have q266 : x8_1 < (((rd_T31 l0 0).f1).length : Int) := of_decide_eq_true zA
  obtain ⟨ad266, e266, hx266_0, hx266_1, hx266_2⟩ := at_T81 HR265_1.out x8_1 p266 q266
  cases e266
  replace hx266_0 := zc HB hx266_0
  replace hx266_1 := zc HB hx266_1
  replace hx266_2 := zc HB hx266_2
  replace p266 := eq_true p266
  replace q266 := eq_true q266
  go_wp2_with (first | ((with_reducible refine gate_dst (N := 10) rfl ?_); refine zbx 10 #[.int .i8 0, .int .i16 0, .int .i16 0] 81 ?_; intro gb267 hg w62 hbox hb; have n_ : _ ∧ _ ∧ _ ∧ _ ∧ _ ∧ _ ∧ _ ∧ _ ∧ _ ∧ _ ∧ _ ∧ _ ∧ _ ∧ _ := ⟨zr HO_4 hb, zr HO_5 hb, zr HO_6 hb, Aside0.mk (Kd.R_below (Kd.R_elderB (ze HO_262001).out gb267 (Nat.le_of_eq hg.symm)) hb), zk BK250 hb, zk BK261 hb, zbs hb, Aside0.mk (hbox), zg HB hg, zg HB hg, zn1 BK250 hg, zn2 BK250 hg, zn1 BK261 hg, zn2 BK261 hg⟩; clear HO_4 HO_5 HO_6 HO_262001 BK250 BK261 HB; obtain ⟨HO_4, HO_5, HO_6, HO_262001, BK250, BK261, HB, BK267, GW267, GE267, NB250_267, NB267_250, NB261_267, NB267_261⟩ := n_; clear hb hbox hg; have hnb63 := NB267_250.out; have hnc63 := NB250_267.out; have hnb64 := NB267_261.out; have hnc64 := NB261_267.out; obtain ⟨z65_0, z65_1, z65_2, y65_0, y65_1, y65_2⟩ := zB3 BK267; obtain ⟨Ao66, co66, eo66⟩ := Kd.R_slice HO_4.out; subst eo66; have p280 : 0 ≤ (x8_1 : Int) := of_decide_eq_true zA; have q280 : x8_1 < (t251.length : Int) := of_decide_eq_true zA; obtain ⟨ad280, e280, hx280_0⟩ := Kd.at_int (Kd.R_reads' HO_4.out).2.2 x8_1 p280 q280; cases e280; have hn280_0 : ad280.block ≠ gb267 := Kd.own_blk (Kd.R_ne HO_4.out BK267.out (by decide)); have hn280_1 : ad280.block ≠ gb267 := Kd.own_blk (Kd.R_ne HO_4.out BK267.out (by decide)); have hn280_2 : ad280.block ≠ gb267 := Kd.own_blk (Kd.R_ne HO_4.out BK267.out (by decide)); replace hx280_0 := (cell_far (p := ⟨gb267, 0, none⟩) (by first | (rw [add_block]; exact hn280_0) | (show (Addr.add _ _).block ≠ _; rw [add_block]; exact hn280_0) | exact hn280_0) (.int .i8 ((rd_T81 ((rd_T31 l0 0).f1) x8_1).f0))).trans hx280_0; replace hx280_0 := (cell_far (p := ⟨gb267, 1, none⟩) (by first | (rw [add_block]; exact hn280_1) | (show (Addr.add _ _).block ≠ _; rw [add_block]; exact hn280_1) | exact hn280_1) (.int .i16 ((rd_T81 ((rd_T31 l0 0).f1) x8_1).f1))).trans hx280_0; replace hx280_0 := (cell_far (p := ⟨gb267, 2, none⟩) (by first | (rw [add_block]; exact hn280_2) | (show (Addr.add _ _).block ≠ _; rw [add_block]; exact hn280_2) | exact hn280_2) (.int .i16 ((rd_T81 ((rd_T31 l0 0).f1) x8_1).f2))).trans hx280_0; clear hn280_0; clear hn280_1; clear hn280_2; replace p280 := eq_true p280; replace q280 := eq_true q280) | ((with_reducible refine gate_builtin (b := .append) (xs := #[.tmp 75, .tmp 80]) rfl ?_); at_builtin; refine Kd.R_append (Kd.int .u64) (w0 := w) w.heap.size rfl (.tmp 75) (.tmp 80) 53 98 (.int .u64 0) 8 rfl Try.underlying53 info98 rfl (by decide) (by omega) (.slice Ao61 x6_1.length co61) x6_1 (rd t251 x8_1) [.int .u64 (rd t251 x8_1)] (fun k_ => some k_ ≠ (.slice (some ad280) t251.length co66 : Value).ownBlock) (fun _ => False) rfl (by first | (go_simp; done) | (go_simp; rfl)) ?aP (fun _ hk => hk.elim) ?aF ?aO ?aB ?aS ?aL ?_; (case aP => exact rfl); (case aB => exact zbo); (case aF => exact (fun k_ hk => Kd.fresh' (Kd.R_lt (zs HO_4 BK267).out) k_ hk)); (case aO => exact (by (with_reducible repeat (first | apply Kd.R_alloc | apply Kd.R_drewN | apply Kd.R_drew)); exact Kd.R_mono (Kd.R_far (p := ⟨gb267, 2, none⟩) (Kd.R_far (p := ⟨gb267, 1, none⟩) (Kd.R_far (p := ⟨gb267, 0, none⟩) (Kd.R_types HO_6.out BK267.out (by decide)) (fun _ hk => hk.2) (.int .i8 ((rd_T81 ((rd_T31 l0 0).f1) x8_1).f0))) (fun _ hk => hk.2) (.int .i16 ((rd_T81 ((rd_T31 l0 0).f1) x8_1).f1))) (fun _ hk => hk.2) (.int .i16 ((rd_T81 ((rd_T31 l0 0).f1) x8_1).f2))) (fun _ hk => hk.1))); (case aS => exact (zz HB)); (case aL => have := LMc58.out; omega); intro v282 w67 ho hb hg hat; rw [← Ny281.out] at ho; have n_ : _ ∧ _ ∧ _ ∧ _ ∧ _ ∧ _ ∧ _ ∧ _ := ⟨Aside0.mk (Kd.R_after (ok := (fun _ => True)) (by (with_reducible repeat (first | apply Kd.R_alloc | apply Kd.R_drewN | apply Kd.R_drew)); exact Kd.R_mono (Kd.R_far (p := ⟨gb267, 2, none⟩) (Kd.R_far (p := ⟨gb267, 1, none⟩) (Kd.R_far (p := ⟨gb267, 0, none⟩) (Kd.R_types HO_4.out BK267.out (by decide)) (fun _ hk => hk.2) (.int .i8 ((rd_T81 ((rd_T31 l0 0).f1) x8_1).f0))) (fun _ hk => hk.2) (.int .i16 ((rd_T81 ((rd_T31 l0 0).f1) x8_1).f1))) (fun _ hk => hk.2) (.int .i16 ((rd_T81 ((rd_T31 l0 0).f1) x8_1).f2))) (fun _ hk => ⟨trivial, hk.1⟩)) hg hat), Aside0.mk (Kd.R_over' (zs HO_5 BK267).out (Kd.R_typed (zs HO_6 BK267).out) (by decide) hg), Aside0.mk (Kd.R_over' (by (with_reducible repeat (first | apply Kd.R_alloc | apply Kd.R_drewN | apply Kd.R_drew)); exact (Kd.R_mono (Kd.R_far (p := ⟨gb267, 2, none⟩) (Kd.R_far (p := ⟨gb267, 1, none⟩) (Kd.R_far (p := ⟨gb267, 0, none⟩) (Kd.R_mono HO_262001.out (fun k_ hk => (⟨hk, hk.2⟩ : _ ∧ k_ ≠ gb267))) (fun _ hk => hk.2) (.int .i8 ((rd_T81 ((rd_T31 l0 0).f1) x8_1).f0))) (fun _ hk => hk.2) (.int .i16 ((rd_T81 ((rd_T31 l0 0).f1) x8_1).f1))) (fun _ hk => hk.2) (.int .i16 ((rd_T81 ((rd_T31 l0 0).f1) x8_1).f2))) (fun _ h_ => h_.1))) (Kd.R_typed (zs HO_6 BK267).out) (by decide) hg), Aside0.mk (blk_grown (g := gb250) (o := .cells #[.int .i8 0, .slice none 0 0, .slice none 0 0] 31 (0, 0)) (zf BK250 NB250_267).out hg (Kd.R_ne HO_6.out BK250.out (by decide))), Aside0.mk (blk_grown (g := gb261) (o := .cells #[.int .i8 ((rd_T31 l0 0).f0), u262001, .slice none 0 0] 31 (0, 0)) (zf BK261 NB261_267).out hg (Kd.R_ne HO_6.out BK261.out (by decide))), Aside0.mk (blk_grown (g := gb267) (o := .cells #[.int .i8 ((rd_T81 ((rd_T31 l0 0).f1) x8_1).f0), .int .i16 ((rd_T81 ((rd_T31 l0 0).f1) x8_1).f1), .int .i16 ((rd_T81 ((rd_T31 l0 0).f1) x8_1).f2)] 81 (0, 0)) (zp BK267) hg (Kd.R_ne HO_6.out BK267.out (by decide))), Aside0.mk (hb), Aside0.mk (ho)⟩; clear HO_4 HO_5 HO_262001 BK250 BK261 BK267 HB HO_6; obtain ⟨HO_4, HO_5, HO_262001, BK250, BK261, BK267, HB, HO283⟩ := n_; clear ho hb hg hat; have hnb68 := NB261_250.out; have hnc68 := NB250_261.out; obtain ⟨z69_0, z69_1, z69_2, y69_0, y69_1, y69_2⟩ := zB3 BK261; obtain ⟨z70_0, z70_1, z70_2, y70_0, y70_1, y70_2⟩ := zB3 BK267) | ((with_reducible refine gate_builtin (b := .append) (xs := #[.tmp 83, .tmp 85]) rfl ?_); at_builtin; refine Kd.R_append k81 (w0 := w) w.heap.size rfl (.tmp 83) (.tmp 85) 29 81 (.agg #[(.int .i8 0), (.int .i16 0), (.int .i16 0)]) 6 rfl Try.underlying29 info81 rfl (by decide) (by omega) u262001 x262001_1 (⟨(rd_T81 ((rd_T31 l0 0).f1) x8_1).f0, (rd_T81 ((rd_T31 l0 0).f1) x8_1).f1, (rd_T81 ((rd_T31 l0 0).f1) x8_1).f2⟩ : S81) [.int .i8 ((rd_T81 ((rd_T31 l0 0).f1) x8_1).f0), .int .i16 ((rd_T81 ((rd_T31 l0 0).f1) x8_1).f1), .int .i16 ((rd_T81 ((rd_T31 l0 0).f1) x8_1).f2)] (fun k_ => k_ ≠ gb267) (fun _ => False) rfl rfl ?aP (fun _ hk => hk.elim) ?aF ?aO ?aB ?aS ?aL ?_; (case aP => exact k81_mkM _ _ _ (⟨(rd_T81 ((rd_T31 l0 0).f1) x8_1).f0, (rd_T81 ((rd_T31 l0 0).f1) x8_1).f1, (rd_T81 ((rd_T31 l0 0).f1) x8_1).f2⟩ : S81)); (case aB => exact zbo); (case aF => exact (fun k_ hk => Kd.freshB (g := gb267) (o := .cells #[.int .i8 ((rd_T81 ((rd_T31 l0 0).f1) x8_1).f0), .int .i16 ((rd_T81 ((rd_T31 l0 0).f1) x8_1).f1), .int .i16 ((rd_T81 ((rd_T31 l0 0).f1) x8_1).f2)] 81 (0, 0)) (zh BK267).out k_ hk)); (case aO => exact (by (with_reducible repeat (first | apply Kd.R_alloc | apply Kd.R_drewN | apply Kd.R_drew)); exact Kd.R_mono HO_262001.out (fun _ hk => hk.2))); (case aS => exact (zz HB)); (case aL => have := LMc59.out; omega); intro v285 w71 ho hb hg hat; rw [← Ny284.out] at ho; have n_ : _ ∧ _ ∧ _ ∧ _ ∧ _ ∧ _ ∧ _ ∧ _ := ⟨Aside0.mk (Kd.R_over' (ze HO_4).out (Kd.R_typed (ze HO_262001).out) (by decide) hg), Aside0.mk (Kd.R_over' (ze HO_5).out (Kd.R_typed (ze HO_262001).out) (by decide) hg), Aside0.mk (blk_grown (g := gb250) (o := .cells #[.int .i8 0, .slice none 0 0, .slice none 0 0] 31 (0, 0)) (zh BK250).out hg (Kd.R_ne HO_262001.out BK250.out (by decide))), Aside0.mk (blk_grown (g := gb261) (o := .cells #[.int .i8 ((rd_T31 l0 0).f0), u262001, .slice none 0 0] 31 (0, 0)) (zh BK261).out hg (Kd.R_ne HO_262001.out BK261.out (by decide))), Aside0.mk (blk_grown (g := gb267) (o := .cells #[.int .i8 ((rd_T81 ((rd_T31 l0 0).f1) x8_1).f0), .int .i16 ((rd_T81 ((rd_T31 l0 0).f1) x8_1).f1), .int .i16 ((rd_T81 ((rd_T31 l0 0).f1) x8_1).f2)] 81 (0, 0)) (zh BK267).out hg (Kd.R_away HO_262001.out (fun _ hk => hk.2))), Aside0.mk (Kd.R_over' (ze HO283).out (Kd.R_typed (ze HO_262001).out) (by decide) hg), Aside0.mk (hb), Aside0.mk (ho)⟩; clear HO_4 HO_5 BK250 BK261 BK267 HO283 HB HO_262001; obtain ⟨HO_4, HO_5, BK250, BK261, BK267, HO283, HB, HO286⟩ := n_; clear ho hb hg hat; obtain ⟨Ao72, co72, eo72⟩ := Kd.R_slice HO286.out; subst eo72; obtain ⟨z73_0, z73_1, z73_2, y73_0, y73_1, y73_2⟩ := zB3 BK261) | ((with_reducible refine gate_builtin (b := .append) (xs := #[.tmp 88, .tmp 90]) rfl ?_); at_builtin; refine Kd.R_append (Kd.int .i64) (w0 := w) w.heap.size rfl (.tmp 88) (.tmp 90) 47 2 (.int .i64 0) 8 rfl Try.underlying47 info2 rfl (by decide) (by omega) u5 x5_1 x9_14 [.int .i64 x9_14] (fun _ => True) (fun _ => False) rfl (by first | (go_simp; done) | (go_simp; rfl)) ?aP (fun _ hk => hk.elim) ?aF ?aO ?aB ?aS ?aL ?_; (case aP => exact rfl); (case aB => exact zbo); (case aF => exact (fun _ _ => trivial)); (case aO => exact (Kd.R_mono (zs HO_5 BK261).out (fun _ hk => trivial))); (case aS => exact (zz HB)); (case aL => have := LMc60.out; omega); intro v288 w74 ho hb hg hat; rw [← Ny287.out] at ho; have n_ : _ ∧ _ ∧ _ ∧ _ ∧ _ ∧ _ ∧ _ ∧ _ := ⟨Aside0.mk (Kd.R_over' (zs HO_4 BK261).out (Kd.R_typed (zs HO_5 BK261).out) (by decide) hg), Aside0.mk (blk_grown (g := gb250) (o := .cells #[.int .i8 0, .slice none 0 0, .slice none 0 0] 31 (0, 0)) (zf BK250 NB250_261).out hg (Kd.R_ne HO_5.out BK250.out (by decide))), Aside0.mk (blk_grown (g := gb261) (o := .cells #[.int .i8 ((rd_T31 l0 0).f0), .slice Ao72 y284.length co72, .slice none 0 0] 31 (0, 0)) (zp BK261) hg (Kd.R_ne HO_5.out BK261.out (by decide))), Aside0.mk (blk_grown (g := gb267) (o := .cells #[.int .i8 ((rd_T81 ((rd_T31 l0 0).f1) x8_1).f0), .int .i16 ((rd_T81 ((rd_T31 l0 0).f1) x8_1).f1), .int .i16 ((rd_T81 ((rd_T31 l0 0).f1) x8_1).f2)] 81 (0, 0)) (zf BK267 NB267_261).out hg (Kd.R_ne HO_5.out BK267.out (by decide))), Aside0.mk (Kd.R_over' (zs HO283 BK261).out (Kd.R_typed (zs HO_5 BK261).out) (by decide) hg), Aside0.mk (Kd.R_over' (zs HO286 BK261).out (Kd.R_typed (zs HO_5 BK261).out) (by decide) hg), Aside0.mk (hb), Aside0.mk (ho)⟩; clear HO_4 BK250 BK261 BK267 HO283 HO286 HB HO_5; obtain ⟨HO_4, BK250, BK261, BK267, HO283, HO286, HB, HO289⟩ := n_; clear ho hb hg hat))
  go_roundg kj14
  case measure => have := HK1.out; have := HJ14.out; omega
  case rel => exact ⟨(y287), (y281), (wrap64 (x8_1 + 1)), (y284), (.slice Ao72 y284.length co72), zi, H', ⟨by have := HK1.out; have := HJ14.out; omega⟩, ⟨by (with_reducible repeat (first | apply Kd.R_alloc | apply Kd.R_drewN | apply Kd.R_drew)); exact Kd.R_mono HO_4.out (fun _ hk => hk.2)⟩, ze HO289, ze HO283, ⟨by (with_reducible repeat (first | apply Kd.R_alloc | apply Kd.R_drewN | apply Kd.R_drew)); exact Kd.R_mono HO286.out (fun _ hk => trivial)⟩, zh BK250, zh BK261, zba⟩
 rw [if_pos c33] at H
 have c33b0 : decide (2 ≤ ((rd_T81 ((rd_T31 l0 0).f1) x8_1).f0)) = true := decide_eq_true c33
 clear c33
 by_cases c34 : 0 ≤ ((rd_T81 ((rd_T31 l0 0).f1) x8_1).f1)
 rotate_left
 ·rw [if_neg c34] at H
  exact absurd H (by simp)
 rw [if_pos c34] at H
 have c34b0 : decide (0 ≤ ((rd_T81 ((rd_T31 l0 0).f1) x8_1).f1)) = true := decide_eq_true c34
 clear c34
 by_cases c35 : ((rd_T81 ((rd_T31 l0 0).f1) x8_1).f1) < (x5_1.length : Int)
 rotate_left
 ·rw [if_neg c35] at H
  exact absurd H (by simp)
 rw [if_pos c35] at H
 have c35b0 : decide (((rd_T81 ((rd_T31 l0 0).f1) x8_1).f1) < (x5_1.length : Int)) = true := decide_eq_true c35
 clear c35
 by_cases c36 : 0 ≤ ((rd_T81 ((rd_T31 l0 0).f1) x8_1).f2)
 rotate_left
 ·rw [if_neg c36] at H
  exact absurd H (by simp)
 rw [if_pos c36] at H
 have c36b0 : decide (0 ≤ ((rd_T81 ((rd_T31 l0 0).f1) x8_1).f2)) = true := decide_eq_true c36
 clear c36
 by_cases c37 : ((rd_T81 ((rd_T31 l0 0).f1) x8_1).f2) < (x5_1.length : Int)
 rotate_left
 ·rw [if_neg c37] at H
  exact absurd H (by simp)
 rw [if_pos c37] at H
 have c37b0 : decide (((rd_T81 ((rd_T31 l0 0).f1) x8_1).f2) < (x5_1.length : Int)) = true := decide_eq_true c37
 clear c37
 by_cases c38 : x8_1 < (t251.length : Int)
 rotate_left
 ·rw [if_neg c38] at H
  exact absurd H (by simp)
 rw [if_pos c38] at H
 have c38b0 : decide (x8_1 < (t251.length : Int)) = true := decide_eq_true c38
 clear c38
 by_cases c39 : x6_1.length < 17592186044416
 rotate_left
 ·rw [if_neg c39] at H
  exact absurd H (by simp)
 rw [if_pos c39] at H
 have LMc39 := Aside0.mk c39
 clear c39
 obtain ⟨y271, hy271⟩ : ∃ y_ : List Int, y_ = (x6_1 ++ [rd t251 x8_1]) := ⟨_, rfl⟩
 replace H : (if x262001_1.length < 23456248059221 then (if x5_1.length < 17592186044416 then (spec_l04Merge.l0 kj14 l0 t251 (x5_1 ++ [x9_14]) y271 (wrap64 (x8_1 + 1)) ((rd_T31 l0 0).f0) (x262001_1 ++ [(⟨(rd_T81 ((rd_T31 l0 0).f1) x8_1).f0, IntKind.i16.wrap (rd x5_1 ((rd_T81 ((rd_T31 l0 0).f1) x8_1).f1)), IntKind.i16.wrap (rd x5_1 ((rd_T81 ((rd_T31 l0 0).f1) x8_1).f2))⟩ : S81)])) else (none)) else (none)) = some (r1, r2, r3, r4) := by first | (rw [hy271]; with_reducible exact H) | (have H2_ := (Option.bind_some _ _).symm.trans H; rw [hy271]; with_reducible exact H2_) | (have H2_ := (Option.bind_some _ _).symm.trans H; with_reducible exact H2_) | with_reducible exact H | (rw [hy271]; exact H) | exact H
 have Ny271 := Aside0.mk hy271
 clear hy271
 by_cases c40 : x262001_1.length < 23456248059221
 rotate_left
 ·rw [if_neg c40] at H
  exact absurd H (by simp)
 rw [if_pos c40] at H
 have LMc40 := Aside0.mk c40
 clear c40
 obtain ⟨y274, hy274⟩ : ∃ y_ : List (S81), y_ = (x262001_1 ++ [(⟨(rd_T81 ((rd_T31 l0 0).f1) x8_1).f0, IntKind.i16.wrap (rd x5_1 ((rd_T81 ((rd_T31 l0 0).f1) x8_1).f1)), IntKind.i16.wrap (rd x5_1 ((rd_T81 ((rd_T31 l0 0).f1) x8_1).f2))⟩ : S81)]) := ⟨_, rfl⟩
 replace H : (if x5_1.length < 17592186044416 then (spec_l04Merge.l0 kj14 l0 t251 (x5_1 ++ [x9_14]) y271 (wrap64 (x8_1 + 1)) ((rd_T31 l0 0).f0) y274) else (none)) = some (r1, r2, r3, r4) := by first | (rw [hy274]; with_reducible exact H) | (have H2_ := (Option.bind_some _ _).symm.trans H; rw [hy274]; with_reducible exact H2_) | (have H2_ := (Option.bind_some _ _).symm.trans H; with_reducible exact H2_) | with_reducible exact H | (rw [hy274]; exact H) | exact H
 have Ny274 := Aside0.mk hy274
 clear hy274
 by_cases c41 : x5_1.length < 17592186044416
 rotate_left
 ·rw [if_neg c41] at H
  exact absurd H (by simp)
 rw [if_pos c41] at H
 have LMc41 := Aside0.mk c41
 clear c41
 obtain ⟨y277, hy277⟩ : ∃ y_ : List Int, y_ = (x5_1 ++ [x9_14]) := ⟨_, rfl⟩
 replace H : (spec_l04Merge.l0 kj14 l0 t251 y277 y271 (wrap64 (x8_1 + 1)) ((rd_T31 l0 0).f0) y274) = some (r1, r2, r3, r4) := by first | (rw [hy277]; with_reducible exact H) | (have H2_ := (Option.bind_some _ _).symm.trans H; rw [hy277]; with_reducible exact H2_) | (have H2_ := (Option.bind_some _ _).symm.trans H; with_reducible exact H2_) | with_reducible exact H | (rw [hy277]; exact H) | exact H
 have Ny277 := Aside0.mk hy277
 clear hy277
 have H' := Aside0.mk H
 clear H
 obtain ⟨Ao42, co42, eo42⟩ := Kd.R_slice HO_6.out
 subst eo42
 have p265 : 0 ≤ (0 : Int) := (by omega)
 have q265 : 0 < (l0.length : Int) := of_decide_eq_true zA
 obtain ⟨ad265, A265_1, c265_1, A265_2, c265_2, e265, hx265_0, hx265_1, hx265_2, hl265_1, hi265_1, hl265_2, hi265_2⟩ := at_T31 HR0.out 0 p265 q265
 obtain rfl : adp0 = ad265 := (by injection e265)
 have qi265 : (0 < l0.length) = True := eq_true (by omega)
 try simp only [z00, Nat.zero_mul, Addr.add_zero'] at hx265_0 hx265_1 hx265_2
 replace hx265_0 := zc HB hx265_0
 replace hx265_1 := zc HB hx265_1
 replace hx265_2 := zc HB hx265_2
 have HR265_1 := Aside0.mk hi265_1
 have HC265_1 := Aside0.mk hl265_1
 clear hi265_1 hl265_1
 have HR265_2 := Aside0.mk hi265_2
 have HC265_2 := Aside0.mk hl265_2
 clear hi265_2 hl265_2
 replace p265 := eq_true p265
 replace q265 := eq_true q265
 have p266 : 0 ≤ (x8_1 : Int) := of_decide_eq_true zA
 have q266 : x8_1 < (((rd_T31 l0 0).f1).length : Int) := of_decide_eq_true zA
 obtain ⟨ad266, e266, hx266_0, hx266_1, hx266_2⟩ := at_T81 HR265_1.out x8_1 p266 q266
 cases e266
 replace hx266_0 := zc HB hx266_0
 replace hx266_1 := zc HB hx266_1
 replace hx266_2 := zc HB hx266_2
 replace p266 := eq_true p266
 replace q266 := eq_true q266
 go_wp2_with (first | ((with_reducible refine gate_dst (N := 10) rfl ?_); refine zbx 10 #[.int .i8 0, .int .i16 0, .int .i16 0] 81 ?_; intro gb267 hg w43 hbox hb; have n_ : _ ∧ _ ∧ _ ∧ _ ∧ _ ∧ _ ∧ _ ∧ _ ∧ _ ∧ _ ∧ _ ∧ _ ∧ _ ∧ _ := ⟨zr HO_4 hb, zr HO_5 hb, zr HO_6 hb, Aside0.mk (Kd.R_below (Kd.R_elderB (ze HO_262001).out gb267 (Nat.le_of_eq hg.symm)) hb), zk BK250 hb, zk BK261 hb, zbs hb, Aside0.mk (hbox), zg HB hg, zg HB hg, zn1 BK250 hg, zn2 BK250 hg, zn1 BK261 hg, zn2 BK261 hg⟩; clear HO_4 HO_5 HO_6 HO_262001 BK250 BK261 HB; obtain ⟨HO_4, HO_5, HO_6, HO_262001, BK250, BK261, HB, BK267, GW267, GE267, NB250_267, NB267_250, NB261_267, NB267_261⟩ := n_; clear hb hbox hg; have hnb44 := NB267_250.out; have hnc44 := NB250_267.out; have hnb45 := NB267_261.out; have hnc45 := NB261_267.out; obtain ⟨z46_0, z46_1, z46_2, y46_0, y46_1, y46_2⟩ := zB3 BK267; obtain ⟨Ao47, co47, eo47⟩ := Kd.R_slice HO_5.out; subst eo47; have p268 : 0 ≤ (((rd_T81 ((rd_T31 l0 0).f1) x8_1).f1) : Int) := of_decide_eq_true zA; have q268 : ((rd_T81 ((rd_T31 l0 0).f1) x8_1).f1) < (x5_1.length : Int) := of_decide_eq_true zA; obtain ⟨ad268, e268, hx268_0⟩ := Kd.at_int (Kd.R_reads' HO_5.out).2.2 ((rd_T81 ((rd_T31 l0 0).f1) x8_1).f1) p268 q268; cases e268; have hn268_0 : ad268.block ≠ gb267 := Kd.own_blk (Kd.R_ne HO_5.out BK267.out (by decide)); have hn268_1 : ad268.block ≠ gb267 := Kd.own_blk (Kd.R_ne HO_5.out BK267.out (by decide)); have hn268_2 : ad268.block ≠ gb267 := Kd.own_blk (Kd.R_ne HO_5.out BK267.out (by decide)); replace hx268_0 := (cell_far (p := ⟨gb267, 0, none⟩) (by first | (rw [add_block]; exact hn268_0) | (show (Addr.add _ _).block ≠ _; rw [add_block]; exact hn268_0) | exact hn268_0) (.int .i8 ((rd_T81 ((rd_T31 l0 0).f1) x8_1).f0))).trans hx268_0; replace hx268_0 := (cell_far (p := ⟨gb267, 1, none⟩) (by first | (rw [add_block]; exact hn268_1) | (show (Addr.add _ _).block ≠ _; rw [add_block]; exact hn268_1) | exact hn268_1) (.int .i16 ((rd_T81 ((rd_T31 l0 0).f1) x8_1).f1))).trans hx268_0; replace hx268_0 := (cell_far (p := ⟨gb267, 2, none⟩) (by first | (rw [add_block]; exact hn268_2) | (show (Addr.add _ _).block ≠ _; rw [add_block]; exact hn268_2) | exact hn268_2) (.int .i16 ((rd_T81 ((rd_T31 l0 0).f1) x8_1).f2))).trans hx268_0; clear hn268_0; clear hn268_1; clear hn268_2; replace p268 := eq_true p268; replace q268 := eq_true q268; have p269 : 0 ≤ (((rd_T81 ((rd_T31 l0 0).f1) x8_1).f2) : Int) := of_decide_eq_true zA; have q269 : ((rd_T81 ((rd_T31 l0 0).f1) x8_1).f2) < (x5_1.length : Int) := of_decide_eq_true zA; obtain ⟨ad269, e269, hx269_0⟩ := Kd.at_int (Kd.R_reads' HO_5.out).2.2 ((rd_T81 ((rd_T31 l0 0).f1) x8_1).f2) p269 q269; obtain rfl : ad268 = ad269 := (by injection e269); have hn269_0 : ad268.block ≠ gb267 := Kd.own_blk (Kd.R_ne HO_5.out BK267.out (by decide)); have hn269_1 : ad268.block ≠ gb267 := Kd.own_blk (Kd.R_ne HO_5.out BK267.out (by decide)); have hn269_2 : ad268.block ≠ gb267 := Kd.own_blk (Kd.R_ne HO_5.out BK267.out (by decide)); have hn269_3 : ad268.block ≠ gb267 := Kd.own_blk (Kd.R_ne HO_5.out BK267.out (by decide)); replace hx269_0 := (cell_far (p := ⟨gb267, 0, none⟩) (by first | (rw [add_block]; exact hn269_0) | (show (Addr.add _ _).block ≠ _; rw [add_block]; exact hn269_0) | exact hn269_0) (.int .i8 ((rd_T81 ((rd_T31 l0 0).f1) x8_1).f0))).trans hx269_0; replace hx269_0 := (cell_far (p := ⟨gb267, 1, none⟩) (by first | (rw [add_block]; exact hn269_1) | (show (Addr.add _ _).block ≠ _; rw [add_block]; exact hn269_1) | exact hn269_1) (.int .i16 ((rd_T81 ((rd_T31 l0 0).f1) x8_1).f1))).trans hx269_0; replace hx269_0 := (cell_far (p := ⟨gb267, 2, none⟩) (by first | (rw [add_block]; exact hn269_2) | (show (Addr.add _ _).block ≠ _; rw [add_block]; exact hn269_2) | exact hn269_2) (.int .i16 ((rd_T81 ((rd_T31 l0 0).f1) x8_1).f2))).trans hx269_0; replace hx269_0 := (cell_far (p := ⟨gb267, 1, none⟩) (by first | (rw [add_block]; exact hn269_3) | (show (Addr.add _ _).block ≠ _; rw [add_block]; exact hn269_3) | exact hn269_3) (.int .i16 (IntKind.i16.wrap (rd x5_1 ((rd_T81 ((rd_T31 l0 0).f1) x8_1).f1))))).trans hx269_0; clear hn269_0; clear hn269_1; clear hn269_2; clear hn269_3; replace p269 := eq_true p269; replace q269 := eq_true q269; obtain ⟨Ao48, co48, eo48⟩ := Kd.R_slice HO_4.out; subst eo48; have p270 : 0 ≤ (x8_1 : Int) := of_decide_eq_true zA; have q270 : x8_1 < (t251.length : Int) := of_decide_eq_true zA; obtain ⟨ad270, e270, hx270_0⟩ := Kd.at_int (Kd.R_reads' HO_4.out).2.2 x8_1 p270 q270; cases e270; have hn270_0 : ad270.block ≠ gb267 := Kd.own_blk (Kd.R_ne HO_4.out BK267.out (by decide)); have hn270_1 : ad270.block ≠ gb267 := Kd.own_blk (Kd.R_ne HO_4.out BK267.out (by decide)); have hn270_2 : ad270.block ≠ gb267 := Kd.own_blk (Kd.R_ne HO_4.out BK267.out (by decide)); have hn270_3 : ad270.block ≠ gb267 := Kd.own_blk (Kd.R_ne HO_4.out BK267.out (by decide)); have hn270_4 : ad270.block ≠ gb267 := Kd.own_blk (Kd.R_ne HO_4.out BK267.out (by decide)); replace hx270_0 := (cell_far (p := ⟨gb267, 0, none⟩) (by first | (rw [add_block]; exact hn270_0) | (show (Addr.add _ _).block ≠ _; rw [add_block]; exact hn270_0) | exact hn270_0) (.int .i8 ((rd_T81 ((rd_T31 l0 0).f1) x8_1).f0))).trans hx270_0; replace hx270_0 := (cell_far (p := ⟨gb267, 1, none⟩) (by first | (rw [add_block]; exact hn270_1) | (show (Addr.add _ _).block ≠ _; rw [add_block]; exact hn270_1) | exact hn270_1) (.int .i16 ((rd_T81 ((rd_T31 l0 0).f1) x8_1).f1))).trans hx270_0; replace hx270_0 := (cell_far (p := ⟨gb267, 2, none⟩) (by first | (rw [add_block]; exact hn270_2) | (show (Addr.add _ _).block ≠ _; rw [add_block]; exact hn270_2) | exact hn270_2) (.int .i16 ((rd_T81 ((rd_T31 l0 0).f1) x8_1).f2))).trans hx270_0; replace hx270_0 := (cell_far (p := ⟨gb267, 1, none⟩) (by first | (rw [add_block]; exact hn270_3) | (show (Addr.add _ _).block ≠ _; rw [add_block]; exact hn270_3) | exact hn270_3) (.int .i16 (IntKind.i16.wrap (rd x5_1 ((rd_T81 ((rd_T31 l0 0).f1) x8_1).f1))))).trans hx270_0; replace hx270_0 := (cell_far (p := ⟨gb267, 2, none⟩) (by first | (rw [add_block]; exact hn270_4) | (show (Addr.add _ _).block ≠ _; rw [add_block]; exact hn270_4) | exact hn270_4) (.int .i16 (IntKind.i16.wrap (rd x5_1 ((rd_T81 ((rd_T31 l0 0).f1) x8_1).f2))))).trans hx270_0; clear hn270_0; clear hn270_1; clear hn270_2; clear hn270_3; clear hn270_4; replace p270 := eq_true p270; replace q270 := eq_true q270) | ((with_reducible refine gate_builtin (b := .append) (xs := #[.tmp 75, .tmp 80]) rfl ?_); at_builtin; refine Kd.R_append (Kd.int .u64) (w0 := w) w.heap.size rfl (.tmp 75) (.tmp 80) 53 98 (.int .u64 0) 8 rfl Try.underlying53 info98 rfl (by decide) (by omega) (.slice Ao42 x6_1.length co42) x6_1 (rd t251 x8_1) [.int .u64 (rd t251 x8_1)] (fun k_ => some k_ ≠ (.slice (some ad270) t251.length co48 : Value).ownBlock) (fun _ => False) rfl (by first | (go_simp; done) | (go_simp; rfl)) ?aP (fun _ hk => hk.elim) ?aF ?aO ?aB ?aS ?aL ?_; (case aP => exact rfl); (case aB => exact zbo); (case aF => exact (fun k_ hk => Kd.fresh' (Kd.R_lt (zs HO_4 BK267).out) k_ hk)); (case aO => exact (by (with_reducible repeat (first | apply Kd.R_alloc | apply Kd.R_drewN | apply Kd.R_drew)); exact Kd.R_mono (Kd.R_far (p := ⟨gb267, 2, none⟩) (Kd.R_far (p := ⟨gb267, 1, none⟩) (Kd.R_far (p := ⟨gb267, 2, none⟩) (Kd.R_far (p := ⟨gb267, 1, none⟩) (Kd.R_far (p := ⟨gb267, 0, none⟩) (Kd.R_types HO_6.out BK267.out (by decide)) (fun _ hk => hk.2) (.int .i8 ((rd_T81 ((rd_T31 l0 0).f1) x8_1).f0))) (fun _ hk => hk.2) (.int .i16 ((rd_T81 ((rd_T31 l0 0).f1) x8_1).f1))) (fun _ hk => hk.2) (.int .i16 ((rd_T81 ((rd_T31 l0 0).f1) x8_1).f2))) (fun _ hk => hk.2) (.int .i16 (IntKind.i16.wrap (rd x5_1 ((rd_T81 ((rd_T31 l0 0).f1) x8_1).f1))))) (fun _ hk => hk.2) (.int .i16 (IntKind.i16.wrap (rd x5_1 ((rd_T81 ((rd_T31 l0 0).f1) x8_1).f2))))) (fun _ hk => hk.1))); (case aS => exact (zz HB)); (case aL => have := LMc39.out; omega); intro v272 w49 ho hb hg hat; rw [← Ny271.out] at ho; have n_ : _ ∧ _ ∧ _ ∧ _ ∧ _ ∧ _ ∧ _ ∧ _ := ⟨Aside0.mk (Kd.R_after (ok := (fun _ => True)) (by (with_reducible repeat (first | apply Kd.R_alloc | apply Kd.R_drewN | apply Kd.R_drew)); exact Kd.R_mono (Kd.R_far (p := ⟨gb267, 2, none⟩) (Kd.R_far (p := ⟨gb267, 1, none⟩) (Kd.R_far (p := ⟨gb267, 2, none⟩) (Kd.R_far (p := ⟨gb267, 1, none⟩) (Kd.R_far (p := ⟨gb267, 0, none⟩) (Kd.R_types HO_4.out BK267.out (by decide)) (fun _ hk => hk.2) (.int .i8 ((rd_T81 ((rd_T31 l0 0).f1) x8_1).f0))) (fun _ hk => hk.2) (.int .i16 ((rd_T81 ((rd_T31 l0 0).f1) x8_1).f1))) (fun _ hk => hk.2) (.int .i16 ((rd_T81 ((rd_T31 l0 0).f1) x8_1).f2))) (fun _ hk => hk.2) (.int .i16 (IntKind.i16.wrap (rd x5_1 ((rd_T81 ((rd_T31 l0 0).f1) x8_1).f1))))) (fun _ hk => hk.2) (.int .i16 (IntKind.i16.wrap (rd x5_1 ((rd_T81 ((rd_T31 l0 0).f1) x8_1).f2))))) (fun _ hk => ⟨trivial, hk.1⟩)) hg hat), Aside0.mk (Kd.R_over' (zs HO_5 BK267).out (Kd.R_typed (zs HO_6 BK267).out) (by decide) hg), Aside0.mk (Kd.R_over' (by (with_reducible repeat (first | apply Kd.R_alloc | apply Kd.R_drewN | apply Kd.R_drew)); exact (Kd.R_mono (Kd.R_far (p := ⟨gb267, 2, none⟩) (Kd.R_far (p := ⟨gb267, 1, none⟩) (Kd.R_far (p := ⟨gb267, 2, none⟩) (Kd.R_far (p := ⟨gb267, 1, none⟩) (Kd.R_far (p := ⟨gb267, 0, none⟩) (Kd.R_mono HO_262001.out (fun k_ hk => (⟨hk, hk.2⟩ : _ ∧ k_ ≠ gb267))) (fun _ hk => hk.2) (.int .i8 ((rd_T81 ((rd_T31 l0 0).f1) x8_1).f0))) (fun _ hk => hk.2) (.int .i16 ((rd_T81 ((rd_T31 l0 0).f1) x8_1).f1))) (fun _ hk => hk.2) (.int .i16 ((rd_T81 ((rd_T31 l0 0).f1) x8_1).f2))) (fun _ hk => hk.2) (.int .i16 (IntKind.i16.wrap (rd x5_1 ((rd_T81 ((rd_T31 l0 0).f1) x8_1).f1))))) (fun _ hk => hk.2) (.int .i16 (IntKind.i16.wrap (rd x5_1 ((rd_T81 ((rd_T31 l0 0).f1) x8_1).f2))))) (fun _ h_ => h_.1))) (Kd.R_typed (zs HO_6 BK267).out) (by decide) hg), Aside0.mk (blk_grown (g := gb250) (o := .cells #[.int .i8 0, .slice none 0 0, .slice none 0 0] 31 (0, 0)) (zf BK250 NB250_267).out hg (Kd.R_ne HO_6.out BK250.out (by decide))), Aside0.mk (blk_grown (g := gb261) (o := .cells #[.int .i8 ((rd_T31 l0 0).f0), u262001, .slice none 0 0] 31 (0, 0)) (zf BK261 NB261_267).out hg (Kd.R_ne HO_6.out BK261.out (by decide))), Aside0.mk (blk_grown (g := gb267) (o := .cells #[.int .i8 ((rd_T81 ((rd_T31 l0 0).f1) x8_1).f0), .int .i16 (IntKind.i16.wrap (rd x5_1 ((rd_T81 ((rd_T31 l0 0).f1) x8_1).f1))), .int .i16 (IntKind.i16.wrap (rd x5_1 ((rd_T81 ((rd_T31 l0 0).f1) x8_1).f2)))] 81 (0, 0)) (zp BK267) hg (Kd.R_ne HO_6.out BK267.out (by decide))), Aside0.mk (hb), Aside0.mk (ho)⟩; clear HO_4 HO_5 HO_262001 BK250 BK261 BK267 HB HO_6; obtain ⟨HO_4, HO_5, HO_262001, BK250, BK261, BK267, HB, HO273⟩ := n_; clear ho hb hg hat; have hnb50 := NB261_250.out; have hnc50 := NB250_261.out; obtain ⟨z51_0, z51_1, z51_2, y51_0, y51_1, y51_2⟩ := zB3 BK261; obtain ⟨z52_0, z52_1, z52_2, y52_0, y52_1, y52_2⟩ := zB3 BK267) | ((with_reducible refine gate_builtin (b := .append) (xs := #[.tmp 83, .tmp 85]) rfl ?_); at_builtin; refine Kd.R_append k81 (w0 := w) w.heap.size rfl (.tmp 83) (.tmp 85) 29 81 (.agg #[(.int .i8 0), (.int .i16 0), (.int .i16 0)]) 6 rfl Try.underlying29 info81 rfl (by decide) (by omega) u262001 x262001_1 (⟨(rd_T81 ((rd_T31 l0 0).f1) x8_1).f0, IntKind.i16.wrap (rd x5_1 ((rd_T81 ((rd_T31 l0 0).f1) x8_1).f1)), IntKind.i16.wrap (rd x5_1 ((rd_T81 ((rd_T31 l0 0).f1) x8_1).f2))⟩ : S81) [.int .i8 ((rd_T81 ((rd_T31 l0 0).f1) x8_1).f0), .int .i16 (IntKind.i16.wrap (rd x5_1 ((rd_T81 ((rd_T31 l0 0).f1) x8_1).f1))), .int .i16 (IntKind.i16.wrap (rd x5_1 ((rd_T81 ((rd_T31 l0 0).f1) x8_1).f2)))] (fun k_ => k_ ≠ gb267) (fun _ => False) rfl rfl ?aP (fun _ hk => hk.elim) ?aF ?aO ?aB ?aS ?aL ?_; (case aP => exact k81_mkM _ _ _ (⟨(rd_T81 ((rd_T31 l0 0).f1) x8_1).f0, IntKind.i16.wrap (rd x5_1 ((rd_T81 ((rd_T31 l0 0).f1) x8_1).f1)), IntKind.i16.wrap (rd x5_1 ((rd_T81 ((rd_T31 l0 0).f1) x8_1).f2))⟩ : S81)); (case aB => exact zbo); (case aF => exact (fun k_ hk => Kd.freshB (g := gb267) (o := .cells #[.int .i8 ((rd_T81 ((rd_T31 l0 0).f1) x8_1).f0), .int .i16 (IntKind.i16.wrap (rd x5_1 ((rd_T81 ((rd_T31 l0 0).f1) x8_1).f1))), .int .i16 (IntKind.i16.wrap (rd x5_1 ((rd_T81 ((rd_T31 l0 0).f1) x8_1).f2)))] 81 (0, 0)) (zh BK267).out k_ hk)); (case aO => exact (by (with_reducible repeat (first | apply Kd.R_alloc | apply Kd.R_drewN | apply Kd.R_drew)); exact Kd.R_mono HO_262001.out (fun _ hk => hk.2))); (case aS => exact (zz HB)); (case aL => have := LMc40.out; omega); intro v275 w53 ho hb hg hat; rw [← Ny274.out] at ho; have n_ : _ ∧ _ ∧ _ ∧ _ ∧ _ ∧ _ ∧ _ ∧ _ := ⟨Aside0.mk (Kd.R_over' (ze HO_4).out (Kd.R_typed (ze HO_262001).out) (by decide) hg), Aside0.mk (Kd.R_over' (ze HO_5).out (Kd.R_typed (ze HO_262001).out) (by decide) hg), Aside0.mk (blk_grown (g := gb250) (o := .cells #[.int .i8 0, .slice none 0 0, .slice none 0 0] 31 (0, 0)) (zh BK250).out hg (Kd.R_ne HO_262001.out BK250.out (by decide))), Aside0.mk (blk_grown (g := gb261) (o := .cells #[.int .i8 ((rd_T31 l0 0).f0), u262001, .slice none 0 0] 31 (0, 0)) (zh BK261).out hg (Kd.R_ne HO_262001.out BK261.out (by decide))), Aside0.mk (blk_grown (g := gb267) (o := .cells #[.int .i8 ((rd_T81 ((rd_T31 l0 0).f1) x8_1).f0), .int .i16 (IntKind.i16.wrap (rd x5_1 ((rd_T81 ((rd_T31 l0 0).f1) x8_1).f1))), .int .i16 (IntKind.i16.wrap (rd x5_1 ((rd_T81 ((rd_T31 l0 0).f1) x8_1).f2)))] 81 (0, 0)) (zh BK267).out hg (Kd.R_away HO_262001.out (fun _ hk => hk.2))), Aside0.mk (Kd.R_over' (ze HO273).out (Kd.R_typed (ze HO_262001).out) (by decide) hg), Aside0.mk (hb), Aside0.mk (ho)⟩; clear HO_4 HO_5 BK250 BK261 BK267 HO273 HB HO_262001; obtain ⟨HO_4, HO_5, BK250, BK261, BK267, HO273, HB, HO276⟩ := n_; clear ho hb hg hat; obtain ⟨Ao54, co54, eo54⟩ := Kd.R_slice HO276.out; subst eo54; obtain ⟨z55_0, z55_1, z55_2, y55_0, y55_1, y55_2⟩ := zB3 BK261) | ((with_reducible refine gate_builtin (b := .append) (xs := #[.tmp 88, .tmp 90]) rfl ?_); at_builtin; refine Kd.R_append (Kd.int .i64) (w0 := w) w.heap.size rfl (.tmp 88) (.tmp 90) 47 2 (.int .i64 0) 8 rfl Try.underlying47 info2 rfl (by decide) (by omega) (.slice (some ad268) x5_1.length co47) x5_1 x9_14 [.int .i64 x9_14] (fun _ => True) (fun _ => False) rfl (by first | (go_simp; done) | (go_simp; rfl)) ?aP (fun _ hk => hk.elim) ?aF ?aO ?aB ?aS ?aL ?_; (case aP => exact rfl); (case aB => exact zbo); (case aF => exact (fun _ _ => trivial)); (case aO => exact (Kd.R_mono (zs HO_5 BK261).out (fun _ hk => trivial))); (case aS => exact (zz HB)); (case aL => have := LMc41.out; omega); intro v278 w56 ho hb hg hat; rw [← Ny277.out] at ho; have n_ : _ ∧ _ ∧ _ ∧ _ ∧ _ ∧ _ ∧ _ ∧ _ := ⟨Aside0.mk (Kd.R_over' (zs HO_4 BK261).out (Kd.R_typed (zs HO_5 BK261).out) (by decide) hg), Aside0.mk (blk_grown (g := gb250) (o := .cells #[.int .i8 0, .slice none 0 0, .slice none 0 0] 31 (0, 0)) (zf BK250 NB250_261).out hg (Kd.R_ne HO_5.out BK250.out (by decide))), Aside0.mk (blk_grown (g := gb261) (o := .cells #[.int .i8 ((rd_T31 l0 0).f0), .slice Ao54 y274.length co54, .slice none 0 0] 31 (0, 0)) (zp BK261) hg (Kd.R_ne HO_5.out BK261.out (by decide))), Aside0.mk (blk_grown (g := gb267) (o := .cells #[.int .i8 ((rd_T81 ((rd_T31 l0 0).f1) x8_1).f0), .int .i16 (IntKind.i16.wrap (rd x5_1 ((rd_T81 ((rd_T31 l0 0).f1) x8_1).f1))), .int .i16 (IntKind.i16.wrap (rd x5_1 ((rd_T81 ((rd_T31 l0 0).f1) x8_1).f2)))] 81 (0, 0)) (zf BK267 NB267_261).out hg (Kd.R_ne HO_5.out BK267.out (by decide))), Aside0.mk (Kd.R_over' (zs HO273 BK261).out (Kd.R_typed (zs HO_5 BK261).out) (by decide) hg), Aside0.mk (Kd.R_over' (zs HO276 BK261).out (Kd.R_typed (zs HO_5 BK261).out) (by decide) hg), Aside0.mk (hb), Aside0.mk (ho)⟩; clear HO_4 BK250 BK261 BK267 HO273 HO276 HB HO_5; obtain ⟨HO_4, BK250, BK261, BK267, HO273, HO276, HB, HO279⟩ := n_; clear ho hb hg hat))
 go_roundg kj14
 case measure => have := HK1.out; have := HJ14.out; omega
 case rel => exact ⟨(y277), (y271), (wrap64 (x8_1 + 1)), (y274), (.slice Ao54 y274.length co54), zi, H', ⟨by have := HK1.out; have := HJ14.out; omega⟩, ⟨by (with_reducible repeat (first | apply Kd.R_alloc | apply Kd.R_drewN | apply Kd.R_drew)); exact Kd.R_mono HO_4.out (fun _ hk => hk.2)⟩, ze HO279, ze HO273, ⟨by (with_reducible repeat (first | apply Kd.R_alloc | apply Kd.R_drewN | apply Kd.R_drew)); exact Kd.R_mono HO276.out (fun _ hk => trivial)⟩, zh BK250, zh BK261, zba⟩
end Go.Proofs.Ytmpmanfoiocfgaa.PFnExactSimplifyNetwork
