-- WRITTEN by xprint.py, a program of this session's. Not trusted: Lean checks it.
-- packed by pack.py
import Derived.Test.YtmpmanfoiocfgaaPFnExactMergeOfx0
import Derived.Test.YtmpmanfoiocfgaaPFnExactMergeOfx5
import Derived.Test.YtmpmanfoiocfgaaTFnExactMergeOfa
namespace Go.Proofs.Ytmpmanfoiocfgaa.PFnExactMergeOf
open Go.RowKit Go.Proofs.YtmpmanfoiocfgaaW.PrintWords Go.Proofs.YtmpmanfoiocfgaaW.PrintLast Go.Proofs.YtmpmanfoiocfgaaW.PrintMore Go.Proofs.YtmpmanfoiocfgaaX
attribute [local go_sem] max2_int min2_int max_two min_two max_three min_three max_four min_four   -- for this text's walks alone
set_option linter.unusedVariables false
set_option linter.unusedSimpArgs false

/-! ### spec_l04Merge: function 121 -/
mutual
def spec_l04Merge.l0 : Nat → List (S31) → List Int → List Int → List Int → Int → Int → List (S81) → Option (Int × (List (S81)) × List Int × List Int)
  | 0, _, _, _, _, _, _, _ => none
  | k + 1, x0, x4, x5, x6, x8, x217000, x217001 => if 0 < (x0.length : Int) then (if x8 < (((rd_T31 x0 0).f1).length : Int) then (spec_l04Merge.l1 k x0 x4 x5 x6 x8 0 x217000 x217001) else (spec_l04Merge.l2 k x0 x5 0 x217000 x217001 ([] : List Int))) else (none)
def spec_l04Merge.j2 : Nat → List (S31) → List Int → List Int → List Int → Int → Int → Int → List (S81) → Option (Int × (List (S81)) × List Int × List Int)
  | 0, _, _, _, _, _, _, _, _ => none
  | k + 1, x0, x4, x5, x6, x8, x9, x217000, x217001 => if x9 = (x6.length : Int) then (if 0 < (x0.length : Int) then (if 0 ≤ x8 then (if x8 < (((rd_T31 x0 0).f1).length : Int) then (if ((rd_T81 ((rd_T31 x0 0).f1) x8).f0) ≥ 2 then (if 0 ≤ ((rd_T81 ((rd_T31 x0 0).f1) x8).f1) then (if ((rd_T81 ((rd_T31 x0 0).f1) x8).f1) < (x5.length : Int) then (if 0 ≤ ((rd_T81 ((rd_T31 x0 0).f1) x8).f2) then (if ((rd_T81 ((rd_T31 x0 0).f1) x8).f2) < (x5.length : Int) then (if x8 < (x4.length : Int) then (if x6.length < 17592186044416 then (if x217001.length < 23456248059221 then (if x5.length < 17592186044416 then (spec_l04Merge.l0 k x0 x4 (x5 ++ [x9]) (x6 ++ [rd x4 x8]) (wrap64 (x8 + 1)) x217000 (x217001 ++ [(⟨(rd_T81 ((rd_T31 x0 0).f1) x8).f0, IntKind.i16.wrap (rd x5 ((rd_T81 ((rd_T31 x0 0).f1) x8).f1)), IntKind.i16.wrap (rd x5 ((rd_T81 ((rd_T31 x0 0).f1) x8).f2))⟩ : S81)])) else (none)) else (none)) else (none)) else (none)) else (none)) else (none)) else (none)) else (none)) else (if x8 < (x4.length : Int) then (if x6.length < 17592186044416 then (if x217001.length < 23456248059221 then (if x5.length < 17592186044416 then (spec_l04Merge.l0 k x0 x4 (x5 ++ [x9]) (x6 ++ [rd x4 x8]) (wrap64 (x8 + 1)) x217000 (x217001 ++ [(⟨(rd_T81 ((rd_T31 x0 0).f1) x8).f0, (rd_T81 ((rd_T31 x0 0).f1) x8).f1, (rd_T81 ((rd_T31 x0 0).f1) x8).f2⟩ : S81)])) else (none)) else (none)) else (none)) else (none))) else (none)) else (none)) else (none)) else (if x5.length < 17592186044416 then (spec_l04Merge.l0 k x0 x4 (x5 ++ [x9]) x6 (wrap64 (x8 + 1)) x217000 x217001) else (none))
def spec_l04Merge.l1 : Nat → List (S31) → List Int → List Int → List Int → Int → Int → Int → List (S81) → Option (Int × (List (S81)) × List Int × List Int)
  | 0, _, _, _, _, _, _, _, _ => none
  | k + 1, x0, x4, x5, x6, x8, x9, x217000, x217001 => if x9 < (x6.length : Int) then (if 0 ≤ x9 then (if 0 ≤ x8 then (if x8 < (x4.length : Int) then (if (rd x6 x9) = (rd x4 x8) then (spec_l04Merge.j2 k x0 x4 x5 x6 x8 x9 x217000 x217001) else (spec_l04Merge.l1 k x0 x4 x5 x6 x8 (wrap64 (x9 + 1)) x217000 x217001)) else (none)) else (none)) else (none)) else (spec_l04Merge.j2 k x0 x4 x5 x6 x8 x9 x217000 x217001)
def spec_l04Merge.l2 : Nat → List (S31) → List Int → Int → Int → List (S81) → List Int → Option (Int × (List (S81)) × List Int × List Int)
  | 0, _, _, _, _, _, _ => none
  | k + 1, x0, x5, x11, x217000, x217001, x217002 => if 0 < (x0.length : Int) then (if x11 < (((rd_T31 x0 0).f2).length : Int) then (if 0 ≤ x11 then (if 0 ≤ (rd ((rd_T31 x0 0).f2) x11) then (if (rd ((rd_T31 x0 0).f2) x11) < (x5.length : Int) then (if x217002.length < 70368744177664 then (spec_l04Merge.l2 k x0 x5 (wrap64 (x11 + 1)) x217000 x217001 (x217002 ++ [IntKind.i16.wrap (rd x5 (rd ((rd_T31 x0 0).f2) x11))])) else (none)) else (none)) else (none)) else (none)) else (some (x217000, x217001, x217002, x5))) else (none)
end
def spec_l04Merge.f (k : Nat) (l0 : List (S31)) : Option (Int × (List (S81)) × List Int × List Int) := (spec_l04Tables.f k l0).bind fun t206 => (if 0 < (l0.length : Int) then (spec_l04Merge.l0 k l0 t206 (([] : List Int)) (([] : List Int)) 0 ((rd_T31 l0 0).f0) ([] : List (S81))) else (none))
theorem spec_l04Merge.mono_l : ∀ k, (∀ y0 y1 y2 y3 y4 y5 y6, LeO (spec_l04Merge.l0 k y0 y1 y2 y3 y4 y5 y6) (spec_l04Merge.l0 (k + 1) y0 y1 y2 y3 y4 y5 y6)) ∧ (∀ y0 y1 y2 y3 y4 y5 y6 y7, LeO (spec_l04Merge.j2 k y0 y1 y2 y3 y4 y5 y6 y7) (spec_l04Merge.j2 (k + 1) y0 y1 y2 y3 y4 y5 y6 y7)) ∧ (∀ y0 y1 y2 y3 y4 y5 y6 y7, LeO (spec_l04Merge.l1 k y0 y1 y2 y3 y4 y5 y6 y7) (spec_l04Merge.l1 (k + 1) y0 y1 y2 y3 y4 y5 y6 y7)) ∧ (∀ y0 y1 y2 y3 y4 y5, LeO (spec_l04Merge.l2 k y0 y1 y2 y3 y4 y5) (spec_l04Merge.l2 (k + 1) y0 y1 y2 y3 y4 y5))
  | 0 => ⟨fun _ _ _ _ _ _ _ r h => by simp [spec_l04Merge.l0] at h, fun _ _ _ _ _ _ _ _ r h => by simp [spec_l04Merge.j2] at h, fun _ _ _ _ _ _ _ _ r h => by simp [spec_l04Merge.l1] at h, fun _ _ _ _ _ _ r h => by simp [spec_l04Merge.l2] at h⟩
  | k + 1 => by
    obtain ⟨ih0, ih1, ih2, ih3⟩ := spec_l04Merge.mono_l k
    refine ⟨?_, ?_, ?_, ?_⟩
    · intro y0 y1 y2 y3 y4 y5 y6
      unfold spec_l04Merge.l0
      repeat' first | (with_reducible first | apply ih0 | apply ih1 | apply ih2 | apply ih3 | apply spec_l04Tables.mono | exact LeO.refl _ | exact LeO.none _ | refine LeO.ite ?_ ?_ | refine LeO.bind ?_ (fun _ => ?_)) | apply ih0 | apply ih1 | apply ih2 | apply ih3 | apply spec_l04Tables.mono | exact LeO.none _ | refine LeO.ite ?_ ?_ | refine LeO.bind ?_ (fun _ => ?_)
    · intro y0 y1 y2 y3 y4 y5 y6 y7
      unfold spec_l04Merge.j2
      repeat' first | (with_reducible first | apply ih0 | apply ih1 | apply ih2 | apply ih3 | apply spec_l04Tables.mono | exact LeO.refl _ | exact LeO.none _ | refine LeO.ite ?_ ?_ | refine LeO.bind ?_ (fun _ => ?_)) | apply ih0 | apply ih1 | apply ih2 | apply ih3 | apply spec_l04Tables.mono | exact LeO.none _ | refine LeO.ite ?_ ?_ | refine LeO.bind ?_ (fun _ => ?_)
    · intro y0 y1 y2 y3 y4 y5 y6 y7
      unfold spec_l04Merge.l1
      repeat' first | (with_reducible first | apply ih0 | apply ih1 | apply ih2 | apply ih3 | apply spec_l04Tables.mono | exact LeO.refl _ | exact LeO.none _ | refine LeO.ite ?_ ?_ | refine LeO.bind ?_ (fun _ => ?_)) | apply ih0 | apply ih1 | apply ih2 | apply ih3 | apply spec_l04Tables.mono | exact LeO.none _ | refine LeO.ite ?_ ?_ | refine LeO.bind ?_ (fun _ => ?_)
    · intro y0 y1 y2 y3 y4 y5
      unfold spec_l04Merge.l2
      repeat' first | (with_reducible first | apply ih0 | apply ih1 | apply ih2 | apply ih3 | apply spec_l04Tables.mono | exact LeO.refl _ | exact LeO.none _ | refine LeO.ite ?_ ?_ | refine LeO.bind ?_ (fun _ => ?_)) | apply ih0 | apply ih1 | apply ih2 | apply ih3 | apply spec_l04Tables.mono | exact LeO.none _ | refine LeO.ite ?_ ?_ | refine LeO.bind ?_ (fun _ => ?_)
theorem spec_l04Merge.mono : ∀ a0 k, LeO (spec_l04Merge.f k a0) (spec_l04Merge.f (k + 1) a0) := by
 intro a0 k
 obtain ⟨ih0, ih1, ih2, ih3⟩ := spec_l04Merge.mono_l k
 unfold spec_l04Merge.f
 repeat' first | (with_reducible first | apply ih0 | apply ih1 | apply ih2 | apply ih3 | apply spec_l04Tables.mono | exact LeO.refl _ | exact LeO.none _ | refine LeO.ite ?_ ?_ | refine LeO.bind ?_ (fun _ => ?_)) | apply ih0 | apply ih1 | apply ih2 | apply ih3 | apply spec_l04Tables.mono | exact LeO.none _ | refine LeO.ite ?_ ?_ | refine LeO.bind ?_ (fun _ => ?_)
def spec_l04Merge.T9 : Bool × List (List Nat × List Nat) := (true, [([], []), ([], []), ([1], [1]), ([0, 2], [0, 2]), ([3], [3]), ([4], [4]), ([4], [4]), ([5, 6, 4], [4, 5, 6]), ([7, 4], [4, 7]), ([4], [4]), ([4], [4]), ([9, 10, 4], [4, 9, 10]), ([11, 4], [4, 11]), ([8, 12, 4], [4, 8, 12]), ([4, 13], [4, 13])])
def spec_l04Merge.B9 : List Nat := [0, 0, 2, 7, 15, 31, 31, 127, 255, 31, 31, 1567, 3615, 8191, 16383]
theorem spec_l04Merge.tab9 : rtab .any (opsOf Try.f121 9) = spec_l04Merge.T9 := by kernel_rfl
theorem spec_l04Merge.bits9 : waitsOk spec_l04Merge.T9.2 spec_l04Merge.B9 = true := by kernel_rfl
def spec_l04Merge.T22 : Bool × List (List Nat × List Nat) := (true, [([], []), ([0], [0]), ([], []), ([], []), ([3], [3]), ([4], [4]), ([5], [5]), ([], []), ([6, 7], [6, 7]), ([8], [8]), ([2, 9], [2, 9]), ([10], [10]), ([11], [11]), ([12], [12]), ([1, 13], [1, 13]), ([0, 1, 2, 3, 4, 5, 6, 7, 8, 9, 10, 11, 12, 13, 14], []), ([15, 14, 14, 0, 1, 2, 3, 4, 5, 6, 7, 8, 9, 10, 11, 12, 13, 14], [14, 15])])
def spec_l04Merge.B22 : List Nat := [0, 1, 0, 0, 8, 24, 56, 0, 248, 504, 1020, 2044, 4092, 8188, 16383, 32767, 65535]
theorem spec_l04Merge.tab22 : rtab .any (opsOf Try.f121 22) = spec_l04Merge.T22 := by kernel_rfl
theorem spec_l04Merge.bits22 : waitsOk spec_l04Merge.T22.2 spec_l04Merge.B22 = true := by kernel_rfl
set_option maxHeartbeats 8000000 in
set_option maxRecDepth 100000 in
theorem spec_l04Merge.calls (k : Nat) (adp0 : Addr) (l0 : List (S31)) (r1 : Int) (r2 : List (S81)) (r3 : List Int) (r4 : List Int) (w : World) (hr0 : Kd.C k31 w (some adp0) l0.length l0) (h : spec_l04Merge.f k l0 = some (r1, r2, r3, r4)) :
    Calls Try.prog 121 #[.pointer (some adp0)] w fun e w' => ∃ v1_ v2_ v3_ : Value, e = .returned (.tuple #[.agg #[.int .i8 r1, v1_, v2_], v3_]) ∧ Kd.R k81 81 w' w.heap.size (fun _ => True) v1_ r2 ∧ Kd.R (Kd.int .i16) 79 w' w.heap.size (fun _ => True) v2_ r3 ∧ Kd.R (Kd.int .i64) 2 w' w.heap.size (fun _ => True) v3_ r4 ∧ Below w.heap.size w w' := by
 have hu31 := Try.underlying31
 have hu81 := Try.underlying81
 have HR0 := Aside0.mk hr0
 clear hr0
 have HB := Aside0.mk (Below.refl w.heap.size w)
 have H : ((spec_l04Tables.f k l0).bind fun t206 => (if 0 < (l0.length : Int) then (spec_l04Merge.l0 k l0 t206 (([] : List Int)) (([] : List Int)) 0 ((rd_T31 l0 0).f0) ([] : List (S81))) else (none))) = some (r1, r2, r3, r4) := h
 clear h
 replace H := Option.bind_eq_some_iff.mp H
 obtain ⟨t206, A20, H⟩ := H
 replace H : (if 0 < (l0.length : Int) then (spec_l04Merge.l0 k l0 t206 (([] : List Int)) (([] : List Int)) 0 ((rd_T31 l0 0).f0) ([] : List (S81))) else (none)) = some (r1, r2, r3, r4) := H
 have A2 := Aside0.mk A20
 clear A20
 obtain ⟨y209, hy209⟩ : ∃ y_ : List Int, y_ = (([] : List Int)) := ⟨_, rfl⟩
 replace H : (if 0 < (l0.length : Int) then (spec_l04Merge.l0 k l0 t206 y209 (([] : List Int)) 0 ((rd_T31 l0 0).f0) ([] : List (S81))) else (none)) = some (r1, r2, r3, r4) := by first | (rw [hy209]; with_reducible exact H) | (have H2_ := (Option.bind_some _ _).symm.trans H; rw [hy209]; with_reducible exact H2_) | (have H2_ := (Option.bind_some _ _).symm.trans H; with_reducible exact H2_) | with_reducible exact H | (rw [hy209]; exact H) | exact H
 have Ny209 := Aside0.mk hy209
 clear hy209
 obtain ⟨y212, hy212⟩ : ∃ y_ : List Int, y_ = (([] : List Int)) := ⟨_, rfl⟩
 replace H : (if 0 < (l0.length : Int) then (spec_l04Merge.l0 k l0 t206 y209 y212 0 ((rd_T31 l0 0).f0) ([] : List (S81))) else (none)) = some (r1, r2, r3, r4) := by first | (rw [hy212]; with_reducible exact H) | (have H2_ := (Option.bind_some _ _).symm.trans H; rw [hy212]; with_reducible exact H2_) | (have H2_ := (Option.bind_some _ _).symm.trans H; with_reducible exact H2_) | with_reducible exact H | (rw [hy212]; exact H) | exact H
 have Ny212 := Aside0.mk hy212
 clear hy212
 by_cases c3 : 0 < (l0.length : Int)
 rotate_left
 ·rw [if_neg c3] at H
  exact absurd H (by simp)
 rw [if_pos c3] at H
 have c3b0 : decide (0 < (l0.length : Int)) = true := decide_eq_true c3
 have c3b1 : decide (0 < l0.length) = true := decide_eq_true (by omega)
 clear c3
 have H' := Aside0.mk H
 clear H
 go_enter Try.func121, Try.ntmps121
 go_wp2_with (first | ((with_reducible refine gate_dst (N := 2) rfl ?_); refine box_event ?hg (N := 2) ?hd (cs := #[.int .i8 0, .slice none 0 0, .slice none 0 0]) (t := 31) ?hr ?_; (case hd => rfl); (case hg => rfl); (case hr => first | (go_simp; done) | (go_simp; rfl)); intro gb205 hg w4 hbox hb; have n_ : _ ∧ _ ∧ _ ∧ _ := ⟨zb HB hb, Aside0.mk (hbox), zg HB hg, zg HB hg⟩; clear HB; obtain ⟨HB, BK205, GW205, GE205⟩ := n_; clear hb hbox hg) | ((with_reducible refine gate_callee (f := 96) rfl ?_); refine goesL_ (some 13) rfl rfl Try.func96 (by kernel_rfl) rfl #[.pointer (some adp0)] rfl (by (try simp only [List.map_toArray, List.map_cons, List.map_nil]); first | done | rfl | (simp only [List.length_drop, List.length_take]; rfl)) ?_; (with_reducible refine (spec_l04Tables.calls k _ l0 t206 _ ?side1 A2.out).mono ?_); (case side1 => exact zcc HB HR0.out); rintro e w5 ⟨v207, rfl, ho0, hb⟩; refine ⟨_, rfl, ?_⟩; have n_ : _ ∧ _ ∧ _ := ⟨Aside0.mk (Kd.R_lower ho0 (zz HB)), zk BK205 hb, zbs hb⟩; clear BK205 HB; obtain ⟨HO208, BK205, HB⟩ := n_; (try clear hb); (try clear hb2); (try clear hk); (try clear hi); (try clear ho0)) | ((with_reducible refine gate_dst (N := 14) rfl ?_); refine Kd.R_lit (Kd.int .i64) _ 2 ?hg (N := 14) ?hd (xs := ([] : List Int)) (inner := []) (ok := fun _ => True) (okp := fun _ => True) ?hr ?hp (fun _ hk => hk) trivial (Below.refl _ _) (Nat.le_refl _) (by simp) ?_; (case hd => rfl); (case hg => rfl); (case hr => first | (go_simp; done) | (go_simp; rfl)); (case hp => exact (Reps.none _ _)); intro v210 w6 ho7 hb hg_ hnew_; clear hg_ hnew_; (first | rw [← Ny209.out] at ho7 | (simp only [Int.reduceToNat] at ho7; rw [← Ny209.out] at ho7)); have n_ : _ ∧ _ ∧ _ ∧ _ := ⟨zr HO208 hb, Aside0.mk (Kd.R_lower ho7 (zz HB)), zk BK205 hb, zbs hb⟩; clear HO208 BK205 HB; obtain ⟨HO208, HO211, BK205, HB⟩ := n_; clear hb ho7) | ((with_reducible refine gate_dst (N := 15) rfl ?_); refine Kd.R_lit (Kd.int .u64) _ 98 ?hg (N := 15) ?hd (xs := ([] : List Int)) (inner := []) (ok := fun _ => True) (okp := fun _ => True) ?hr ?hp (fun _ hk => hk) trivial (Below.refl _ _) (Nat.le_refl _) (by simp) ?_; (case hd => rfl); (case hg => rfl); (case hr => first | (go_simp; done) | (go_simp; rfl)); (case hp => exact (Reps.none _ _)); intro v213 w8 ho9 hb hg_ hnew_; clear hg_ hnew_; (first | rw [← Ny212.out] at ho9 | (simp only [Int.reduceToNat] at ho9; rw [← Ny212.out] at ho9)); have n_ : _ ∧ _ ∧ _ ∧ _ ∧ _ := ⟨Aside0.mk (Kd.R_elder' (ze HO208).out (Kd.R_base ho9) hb), zr HO211 hb, Aside0.mk (Kd.R_lower (Kd.R_new' ho9 (Kd.R_lt (ze HO208).out)) (zz HB)), zk BK205 hb, zbs hb⟩; clear HO208 HO211 BK205 HB; obtain ⟨HO208, HO211, HO214, BK205, HB⟩ := n_; clear hb ho9; have p215 : 0 ≤ (0 : Int) := (by omega); have q215 : 0 < (l0.length : Int) := of_decide_eq_true (by first | (with_reducible assumption) | assumption); obtain ⟨ad215, A215_1, c215_1, A215_2, c215_2, e215, hx215_0, hx215_1, hx215_2, hl215_1, hi215_1, hl215_2, hi215_2⟩ := at_T31 HR0.out 0 p215 q215; obtain rfl : adp0 = ad215 := (by injection e215); have qi215 : (0 < l0.length) = True := eq_true (by omega); (try rw [show ((0 : Int)).toNat = 0 from rfl] at hx215_0); (try rw [show 0 * 3 = 0 from rfl] at hx215_0); (try rw [Addr.add_zero'] at hx215_0); (try rw [show ((0 : Int)).toNat = 0 from rfl] at hx215_1); (try rw [show 0 * 3 = 0 from rfl] at hx215_1); (try rw [Addr.add_zero'] at hx215_1); (try rw [show ((0 : Int)).toNat = 0 from rfl] at hx215_2); (try rw [show 0 * 3 = 0 from rfl] at hx215_2); (try rw [Addr.add_zero'] at hx215_2); replace hx215_0 := zc HB hx215_0; replace hx215_1 := zc HB hx215_1; replace hx215_2 := zc HB hx215_2; have HR215_1 := Aside0.mk hi215_1; have HC215_1 := Aside0.mk hl215_1; clear hi215_1 hl215_1; have HR215_2 := Aside0.mk hi215_2; have HC215_2 := Aside0.mk hl215_2; clear hi215_2 hl215_2; replace p215 := eq_true p215; replace q215 := eq_true q215) | ((with_reducible refine gate_dst (N := 7) rfl ?_); refine box_event ?hg (N := 7) ?hd (cs := #[.int .i8 0, .slice none 0 0, .slice none 0 0]) (t := 31) ?hr ?_; (case hd => rfl); (case hg => rfl); (case hr => first | (go_simp; done) | (go_simp; rfl)); intro gb216 hg w10 hbox hb; have n_ : _ ∧ _ ∧ _ ∧ _ ∧ _ ∧ _ ∧ _ ∧ _ ∧ _ ∧ _ := ⟨zr HO208 hb, zr HO211 hb, zr HO214 hb, zk BK205 hb, zbs hb, Aside0.mk (hbox), zg HB hg, zg HB hg, zn1 BK205 hg, zn2 BK205 hg⟩; clear HO208 HO211 HO214 BK205 HB; obtain ⟨HO208, HO211, HO214, BK205, HB, BK216, GW216, GE216, NB205_216, NB216_205⟩ := n_; clear hb hbox hg; have hnb11 := NB216_205.out; have hnc11 := NB205_216.out; obtain ⟨z12_0, z12_1, z12_2, y12_0, y12_1, y12_2⟩ := zB3 BK216))
 go_loopg [5, 6, 8] k (fun kq v5 v6 v8 w' => ∃ (x5_1 : List Int) (x6_1 : List Int) (x8_1 : Int) (x217001_1 : List (S81)) (u217001 : Value), v8 = .int .i64 x8_1 ∧ Aside0 (spec_l04Merge.l0 kq l0 t206 x5_1 x6_1 x8_1 ((rd_T31 l0 0).f0) x217001_1 = some (r1, r2, r3, r4)) ∧ Aside0 (kq ≤ k) ∧ Aside0 (Kd.R (Kd.int .u64) 98 w' w.heap.size (fun k_ => some k_ ≠ (v6 : Value).ownBlock) v207 t206) ∧ Aside0 (Kd.R (Kd.int .i64) 2 w' w.heap.size (fun _ => True) v5 x5_1) ∧ Aside0 (Kd.R (Kd.int .u64) 98 w' w.heap.size (fun k_ => some k_ ≠ (v207 : Value).ownBlock) v6 x6_1) ∧ Aside0 (Kd.R k81 81 w' w.heap.size (fun _ => True) u217001 x217001_1) ∧ Aside0 (w'.heap[gb205]? = some (.cells #[.int .i8 0, (.slice none 0 0), (.slice none 0 0)] 31 (0, 0))) ∧ Aside0 (w'.heap[gb216]? = some (.cells #[.int .i8 ((rd_T31 l0 0).f0), u217001, (.slice none 0 0)] 31 (0, 0))) ∧ Aside0 (Below w.heap.size w w'))
 case atStart => exact ⟨(y209), (y212), (0), (([] : List (S81))), (.slice none 0 0), (by first | rfl | (simp; done) | (simp [*]; done) | (exact congrArg (Value.int .i64) (wrap_eq (by omega)))), H', ⟨Nat.le_refl _⟩, ⟨by (with_reducible repeat (first | apply Kd.R_alloc | apply Kd.R_drewN | apply Kd.R_drew)); exact Kd.R_mono (Kd.R_far (p := ⟨gb216, 2, none⟩) (Kd.R_far (p := ⟨gb216, 1, none⟩) (Kd.R_far (p := ⟨gb216, 0, none⟩) (Kd.R_types HO208.out BK216.out (by decide)) (fun _ hk => hk.2) (.int .i8 ((rd_T31 l0 0).f0))) (fun _ hk => hk.2) (.slice none 0 0)) (fun _ hk => hk.2) (.slice none 0 0)) (fun _ hk => hk.1.2)⟩, ⟨by (with_reducible repeat (first | apply Kd.R_alloc | apply Kd.R_drewN | apply Kd.R_drew)); exact Kd.R_mono (Kd.R_far (p := ⟨gb216, 2, none⟩) (Kd.R_far (p := ⟨gb216, 1, none⟩) (Kd.R_far (p := ⟨gb216, 0, none⟩) (Kd.R_types HO211.out BK216.out (by decide)) (fun _ hk => hk.2) (.int .i8 ((rd_T31 l0 0).f0))) (fun _ hk => hk.2) (.slice none 0 0)) (fun _ hk => hk.2) (.slice none 0 0)) (fun _ hk => trivial)⟩, ⟨by (with_reducible repeat (first | apply Kd.R_alloc | apply Kd.R_drewN | apply Kd.R_drew)); exact Kd.R_mono (Kd.R_far (p := ⟨gb216, 2, none⟩) (Kd.R_far (p := ⟨gb216, 1, none⟩) (Kd.R_far (p := ⟨gb216, 0, none⟩) (Kd.R_types HO214.out BK216.out (by decide)) (fun _ hk => hk.2) (.int .i8 ((rd_T31 l0 0).f0))) (fun _ hk => hk.2) (.slice none 0 0)) (fun _ hk => hk.2) (.slice none 0 0)) (fun _ hk => hk.1.2)⟩, ⟨by first | exact Kd.R_nil _ _ _ _ _ | exact Kd.N_nil _ _ _ _ _ | exact Kd.V_nil _ _ _ _ _ | exact Kd.Q_nil _ _ _ _ _ | exact Kd.S_nil _ _ _ _ _⟩, zf BK205 NB205_216, ⟨by (with_reducible repeat (first | refine blk_drewN ?_ _ | refine blk_drew ?_ | refine blk_alloc ?_ _)); refine blk_put (cs := #[.int .i8 ((rd_T31 l0 0).f0), .slice none 0 0, .slice none 0 0]) ?_ 2 _ rfl; (with_reducible repeat (first | refine blk_drewN ?_ _ | refine blk_drew ?_ | refine blk_alloc ?_ _)); refine blk_put (cs := #[.int .i8 ((rd_T31 l0 0).f0), .slice none 0 0, .slice none 0 0]) ?_ 1 _ rfl; (with_reducible repeat (first | refine blk_drewN ?_ _ | refine blk_drew ?_ | refine blk_alloc ?_ _)); refine blk_put (cs := #[.int .i8 0, .slice none 0 0, .slice none 0 0]) ?_ 0 _ rfl; (with_reducible repeat (first | refine blk_drewN ?_ _ | refine blk_drew ?_ | refine blk_alloc ?_ _)); exact BK216.out⟩, zba⟩
 clear H'
 try clear c1
 try clear c2
 try clear p2
 try clear q2
 try clear hx2
 try clear qi2
 try clear c3
 try clear c3b0
 try clear c3b1
 try clear c9
 try clear c11
 try clear c12
 try clear z12_0 z12_1 z12_2 y12_0 y12_1 y12_2
 try clear hx215_0
 try clear hx215_1
 try clear hx215_2
 try clear p215
 try clear q215
 obtain ⟨x5_1, x6_1, x8_1, x217001_1, u217001, rfl, HA, HK1, HO_4, HO_5, HO_6, HO_217001, BK205, BK216, HB⟩ := hrel
 cases gk with
 | zero => exact absurd HA.out (by simp [spec_l04Merge.l0])
 | succ k1 => ?_
 have H := HA.out
 clear HA
 simp only [spec_l04Merge.l0] at H
 by_cases c13 : 0 < (l0.length : Int)
 rotate_left
 ·rw [if_neg c13] at H
  exact absurd H (by simp)
 rw [if_pos c13] at H
 have c13b0 : decide (0 < (l0.length : Int)) = true := decide_eq_true c13
 have c13b1 : decide (0 < l0.length) = true := decide_eq_true (by omega)
 clear c13
 by_cases c14 : x8_1 < (((rd_T31 l0 0).f1).length : Int)
 rotate_left
 ·rw [if_neg c14] at H
  have c14b0 : decide (x8_1 < (((rd_T31 l0 0).f1).length : Int)) = false := decide_eq_false c14
  clear c14
  have H' := Aside0.mk H
  clear H
  have p217 : 0 ≤ (0 : Int) := (by omega)
  have q217 : 0 < (l0.length : Int) := of_decide_eq_true (by first | (with_reducible assumption) | assumption)
  obtain ⟨ad217, A217_1, c217_1, A217_2, c217_2, e217, hx217_0, hx217_1, hx217_2, hl217_1, hi217_1, hl217_2, hi217_2⟩ := at_T31 HR0.out 0 p217 q217
  obtain rfl : adp0 = ad217 := (by injection e217)
  have qi217 : (0 < l0.length) = True := eq_true (by omega)
  (try rw [show ((0 : Int)).toNat = 0 from rfl] at hx217_0)
  (try rw [show 0 * 3 = 0 from rfl] at hx217_0)
  (try rw [Addr.add_zero'] at hx217_0)
  (try rw [show ((0 : Int)).toNat = 0 from rfl] at hx217_1)
  (try rw [show 0 * 3 = 0 from rfl] at hx217_1)
  (try rw [Addr.add_zero'] at hx217_1)
  (try rw [show ((0 : Int)).toNat = 0 from rfl] at hx217_2)
  (try rw [show 0 * 3 = 0 from rfl] at hx217_2)
  (try rw [Addr.add_zero'] at hx217_2)
  replace hx217_0 := zc HB hx217_0
  replace hx217_1 := zc HB hx217_1
  replace hx217_2 := zc HB hx217_2
  have HR217_1 := Aside0.mk hi217_1
  have HC217_1 := Aside0.mk hl217_1
  clear hi217_1 hl217_1
  have HR217_2 := Aside0.mk hi217_2
  have HC217_2 := Aside0.mk hl217_2
  clear hi217_2 hl217_2
  replace p217 := eq_true p217
  replace q217 := eq_true q217
  go_wp2
  go_loopg [11] k1 (fun kq v11 w' => ∃ (x11_2 : Int) (x217002_2 : List Int) (u217002 : Value), v11 = .int .i64 x11_2 ∧ Aside0 (spec_l04Merge.l2 kq l0 x5_1 x11_2 ((rd_T31 l0 0).f0) x217001_1 x217002_2 = some (r1, r2, r3, r4)) ∧ Aside0 (kq ≤ k1) ∧ Aside0 (Kd.R (Kd.int .i64) 2 w' w.heap.size (fun _ => True) u5 x5_1) ∧ Aside0 (Kd.R k81 81 w' w.heap.size (fun _ => True) u217001 x217001_1) ∧ Aside0 (Kd.R (Kd.int .i16) 79 w' w.heap.size (fun _ => True) u217002 x217002_2) ∧ Aside0 (w'.heap[gb205]? = some (.cells #[.int .i8 0, (.slice none 0 0), (.slice none 0 0)] 31 (0, 0))) ∧ Aside0 (w'.heap[gb216]? = some (.cells #[.int .i8 ((rd_T31 l0 0).f0), u217001, u217002] 31 (0, 0))) ∧ Aside0 (Below w.heap.size w w'))
  case atStart => exact ⟨(0), (([] : List Int)), (.slice none 0 0), (by first | rfl | (simp; done) | (simp [*]; done) | (exact congrArg (Value.int .i64) (wrap_eq (by omega)))), H', ⟨Nat.le_refl _⟩, ze HO_5, ze HO_217001, ⟨by first | exact Kd.R_nil _ _ _ _ _ | exact Kd.N_nil _ _ _ _ _ | exact Kd.V_nil _ _ _ _ _ | exact Kd.Q_nil _ _ _ _ _ | exact Kd.S_nil _ _ _ _ _⟩, zh BK205, zh BK216, zba⟩
  clear H'
  try clear c1
  try clear c2
  try clear p2
  try clear q2
  try clear hx2
  try clear qi2
  try clear c3
  try clear c3b0
  try clear c3b1
  try clear c4
  try clear c5
  try clear c6
  try clear p6
  try clear c7
  try clear c9
  try clear c11
  try clear c12
  try clear c13
  try clear c13b0
  try clear c13b1
  try clear c14
  try clear c14b0
  try clear c16
  try clear c16b0
  try clear c17
  try clear c17b0
  try clear c18
  try clear c18b0
  try clear c19
  try clear c19b0
  try clear c20
  try clear c20b0
  try clear c20b1
  try clear c21
  try clear p21
  try clear q21
  try clear hx21
  try clear qi21
  try clear c22
  try clear p22
  try clear q22
  try clear hx22
  try clear qi22
  try clear p23
  try clear q23
  try clear hx23
  try clear c29
  try clear c29b0
  try clear c29b1
  try clear c30
  try clear c30b0
  try clear c30b1
  try clear c31
  try clear c31b0
  try clear c32
  try clear c32b0
  try clear c33
  try clear c33b0
  try clear c34
  try clear c34b0
  try clear c35
  try clear c35b0
  try clear c36
  try clear c36b0
  try clear c37
  try clear c37b0
  try clear c38
  try clear c38b0
  try clear c39
  try clear c40
  try clear c41
  try clear c44
  try clear c45
  try clear c50
  try clear c57
  try clear c57b0
  try clear c58
  try clear c59
  try clear c60
  try clear c63
  try clear c64
  try clear p64
  try clear c68
  try clear c75
  try clear z12_0 z12_1 z12_2
  try clear z46_0 z46_1 z46_2
  try clear z51_0 z51_1 z51_2
  try clear z52_0 z52_1 z52_2
  try clear z55_0 z55_1 z55_2
  try clear z65_0 z65_1 z65_2
  try clear z69_0 z69_1 z69_2
  try clear z70_0 z70_1 z70_2
  try clear z73_0 z73_1 z73_2
  try clear y12_0
  try clear y12_1
  try clear y12_2
  try clear y46_0
  try clear y46_1
  try clear y46_2
  try clear y51_0
  try clear y51_1
  try clear y51_2
  try clear y52_0
  try clear y52_1
  try clear y52_2
  try clear y55_0
  try clear y55_1
  try clear y55_2
  try clear y65_0
  try clear y65_1
  try clear y65_2
  try clear y69_0
  try clear y69_1
  try clear y69_2
  try clear y70_0
  try clear y70_1
  try clear y70_2
  try clear y73_0
  try clear y73_1
  try clear y73_2
  try clear hx215_0
  try clear hx215_1
  try clear hx215_2
  try clear hx217_0
  try clear hx217_1
  try clear hx217_2
  try clear hx218_0
  try clear hx219_0
  try clear hx220_0
  try clear hx220_1
  try clear hx220_2
  try clear hx221_0
  try clear hx221_1
  try clear hx221_2
  try clear hx223_0
  try clear hx224_0
  try clear hx225_0
  try clear hx235_0
  try clear p2
  try clear p21
  try clear p215
  try clear p217
  try clear p218
  try clear p219
  try clear p220
  try clear p221
  try clear p223
  try clear p224
  try clear p225
  try clear p235
  try clear p6
  try clear q2
  try clear q21
  try clear q215
  try clear q217
  try clear q218
  try clear q219
  try clear q220
  try clear q221
  try clear q223
  try clear q224
  try clear q225
  try clear q235
  obtain ⟨x11_2, x217002_2, u217002, rfl, HA, HK2, HO_5, HO_217001, HO_217002, BK205, BK216, HB⟩ := hrel
  cases gk with
  | zero => exact absurd HA.out (by simp [spec_l04Merge.l2])
  | succ k2 => ?_
  have H := HA.out
  clear HA
  simp only [spec_l04Merge.l2] at H
  by_cases c78 : 0 < (l0.length : Int)
  rotate_left
  ·rw [if_neg c78] at H
   exact absurd H (by simp)
  rw [if_pos c78] at H
  have c78b0 : decide (0 < (l0.length : Int)) = true := decide_eq_true c78
  have c78b1 : decide (0 < l0.length) = true := decide_eq_true (by omega)
  clear c78
  by_cases c79 : x11_2 < (((rd_T31 l0 0).f2).length : Int)
  rotate_left
  ·rw [if_neg c79] at H
   have c79b0 : decide (x11_2 < (((rd_T31 l0 0).f2).length : Int)) = false := decide_eq_false c79
   clear c79
   simp only [Option.some.injEq, Prod.mk.injEq] at H
   obtain ⟨rfl, rfl, rfl, rfl⟩ := H
   have p248 : 0 ≤ (0 : Int) := (by omega)
   have q248 : 0 < (l0.length : Int) := of_decide_eq_true (by first | (with_reducible assumption) | assumption)
   obtain ⟨ad248, A248_1, c248_1, A248_2, c248_2, e248, hx248_0, hx248_1, hx248_2, hl248_1, hi248_1, hl248_2, hi248_2⟩ := at_T31 HR0.out 0 p248 q248
   obtain rfl : adp0 = ad248 := (by injection e248)
   have qi248 : (0 < l0.length) = True := eq_true (by omega)
   (try rw [show ((0 : Int)).toNat = 0 from rfl] at hx248_0)
   (try rw [show 0 * 3 = 0 from rfl] at hx248_0)
   (try rw [Addr.add_zero'] at hx248_0)
   (try rw [show ((0 : Int)).toNat = 0 from rfl] at hx248_1)
   (try rw [show 0 * 3 = 0 from rfl] at hx248_1)
   (try rw [Addr.add_zero'] at hx248_1)
   (try rw [show ((0 : Int)).toNat = 0 from rfl] at hx248_2)
   (try rw [show 0 * 3 = 0 from rfl] at hx248_2)
   (try rw [Addr.add_zero'] at hx248_2)
   replace hx248_0 := zc HB hx248_0
   replace hx248_1 := zc HB hx248_1
   replace hx248_2 := zc HB hx248_2
   have HR248_1 := Aside0.mk hi248_1
   have HC248_1 := Aside0.mk hl248_1
   clear hi248_1 hl248_1
   have HR248_2 := Aside0.mk hi248_2
   have HC248_2 := Aside0.mk hl248_2
   clear hi248_2 hl248_2
   replace p248 := eq_true p248
   replace q248 := eq_true q248
   have hnb89 := NB216_205.out
   have hnc89 := NB205_216.out
   obtain ⟨z90_0, z90_1, z90_2, y90_0, y90_1, y90_2⟩ := zB3 BK216
   obtain ⟨z91_0, z91_1, z91_2, y91_0, y91_1, y91_2⟩ := zB3 BK205
   obtain ⟨Ao92, co92, eo92⟩ := Kd.R_slice HO_217001.out
   subst eo92
   obtain ⟨Ao93, co93, eo93⟩ := Kd.R_slice HO_217002.out
   subst eo93
   go_wp2
   refine bodyPost_ret (results_ct rfl _ _ gb205 31 #[.int .i8 ((rd_T31 l0 0).f0), .slice Ao92 x217001_1.length co92, .slice Ao93 x217002_2.length co93] (0, 0) _ rfl (by (with_reducible repeat (first | refine blk_drewN ?_ _ | refine blk_drew ?_ | refine blk_alloc ?_ _)); refine blk_put (cs := #[.int .i8 ((rd_T31 l0 0).f0), .slice Ao92 x217001_1.length co92, .slice none 0 0]) ?_ 2 _ rfl; (with_reducible repeat (first | refine blk_drewN ?_ _ | refine blk_drew ?_ | refine blk_alloc ?_ _)); refine blk_put (cs := #[.int .i8 ((rd_T31 l0 0).f0), .slice none 0 0, .slice none 0 0]) ?_ 1 _ rfl; (with_reducible repeat (first | refine blk_drewN ?_ _ | refine blk_drew ?_ | refine blk_alloc ?_ _)); refine blk_put (cs := #[.int .i8 0, .slice none 0 0, .slice none 0 0]) ?_ 0 _ rfl; (with_reducible repeat (first | refine blk_drewN ?_ _ | refine blk_drew ?_ | refine blk_alloc ?_ _)); exact BK205.out) Try.underlying31 rfl (by kernel_rfl)) rfl ?_
   exact ⟨_, _, _, by first | rfl | (simp [errW_none, errW_some] <;> rfl) | (simp [*, errW_none, errW_some] <;> rfl), by (with_reducible repeat (first | apply Kd.R_alloc | apply Kd.R_drewN | apply Kd.R_drew)); exact Kd.R_mono (Kd.R_far (p := ⟨gb205, 2, none⟩) (Kd.R_far (p := ⟨gb205, 1, none⟩) (Kd.R_far (p := ⟨gb205, 0, none⟩) (Kd.R_types HO_217001.out BK205.out (by decide)) (fun _ hk => hk.2) (.int .i8 ((rd_T31 l0 0).f0))) (fun _ hk => hk.2) (.slice Ao92 x217001_1.length co92)) (fun _ hk => hk.2) (.slice Ao93 x217002_2.length co93)) (fun _ hk => trivial), by (with_reducible repeat (first | apply Kd.R_alloc | apply Kd.R_drewN | apply Kd.R_drew)); exact Kd.R_mono (Kd.R_far (p := ⟨gb205, 2, none⟩) (Kd.R_far (p := ⟨gb205, 1, none⟩) (Kd.R_far (p := ⟨gb205, 0, none⟩) (Kd.R_types HO_217002.out BK205.out (by decide)) (fun _ hk => hk.2) (.int .i8 ((rd_T31 l0 0).f0))) (fun _ hk => hk.2) (.slice Ao92 x217001_1.length co92)) (fun _ hk => hk.2) (.slice Ao93 x217002_2.length co93)) (fun _ hk => trivial), by (with_reducible repeat (first | apply Kd.R_alloc | apply Kd.R_drewN | apply Kd.R_drew)); exact Kd.R_mono (Kd.R_far (p := ⟨gb205, 2, none⟩) (Kd.R_far (p := ⟨gb205, 1, none⟩) (Kd.R_far (p := ⟨gb205, 0, none⟩) (Kd.R_types HO_5.out BK205.out (by decide)) (fun _ hk => hk.2) (.int .i8 ((rd_T31 l0 0).f0))) (fun _ hk => hk.2) (.slice Ao92 x217001_1.length co92)) (fun _ hk => hk.2) (.slice Ao93 x217002_2.length co93)) (fun _ hk => trivial), by repeat (first | (with_reducible first | exact HB.out | apply below_alloc | apply pw_below_drewN | apply below_drew1 | refine below_set ?_ GE205.out | refine below_set ?_ GE216.out) | exact HB.out)⟩
  rw [if_pos c79] at H
  have c79b0 : decide (x11_2 < (((rd_T31 l0 0).f2).length : Int)) = true := decide_eq_true c79
  clear c79
  by_cases c80 : 0 ≤ x11_2
  rotate_left
  ·rw [if_neg c80] at H
   exact absurd H (by simp)
  rw [if_pos c80] at H
  have c80b0 : decide (0 ≤ x11_2) = true := decide_eq_true c80
  clear c80
  by_cases c81 : 0 ≤ (rd ((rd_T31 l0 0).f2) x11_2)
  rotate_left
  ·rw [if_neg c81] at H
   exact absurd H (by simp)
  rw [if_pos c81] at H
  have c81b0 : decide (0 ≤ (rd ((rd_T31 l0 0).f2) x11_2)) = true := decide_eq_true c81
  clear c81
  by_cases c82 : (rd ((rd_T31 l0 0).f2) x11_2) < (x5_1.length : Int)
  rotate_left
  ·rw [if_neg c82] at H
   exact absurd H (by simp)
  rw [if_pos c82] at H
  have c82b0 : decide ((rd ((rd_T31 l0 0).f2) x11_2) < (x5_1.length : Int)) = true := decide_eq_true c82
  clear c82
  by_cases c83 : x217002_2.length < 70368744177664
  rotate_left
  ·rw [if_neg c83] at H
   exact absurd H (by simp)
  rw [if_pos c83] at H
  have LMc83 := Aside0.mk c83
  clear c83
  obtain ⟨y252, hy252⟩ : ∃ y_ : List Int, y_ = (x217002_2 ++ [IntKind.i16.wrap (rd x5_1 (rd ((rd_T31 l0 0).f2) x11_2))]) := ⟨_, rfl⟩
  replace H : (spec_l04Merge.l2 k2 l0 x5_1 (wrap64 (x11_2 + 1)) ((rd_T31 l0 0).f0) x217001_1 y252) = some (r1, r2, r3, r4) := by first | (rw [hy252]; with_reducible exact H) | (have H2_ := (Option.bind_some _ _).symm.trans H; rw [hy252]; with_reducible exact H2_) | (have H2_ := (Option.bind_some _ _).symm.trans H; with_reducible exact H2_) | with_reducible exact H | (rw [hy252]; exact H) | exact H
  have Ny252 := Aside0.mk hy252
  clear hy252
  have H' := Aside0.mk H
  clear H
  have p248 : 0 ≤ (0 : Int) := (by omega)
  have q248 : 0 < (l0.length : Int) := of_decide_eq_true (by first | (with_reducible assumption) | assumption)
  obtain ⟨ad248, A248_1, c248_1, A248_2, c248_2, e248, hx248_0, hx248_1, hx248_2, hl248_1, hi248_1, hl248_2, hi248_2⟩ := at_T31 HR0.out 0 p248 q248
  obtain rfl : adp0 = ad248 := (by injection e248)
  have qi248 : (0 < l0.length) = True := eq_true (by omega)
  (try rw [show ((0 : Int)).toNat = 0 from rfl] at hx248_0)
  (try rw [show 0 * 3 = 0 from rfl] at hx248_0)
  (try rw [Addr.add_zero'] at hx248_0)
  (try rw [show ((0 : Int)).toNat = 0 from rfl] at hx248_1)
  (try rw [show 0 * 3 = 0 from rfl] at hx248_1)
  (try rw [Addr.add_zero'] at hx248_1)
  (try rw [show ((0 : Int)).toNat = 0 from rfl] at hx248_2)
  (try rw [show 0 * 3 = 0 from rfl] at hx248_2)
  (try rw [Addr.add_zero'] at hx248_2)
  replace hx248_0 := zc HB hx248_0
  replace hx248_1 := zc HB hx248_1
  replace hx248_2 := zc HB hx248_2
  have HR248_1 := Aside0.mk hi248_1
  have HC248_1 := Aside0.mk hl248_1
  clear hi248_1 hl248_1
  have HR248_2 := Aside0.mk hi248_2
  have HC248_2 := Aside0.mk hl248_2
  clear hi248_2 hl248_2
  replace p248 := eq_true p248
  replace q248 := eq_true q248
  try go_wp2
  have n0_ := Aside0.mk (Kd.R_drew HO_5.out)
  have n1_ := Aside0.mk (Kd.R_drew HO_217001.out)
  have n2_ := Aside0.mk (Kd.R_drew HO_217002.out)
  have n3_ := Aside0.mk (blk_drew BK205.out)
  have n4_ := Aside0.mk (blk_drew BK216.out)
  have n5_ := Aside0.mk (below_drew1 HB.out)
  clear HO_5
  clear HO_217001
  clear HO_217002
  clear BK205
  clear BK216
  clear HB
  have HO_5 := n0_
  have HO_217001 := n1_
  have HO_217002 := n2_
  have BK205 := n3_
  have BK216 := n4_
  have HB := n5_
  clear n0_ n1_ n2_ n3_ n4_ n5_
  have p249 : 0 ≤ (0 : Int) := (by omega)
  have q249 : 0 < (l0.length : Int) := of_decide_eq_true (by first | (with_reducible assumption) | assumption)
  obtain ⟨ad249, A249_1, c249_1, A249_2, c249_2, e249, hx249_0, hx249_1, hx249_2, hl249_1, hi249_1, hl249_2, hi249_2⟩ := at_T31 HR0.out 0 p249 q249
  have hw249_2 := hx249_2
  (try rw [show ((0 : Int)).toNat = 0 from rfl] at hw249_2)
  (try rw [show 0 * 3 = 0 from rfl] at hw249_2)
  (try rw [Addr.add_zero'] at hw249_2)
  have hw249_1 := hx249_1
  (try rw [show ((0 : Int)).toNat = 0 from rfl] at hw249_1)
  (try rw [show 0 * 3 = 0 from rfl] at hw249_1)
  (try rw [Addr.add_zero'] at hw249_1)
  have hw249_0 := hx249_0
  (try rw [show ((0 : Int)).toNat = 0 from rfl] at hw249_0)
  (try rw [show 0 * 3 = 0 from rfl] at hw249_0)
  (try rw [Addr.add_zero'] at hw249_0)
  obtain rfl : adp0 = ad249 := (by injection e249)
  have qi249 : (0 < l0.length) = True := eq_true (by omega)
  (try rw [show ((0 : Int)).toNat = 0 from rfl] at hx249_0)
  (try rw [show 0 * 3 = 0 from rfl] at hx249_0)
  (try rw [Addr.add_zero'] at hx249_0)
  (try rw [show ((0 : Int)).toNat = 0 from rfl] at hx249_1)
  (try rw [show 0 * 3 = 0 from rfl] at hx249_1)
  (try rw [Addr.add_zero'] at hx249_1)
  (try rw [show ((0 : Int)).toNat = 0 from rfl] at hx249_2)
  (try rw [show 0 * 3 = 0 from rfl] at hx249_2)
  (try rw [Addr.add_zero'] at hx249_2)
  replace hx249_0 := zc HB hx249_0
  replace hx249_1 := zc HB hx249_1
  replace hx249_2 := zc HB hx249_2
  have HR249_1 := Aside0.mk hi249_1
  have HC249_1 := Aside0.mk hl249_1
  clear hi249_1 hl249_1
  have HR249_2 := Aside0.mk hi249_2
  have HC249_2 := Aside0.mk hl249_2
  clear hi249_2 hl249_2
  replace p249 := eq_true p249
  replace q249 := eq_true q249
  have p250 : 0 ≤ (x11_2 : Int) := of_decide_eq_true (by first | (with_reducible assumption) | assumption)
  have q250 : x11_2 < (((rd_T31 l0 0).f2).length : Int) := of_decide_eq_true (by first | (with_reducible assumption) | assumption)
  obtain ⟨ad250, e250, hx250_0⟩ := Kd.at_int HR249_2.out x11_2 p250 q250
  have hw250_0 := hx250_0
  cases e250
  replace hx250_0 := zc HB hx250_0
  replace p250 := eq_true p250
  replace q250 := eq_true q250
  obtain ⟨Ao85, co85, eo85⟩ := Kd.R_slice HO_5.out
  (first | subst eo85 | (injection eo85 with f1_ f2_ f3_; have f4_ := f1_.symm; have f5_ := f3_.symm; clear f1_ f2_ f3_; subst f4_; subst f5_))
  have p251 : 0 ≤ ((rd ((rd_T31 l0 0).f2) x11_2) : Int) := of_decide_eq_true (by first | (with_reducible assumption) | assumption)
  have q251 : (rd ((rd_T31 l0 0).f2) x11_2) < (x5_1.length : Int) := of_decide_eq_true (by first | (with_reducible assumption) | assumption)
  obtain ⟨ad251, e251, hx251_0⟩ := Kd.at_int (Kd.R_reads' HO_5.out).2.2 (rd ((rd_T31 l0 0).f2) x11_2) p251 q251
  cases e251
  replace p251 := eq_true p251
  replace q251 := eq_true q251
  refine start_ (n := 17) (S := fun w' => w'.cell? ⟨gb216, 0, none⟩ = some (.int .i8 ((rd_T31 l0 0).f0)) ∧ w'.cell? ⟨gb216, 1, none⟩ = some (u217001) ∧ w'.cell? ⟨gb216, 2, none⟩ = some (u217002) ∧ w'.cell? adp0 = some (.int .i8 ((rd_T31 l0 0).f0)) ∧ w'.cell? ⟨adp0.block, adp0.off + 1, none⟩ = some (.slice A249_1 ((rd_T31 l0 0).f1).length c249_1) ∧ w'.cell? ⟨adp0.block, adp0.off + 2, none⟩ = some (.slice (some ad250) ((rd_T31 l0 0).f2).length c249_2) ∧ w'.cell? (ad250.add (x11_2).toNat) = some (.int .i16 (rd ((rd_T31 l0 0).f2) x11_2)) ∧ w'.cell? (ad251.add ((rd ((rd_T31 l0 0).f2) x11_2)).toNat) = some (.int .i64 (rd x5_1 (rd ((rd_T31 l0 0).f2) x11_2)))) (ds := [14, 16]) (zq 17 0) (by kernel_rfl) rfl rfl ⟨(blk_cell BK216.out 0).trans rfl, (blk_cell BK216.out 1).trans rfl, (blk_cell BK216.out 2).trans rfl, (zc HB hw249_0), (zc HB hw249_1), (zc HB hw249_2), (zc HB hw250_0), hx251_0⟩ (fun hHeld => ?_); refine with_tabW spec_l04Merge.tab22 spec_l04Merge.bits22 (fun HT_ HW_ => ?_)
  generalize wr.drew = w84 at HO_5 HO_217001 HO_217002 BK205 BK216 HB HR249_1 HR249_2 hx249_0 hx249_1 hx249_2 hx250_0 hx251_0 hHeld ⊢
  refine zpu 0 (some 101) (zq 17 1) HT_ ?_
  refine zpu 2 (some 103) (zq 17 5) HT_ ?_
  refine zpu 3 (some 104) (zq 17 13) HT_ ?_
  refine zpu 4 (some 105) (zq 17 29) HT_ ?_
  refine zpu 5 (some 106) (zq 17 61) HT_ ?_
  refine zpu 7 (some 108) (zq 17 189) HT_ ?_
  refine ztk 1 (some 102) (zq 17 191) HT_ HW_ rfl hHeld (Or.inl ⟨by rfl, by (rintro w' ⟨s0, s1, s2, s3, s4, s5, s6, s7⟩; go_simp; with_reducible rfl)⟩) ?_
  refine ztk 6 (some 107) (zq 17 255) HT_ HW_ rfl hHeld (Or.inl ⟨by rfl, by (rintro w' ⟨s0, s1, s2, s3, s4, s5, s6, s7⟩; go_simp; with_reducible rfl)⟩) ?_
  refine zpu 8 (some 109) (zq 17 511) HT_ ?_
  refine ztk 9 (some 110) (zq 17 1023) HT_ HW_ rfl hHeld (Or.inl ⟨by rfl, by (rintro w' ⟨s0, s1, s2, s3, s4, s5, s6, s7⟩; go_simp; with_reducible rfl)⟩) ?_
  refine zpu 10 (some 111) (zq 17 2047) HT_ ?_
  refine ztk 11 (some 112) (zq 17 4095) HT_ HW_ rfl hHeld (Or.inl ⟨by rfl, by (rintro w' ⟨s0, s1, s2, s3, s4, s5, s6, s7⟩; go_simp; with_reducible rfl)⟩) ?_
  refine zpu 12 (some 113) (zq 17 8191) HT_ ?_
  refine one_ (i := 13) (N := some 114) (zq 17 16383) rfl rfl (one_of HT_.out (by kernel_rfl)) (by decide) (fun K hK => ?_)
  refine value_ (w1 := ?_) (v := ?_) (by rfl) rfl ?_ ?_
  rotate_left 2
  ·go_simp
   constructor
   rotate_left
   ·rfl
   rfl
  refine hK.out _ _ ⟨(blk_cell (blk_alloc BK216.out _) 0).trans rfl, (blk_cell (blk_alloc BK216.out _) 1).trans rfl, (blk_cell (blk_alloc BK216.out _) 2).trans rfl, (World.cell?_alloc_lt _ _ _ (World.block_lt_of_cell? _ _ ((zc HB hw249_0)))).trans ((zc HB hw249_0)), (World.cell?_alloc_lt _ _ _ (World.block_lt_of_cell? _ _ ((zc HB hw249_1)))).trans ((zc HB hw249_1)), (World.cell?_alloc_lt _ _ _ (World.block_lt_of_cell? _ _ ((zc HB hw249_2)))).trans ((zc HB hw249_2)), (World.cell?_alloc_lt _ _ _ (World.block_lt_of_cell? _ _ ((zc HB hw250_0)))).trans ((zc HB hw250_0)), (World.cell?_alloc_lt _ _ _ (World.block_lt_of_cell? _ _ (hHeld.2.2.2.2.2.2.2))).trans (hHeld.2.2.2.2.2.2.2)⟩ (fun hHeld => ?_)
  clear hK K
  refine norm_ (a' := ?_) ?_ ?_
  rotate_left
  ·show Act.put _ (some 114) _ = _
   simp only [Act.put, List.setIfInBounds_toArray, List.set_cons_zero, List.set_cons_succ, i64_w, i32_w]
   rfl
  refine last_ (i := 14) (N := some 115) (zq 17 32767) rfl rfl (one_of HT_.out (by kernel_rfl)) (by decide) (fun K hK => ?_)
  refine Kd.R_append_step (Kd.int .i16) (w0 := w) w.heap.size (by rfl) (.tmp 102) (.tmp 114) 24 79 (.int .i16 0) 2 rfl Try.underlying24 info79 rfl (by decide) (by omega) u217002 x217002_2 (IntKind.i16.wrap (rd x5_1 (rd ((rd_T31 l0 0).f2) x11_2))) [.int .i16 (IntKind.i16.wrap (rd x5_1 (rd ((rd_T31 l0 0).f2) x11_2)))] (fun _ => True) (fun _ => False) rfl rfl ?aP (fun _ hk => hk.elim) ?aF ?aO ?aB ?aS ?aL ?_
  (case aP => exact rfl)
  (case aB => exact (by repeat (first | (with_reducible first | exact HB.out | apply below_alloc | apply pw_below_drewN | apply below_drew1 | refine below_set ?_ GE205.out | refine below_set ?_ GE216.out) | exact HB.out)))
  (case aF => exact (fun _ _ => trivial))
  (case aO => exact (ze HO_217002).out)
  (case aS => exact (zz HB))
  (case aL => have := LMc83.out; omega)
  intro v253 w86 ho hb hg hat
  rw [← Ny252.out] at ho
  have n0_ := Aside0.mk (Kd.R_over' (ze HO_5).out (Kd.R_typed (ze HO_217002).out) (by decide) hg)
  have n1_ := Aside0.mk (Kd.R_over' (ze HO_217001).out (Kd.R_typed (ze HO_217002).out) (by decide) hg)
  have n2_ := Aside0.mk (blk_grown (g := gb205) (o := .cells #[.int .i8 0, .slice none 0 0, .slice none 0 0] 31 (0, 0)) (zh BK205).out hg (Kd.R_ne HO_217002.out BK205.out (by decide)))
  have n3_ := Aside0.mk (blk_grown (g := gb216) (o := .cells #[.int .i8 ((rd_T31 l0 0).f0), u217001, u217002] 31 (0, 0)) (zh BK216).out hg (Kd.R_ne HO_217002.out BK216.out (by decide)))
  have n4_ := Aside0.mk (hb)
  have n5_ := Aside0.mk (ho)
  clear HO_5
  clear HO_217001
  clear BK205
  clear BK216
  clear HB
  clear HO_217002
  have HO_5 := n0_
  have HO_217001 := n1_
  have BK205 := n2_
  have BK216 := n3_
  have HB := n4_
  have HO254 := n5_
  clear n0_ n1_ n2_ n3_ n4_ n5_
  clear ho hb hg hat
  obtain ⟨Ao87, co87, eo87⟩ := Kd.R_slice HO254.out
  (first | subst eo87 | (injection eo87 with f1_ f2_ f3_; have f4_ := f1_.symm; have f5_ := f3_.symm; clear f1_ f2_ f3_; subst f4_; subst f5_))
  refine hK.out _ _ ?_
  clear hK K
  refine norm_ (a' := ?_) ?_ ?_
  rotate_left
  ·show Act.put _ (some 115) _ = _
   simp only [Act.put, List.setIfInBounds_toArray, List.set_cons_zero, List.set_cons_succ, i64_w, i32_w]
   rfl
  refine zpu 15 (some 116) (zq 17 65535) HT_ ?_
  refine last_ (i := 16) (N := none) (zq 17 131071) rfl rfl (one_of HT_.out (by kernel_rfl)) (by decide) (fun K hK => ?_)
  have hs88 : w86.cell? ⟨gb216, 2, none⟩ = some (u217002) := (blk_cell BK216.out 2).trans rfl
  have hfs88 := blk_frozen BK216.out 2
  have hns88_0 := NB205_216.out
  have hms88_0 := NB216_205.out
  refine skip_ (w1 := ?_) (by rfl) rfl ?_ ?_
  rotate_left
  ·go_simp
   rfl
  refine hK.out _ _ ?_
  clear hK K
  refine done_ (done_of HT_.out (by kernel_rfl)) ?_
  try go_wp2
  go_roundg k2
  case measure => have := HK1.out; have := HK2.out; omega
  case rel => exact ⟨(wrap64 (x11_2 + 1)), (y252), (.slice Ao87 y252.length co87), (by first | rfl | (simp; done) | (simp [*]; done) | (exact congrArg (Value.int .i64) (wrap_eq (by omega)))), H', ⟨by have := HK1.out; have := HK2.out; omega⟩, ⟨by (with_reducible repeat (first | apply Kd.R_alloc | apply Kd.R_drewN | apply Kd.R_drew)); exact Kd.R_mono (Kd.R_far (p := ⟨gb216, 2, none⟩) (Kd.R_types HO_5.out BK216.out (by decide)) (fun _ hk => hk.2) (.slice Ao87 y252.length co87)) (fun _ hk => trivial)⟩, ⟨by (with_reducible repeat (first | apply Kd.R_alloc | apply Kd.R_drewN | apply Kd.R_drew)); exact Kd.R_mono (Kd.R_far (p := ⟨gb216, 2, none⟩) (Kd.R_types HO_217001.out BK216.out (by decide)) (fun _ hk => hk.2) (.slice Ao87 y252.length co87)) (fun _ hk => trivial)⟩, ⟨by (with_reducible repeat (first | apply Kd.R_alloc | apply Kd.R_drewN | apply Kd.R_drew)); exact Kd.R_mono (Kd.R_far (p := ⟨gb216, 2, none⟩) (Kd.R_types HO254.out BK216.out (by decide)) (fun _ hk => hk.2) (.slice Ao87 y252.length co87)) (fun _ hk => trivial)⟩, zf BK205 NB205_216, ⟨by (with_reducible repeat (first | refine blk_drewN ?_ _ | refine blk_drew ?_ | refine blk_alloc ?_ _)); refine blk_put (cs := #[.int .i8 ((rd_T31 l0 0).f0), u217001, u217002]) ?_ 2 _ rfl; (with_reducible repeat (first | refine blk_drewN ?_ _ | refine blk_drew ?_ | refine blk_alloc ?_ _)); exact BK216.out⟩, zba⟩
 rw [if_pos c14] at H
 have c14b0 : decide (x8_1 < (((rd_T31 l0 0).f1).length : Int)) = true := decide_eq_true c14
 clear c14
 have HC15 := Aside0.mk H
 clear H
 have p217 : 0 ≤ (0 : Int) := (by omega)
 have q217 : 0 < (l0.length : Int) := of_decide_eq_true (by first | (with_reducible assumption) | assumption)
 obtain ⟨ad217, A217_1, c217_1, A217_2, c217_2, e217, hx217_0, hx217_1, hx217_2, hl217_1, hi217_1, hl217_2, hi217_2⟩ := at_T31 HR0.out 0 p217 q217
 obtain rfl : adp0 = ad217 := (by injection e217)
 have qi217 : (0 < l0.length) = True := eq_true (by omega)
 (try rw [show ((0 : Int)).toNat = 0 from rfl] at hx217_0)
 (try rw [show 0 * 3 = 0 from rfl] at hx217_0)
 (try rw [Addr.add_zero'] at hx217_0)
 (try rw [show ((0 : Int)).toNat = 0 from rfl] at hx217_1)
 (try rw [show 0 * 3 = 0 from rfl] at hx217_1)
 (try rw [Addr.add_zero'] at hx217_1)
 (try rw [show ((0 : Int)).toNat = 0 from rfl] at hx217_2)
 (try rw [show 0 * 3 = 0 from rfl] at hx217_2)
 (try rw [Addr.add_zero'] at hx217_2)
 replace hx217_0 := zc HB hx217_0
 replace hx217_1 := zc HB hx217_1
 replace hx217_2 := zc HB hx217_2
 have HR217_1 := Aside0.mk hi217_1
 have HC217_1 := Aside0.mk hl217_1
 clear hi217_1 hl217_1
 have HR217_2 := Aside0.mk hi217_2
 have HC217_2 := Aside0.mk hl217_2
 clear hi217_2 hl217_2
 replace p217 := eq_true p217
 replace q217 := eq_true q217
 go_upto_block 2 with (fail)
 go_cut [9] (fun v9 wc => ∃ (kq : Nat) (x9_14 : Int), v9 = .int .i64 x9_14 ∧ Aside0 (spec_l04Merge.j2 kq l0 t206 x5_1 x6_1 x8_1 x9_14 ((rd_T31 l0 0).f0) x217001_1 = some (r1, r2, r3, r4)) ∧ Aside0 (kq ≤ k1) ∧ Aside0 (Kd.R (Kd.int .u64) 98 wc w.heap.size (fun k_ => some k_ ≠ (u6 : Value).ownBlock) v207 t206) ∧ Aside0 (Kd.R (Kd.int .i64) 2 wc w.heap.size (fun _ => True) u5 x5_1) ∧ Aside0 (Kd.R (Kd.int .u64) 98 wc w.heap.size (fun k_ => some k_ ≠ (v207 : Value).ownBlock) u6 x6_1) ∧ Aside0 (Kd.R k81 81 wc w.heap.size (fun _ => True) u217001 x217001_1) ∧ Aside0 (wc.heap[gb205]? = some (.cells #[.int .i8 0, (.slice none 0 0), (.slice none 0 0)] 31 (0, 0))) ∧ Aside0 (wc.heap[gb216]? = some (.cells #[.int .i8 ((rd_T31 l0 0).f0), u217001, (.slice none 0 0)] 31 (0, 0))) ∧ Aside0 (Below w.heap.size w wc))
 case first =>
  have H := HC15.out
  clear HC15
  have H' := Aside0.mk H
  clear H
  go_wp2
  go_loopg [9] k1 (fun kq v9 w' => ∃ (x9_2 : Int), v9 = .int .i64 x9_2 ∧ Aside0 (spec_l04Merge.l1 kq l0 t206 x5_1 x6_1 x8_1 x9_2 ((rd_T31 l0 0).f0) x217001_1 = some (r1, r2, r3, r4)) ∧ Aside0 (kq ≤ k1) ∧ Aside0 (Kd.R (Kd.int .u64) 98 w' w.heap.size (fun k_ => some k_ ≠ (u6 : Value).ownBlock) v207 t206) ∧ Aside0 (Kd.R (Kd.int .i64) 2 w' w.heap.size (fun _ => True) u5 x5_1) ∧ Aside0 (Kd.R (Kd.int .u64) 98 w' w.heap.size (fun k_ => some k_ ≠ (v207 : Value).ownBlock) u6 x6_1) ∧ Aside0 (Kd.R k81 81 w' w.heap.size (fun _ => True) u217001 x217001_1) ∧ Aside0 (w'.heap[gb205]? = some (.cells #[.int .i8 0, (.slice none 0 0), (.slice none 0 0)] 31 (0, 0))) ∧ Aside0 (w'.heap[gb216]? = some (.cells #[.int .i8 ((rd_T31 l0 0).f0), u217001, (.slice none 0 0)] 31 (0, 0))) ∧ Aside0 (Below w.heap.size w w'))
  case atStart => exact ⟨(0), (by first | rfl | (simp; done) | (simp [*]; done) | (exact congrArg (Value.int .i64) (wrap_eq (by omega)))), H', ⟨Nat.le_refl _⟩, ze HO_4, ze HO_5, ze HO_6, ze HO_217001, zh BK205, zh BK216, zba⟩
  clear H'
  try clear c1
  try clear c2
  try clear p2
  try clear q2
  try clear hx2
  try clear qi2
  try clear c3
  try clear c3b0
  try clear c3b1
  try clear c9
  try clear c11
  try clear c12
  try clear c13
  try clear c13b0
  try clear c13b1
  try clear c14
  try clear c14b0
  try clear z12_0 z12_1 z12_2 y12_0 y12_1 y12_2
  try clear hx215_0
  try clear hx215_1
  try clear hx215_2
  try clear hx217_0
  try clear hx217_1
  try clear hx217_2
  try clear p2
  try clear p215
  try clear p217
  try clear q2
  try clear q215
  try clear q217
  obtain ⟨x9_2, rfl, HA, HK2, HO_4, HO_5, HO_6, HO_217001, BK205, BK216, HB⟩ := hrel
  cases gk with
  | zero => exact absurd HA.out (by simp [spec_l04Merge.l1])
  | succ k2 => ?_
  have H := HA.out
  clear HA
  simp only [spec_l04Merge.l1] at H
  by_cases c16 : x9_2 < (x6_1.length : Int)
  rotate_left
  ·rw [if_neg c16] at H
   have c16b0 : decide (x9_2 < (x6_1.length : Int)) = false := decide_eq_false c16
   clear c16
   (first | rw [c16b0] | (simp only [i64_w, i32_w]; rw [c16b0]) | (have h_ := c16b0; simp only [bne] at h_; rw [h_]) | skip)
   have H' := Aside0.mk H
   clear H
   try go_wp2
   have n0_ := Aside0.mk (Kd.R_drew HO_4.out)
   have n1_ := Aside0.mk (Kd.R_drew HO_5.out)
   have n2_ := Aside0.mk (Kd.R_drew HO_6.out)
   have n3_ := Aside0.mk (Kd.R_drew HO_217001.out)
   have n4_ := Aside0.mk (blk_drew BK205.out)
   have n5_ := Aside0.mk (blk_drew BK216.out)
   have n6_ := Aside0.mk (below_drew1 HB.out)
   clear HO_4
   clear HO_5
   clear HO_6
   clear HO_217001
   clear BK205
   clear BK216
   clear HB
   have HO_4 := n0_
   have HO_5 := n1_
   have HO_6 := n2_
   have HO_217001 := n3_
   have BK205 := n4_
   have BK216 := n5_
   have HB := n6_
   clear n0_ n1_ n2_ n3_ n4_ n5_ n6_
   obtain ⟨Ao28, co28, eo28⟩ := Kd.R_slice HO_6.out
   (first | subst eo28 | (injection eo28 with f1_ f2_ f3_; have f4_ := f1_.symm; have f5_ := f3_.symm; clear f1_ f2_ f3_; subst f4_; subst f5_))
   refine start_ (n := 15) (S := fun w' => True) (ds := []) (zq 15 0) (by kernel_rfl) rfl rfl trivial (fun hHeld => ?_); refine with_tabW spec_l04Merge.tab9 spec_l04Merge.bits9 (fun HT_ HW_ => ?_)
   generalize wr.drew = w27 at HO_4 HO_5 HO_6 HO_217001 BK205 BK216 HB hHeld ⊢
   refine zpu 0 (some 30) (zq 15 1) HT_ ?_
   refine zpu 1 (some 31) (zq 15 3) HT_ ?_
   refine zpu 2 (some 32) (zq 15 7) HT_ ?_
   refine zpu 3 (some 33) (zq 15 15) HT_ ?_
   refine zpu 4 (some 34) (zq 15 31) HT_ ?_
   refine pure_ (i := 5) (N := some 35) (v := undef) (a' := ?_) (zq 15 63) rfl rfl (any_of HT_.out (by kernel_rfl)) (fun _ _ _ h => h) (Or.inr ⟨by rfl, rfl⟩) ?_ ?_
   rotate_left
   ·simp only [Act.put, List.setIfInBounds_toArray, List.set_cons_zero, List.set_cons_succ, i64_w, i32_w]
    rfl
   refine pure_ (i := 6) (N := some 36) (v := undef) (a' := ?_) (zq 15 127) rfl rfl (any_of HT_.out (by kernel_rfl)) (fun _ _ _ h => h) (Or.inr ⟨by rfl, rfl⟩) ?_ ?_
   rotate_left
   ·simp only [Act.put, List.setIfInBounds_toArray, List.set_cons_zero, List.set_cons_succ, i64_w, i32_w]
    rfl
   refine pure_ (i := 7) (N := some 37) (v := undef) (a' := ?_) (zq 15 255) rfl rfl (any_of HT_.out (by kernel_rfl)) (fun _ _ _ h => h) (Or.inr ⟨by rfl, rfl⟩) ?_ ?_
   rotate_left
   ·simp only [Act.put, List.setIfInBounds_toArray, List.set_cons_zero, List.set_cons_succ, i64_w, i32_w]
    rfl
   refine pure_ (i := 8) (N := some 38) (v := undef) (a' := ?_) (zq 15 511) rfl rfl (any_of HT_.out (by kernel_rfl)) (fun _ _ _ h => h) (Or.inr ⟨by rfl, rfl⟩) ?_ ?_
   rotate_left
   ·simp only [Act.put, List.setIfInBounds_toArray, List.set_cons_zero, List.set_cons_succ, i64_w, i32_w]
    rfl
   refine pure_ (i := 9) (N := some 39) (v := undef) (a' := ?_) (zq 15 1023) rfl rfl (any_of HT_.out (by kernel_rfl)) (fun _ _ _ h => h) (Or.inr ⟨by rfl, rfl⟩) ?_ ?_
   rotate_left
   ·simp only [Act.put, List.setIfInBounds_toArray, List.set_cons_zero, List.set_cons_succ, i64_w, i32_w]
    rfl
   refine pure_ (i := 10) (N := some 40) (v := undef) (a' := ?_) (zq 15 2047) rfl rfl (any_of HT_.out (by kernel_rfl)) (fun _ _ _ h => h) (Or.inr ⟨by rfl, rfl⟩) ?_ ?_
   rotate_left
   ·simp only [Act.put, List.setIfInBounds_toArray, List.set_cons_zero, List.set_cons_succ, i64_w, i32_w]
    rfl
   refine pure_ (i := 11) (N := some 41) (v := undef) (a' := ?_) (zq 15 4095) rfl rfl (any_of HT_.out (by kernel_rfl)) (fun _ _ _ h => h) (Or.inr ⟨by rfl, rfl⟩) ?_ ?_
   rotate_left
   ·simp only [Act.put, List.setIfInBounds_toArray, List.set_cons_zero, List.set_cons_succ, i64_w, i32_w]
    rfl
   refine pure_ (i := 12) (N := some 42) (v := undef) (a' := ?_) (zq 15 8191) rfl rfl (any_of HT_.out (by kernel_rfl)) (fun _ _ _ h => h) (Or.inr ⟨by rfl, rfl⟩) ?_ ?_
   rotate_left
   ·simp only [Act.put, List.setIfInBounds_toArray, List.set_cons_zero, List.set_cons_succ, i64_w, i32_w]
    rfl
   refine pure_ (i := 13) (N := some 43) (v := undef) (a' := ?_) (zq 15 16383) rfl rfl (any_of HT_.out (by kernel_rfl)) (fun _ _ _ h => h) (Or.inr ⟨by rfl, rfl⟩) ?_ ?_
   rotate_left
   ·simp only [Act.put, List.setIfInBounds_toArray, List.set_cons_zero, List.set_cons_succ, i64_w, i32_w]
    rfl
   refine zpu 14 (some 44) (zq 15 32767) HT_ ?_
   refine done_ (done_of HT_.out (by kernel_rfl)) ?_
   try go_wp2
   go_meet
   case rel => exact ⟨_, (x9_2), (by first | rfl | (simp; done) | (simp [*]; done) | (exact congrArg (Value.int .i64) (wrap_eq (by omega)))), H', ⟨by have := HK1.out; have := HK2.out; first | omega | exact Nat.le_refl _⟩, ze HO_4, ze HO_5, ze HO_6, ze HO_217001, zh BK205, zh BK216, zba⟩
  rw [if_pos c16] at H
  have c16b0 : decide (x9_2 < (x6_1.length : Int)) = true := decide_eq_true c16
  clear c16
  (first | rw [c16b0] | (simp only [i64_w, i32_w]; rw [c16b0]) | (have h_ := c16b0; simp only [bne] at h_; rw [h_]) | skip)
  by_cases c17 : 0 ≤ x9_2
  rotate_left
  ·rw [if_neg c17] at H
   exact absurd H (by simp)
  rw [if_pos c17] at H
  have c17b0 : decide (0 ≤ x9_2) = true := decide_eq_true c17
  clear c17
  by_cases c18 : 0 ≤ x8_1
  rotate_left
  ·rw [if_neg c18] at H
   exact absurd H (by simp)
  rw [if_pos c18] at H
  have c18b0 : decide (0 ≤ x8_1) = true := decide_eq_true c18
  clear c18
  by_cases c19 : x8_1 < (t206.length : Int)
  rotate_left
  ·rw [if_neg c19] at H
   exact absurd H (by simp)
  rw [if_pos c19] at H
  have c19b0 : decide (x8_1 < (t206.length : Int)) = true := decide_eq_true c19
  clear c19
  by_cases c20 : (rd x6_1 x9_2) = (rd t206 x8_1)
  ·rw [if_pos c20] at H
   have c20b0 : ((rd x6_1 x9_2) == (rd t206 x8_1)) = true := beq_iff_eq.mpr c20
   have c20b1 : ((rd x6_1 x9_2) != (rd t206 x8_1)) = false := bne_eq_false_iff_eq.mpr c20
   clear c20
   have H' := Aside0.mk H
   clear H
   try go_wp2
   have n0_ := Aside0.mk (Kd.R_drew HO_4.out)
   have n1_ := Aside0.mk (Kd.R_drew HO_5.out)
   have n2_ := Aside0.mk (Kd.R_drew HO_6.out)
   have n3_ := Aside0.mk (Kd.R_drew HO_217001.out)
   have n4_ := Aside0.mk (blk_drew BK205.out)
   have n5_ := Aside0.mk (blk_drew BK216.out)
   have n6_ := Aside0.mk (below_drew1 HB.out)
   clear HO_4
   clear HO_5
   clear HO_6
   clear HO_217001
   clear BK205
   clear BK216
   clear HB
   have HO_4 := n0_
   have HO_5 := n1_
   have HO_6 := n2_
   have HO_217001 := n3_
   have BK205 := n4_
   have BK216 := n5_
   have HB := n6_
   clear n0_ n1_ n2_ n3_ n4_ n5_ n6_
   obtain ⟨Ao22, co22, eo22⟩ := Kd.R_slice HO_6.out
   (first | subst eo22 | (injection eo22 with f1_ f2_ f3_; have f4_ := f1_.symm; have f5_ := f3_.symm; clear f1_ f2_ f3_; subst f4_; subst f5_))
   have p218 : 0 ≤ (x9_2 : Int) := of_decide_eq_true (by first | (with_reducible assumption) | assumption)
   have q218 : x9_2 < (x6_1.length : Int) := of_decide_eq_true (by first | (with_reducible assumption) | assumption)
   obtain ⟨ad218, e218, hx218_0⟩ := Kd.at_int (Kd.R_reads' HO_6.out).2.2 x9_2 p218 q218
   cases e218
   replace p218 := eq_true p218
   replace q218 := eq_true q218
   obtain ⟨Ao23, co23, eo23⟩ := Kd.R_slice HO_4.out
   (first | subst eo23 | (injection eo23 with f1_ f2_ f3_; have f4_ := f1_.symm; have f5_ := f3_.symm; clear f1_ f2_ f3_; subst f4_; subst f5_))
   have p219 : 0 ≤ (x8_1 : Int) := of_decide_eq_true (by first | (with_reducible assumption) | assumption)
   have q219 : x8_1 < (t206.length : Int) := of_decide_eq_true (by first | (with_reducible assumption) | assumption)
   obtain ⟨ad219, e219, hx219_0⟩ := Kd.at_int (Kd.R_reads' HO_4.out).2.2 x8_1 p219 q219
   cases e219
   replace p219 := eq_true p219
   replace q219 := eq_true q219
   refine start_ (n := 15) (S := fun w' => w'.cell? (ad218.add (x9_2).toNat) = some (.int .u64 (rd x6_1 x9_2)) ∧ w'.cell? (ad219.add (x8_1).toNat) = some (.int .u64 (rd t206 x8_1))) (ds := []) (zq 15 0) (by kernel_rfl) rfl rfl ⟨hx218_0, hx219_0⟩ (fun hHeld => ?_); refine with_tabW spec_l04Merge.tab9 spec_l04Merge.bits9 (fun HT_ HW_ => ?_)
   generalize wr.drew = w21 at HO_4 HO_5 HO_6 HO_217001 BK205 BK216 HB hx218_0 hx219_0 hHeld ⊢
   refine zpu 0 (some 30) (zq 15 1) HT_ ?_
   refine zpu 1 (some 31) (zq 15 3) HT_ ?_
   refine zpu 2 (some 32) (zq 15 7) HT_ ?_
   refine zpu 3 (some 33) (zq 15 15) HT_ ?_
   refine zpu 4 (some 34) (zq 15 31) HT_ ?_
   refine zpu 5 (some 35) (zq 15 63) HT_ ?_
   refine zpu 6 (some 36) (zq 15 127) HT_ ?_
   refine zpu 7 (some 37) (zq 15 255) HT_ ?_
   refine zpu 9 (some 39) (zq 15 767) HT_ ?_
   refine zpu 10 (some 40) (zq 15 1791) HT_ ?_
   refine zpu 11 (some 41) (zq 15 3839) HT_ ?_
   refine ztk 8 (some 38) (zq 15 4095) HT_ HW_ rfl hHeld (Or.inl ⟨by rfl, by (rintro w' ⟨s0, s1⟩; go_simp; with_reducible rfl)⟩) ?_
   refine ztk 12 (some 42) (zq 15 8191) HT_ HW_ rfl hHeld (Or.inl ⟨by rfl, by (rintro w' ⟨s0, s1⟩; go_simp; with_reducible rfl)⟩) ?_
   refine zpu 13 (some 43) (zq 15 16383) HT_ ?_
   refine zpu 14 (some 44) (zq 15 32767) HT_ ?_
   refine done_ (done_of HT_.out (by kernel_rfl)) ?_
   try go_wp2
   go_meet
   case rel => exact ⟨_, (x9_2), (by first | rfl | (simp; done) | (simp [*]; done) | (exact congrArg (Value.int .i64) (wrap_eq (by omega)))), H', ⟨by have := HK1.out; have := HK2.out; first | omega | exact Nat.le_refl _⟩, ze HO_4, ze HO_5, ze HO_6, ze HO_217001, zh BK205, zh BK216, zba⟩
  rw [if_neg c20] at H
  have c20b0 : ((rd x6_1 x9_2) == (rd t206 x8_1)) = false := beq_eq_false_iff_ne.mpr c20
  have c20b1 : ((rd x6_1 x9_2) != (rd t206 x8_1)) = true := bne_iff_ne.mpr c20
  have H' := Aside0.mk H
  clear H
  try go_wp2
  have n0_ := Aside0.mk (Kd.R_drew HO_4.out)
  have n1_ := Aside0.mk (Kd.R_drew HO_5.out)
  have n2_ := Aside0.mk (Kd.R_drew HO_6.out)
  have n3_ := Aside0.mk (Kd.R_drew HO_217001.out)
  have n4_ := Aside0.mk (blk_drew BK205.out)
  have n5_ := Aside0.mk (blk_drew BK216.out)
  have n6_ := Aside0.mk (below_drew1 HB.out)
  clear HO_4
  clear HO_5
  clear HO_6
  clear HO_217001
  clear BK205
  clear BK216
  clear HB
  have HO_4 := n0_
  have HO_5 := n1_
  have HO_6 := n2_
  have HO_217001 := n3_
  have BK205 := n4_
  have BK216 := n5_
  have HB := n6_
  clear n0_ n1_ n2_ n3_ n4_ n5_ n6_
  obtain ⟨Ao25, co25, eo25⟩ := Kd.R_slice HO_6.out
  (first | subst eo25 | (injection eo25 with f1_ f2_ f3_; have f4_ := f1_.symm; have f5_ := f3_.symm; clear f1_ f2_ f3_; subst f4_; subst f5_))
  have p218 : 0 ≤ (x9_2 : Int) := of_decide_eq_true (by first | (with_reducible assumption) | assumption)
  have q218 : x9_2 < (x6_1.length : Int) := of_decide_eq_true (by first | (with_reducible assumption) | assumption)
  obtain ⟨ad218, e218, hx218_0⟩ := Kd.at_int (Kd.R_reads' HO_6.out).2.2 x9_2 p218 q218
  cases e218
  replace p218 := eq_true p218
  replace q218 := eq_true q218
  obtain ⟨Ao26, co26, eo26⟩ := Kd.R_slice HO_4.out
  (first | subst eo26 | (injection eo26 with f1_ f2_ f3_; have f4_ := f1_.symm; have f5_ := f3_.symm; clear f1_ f2_ f3_; subst f4_; subst f5_))
  have p219 : 0 ≤ (x8_1 : Int) := of_decide_eq_true (by first | (with_reducible assumption) | assumption)
  have q219 : x8_1 < (t206.length : Int) := of_decide_eq_true (by first | (with_reducible assumption) | assumption)
  obtain ⟨ad219, e219, hx219_0⟩ := Kd.at_int (Kd.R_reads' HO_4.out).2.2 x8_1 p219 q219
  cases e219
  replace p219 := eq_true p219
  replace q219 := eq_true q219
  refine start_ (n := 15) (S := fun w' => w'.cell? (ad218.add (x9_2).toNat) = some (.int .u64 (rd x6_1 x9_2)) ∧ w'.cell? (ad219.add (x8_1).toNat) = some (.int .u64 (rd t206 x8_1))) (ds := []) (zq 15 0) (by kernel_rfl) rfl rfl ⟨hx218_0, hx219_0⟩ (fun hHeld => ?_); refine with_tabW spec_l04Merge.tab9 spec_l04Merge.bits9 (fun HT_ HW_ => ?_)
  generalize wr.drew = w24 at HO_4 HO_5 HO_6 HO_217001 BK205 BK216 HB hx218_0 hx219_0 hHeld ⊢
  refine zpu 0 (some 30) (zq 15 1) HT_ ?_
  refine zpu 1 (some 31) (zq 15 3) HT_ ?_
  refine zpu 2 (some 32) (zq 15 7) HT_ ?_
  refine zpu 3 (some 33) (zq 15 15) HT_ ?_
  refine zpu 4 (some 34) (zq 15 31) HT_ ?_
  refine zpu 5 (some 35) (zq 15 63) HT_ ?_
  refine zpu 6 (some 36) (zq 15 127) HT_ ?_
  refine zpu 7 (some 37) (zq 15 255) HT_ ?_
  refine zpu 9 (some 39) (zq 15 767) HT_ ?_
  refine zpu 10 (some 40) (zq 15 1791) HT_ ?_
  refine zpu 11 (some 41) (zq 15 3839) HT_ ?_
  refine ztk 8 (some 38) (zq 15 4095) HT_ HW_ rfl hHeld (Or.inl ⟨by rfl, by (rintro w' ⟨s0, s1⟩; go_simp; with_reducible rfl)⟩) ?_
  refine ztk 12 (some 42) (zq 15 8191) HT_ HW_ rfl hHeld (Or.inl ⟨by rfl, by (rintro w' ⟨s0, s1⟩; go_simp; with_reducible rfl)⟩) ?_
  refine zpu 13 (some 43) (zq 15 16383) HT_ ?_
  refine zpu 14 (some 44) (zq 15 32767) HT_ ?_
  refine done_ (done_of HT_.out (by kernel_rfl)) ?_
  try go_wp2
  go_roundg k2
  case measure => have := HK1.out; have := HK2.out; omega
  case rel => exact ⟨(wrap64 (x9_2 + 1)), (by first | rfl | (simp; done) | (simp [*]; done) | (exact congrArg (Value.int .i64) (wrap_eq (by omega)))), H', ⟨by have := HK1.out; have := HK2.out; omega⟩, ze HO_4, ze HO_5, ze HO_6, ze HO_217001, zh BK205, zh BK216, zba⟩
 clear HC15
 try clear c1
 try clear c2
 try clear p2
 try clear q2
 try clear hx2
 try clear qi2
 try clear c3
 try clear c3b0
 try clear c3b1
 try clear p6
 try clear c9
 try clear c11
 try clear c12
 try clear c13
 try clear c13b0
 try clear c13b1
 try clear c14
 try clear c14b0
 try clear c16
 try clear c16b0
 try clear c17
 try clear c17b0
 try clear c18
 try clear c18b0
 try clear c19
 try clear c19b0
 try clear c20
 try clear c20b0
 try clear c20b1
 try clear c21
 try clear p21
 try clear q21
 try clear hx21
 try clear qi21
 try clear z12_0 z12_1 z12_2 y12_0 y12_1 y12_2
 try clear hx215_0
 try clear hx215_1
 try clear hx215_2
 try clear hx217_0
 try clear hx217_1
 try clear hx217_2
 try clear hx218_0
 try clear hx219_0
 try clear p2
 try clear p215
 try clear p217
 try clear p218
 try clear p219
 try clear q2
 try clear q215
 try clear q217
 try clear q218
 try clear q219
 obtain ⟨kq, x9_14, rfl, HA, HJ14, HO_4, HO_5, HO_6, HO_217001, BK205, BK216, HB⟩ := hcut
 cases kq with
 | zero => exact absurd HA.out (by simp [spec_l04Merge.j2])
 | succ kj14 => ?_
 have H := HA.out
 clear HA
 simp only [spec_l04Merge.j2] at H
 by_cases c29 : x9_14 = (x6_1.length : Int)
 rotate_left
 ·rw [if_neg c29] at H
  have c29b0 : (x9_14 == (x6_1.length : Int)) = false := beq_eq_false_iff_ne.mpr c29
  have c29b1 : (x9_14 != (x6_1.length : Int)) = true := bne_iff_ne.mpr c29
  by_cases c75 : x5_1.length < 17592186044416
  rotate_left
  ·rw [if_neg c75] at H
   exact absurd H (by simp)
  rw [if_pos c75] at H
  have LMc75 := Aside0.mk c75
  clear c75
  obtain ⟨y245, hy245⟩ : ∃ y_ : List Int, y_ = (x5_1 ++ [x9_14]) := ⟨_, rfl⟩
  replace H : (spec_l04Merge.l0 kj14 l0 t206 y245 x6_1 (wrap64 (x8_1 + 1)) ((rd_T31 l0 0).f0) x217001_1) = some (r1, r2, r3, r4) := by first | (rw [hy245]; with_reducible exact H) | (have H2_ := (Option.bind_some _ _).symm.trans H; rw [hy245]; with_reducible exact H2_) | (have H2_ := (Option.bind_some _ _).symm.trans H; with_reducible exact H2_) | with_reducible exact H | (rw [hy245]; exact H) | exact H
  have Ny245 := Aside0.mk hy245
  clear hy245
  have H' := Aside0.mk H
  clear H
  obtain ⟨Ao76, co76, eo76⟩ := Kd.R_slice HO_6.out
  subst eo76
  go_wp2_with (first | ((with_reducible refine gate_builtin (b := .append) (xs := #[.tmp 88, .tmp 90]) rfl ?_); at_builtin; refine Kd.R_append (Kd.int .i64) (w0 := w) w.heap.size rfl (.tmp 88) (.tmp 90) 47 2 (.int .i64 0) 8 rfl Try.underlying47 info2 rfl (by decide) (by omega) u5 x5_1 x9_14 [.int .i64 x9_14] (fun _ => True) (fun _ => False) rfl rfl ?aP (fun _ hk => hk.elim) ?aF ?aO ?aB ?aS ?aL ?_; (case aP => exact rfl); (case aB => exact (by repeat (first | (with_reducible first | exact HB.out | apply below_alloc | apply pw_below_drewN | apply below_drew1 | refine below_set ?_ GE205.out | refine below_set ?_ GE216.out) | exact HB.out))); (case aF => exact (fun _ _ => trivial)); (case aO => exact (ze HO_5).out); (case aS => exact (zz HB)); (case aL => have := LMc75.out; omega); intro v246 w77 ho hb hg hat; rw [← Ny245.out] at ho; have n_ : _ ∧ _ ∧ _ ∧ _ ∧ _ ∧ _ ∧ _ := ⟨Aside0.mk (Kd.R_over' (ze HO_4).out (Kd.R_typed (ze HO_5).out) (by decide) hg), Aside0.mk (Kd.R_over' (ze HO_6).out (Kd.R_typed (ze HO_5).out) (by decide) hg), Aside0.mk (Kd.R_over' (ze HO_217001).out (Kd.R_typed (ze HO_5).out) (by decide) hg), Aside0.mk (blk_grown (g := gb205) (o := .cells #[.int .i8 0, .slice none 0 0, .slice none 0 0] 31 (0, 0)) (zh BK205).out hg (Kd.R_ne HO_5.out BK205.out (by decide))), Aside0.mk (blk_grown (g := gb216) (o := .cells #[.int .i8 ((rd_T31 l0 0).f0), u217001, .slice none 0 0] 31 (0, 0)) (zh BK216).out hg (Kd.R_ne HO_5.out BK216.out (by decide))), Aside0.mk (hb), Aside0.mk (ho)⟩; clear HO_4 HO_6 HO_217001 BK205 BK216 HB HO_5; obtain ⟨HO_4, HO_6, HO_217001, BK205, BK216, HB, HO247⟩ := n_; clear ho hb hg hat))
  go_roundg kj14
  case measure => have := HK1.out; have := HJ14.out; omega
  case rel => exact ⟨(y245), (x6_1), (wrap64 (x8_1 + 1)), (x217001_1), (u217001), (by first | rfl | (simp; done) | (simp [*]; done) | (exact congrArg (Value.int .i64) (wrap_eq (by omega)))), H', ⟨by have := HK1.out; have := HJ14.out; omega⟩, ze HO_4, ze HO247, ze HO_6, ze HO_217001, zh BK205, zh BK216, zba⟩
 rw [if_pos c29] at H
 have c29b0 : (x9_14 == (x6_1.length : Int)) = true := beq_iff_eq.mpr c29
 have c29b1 : (x9_14 != (x6_1.length : Int)) = false := bne_eq_false_iff_eq.mpr c29
 clear c29
 by_cases c30 : 0 < (l0.length : Int)
 rotate_left
 ·rw [if_neg c30] at H
  exact absurd H (by simp)
 rw [if_pos c30] at H
 have c30b0 : decide (0 < (l0.length : Int)) = true := decide_eq_true c30
 have c30b1 : decide (0 < l0.length) = true := decide_eq_true (by omega)
 clear c30
 by_cases c31 : 0 ≤ x8_1
 rotate_left
 ·rw [if_neg c31] at H
  exact absurd H (by simp)
 rw [if_pos c31] at H
 have c31b0 : decide (0 ≤ x8_1) = true := decide_eq_true c31
 clear c31
 by_cases c32 : x8_1 < (((rd_T31 l0 0).f1).length : Int)
 rotate_left
 ·rw [if_neg c32] at H
  exact absurd H (by simp)
 rw [if_pos c32] at H
 have c32b0 : decide (x8_1 < (((rd_T31 l0 0).f1).length : Int)) = true := decide_eq_true c32
 clear c32
 by_cases c33 : ((rd_T81 ((rd_T31 l0 0).f1) x8_1).f0) ≥ 2
 rotate_left
 ·rw [if_neg c33] at H
  have c33b0 : decide (2 ≤ ((rd_T81 ((rd_T31 l0 0).f1) x8_1).f0)) = false := decide_eq_false c33
  clear c33
  by_cases c57 : x8_1 < (t206.length : Int)
  rotate_left
  ·rw [if_neg c57] at H
   exact absurd H (by simp)
  rw [if_pos c57] at H
  have c57b0 : decide (x8_1 < (t206.length : Int)) = true := decide_eq_true c57
  clear c57
  by_cases c58 : x6_1.length < 17592186044416
  rotate_left
  ·rw [if_neg c58] at H
   exact absurd H (by simp)
  rw [if_pos c58] at H
  have LMc58 := Aside0.mk c58
  clear c58
  obtain ⟨y236, hy236⟩ : ∃ y_ : List Int, y_ = (x6_1 ++ [rd t206 x8_1]) := ⟨_, rfl⟩
  replace H : (if x217001_1.length < 23456248059221 then (if x5_1.length < 17592186044416 then (spec_l04Merge.l0 kj14 l0 t206 (x5_1 ++ [x9_14]) y236 (wrap64 (x8_1 + 1)) ((rd_T31 l0 0).f0) (x217001_1 ++ [(⟨(rd_T81 ((rd_T31 l0 0).f1) x8_1).f0, (rd_T81 ((rd_T31 l0 0).f1) x8_1).f1, (rd_T81 ((rd_T31 l0 0).f1) x8_1).f2⟩ : S81)])) else (none)) else (none)) = some (r1, r2, r3, r4) := by first | (rw [hy236]; with_reducible exact H) | (have H2_ := (Option.bind_some _ _).symm.trans H; rw [hy236]; with_reducible exact H2_) | (have H2_ := (Option.bind_some _ _).symm.trans H; with_reducible exact H2_) | with_reducible exact H | (rw [hy236]; exact H) | exact H
  have Ny236 := Aside0.mk hy236
  clear hy236
  by_cases c59 : x217001_1.length < 23456248059221
  rotate_left
  ·rw [if_neg c59] at H
   exact absurd H (by simp)
  rw [if_pos c59] at H
  have LMc59 := Aside0.mk c59
  clear c59
  obtain ⟨y239, hy239⟩ : ∃ y_ : List (S81), y_ = (x217001_1 ++ [(⟨(rd_T81 ((rd_T31 l0 0).f1) x8_1).f0, (rd_T81 ((rd_T31 l0 0).f1) x8_1).f1, (rd_T81 ((rd_T31 l0 0).f1) x8_1).f2⟩ : S81)]) := ⟨_, rfl⟩
  replace H : (if x5_1.length < 17592186044416 then (spec_l04Merge.l0 kj14 l0 t206 (x5_1 ++ [x9_14]) y236 (wrap64 (x8_1 + 1)) ((rd_T31 l0 0).f0) y239) else (none)) = some (r1, r2, r3, r4) := by first | (rw [hy239]; with_reducible exact H) | (have H2_ := (Option.bind_some _ _).symm.trans H; rw [hy239]; with_reducible exact H2_) | (have H2_ := (Option.bind_some _ _).symm.trans H; with_reducible exact H2_) | with_reducible exact H | (rw [hy239]; exact H) | exact H
  have Ny239 := Aside0.mk hy239
  clear hy239
  by_cases c60 : x5_1.length < 17592186044416
  rotate_left
  ·rw [if_neg c60] at H
   exact absurd H (by simp)
  rw [if_pos c60] at H
  have LMc60 := Aside0.mk c60
  clear c60
  obtain ⟨y242, hy242⟩ : ∃ y_ : List Int, y_ = (x5_1 ++ [x9_14]) := ⟨_, rfl⟩
  replace H : (spec_l04Merge.l0 kj14 l0 t206 y242 y236 (wrap64 (x8_1 + 1)) ((rd_T31 l0 0).f0) y239) = some (r1, r2, r3, r4) := by first | (rw [hy242]; with_reducible exact H) | (have H2_ := (Option.bind_some _ _).symm.trans H; rw [hy242]; with_reducible exact H2_) | (have H2_ := (Option.bind_some _ _).symm.trans H; with_reducible exact H2_) | with_reducible exact H | (rw [hy242]; exact H) | exact H
  have Ny242 := Aside0.mk hy242
  clear hy242
  have H' := Aside0.mk H
  clear H
  obtain ⟨Ao61, co61, eo61⟩ := Kd.R_slice HO_6.out
  subst eo61
  have p220 : 0 ≤ (0 : Int) := (by omega)
  have q220 : 0 < (l0.length : Int) := of_decide_eq_true (by first | (with_reducible assumption) | assumption)
  obtain ⟨ad220, A220_1, c220_1, A220_2, c220_2, e220, hx220_0, hx220_1, hx220_2, hl220_1, hi220_1, hl220_2, hi220_2⟩ := at_T31 HR0.out 0 p220 q220
  obtain rfl : adp0 = ad220 := (by injection e220)
  have qi220 : (0 < l0.length) = True := eq_true (by omega)
  (try rw [show ((0 : Int)).toNat = 0 from rfl] at hx220_0)
  (try rw [show 0 * 3 = 0 from rfl] at hx220_0)
  (try rw [Addr.add_zero'] at hx220_0)
  (try rw [show ((0 : Int)).toNat = 0 from rfl] at hx220_1)
  (try rw [show 0 * 3 = 0 from rfl] at hx220_1)
  (try rw [Addr.add_zero'] at hx220_1)
  (try rw [show ((0 : Int)).toNat = 0 from rfl] at hx220_2)
  (try rw [show 0 * 3 = 0 from rfl] at hx220_2)
  (try rw [Addr.add_zero'] at hx220_2)
  replace hx220_0 := zc HB hx220_0
  replace hx220_1 := zc HB hx220_1
  replace hx220_2 := zc HB hx220_2
  have HR220_1 := Aside0.mk hi220_1
  have HC220_1 := Aside0.mk hl220_1
  clear hi220_1 hl220_1
  have HR220_2 := Aside0.mk hi220_2
  have HC220_2 := Aside0.mk hl220_2
  clear hi220_2 hl220_2
  replace p220 := eq_true p220
  replace q220 := eq_true q220
  have p221 : 0 ≤ (x8_1 : Int) := of_decide_eq_true (by first | (with_reducible assumption) | assumption)
  have q221 : x8_1 < (((rd_T31 l0 0).f1).length : Int) := of_decide_eq_true (by first | (with_reducible assumption) | assumption)
  obtain ⟨ad221, e221, hx221_0, hx221_1, hx221_2⟩ := at_T81 HR220_1.out x8_1 p221 q221
  cases e221
  replace hx221_0 := zc HB hx221_0
  replace hx221_1 := zc HB hx221_1
  replace hx221_2 := zc HB hx221_2
  replace p221 := eq_true p221
  replace q221 := eq_true q221
  go_wp2_with (first | ((with_reducible refine gate_dst (N := 10) rfl ?_); refine box_event ?hg (N := 10) ?hd (cs := #[.int .i8 0, .int .i16 0, .int .i16 0]) (t := 81) ?hr ?_; (case hd => rfl); (case hg => rfl); (case hr => first | (go_simp; done) | (go_simp; rfl)); intro gb222 hg w62 hbox hb; have n_ : _ ∧ _ ∧ _ ∧ _ ∧ _ ∧ _ ∧ _ ∧ _ ∧ _ ∧ _ ∧ _ ∧ _ ∧ _ ∧ _ := ⟨zr HO_4 hb, zr HO_5 hb, zr HO_6 hb, Aside0.mk (Kd.R_below (Kd.R_elderB (ze HO_217001).out gb222 (Nat.le_of_eq hg.symm)) hb), zk BK205 hb, zk BK216 hb, zbs hb, Aside0.mk (hbox), zg HB hg, zg HB hg, zn1 BK205 hg, zn2 BK205 hg, zn1 BK216 hg, zn2 BK216 hg⟩; clear HO_4 HO_5 HO_6 HO_217001 BK205 BK216 HB; obtain ⟨HO_4, HO_5, HO_6, HO_217001, BK205, BK216, HB, BK222, GW222, GE222, NB205_222, NB222_205, NB216_222, NB222_216⟩ := n_; clear hb hbox hg; have hnb63 := NB222_205.out; have hnc63 := NB205_222.out; have hnb64 := NB222_216.out; have hnc64 := NB216_222.out; obtain ⟨z65_0, z65_1, z65_2, y65_0, y65_1, y65_2⟩ := zB3 BK222; obtain ⟨Ao66, co66, eo66⟩ := Kd.R_slice HO_4.out; subst eo66; have p235 : 0 ≤ (x8_1 : Int) := of_decide_eq_true (by first | (with_reducible assumption) | assumption); have q235 : x8_1 < (t206.length : Int) := of_decide_eq_true (by first | (with_reducible assumption) | assumption); obtain ⟨ad235, e235, hx235_0⟩ := Kd.at_int (Kd.R_reads' HO_4.out).2.2 x8_1 p235 q235; cases e235; have hn235_0 : ad235.block ≠ gb222 := Kd.own_blk (Kd.R_ne HO_4.out BK222.out (by decide)); have hn235_1 : ad235.block ≠ gb222 := Kd.own_blk (Kd.R_ne HO_4.out BK222.out (by decide)); have hn235_2 : ad235.block ≠ gb222 := Kd.own_blk (Kd.R_ne HO_4.out BK222.out (by decide)); replace hx235_0 := (cell_far (p := ⟨gb222, 0, none⟩) (by first | (rw [add_block]; exact hn235_0) | (show (Addr.add _ _).block ≠ _; rw [add_block]; exact hn235_0) | exact hn235_0) (.int .i8 ((rd_T81 ((rd_T31 l0 0).f1) x8_1).f0))).trans hx235_0; replace hx235_0 := (cell_far (p := ⟨gb222, 1, none⟩) (by first | (rw [add_block]; exact hn235_1) | (show (Addr.add _ _).block ≠ _; rw [add_block]; exact hn235_1) | exact hn235_1) (.int .i16 ((rd_T81 ((rd_T31 l0 0).f1) x8_1).f1))).trans hx235_0; replace hx235_0 := (cell_far (p := ⟨gb222, 2, none⟩) (by first | (rw [add_block]; exact hn235_2) | (show (Addr.add _ _).block ≠ _; rw [add_block]; exact hn235_2) | exact hn235_2) (.int .i16 ((rd_T81 ((rd_T31 l0 0).f1) x8_1).f2))).trans hx235_0; clear hn235_0; clear hn235_1; clear hn235_2; replace p235 := eq_true p235; replace q235 := eq_true q235) | ((with_reducible refine gate_builtin (b := .append) (xs := #[.tmp 75, .tmp 80]) rfl ?_); at_builtin; refine Kd.R_append (Kd.int .u64) (w0 := w) w.heap.size rfl (.tmp 75) (.tmp 80) 53 98 (.int .u64 0) 8 rfl Try.underlying53 info98 rfl (by decide) (by omega) (.slice Ao61 x6_1.length co61) x6_1 (rd t206 x8_1) [.int .u64 (rd t206 x8_1)] (fun k_ => some k_ ≠ (.slice (some ad235) t206.length co66 : Value).ownBlock) (fun _ => False) rfl (by first | (go_simp; done) | (go_simp; rfl)) ?aP (fun _ hk => hk.elim) ?aF ?aO ?aB ?aS ?aL ?_; (case aP => exact rfl); (case aB => exact (by repeat (first | (with_reducible first | exact HB.out | apply below_alloc | apply pw_below_drewN | apply below_drew1 | refine below_set ?_ GE205.out | refine below_set ?_ GE216.out | refine below_set ?_ GE222.out) | exact HB.out))); (case aF => exact (fun k_ hk => Kd.fresh' (Kd.R_lt (zs HO_4 BK222).out) k_ hk)); (case aO => exact (by (with_reducible repeat (first | apply Kd.R_alloc | apply Kd.R_drewN | apply Kd.R_drew)); exact Kd.R_mono (Kd.R_far (p := ⟨gb222, 2, none⟩) (Kd.R_far (p := ⟨gb222, 1, none⟩) (Kd.R_far (p := ⟨gb222, 0, none⟩) (Kd.R_types HO_6.out BK222.out (by decide)) (fun _ hk => hk.2) (.int .i8 ((rd_T81 ((rd_T31 l0 0).f1) x8_1).f0))) (fun _ hk => hk.2) (.int .i16 ((rd_T81 ((rd_T31 l0 0).f1) x8_1).f1))) (fun _ hk => hk.2) (.int .i16 ((rd_T81 ((rd_T31 l0 0).f1) x8_1).f2))) (fun _ hk => hk.1))); (case aS => exact (zz HB)); (case aL => have := LMc58.out; omega); intro v237 w67 ho hb hg hat; rw [← Ny236.out] at ho; have n_ : _ ∧ _ ∧ _ ∧ _ ∧ _ ∧ _ ∧ _ ∧ _ := ⟨Aside0.mk (Kd.R_after (ok := (fun _ => True)) (by (with_reducible repeat (first | apply Kd.R_alloc | apply Kd.R_drewN | apply Kd.R_drew)); exact Kd.R_mono (Kd.R_far (p := ⟨gb222, 2, none⟩) (Kd.R_far (p := ⟨gb222, 1, none⟩) (Kd.R_far (p := ⟨gb222, 0, none⟩) (Kd.R_types HO_4.out BK222.out (by decide)) (fun _ hk => hk.2) (.int .i8 ((rd_T81 ((rd_T31 l0 0).f1) x8_1).f0))) (fun _ hk => hk.2) (.int .i16 ((rd_T81 ((rd_T31 l0 0).f1) x8_1).f1))) (fun _ hk => hk.2) (.int .i16 ((rd_T81 ((rd_T31 l0 0).f1) x8_1).f2))) (fun _ hk => ⟨trivial, hk.1⟩)) hg hat), Aside0.mk (Kd.R_over' (zs HO_5 BK222).out (Kd.R_typed (zs HO_6 BK222).out) (by decide) hg), Aside0.mk (Kd.R_over' (by (with_reducible repeat (first | apply Kd.R_alloc | apply Kd.R_drewN | apply Kd.R_drew)); exact (Kd.R_mono (Kd.R_far (p := ⟨gb222, 2, none⟩) (Kd.R_far (p := ⟨gb222, 1, none⟩) (Kd.R_far (p := ⟨gb222, 0, none⟩) (Kd.R_mono HO_217001.out (fun k_ hk => (⟨hk, hk.2⟩ : _ ∧ k_ ≠ gb222))) (fun _ hk => hk.2) (.int .i8 ((rd_T81 ((rd_T31 l0 0).f1) x8_1).f0))) (fun _ hk => hk.2) (.int .i16 ((rd_T81 ((rd_T31 l0 0).f1) x8_1).f1))) (fun _ hk => hk.2) (.int .i16 ((rd_T81 ((rd_T31 l0 0).f1) x8_1).f2))) (fun _ h_ => h_.1))) (Kd.R_typed (zs HO_6 BK222).out) (by decide) hg), Aside0.mk (blk_grown (g := gb205) (o := .cells #[.int .i8 0, .slice none 0 0, .slice none 0 0] 31 (0, 0)) (zf BK205 NB205_222).out hg (Kd.R_ne HO_6.out BK205.out (by decide))), Aside0.mk (blk_grown (g := gb216) (o := .cells #[.int .i8 ((rd_T31 l0 0).f0), u217001, .slice none 0 0] 31 (0, 0)) (zf BK216 NB216_222).out hg (Kd.R_ne HO_6.out BK216.out (by decide))), Aside0.mk (blk_grown (g := gb222) (o := .cells #[.int .i8 ((rd_T81 ((rd_T31 l0 0).f1) x8_1).f0), .int .i16 ((rd_T81 ((rd_T31 l0 0).f1) x8_1).f1), .int .i16 ((rd_T81 ((rd_T31 l0 0).f1) x8_1).f2)] 81 (0, 0)) (by (with_reducible repeat (first | refine blk_drewN ?_ _ | refine blk_drew ?_ | refine blk_alloc ?_ _)); refine blk_put (cs := #[.int .i8 ((rd_T81 ((rd_T31 l0 0).f1) x8_1).f0), .int .i16 ((rd_T81 ((rd_T31 l0 0).f1) x8_1).f1), .int .i16 0]) ?_ 2 _ rfl; (with_reducible repeat (first | refine blk_drewN ?_ _ | refine blk_drew ?_ | refine blk_alloc ?_ _)); refine blk_put (cs := #[.int .i8 ((rd_T81 ((rd_T31 l0 0).f1) x8_1).f0), .int .i16 0, .int .i16 0]) ?_ 1 _ rfl; (with_reducible repeat (first | refine blk_drewN ?_ _ | refine blk_drew ?_ | refine blk_alloc ?_ _)); refine blk_put (cs := #[.int .i8 0, .int .i16 0, .int .i16 0]) ?_ 0 _ rfl; (with_reducible repeat (first | refine blk_drewN ?_ _ | refine blk_drew ?_ | refine blk_alloc ?_ _)); exact BK222.out) hg (Kd.R_ne HO_6.out BK222.out (by decide))), Aside0.mk (hb), Aside0.mk (ho)⟩; clear HO_4 HO_5 HO_217001 BK205 BK216 BK222 HB HO_6; obtain ⟨HO_4, HO_5, HO_217001, BK205, BK216, BK222, HB, HO238⟩ := n_; clear ho hb hg hat; have hnb68 := NB216_205.out; have hnc68 := NB205_216.out; obtain ⟨z69_0, z69_1, z69_2, y69_0, y69_1, y69_2⟩ := zB3 BK216; obtain ⟨z70_0, z70_1, z70_2, y70_0, y70_1, y70_2⟩ := zB3 BK222) | ((with_reducible refine gate_builtin (b := .append) (xs := #[.tmp 83, .tmp 85]) rfl ?_); at_builtin; refine Kd.R_append k81 (w0 := w) w.heap.size rfl (.tmp 83) (.tmp 85) 29 81 (.agg #[(.int .i8 0), (.int .i16 0), (.int .i16 0)]) 6 rfl Try.underlying29 info81 rfl (by decide) (by omega) u217001 x217001_1 (⟨(rd_T81 ((rd_T31 l0 0).f1) x8_1).f0, (rd_T81 ((rd_T31 l0 0).f1) x8_1).f1, (rd_T81 ((rd_T31 l0 0).f1) x8_1).f2⟩ : S81) [.int .i8 ((rd_T81 ((rd_T31 l0 0).f1) x8_1).f0), .int .i16 ((rd_T81 ((rd_T31 l0 0).f1) x8_1).f1), .int .i16 ((rd_T81 ((rd_T31 l0 0).f1) x8_1).f2)] (fun k_ => k_ ≠ gb222) (fun _ => False) rfl rfl ?aP (fun _ hk => hk.elim) ?aF ?aO ?aB ?aS ?aL ?_; (case aP => exact k81_mkM _ _ _ (⟨(rd_T81 ((rd_T31 l0 0).f1) x8_1).f0, (rd_T81 ((rd_T31 l0 0).f1) x8_1).f1, (rd_T81 ((rd_T31 l0 0).f1) x8_1).f2⟩ : S81)); (case aB => exact (by repeat (first | (with_reducible first | exact HB.out | apply below_alloc | apply pw_below_drewN | apply below_drew1 | refine below_set ?_ GE205.out | refine below_set ?_ GE216.out | refine below_set ?_ GE222.out) | exact HB.out))); (case aF => exact (fun k_ hk => Kd.freshB (g := gb222) (o := .cells #[.int .i8 ((rd_T81 ((rd_T31 l0 0).f1) x8_1).f0), .int .i16 ((rd_T81 ((rd_T31 l0 0).f1) x8_1).f1), .int .i16 ((rd_T81 ((rd_T31 l0 0).f1) x8_1).f2)] 81 (0, 0)) (zh BK222).out k_ hk)); (case aO => exact (by (with_reducible repeat (first | apply Kd.R_alloc | apply Kd.R_drewN | apply Kd.R_drew)); exact Kd.R_mono HO_217001.out (fun _ hk => hk.2))); (case aS => exact (zz HB)); (case aL => have := LMc59.out; omega); intro v240 w71 ho hb hg hat; rw [← Ny239.out] at ho; have n_ : _ ∧ _ ∧ _ ∧ _ ∧ _ ∧ _ ∧ _ ∧ _ := ⟨Aside0.mk (Kd.R_over' (ze HO_4).out (Kd.R_typed (ze HO_217001).out) (by decide) hg), Aside0.mk (Kd.R_over' (ze HO_5).out (Kd.R_typed (ze HO_217001).out) (by decide) hg), Aside0.mk (blk_grown (g := gb205) (o := .cells #[.int .i8 0, .slice none 0 0, .slice none 0 0] 31 (0, 0)) (zh BK205).out hg (Kd.R_ne HO_217001.out BK205.out (by decide))), Aside0.mk (blk_grown (g := gb216) (o := .cells #[.int .i8 ((rd_T31 l0 0).f0), u217001, .slice none 0 0] 31 (0, 0)) (zh BK216).out hg (Kd.R_ne HO_217001.out BK216.out (by decide))), Aside0.mk (blk_grown (g := gb222) (o := .cells #[.int .i8 ((rd_T81 ((rd_T31 l0 0).f1) x8_1).f0), .int .i16 ((rd_T81 ((rd_T31 l0 0).f1) x8_1).f1), .int .i16 ((rd_T81 ((rd_T31 l0 0).f1) x8_1).f2)] 81 (0, 0)) (zh BK222).out hg (Kd.R_away HO_217001.out (fun _ hk => hk.2))), Aside0.mk (Kd.R_over' (ze HO238).out (Kd.R_typed (ze HO_217001).out) (by decide) hg), Aside0.mk (hb), Aside0.mk (ho)⟩; clear HO_4 HO_5 BK205 BK216 BK222 HO238 HB HO_217001; obtain ⟨HO_4, HO_5, BK205, BK216, BK222, HO238, HB, HO241⟩ := n_; clear ho hb hg hat; obtain ⟨Ao72, co72, eo72⟩ := Kd.R_slice HO241.out; subst eo72; obtain ⟨z73_0, z73_1, z73_2, y73_0, y73_1, y73_2⟩ := zB3 BK216) | ((with_reducible refine gate_builtin (b := .append) (xs := #[.tmp 88, .tmp 90]) rfl ?_); at_builtin; refine Kd.R_append (Kd.int .i64) (w0 := w) w.heap.size rfl (.tmp 88) (.tmp 90) 47 2 (.int .i64 0) 8 rfl Try.underlying47 info2 rfl (by decide) (by omega) u5 x5_1 x9_14 [.int .i64 x9_14] (fun _ => True) (fun _ => False) rfl (by first | (go_simp; done) | (go_simp; rfl)) ?aP (fun _ hk => hk.elim) ?aF ?aO ?aB ?aS ?aL ?_; (case aP => exact rfl); (case aB => exact (by repeat (first | (with_reducible first | exact HB.out | apply below_alloc | apply pw_below_drewN | apply below_drew1 | refine below_set ?_ GE205.out | refine below_set ?_ GE216.out | refine below_set ?_ GE222.out) | exact HB.out))); (case aF => exact (fun _ _ => trivial)); (case aO => exact (by (with_reducible repeat (first | apply Kd.R_alloc | apply Kd.R_drewN | apply Kd.R_drew)); exact Kd.R_mono (Kd.R_far (p := ⟨gb216, 1, none⟩) (Kd.R_types HO_5.out BK216.out (by decide)) (fun _ hk => hk.2) (.slice Ao72 y239.length co72)) (fun _ hk => trivial))); (case aS => exact (zz HB)); (case aL => have := LMc60.out; omega); intro v243 w74 ho hb hg hat; rw [← Ny242.out] at ho; have n_ : _ ∧ _ ∧ _ ∧ _ ∧ _ ∧ _ ∧ _ ∧ _ := ⟨Aside0.mk (Kd.R_over' (zs HO_4 BK216).out (Kd.R_typed (zs HO_5 BK216).out) (by decide) hg), Aside0.mk (blk_grown (g := gb205) (o := .cells #[.int .i8 0, .slice none 0 0, .slice none 0 0] 31 (0, 0)) (zf BK205 NB205_216).out hg (Kd.R_ne HO_5.out BK205.out (by decide))), Aside0.mk (blk_grown (g := gb216) (o := .cells #[.int .i8 ((rd_T31 l0 0).f0), .slice Ao72 y239.length co72, .slice none 0 0] 31 (0, 0)) (by (with_reducible repeat (first | refine blk_drewN ?_ _ | refine blk_drew ?_ | refine blk_alloc ?_ _)); refine blk_put (cs := #[.int .i8 ((rd_T31 l0 0).f0), u217001, .slice none 0 0]) ?_ 1 _ rfl; (with_reducible repeat (first | refine blk_drewN ?_ _ | refine blk_drew ?_ | refine blk_alloc ?_ _)); exact BK216.out) hg (Kd.R_ne HO_5.out BK216.out (by decide))), Aside0.mk (blk_grown (g := gb222) (o := .cells #[.int .i8 ((rd_T81 ((rd_T31 l0 0).f1) x8_1).f0), .int .i16 ((rd_T81 ((rd_T31 l0 0).f1) x8_1).f1), .int .i16 ((rd_T81 ((rd_T31 l0 0).f1) x8_1).f2)] 81 (0, 0)) (zf BK222 NB222_216).out hg (Kd.R_ne HO_5.out BK222.out (by decide))), Aside0.mk (Kd.R_over' (zs HO238 BK216).out (Kd.R_typed (zs HO_5 BK216).out) (by decide) hg), Aside0.mk (Kd.R_over' (zs HO241 BK216).out (Kd.R_typed (zs HO_5 BK216).out) (by decide) hg), Aside0.mk (hb), Aside0.mk (ho)⟩; clear HO_4 BK205 BK216 BK222 HO238 HO241 HB HO_5; obtain ⟨HO_4, BK205, BK216, BK222, HO238, HO241, HB, HO244⟩ := n_; clear ho hb hg hat))
  go_roundg kj14
  case measure => have := HK1.out; have := HJ14.out; omega
  case rel => exact ⟨(y242), (y236), (wrap64 (x8_1 + 1)), (y239), (.slice Ao72 y239.length co72), (by first | rfl | (simp; done) | (simp [*]; done) | (exact congrArg (Value.int .i64) (wrap_eq (by omega)))), H', ⟨by have := HK1.out; have := HJ14.out; omega⟩, ⟨by (with_reducible repeat (first | apply Kd.R_alloc | apply Kd.R_drewN | apply Kd.R_drew)); exact Kd.R_mono HO_4.out (fun _ hk => hk.2)⟩, ze HO244, ze HO238, ⟨by (with_reducible repeat (first | apply Kd.R_alloc | apply Kd.R_drewN | apply Kd.R_drew)); exact Kd.R_mono HO241.out (fun _ hk => trivial)⟩, zh BK205, zh BK216, zba⟩
 rw [if_pos c33] at H
 have c33b0 : decide (2 ≤ ((rd_T81 ((rd_T31 l0 0).f1) x8_1).f0)) = true := decide_eq_true c33
 clear c33
 by_cases c34 : 0 ≤ ((rd_T81 ((rd_T31 l0 0).f1) x8_1).f1)
 rotate_left
 ·rw [if_neg c34] at H
  exact absurd H (by simp)
 rw [if_pos c34] at H
 have c34b0 : decide (0 ≤ ((rd_T81 ((rd_T31 l0 0).f1) x8_1).f1)) = true := decide_eq_true c34
 clear c34
 by_cases c35 : ((rd_T81 ((rd_T31 l0 0).f1) x8_1).f1) < (x5_1.length : Int)
 rotate_left
 ·rw [if_neg c35] at H
  exact absurd H (by simp)
 rw [if_pos c35] at H
 have c35b0 : decide (((rd_T81 ((rd_T31 l0 0).f1) x8_1).f1) < (x5_1.length : Int)) = true := decide_eq_true c35
 clear c35
 by_cases c36 : 0 ≤ ((rd_T81 ((rd_T31 l0 0).f1) x8_1).f2)
 rotate_left
 ·rw [if_neg c36] at H
  exact absurd H (by simp)
 rw [if_pos c36] at H
 have c36b0 : decide (0 ≤ ((rd_T81 ((rd_T31 l0 0).f1) x8_1).f2)) = true := decide_eq_true c36
 clear c36
 by_cases c37 : ((rd_T81 ((rd_T31 l0 0).f1) x8_1).f2) < (x5_1.length : Int)
 rotate_left
 ·rw [if_neg c37] at H
  exact absurd H (by simp)
 rw [if_pos c37] at H
 have c37b0 : decide (((rd_T81 ((rd_T31 l0 0).f1) x8_1).f2) < (x5_1.length : Int)) = true := decide_eq_true c37
 clear c37
 by_cases c38 : x8_1 < (t206.length : Int)
 rotate_left
 ·rw [if_neg c38] at H
  exact absurd H (by simp)
 rw [if_pos c38] at H
 have c38b0 : decide (x8_1 < (t206.length : Int)) = true := decide_eq_true c38
 clear c38
 by_cases c39 : x6_1.length < 17592186044416
 rotate_left
 ·rw [if_neg c39] at H
  exact absurd H (by simp)
 rw [if_pos c39] at H
 have LMc39 := Aside0.mk c39
 clear c39
 obtain ⟨y226, hy226⟩ : ∃ y_ : List Int, y_ = (x6_1 ++ [rd t206 x8_1]) := ⟨_, rfl⟩
 replace H : (if x217001_1.length < 23456248059221 then (if x5_1.length < 17592186044416 then (spec_l04Merge.l0 kj14 l0 t206 (x5_1 ++ [x9_14]) y226 (wrap64 (x8_1 + 1)) ((rd_T31 l0 0).f0) (x217001_1 ++ [(⟨(rd_T81 ((rd_T31 l0 0).f1) x8_1).f0, IntKind.i16.wrap (rd x5_1 ((rd_T81 ((rd_T31 l0 0).f1) x8_1).f1)), IntKind.i16.wrap (rd x5_1 ((rd_T81 ((rd_T31 l0 0).f1) x8_1).f2))⟩ : S81)])) else (none)) else (none)) = some (r1, r2, r3, r4) := by first | (rw [hy226]; with_reducible exact H) | (have H2_ := (Option.bind_some _ _).symm.trans H; rw [hy226]; with_reducible exact H2_) | (have H2_ := (Option.bind_some _ _).symm.trans H; with_reducible exact H2_) | with_reducible exact H | (rw [hy226]; exact H) | exact H
 have Ny226 := Aside0.mk hy226
 clear hy226
 by_cases c40 : x217001_1.length < 23456248059221
 rotate_left
 ·rw [if_neg c40] at H
  exact absurd H (by simp)
 rw [if_pos c40] at H
 have LMc40 := Aside0.mk c40
 clear c40
 obtain ⟨y229, hy229⟩ : ∃ y_ : List (S81), y_ = (x217001_1 ++ [(⟨(rd_T81 ((rd_T31 l0 0).f1) x8_1).f0, IntKind.i16.wrap (rd x5_1 ((rd_T81 ((rd_T31 l0 0).f1) x8_1).f1)), IntKind.i16.wrap (rd x5_1 ((rd_T81 ((rd_T31 l0 0).f1) x8_1).f2))⟩ : S81)]) := ⟨_, rfl⟩
 replace H : (if x5_1.length < 17592186044416 then (spec_l04Merge.l0 kj14 l0 t206 (x5_1 ++ [x9_14]) y226 (wrap64 (x8_1 + 1)) ((rd_T31 l0 0).f0) y229) else (none)) = some (r1, r2, r3, r4) := by first | (rw [hy229]; with_reducible exact H) | (have H2_ := (Option.bind_some _ _).symm.trans H; rw [hy229]; with_reducible exact H2_) | (have H2_ := (Option.bind_some _ _).symm.trans H; with_reducible exact H2_) | with_reducible exact H | (rw [hy229]; exact H) | exact H
 have Ny229 := Aside0.mk hy229
 clear hy229
 by_cases c41 : x5_1.length < 17592186044416
 rotate_left
 ·rw [if_neg c41] at H
  exact absurd H (by simp)
 rw [if_pos c41] at H
 have LMc41 := Aside0.mk c41
 clear c41
 obtain ⟨y232, hy232⟩ : ∃ y_ : List Int, y_ = (x5_1 ++ [x9_14]) := ⟨_, rfl⟩
 replace H : (spec_l04Merge.l0 kj14 l0 t206 y232 y226 (wrap64 (x8_1 + 1)) ((rd_T31 l0 0).f0) y229) = some (r1, r2, r3, r4) := by first | (rw [hy232]; with_reducible exact H) | (have H2_ := (Option.bind_some _ _).symm.trans H; rw [hy232]; with_reducible exact H2_) | (have H2_ := (Option.bind_some _ _).symm.trans H; with_reducible exact H2_) | with_reducible exact H | (rw [hy232]; exact H) | exact H
 have Ny232 := Aside0.mk hy232
 clear hy232
 have H' := Aside0.mk H
 clear H
 obtain ⟨Ao42, co42, eo42⟩ := Kd.R_slice HO_6.out
 subst eo42
 have p220 : 0 ≤ (0 : Int) := (by omega)
 have q220 : 0 < (l0.length : Int) := of_decide_eq_true (by first | (with_reducible assumption) | assumption)
 obtain ⟨ad220, A220_1, c220_1, A220_2, c220_2, e220, hx220_0, hx220_1, hx220_2, hl220_1, hi220_1, hl220_2, hi220_2⟩ := at_T31 HR0.out 0 p220 q220
 obtain rfl : adp0 = ad220 := (by injection e220)
 have qi220 : (0 < l0.length) = True := eq_true (by omega)
 (try rw [show ((0 : Int)).toNat = 0 from rfl] at hx220_0)
 (try rw [show 0 * 3 = 0 from rfl] at hx220_0)
 (try rw [Addr.add_zero'] at hx220_0)
 (try rw [show ((0 : Int)).toNat = 0 from rfl] at hx220_1)
 (try rw [show 0 * 3 = 0 from rfl] at hx220_1)
 (try rw [Addr.add_zero'] at hx220_1)
 (try rw [show ((0 : Int)).toNat = 0 from rfl] at hx220_2)
 (try rw [show 0 * 3 = 0 from rfl] at hx220_2)
 (try rw [Addr.add_zero'] at hx220_2)
 replace hx220_0 := zc HB hx220_0
 replace hx220_1 := zc HB hx220_1
 replace hx220_2 := zc HB hx220_2
 have HR220_1 := Aside0.mk hi220_1
 have HC220_1 := Aside0.mk hl220_1
 clear hi220_1 hl220_1
 have HR220_2 := Aside0.mk hi220_2
 have HC220_2 := Aside0.mk hl220_2
 clear hi220_2 hl220_2
 replace p220 := eq_true p220
 replace q220 := eq_true q220
 have p221 : 0 ≤ (x8_1 : Int) := of_decide_eq_true (by first | (with_reducible assumption) | assumption)
 have q221 : x8_1 < (((rd_T31 l0 0).f1).length : Int) := of_decide_eq_true (by first | (with_reducible assumption) | assumption)
 obtain ⟨ad221, e221, hx221_0, hx221_1, hx221_2⟩ := at_T81 HR220_1.out x8_1 p221 q221
 cases e221
 replace hx221_0 := zc HB hx221_0
 replace hx221_1 := zc HB hx221_1
 replace hx221_2 := zc HB hx221_2
 replace p221 := eq_true p221
 replace q221 := eq_true q221
 go_wp2_with (first | ((with_reducible refine gate_dst (N := 10) rfl ?_); refine box_event ?hg (N := 10) ?hd (cs := #[.int .i8 0, .int .i16 0, .int .i16 0]) (t := 81) ?hr ?_; (case hd => rfl); (case hg => rfl); (case hr => first | (go_simp; done) | (go_simp; rfl)); intro gb222 hg w43 hbox hb; have n_ : _ ∧ _ ∧ _ ∧ _ ∧ _ ∧ _ ∧ _ ∧ _ ∧ _ ∧ _ ∧ _ ∧ _ ∧ _ ∧ _ := ⟨zr HO_4 hb, zr HO_5 hb, zr HO_6 hb, Aside0.mk (Kd.R_below (Kd.R_elderB (ze HO_217001).out gb222 (Nat.le_of_eq hg.symm)) hb), zk BK205 hb, zk BK216 hb, zbs hb, Aside0.mk (hbox), zg HB hg, zg HB hg, zn1 BK205 hg, zn2 BK205 hg, zn1 BK216 hg, zn2 BK216 hg⟩; clear HO_4 HO_5 HO_6 HO_217001 BK205 BK216 HB; obtain ⟨HO_4, HO_5, HO_6, HO_217001, BK205, BK216, HB, BK222, GW222, GE222, NB205_222, NB222_205, NB216_222, NB222_216⟩ := n_; clear hb hbox hg; have hnb44 := NB222_205.out; have hnc44 := NB205_222.out; have hnb45 := NB222_216.out; have hnc45 := NB216_222.out; obtain ⟨z46_0, z46_1, z46_2, y46_0, y46_1, y46_2⟩ := zB3 BK222; obtain ⟨Ao47, co47, eo47⟩ := Kd.R_slice HO_5.out; subst eo47; have p223 : 0 ≤ (((rd_T81 ((rd_T31 l0 0).f1) x8_1).f1) : Int) := of_decide_eq_true (by first | (with_reducible assumption) | assumption); have q223 : ((rd_T81 ((rd_T31 l0 0).f1) x8_1).f1) < (x5_1.length : Int) := of_decide_eq_true (by first | (with_reducible assumption) | assumption); obtain ⟨ad223, e223, hx223_0⟩ := Kd.at_int (Kd.R_reads' HO_5.out).2.2 ((rd_T81 ((rd_T31 l0 0).f1) x8_1).f1) p223 q223; cases e223; have hn223_0 : ad223.block ≠ gb222 := Kd.own_blk (Kd.R_ne HO_5.out BK222.out (by decide)); have hn223_1 : ad223.block ≠ gb222 := Kd.own_blk (Kd.R_ne HO_5.out BK222.out (by decide)); have hn223_2 : ad223.block ≠ gb222 := Kd.own_blk (Kd.R_ne HO_5.out BK222.out (by decide)); replace hx223_0 := (cell_far (p := ⟨gb222, 0, none⟩) (by first | (rw [add_block]; exact hn223_0) | (show (Addr.add _ _).block ≠ _; rw [add_block]; exact hn223_0) | exact hn223_0) (.int .i8 ((rd_T81 ((rd_T31 l0 0).f1) x8_1).f0))).trans hx223_0; replace hx223_0 := (cell_far (p := ⟨gb222, 1, none⟩) (by first | (rw [add_block]; exact hn223_1) | (show (Addr.add _ _).block ≠ _; rw [add_block]; exact hn223_1) | exact hn223_1) (.int .i16 ((rd_T81 ((rd_T31 l0 0).f1) x8_1).f1))).trans hx223_0; replace hx223_0 := (cell_far (p := ⟨gb222, 2, none⟩) (by first | (rw [add_block]; exact hn223_2) | (show (Addr.add _ _).block ≠ _; rw [add_block]; exact hn223_2) | exact hn223_2) (.int .i16 ((rd_T81 ((rd_T31 l0 0).f1) x8_1).f2))).trans hx223_0; clear hn223_0; clear hn223_1; clear hn223_2; replace p223 := eq_true p223; replace q223 := eq_true q223; have p224 : 0 ≤ (((rd_T81 ((rd_T31 l0 0).f1) x8_1).f2) : Int) := of_decide_eq_true (by first | (with_reducible assumption) | assumption); have q224 : ((rd_T81 ((rd_T31 l0 0).f1) x8_1).f2) < (x5_1.length : Int) := of_decide_eq_true (by first | (with_reducible assumption) | assumption); obtain ⟨ad224, e224, hx224_0⟩ := Kd.at_int (Kd.R_reads' HO_5.out).2.2 ((rd_T81 ((rd_T31 l0 0).f1) x8_1).f2) p224 q224; obtain rfl : ad223 = ad224 := (by injection e224); have hn224_0 : ad223.block ≠ gb222 := Kd.own_blk (Kd.R_ne HO_5.out BK222.out (by decide)); have hn224_1 : ad223.block ≠ gb222 := Kd.own_blk (Kd.R_ne HO_5.out BK222.out (by decide)); have hn224_2 : ad223.block ≠ gb222 := Kd.own_blk (Kd.R_ne HO_5.out BK222.out (by decide)); have hn224_3 : ad223.block ≠ gb222 := Kd.own_blk (Kd.R_ne HO_5.out BK222.out (by decide)); replace hx224_0 := (cell_far (p := ⟨gb222, 0, none⟩) (by first | (rw [add_block]; exact hn224_0) | (show (Addr.add _ _).block ≠ _; rw [add_block]; exact hn224_0) | exact hn224_0) (.int .i8 ((rd_T81 ((rd_T31 l0 0).f1) x8_1).f0))).trans hx224_0; replace hx224_0 := (cell_far (p := ⟨gb222, 1, none⟩) (by first | (rw [add_block]; exact hn224_1) | (show (Addr.add _ _).block ≠ _; rw [add_block]; exact hn224_1) | exact hn224_1) (.int .i16 ((rd_T81 ((rd_T31 l0 0).f1) x8_1).f1))).trans hx224_0; replace hx224_0 := (cell_far (p := ⟨gb222, 2, none⟩) (by first | (rw [add_block]; exact hn224_2) | (show (Addr.add _ _).block ≠ _; rw [add_block]; exact hn224_2) | exact hn224_2) (.int .i16 ((rd_T81 ((rd_T31 l0 0).f1) x8_1).f2))).trans hx224_0; replace hx224_0 := (cell_far (p := ⟨gb222, 1, none⟩) (by first | (rw [add_block]; exact hn224_3) | (show (Addr.add _ _).block ≠ _; rw [add_block]; exact hn224_3) | exact hn224_3) (.int .i16 (IntKind.i16.wrap (rd x5_1 ((rd_T81 ((rd_T31 l0 0).f1) x8_1).f1))))).trans hx224_0; clear hn224_0; clear hn224_1; clear hn224_2; clear hn224_3; replace p224 := eq_true p224; replace q224 := eq_true q224; obtain ⟨Ao48, co48, eo48⟩ := Kd.R_slice HO_4.out; subst eo48; have p225 : 0 ≤ (x8_1 : Int) := of_decide_eq_true (by first | (with_reducible assumption) | assumption); have q225 : x8_1 < (t206.length : Int) := of_decide_eq_true (by first | (with_reducible assumption) | assumption); obtain ⟨ad225, e225, hx225_0⟩ := Kd.at_int (Kd.R_reads' HO_4.out).2.2 x8_1 p225 q225; cases e225; have hn225_0 : ad225.block ≠ gb222 := Kd.own_blk (Kd.R_ne HO_4.out BK222.out (by decide)); have hn225_1 : ad225.block ≠ gb222 := Kd.own_blk (Kd.R_ne HO_4.out BK222.out (by decide)); have hn225_2 : ad225.block ≠ gb222 := Kd.own_blk (Kd.R_ne HO_4.out BK222.out (by decide)); have hn225_3 : ad225.block ≠ gb222 := Kd.own_blk (Kd.R_ne HO_4.out BK222.out (by decide)); have hn225_4 : ad225.block ≠ gb222 := Kd.own_blk (Kd.R_ne HO_4.out BK222.out (by decide)); replace hx225_0 := (cell_far (p := ⟨gb222, 0, none⟩) (by first | (rw [add_block]; exact hn225_0) | (show (Addr.add _ _).block ≠ _; rw [add_block]; exact hn225_0) | exact hn225_0) (.int .i8 ((rd_T81 ((rd_T31 l0 0).f1) x8_1).f0))).trans hx225_0; replace hx225_0 := (cell_far (p := ⟨gb222, 1, none⟩) (by first | (rw [add_block]; exact hn225_1) | (show (Addr.add _ _).block ≠ _; rw [add_block]; exact hn225_1) | exact hn225_1) (.int .i16 ((rd_T81 ((rd_T31 l0 0).f1) x8_1).f1))).trans hx225_0; replace hx225_0 := (cell_far (p := ⟨gb222, 2, none⟩) (by first | (rw [add_block]; exact hn225_2) | (show (Addr.add _ _).block ≠ _; rw [add_block]; exact hn225_2) | exact hn225_2) (.int .i16 ((rd_T81 ((rd_T31 l0 0).f1) x8_1).f2))).trans hx225_0; replace hx225_0 := (cell_far (p := ⟨gb222, 1, none⟩) (by first | (rw [add_block]; exact hn225_3) | (show (Addr.add _ _).block ≠ _; rw [add_block]; exact hn225_3) | exact hn225_3) (.int .i16 (IntKind.i16.wrap (rd x5_1 ((rd_T81 ((rd_T31 l0 0).f1) x8_1).f1))))).trans hx225_0; replace hx225_0 := (cell_far (p := ⟨gb222, 2, none⟩) (by first | (rw [add_block]; exact hn225_4) | (show (Addr.add _ _).block ≠ _; rw [add_block]; exact hn225_4) | exact hn225_4) (.int .i16 (IntKind.i16.wrap (rd x5_1 ((rd_T81 ((rd_T31 l0 0).f1) x8_1).f2))))).trans hx225_0; clear hn225_0; clear hn225_1; clear hn225_2; clear hn225_3; clear hn225_4; replace p225 := eq_true p225; replace q225 := eq_true q225) | ((with_reducible refine gate_builtin (b := .append) (xs := #[.tmp 75, .tmp 80]) rfl ?_); at_builtin; refine Kd.R_append (Kd.int .u64) (w0 := w) w.heap.size rfl (.tmp 75) (.tmp 80) 53 98 (.int .u64 0) 8 rfl Try.underlying53 info98 rfl (by decide) (by omega) (.slice Ao42 x6_1.length co42) x6_1 (rd t206 x8_1) [.int .u64 (rd t206 x8_1)] (fun k_ => some k_ ≠ (.slice (some ad225) t206.length co48 : Value).ownBlock) (fun _ => False) rfl (by first | (go_simp; done) | (go_simp; rfl)) ?aP (fun _ hk => hk.elim) ?aF ?aO ?aB ?aS ?aL ?_; (case aP => exact rfl); (case aB => exact (by repeat (first | (with_reducible first | exact HB.out | apply below_alloc | apply pw_below_drewN | apply below_drew1 | refine below_set ?_ GE205.out | refine below_set ?_ GE216.out | refine below_set ?_ GE222.out) | exact HB.out))); (case aF => exact (fun k_ hk => Kd.fresh' (Kd.R_lt (zs HO_4 BK222).out) k_ hk)); (case aO => exact (by (with_reducible repeat (first | apply Kd.R_alloc | apply Kd.R_drewN | apply Kd.R_drew)); exact Kd.R_mono (Kd.R_far (p := ⟨gb222, 2, none⟩) (Kd.R_far (p := ⟨gb222, 1, none⟩) (Kd.R_far (p := ⟨gb222, 2, none⟩) (Kd.R_far (p := ⟨gb222, 1, none⟩) (Kd.R_far (p := ⟨gb222, 0, none⟩) (Kd.R_types HO_6.out BK222.out (by decide)) (fun _ hk => hk.2) (.int .i8 ((rd_T81 ((rd_T31 l0 0).f1) x8_1).f0))) (fun _ hk => hk.2) (.int .i16 ((rd_T81 ((rd_T31 l0 0).f1) x8_1).f1))) (fun _ hk => hk.2) (.int .i16 ((rd_T81 ((rd_T31 l0 0).f1) x8_1).f2))) (fun _ hk => hk.2) (.int .i16 (IntKind.i16.wrap (rd x5_1 ((rd_T81 ((rd_T31 l0 0).f1) x8_1).f1))))) (fun _ hk => hk.2) (.int .i16 (IntKind.i16.wrap (rd x5_1 ((rd_T81 ((rd_T31 l0 0).f1) x8_1).f2))))) (fun _ hk => hk.1))); (case aS => exact (zz HB)); (case aL => have := LMc39.out; omega); intro v227 w49 ho hb hg hat; rw [← Ny226.out] at ho; have n_ : _ ∧ _ ∧ _ ∧ _ ∧ _ ∧ _ ∧ _ ∧ _ := ⟨Aside0.mk (Kd.R_after (ok := (fun _ => True)) (by (with_reducible repeat (first | apply Kd.R_alloc | apply Kd.R_drewN | apply Kd.R_drew)); exact Kd.R_mono (Kd.R_far (p := ⟨gb222, 2, none⟩) (Kd.R_far (p := ⟨gb222, 1, none⟩) (Kd.R_far (p := ⟨gb222, 2, none⟩) (Kd.R_far (p := ⟨gb222, 1, none⟩) (Kd.R_far (p := ⟨gb222, 0, none⟩) (Kd.R_types HO_4.out BK222.out (by decide)) (fun _ hk => hk.2) (.int .i8 ((rd_T81 ((rd_T31 l0 0).f1) x8_1).f0))) (fun _ hk => hk.2) (.int .i16 ((rd_T81 ((rd_T31 l0 0).f1) x8_1).f1))) (fun _ hk => hk.2) (.int .i16 ((rd_T81 ((rd_T31 l0 0).f1) x8_1).f2))) (fun _ hk => hk.2) (.int .i16 (IntKind.i16.wrap (rd x5_1 ((rd_T81 ((rd_T31 l0 0).f1) x8_1).f1))))) (fun _ hk => hk.2) (.int .i16 (IntKind.i16.wrap (rd x5_1 ((rd_T81 ((rd_T31 l0 0).f1) x8_1).f2))))) (fun _ hk => ⟨trivial, hk.1⟩)) hg hat), Aside0.mk (Kd.R_over' (zs HO_5 BK222).out (Kd.R_typed (zs HO_6 BK222).out) (by decide) hg), Aside0.mk (Kd.R_over' (by (with_reducible repeat (first | apply Kd.R_alloc | apply Kd.R_drewN | apply Kd.R_drew)); exact (Kd.R_mono (Kd.R_far (p := ⟨gb222, 2, none⟩) (Kd.R_far (p := ⟨gb222, 1, none⟩) (Kd.R_far (p := ⟨gb222, 2, none⟩) (Kd.R_far (p := ⟨gb222, 1, none⟩) (Kd.R_far (p := ⟨gb222, 0, none⟩) (Kd.R_mono HO_217001.out (fun k_ hk => (⟨hk, hk.2⟩ : _ ∧ k_ ≠ gb222))) (fun _ hk => hk.2) (.int .i8 ((rd_T81 ((rd_T31 l0 0).f1) x8_1).f0))) (fun _ hk => hk.2) (.int .i16 ((rd_T81 ((rd_T31 l0 0).f1) x8_1).f1))) (fun _ hk => hk.2) (.int .i16 ((rd_T81 ((rd_T31 l0 0).f1) x8_1).f2))) (fun _ hk => hk.2) (.int .i16 (IntKind.i16.wrap (rd x5_1 ((rd_T81 ((rd_T31 l0 0).f1) x8_1).f1))))) (fun _ hk => hk.2) (.int .i16 (IntKind.i16.wrap (rd x5_1 ((rd_T81 ((rd_T31 l0 0).f1) x8_1).f2))))) (fun _ h_ => h_.1))) (Kd.R_typed (zs HO_6 BK222).out) (by decide) hg), Aside0.mk (blk_grown (g := gb205) (o := .cells #[.int .i8 0, .slice none 0 0, .slice none 0 0] 31 (0, 0)) (zf BK205 NB205_222).out hg (Kd.R_ne HO_6.out BK205.out (by decide))), Aside0.mk (blk_grown (g := gb216) (o := .cells #[.int .i8 ((rd_T31 l0 0).f0), u217001, .slice none 0 0] 31 (0, 0)) (zf BK216 NB216_222).out hg (Kd.R_ne HO_6.out BK216.out (by decide))), Aside0.mk (blk_grown (g := gb222) (o := .cells #[.int .i8 ((rd_T81 ((rd_T31 l0 0).f1) x8_1).f0), .int .i16 (IntKind.i16.wrap (rd x5_1 ((rd_T81 ((rd_T31 l0 0).f1) x8_1).f1))), .int .i16 (IntKind.i16.wrap (rd x5_1 ((rd_T81 ((rd_T31 l0 0).f1) x8_1).f2)))] 81 (0, 0)) (by (with_reducible repeat (first | refine blk_drewN ?_ _ | refine blk_drew ?_ | refine blk_alloc ?_ _)); refine blk_put (cs := #[.int .i8 ((rd_T81 ((rd_T31 l0 0).f1) x8_1).f0), .int .i16 (IntKind.i16.wrap (rd x5_1 ((rd_T81 ((rd_T31 l0 0).f1) x8_1).f1))), .int .i16 ((rd_T81 ((rd_T31 l0 0).f1) x8_1).f2)]) ?_ 2 _ rfl; (with_reducible repeat (first | refine blk_drewN ?_ _ | refine blk_drew ?_ | refine blk_alloc ?_ _)); refine blk_put (cs := #[.int .i8 ((rd_T81 ((rd_T31 l0 0).f1) x8_1).f0), .int .i16 ((rd_T81 ((rd_T31 l0 0).f1) x8_1).f1), .int .i16 ((rd_T81 ((rd_T31 l0 0).f1) x8_1).f2)]) ?_ 1 _ rfl; (with_reducible repeat (first | refine blk_drewN ?_ _ | refine blk_drew ?_ | refine blk_alloc ?_ _)); refine blk_put (cs := #[.int .i8 ((rd_T81 ((rd_T31 l0 0).f1) x8_1).f0), .int .i16 ((rd_T81 ((rd_T31 l0 0).f1) x8_1).f1), .int .i16 0]) ?_ 2 _ rfl; (with_reducible repeat (first | refine blk_drewN ?_ _ | refine blk_drew ?_ | refine blk_alloc ?_ _)); refine blk_put (cs := #[.int .i8 ((rd_T81 ((rd_T31 l0 0).f1) x8_1).f0), .int .i16 0, .int .i16 0]) ?_ 1 _ rfl; (with_reducible repeat (first | refine blk_drewN ?_ _ | refine blk_drew ?_ | refine blk_alloc ?_ _)); refine blk_put (cs := #[.int .i8 0, .int .i16 0, .int .i16 0]) ?_ 0 _ rfl; (with_reducible repeat (first | refine blk_drewN ?_ _ | refine blk_drew ?_ | refine blk_alloc ?_ _)); exact BK222.out) hg (Kd.R_ne HO_6.out BK222.out (by decide))), Aside0.mk (hb), Aside0.mk (ho)⟩; clear HO_4 HO_5 HO_217001 BK205 BK216 BK222 HB HO_6; obtain ⟨HO_4, HO_5, HO_217001, BK205, BK216, BK222, HB, HO228⟩ := n_; clear ho hb hg hat; have hnb50 := NB216_205.out; have hnc50 := NB205_216.out; obtain ⟨z51_0, z51_1, z51_2, y51_0, y51_1, y51_2⟩ := zB3 BK216; obtain ⟨z52_0, z52_1, z52_2, y52_0, y52_1, y52_2⟩ := zB3 BK222) | ((with_reducible refine gate_builtin (b := .append) (xs := #[.tmp 83, .tmp 85]) rfl ?_); at_builtin; refine Kd.R_append k81 (w0 := w) w.heap.size rfl (.tmp 83) (.tmp 85) 29 81 (.agg #[(.int .i8 0), (.int .i16 0), (.int .i16 0)]) 6 rfl Try.underlying29 info81 rfl (by decide) (by omega) u217001 x217001_1 (⟨(rd_T81 ((rd_T31 l0 0).f1) x8_1).f0, IntKind.i16.wrap (rd x5_1 ((rd_T81 ((rd_T31 l0 0).f1) x8_1).f1)), IntKind.i16.wrap (rd x5_1 ((rd_T81 ((rd_T31 l0 0).f1) x8_1).f2))⟩ : S81) [.int .i8 ((rd_T81 ((rd_T31 l0 0).f1) x8_1).f0), .int .i16 (IntKind.i16.wrap (rd x5_1 ((rd_T81 ((rd_T31 l0 0).f1) x8_1).f1))), .int .i16 (IntKind.i16.wrap (rd x5_1 ((rd_T81 ((rd_T31 l0 0).f1) x8_1).f2)))] (fun k_ => k_ ≠ gb222) (fun _ => False) rfl rfl ?aP (fun _ hk => hk.elim) ?aF ?aO ?aB ?aS ?aL ?_; (case aP => exact k81_mkM _ _ _ (⟨(rd_T81 ((rd_T31 l0 0).f1) x8_1).f0, IntKind.i16.wrap (rd x5_1 ((rd_T81 ((rd_T31 l0 0).f1) x8_1).f1)), IntKind.i16.wrap (rd x5_1 ((rd_T81 ((rd_T31 l0 0).f1) x8_1).f2))⟩ : S81)); (case aB => exact (by repeat (first | (with_reducible first | exact HB.out | apply below_alloc | apply pw_below_drewN | apply below_drew1 | refine below_set ?_ GE205.out | refine below_set ?_ GE216.out | refine below_set ?_ GE222.out) | exact HB.out))); (case aF => exact (fun k_ hk => Kd.freshB (g := gb222) (o := .cells #[.int .i8 ((rd_T81 ((rd_T31 l0 0).f1) x8_1).f0), .int .i16 (IntKind.i16.wrap (rd x5_1 ((rd_T81 ((rd_T31 l0 0).f1) x8_1).f1))), .int .i16 (IntKind.i16.wrap (rd x5_1 ((rd_T81 ((rd_T31 l0 0).f1) x8_1).f2)))] 81 (0, 0)) (zh BK222).out k_ hk)); (case aO => exact (by (with_reducible repeat (first | apply Kd.R_alloc | apply Kd.R_drewN | apply Kd.R_drew)); exact Kd.R_mono HO_217001.out (fun _ hk => hk.2))); (case aS => exact (zz HB)); (case aL => have := LMc40.out; omega); intro v230 w53 ho hb hg hat; rw [← Ny229.out] at ho; have n_ : _ ∧ _ ∧ _ ∧ _ ∧ _ ∧ _ ∧ _ ∧ _ := ⟨Aside0.mk (Kd.R_over' (ze HO_4).out (Kd.R_typed (ze HO_217001).out) (by decide) hg), Aside0.mk (Kd.R_over' (ze HO_5).out (Kd.R_typed (ze HO_217001).out) (by decide) hg), Aside0.mk (blk_grown (g := gb205) (o := .cells #[.int .i8 0, .slice none 0 0, .slice none 0 0] 31 (0, 0)) (zh BK205).out hg (Kd.R_ne HO_217001.out BK205.out (by decide))), Aside0.mk (blk_grown (g := gb216) (o := .cells #[.int .i8 ((rd_T31 l0 0).f0), u217001, .slice none 0 0] 31 (0, 0)) (zh BK216).out hg (Kd.R_ne HO_217001.out BK216.out (by decide))), Aside0.mk (blk_grown (g := gb222) (o := .cells #[.int .i8 ((rd_T81 ((rd_T31 l0 0).f1) x8_1).f0), .int .i16 (IntKind.i16.wrap (rd x5_1 ((rd_T81 ((rd_T31 l0 0).f1) x8_1).f1))), .int .i16 (IntKind.i16.wrap (rd x5_1 ((rd_T81 ((rd_T31 l0 0).f1) x8_1).f2)))] 81 (0, 0)) (zh BK222).out hg (Kd.R_away HO_217001.out (fun _ hk => hk.2))), Aside0.mk (Kd.R_over' (ze HO228).out (Kd.R_typed (ze HO_217001).out) (by decide) hg), Aside0.mk (hb), Aside0.mk (ho)⟩; clear HO_4 HO_5 BK205 BK216 BK222 HO228 HB HO_217001; obtain ⟨HO_4, HO_5, BK205, BK216, BK222, HO228, HB, HO231⟩ := n_; clear ho hb hg hat; obtain ⟨Ao54, co54, eo54⟩ := Kd.R_slice HO231.out; subst eo54; obtain ⟨z55_0, z55_1, z55_2, y55_0, y55_1, y55_2⟩ := zB3 BK216) | ((with_reducible refine gate_builtin (b := .append) (xs := #[.tmp 88, .tmp 90]) rfl ?_); at_builtin; refine Kd.R_append (Kd.int .i64) (w0 := w) w.heap.size rfl (.tmp 88) (.tmp 90) 47 2 (.int .i64 0) 8 rfl Try.underlying47 info2 rfl (by decide) (by omega) (.slice (some ad223) x5_1.length co47) x5_1 x9_14 [.int .i64 x9_14] (fun _ => True) (fun _ => False) rfl (by first | (go_simp; done) | (go_simp; rfl)) ?aP (fun _ hk => hk.elim) ?aF ?aO ?aB ?aS ?aL ?_; (case aP => exact rfl); (case aB => exact (by repeat (first | (with_reducible first | exact HB.out | apply below_alloc | apply pw_below_drewN | apply below_drew1 | refine below_set ?_ GE205.out | refine below_set ?_ GE216.out | refine below_set ?_ GE222.out) | exact HB.out))); (case aF => exact (fun _ _ => trivial)); (case aO => exact (by (with_reducible repeat (first | apply Kd.R_alloc | apply Kd.R_drewN | apply Kd.R_drew)); exact Kd.R_mono (Kd.R_far (p := ⟨gb216, 1, none⟩) (Kd.R_types HO_5.out BK216.out (by decide)) (fun _ hk => hk.2) (.slice Ao54 y229.length co54)) (fun _ hk => trivial))); (case aS => exact (zz HB)); (case aL => have := LMc41.out; omega); intro v233 w56 ho hb hg hat; rw [← Ny232.out] at ho; have n_ : _ ∧ _ ∧ _ ∧ _ ∧ _ ∧ _ ∧ _ ∧ _ := ⟨Aside0.mk (Kd.R_over' (zs HO_4 BK216).out (Kd.R_typed (zs HO_5 BK216).out) (by decide) hg), Aside0.mk (blk_grown (g := gb205) (o := .cells #[.int .i8 0, .slice none 0 0, .slice none 0 0] 31 (0, 0)) (zf BK205 NB205_216).out hg (Kd.R_ne HO_5.out BK205.out (by decide))), Aside0.mk (blk_grown (g := gb216) (o := .cells #[.int .i8 ((rd_T31 l0 0).f0), .slice Ao54 y229.length co54, .slice none 0 0] 31 (0, 0)) (by (with_reducible repeat (first | refine blk_drewN ?_ _ | refine blk_drew ?_ | refine blk_alloc ?_ _)); refine blk_put (cs := #[.int .i8 ((rd_T31 l0 0).f0), u217001, .slice none 0 0]) ?_ 1 _ rfl; (with_reducible repeat (first | refine blk_drewN ?_ _ | refine blk_drew ?_ | refine blk_alloc ?_ _)); exact BK216.out) hg (Kd.R_ne HO_5.out BK216.out (by decide))), Aside0.mk (blk_grown (g := gb222) (o := .cells #[.int .i8 ((rd_T81 ((rd_T31 l0 0).f1) x8_1).f0), .int .i16 (IntKind.i16.wrap (rd x5_1 ((rd_T81 ((rd_T31 l0 0).f1) x8_1).f1))), .int .i16 (IntKind.i16.wrap (rd x5_1 ((rd_T81 ((rd_T31 l0 0).f1) x8_1).f2)))] 81 (0, 0)) (zf BK222 NB222_216).out hg (Kd.R_ne HO_5.out BK222.out (by decide))), Aside0.mk (Kd.R_over' (zs HO228 BK216).out (Kd.R_typed (zs HO_5 BK216).out) (by decide) hg), Aside0.mk (Kd.R_over' (zs HO231 BK216).out (Kd.R_typed (zs HO_5 BK216).out) (by decide) hg), Aside0.mk (hb), Aside0.mk (ho)⟩; clear HO_4 BK205 BK216 BK222 HO228 HO231 HB HO_5; obtain ⟨HO_4, BK205, BK216, BK222, HO228, HO231, HB, HO234⟩ := n_; clear ho hb hg hat))
 go_roundg kj14
 case measure => have := HK1.out; have := HJ14.out; omega
 case rel => exact ⟨(y232), (y226), (wrap64 (x8_1 + 1)), (y229), (.slice Ao54 y229.length co54), (by first | rfl | (simp; done) | (simp [*]; done) | (exact congrArg (Value.int .i64) (wrap_eq (by omega)))), H', ⟨by have := HK1.out; have := HJ14.out; omega⟩, ⟨by (with_reducible repeat (first | apply Kd.R_alloc | apply Kd.R_drewN | apply Kd.R_drew)); exact Kd.R_mono HO_4.out (fun _ hk => hk.2)⟩, ze HO234, ze HO228, ⟨by (with_reducible repeat (first | apply Kd.R_alloc | apply Kd.R_drewN | apply Kd.R_drew)); exact Kd.R_mono HO231.out (fun _ hk => trivial)⟩, zh BK205, zh BK216, zba⟩
end Go.Proofs.Ytmpmanfoiocfgaa.PFnExactMergeOf
