-- WRITTEN by xprint.py, a program of this session's. Not trusted: Lean checks it.
-- packed by pack.py
import Derived.Test.YtmpmanfoiocfgaaPFnExactSimplifyNetworkx0
import Derived.Test.YtmpmanfoiocfgaaPFnExactSimplifyNetworkx9
import Derived.Test.YtmpmanfoiocfgaaPFnExactSimplifyNetworkx10
import Derived.Test.YtmpmanfoiocfgaaPFnExactSimplifyNetworkx12
import Derived.Test.YtmpmanfoiocfgaaTFnExactSimplifyNetworka
namespace Go.Proofs.Ytmpmanfoiocfgaa.PFnExactSimplifyNetwork
open Go.RowKit Go.Proofs.YtmpmanfoiocfgaaW.PrintWords Go.Proofs.YtmpmanfoiocfgaaW.PrintLast Go.Proofs.YtmpmanfoiocfgaaW.PrintMore Go.Proofs.YtmpmanfoiocfgaaX
attribute [local go_sem] max2_int min2_int max_two min_two max_three min_three max_four min_four   -- for this text's walks alone
set_option maxHeartbeats 8000000
set_option maxRecDepth 100000
set_option linter.unusedVariables false
set_option linter.unusedSimpArgs false

def slices_Index_uint64_uint64.l0 : Nat → List Int → Int → Int → Int → Option (Int)
  | 0, _, _, _, _ => none
  | k + 1, x0, x1, x7, x8 => if x8 < x7 then (if 0 ≤ x8 then (if x8 < (x0.length : Int) then (if x1 = (rd x0 x8) then (some x8) else (slices_Index_uint64_uint64.l0 k x0 x1 x7 (wrap64 (x8 + 1)))) else (none)) else (none)) else (some (-1))
def slices_Index_uint64_uint64.f (k : Nat) (l0 : List Int) (a1 : Int) : Option (Int) := slices_Index_uint64_uint64.l0 k l0 a1 (l0.length : Int) 0
theorem slices_Index_uint64_uint64.mono_l : ∀ k, (∀ y0 y1 y2 y3, LeO (slices_Index_uint64_uint64.l0 k y0 y1 y2 y3) (slices_Index_uint64_uint64.l0 (k + 1) y0 y1 y2 y3))
  | 0 => fun _ _ _ _ r h => by simp [slices_Index_uint64_uint64.l0] at h
  | k + 1 => by
    have ih0 := slices_Index_uint64_uint64.mono_l k
    · intro y0 y1 y2 y3
      unfold slices_Index_uint64_uint64.l0
      repeat' first | (with_reducible first | apply ih0 | exact LeO.refl _ | exact LeO.none _ | refine LeO.ite ?_ ?_ | refine LeO.bind ?_ (fun _ => ?_)) | apply ih0 | exact LeO.none _ | refine LeO.ite ?_ ?_ | refine LeO.bind ?_ (fun _ => ?_)
theorem slices_Index_uint64_uint64.mono : ∀ a0 a1 k, LeO (slices_Index_uint64_uint64.f k a0 a1) (slices_Index_uint64_uint64.f (k + 1) a0 a1) := by
 intro a0 a1 k
 have ih0 := slices_Index_uint64_uint64.mono_l k
 unfold slices_Index_uint64_uint64.f
 repeat' first | (with_reducible first | apply ih0 | exact LeO.refl _ | exact LeO.none _ | refine LeO.ite ?_ ?_ | refine LeO.bind ?_ (fun _ => ?_)) | apply ih0 | exact LeO.none _ | refine LeO.ite ?_ ?_ | refine LeO.bind ?_ (fun _ => ?_)
theorem slices_Index_uint64_uint64.calls (k : Nat) (A0 : Option Addr) (c0 : Nat) (l0 : List Int) (a1 : Int) (r : Int) (w : World) (hr0 : Kd.C (Kd.int .u64) w A0 l0.length l0) (hc0 : l0.length ≤ c0) (h : slices_Index_uint64_uint64.f k l0 a1 = some r) :
    Calls Try.prog 140 #[.slice A0 l0.length c0, .int .u64 a1] w fun e w' => e = .returned (.int .i64 r) ∧ Drawn0 w w' := by
 have HR0 := Aside0.mk hr0
 have HC0 := Aside0.mk hc0
 clear hr0 hc0
 have H : (slices_Index_uint64_uint64.l0 k l0 a1 (l0.length : Int) 0) = some r := h
 clear h
 have H' := Aside0.mk H
 clear H
 go_enter Try.func140, Try.ntmps140
 go_wp2
 go_loopg [8] k (fun kq v8 w' => ∃ (x8_1 : Int), v8 = .int .i64 x8_1 ∧ Aside0 (slices_Index_uint64_uint64.l0 kq l0 a1 (l0.length : Int) x8_1 = some r) ∧ Aside0 (kq ≤ k) ∧ Drawn0 w w')
 case atStart => exact ⟨(0), zi, H', ⟨Nat.le_refl _⟩, zdr⟩
 clear H'
 try clear c1
 try clear p2
 obtain ⟨x8_1, rfl, HA, HK1, ⟨m1, rfl⟩⟩ := hrel
 cases gk with
 | zero => exact absurd HA.out (by simp [slices_Index_uint64_uint64.l0])
 | succ k1 => ?_
 have H := HA.out
 clear HA
 simp only [slices_Index_uint64_uint64.l0] at H
 by_cases c3 : x8_1 < (l0.length : Int)
 rotate_left
 ·rw [if_neg c3] at H
  have c3b0 : decide (x8_1 < (l0.length : Int)) = false := decide_eq_false c3
  clear c3
  obtain rfl := Option.some.inj H
  go_wp2
  go_ret
  exact ⟨zi, zdr⟩
 rw [if_pos c3] at H
 have c3b0 : decide (x8_1 < (l0.length : Int)) = true := decide_eq_true c3
 clear c3
 by_cases c4 : 0 ≤ x8_1
 rotate_left
 ·rw [if_neg c4] at H
  exact absurd H (by simp)
 rw [if_pos c4] at H
 have c4b0 : decide (0 ≤ x8_1) = true := decide_eq_true c4
 clear c4
 by_cases c5 : x8_1 < (l0.length : Int)
 rotate_left
 ·rw [if_neg c5] at H
  exact absurd H (by simp)
 rw [if_pos c5] at H
 have c5b0 : decide (x8_1 < (l0.length : Int)) = true := decide_eq_true c5
 clear c5
 by_cases c6 : a1 = (rd l0 x8_1)
 ·rw [if_pos c6] at H
  have c6b0 : (a1 == (rd l0 x8_1)) = true := beq_iff_eq.mpr c6
  have c6b1 : (a1 != (rd l0 x8_1)) = false := bne_eq_false_iff_eq.mpr c6
  clear c6
  obtain rfl := Option.some.inj H
  have p422 : 0 ≤ (x8_1 : Int) := of_decide_eq_true zA
  have q422 : x8_1 < (l0.length : Int) := of_decide_eq_true zA
  obtain ⟨ad422, e422, hx422_0⟩ := Kd.at_int HR0.out x8_1 p422 q422
  cases e422
  replace p422 := eq_true p422
  replace q422 := eq_true q422
  go_wp2
  go_ret
  exact ⟨zi, zdr⟩
 rw [if_neg c6] at H
 have c6b0 : (a1 == (rd l0 x8_1)) = false := beq_eq_false_iff_ne.mpr c6
 have c6b1 : (a1 != (rd l0 x8_1)) = true := bne_iff_ne.mpr c6
 have H' := Aside0.mk H
 clear H
 have p422 : 0 ≤ (x8_1 : Int) := of_decide_eq_true zA
 have q422 : x8_1 < (l0.length : Int) := of_decide_eq_true zA
 obtain ⟨ad422, e422, hx422_0⟩ := Kd.at_int HR0.out x8_1 p422 q422
 cases e422
 replace p422 := eq_true p422
 replace q422 := eq_true q422
 go_wp2
 go_roundg k1
 case measure => have := HK1.out; omega
 case rel => exact ⟨(wrap64 (x8_1 + 1)), zi, H', ⟨by have := HK1.out; omega⟩, zdr⟩
def impl_Network_merged.l0 : Nat → List (S31) → List Int → List Int → List Int → Int → Int → Int → List (S81) → Option (Int × (List (S81)) × List Int × List Int)
  | 0, _, _, _, _, _, _, _, _ => none
  | k + 1, x0, x5, x6, x18, x19, x20, x432000, x432001 => if x20 < x19 then (if 0 ≤ x20 then (if x20 < (x18.length : Int) then ((slices_Index_uint64_uint64.f k x6 (rd x18 x20)).bind fun t440 => (if t440 < 0 then (if x6.length < 17592186044416 then (if 0 < (x0.length : Int) then (if x20 < (((rd_T31 x0 0).f1).length : Int) then ((impl_Node_renamed.f ((rd_T81 ((rd_T31 x0 0).f1) x20).f0) ((rd_T81 ((rd_T31 x0 0).f1) x20).f1) ((rd_T81 ((rd_T31 x0 0).f1) x20).f2) x5).bind fun bt446 => (if x432001.length < 23456248059221 then (if x5.length < 70368744177664 then (impl_Network_merged.l0 k x0 (x5 ++ [IntKind.i16.wrap ((x6.length : Int))]) (x6 ++ [rd x18 x20]) x18 x19 (wrap64 (x20 + 1)) x432000 (x432001 ++ [(⟨bt446.1, bt446.2.1, bt446.2.2⟩ : S81)])) else (none)) else (none))) else (none)) else (none)) else (none)) else (if x5.length < 70368744177664 then (impl_Network_merged.l0 k x0 (x5 ++ [IntKind.i16.wrap (t440)]) x6 x18 x19 (wrap64 (x20 + 1)) x432000 x432001) else (none)))) else (none)) else (none)) else (if 0 < (x0.length : Int) then ((impl_renamedAll.f k ((rd_T31 x0 0).f2) x5).bind fun t436 => (some (x432000, x432001, t436, x5))) else (none))
def impl_Network_merged.f (k : Nat) (l0 : List (S31)) : Option (Int × (List (S81)) × List Int × List Int) := if 0 < (l0.length : Int) then ((impl_Network_tables.f k l0).bind fun t432 => (impl_Network_merged.l0 k l0 (([] : List Int)) (([] : List Int)) t432 (t432.length : Int) 0 ((rd_T31 l0 0).f0) ([] : List (S81)))) else (none)
theorem impl_Network_merged.mono_l : ∀ k, (∀ y0 y1 y2 y3 y4 y5 y6 y7, LeO (impl_Network_merged.l0 k y0 y1 y2 y3 y4 y5 y6 y7) (impl_Network_merged.l0 (k + 1) y0 y1 y2 y3 y4 y5 y6 y7))
  | 0 => fun _ _ _ _ _ _ _ _ r h => by simp [impl_Network_merged.l0] at h
  | k + 1 => by
    have ih0 := impl_Network_merged.mono_l k
    · intro y0 y1 y2 y3 y4 y5 y6 y7
      unfold impl_Network_merged.l0
      repeat' first | (with_reducible first | apply ih0 | apply impl_Network_tables.mono | apply impl_renamedAll.mono | apply slices_Index_uint64_uint64.mono | exact LeO.refl _ | exact LeO.none _ | refine LeO.ite ?_ ?_ | refine LeO.bind ?_ (fun _ => ?_)) | apply ih0 | apply impl_Network_tables.mono | apply impl_renamedAll.mono | apply slices_Index_uint64_uint64.mono | exact LeO.none _ | refine LeO.ite ?_ ?_ | refine LeO.bind ?_ (fun _ => ?_)
theorem impl_Network_merged.mono : ∀ a0 k, LeO (impl_Network_merged.f k a0) (impl_Network_merged.f (k + 1) a0) := by
 intro a0 k
 have ih0 := impl_Network_merged.mono_l k
 unfold impl_Network_merged.f
 repeat' first | (with_reducible first | apply ih0 | apply impl_Network_tables.mono | apply impl_renamedAll.mono | apply slices_Index_uint64_uint64.mono | exact LeO.refl _ | exact LeO.none _ | refine LeO.ite ?_ ?_ | refine LeO.bind ?_ (fun _ => ?_)) | apply ih0 | apply impl_Network_tables.mono | apply impl_renamedAll.mono | apply slices_Index_uint64_uint64.mono | exact LeO.none _ | refine LeO.ite ?_ ?_ | refine LeO.bind ?_ (fun _ => ?_)
def impl_Network_merged.T8 : Bool × List (List Nat × List Nat) := (true, [([], []), ([], []), ([1], [1]), ([0, 2], [0, 2]), ([], []), ([4], [4]), ([], []), ([6], [6]), ([7], [7]), ([8], [8]), ([], []), ([9, 10], [9, 10]), ([11], [11]), ([], []), ([12, 13, 3], [12, 13]), ([14], [14]), ([5, 15, 14], [5, 15]), ([3, 16, 0, 1, 2, 3], [0, 3]), ([0, 1, 2, 3, 4, 5, 6, 7, 8, 9, 10, 11, 12, 13, 14, 15, 16, 17], []), ([18, 16, 17, 0, 1, 2, 3, 4, 5, 6, 7, 8, 9, 10, 11, 12, 13, 14, 15, 16, 17], [16, 18])])
def impl_Network_merged.B8 : List Nat := [0, 0, 2, 7, 0, 16, 0, 64, 192, 448, 0, 1984, 4032, 0, 16335, 32719, 65535, 131071, 262143, 524287]
theorem impl_Network_merged.tab8 : rtab .any (opsOf Try.f122 8) = impl_Network_merged.T8 := by kernel_rfl
theorem impl_Network_merged.bits8 : waitsOk impl_Network_merged.T8.2 impl_Network_merged.B8 = true := by kernel_rfl
theorem impl_Network_merged.calls (k : Nat) (adp0 : Addr) (l0 : List (S31)) (r1 : Int) (r2 : List (S81)) (r3 : List Int) (r4 : List Int) (w : World) (hr0 : Kd.C k31 w (some adp0) l0.length l0) (h : impl_Network_merged.f k l0 = some (r1, r2, r3, r4)) :
    Calls Try.prog 122 #[.pointer (some adp0)] w fun e w' => ∃ v1_ v2_ v3_ : Value, e = .returned (.tuple #[.agg #[.int .i8 r1, v1_, v2_], v3_]) ∧ Kd.R k81 81 w' w.heap.size (fun _ => True) v1_ r2 ∧ Kd.R (Kd.int .i16) 79 w' w.heap.size (fun k_ => some k_ ≠ (v3_ : Value).ownBlock) v2_ r3 ∧ Kd.R (Kd.int .i16) 79 w' w.heap.size (fun k_ => some k_ ≠ (v2_ : Value).ownBlock) v3_ r4 ∧ Below w.heap.size w w' := by
 have hu31 := Try.underlying31
 have hu81 := Try.underlying81
 have HR0 := Aside0.mk hr0
 clear hr0
 have HB := Aside0.mk (Below.refl w.heap.size w)
 have H : (if 0 < (l0.length : Int) then ((impl_Network_tables.f k l0).bind fun t432 => (impl_Network_merged.l0 k l0 (([] : List Int)) (([] : List Int)) t432 (t432.length : Int) 0 ((rd_T31 l0 0).f0) ([] : List (S81)))) else (none)) = some (r1, r2, r3, r4) := h
 clear h
 by_cases c2 : 0 < (l0.length : Int)
 rotate_left
 ·rw [if_neg c2] at H
  exact absurd H (by simp)
 rw [if_pos c2] at H
 have c2b0 : decide (0 < (l0.length : Int)) = true := decide_eq_true c2
 have c2b1 : decide (0 < l0.length) = true := decide_eq_true (by omega)
 clear c2
 obtain ⟨y425, hy425⟩ : ∃ y_ : List Int, y_ = (([] : List Int)) := ⟨_, rfl⟩
 replace H : ((impl_Network_tables.f k l0).bind fun t432 => (impl_Network_merged.l0 k l0 y425 (([] : List Int)) t432 (t432.length : Int) 0 ((rd_T31 l0 0).f0) ([] : List (S81)))) = some (r1, r2, r3, r4) := by first | (rw [hy425]; with_reducible exact H) | (have H2_ := (Option.bind_some _ _).symm.trans H; rw [hy425]; with_reducible exact H2_) | (have H2_ := (Option.bind_some _ _).symm.trans H; with_reducible exact H2_) | with_reducible exact H | (rw [hy425]; exact H) | exact H
 have Ny425 := Aside0.mk hy425
 clear hy425
 obtain ⟨y428, hy428⟩ : ∃ y_ : List Int, y_ = (([] : List Int)) := ⟨_, rfl⟩
 replace H : ((impl_Network_tables.f k l0).bind fun t432 => (impl_Network_merged.l0 k l0 y425 y428 t432 (t432.length : Int) 0 ((rd_T31 l0 0).f0) ([] : List (S81)))) = some (r1, r2, r3, r4) := by first | (rw [hy428]; with_reducible exact H) | (have H2_ := (Option.bind_some _ _).symm.trans H; rw [hy428]; with_reducible exact H2_) | (have H2_ := (Option.bind_some _ _).symm.trans H; with_reducible exact H2_) | with_reducible exact H | (rw [hy428]; exact H) | exact H
 have Ny428 := Aside0.mk hy428
 clear hy428
 replace H := zob H
 obtain ⟨t432, A30, H⟩ := H
 replace H : (impl_Network_merged.l0 k l0 y425 y428 t432 (t432.length : Int) 0 ((rd_T31 l0 0).f0) ([] : List (S81))) = some (r1, r2, r3, r4) := H
 have A3 := Aside0.mk A30
 clear A30
 have H' := Aside0.mk H
 clear H
 go_enter Try.func122, Try.ntmps122
 go_wp2_with (first | ((with_reducible refine gate_dst (N := 2) rfl ?_); refine zbx 2 #[.int .i8 0, .slice none 0 0, .slice none 0 0] 31 ?_; intro gb423 hg w4 hbox hb; have n_ : _ ∧ _ ∧ _ ∧ _ := ⟨zb HB hb, Aside0.mk (hbox), zg HB hg, zg HB hg⟩; clear HB; obtain ⟨HB, BK423, GW423, GE423⟩ := n_; clear hb hbox hg; have p424 : 0 ≤ (0 : Int) := (by omega); have q424 : 0 < (l0.length : Int) := of_decide_eq_true zA; obtain ⟨ad424, A424_1, c424_1, A424_2, c424_2, e424, hx424_0, hx424_1, hx424_2, hl424_1, hi424_1, hl424_2, hi424_2⟩ := at_T31 HR0.out 0 p424 q424; obtain rfl : adp0 = ad424 := (by injection e424); have qi424 : (0 < l0.length) = True := eq_true (by omega); (try simp only [z00, Nat.zero_mul, Addr.add_zero'] at hx424_0 hx424_1 hx424_2); replace hx424_0 := zc HB hx424_0; replace hx424_1 := zc HB hx424_1; replace hx424_2 := zc HB hx424_2; have HR424_1 := Aside0.mk hi424_1; have HC424_1 := Aside0.mk hl424_1; clear hi424_1 hl424_1; have HR424_2 := Aside0.mk hi424_2; have HC424_2 := Aside0.mk hl424_2; clear hi424_2 hl424_2; replace p424 := eq_true p424; replace q424 := eq_true q424) | ((with_reducible refine gate_dst (N := 15) rfl ?_); refine Kd.R_lit (Kd.int .i16) _ 79 ?hg (N := 15) ?hd (xs := ([] : List Int)) (inner := []) (ok := fun _ => True) (okp := fun _ => True) ?hr ?hp (fun _ hk => hk) trivial (Below.refl _ _) (Nat.le_refl _) (by simp) ?_; (case hd => rfl); (case hg => rfl); (case hr => exact zgs); (case hp => exact (Reps.none _ _)); intro v426 w5 ho6 hb hg_ hnew_; clear hg_ hnew_; (first | rw [← Ny425.out] at ho6 | (simp only [Int.reduceToNat] at ho6; rw [← Ny425.out] at ho6)); have n_ : _ ∧ _ ∧ _ := ⟨Aside0.mk (Kd.R_lower ho6 (zz HB)), zk BK423 hb, zbs hb⟩; clear BK423 HB; obtain ⟨HO427, BK423, HB⟩ := n_; clear hb ho6) | ((with_reducible refine gate_dst (N := 16) rfl ?_); refine Kd.R_lit (Kd.int .u64) _ 98 ?hg (N := 16) ?hd (xs := ([] : List Int)) (inner := []) (ok := fun _ => True) (okp := fun _ => True) ?hr ?hp (fun _ hk => hk) trivial (Below.refl _ _) (Nat.le_refl _) (by simp) ?_; (case hd => rfl); (case hg => rfl); (case hr => exact zgs); (case hp => exact (Reps.none _ _)); intro v429 w7 ho8 hb hg_ hnew_; clear hg_ hnew_; (first | rw [← Ny428.out] at ho8 | (simp only [Int.reduceToNat] at ho8; rw [← Ny428.out] at ho8)); have n_ : _ ∧ _ ∧ _ ∧ _ := ⟨zr HO427 hb, Aside0.mk (Kd.R_lower ho8 (zz HB)), zk BK423 hb, zbs hb⟩; clear HO427 BK423 HB; obtain ⟨HO427, HO430, BK423, HB⟩ := n_; clear hb ho8) | ((with_reducible refine gate_dst (N := 4) rfl ?_); refine zbx 4 #[.int .i8 0, .slice none 0 0, .slice none 0 0] 31 ?_; intro gb431 hg w9 hbox hb; have n_ : _ ∧ _ ∧ _ ∧ _ ∧ _ ∧ _ ∧ _ ∧ _ ∧ _ := ⟨zr HO427 hb, zr HO430 hb, zk BK423 hb, zbs hb, Aside0.mk (hbox), zg HB hg, zg HB hg, zn1 BK423 hg, zn2 BK423 hg⟩; clear HO427 HO430 BK423 HB; obtain ⟨HO427, HO430, BK423, HB, BK431, GW431, GE431, NB423_431, NB431_423⟩ := n_; clear hb hbox hg; have hnb10 := NB431_423.out; have hnc10 := NB423_431.out; obtain ⟨z11_0, z11_1, z11_2, y11_0, y11_1, y11_2⟩ := zB3 BK431) | ((with_reducible refine gate_callee (f := 97) rfl ?_); refine goesL_ (some 18) rfl rfl Try.func97 (by kernel_rfl) rfl #[.pointer (some adp0)] rfl zm ?_; (with_reducible refine (impl_Network_tables.calls k _ l0 t432 _ ?side1 A3.out).mono ?_); (case side1 => exact Kd.C_below HR0.out zbo); rintro e w12 ⟨v433, rfl, ho0, hb⟩; refine ⟨_, rfl, ?_⟩; have n_ : _ ∧ _ ∧ _ ∧ _ ∧ _ ∧ _ := ⟨zsb HO427 BK431 hb, Aside0.mk (Kd.R_elder' (zs HO430 BK431).out (Kd.R_base ho0) hb), Aside0.mk (Kd.R_lower (Kd.R_new' ho0 (Kd.R_lt (zs HO430 BK431).out)) (zz HB)), zfb BK423 NB423_431 hb, Aside0.mk (blk_below (g := gb431) (o := .cells #[.int .i8 ((rd_T31 l0 0).f0), .slice none 0 0, .slice none 0 0] 31 (0, 0)) (zp BK431) hb), zbs hb⟩; clear HO427 HO430 BK423 BK431 HB; obtain ⟨HO427, HO430, HO434, BK423, BK431, HB⟩ := n_; (try clear hb); (try clear hb2); (try clear hk); (try clear hi); (try clear ho0); obtain ⟨Ao13, co13, eo13⟩ := Kd.R_slice HO434.out; subst eo13))
 go_loopg [5, 6, 20] k (fun kq v5 v6 v20 w' => ∃ (x5_1 : List Int) (x6_1 : List Int) (x20_1 : Int) (x432001_1 : List (S81)) (u432001 : Value), v20 = .int .i64 x20_1 ∧ Aside0 (impl_Network_merged.l0 kq l0 x5_1 x6_1 t432 (t432.length : Int) x20_1 ((rd_T31 l0 0).f0) x432001_1 = some (r1, r2, r3, r4)) ∧ Aside0 (kq ≤ k) ∧ Aside0 (Kd.R (Kd.int .i16) 79 w' w.heap.size (fun _ => True) v5 x5_1) ∧ Aside0 (Kd.R (Kd.int .u64) 98 w' w.heap.size (fun k_ => some k_ ≠ ((.slice Ao13 t432.length co13) : Value).ownBlock) v6 x6_1) ∧ Aside0 (Kd.R (Kd.int .u64) 98 w' w.heap.size (fun k_ => some k_ ≠ (v6 : Value).ownBlock) (.slice Ao13 t432.length co13) t432) ∧ Aside0 (Kd.R k81 81 w' w.heap.size (fun _ => True) u432001 x432001_1) ∧ Aside0 (w'.heap[gb423]? = some (.cells #[.int .i8 0, (.slice none 0 0), (.slice none 0 0)] 31 (0, 0))) ∧ Aside0 (w'.heap[gb431]? = some (.cells #[.int .i8 ((rd_T31 l0 0).f0), u432001, (.slice none 0 0)] 31 (0, 0))) ∧ Aside0 (Below w.heap.size w w'))
 case atStart => exact ⟨(y425), (y428), (0), (([] : List (S81))), (.slice none 0 0), zi, H', ⟨Nat.le_refl _⟩, ze HO427, ⟨by (with_reducible repeat (first | apply Kd.R_alloc | apply Kd.R_drewN | apply Kd.R_drew)); exact Kd.R_mono HO430.out (fun _ hk => hk.2)⟩, ⟨by (with_reducible repeat (first | apply Kd.R_alloc | apply Kd.R_drewN | apply Kd.R_drew)); exact Kd.R_mono HO434.out (fun _ hk => hk.2)⟩, ⟨by first | exact Kd.R_nil _ _ _ _ _ | exact Kd.N_nil _ _ _ _ _ | exact Kd.V_nil _ _ _ _ _ | exact Kd.Q_nil _ _ _ _ _ | exact Kd.S_nil _ _ _ _ _⟩, zh BK423, zh BK431, zba⟩
 clear H'
 try clear c1
 try clear c2
 try clear c2b0
 try clear c2b1
 try clear p2
 try clear c4
 try clear p4
 try clear q4
 try clear hx4
 try clear qi4
 try clear c9
 try clear c10
 try clear c12
 try clear z11_0 z11_1 z11_2 y11_0 y11_1 y11_2
 try clear hx424_0
 try clear hx424_1
 try clear hx424_2
 try clear p424
 try clear q424
 obtain ⟨x5_1, x6_1, x20_1, x432001_1, u432001, rfl, HA, HK1, HO_5, HO_6, HO_18, HO_432001, BK423, BK431, HB⟩ := hrel
 cases gk with
 | zero => exact absurd HA.out (by simp [impl_Network_merged.l0])
 | succ k1 => ?_
 have H := HA.out
 clear HA
 simp only [impl_Network_merged.l0] at H
 by_cases c14 : x20_1 < (t432.length : Int)
 rotate_left
 ·rw [if_neg c14] at H
  have c14b0 : decide (x20_1 < (t432.length : Int)) = false := decide_eq_false c14
  clear c14
  by_cases c37 : 0 < (l0.length : Int)
  rotate_left
  ·rw [if_neg c37] at H
   exact absurd H (by simp)
  rw [if_pos c37] at H
  have c37b0 : decide (0 < (l0.length : Int)) = true := decide_eq_true c37
  have c37b1 : decide (0 < l0.length) = true := decide_eq_true (by omega)
  clear c37
  replace H := zob H
  obtain ⟨t436, A380, H⟩ := H
  replace H : (some (((rd_T31 l0 0).f0), x432001_1, t436, x5_1)) = some (r1, r2, r3, r4) := H
  have A38 := Aside0.mk A380
  clear A380
  simp only [Option.some.injEq, Prod.mk.injEq] at H
  obtain ⟨rfl, rfl, rfl, rfl⟩ := H
  have p435 : 0 ≤ (0 : Int) := (by omega)
  have q435 : 0 < (l0.length : Int) := of_decide_eq_true zA
  obtain ⟨ad435, A435_1, c435_1, A435_2, c435_2, e435, hx435_0, hx435_1, hx435_2, hl435_1, hi435_1, hl435_2, hi435_2⟩ := at_T31 HR0.out 0 p435 q435
  obtain rfl : adp0 = ad435 := (by injection e435)
  have qi435 : (0 < l0.length) = True := eq_true (by omega)
  try simp only [z00, Nat.zero_mul, Addr.add_zero'] at hx435_0 hx435_1 hx435_2
  replace hx435_0 := zc HB hx435_0
  replace hx435_1 := zc HB hx435_1
  replace hx435_2 := zc HB hx435_2
  have HR435_1 := Aside0.mk hi435_1
  have HC435_1 := Aside0.mk hl435_1
  clear hi435_1 hl435_1
  have HR435_2 := Aside0.mk hi435_2
  have HC435_2 := Aside0.mk hl435_2
  clear hi435_2 hl435_2
  replace p435 := eq_true p435
  replace q435 := eq_true q435
  obtain ⟨Ao39, co39, eo39⟩ := Kd.R_slice HO_5.out
  subst eo39
  go_wp2_with (first | ((with_reducible refine gate_callee (f := 106) rfl ?_); refine goesL_ (some 61) rfl rfl Try.func106 (by kernel_rfl) rfl #[.slice A435_2 ((rd_T31 l0 0).f2).length c435_2, .slice Ao39 x5_1.length co39] rfl zm ?_; (with_reducible refine (impl_renamedAll.calls k1 _ _ ((rd_T31 l0 0).f2) _ _ x5_1 t436 _ ?side1 ?side2 ?side3 ?side4 A38.out).mono ?_); (case side1 => exact zcc HB HR435_2.out); (case side2 => exact HC435_2.out); (case side3 => exact zrc HO_5); (case side4 => exact (Kd.R_reads' HO_5.out).2.1); rintro e w40 ⟨v437, rfl, ho0, hb⟩; refine ⟨_, rfl, ?_⟩; have n_ : _ ∧ _ ∧ _ ∧ _ ∧ _ ∧ _ ∧ _ ∧ _ := ⟨Aside0.mk (Kd.R_elder' (ze HO_5).out (Kd.R_base ho0) hb), zr HO_6 hb, zr HO_18 hb, zr HO_432001 hb, Aside0.mk (Kd.R_lower (Kd.R_new' ho0 (Kd.R_lt (ze HO_5).out)) (zz HB)), zk BK423 hb, zk BK431 hb, zbs hb⟩; clear HO_5 HO_6 HO_18 HO_432001 BK423 BK431 HB; obtain ⟨HO_5, HO_6, HO_18, HO_432001, HO438, BK423, BK431, HB⟩ := n_; (try clear hb); (try clear hb2); (try clear hk); (try clear hi); (try clear ho0); obtain ⟨Ao41, co41, eo41⟩ := Kd.R_slice HO438.out; subst eo41; have hnb42 := NB431_423.out; have hnc42 := NB423_431.out; obtain ⟨z43_0, z43_1, z43_2, y43_0, y43_1, y43_2⟩ := zB3 BK431; obtain ⟨z44_0, z44_1, z44_2, y44_0, y44_1, y44_2⟩ := zB3 BK423; obtain ⟨Ao45, co45, eo45⟩ := Kd.R_slice HO_432001.out; subst eo45))
  refine bodyPost_ret (results_ct rfl _ _ gb423 31 #[.int .i8 ((rd_T31 l0 0).f0), .slice Ao45 x432001_1.length co45, .slice Ao41 t436.length co41] (0, 0) _ rfl (by (with_reducible repeat (first | refine blk_drewN ?_ _ | refine blk_drew ?_ | refine blk_alloc ?_ _)); refine blk_put (cs := #[.int .i8 ((rd_T31 l0 0).f0), .slice Ao45 x432001_1.length co45, .slice none 0 0]) ?_ 2 _ rfl; (with_reducible repeat (first | refine blk_drewN ?_ _ | refine blk_drew ?_ | refine blk_alloc ?_ _)); refine blk_put (cs := #[.int .i8 ((rd_T31 l0 0).f0), .slice none 0 0, .slice none 0 0]) ?_ 1 _ rfl; (with_reducible repeat (first | refine blk_drewN ?_ _ | refine blk_drew ?_ | refine blk_alloc ?_ _)); refine blk_put (cs := #[.int .i8 0, .slice none 0 0, .slice none 0 0]) ?_ 0 _ rfl; (with_reducible repeat (first | refine blk_drewN ?_ _ | refine blk_drew ?_ | refine blk_alloc ?_ _)); refine blk_far ?_ NB423_431.out _; (with_reducible repeat (first | refine blk_drewN ?_ _ | refine blk_drew ?_ | refine blk_alloc ?_ _)); exact BK423.out) Try.underlying31 rfl (by kernel_rfl)) rfl ?_
  exact ⟨_, _, _, zv, by (with_reducible repeat (first | apply Kd.R_alloc | apply Kd.R_drewN | apply Kd.R_drew)); exact Kd.R_mono (Kd.R_far (p := ⟨gb423, 2, none⟩) (Kd.R_far (p := ⟨gb423, 1, none⟩) (Kd.R_far (p := ⟨gb423, 0, none⟩) (Kd.R_far (p := ⟨gb431, 2, none⟩) (Kd.R_types (Kd.R_types HO_432001.out BK431.out (by decide)) BK423.out (by decide)) (fun _ hk => hk.1.2) (.slice Ao41 t436.length co41)) (fun _ hk => hk.2) (.int .i8 ((rd_T31 l0 0).f0))) (fun _ hk => hk.2) (.slice Ao45 x432001_1.length co45)) (fun _ hk => hk.2) (.slice Ao41 t436.length co41)) (fun _ hk => trivial), by (with_reducible repeat (first | apply Kd.R_alloc | apply Kd.R_drewN | apply Kd.R_drew)); exact Kd.R_mono (Kd.R_far (p := ⟨gb423, 2, none⟩) (Kd.R_far (p := ⟨gb423, 1, none⟩) (Kd.R_far (p := ⟨gb423, 0, none⟩) (Kd.R_far (p := ⟨gb431, 2, none⟩) (Kd.R_types (Kd.R_types HO438.out BK431.out (by decide)) BK423.out (by decide)) (fun _ hk => hk.1.2) (.slice Ao41 t436.length co41)) (fun _ hk => hk.2) (.int .i8 ((rd_T31 l0 0).f0))) (fun _ hk => hk.2) (.slice Ao45 x432001_1.length co45)) (fun _ hk => hk.2) (.slice Ao41 t436.length co41)) (fun _ hk => hk.1.1.2), by (with_reducible repeat (first | apply Kd.R_alloc | apply Kd.R_drewN | apply Kd.R_drew)); exact Kd.R_mono (Kd.R_far (p := ⟨gb423, 2, none⟩) (Kd.R_far (p := ⟨gb423, 1, none⟩) (Kd.R_far (p := ⟨gb423, 0, none⟩) (Kd.R_far (p := ⟨gb431, 2, none⟩) (Kd.R_types (Kd.R_types HO_5.out BK431.out (by decide)) BK423.out (by decide)) (fun _ hk => hk.1.2) (.slice Ao41 t436.length co41)) (fun _ hk => hk.2) (.int .i8 ((rd_T31 l0 0).f0))) (fun _ hk => hk.2) (.slice Ao45 x432001_1.length co45)) (fun _ hk => hk.2) (.slice Ao41 t436.length co41)) (fun _ hk => hk.1.1.2), zbo⟩
 rw [if_pos c14] at H
 have c14b0 : decide (x20_1 < (t432.length : Int)) = true := decide_eq_true c14
 clear c14
 by_cases c15 : 0 ≤ x20_1
 rotate_left
 ·rw [if_neg c15] at H
  exact absurd H (by simp)
 rw [if_pos c15] at H
 have c15b0 : decide (0 ≤ x20_1) = true := decide_eq_true c15
 clear c15
 by_cases c16 : x20_1 < (t432.length : Int)
 rotate_left
 ·rw [if_neg c16] at H
  exact absurd H (by simp)
 rw [if_pos c16] at H
 have c16b0 : decide (x20_1 < (t432.length : Int)) = true := decide_eq_true c16
 clear c16
 replace H := zob H
 obtain ⟨t440, A170, H⟩ := H
 replace H : (if t440 < 0 then (if x6_1.length < 17592186044416 then (if 0 < (l0.length : Int) then (if x20_1 < (((rd_T31 l0 0).f1).length : Int) then ((impl_Node_renamed.f ((rd_T81 ((rd_T31 l0 0).f1) x20_1).f0) ((rd_T81 ((rd_T31 l0 0).f1) x20_1).f1) ((rd_T81 ((rd_T31 l0 0).f1) x20_1).f2) x5_1).bind fun bt446 => (if x432001_1.length < 23456248059221 then (if x5_1.length < 70368744177664 then (impl_Network_merged.l0 k1 l0 (x5_1 ++ [IntKind.i16.wrap ((x6_1.length : Int))]) (x6_1 ++ [rd t432 x20_1]) t432 (t432.length : Int) (wrap64 (x20_1 + 1)) ((rd_T31 l0 0).f0) (x432001_1 ++ [(⟨bt446.1, bt446.2.1, bt446.2.2⟩ : S81)])) else (none)) else (none))) else (none)) else (none)) else (none)) else (if x5_1.length < 70368744177664 then (impl_Network_merged.l0 k1 l0 (x5_1 ++ [IntKind.i16.wrap (t440)]) x6_1 t432 (t432.length : Int) (wrap64 (x20_1 + 1)) ((rd_T31 l0 0).f0) x432001_1) else (none))) = some (r1, r2, r3, r4) := H
 have A17 := Aside0.mk A170
 clear A170
 by_cases c18 : t440 < 0
 rotate_left
 ·rw [if_neg c18] at H
  have c18b0 : decide (t440 < 0) = false := decide_eq_false c18
  clear c18
  by_cases c34 : x5_1.length < 70368744177664
  rotate_left
  ·rw [if_neg c34] at H
   exact absurd H (by simp)
  rw [if_pos c34] at H
  have LMc34 := Aside0.mk c34
  clear c34
  obtain ⟨y455, hy455⟩ : ∃ y_ : List Int, y_ = (x5_1 ++ [IntKind.i16.wrap (t440)]) := ⟨_, rfl⟩
  replace H : (impl_Network_merged.l0 k1 l0 y455 x6_1 t432 (t432.length : Int) (wrap64 (x20_1 + 1)) ((rd_T31 l0 0).f0) x432001_1) = some (r1, r2, r3, r4) := by first | (rw [hy455]; with_reducible exact H) | (have H2_ := (Option.bind_some _ _).symm.trans H; rw [hy455]; with_reducible exact H2_) | (have H2_ := (Option.bind_some _ _).symm.trans H; with_reducible exact H2_) | with_reducible exact H | (rw [hy455]; exact H) | exact H
  have Ny455 := Aside0.mk hy455
  clear hy455
  have H' := Aside0.mk H
  clear H
  have p439 : 0 ≤ (x20_1 : Int) := of_decide_eq_true zA
  have q439 : x20_1 < (t432.length : Int) := of_decide_eq_true zA
  obtain ⟨ad439, e439, hx439_0⟩ := Kd.at_int (Kd.R_reads' HO_18.out).2.2 x20_1 p439 q439
  cases e439
  replace p439 := eq_true p439
  replace q439 := eq_true q439
  obtain ⟨Ao35, co35, eo35⟩ := Kd.R_slice HO_6.out
  subst eo35
  go_wp2_with (first | ((with_reducible refine gate_callee (f := 140) rfl ?_); refine goesL_ (some 27) rfl rfl Try.func140 (by kernel_rfl) rfl #[.slice Ao35 x6_1.length co35, .int .u64 (rd t432 x20_1)] rfl zm ?_; (with_reducible refine (slices_Index_uint64_uint64.calls k1 _ _ x6_1 (rd t432 x20_1) t440 _ ?side1 ?side2 A17.out).mono ?_); (case side1 => exact zrc HO_6); (case side2 => exact (Kd.R_reads' HO_6.out).2.1); rintro e w' ⟨rfl, ⟨nd, rfl⟩⟩; refine ⟨_, rfl, ?_⟩) | ((with_reducible refine gate_builtin (b := .append) (xs := #[.tmp 50, .tmp 53]) rfl ?_); at_builtin; refine Kd.R_append (Kd.int .i16) (w0 := w) w.heap.size rfl (.tmp 50) (.tmp 53) 24 79 (.int .i16 0) 2 rfl Try.underlying24 info79 rfl (by decide) (by omega) u5 x5_1 (IntKind.i16.wrap (t440)) [.int .i16 (IntKind.i16.wrap (t440))] (fun _ => True) (fun _ => False) rfl rfl ?aP (fun _ hk => hk.elim) ?aF ?aO ?aB ?aS ?aL ?_; (case aP => exact rfl); (case aB => exact zbo); (case aF => exact (fun _ _ => trivial)); (case aO => exact (ze HO_5).out); (case aS => exact (zz HB)); (case aL => have := LMc34.out; omega); intro v456 w36 ho hb hg hat; rw [← Ny455.out] at ho; have n_ : _ ∧ _ ∧ _ ∧ _ ∧ _ ∧ _ ∧ _ := ⟨Aside0.mk (Kd.R_over' (ze HO_6).out (Kd.R_typed (ze HO_5).out) (by decide) hg), Aside0.mk (Kd.R_over' (ze HO_18).out (Kd.R_typed (ze HO_5).out) (by decide) hg), Aside0.mk (Kd.R_over' (ze HO_432001).out (Kd.R_typed (ze HO_5).out) (by decide) hg), Aside0.mk (blk_grown (g := gb423) (o := .cells #[.int .i8 0, .slice none 0 0, .slice none 0 0] 31 (0, 0)) (zh BK423).out hg (Kd.R_ne HO_5.out BK423.out (by decide))), Aside0.mk (blk_grown (g := gb431) (o := .cells #[.int .i8 ((rd_T31 l0 0).f0), u432001, .slice none 0 0] 31 (0, 0)) (zh BK431).out hg (Kd.R_ne HO_5.out BK431.out (by decide))), Aside0.mk (hb), Aside0.mk (ho)⟩; clear HO_6 HO_18 HO_432001 BK423 BK431 HB HO_5; obtain ⟨HO_6, HO_18, HO_432001, BK423, BK431, HB, HO457⟩ := n_; clear ho hb hg hat))
  go_roundg k1
  case measure => have := HK1.out; omega
  case rel => exact ⟨(y455), (x6_1), (wrap64 (x20_1 + 1)), (x432001_1), (u432001), zi, H', ⟨by have := HK1.out; omega⟩, ze HO457, ze HO_6, ze HO_18, ze HO_432001, zh BK423, zh BK431, zba⟩
 rw [if_pos c18] at H
 have c18b0 : decide (t440 < 0) = true := decide_eq_true c18
 clear c18
 by_cases c19 : x6_1.length < 17592186044416
 rotate_left
 ·rw [if_neg c19] at H
  exact absurd H (by simp)
 rw [if_pos c19] at H
 have LMc19 := Aside0.mk c19
 clear c19
 obtain ⟨y441, hy441⟩ : ∃ y_ : List Int, y_ = (x6_1 ++ [rd t432 x20_1]) := ⟨_, rfl⟩
 replace H : (if 0 < (l0.length : Int) then (if x20_1 < (((rd_T31 l0 0).f1).length : Int) then ((impl_Node_renamed.f ((rd_T81 ((rd_T31 l0 0).f1) x20_1).f0) ((rd_T81 ((rd_T31 l0 0).f1) x20_1).f1) ((rd_T81 ((rd_T31 l0 0).f1) x20_1).f2) x5_1).bind fun bt446 => (if x432001_1.length < 23456248059221 then (if x5_1.length < 70368744177664 then (impl_Network_merged.l0 k1 l0 (x5_1 ++ [IntKind.i16.wrap ((x6_1.length : Int))]) y441 t432 (t432.length : Int) (wrap64 (x20_1 + 1)) ((rd_T31 l0 0).f0) (x432001_1 ++ [(⟨bt446.1, bt446.2.1, bt446.2.2⟩ : S81)])) else (none)) else (none))) else (none)) else (none)) = some (r1, r2, r3, r4) := by first | (rw [hy441]; with_reducible exact H) | (have H2_ := (Option.bind_some _ _).symm.trans H; rw [hy441]; with_reducible exact H2_) | (have H2_ := (Option.bind_some _ _).symm.trans H; with_reducible exact H2_) | with_reducible exact H | (rw [hy441]; exact H) | exact H
 have Ny441 := Aside0.mk hy441
 clear hy441
 by_cases c20 : 0 < (l0.length : Int)
 rotate_left
 ·rw [if_neg c20] at H
  exact absurd H (by simp)
 rw [if_pos c20] at H
 have c20b0 : decide (0 < (l0.length : Int)) = true := decide_eq_true c20
 have c20b1 : decide (0 < l0.length) = true := decide_eq_true (by omega)
 clear c20
 by_cases c21 : x20_1 < (((rd_T31 l0 0).f1).length : Int)
 rotate_left
 ·rw [if_neg c21] at H
  exact absurd H (by simp)
 rw [if_pos c21] at H
 have c21b0 : decide (x20_1 < (((rd_T31 l0 0).f1).length : Int)) = true := decide_eq_true c21
 clear c21
 replace H := zob H
 obtain ⟨⟨t446, t447, t448⟩, A220, H⟩ := H
 replace H : (if x432001_1.length < 23456248059221 then (if x5_1.length < 70368744177664 then (impl_Network_merged.l0 k1 l0 (x5_1 ++ [IntKind.i16.wrap ((x6_1.length : Int))]) y441 t432 (t432.length : Int) (wrap64 (x20_1 + 1)) ((rd_T31 l0 0).f0) (x432001_1 ++ [(⟨t446, t447, t448⟩ : S81)])) else (none)) else (none)) = some (r1, r2, r3, r4) := H
 have A22 := Aside0.mk A220
 clear A220
 by_cases c23 : x432001_1.length < 23456248059221
 rotate_left
 ·rw [if_neg c23] at H
  exact absurd H (by simp)
 rw [if_pos c23] at H
 have LMc23 := Aside0.mk c23
 clear c23
 obtain ⟨y449, hy449⟩ : ∃ y_ : List (S81), y_ = (x432001_1 ++ [(⟨t446, t447, t448⟩ : S81)]) := ⟨_, rfl⟩
 replace H : (if x5_1.length < 70368744177664 then (impl_Network_merged.l0 k1 l0 (x5_1 ++ [IntKind.i16.wrap ((x6_1.length : Int))]) y441 t432 (t432.length : Int) (wrap64 (x20_1 + 1)) ((rd_T31 l0 0).f0) y449) else (none)) = some (r1, r2, r3, r4) := by first | (rw [hy449]; with_reducible exact H) | (have H2_ := (Option.bind_some _ _).symm.trans H; rw [hy449]; with_reducible exact H2_) | (have H2_ := (Option.bind_some _ _).symm.trans H; with_reducible exact H2_) | with_reducible exact H | (rw [hy449]; exact H) | exact H
 have Ny449 := Aside0.mk hy449
 clear hy449
 by_cases c24 : x5_1.length < 70368744177664
 rotate_left
 ·rw [if_neg c24] at H
  exact absurd H (by simp)
 rw [if_pos c24] at H
 have LMc24 := Aside0.mk c24
 clear c24
 obtain ⟨y452, hy452⟩ : ∃ y_ : List Int, y_ = (x5_1 ++ [IntKind.i16.wrap ((x6_1.length : Int))]) := ⟨_, rfl⟩
 replace H : (impl_Network_merged.l0 k1 l0 y452 y441 t432 (t432.length : Int) (wrap64 (x20_1 + 1)) ((rd_T31 l0 0).f0) y449) = some (r1, r2, r3, r4) := by first | (rw [hy452]; with_reducible exact H) | (have H2_ := (Option.bind_some _ _).symm.trans H; rw [hy452]; with_reducible exact H2_) | (have H2_ := (Option.bind_some _ _).symm.trans H; with_reducible exact H2_) | with_reducible exact H | (rw [hy452]; exact H) | exact H
 have Ny452 := Aside0.mk hy452
 clear hy452
 have H' := Aside0.mk H
 clear H
 have p439 : 0 ≤ (x20_1 : Int) := of_decide_eq_true zA
 have q439 : x20_1 < (t432.length : Int) := of_decide_eq_true zA
 obtain ⟨ad439, e439, hx439_0⟩ := Kd.at_int (Kd.R_reads' HO_18.out).2.2 x20_1 p439 q439
 cases e439
 replace p439 := eq_true p439
 replace q439 := eq_true q439
 obtain ⟨Ao25, co25, eo25⟩ := Kd.R_slice HO_6.out
 subst eo25
 try go_wp2_with (first | ((with_reducible refine gate_callee (f := 140) rfl ?_); refine goesL_ (some 27) rfl rfl Try.func140 (by kernel_rfl) rfl #[.slice Ao25 x6_1.length co25, .int .u64 (rd t432 x20_1)] rfl zm ?_; (with_reducible refine (slices_Index_uint64_uint64.calls k1 _ _ x6_1 (rd t432 x20_1) t440 _ ?side1 ?side2 A17.out).mono ?_); (case side1 => exact zrc HO_6); (case side2 => exact (Kd.R_reads' HO_6.out).2.1); rintro e w' ⟨rfl, ⟨nd, rfl⟩⟩; refine ⟨_, rfl, ?_⟩; (try (rw [drewN_self wr]; generalize hq_ : World.drewN wr _ = wr; have n0_ : Aside0 (Kd.R (Kd.int .u64) 98 wr w.heap.size (fun k_ => some k_ ≠ (.slice Ao25 x6_1.length co25 : Value).ownBlock) (.slice (some ad439) t432.length co13) t432) := ⟨by rw [← hq_]; exact (ze HO_18).out⟩; have n1_ : Aside0 (Kd.R k81 81 wr w.heap.size (fun _ => True) u432001 x432001_1) := ⟨by rw [← hq_]; exact (ze HO_432001).out⟩; have n2_ : Aside0 (Kd.R (Kd.int .i16) 79 wr w.heap.size (fun _ => True) u5 x5_1) := ⟨by rw [← hq_]; exact (ze HO_5).out⟩; have n3_ : Aside0 (Kd.R (Kd.int .u64) 98 wr w.heap.size (fun k_ => some k_ ≠ (.slice (some ad439) t432.length co13 : Value).ownBlock) (.slice Ao25 x6_1.length co25) x6_1) := ⟨by rw [← hq_]; exact (ze HO_6).out⟩; have n4_ : Aside0 (wr.heap[gb423]? = some (.cells #[.int .i8 0, .slice none 0 0, .slice none 0 0] 31 (0, 0))) := ⟨by rw [← hq_]; exact (zh BK423).out⟩; have n5_ : Aside0 (wr.heap[gb431]? = some (.cells #[.int .i8 ((rd_T31 l0 0).f0), u432001, .slice none 0 0] 31 (0, 0))) := ⟨by rw [← hq_]; exact (zh BK431).out⟩; have n6_ : Aside0 (Below w.heap.size w wr) := ⟨by rw [← hq_]; exact zbo⟩; clear HO_18 HO_432001 HO_5 HO_6 BK423 BK431 HB hq_; have HO_18 := n0_; have HO_432001 := n1_; have HO_5 := n2_; have HO_6 := n3_; have BK423 := n4_; have BK431 := n5_; have HB := n6_; clear n0_ n1_ n2_ n3_ n4_ n5_ n6_))))
 have n_ : _ ∧ _ ∧ _ ∧ _ ∧ _ ∧ _ ∧ _ := ⟨Aside0.mk (Kd.R_drew HO_5.out), Aside0.mk (Kd.R_drew HO_6.out), Aside0.mk (Kd.R_drew HO_18.out), Aside0.mk (Kd.R_drew HO_432001.out), Aside0.mk (blk_drew BK423.out), Aside0.mk (blk_drew BK431.out), Aside0.mk (below_drew1 HB.out)⟩
 clear HO_5 HO_6 HO_18 HO_432001 BK423 BK431 HB
 obtain ⟨HO_5, HO_6, HO_18, HO_432001, BK423, BK431, HB⟩ := n_
 have p444 : 0 ≤ (0 : Int) := (by omega)
 have q444 : 0 < (l0.length : Int) := of_decide_eq_true zA
 obtain ⟨ad444, A444_1, c444_1, A444_2, c444_2, e444, hx444_0, hx444_1, hx444_2, hl444_1, hi444_1, hl444_2, hi444_2⟩ := at_T31 HR0.out 0 p444 q444
 have hw444_2 := hx444_2
 try simp only [z00, Nat.zero_mul, Addr.add_zero'] at hw444_2
 have hw444_1 := hx444_1
 try simp only [z00, Nat.zero_mul, Addr.add_zero'] at hw444_1
 have hw444_0 := hx444_0
 try simp only [z00, Nat.zero_mul, Addr.add_zero'] at hw444_0
 obtain rfl : adp0 = ad444 := (by injection e444)
 have qi444 : (0 < l0.length) = True := eq_true (by omega)
 try simp only [z00, Nat.zero_mul, Addr.add_zero'] at hx444_0 hx444_1 hx444_2
 replace hx444_0 := zc HB hx444_0
 replace hx444_1 := zc HB hx444_1
 replace hx444_2 := zc HB hx444_2
 have HR444_1 := Aside0.mk hi444_1
 have HC444_1 := Aside0.mk hl444_1
 clear hi444_1 hl444_1
 have HR444_2 := Aside0.mk hi444_2
 have HC444_2 := Aside0.mk hl444_2
 clear hi444_2 hl444_2
 replace p444 := eq_true p444
 replace q444 := eq_true q444
 have p445 : 0 ≤ (x20_1 : Int) := of_decide_eq_true zA
 have q445 : x20_1 < (((rd_T31 l0 0).f1).length : Int) := of_decide_eq_true zA
 obtain ⟨ad445, e445, hx445_0, hx445_1, hx445_2⟩ := at_T81 HR444_1.out x20_1 p445 q445
 have hw445_2 := hx445_2
 have hw445_1 := hx445_1
 have hw445_0 := hx445_0
 cases e445
 replace hx445_0 := zc HB hx445_0
 replace hx445_1 := zc HB hx445_1
 replace hx445_2 := zc HB hx445_2
 replace p445 := eq_true p445
 replace q445 := eq_true q445
 refine start_ (n := 20) (S := fun w' => w'.cell? ⟨gb431, 0, none⟩ = some (.int .i8 ((rd_T31 l0 0).f0)) ∧ w'.cell? ⟨gb431, 1, none⟩ = some (u432001) ∧ w'.cell? ⟨gb431, 2, none⟩ = some (.slice none 0 0) ∧ w'.cell? adp0 = some (.int .i8 ((rd_T31 l0 0).f0)) ∧ w'.cell? ⟨adp0.block, adp0.off + 1, none⟩ = some (.slice (some ad445) ((rd_T31 l0 0).f1).length c444_1) ∧ w'.cell? ⟨adp0.block, adp0.off + 2, none⟩ = some (.slice A444_2 ((rd_T31 l0 0).f2).length c444_2) ∧ w'.cell? (ad445.add ((x20_1).toNat * 3)) = some (.int .i8 ((rd_T81 ((rd_T31 l0 0).f1) x20_1).f0)) ∧ w'.cell? ⟨(ad445.add ((x20_1).toNat * 3)).block, (ad445.add ((x20_1).toNat * 3)).off + 1, none⟩ = some (.int .i16 ((rd_T81 ((rd_T31 l0 0).f1) x20_1).f1)) ∧ w'.cell? ⟨(ad445.add ((x20_1).toNat * 3)).block, (ad445.add ((x20_1).toNat * 3)).off + 2, none⟩ = some (.int .i16 ((rd_T81 ((rd_T31 l0 0).f1) x20_1).f2))) (ds := [19]) (zq 20 0) (by kernel_rfl) rfl rfl ⟨(blk_cell BK431.out 0).trans rfl, (blk_cell BK431.out 1).trans rfl, (blk_cell BK431.out 2).trans rfl, (zc HB hw444_0), (zc HB hw444_1), (zc HB hw444_2), (zc HB hw445_0), (zc HB hw445_1), (zc HB hw445_2)⟩ (fun hHeld => ?_); refine with_tabW impl_Network_merged.tab8 impl_Network_merged.bits8 (fun HT_ HW_ => ?_)
 generalize wr.drew = w26 at HO_5 HO_6 HO_18 HO_432001 BK423 BK431 HB HR444_1 HR444_2 hx444_0 hx444_1 hx444_2 hx445_0 hx445_1 hx445_2 hHeld ⊢
 refine zpu 0 (some 32) (zq 20 1) HT_ ?_
 refine zpu 1 (some 33) (zq 20 3) HT_ ?_
 refine zpu 4 (some 36) (zq 20 19) HT_ ?_
 refine zpu 6 (some 38) (zq 20 83) HT_ ?_
 refine zpu 7 (some 39) (zq 20 211) HT_ ?_
 refine zpu 8 (some 40) (zq 20 467) HT_ ?_
 refine zpu 10 (some 42) (zq 20 1491) HT_ ?_
 refine zpu 13 (some 45) (zq 20 9683) HT_ ?_
 refine ztk 5 (some 37) (zq 20 9715) HT_ HW_ rfl hHeld (Or.inl ⟨by rfl, by (rintro w' ⟨s0, s1, s2, s3, s4, s5, s6, s7, s8⟩; go_simp; with_reducible rfl)⟩) ?_
 refine ztk 9 (some 41) (zq 20 10227) HT_ HW_ rfl hHeld (Or.inl ⟨by rfl, by (rintro w' ⟨s0, s1, s2, s3, s4, s5, s6, s7, s8⟩; go_simp; with_reducible rfl)⟩) ?_
 refine zpu 11 (some 43) (zq 20 12275) HT_ ?_
 refine ztk 12 (some 44) (zq 20 16371) HT_ HW_ rfl hHeld (Or.inl ⟨by rfl, by (rintro w' ⟨s0, s1, s2, s3, s4, s5, s6, s7, s8⟩; go_simp; with_reducible rfl)⟩) ?_
 refine one_ (i := 2) (N := some 34) (zq 20 16375) rfl rfl (one_of HT_.out (by kernel_rfl)) (by decide) (fun K hK => ?_)
 refine value_ (w1 := ?_) (v := ?_) (by rfl) rfl ?_ ?_
 rotate_left 2
 ·go_simp
  constructor
  rotate_left
  ·rfl
  rfl
 refine hK.out _ _ ⟨(blk_cell (blk_alloc BK431.out _) 0).trans rfl, (blk_cell (blk_alloc BK431.out _) 1).trans rfl, (blk_cell (blk_alloc BK431.out _) 2).trans rfl, (World.cell?_alloc_lt _ _ _ (World.block_lt_of_cell? _ _ ((zc HB hw444_0)))).trans ((zc HB hw444_0)), (World.cell?_alloc_lt _ _ _ (World.block_lt_of_cell? _ _ ((zc HB hw444_1)))).trans ((zc HB hw444_1)), (World.cell?_alloc_lt _ _ _ (World.block_lt_of_cell? _ _ ((zc HB hw444_2)))).trans ((zc HB hw444_2)), (World.cell?_alloc_lt _ _ _ (World.block_lt_of_cell? _ _ ((zc HB hw445_0)))).trans ((zc HB hw445_0)), (World.cell?_alloc_lt _ _ _ (World.block_lt_of_cell? _ _ ((zc HB hw445_1)))).trans ((zc HB hw445_1)), (World.cell?_alloc_lt _ _ _ (World.block_lt_of_cell? _ _ ((zc HB hw445_2)))).trans ((zc HB hw445_2))⟩ (fun hHeld => ?_)
 clear hK K
 refine norm_ (a' := ?_) ?_ ?_
 rotate_left
 ·show Act.put _ (some 34) _ = _
  exact zap
 refine one_ (i := 3) (N := some 35) (zq 20 16383) rfl rfl (one_of HT_.out (by kernel_rfl)) (by decide) (fun K hK => ?_)
 refine Kd.R_append_step (Kd.int .u64) (w0 := w) w.heap.size (by rfl) (.tmp 32) (.tmp 34) 53 98 (.int .u64 0) 8 rfl Try.underlying53 info98 rfl (by decide) (by omega) (.slice Ao25 x6_1.length co25) x6_1 (rd t432 x20_1) [.int .u64 (rd t432 x20_1)] (fun k_ => some k_ ≠ (.slice (some ad439) t432.length co13 : Value).ownBlock) (fun _ => False) rfl rfl ?aP (fun _ hk => hk.elim) ?aF ?aO ?aB ?aS ?aL ?_
 (case aP => exact rfl)
 (case aB => exact zbo)
 (case aF => exact (fun k_ hk => Kd.fresh' (Kd.R_lt (ze HO_18).out) k_ hk))
 (case aO => exact (ze HO_6).out)
 (case aS => exact (zz HB))
 (case aL => have := LMc19.out; omega)
 intro v442 w27 ho hb hg hat
 rw [← Ny441.out] at ho
 have n_ : _ ∧ _ ∧ _ ∧ _ ∧ _ ∧ _ ∧ _ := ⟨Aside0.mk (Kd.R_over' (ze HO_5).out (Kd.R_typed (ze HO_6).out) (by decide) hg), Aside0.mk (Kd.R_after (ok := (fun _ => True)) (by (with_reducible repeat (first | apply Kd.R_alloc | apply Kd.R_drewN | apply Kd.R_drew)); exact Kd.R_mono HO_18.out (fun _ hk => ⟨trivial, hk⟩)) hg hat), Aside0.mk (Kd.R_over' (ze HO_432001).out (Kd.R_typed (ze HO_6).out) (by decide) hg), Aside0.mk (blk_grown (g := gb423) (o := .cells #[.int .i8 0, .slice none 0 0, .slice none 0 0] 31 (0, 0)) (zh BK423).out hg (Kd.R_ne HO_6.out BK423.out (by decide))), Aside0.mk (blk_grown (g := gb431) (o := .cells #[.int .i8 ((rd_T31 l0 0).f0), u432001, .slice none 0 0] 31 (0, 0)) (zh BK431).out hg (Kd.R_ne HO_6.out BK431.out (by decide))), Aside0.mk (hb), Aside0.mk (ho)⟩
 clear HO_5 HO_18 HO_432001 BK423 BK431 HB HO_6
 obtain ⟨HO_5, HO_18, HO_432001, BK423, BK431, HB, HO443⟩ := n_
 clear ho hb hg hat
 obtain ⟨Ao28, co28, eo28⟩ := Kd.R_slice HO_5.out
 (first | subst eo28 | (injection eo28 with f1_ f2_ f3_; have f4_ := f1_.symm; have f5_ := f3_.symm; clear f1_ f2_ f3_; subst f4_; subst f5_))
 refine hK.out _ _ ⟨(blk_cell BK431.out 0).trans rfl, (blk_cell BK431.out 1).trans rfl, (blk_cell BK431.out 2).trans rfl, (zc HB hw444_0), (zc HB hw444_1), (zc HB hw444_2), (zc HB hw445_0), (zc HB hw445_1), (zc HB hw445_2)⟩ (fun hHeld => ?_)
 clear hK K
 refine norm_ (a' := ?_) ?_ ?_
 rotate_left
 ·show Act.put _ (some 35) _ = _
  exact zap
 refine one_ (i := 14) (N := some 46) (zq 20 32767) rfl rfl (one_of HT_.out (by kernel_rfl)) (by decide) (fun K hK => ?_)
 refine goes_ Try.func107 (by kernel_rfl) rfl #[.agg #[.int .i8 ((rd_T81 ((rd_T31 l0 0).f1) x20_1).f0), .int .i16 ((rd_T81 ((rd_T31 l0 0).f1) x20_1).f1), .int .i16 ((rd_T81 ((rd_T31 l0 0).f1) x20_1).f2)], .slice Ao28 x5_1.length co28] (by rfl) rfl rfl zm ?_
 with_reducible refine (impl_Node_renamed.calls ((rd_T81 ((rd_T31 l0 0).f1) x20_1).f0) ((rd_T81 ((rd_T31 l0 0).f1) x20_1).f1) ((rd_T81 ((rd_T31 l0 0).f1) x20_1).f2) _ _ x5_1 t446 t447 t448 _ ?side1 ?side2 A22.out).mono ?_
 (case side1 => exact zrc HO_5)
 (case side2 => exact (Kd.R_reads' HO_5.out).2.1)
 rintro e w29 ⟨rfl, hb⟩
 refine ⟨_, rfl, ?_⟩
 have n_ : _ ∧ _ ∧ _ ∧ _ ∧ _ ∧ _ ∧ _ := ⟨zr HO_5 hb, zr HO_18 hb, zr HO_432001 hb, zr HO443 hb, zk BK423 hb, zk BK431 hb, zbs hb⟩
 clear HO_5 HO_18 HO_432001 HO443 BK423 BK431 HB
 obtain ⟨HO_5, HO_18, HO_432001, HO443, BK423, BK431, HB⟩ := n_
 (try clear hb)
 (try clear hb2)
 (try clear hk)
 (try clear hi)
 refine hK.out _ _ ⟨(blk_cell BK431.out 0).trans rfl, (blk_cell BK431.out 1).trans rfl, (blk_cell BK431.out 2).trans rfl, (zc HB hw444_0), (zc HB hw444_1), (zc HB hw444_2), (zc HB hw445_0), (zc HB hw445_1), (zc HB hw445_2)⟩ (fun hHeld => ?_)
 clear hK K
 refine norm_ (a' := ?_) ?_ ?_
 rotate_left
 ·show Act.put _ (some 46) _ = _
  exact zap
 refine one_ (i := 15) (N := some 47) (zq 20 65535) rfl rfl (one_of HT_.out (by kernel_rfl)) (by decide) (fun K hK => ?_)
 refine value_ (w1 := ?_) (v := ?_) (by rfl) rfl ?_ ?_
 rotate_left 2
 ·go_simp
  constructor
  rotate_left
  ·rfl
  rfl
 refine hK.out _ _ ⟨(blk_cell (blk_alloc BK431.out _) 0).trans rfl, (blk_cell (blk_alloc BK431.out _) 1).trans rfl, (blk_cell (blk_alloc BK431.out _) 2).trans rfl, (World.cell?_alloc_lt _ _ _ (World.block_lt_of_cell? _ _ ((zc HB hw444_0)))).trans ((zc HB hw444_0)), (World.cell?_alloc_lt _ _ _ (World.block_lt_of_cell? _ _ ((zc HB hw444_1)))).trans ((zc HB hw444_1)), (World.cell?_alloc_lt _ _ _ (World.block_lt_of_cell? _ _ ((zc HB hw444_2)))).trans ((zc HB hw444_2)), (World.cell?_alloc_lt _ _ _ (World.block_lt_of_cell? _ _ ((zc HB hw445_0)))).trans ((zc HB hw445_0)), (World.cell?_alloc_lt _ _ _ (World.block_lt_of_cell? _ _ ((zc HB hw445_1)))).trans ((zc HB hw445_1)), (World.cell?_alloc_lt _ _ _ (World.block_lt_of_cell? _ _ ((zc HB hw445_2)))).trans ((zc HB hw445_2))⟩ (fun hHeld => ?_)
 clear hK K
 refine norm_ (a' := ?_) ?_ ?_
 rotate_left
 ·show Act.put _ (some 47) _ = _
  exact zap
 refine one_ (i := 16) (N := some 48) (zq 20 131071) rfl rfl (one_of HT_.out (by kernel_rfl)) (by decide) (fun K hK => ?_)
 refine Kd.R_append_step k81 (w0 := w) w.heap.size (by rfl) (.tmp 37) (.tmp 47) 29 81 (.agg #[(.int .i8 0), (.int .i16 0), (.int .i16 0)]) 6 rfl Try.underlying29 info81 rfl (by decide) (by omega) u432001 x432001_1 (⟨t446, t447, t448⟩ : S81) [.int .i8 t446, .int .i16 t447, .int .i16 t448] (fun _ => True) (fun _ => False) rfl rfl ?aP (fun _ hk => hk.elim) ?aF ?aO ?aB ?aS ?aL ?_
 (case aP => exact k81_mkM _ _ _ (⟨t446, t447, t448⟩ : S81))
 (case aB => exact zbo)
 (case aF => exact (fun _ _ => trivial))
 (case aO => exact (ze HO_432001).out)
 (case aS => exact (zz HB))
 (case aL => have := LMc23.out; omega)
 intro v450 w30 ho hb hg hat
 rw [← Ny449.out] at ho
 have n_ : _ ∧ _ ∧ _ ∧ _ ∧ _ ∧ _ ∧ _ := ⟨Aside0.mk (Kd.R_over' (ze HO_5).out (Kd.R_typed (ze HO_432001).out) (by decide) hg), Aside0.mk (Kd.R_over' (ze HO_18).out (Kd.R_typed (ze HO_432001).out) (by decide) hg), Aside0.mk (blk_grown (g := gb423) (o := .cells #[.int .i8 0, .slice none 0 0, .slice none 0 0] 31 (0, 0)) (zh BK423).out hg (Kd.R_ne HO_432001.out BK423.out (by decide))), Aside0.mk (blk_grown (g := gb431) (o := .cells #[.int .i8 ((rd_T31 l0 0).f0), u432001, .slice none 0 0] 31 (0, 0)) (zh BK431).out hg (Kd.R_ne HO_432001.out BK431.out (by decide))), Aside0.mk (Kd.R_over' (ze HO443).out (Kd.R_typed (ze HO_432001).out) (by decide) hg), Aside0.mk (hb), Aside0.mk (ho)⟩
 clear HO_5 HO_18 BK423 BK431 HO443 HB HO_432001
 obtain ⟨HO_5, HO_18, BK423, BK431, HO443, HB, HO451⟩ := n_
 clear ho hb hg hat
 obtain ⟨Ao31, co31, eo31⟩ := Kd.R_slice HO451.out
 (first | subst eo31 | (injection eo31 with f1_ f2_ f3_; have f4_ := f1_.symm; have f5_ := f3_.symm; clear f1_ f2_ f3_; subst f4_; subst f5_))
 refine hK.out _ _ ⟨(blk_cell BK431.out 0).trans rfl, (blk_cell BK431.out 1).trans rfl, (blk_cell BK431.out 2).trans rfl, (zc HB hw444_0), (zc HB hw444_1), (zc HB hw444_2), (zc HB hw445_0), (zc HB hw445_1), (zc HB hw445_2)⟩ (fun hHeld => ?_)
 clear hK K
 refine norm_ (a' := ?_) ?_ ?_
 rotate_left
 ·show Act.put _ (some 48) _ = _
  exact zap
 refine zpu 17 (some 6) (zq 20 262143) HT_ ?_
 refine zpu 18 (some 49) (zq 20 524287) HT_ ?_
 refine last_ (i := 19) (N := none) (zq 20 1048575) rfl rfl (one_of HT_.out (by kernel_rfl)) (by decide) (fun K hK => ?_)
 have hs32 : w30.cell? ⟨gb431, 1, none⟩ = some (u432001) := (blk_cell BK431.out 1).trans rfl
 have hfs32 := blk_frozen BK431.out 1
 have hns32_0 := NB423_431.out
 have hms32_0 := NB431_423.out
 refine skip_ (w1 := ?_) (by rfl) rfl ?_ ?_
 rotate_left
 ·go_simp
  rfl
 refine hK.out _ _ ?_
 clear hK K
 refine done_ (done_of HT_.out (by kernel_rfl)) ?_
 try go_wp2_with (first | ((with_reducible refine gate_builtin (b := .append) (xs := #[.tmp 50, .tmp 53]) rfl ?_); at_builtin; refine Kd.R_append (Kd.int .i16) (w0 := w) w.heap.size rfl (.tmp 50) (.tmp 53) 24 79 (.int .i16 0) 2 rfl Try.underlying24 info79 rfl (by decide) (by omega) (.slice Ao28 x5_1.length co28) x5_1 (IntKind.i16.wrap ((x6_1.length : Int))) [.int .i16 (IntKind.i16.wrap ((x6_1.length : Int)))] (fun _ => True) (fun _ => False) rfl (by first | (go_simp; done) | (go_simp; rfl)) ?aP (fun _ hk => hk.elim) ?aF ?aO ?aB ?aS ?aL ?_; (case aP => exact rfl); (case aB => exact zbo); (case aF => exact (fun _ _ => trivial)); (case aO => exact (Kd.R_mono (zs HO_5 BK431).out (fun _ hk => trivial))); (case aS => exact (zz HB)); (case aL => have := LMc24.out; omega); intro v453 w33 ho hb hg hat; rw [← Ny452.out] at ho; have n_ : _ ∧ _ ∧ _ ∧ _ ∧ _ ∧ _ ∧ _ := ⟨Aside0.mk (Kd.R_over' (zs HO_18 BK431).out (Kd.R_typed (zs HO_5 BK431).out) (by decide) hg), Aside0.mk (blk_grown (g := gb423) (o := .cells #[.int .i8 0, .slice none 0 0, .slice none 0 0] 31 (0, 0)) (zf BK423 NB423_431).out hg (Kd.R_ne HO_5.out BK423.out (by decide))), Aside0.mk (blk_grown (g := gb431) (o := .cells #[.int .i8 ((rd_T31 l0 0).f0), .slice Ao31 y449.length co31, .slice none 0 0] 31 (0, 0)) (zp BK431) hg (Kd.R_ne HO_5.out BK431.out (by decide))), Aside0.mk (Kd.R_over' (zs HO443 BK431).out (Kd.R_typed (zs HO_5 BK431).out) (by decide) hg), Aside0.mk (Kd.R_over' (zs HO451 BK431).out (Kd.R_typed (zs HO_5 BK431).out) (by decide) hg), Aside0.mk (hb), Aside0.mk (ho)⟩; clear HO_18 BK423 BK431 HO443 HO451 HB HO_5; obtain ⟨HO_18, BK423, BK431, HO443, HO451, HB, HO454⟩ := n_; clear ho hb hg hat))
 go_roundg k1
 case measure => have := HK1.out; omega
 case rel => exact ⟨(y452), (y441), (wrap64 (x20_1 + 1)), (y449), (.slice Ao31 y449.length co31), zi, H', ⟨by have := HK1.out; omega⟩, ze HO454, ze HO443, ⟨by (with_reducible repeat (first | apply Kd.R_alloc | apply Kd.R_drewN | apply Kd.R_drew)); exact Kd.R_mono HO_18.out (fun _ hk => hk.2)⟩, ze HO451, zh BK423, zh BK431, zba⟩
def impl_SimplifyNetwork.f (k : Nat) (a0_0 : Int) (l0_1 : List (S81)) (l0_2 : List Int) : Option (Int × (List (S81)) × List Int × Int) := (impl_ValidNetwork.f k a0_0 l0_1 l0_2).bind fun t460 => (if t460 = true then ((impl_Network_merged.f k [(⟨a0_0, l0_1, l0_2⟩ : S31)]).bind fun bt461 => ((impl_Network_trimmed.f k [(⟨bt461.1, bt461.2.1, bt461.2.2.1⟩ : S31)]).bind fun bt472 => (some (bt472.1, bt472.2.1, bt472.2.2, 0)))) else (some (0, ([] : List (S81)), ([] : List Int), 1)))
theorem impl_SimplifyNetwork.mono : ∀ a0 a1 a2 k, LeO (impl_SimplifyNetwork.f k a0 a1 a2) (impl_SimplifyNetwork.f (k + 1) a0 a1 a2) := by
 intro a0 a1 a2 k
 unfold impl_SimplifyNetwork.f
 repeat' first | (with_reducible first | apply impl_Network_merged.mono | apply impl_Network_trimmed.mono | apply impl_ValidNetwork.mono | exact LeO.refl _ | exact LeO.none _ | refine LeO.ite ?_ ?_ | refine LeO.bind ?_ (fun _ => ?_)) | apply impl_Network_merged.mono | apply impl_Network_trimmed.mono | apply impl_ValidNetwork.mono | exact LeO.none _ | refine LeO.ite ?_ ?_ | refine LeO.bind ?_ (fun _ => ?_)
theorem impl_SimplifyNetwork.calls (k : Nat) (a0_0 : Int) (A0_1 : Option Addr) (c0_1 : Nat) (l0_1 : List (S81)) (A0_2 : Option Addr) (c0_2 : Nat) (l0_2 : List Int) (r1 : Int) (r2 : List (S81)) (r3 : List Int) (r4 : Int) (w : World) (hr0_1 : Kd.C k81 w A0_1 l0_1.length l0_1) (hc0_1 : l0_1.length ≤ c0_1) (hr0_2 : Kd.C (Kd.int .i16) w A0_2 l0_2.length l0_2) (hc0_2 : l0_2.length ≤ c0_2) (h : impl_SimplifyNetwork.f k a0_0 l0_1 l0_2 = some (r1, r2, r3, r4)) :
    Calls Try.prog 72 #[.agg #[.int .i8 a0_0, .slice A0_1 l0_1.length c0_1, .slice A0_2 l0_2.length c0_2]] w fun e w' => ∃ v1_ v2_ : Value, e = .returned (.tuple #[.agg #[.int .i8 r1, v1_, v2_], .int .i64 r4]) ∧ Kd.R k81 81 w' w.heap.size (fun _ => True) v1_ r2 ∧ Kd.R (Kd.int .i16) 79 w' w.heap.size (fun _ => True) v2_ r3 ∧ Below w.heap.size w w' := by
 have hu31 := Try.underlying31
 have HR0_1 := Aside0.mk hr0_1
 have HC0_1 := Aside0.mk hc0_1
 clear hr0_1 hc0_1
 have HR0_2 := Aside0.mk hr0_2
 have HC0_2 := Aside0.mk hc0_2
 clear hr0_2 hc0_2
 have HB := Aside0.mk (Below.refl w.heap.size w)
 have H : ((impl_ValidNetwork.f k a0_0 l0_1 l0_2).bind fun t460 => (if t460 = true then ((impl_Network_merged.f k [(⟨a0_0, l0_1, l0_2⟩ : S31)]).bind fun bt461 => ((impl_Network_trimmed.f k [(⟨bt461.1, bt461.2.1, bt461.2.2.1⟩ : S31)]).bind fun bt472 => (some (bt472.1, bt472.2.1, bt472.2.2, 0)))) else (some (0, ([] : List (S81)), ([] : List Int), 1)))) = some (r1, r2, r3, r4) := h
 clear h
 replace H := zob H
 obtain ⟨t460, A20, H⟩ := H
 replace H : (if t460 = true then ((impl_Network_merged.f k [(⟨a0_0, l0_1, l0_2⟩ : S31)]).bind fun bt461 => ((impl_Network_trimmed.f k [(⟨bt461.1, bt461.2.1, bt461.2.2.1⟩ : S31)]).bind fun bt472 => (some (bt472.1, bt472.2.1, bt472.2.2, 0)))) else (some (0, ([] : List (S81)), ([] : List Int), 1))) = some (r1, r2, r3, r4) := H
 have A2 := Aside0.mk A20
 clear A20
 by_cases c3 : t460 = true
 rotate_left
 ·replace c3 := Bool.eq_false_iff.mpr c3
  subst c3
  have H1 : (some (0, ([] : List (S81)), ([] : List Int), 1)) = some (r1, r2, r3, r4) := by rw [if_neg (show ¬ (false = true) by decide)] at H; exact H
  clear H
  have H := H1
  clear H1
  simp only [Option.some.injEq, Prod.mk.injEq] at H
  obtain ⟨rfl, rfl, rfl, rfl⟩ := H
  go_enter Try.func72, Try.ntmps72
  go_wp2_with (first | ((with_reducible refine gate_dst (N := 1) rfl ?_); refine zbx 1 #[.int .i8 a0_0, .slice A0_1 l0_1.length c0_1, .slice A0_2 l0_2.length c0_2] 31 ?_; intro gb458 hg w22 hbox hb; have n_ : _ ∧ _ ∧ _ ∧ _ := ⟨zb HB hb, Aside0.mk (hbox), zg HB hg, zg HB hg⟩; clear HB; obtain ⟨HB, BK458, GW458, GE458⟩ := n_; clear hb hbox hg) | ((with_reducible refine gate_dst (N := 2) rfl ?_); refine zbx 2 #[.int .i8 0, .slice none 0 0, .slice none 0 0] 31 ?_; intro gb459 hg w23 hbox hb; have n_ : _ ∧ _ ∧ _ ∧ _ ∧ _ ∧ _ ∧ _ := ⟨zk BK458 hb, zbs hb, Aside0.mk (hbox), zg HB hg, zg HB hg, zn1 BK458 hg, zn2 BK458 hg⟩; clear BK458 HB; obtain ⟨BK458, HB, BK459, GW459, GE459, NB458_459, NB459_458⟩ := n_; clear hb hbox hg; have hnb24 := NB458_459.out; have hnc24 := NB459_458.out; obtain ⟨z25_0, z25_1, z25_2, y25_0, y25_1, y25_2⟩ := zB3 BK458) | ((with_reducible refine gate_callee (f := 27) rfl ?_); refine goesL_ (some 7) rfl rfl Try.func27 (by kernel_rfl) rfl #[.agg #[.int .i8 a0_0, .slice A0_1 l0_1.length c0_1, .slice A0_2 l0_2.length c0_2]] rfl zm ?_; (with_reducible refine (impl_ValidNetwork.calls k a0_0 _ _ l0_1 _ _ l0_2 false _ ?side1 ?side2 ?side3 ?side4 A2.out).mono ?_); (case side1 => exact zcc HB HR0_1.out); (case side2 => exact HC0_1.out); (case side3 => exact zcc HB HR0_2.out); (case side4 => exact HC0_2.out); rintro e w26 ⟨rfl, hb⟩; refine ⟨_, rfl, ?_⟩; have n_ : _ ∧ _ ∧ _ := ⟨zk BK458 hb, zk BK459 hb, zbs hb⟩; clear BK458 BK459 HB; obtain ⟨BK458, BK459, HB⟩ := n_; (try clear hb); (try clear hb2); (try clear hk); (try clear hi); obtain ⟨z27_0, z27_1, z27_2, y27_0, y27_1, y27_2⟩ := zB3 BK459))
  refine bodyPost_ret (results_ct rfl _ _ gb459 31 #[.int .i8 0, .slice none 0 0, .slice none 0 0] (0, 0) _ rfl (zp BK459) Try.underlying31 rfl (by kernel_rfl)) rfl ?_
  exact ⟨_, _, zv, by first | exact Kd.R_nil _ _ _ _ _ | exact Kd.N_nil _ _ _ _ _ | exact Kd.V_nil _ _ _ _ _ | exact Kd.Q_nil _ _ _ _ _ | exact Kd.S_nil _ _ _ _ _, by first | exact Kd.R_nil _ _ _ _ _ | exact Kd.N_nil _ _ _ _ _ | exact Kd.V_nil _ _ _ _ _ | exact Kd.Q_nil _ _ _ _ _ | exact Kd.S_nil _ _ _ _ _, zbo⟩
 subst c3
 have H1 : ((impl_Network_merged.f k [(⟨a0_0, l0_1, l0_2⟩ : S31)]).bind fun bt461 => ((impl_Network_trimmed.f k [(⟨bt461.1, bt461.2.1, bt461.2.2.1⟩ : S31)]).bind fun bt472 => (some (bt472.1, bt472.2.1, bt472.2.2, 0)))) = some (r1, r2, r3, r4) := by rw [if_pos rfl] at H; exact H
 clear H
 have H := H1
 clear H1
 replace H := zob H
 obtain ⟨⟨t461, t462, t465, t468⟩, A40, H⟩ := H
 replace H : ((impl_Network_trimmed.f k [(⟨t461, t462, t465⟩ : S31)]).bind fun bt472 => (some (bt472.1, bt472.2.1, bt472.2.2, 0))) = some (r1, r2, r3, r4) := H
 have A4 := Aside0.mk A40
 clear A40
 replace H := zob H
 obtain ⟨⟨t472, t473, t476⟩, A50, H⟩ := H
 replace H : (some (t472, t473, t476, 0)) = some (r1, r2, r3, r4) := H
 have A5 := Aside0.mk A50
 clear A50
 simp only [Option.some.injEq, Prod.mk.injEq] at H
 obtain ⟨rfl, rfl, rfl, rfl⟩ := H
 go_enter Try.func72, Try.ntmps72
 go_wp2_with (first | ((with_reducible refine gate_dst (N := 1) rfl ?_); refine zbx 1 #[.int .i8 a0_0, .slice A0_1 l0_1.length c0_1, .slice A0_2 l0_2.length c0_2] 31 ?_; intro gb458 hg w6 hbox hb; have n_ : _ ∧ _ ∧ _ ∧ _ := ⟨zb HB hb, Aside0.mk (hbox), zg HB hg, zg HB hg⟩; clear HB; obtain ⟨HB, BK458, GW458, GE458⟩ := n_; clear hb hbox hg) | ((with_reducible refine gate_dst (N := 2) rfl ?_); refine zbx 2 #[.int .i8 0, .slice none 0 0, .slice none 0 0] 31 ?_; intro gb459 hg w7 hbox hb; have n_ : _ ∧ _ ∧ _ ∧ _ ∧ _ ∧ _ ∧ _ := ⟨zk BK458 hb, zbs hb, Aside0.mk (hbox), zg HB hg, zg HB hg, zn1 BK458 hg, zn2 BK458 hg⟩; clear BK458 HB; obtain ⟨BK458, HB, BK459, GW459, GE459, NB458_459, NB459_458⟩ := n_; clear hb hbox hg; have hnb8 := NB458_459.out; have hnc8 := NB459_458.out; obtain ⟨z9_0, z9_1, z9_2, y9_0, y9_1, y9_2⟩ := zB3 BK458) | ((with_reducible refine gate_callee (f := 27) rfl ?_); refine goesL_ (some 7) rfl rfl Try.func27 (by kernel_rfl) rfl #[.agg #[.int .i8 a0_0, .slice A0_1 l0_1.length c0_1, .slice A0_2 l0_2.length c0_2]] rfl zm ?_; (with_reducible refine (impl_ValidNetwork.calls k a0_0 _ _ l0_1 _ _ l0_2 true _ ?side1 ?side2 ?side3 ?side4 A2.out).mono ?_); (case side1 => exact zcc HB HR0_1.out); (case side2 => exact HC0_1.out); (case side3 => exact zcc HB HR0_2.out); (case side4 => exact HC0_2.out); rintro e w10 ⟨rfl, hb⟩; refine ⟨_, rfl, ?_⟩; have n_ : _ ∧ _ ∧ _ := ⟨zk BK458 hb, zk BK459 hb, zbs hb⟩; clear BK458 BK459 HB; obtain ⟨BK458, BK459, HB⟩ := n_; (try clear hb); (try clear hb2); (try clear hk); (try clear hi)) | ((with_reducible refine gate_callee (f := 122) rfl ?_); refine goesL_ (some 11) rfl rfl Try.func122 (by kernel_rfl) rfl #[.pointer (some ⟨gb458, 0, none⟩)] rfl zm ?_; (with_reducible refine (impl_Network_merged.calls k _ [(⟨a0_0, l0_1, l0_2⟩ : S31)] t461 t462 t465 t468 _ ?side1 A4.out).mono ?_); (case side1 => refine ro_of_blk (T := 31) (cs := #[.int .i8 a0_0, .slice A0_1 l0_1.length c0_1, .slice A0_2 l0_2.length c0_2]) (zh BK458).out ?_; exact k31_mk _ (⟨a0_0, l0_1, l0_2⟩ : S31) (by exact HC0_1.out) (by exact zcc HB HR0_1.out) (by exact HC0_2.out) (by exact zcc HB HR0_2.out)); rintro e w11 ⟨v463, v466, v469, rfl, ho0, ho1, ho2, hb⟩; refine ⟨_, rfl, ?_⟩; have n_ : _ ∧ _ ∧ _ ∧ _ ∧ _ ∧ _ := ⟨Aside0.mk (Kd.R_lower ho0 (zz HB)), Aside0.mk (Kd.R_lower ho1 (zz HB)), Aside0.mk (Kd.R_lower ho2 (zz HB)), zk BK458 hb, zk BK459 hb, zbs hb⟩; clear BK458 BK459 HB; obtain ⟨HO464, HO467, HO470, BK458, BK459, HB⟩ := n_; (try clear hb); (try clear hb2); (try clear hk); (try clear hi); (try clear ho0); (try clear ho1); (try clear ho2)) | ((with_reducible refine gate_dst (N := 4) rfl ?_); refine zbx 4 #[.int .i8 0, .slice none 0 0, .slice none 0 0] 31 ?_; intro gb471 hg w12 hbox hb; have n_ : _ ∧ _ ∧ _ ∧ _ ∧ _ ∧ _ ∧ _ ∧ _ ∧ _ ∧ _ ∧ _ ∧ _ ∧ _ := ⟨zr HO464 hb, zr HO467 hb, zr HO470 hb, zk BK458 hb, zk BK459 hb, zbs hb, Aside0.mk (hbox), zg HB hg, zg HB hg, zn1 BK458 hg, zn2 BK458 hg, zn1 BK459 hg, zn2 BK459 hg⟩; clear HO464 HO467 HO470 BK458 BK459 HB; obtain ⟨HO464, HO467, HO470, BK458, BK459, HB, BK471, GW471, GE471, NB458_471, NB471_458, NB459_471, NB471_459⟩ := n_; clear hb hbox hg; have hnb13 := NB471_458.out; have hnc13 := NB458_471.out; have hnb14 := NB471_459.out; have hnc14 := NB459_471.out; obtain ⟨z15_0, z15_1, z15_2, y15_0, y15_1, y15_2⟩ := zB3 BK471; obtain ⟨Ao16, co16, eo16⟩ := Kd.R_slice HO464.out; subst eo16; obtain ⟨Ao17, co17, eo17⟩ := Kd.R_slice HO467.out; subst eo17) | ((with_reducible refine gate_callee (f := 101) rfl ?_); refine goesL_ (some 14) rfl rfl Try.func101 (by kernel_rfl) rfl #[.pointer (some ⟨gb471, 0, none⟩)] rfl zm ?_; (with_reducible refine (impl_Network_trimmed.calls k _ [(⟨t461, t462, t465⟩ : S31)] t472 t473 t476 _ ?side1 A5.out).mono ?_); (case side1 => refine ro_of_blk (T := 31) (cs := #[.int .i8 t461, .slice Ao16 t462.length co16, .slice Ao17 t465.length co17]) (zp BK471) ?_; exact k31_mk _ (⟨t461, t462, t465⟩ : S31) (by exact (Kd.R_reads' HO464.out).2.1) (by exact (Kd.R_reads' (zs HO464 BK471).out).2.2) (by exact (Kd.R_reads' HO467.out).2.1) (by exact (Kd.R_reads' (zs HO467 BK471).out).2.2)); rintro e w18 ⟨v474, v477, rfl, ho0, ho1, hb⟩; refine ⟨_, rfl, ?_⟩; have n_ : _ ∧ _ ∧ _ ∧ _ ∧ _ ∧ _ ∧ _ ∧ _ ∧ _ := ⟨Aside0.mk (Kd.R_elder' (zs HO464 BK471).out (Kd.R_base ho0) hb), Aside0.mk (Kd.R_elder' (zs HO467 BK471).out (Kd.R_base ho1) hb), Aside0.mk (Kd.R_elder' (zs HO470 BK471).out (Kd.R_base ho1) hb), Aside0.mk (Kd.R_lower (Kd.R_new' ho0 (Kd.R_lt (zs HO464 BK471).out)) (zz HB)), Aside0.mk (Kd.R_lower (Kd.R_new' (Kd.R_new' ho1 (Kd.R_lt (zs HO467 BK471).out)) (Kd.R_lt (zs HO470 BK471).out)) (zz HB)), zfb BK458 NB458_471 hb, zfb BK459 NB459_471 hb, Aside0.mk (blk_below (g := gb471) (o := .cells #[.int .i8 t461, .slice Ao16 t462.length co16, .slice Ao17 t465.length co17] 31 (0, 0)) (zp BK471) hb), zbs hb⟩; clear HO464 HO467 HO470 BK458 BK459 BK471 HB; obtain ⟨HO464, HO467, HO470, HO475, HO478, BK458, BK459, BK471, HB⟩ := n_; (try clear hb); (try clear hb2); (try clear hk); (try clear hi); (try clear ho0); (try clear ho1); obtain ⟨z19_0, z19_1, z19_2, y19_0, y19_1, y19_2⟩ := zB3 BK459; obtain ⟨Ao20, co20, eo20⟩ := Kd.R_slice HO475.out; subst eo20; obtain ⟨Ao21, co21, eo21⟩ := Kd.R_slice HO478.out; subst eo21))
 refine bodyPost_ret (results_ct rfl _ _ gb459 31 #[.int .i8 t472, .slice Ao20 t473.length co20, .slice Ao21 t476.length co21] (0, 0) _ rfl (zp BK459) Try.underlying31 rfl (by kernel_rfl)) rfl ?_
 exact ⟨_, _, zv, Kd.R_mono (zs HO475 BK459).out (fun _ hk => trivial), Kd.R_mono (zs HO478 BK459).out (fun _ hk => trivial), zbo⟩
end Go.Proofs.Ytmpmanfoiocfgaa.PFnExactSimplifyNetwork
