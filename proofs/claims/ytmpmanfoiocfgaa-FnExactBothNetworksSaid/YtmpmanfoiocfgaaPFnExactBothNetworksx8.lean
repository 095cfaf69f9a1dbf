-- WRITTEN by xprint.py, a program of this session's. Not trusted: Lean checks it.
-- packed by pack.py
import Derived.Test.YtmpmanfoiocfgaaPFnExactBothNetworksx0
import Derived.Test.YtmpmanfoiocfgaaPFnExactBothNetworksx6
import Derived.Test.YtmpmanfoiocfgaaPFnExactBothNetworksx7
import Derived.Test.YtmpmanfoiocfgaaTFnExactBothNetworksa
namespace Go.Proofs.Ytmpmanfoiocfgaa.PFnExactBothNetworks
open Go.RowKit Go.Proofs.YtmpmanfoiocfgaaW.PrintWords Go.Proofs.YtmpmanfoiocfgaaW.PrintLast Go.Proofs.YtmpmanfoiocfgaaW.PrintMore Go.Proofs.YtmpmanfoiocfgaaX
attribute [local go_sem] max2_int min2_int max_two min_two max_three min_three max_four min_four   -- for this text's walks alone
set_option maxHeartbeats 8000000
set_option maxRecDepth 100000
set_option linter.unusedVariables false
set_option linter.unusedSimpArgs false

mutual
def impl_BothNetworks.j0 : Nat → Bool → Int → List (S81) → List Int → Int → List (S81) → List Int → Option (Int × (List (S81)) × List Int × Int)
  | 0, _, _, _, _, _, _, _ => none
  | k + 1, x11, x239000, x239001, x239002, x240000, x240001, x240002 => if x11 = true then (some (0, ([] : List (S81)), ([] : List Int), 1)) else (if x239000 = x240000 then (if (wrap64 ((x239001.length : Int) + (x240001.length : Int))) > 80 then (some (0, ([] : List (S81)), ([] : List Int), 3)) else (if (wrap64 ((x239002.length : Int) + (x240002.length : Int))) > 8 then (some (0, ([] : List (S81)), ([] : List Int), 3)) else (impl_BothNetworks.l0 k (([] : List Int)) (x240001.length : Int) 0 x239000 x239001 x239002 x240000 x240001 x240002))) else (some (0, ([] : List (S81)), ([] : List Int), 4)))
def impl_BothNetworks.l0 : Nat → List Int → Int → Int → Int → List (S81) → List Int → Int → List (S81) → List Int → Option (Int × (List (S81)) × List Int × Int)
  | 0, _, _, _, _, _, _, _, _, _ => none
  | k + 1, x6, x51, x52, x239000, x239001, x239002, x240000, x240001, x240002 => if x52 < x51 then (if x6.length < 70368744177664 then (impl_BothNetworks.l0 k (x6 ++ [IntKind.i16.wrap (wrap64 ((x239001.length : Int) + x52))]) x51 (wrap64 (x52 + 1)) x239000 x239001 x239002 x240000 x240001 x240002) else (none)) else ((impl_Node.f x239001).bind fun t249 => ((impl_renamedAll.f k x240002 x6).bind fun t252 => ((slices_Concat_int16_int16.f k (([x239002, t252] : List (List Int)))).bind fun t258 => (impl_BothNetworks.l1 k x6 x240001 (x240001.length : Int) 0 x239000 t249 t258))))
def impl_BothNetworks.l1 : Nat → List Int → List (S81) → Int → Int → Int → List (S81) → List Int → Option (Int × (List (S81)) × List Int × Int)
  | 0, _, _, _, _, _, _, _ => none
  | k + 1, x6, x80, x81, x82, x262000, x262001, x262002 => if x82 < x81 then (if 0 ≤ x82 then (if x82 < (x80.length : Int) then ((impl_Node_renamed.f ((rd_T81 x80 x82).f0) ((rd_T81 x80 x82).f1) ((rd_T81 x80 x82).f2) x6).bind fun bt264 => (if x262001.length < 23456248059221 then (impl_BothNetworks.l1 k x6 x80 x81 (wrap64 (x82 + 1)) x262000 (x262001 ++ [(⟨bt264.1, bt264.2.1, bt264.2.2⟩ : S81)]) x262002) else (none))) else (none)) else (none)) else (some (x262000, x262001, x262002, 0))
end
def impl_BothNetworks.f (k : Nat) (a0_0 : Int) (l0_1 : List (S81)) (l0_2 : List Int) (a1_0 : Int) (l1_1 : List (S81)) (l1_2 : List Int) : Option (Int × (List (S81)) × List Int × Int) := (impl_ValidNetwork.f k a0_0 l0_1 l0_2).bind fun t241 => (if t241 = true then ((impl_ValidNetwork.f k a1_0 l1_1 l1_2).bind fun t242 => (impl_BothNetworks.j0 k (!t242) a0_0 l0_1 l0_2 a1_0 l1_1 l1_2)) else (impl_BothNetworks.j0 k true a0_0 l0_1 l0_2 a1_0 l1_1 l1_2))
theorem impl_BothNetworks.mono_l : ∀ k, (∀ y0 y1 y2 y3 y4 y5 y6, LeO (impl_BothNetworks.j0 k y0 y1 y2 y3 y4 y5 y6) (impl_BothNetworks.j0 (k + 1) y0 y1 y2 y3 y4 y5 y6)) ∧ (∀ y0 y1 y2 y3 y4 y5 y6 y7 y8, LeO (impl_BothNetworks.l0 k y0 y1 y2 y3 y4 y5 y6 y7 y8) (impl_BothNetworks.l0 (k + 1) y0 y1 y2 y3 y4 y5 y6 y7 y8)) ∧ (∀ y0 y1 y2 y3 y4 y5 y6, LeO (impl_BothNetworks.l1 k y0 y1 y2 y3 y4 y5 y6) (impl_BothNetworks.l1 (k + 1) y0 y1 y2 y3 y4 y5 y6))
  | 0 => ⟨fun _ _ _ _ _ _ _ r h => by simp [impl_BothNetworks.j0] at h, fun _ _ _ _ _ _ _ _ _ r h => by simp [impl_BothNetworks.l0] at h, fun _ _ _ _ _ _ _ r h => by simp [impl_BothNetworks.l1] at h⟩
  | k + 1 => by
    obtain ⟨ih0, ih1, ih2⟩ := impl_BothNetworks.mono_l k
    refine ⟨?_, ?_, ?_⟩
    · intro y0 y1 y2 y3 y4 y5 y6
      unfold impl_BothNetworks.j0
      repeat' first | (with_reducible first | apply ih0 | apply ih1 | apply ih2 | apply impl_ValidNetwork.mono | apply impl_renamedAll.mono | apply slices_Concat_int16_int16.mono | exact LeO.refl _ | exact LeO.none _ | refine LeO.ite ?_ ?_ | refine LeO.bind ?_ (fun _ => ?_)) | apply ih0 | apply ih1 | apply ih2 | apply impl_ValidNetwork.mono | apply impl_renamedAll.mono | apply slices_Concat_int16_int16.mono | exact LeO.none _ | refine LeO.ite ?_ ?_ | refine LeO.bind ?_ (fun _ => ?_)
    · intro y0 y1 y2 y3 y4 y5 y6 y7 y8
      unfold impl_BothNetworks.l0
      repeat' first | (with_reducible first | apply ih0 | apply ih1 | apply ih2 | apply impl_ValidNetwork.mono | apply impl_renamedAll.mono | apply slices_Concat_int16_int16.mono | exact LeO.refl _ | exact LeO.none _ | refine LeO.ite ?_ ?_ | refine LeO.bind ?_ (fun _ => ?_)) | apply ih0 | apply ih1 | apply ih2 | apply impl_ValidNetwork.mono | apply impl_renamedAll.mono | apply slices_Concat_int16_int16.mono | exact LeO.none _ | refine LeO.ite ?_ ?_ | refine LeO.bind ?_ (fun _ => ?_)
    · intro y0 y1 y2 y3 y4 y5 y6
      unfold impl_BothNetworks.l1
      repeat' first | (with_reducible first | apply ih0 | apply ih1 | apply ih2 | apply impl_ValidNetwork.mono | apply impl_renamedAll.mono | apply slices_Concat_int16_int16.mono | exact LeO.refl _ | exact LeO.none _ | refine LeO.ite ?_ ?_ | refine LeO.bind ?_ (fun _ => ?_)) | apply ih0 | apply ih1 | apply ih2 | apply impl_ValidNetwork.mono | apply impl_renamedAll.mono | apply slices_Concat_int16_int16.mono | exact LeO.none _ | refine LeO.ite ?_ ?_ | refine LeO.bind ?_ (fun _ => ?_)
theorem impl_BothNetworks.mono : ∀ a0 a1 a2 a3 a4 a5 k, LeO (impl_BothNetworks.f k a0 a1 a2 a3 a4 a5) (impl_BothNetworks.f (k + 1) a0 a1 a2 a3 a4 a5) := by
 intro a0 a1 a2 a3 a4 a5 k
 obtain ⟨ih0, ih1, ih2⟩ := impl_BothNetworks.mono_l k
 unfold impl_BothNetworks.f
 repeat' first | (with_reducible first | apply ih0 | apply ih1 | apply ih2 | apply impl_ValidNetwork.mono | apply impl_renamedAll.mono | apply slices_Concat_int16_int16.mono | exact LeO.refl _ | exact LeO.none _ | refine LeO.ite ?_ ?_ | refine LeO.bind ?_ (fun _ => ?_)) | apply ih0 | apply ih1 | apply ih2 | apply impl_ValidNetwork.mono | apply impl_renamedAll.mono | apply slices_Concat_int16_int16.mono | exact LeO.none _ | refine LeO.ite ?_ ?_ | refine LeO.bind ?_ (fun _ => ?_)
def impl_BothNetworks.T13 : Bool × List (List Nat × List Nat) := (true, [([], []), ([0], [0]), ([], []), ([2], [2]), ([3], [3]), ([], []), ([5], [5]), ([], []), ([7], [7]), ([], []), ([8, 9, 4], [8, 9]), ([6, 10], [6, 10]), ([11, 10], [11]), ([1, 4, 12], [1, 4, 12]), ([], []), ([14, 13, 12, 0, 1, 2, 3, 4, 5, 6, 7, 8, 9, 10, 11, 12, 13, 14], [13, 14])])
def impl_BothNetworks.B13 : List Nat := [0, 1, 0, 4, 12, 0, 32, 0, 128, 0, 924, 2044, 4092, 8191, 0, 32767]
theorem impl_BothNetworks.tab13 : rtab .any (opsOf Try.f57 13) = impl_BothNetworks.T13 := by kernel_rfl
theorem impl_BothNetworks.bits13 : waitsOk impl_BothNetworks.T13.2 impl_BothNetworks.B13 = true := by kernel_rfl
def impl_BothNetworks.T17 : Bool × List (List Nat × List Nat) := (true, [([], []), ([0], [0]), ([], []), ([], []), ([2, 3], [2, 3]), ([4], [4]), ([1, 5, 4], [1, 5]), ([0, 1, 2, 3, 4, 5, 6], []), ([7, 6, 6, 0, 1, 2, 3, 4, 5, 6], [6, 7])])
def impl_BothNetworks.B17 : List Nat := [0, 1, 0, 0, 12, 28, 63, 127, 255]
theorem impl_BothNetworks.tab17 : rtab .any (opsOf Try.f57 17) = impl_BothNetworks.T17 := by kernel_rfl
theorem impl_BothNetworks.bits17 : waitsOk impl_BothNetworks.T17.2 impl_BothNetworks.B17 = true := by kernel_rfl
theorem impl_BothNetworks.calls (k : Nat) (a0_0 : Int) (A0_1 : Option Addr) (c0_1 : Nat) (l0_1 : List (S81)) (P0_2_ : Nat → Prop) (A0_2 : Option Addr) (c0_2 : Nat) (l0_2 : List Int) (a1_0 : Int) (A1_1 : Option Addr) (c1_1 : Nat) (l1_1 : List (S81)) (A1_2 : Option Addr) (c1_2 : Nat) (l1_2 : List Int) (r1 : Int) (r2 : List (S81)) (r3 : List Int) (r4 : Int) (w : World) (hr0_1 : Kd.C k81 w A0_1 l0_1.length l0_1) (hc0_1 : l0_1.length ≤ c0_1) (hs0_2 : Kd.V (Kd.int .i16) 79 w w.heap.size (fun k_ => P0_2_ k_) (.slice A0_2 l0_2.length c0_2) l0_2) (hr1_1 : Kd.C k81 w A1_1 l1_1.length l1_1) (hc1_1 : l1_1.length ≤ c1_1) (hr1_2 : Kd.C (Kd.int .i16) w A1_2 l1_2.length l1_2) (hc1_2 : l1_2.length ≤ c1_2) (h : impl_BothNetworks.f k a0_0 l0_1 l0_2 a1_0 l1_1 l1_2 = some (r1, r2, r3, r4)) :
    Calls Try.prog 57 #[.agg #[.int .i8 a0_0, .slice A0_1 l0_1.length c0_1, .slice A0_2 l0_2.length c0_2], .agg #[.int .i8 a1_0, .slice A1_1 l1_1.length c1_1, .slice A1_2 l1_2.length c1_2]] w fun e w' => ∃ v1_ v2_ : Value, e = .returned (.tuple #[.agg #[.int .i8 r1, v1_, v2_], .int .i64 r4]) ∧ Kd.R k81 81 w' w.heap.size (fun k_ => (w.heap.size ≤ k_)) v1_ r2 ∧ Kd.R (Kd.int .i16) 79 w' w.heap.size (fun k_ => (w.heap.size ≤ k_)) v2_ r3 ∧ Below w.heap.size w w' := by
 have hu31 := Try.underlying31
 have hu81 := Try.underlying81
 have HR0_1 := Aside0.mk hr0_1
 have HC0_1 := Aside0.mk hc0_1
 clear hr0_1 hc0_1
 have HO0_2 := Aside0.mk (show Kd.V (Kd.int .i16) 79 w w.heap.size (fun k_ => (P0_2_ k_ ∨ w.heap.size ≤ k_)) (.slice A0_2 l0_2.length c0_2) l0_2 from Kd.V_mono hs0_2 (fun k_ hk => .inl hk))
 have HR1_1 := Aside0.mk hr1_1
 have HC1_1 := Aside0.mk hc1_1
 clear hr1_1 hc1_1
 have HR1_2 := Aside0.mk hr1_2
 have HC1_2 := Aside0.mk hc1_2
 clear hr1_2 hc1_2
 have HB := Aside0.mk (Below.refl w.heap.size w)
 have H : ((impl_ValidNetwork.f k a0_0 l0_1 l0_2).bind fun t241 => (if t241 = true then ((impl_ValidNetwork.f k a1_0 l1_1 l1_2).bind fun t242 => (impl_BothNetworks.j0 k (!t242) a0_0 l0_1 l0_2 a1_0 l1_1 l1_2)) else (impl_BothNetworks.j0 k true a0_0 l0_1 l0_2 a1_0 l1_1 l1_2))) = some (r1, r2, r3, r4) := h
 clear h
 have HC3 := Aside0.mk H
 clear H
 go_enter Try.func57, Try.ntmps57
 go_upto_region 1 with (first | ((with_reducible refine gate_dst (N := 2) rfl ?_); (try (refine gate_guard (by rfl) ?_; dsimp only)); refine zbx 2 #[.int .i8 a0_0, .slice A0_1 l0_1.length c0_1, .slice A0_2 l0_2.length c0_2] 31 ?_; intro gb238 hg w4 hbox hb; have n_ : _ ∧ _ ∧ _ ∧ _ ∧ _ := ⟨Aside0.mk (Kd.V_below (Kd.V_elderB (by (with_reducible repeat (first | apply Kd.V_alloc | apply Kd.V_drewN | apply Kd.V_drew)); exact HO0_2.out) gb238 (Nat.le_of_eq hg.symm)) hb), zb HB hb, Aside0.mk (hbox), zg HB hg, zg HB hg⟩; clear HO0_2 HB; obtain ⟨HO0_2, HB, BK238, GW238, GE238⟩ := n_; clear hb hbox hg) | ((with_reducible refine gate_dst (N := 3) rfl ?_); (try (refine gate_guard (by rfl) ?_; dsimp only)); refine zbx 3 #[.int .i8 a1_0, .slice A1_1 l1_1.length c1_1, .slice A1_2 l1_2.length c1_2] 31 ?_; intro gb239 hg w5 hbox hb; have n_ : _ ∧ _ ∧ _ ∧ _ ∧ _ ∧ _ ∧ _ ∧ _ := ⟨Aside0.mk (Kd.V_below (Kd.V_elderB (by (with_reducible repeat (first | apply Kd.V_alloc | apply Kd.V_drewN | apply Kd.V_drew)); exact HO0_2.out) gb239 (Nat.le_of_eq hg.symm)) hb), zk BK238 hb, zbs hb, Aside0.mk (hbox), zg HB hg, zg HB hg, zn1 BK238 hg, zn2 BK238 hg⟩; clear HO0_2 BK238 HB; obtain ⟨HO0_2, BK238, HB, BK239, GW239, GE239, NB238_239, NB239_238⟩ := n_; clear hb hbox hg) | ((with_reducible refine gate_dst (N := 4) rfl ?_); (try (refine gate_guard (by rfl) ?_; dsimp only)); refine zbx 4 #[.int .i8 0, .slice none 0 0, .slice none 0 0] 31 ?_; intro gb240 hg w6 hbox hb; have n_ : _ ∧ _ ∧ _ ∧ _ ∧ _ ∧ _ ∧ _ ∧ _ ∧ _ ∧ _ ∧ _ := ⟨Aside0.mk (Kd.V_below (Kd.V_elderB (by (with_reducible repeat (first | apply Kd.V_alloc | apply Kd.V_drewN | apply Kd.V_drew)); exact HO0_2.out) gb240 (Nat.le_of_eq hg.symm)) hb), zk BK238 hb, zk BK239 hb, zbs hb, Aside0.mk (hbox), zg HB hg, zg HB hg, zn1 BK238 hg, zn2 BK238 hg, zn1 BK239 hg, zn2 BK239 hg⟩; clear HO0_2 BK238 BK239 HB; obtain ⟨HO0_2, BK238, BK239, HB, BK240, GW240, GE240, NB238_240, NB240_238, NB239_240, NB240_239⟩ := n_; clear hb hbox hg))
 (try simp only [Act.put, List.setIfInBounds_toArray, List.set_cons_zero, List.set_cons_succ])
 go_cut [11] (fun v11 wc => ∃ (kq : Nat) (x11_2 : Bool), v11 = .bool x11_2 ∧ Aside0 (impl_BothNetworks.j0 kq x11_2 a0_0 l0_1 l0_2 a1_0 l1_1 l1_2 = some (r1, r2, r3, r4)) ∧ Aside0 (kq ≤ k) ∧ Aside0 (Kd.V (Kd.int .i16) 79 wc w.heap.size (fun k_ => (P0_2_ k_ ∨ w.heap.size ≤ k_) ∧ k_ ≠ gb238 ∧ k_ ≠ gb239 ∧ k_ ≠ gb240) (.slice A0_2 l0_2.length c0_2) l0_2) ∧ Aside0 (wc.heap[gb238]? = some (.cells #[.int .i8 a0_0, (.slice A0_1 l0_1.length c0_1), (.slice A0_2 l0_2.length c0_2)] 31 (0, 0))) ∧ Aside0 (wc.heap[gb239]? = some (.cells #[.int .i8 a1_0, (.slice A1_1 l1_1.length c1_1), (.slice A1_2 l1_2.length c1_2)] 31 (0, 0))) ∧ Aside0 (wc.heap[gb240]? = some (.cells #[.int .i8 0, (.slice none 0 0), (.slice none 0 0)] 31 (0, 0))) ∧ Aside0 (Below w.heap.size w wc))
 case first =>
  have H := HC3.out
  clear HC3
  replace H := zob H
  obtain ⟨t241, A70, H⟩ := H
  replace H : (if t241 = true then ((impl_ValidNetwork.f k a1_0 l1_1 l1_2).bind fun t242 => (impl_BothNetworks.j0 k (!t242) a0_0 l0_1 l0_2 a1_0 l1_1 l1_2)) else (impl_BothNetworks.j0 k true a0_0 l0_1 l0_2 a1_0 l1_1 l1_2)) = some (r1, r2, r3, r4) := H
  have A7 := Aside0.mk A70
  clear A70
  by_cases c8 : t241 = true
  rotate_left
  ·replace c8 := Bool.eq_false_iff.mpr c8
   subst c8
   have H1 : (impl_BothNetworks.j0 k true a0_0 l0_1 l0_2 a1_0 l1_1 l1_2) = some (r1, r2, r3, r4) := by rw [if_neg (show ¬ (false = true) by decide)] at H; exact H
   clear H
   have H := H1
   clear H1
   have H' := Aside0.mk H
   clear H
   have hnb17 := NB238_239.out
   have hnc17 := NB239_238.out
   have hnb18 := NB238_240.out
   have hnc18 := NB240_238.out
   obtain ⟨z19_0, z19_1, z19_2, y19_0, y19_1, y19_2⟩ := zB3 BK238
   go_wp2_with (first | ((with_reducible refine gate_callee (f := 27) rfl ?_); refine goesL_ (some 13) rfl rfl Try.func27 (by kernel_rfl) rfl #[.agg #[.int .i8 a0_0, .slice A0_1 l0_1.length c0_1, .slice A0_2 l0_2.length c0_2]] rfl zm ?_; (with_reducible refine (impl_ValidNetwork.calls k a0_0 _ _ l0_1 _ _ l0_2 false _ ?side1 ?side2 ?side3 ?side4 A7.out).mono ?_); (case side1 => exact zcc HB HR0_1.out); (case side2 => exact HC0_1.out); (case side3 => repeat (first | exact (Kd.V_reads' HO0_2.out).2.2 | (with_reducible refine Kd.C_alloc ?_ _) | (with_reducible refine Kd.C_drewN ?_ _) | (with_reducible refine Kd.C_drew ?_))); (case side4 => exact (Kd.V_reads' HO0_2.out).2.1); rintro e w20 ⟨rfl, hb⟩; refine ⟨_, rfl, ?_⟩; have n_ : _ ∧ _ ∧ _ ∧ _ ∧ _ := ⟨Aside0.mk (Kd.V_below (by (with_reducible repeat (first | apply Kd.V_alloc | apply Kd.V_drewN | apply Kd.V_drew)); exact HO0_2.out) hb), zk BK238 hb, zk BK239 hb, zk BK240 hb, zbs hb⟩; clear HO0_2 BK238 BK239 BK240 HB; obtain ⟨HO0_2, BK238, BK239, BK240, HB⟩ := n_; (try clear hb); (try clear hb2); (try clear hk); (try clear hi)))
   go_meet
   case rel => exact ⟨_, (true), zi, H', ⟨by first | omega | exact Nat.le_refl _⟩, ⟨by (with_reducible repeat (first | apply Kd.V_alloc | apply Kd.V_drewN | apply Kd.V_drew)); exact Kd.V_mono HO0_2.out (fun _ hk => ⟨hk.1.1.1, ⟨hk.1.1.2, ⟨hk.1.2, hk.2⟩⟩⟩)⟩, zh BK238, zh BK239, zh BK240, zba⟩
  subst c8
  have H1 : ((impl_ValidNetwork.f k a1_0 l1_1 l1_2).bind fun t242 => (impl_BothNetworks.j0 k (!t242) a0_0 l0_1 l0_2 a1_0 l1_1 l1_2)) = some (r1, r2, r3, r4) := by rw [if_pos rfl] at H; exact H
  clear H
  have H := H1
  clear H1
  replace H := zob H
  obtain ⟨t242, A90, H⟩ := H
  replace H : (impl_BothNetworks.j0 k (!t242) a0_0 l0_1 l0_2 a1_0 l1_1 l1_2) = some (r1, r2, r3, r4) := H
  have A9 := Aside0.mk A90
  clear A90
  have H' := Aside0.mk H
  clear H
  have hnb10 := NB238_239.out
  have hnc10 := NB239_238.out
  have hnb11 := NB238_240.out
  have hnc11 := NB240_238.out
  obtain ⟨z12_0, z12_1, z12_2, y12_0, y12_1, y12_2⟩ := zB3 BK238
  go_wp2_with (first | ((with_reducible refine gate_callee (f := 27) rfl ?_); refine goesL_ (some 13) rfl rfl Try.func27 (by kernel_rfl) rfl #[.agg #[.int .i8 a0_0, .slice A0_1 l0_1.length c0_1, .slice A0_2 l0_2.length c0_2]] rfl zm ?_; (with_reducible refine (impl_ValidNetwork.calls k a0_0 _ _ l0_1 _ _ l0_2 true _ ?side1 ?side2 ?side3 ?side4 A7.out).mono ?_); (case side1 => exact zcc HB HR0_1.out); (case side2 => exact HC0_1.out); (case side3 => repeat (first | exact (Kd.V_reads' HO0_2.out).2.2 | (with_reducible refine Kd.C_alloc ?_ _) | (with_reducible refine Kd.C_drewN ?_ _) | (with_reducible refine Kd.C_drew ?_))); (case side4 => exact (Kd.V_reads' HO0_2.out).2.1); rintro e w13 ⟨rfl, hb⟩; refine ⟨_, rfl, ?_⟩; have n_ : _ ∧ _ ∧ _ ∧ _ ∧ _ := ⟨Aside0.mk (Kd.V_below (by (with_reducible repeat (first | apply Kd.V_alloc | apply Kd.V_drewN | apply Kd.V_drew)); exact HO0_2.out) hb), zk BK238 hb, zk BK239 hb, zk BK240 hb, zbs hb⟩; clear HO0_2 BK238 BK239 BK240 HB; obtain ⟨HO0_2, BK238, BK239, BK240, HB⟩ := n_; (try clear hb); (try clear hb2); (try clear hk); (try clear hi); have hnb14 := NB239_240.out; have hnc14 := NB240_239.out; obtain ⟨z15_0, z15_1, z15_2, y15_0, y15_1, y15_2⟩ := zB3 BK239) | (go_at_call 27; (with_reducible refine (impl_ValidNetwork.calls k a1_0 _ _ l1_1 _ _ l1_2 t242 _ ?side1 ?side2 ?side3 ?side4 A9.out).mono ?_); (case side1 => exact zcc HB HR1_1.out); (case side2 => exact HC1_1.out); (case side3 => exact zcc HB HR1_2.out); (case side4 => exact HC1_2.out); rintro e w16 ⟨rfl, hb⟩; have n_ : _ ∧ _ ∧ _ ∧ _ ∧ _ := ⟨Aside0.mk (Kd.V_below (by (with_reducible repeat (first | apply Kd.V_alloc | apply Kd.V_drewN | apply Kd.V_drew)); exact HO0_2.out) hb), zk BK238 hb, zk BK239 hb, zk BK240 hb, zbs hb⟩; clear HO0_2 BK238 BK239 BK240 HB; obtain ⟨HO0_2, BK238, BK239, BK240, HB⟩ := n_; (try clear hb); (try clear hb2); (try clear hk); (try clear hi)))
  go_meet
  case rel => exact ⟨_, (!t242), zi, H', ⟨by first | omega | exact Nat.le_refl _⟩, ⟨by (with_reducible repeat (first | apply Kd.V_alloc | apply Kd.V_drewN | apply Kd.V_drew)); exact Kd.V_mono HO0_2.out (fun _ hk => ⟨hk.1.1.1, ⟨hk.1.1.2, ⟨hk.1.2, hk.2⟩⟩⟩)⟩, zh BK238, zh BK239, zh BK240, zba⟩
 clear HC3
 try clear c1
 try clear c2
 try clear p2
 try clear c5
 try clear c8
 try clear c10
 try clear c11
 try clear c14
 try clear c17
 try clear c18
 try clear z12_0 z12_1 z12_2
 try clear z15_0 z15_1 z15_2
 try clear z19_0 z19_1 z19_2
 try clear y12_0
 try clear y12_1
 try clear y12_2
 try clear y15_0
 try clear y15_1
 try clear y15_2
 try clear y19_0
 try clear y19_1
 try clear y19_2
 obtain ⟨kq, x11_2, rfl, HA, HJ2, HO_239002, BK238, BK239, BK240, HB⟩ := hcut
 cases kq with
 | zero => exact absurd HA.out (by simp [impl_BothNetworks.j0])
 | succ kj2 => ?_
 have H := HA.out
 clear HA
 simp only [impl_BothNetworks.j0] at H
 by_cases c21 : x11_2 = true
 ·subst c21
  have H1 : (some (0, ([] : List (S81)), ([] : List Int), 1)) = some (r1, r2, r3, r4) := by rw [if_pos rfl] at H; exact H
  clear H
  have H := H1
  clear H1
  simp only [Option.some.injEq, Prod.mk.injEq] at H
  obtain ⟨rfl, rfl, rfl, rfl⟩ := H
  have hnb22 := NB240_238.out
  have hnc22 := NB238_240.out
  have hnb23 := NB240_239.out
  have hnc23 := NB239_240.out
  obtain ⟨z24_0, z24_1, z24_2, y24_0, y24_1, y24_2⟩ := zB3 BK240
  go_wp2
  refine bodyPost_ret (results_ct rfl _ _ gb240 31 #[.int .i8 0, .slice none 0 0, .slice none 0 0] (0, 0) _ rfl (zp BK240) Try.underlying31 rfl (by kernel_rfl)) rfl ?_
  exact ⟨_, _, zv, by first | exact Kd.R_nil _ _ _ _ _ | exact Kd.N_nil _ _ _ _ _ | exact Kd.V_nil _ _ _ _ _ | exact Kd.Q_nil _ _ _ _ _ | exact Kd.S_nil _ _ _ _ _, by first | exact Kd.R_nil _ _ _ _ _ | exact Kd.N_nil _ _ _ _ _ | exact Kd.V_nil _ _ _ _ _ | exact Kd.Q_nil _ _ _ _ _ | exact Kd.S_nil _ _ _ _ _, zbo⟩
 replace c21 := Bool.eq_false_iff.mpr c21
 subst c21
 have H1 : (if a0_0 = a1_0 then (if (wrap64 ((l0_1.length : Int) + (l1_1.length : Int))) > 80 then (some (0, ([] : List (S81)), ([] : List Int), 3)) else (if (wrap64 ((l0_2.length : Int) + (l1_2.length : Int))) > 8 then (some (0, ([] : List (S81)), ([] : List Int), 3)) else (impl_BothNetworks.l0 kj2 (([] : List Int)) (l1_1.length : Int) 0 a0_0 l0_1 l0_2 a1_0 l1_1 l1_2))) else (some (0, ([] : List (S81)), ([] : List Int), 4))) = some (r1, r2, r3, r4) := by rw [if_neg (show ¬ (false = true) by decide)] at H; exact H
 clear H
 have H := H1
 clear H1
 by_cases c25 : a0_0 = a1_0
 rotate_left
 ·rw [if_neg c25] at H
  have c25b0 : (a0_0 == a1_0) = false := beq_eq_false_iff_ne.mpr c25
  have c25b1 : (a0_0 != a1_0) = true := bne_iff_ne.mpr c25
  simp only [Option.some.injEq, Prod.mk.injEq] at H
  obtain ⟨rfl, rfl, rfl, rfl⟩ := H
  have hnb104 := NB238_239.out
  have hnc104 := NB239_238.out
  have hnb105 := NB238_240.out
  have hnc105 := NB240_238.out
  obtain ⟨z106_0, z106_1, z106_2, y106_0, y106_1, y106_2⟩ := zB3 BK238
  have hnb107 := NB239_240.out
  have hnc107 := NB240_239.out
  obtain ⟨z108_0, z108_1, z108_2, y108_0, y108_1, y108_2⟩ := zB3 BK239
  obtain ⟨z109_0, z109_1, z109_2, y109_0, y109_1, y109_2⟩ := zB3 BK240
  go_wp2
  refine bodyPost_ret (results_ct rfl _ _ gb240 31 #[.int .i8 0, .slice none 0 0, .slice none 0 0] (0, 0) _ rfl (zp BK240) Try.underlying31 rfl (by kernel_rfl)) rfl ?_
  exact ⟨_, _, zv, by first | exact Kd.R_nil _ _ _ _ _ | exact Kd.N_nil _ _ _ _ _ | exact Kd.V_nil _ _ _ _ _ | exact Kd.Q_nil _ _ _ _ _ | exact Kd.S_nil _ _ _ _ _, by first | exact Kd.R_nil _ _ _ _ _ | exact Kd.N_nil _ _ _ _ _ | exact Kd.V_nil _ _ _ _ _ | exact Kd.Q_nil _ _ _ _ _ | exact Kd.S_nil _ _ _ _ _, zbo⟩
 rw [if_pos c25] at H
 have c25b0 : (a0_0 == a1_0) = true := beq_iff_eq.mpr c25
 have c25b1 : (a0_0 != a1_0) = false := bne_eq_false_iff_eq.mpr c25
 clear c25
 by_cases c26 : (wrap64 ((l0_1.length : Int) + (l1_1.length : Int))) > 80
 ·rw [if_pos c26] at H
  have c26b0 : decide (80 < (wrap64 ((l0_1.length : Int) + (l1_1.length : Int)))) = true := decide_eq_true c26
  clear c26
  simp only [Option.some.injEq, Prod.mk.injEq] at H
  obtain ⟨rfl, rfl, rfl, rfl⟩ := H
  have hnb27 := NB238_239.out
  have hnc27 := NB239_238.out
  have hnb28 := NB238_240.out
  have hnc28 := NB240_238.out
  obtain ⟨z29_0, z29_1, z29_2, y29_0, y29_1, y29_2⟩ := zB3 BK238
  have hnb30 := NB239_240.out
  have hnc30 := NB240_239.out
  obtain ⟨z31_0, z31_1, z31_2, y31_0, y31_1, y31_2⟩ := zB3 BK239
  obtain ⟨z32_0, z32_1, z32_2, y32_0, y32_1, y32_2⟩ := zB3 BK240
  go_wp2
  refine bodyPost_ret (results_ct rfl _ _ gb240 31 #[.int .i8 0, .slice none 0 0, .slice none 0 0] (0, 0) _ rfl (zp BK240) Try.underlying31 rfl (by kernel_rfl)) rfl ?_
  exact ⟨_, _, zv, by first | exact Kd.R_nil _ _ _ _ _ | exact Kd.N_nil _ _ _ _ _ | exact Kd.V_nil _ _ _ _ _ | exact Kd.Q_nil _ _ _ _ _ | exact Kd.S_nil _ _ _ _ _, by first | exact Kd.R_nil _ _ _ _ _ | exact Kd.N_nil _ _ _ _ _ | exact Kd.V_nil _ _ _ _ _ | exact Kd.Q_nil _ _ _ _ _ | exact Kd.S_nil _ _ _ _ _, zbo⟩
 rw [if_neg c26] at H
 have c26b0 : decide (80 < (wrap64 ((l0_1.length : Int) + (l1_1.length : Int)))) = false := decide_eq_false c26
 clear c26
 by_cases c33 : (wrap64 ((l0_2.length : Int) + (l1_2.length : Int))) > 8
 ·rw [if_pos c33] at H
  have c33b0 : decide (8 < (wrap64 ((l0_2.length : Int) + (l1_2.length : Int)))) = true := decide_eq_true c33
  clear c33
  simp only [Option.some.injEq, Prod.mk.injEq] at H
  obtain ⟨rfl, rfl, rfl, rfl⟩ := H
  have hnb34 := NB238_239.out
  have hnc34 := NB239_238.out
  have hnb35 := NB238_240.out
  have hnc35 := NB240_238.out
  obtain ⟨z36_0, z36_1, z36_2, y36_0, y36_1, y36_2⟩ := zB3 BK238
  have hnb37 := NB239_240.out
  have hnc37 := NB240_239.out
  obtain ⟨z38_0, z38_1, z38_2, y38_0, y38_1, y38_2⟩ := zB3 BK239
  obtain ⟨z39_0, z39_1, z39_2, y39_0, y39_1, y39_2⟩ := zB3 BK240
  go_wp2
  refine bodyPost_ret (results_ct rfl _ _ gb240 31 #[.int .i8 0, .slice none 0 0, .slice none 0 0] (0, 0) _ rfl (zp BK240) Try.underlying31 rfl (by kernel_rfl)) rfl ?_
  exact ⟨_, _, zv, by first | exact Kd.R_nil _ _ _ _ _ | exact Kd.N_nil _ _ _ _ _ | exact Kd.V_nil _ _ _ _ _ | exact Kd.Q_nil _ _ _ _ _ | exact Kd.S_nil _ _ _ _ _, by first | exact Kd.R_nil _ _ _ _ _ | exact Kd.N_nil _ _ _ _ _ | exact Kd.V_nil _ _ _ _ _ | exact Kd.Q_nil _ _ _ _ _ | exact Kd.S_nil _ _ _ _ _, zbo⟩
 rw [if_neg c33] at H
 have c33b0 : decide (8 < (wrap64 ((l0_2.length : Int) + (l1_2.length : Int)))) = false := decide_eq_false c33
 clear c33
 obtain ⟨y243, hy243⟩ : ∃ y_ : List Int, y_ = (([] : List Int)) := ⟨_, rfl⟩
 replace H : (impl_BothNetworks.l0 kj2 y243 (l1_1.length : Int) 0 a0_0 l0_1 l0_2 a1_0 l1_1 l1_2) = some (r1, r2, r3, r4) := by first | (rw [hy243]; with_reducible exact H) | (have H2_ := (Option.bind_some _ _).symm.trans H; rw [hy243]; with_reducible exact H2_) | (have H2_ := (Option.bind_some _ _).symm.trans H; with_reducible exact H2_) | with_reducible exact H | (rw [hy243]; exact H) | exact H
 have Ny243 := Aside0.mk hy243
 clear hy243
 have H' := Aside0.mk H
 clear H
 have hnb40 := NB238_239.out
 have hnc40 := NB239_238.out
 have hnb41 := NB238_240.out
 have hnc41 := NB240_238.out
 obtain ⟨z42_0, z42_1, z42_2, y42_0, y42_1, y42_2⟩ := zB3 BK238
 have hnb43 := NB239_240.out
 have hnc43 := NB240_239.out
 obtain ⟨z44_0, z44_1, z44_2, y44_0, y44_1, y44_2⟩ := zB3 BK239
 go_wp2_with (first | ((with_reducible refine gate_dst (N := 48) rfl ?_); (try (refine gate_guard (by rfl) ?_; dsimp only)); refine Kd.R_lit (Kd.int .i16) _ 79 ?hg (N := 48) ?hd (xs := ([] : List Int)) (inner := []) (ok := fun _ => True) (okp := fun _ => True) ?hr ?hp (fun _ hk => hk) trivial (Below.refl _ _) (Nat.le_refl _) (by simp) ?_; (case hd => rfl); (case hg => rfl); (case hr => exact zgs); (case hp => exact (Reps.none _ _)); intro v244 w45 ho46 hb hg_ hnew_; clear hg_ hnew_; (first | rw [← Ny243.out] at ho46 | (simp only [Int.reduceToNat] at ho46; rw [← Ny243.out] at ho46)); have n_ : _ ∧ _ ∧ _ ∧ _ ∧ _ ∧ _ := ⟨Aside0.mk (Kd.V_elder' (by (with_reducible repeat (first | apply Kd.V_alloc | apply Kd.V_drewN | apply Kd.V_drew)); exact HO_239002.out) (Kd.R_base ho46) hb), Aside0.mk (Kd.R_lower (Kd.R_newM (M := fun k_ => (w.heap.size ≤ k_)) ho46 (zz HB) (fun k_ h_ => h_)) (zz HB)), zk BK238 hb, zk BK239 hb, zk BK240 hb, zbs hb⟩; clear HO_239002 BK238 BK239 BK240 HB; obtain ⟨HO_239002, HO245, BK238, BK239, BK240, HB⟩ := n_; clear hb ho46; obtain ⟨z47_0, z47_1, z47_2, y47_0, y47_1, y47_2⟩ := zB3 BK239))
 go_loopg [6, 52] kj2 (fun kq v6 v52 w' => ∃ (x6_2 : List Int) (x52_2 : Int), v52 = .int .i64 x52_2 ∧ Aside0 (impl_BothNetworks.l0 kq x6_2 (l1_1.length : Int) x52_2 a0_0 l0_1 l0_2 a1_0 l1_1 l1_2 = some (r1, r2, r3, r4)) ∧ Aside0 (kq ≤ kj2) ∧ Aside0 (Kd.R (Kd.int .i16) 79 w' w.heap.size (fun k_ => (w.heap.size ≤ k_)) v6 x6_2) ∧ Aside0 (Kd.V (Kd.int .i16) 79 w' w.heap.size (fun k_ => (P0_2_ k_ ∨ w.heap.size ≤ k_) ∧ some k_ ≠ (v6 : Value).ownBlock ∧ k_ ≠ gb238 ∧ k_ ≠ gb239 ∧ k_ ≠ gb240) (.slice A0_2 l0_2.length c0_2) l0_2) ∧ Aside0 (w'.heap[gb238]? = some (.cells #[.int .i8 a0_0, (.slice A0_1 l0_1.length c0_1), (.slice A0_2 l0_2.length c0_2)] 31 (0, 0))) ∧ Aside0 (w'.heap[gb239]? = some (.cells #[.int .i8 a1_0, (.slice A1_1 l1_1.length c1_1), (.slice A1_2 l1_2.length c1_2)] 31 (0, 0))) ∧ Aside0 (w'.heap[gb240]? = some (.cells #[.int .i8 0, (.slice none 0 0), (.slice none 0 0)] 31 (0, 0))) ∧ Aside0 (Below w.heap.size w w'))
 case atStart => exact ⟨(y243), (0), zi, H', ⟨Nat.le_refl _⟩, ⟨by (with_reducible repeat (first | apply Kd.R_alloc | apply Kd.R_drewN | apply Kd.R_drew)); exact Kd.R_mono HO245.out (fun _ hk => hk.1)⟩, ⟨by (with_reducible repeat (first | apply Kd.V_alloc | apply Kd.V_drewN | apply Kd.V_drew)); exact Kd.V_mono HO_239002.out (fun _ hk => ⟨hk.1.1, ⟨hk.2, ⟨hk.1.2.1, ⟨hk.1.2.2.1, hk.1.2.2.2⟩⟩⟩⟩)⟩, zh BK238, zh BK239, zh BK240, zba⟩
 clear H'
 try clear c1
 try clear c2
 try clear p2
 try clear c3
 try clear c4
 try clear c5
 try clear p6
 try clear c8
 try clear c10
 try clear c11
 try clear c14
 try clear c17
 try clear c18
 try clear c21
 try clear c22
 try clear c23
 try clear c25
 try clear c25b0
 try clear c25b1
 try clear c26
 try clear c26b0
 try clear c27
 try clear c28
 try clear c30
 try clear c33
 try clear c33b0
 try clear c34
 try clear c35
 try clear c37
 try clear c40
 try clear c41
 try clear c43
 try clear z12_0 z12_1 z12_2
 try clear z15_0 z15_1 z15_2
 try clear z19_0 z19_1 z19_2
 try clear z24_0 z24_1 z24_2
 try clear z29_0 z29_1 z29_2
 try clear z31_0 z31_1 z31_2
 try clear z32_0 z32_1 z32_2
 try clear z36_0 z36_1 z36_2
 try clear z38_0 z38_1 z38_2
 try clear z39_0 z39_1 z39_2
 try clear z42_0 z42_1 z42_2
 try clear z44_0 z44_1 z44_2
 try clear z47_0 z47_1 z47_2
 try clear y12_0
 try clear y12_1
 try clear y12_2
 try clear y15_0
 try clear y15_1
 try clear y15_2
 try clear y19_0
 try clear y19_1
 try clear y19_2
 try clear y24_0
 try clear y24_1
 try clear y24_2
 try clear y29_0
 try clear y29_1
 try clear y29_2
 try clear y31_0
 try clear y31_1
 try clear y31_2
 try clear y32_0
 try clear y32_1
 try clear y32_2
 try clear y36_0
 try clear y36_1
 try clear y36_2
 try clear y38_0
 try clear y38_1
 try clear y38_2
 try clear y39_0
 try clear y39_1
 try clear y39_2
 try clear y42_0
 try clear y42_1
 try clear y42_2
 try clear y44_0
 try clear y44_1
 try clear y44_2
 try clear y47_0
 try clear y47_1
 try clear y47_2
 try clear p2
 obtain ⟨x6_2, x52_2, rfl, HA, HK2, HO_6, HO_239002, BK238, BK239, BK240, HB⟩ := hrel
 cases gk with
 | zero => exact absurd HA.out (by simp [impl_BothNetworks.l0])
 | succ k2 => ?_
 have H := HA.out
 clear HA
 simp only [impl_BothNetworks.l0] at H
 by_cases c48 : x52_2 < (l1_1.length : Int)
 ·rw [if_pos c48] at H
  have c48b0 : decide (x52_2 < (l1_1.length : Int)) = true := decide_eq_true c48
  clear c48
  by_cases c49 : x6_2.length < 70368744177664
  rotate_left
  ·rw [if_neg c49] at H
   exact absurd H (by simp)
  rw [if_pos c49] at H
  have LMc49 := Aside0.mk c49
  clear c49
  obtain ⟨y246, hy246⟩ : ∃ y_ : List Int, y_ = (x6_2 ++ [IntKind.i16.wrap (wrap64 ((l0_1.length : Int) + x52_2))]) := ⟨_, rfl⟩
  replace H : (impl_BothNetworks.l0 k2 y246 (l1_1.length : Int) (wrap64 (x52_2 + 1)) a0_0 l0_1 l0_2 a1_0 l1_1 l1_2) = some (r1, r2, r3, r4) := by first | (rw [hy246]; with_reducible exact H) | (have H2_ := (Option.bind_some _ _).symm.trans H; rw [hy246]; with_reducible exact H2_) | (have H2_ := (Option.bind_some _ _).symm.trans H; with_reducible exact H2_) | with_reducible exact H | (rw [hy246]; exact H) | exact H
  have Ny246 := Aside0.mk hy246
  clear hy246
  have H' := Aside0.mk H
  clear H
  have hnb50 := NB238_239.out
  have hnc50 := NB239_238.out
  have hnb51 := NB238_240.out
  have hnc51 := NB240_238.out
  obtain ⟨z52_0, z52_1, z52_2, y52_0, y52_1, y52_2⟩ := zB3 BK238
  go_wp2_with (first | ((with_reducible refine gate_builtin (b := .append) (xs := #[.tmp 55, .tmp 62]) rfl ?_); (try (refine gate_guard (by rfl) ?_; dsimp only)); at_builtin; refine Kd.R_append (Kd.int .i16) (w0 := w) w.heap.size rfl (.tmp 55) (.tmp 62) 24 79 (.int .i16 0) 2 rfl Try.underlying24 info79 rfl (by decide) (by omega) u6 x6_2 (IntKind.i16.wrap (wrap64 ((l0_1.length : Int) + x52_2))) [.int .i16 (IntKind.i16.wrap (wrap64 ((l0_1.length : Int) + x52_2)))] (fun k_ => (w.heap.size ≤ k_)) (fun _ => False) rfl rfl ?aP (fun _ hk => hk.elim) ?aF ?aO ?aB ?aS ?aL ?_; (case aP => exact rfl); (case aB => exact zbo); (case aF => exact (fun k_ hk => (Nat.le_trans (zz HB) hk))); (case aO => exact (ze HO_6).out); (case aS => exact (zz HB)); (case aL => have := LMc49.out; omega); intro v247 w53 ho hb hg hat; rw [← Ny246.out] at ho; have n_ : _ ∧ _ ∧ _ ∧ _ ∧ _ ∧ _ := ⟨Aside0.mk (Kd.V_afterv (ok := (fun k_ => (P0_2_ k_ ∨ w.heap.size ≤ k_) ∧ k_ ≠ gb238 ∧ k_ ≠ gb239 ∧ k_ ≠ gb240)) (by (with_reducible repeat (first | apply Kd.V_alloc | apply Kd.V_drewN | apply Kd.V_drew)); exact Kd.V_mono HO_239002.out (fun _ hk => ⟨⟨hk.1, ⟨hk.2.2.1, ⟨hk.2.2.2.1, hk.2.2.2.2⟩⟩⟩, hk.2.1⟩)) hg hat), Aside0.mk (blk_grown (g := gb238) (o := .cells #[.int .i8 a0_0, .slice A0_1 l0_1.length c0_1, .slice A0_2 l0_2.length c0_2] 31 (0, 0)) (zh BK238).out hg (Kd.R_ne HO_6.out BK238.out (by decide))), Aside0.mk (blk_grown (g := gb239) (o := .cells #[.int .i8 a1_0, .slice A1_1 l1_1.length c1_1, .slice A1_2 l1_2.length c1_2] 31 (0, 0)) (zh BK239).out hg (Kd.R_ne HO_6.out BK239.out (by decide))), Aside0.mk (blk_grown (g := gb240) (o := .cells #[.int .i8 0, .slice none 0 0, .slice none 0 0] 31 (0, 0)) (zh BK240).out hg (Kd.R_ne HO_6.out BK240.out (by decide))), Aside0.mk (hb), Aside0.mk (ho)⟩; clear HO_239002 BK238 BK239 BK240 HB HO_6; obtain ⟨HO_239002, BK238, BK239, BK240, HB, HO248⟩ := n_; clear ho hb hg hat))
  go_roundg k2
  case measure => have := HJ2.out; have := HK2.out; omega
  case rel => exact ⟨(y246), (wrap64 (x52_2 + 1)), zi, H', ⟨by have := HJ2.out; have := HK2.out; omega⟩, ze HO248, ⟨by (with_reducible repeat (first | apply Kd.V_alloc | apply Kd.V_drewN | apply Kd.V_drew)); exact Kd.V_mono HO_239002.out (fun _ hk => ⟨hk.1.1, ⟨hk.2, ⟨hk.1.2.1, ⟨hk.1.2.2.1, hk.1.2.2.2⟩⟩⟩⟩)⟩, zh BK238, zh BK239, zh BK240, zba⟩
 rw [if_neg c48] at H
 have c48b0 : decide (x52_2 < (l1_1.length : Int)) = false := decide_eq_false c48
 clear c48
 replace H := zob H
 obtain ⟨t249, A540, H⟩ := H
 replace H : ((impl_renamedAll.f k2 l1_2 x6_2).bind fun t252 => ((slices_Concat_int16_int16.f k2 (([l0_2, t252] : List (List Int)))).bind fun t258 => (impl_BothNetworks.l1 k2 x6_2 l1_1 (l1_1.length : Int) 0 a0_0 t249 t258))) = some (r1, r2, r3, r4) := H
 have A54 := Aside0.mk A540
 clear A540
 replace H := zob H
 obtain ⟨t252, A550, H⟩ := H
 replace H : ((slices_Concat_int16_int16.f k2 (([l0_2, t252] : List (List Int)))).bind fun t258 => (impl_BothNetworks.l1 k2 x6_2 l1_1 (l1_1.length : Int) 0 a0_0 t249 t258)) = some (r1, r2, r3, r4) := H
 have A55 := Aside0.mk A550
 clear A550
 obtain ⟨y255, hy255⟩ : ∃ y_ : List (List Int), y_ = (([l0_2, t252] : List (List Int))) := ⟨_, rfl⟩
 replace H : ((slices_Concat_int16_int16.f k2 y255).bind fun t258 => (impl_BothNetworks.l1 k2 x6_2 l1_1 (l1_1.length : Int) 0 a0_0 t249 t258)) = some (r1, r2, r3, r4) := by first | (rw [hy255]; with_reducible exact H) | (have H2_ := (Option.bind_some _ _).symm.trans H; rw [hy255]; with_reducible exact H2_) | (have H2_ := (Option.bind_some _ _).symm.trans H; with_reducible exact H2_) | with_reducible exact H | (rw [hy255]; exact H) | exact H
 have Ny255 := Aside0.mk hy255
 clear hy255
 replace H := zob H
 obtain ⟨t258, A560, H⟩ := H
 replace H : (impl_BothNetworks.l1 k2 x6_2 l1_1 (l1_1.length : Int) 0 a0_0 t249 t258) = some (r1, r2, r3, r4) := H
 have A56 := Aside0.mk A560
 clear A560
 have H' := Aside0.mk H
 clear H
 obtain ⟨Ao57, co57, eo57⟩ := Kd.R_slice HO_6.out
 subst eo57
 try go_wp2
 have n_ : _ ∧ _ ∧ _ ∧ _ ∧ _ ∧ _ := ⟨Aside0.mk (Kd.R_drew HO_6.out), Aside0.mk (Kd.V_drew HO_239002.out), Aside0.mk (blk_drew BK238.out), Aside0.mk (blk_drew BK239.out), Aside0.mk (blk_drew BK240.out), Aside0.mk (below_drew1 HB.out)⟩
 clear HO_6 HO_239002 BK238 BK239 BK240 HB
 obtain ⟨HO_6, HO_239002, BK238, BK239, BK240, HB⟩ := n_
 refine start_ (n := 16) (S := fun w' => w'.cell? ⟨gb238, 0, none⟩ = some (.int .i8 a0_0) ∧ w'.cell? ⟨gb238, 1, none⟩ = some (.slice A0_1 l0_1.length c0_1) ∧ w'.cell? ⟨gb238, 2, none⟩ = some (.slice A0_2 l0_2.length c0_2) ∧ w'.cell? ⟨gb239, 0, none⟩ = some (.int .i8 a1_0) ∧ w'.cell? ⟨gb239, 1, none⟩ = some (.slice A1_1 l1_1.length c1_1) ∧ w'.cell? ⟨gb239, 2, none⟩ = some (.slice A1_2 l1_2.length c1_2)) (ds := []) (zq 16 0) (by kernel_rfl) rfl rfl ⟨(blk_cell BK238.out 0).trans rfl, (blk_cell BK238.out 1).trans rfl, (blk_cell BK238.out 2).trans rfl, (blk_cell BK239.out 0).trans rfl, (blk_cell BK239.out 1).trans rfl, (blk_cell BK239.out 2).trans rfl⟩ (fun hHeld => ?_); refine with_tabW impl_BothNetworks.tab13 impl_BothNetworks.bits13 (fun HT_ HW_ => ?_)
 generalize wr.drew = w58 at HO_6 HO_239002 BK238 BK239 BK240 HB hHeld ⊢
 refine zpu 0 (some 65) (zq 16 1) HT_ ?_
 refine zpu 2 (some 67) (zq 16 5) HT_ ?_
 refine zpu 5 (some 70) (zq 16 37) HT_ ?_
 refine zpu 7 (some 72) (zq 16 165) HT_ ?_
 refine zpu 9 (some 74) (zq 16 677) HT_ ?_
 refine ztk 1 (some 66) (zq 16 679) HT_ HW_ rfl hHeld (Or.inl ⟨by rfl, by (rintro w' ⟨s0, s1, s2, s3, s4, s5⟩; go_simp; with_reducible rfl)⟩) ?_
 refine ztk 3 (some 68) (zq 16 687) HT_ HW_ rfl hHeld (Or.inl ⟨by rfl, by (rintro w' ⟨s0, s1, s2, s3, s4, s5⟩; go_simp; with_reducible rfl)⟩) ?_
 refine ztk 6 (some 71) (zq 16 751) HT_ HW_ rfl hHeld (Or.inl ⟨by rfl, by (rintro w' ⟨s0, s1, s2, s3, s4, s5⟩; go_simp; with_reducible rfl)⟩) ?_
 refine ztk 8 (some 73) (zq 16 1007) HT_ HW_ rfl hHeld (Or.inl ⟨by rfl, by (rintro w' ⟨s0, s1, s2, s3, s4, s5⟩; go_simp; with_reducible rfl)⟩) ?_
 refine join_ (σ := Value × Value × Value × Value × Nat) 1 (zq 16 32767) (fun s_ => [(69, s_.1), (75, s_.2.1), (76, s_.2.2.1), (77, s_.2.2.2.1), (8, .pointer (some ⟨s_.2.2.2.2, 0, none⟩)), (78, .agg #[.int .i8 a0_0, s_.1, s_.2.2.2.1])]) (fun s_ w' => (w'.cell? ⟨gb238, 0, none⟩ = some (.int .i8 a0_0) ∧ w'.cell? ⟨gb238, 1, none⟩ = some (.slice A0_1 l0_1.length c0_1) ∧ w'.cell? ⟨gb238, 2, none⟩ = some (.slice A0_2 l0_2.length c0_2) ∧ w'.cell? ⟨gb239, 0, none⟩ = some (.int .i8 a1_0) ∧ w'.cell? ⟨gb239, 1, none⟩ = some (.slice A1_1 l1_1.length c1_1) ∧ w'.cell? ⟨gb239, 2, none⟩ = some (.slice A1_2 l1_2.length c1_2)) ∧ (Kd.R k81 81 w' w.heap.size (fun k_ => (w.heap.size ≤ k_)) s_.1 t249) ∧ (Kd.N (Kd.slice 79 (Kd.int .i16)) 24 w' w.heap.size (fun k_ => (P0_2_ k_ ∨ w.heap.size ≤ k_) ∧ some k_ ≠ (s_.1 : Value).ownBlock ∧ some k_ ≠ (s_.2.2.2.1 : Value).ownBlock ∧ some k_ ≠ (.slice Ao57 x6_2.length co57 : Value).ownBlock ∧ k_ ≠ gb238 ∧ k_ ≠ gb239 ∧ k_ ≠ gb240 ∧ k_ ≠ s_.2.2.2.2) s_.2.2.1 y255) ∧ (Kd.R (Kd.int .i16) 79 w' w.heap.size (fun k_ => (w.heap.size ≤ k_) ∧ some k_ ≠ (.slice Ao57 x6_2.length co57 : Value).ownBlock) s_.2.2.2.1 t258) ∧ (Kd.V (Kd.int .i16) 79 w' w.heap.size (fun k_ => (P0_2_ k_ ∨ w.heap.size ≤ k_) ∧ some k_ ≠ (s_.1 : Value).ownBlock ∧ some k_ ≠ (s_.2.2.1 : Value).ownBlock ∧ some k_ ≠ (s_.2.2.2.1 : Value).ownBlock ∧ some k_ ≠ (.slice Ao57 x6_2.length co57 : Value).ownBlock ∧ k_ ≠ gb238 ∧ k_ ≠ gb239 ∧ k_ ≠ gb240 ∧ k_ ≠ s_.2.2.2.2) (.slice A0_2 l0_2.length c0_2) l0_2) ∧ (Kd.R (Kd.int .i16) 79 w' w.heap.size (fun k_ => (w.heap.size ≤ k_) ∧ some k_ ≠ (s_.2.2.2.1 : Value).ownBlock) (.slice Ao57 x6_2.length co57) x6_2) ∧ (w'.heap[gb238]? = some (.cells #[.int .i8 a0_0, .slice A0_1 l0_1.length c0_1, .slice A0_2 l0_2.length c0_2] 31 (0, 0))) ∧ (w'.heap[gb239]? = some (.cells #[.int .i8 a1_0, .slice A1_1 l1_1.length c1_1, .slice A1_2 l1_2.length c1_2] 31 (0, 0))) ∧ (w'.heap[gb240]? = some (.cells #[.int .i8 0, .slice none 0 0, .slice none 0 0] 31 (0, 0))) ∧ (w'.heap[s_.2.2.2.2]? = some (.cells #[.int .i8 0, .slice none 0 0, .slice none 0 0] 31 (0, 0))) ∧ (w.heap.size ≤ s_.2.2.2.2) ∧ (w.heap.size ≤ s_.2.2.2.2) ∧ (gb238 ≠ s_.2.2.2.2) ∧ (s_.2.2.2.2 ≠ gb238) ∧ (gb239 ≠ s_.2.2.2.2) ∧ (s_.2.2.2.2 ≠ gb239) ∧ (gb240 ≠ s_.2.2.2.2) ∧ (s_.2.2.2.2 ≠ gb240) ∧ (Below w.heap.size w w')) ?_ ?_
 rotate_left
 ·intro hJ4_10_11_12_14
  refine join_ (σ := Value × Value × Value × Value) 2 (zq 16 16383) (fun s_ => [(69, s_.1), (75, s_.2.1), (76, s_.2.2.1), (77, s_.2.2.2), (78, .agg #[.int .i8 a0_0, s_.1, s_.2.2.2])]) (fun s_ w' => (w'.cell? ⟨gb238, 0, none⟩ = some (.int .i8 a0_0) ∧ w'.cell? ⟨gb238, 1, none⟩ = some (.slice A0_1 l0_1.length c0_1) ∧ w'.cell? ⟨gb238, 2, none⟩ = some (.slice A0_2 l0_2.length c0_2) ∧ w'.cell? ⟨gb239, 0, none⟩ = some (.int .i8 a1_0) ∧ w'.cell? ⟨gb239, 1, none⟩ = some (.slice A1_1 l1_1.length c1_1) ∧ w'.cell? ⟨gb239, 2, none⟩ = some (.slice A1_2 l1_2.length c1_2)) ∧ (Kd.R k81 81 w' w.heap.size (fun k_ => (w.heap.size ≤ k_)) s_.1 t249) ∧ (Kd.N (Kd.slice 79 (Kd.int .i16)) 24 w' w.heap.size (fun k_ => (P0_2_ k_ ∨ w.heap.size ≤ k_) ∧ some k_ ≠ (s_.1 : Value).ownBlock ∧ some k_ ≠ (s_.2.2.2 : Value).ownBlock ∧ some k_ ≠ (.slice Ao57 x6_2.length co57 : Value).ownBlock ∧ k_ ≠ gb238 ∧ k_ ≠ gb239 ∧ k_ ≠ gb240) s_.2.2.1 y255) ∧ (Kd.R (Kd.int .i16) 79 w' w.heap.size (fun k_ => (w.heap.size ≤ k_) ∧ some k_ ≠ (.slice Ao57 x6_2.length co57 : Value).ownBlock) s_.2.2.2 t258) ∧ (Kd.V (Kd.int .i16) 79 w' w.heap.size (fun k_ => (P0_2_ k_ ∨ w.heap.size ≤ k_) ∧ some k_ ≠ (s_.1 : Value).ownBlock ∧ some k_ ≠ (s_.2.2.1 : Value).ownBlock ∧ some k_ ≠ (s_.2.2.2 : Value).ownBlock ∧ some k_ ≠ (.slice Ao57 x6_2.length co57 : Value).ownBlock ∧ k_ ≠ gb238 ∧ k_ ≠ gb239 ∧ k_ ≠ gb240) (.slice A0_2 l0_2.length c0_2) l0_2) ∧ (Kd.R (Kd.int .i16) 79 w' w.heap.size (fun k_ => (w.heap.size ≤ k_) ∧ some k_ ≠ (s_.2.2.2 : Value).ownBlock) (.slice Ao57 x6_2.length co57) x6_2) ∧ (w'.heap[gb238]? = some (.cells #[.int .i8 a0_0, .slice A0_1 l0_1.length c0_1, .slice A0_2 l0_2.length c0_2] 31 (0, 0))) ∧ (w'.heap[gb239]? = some (.cells #[.int .i8 a1_0, .slice A1_1 l1_1.length c1_1, .slice A1_2 l1_2.length c1_2] 31 (0, 0))) ∧ (w'.heap[gb240]? = some (.cells #[.int .i8 0, .slice none 0 0, .slice none 0 0] 31 (0, 0))) ∧ (Below w.heap.size w w')) ?_ ?_
  rotate_left
  rotate_left
  ·skip
   rintro ⟨v250, v253, v256, v259⟩ w68 ⟨hS_, h0_, h1_, h2_, h3_, h4_, h5_, h6_, h7_, h8_⟩
   have n_ : (Aside0 (Kd.R k81 81 w68 w.heap.size (fun k_ => (w.heap.size ≤ k_)) v250 t249)) ∧ (Aside0 (Kd.N (Kd.slice 79 (Kd.int .i16)) 24 w68 w.heap.size (fun k_ => (P0_2_ k_ ∨ w.heap.size ≤ k_) ∧ some k_ ≠ (v250 : Value).ownBlock ∧ some k_ ≠ (v259 : Value).ownBlock ∧ some k_ ≠ (.slice Ao57 x6_2.length co57 : Value).ownBlock ∧ k_ ≠ gb238 ∧ k_ ≠ gb239 ∧ k_ ≠ gb240) v256 y255)) ∧ (Aside0 (Kd.R (Kd.int .i16) 79 w68 w.heap.size (fun k_ => (w.heap.size ≤ k_) ∧ some k_ ≠ (.slice Ao57 x6_2.length co57 : Value).ownBlock) v259 t258)) ∧ (Aside0 (Kd.V (Kd.int .i16) 79 w68 w.heap.size (fun k_ => (P0_2_ k_ ∨ w.heap.size ≤ k_) ∧ some k_ ≠ (v250 : Value).ownBlock ∧ some k_ ≠ (v256 : Value).ownBlock ∧ some k_ ≠ (v259 : Value).ownBlock ∧ some k_ ≠ (.slice Ao57 x6_2.length co57 : Value).ownBlock ∧ k_ ≠ gb238 ∧ k_ ≠ gb239 ∧ k_ ≠ gb240) (.slice A0_2 l0_2.length c0_2) l0_2)) ∧ (Aside0 (Kd.R (Kd.int .i16) 79 w68 w.heap.size (fun k_ => (w.heap.size ≤ k_) ∧ some k_ ≠ (v259 : Value).ownBlock) (.slice Ao57 x6_2.length co57) x6_2)) ∧ (Aside0 (w68.heap[gb238]? = some (.cells #[.int .i8 a0_0, .slice A0_1 l0_1.length c0_1, .slice A0_2 l0_2.length c0_2] 31 (0, 0)))) ∧ (Aside0 (w68.heap[gb239]? = some (.cells #[.int .i8 a1_0, .slice A1_1 l1_1.length c1_1, .slice A1_2 l1_2.length c1_2] 31 (0, 0)))) ∧ (Aside0 (w68.heap[gb240]? = some (.cells #[.int .i8 0, .slice none 0 0, .slice none 0 0] 31 (0, 0)))) ∧ (Aside0 (Below w.heap.size w w68)) := ⟨⟨h0_⟩, ⟨h1_⟩, ⟨h2_⟩, ⟨h3_⟩, ⟨h4_⟩, ⟨h5_⟩, ⟨h6_⟩, ⟨h7_⟩, ⟨h8_⟩⟩
   clear HO_6 HO_239002 BK238 BK239 BK240 HB h0_ h1_ h2_ h3_ h4_ h5_ h6_ h7_ h8_
   obtain ⟨HO251, HO257, HO260, HO_239002, HO_6, BK238, BK239, BK240, HB⟩ := n_
   have hHeld := hS_
   obtain ⟨Ao69, co69, eo69⟩ := Kd.R_slice HO260.out
   (first | subst eo69 | (injection eo69 with f1_ f2_ f3_; have f4_ := f1_.symm; have f5_ := f3_.symm; clear f1_ f2_ f3_; subst f4_; subst f5_))
   obtain ⟨Ao70, co70, eo70⟩ := Kd.R_slice HO251.out
   (first | subst eo70 | (injection eo70 with f1_ f2_ f3_; have f4_ := f1_.symm; have f5_ := f3_.symm; clear f1_ f2_ f3_; subst f4_; subst f5_))
   refine norm_ (a' := ?_) ?_ ?_
   rotate_left
   ·simp only [putAll, Act.put, List.setIfInBounds_toArray, List.set_cons_zero, List.set_cons_succ]
    rfl
   refine one_ (i := 14) (N := some 8) (zq 16 32767) rfl rfl (one_of HT_.out (by kernel_rfl)) (by decide) (fun K hK => ?_)
   refine box_step ?hg (N := 8) ?hd (cs := #[.int .i8 0, .slice none 0 0, .slice none 0 0]) (t := 31) ?hr ?_; (case hd => rfl); (case hg => rfl); (case hr => exact zgs)
   intro gb261 hg w71 hbox hb
   have n_ : _ ∧ _ ∧ _ ∧ _ ∧ _ ∧ _ ∧ _ ∧ _ ∧ _ ∧ _ ∧ _ ∧ _ ∧ _ ∧ _ ∧ _ ∧ _ ∧ _ ∧ _ := ⟨zr HO_6 hb, Aside0.mk (Kd.V_below (Kd.V_elderB (by (with_reducible repeat (first | apply Kd.V_alloc | apply Kd.V_drewN | apply Kd.V_drew)); exact HO_239002.out) gb261 (Nat.le_of_eq hg.symm)) hb), zr HO251 hb, Aside0.mk (Kd.N_below (Kd.N_elderB (by (with_reducible repeat (first | apply Kd.N_alloc | apply Kd.N_drewN | apply Kd.N_drew)); exact HO257.out) gb261 (Nat.le_of_eq hg.symm)) hb), zr HO260 hb, zk BK238 hb, zk BK239 hb, zk BK240 hb, zbs hb, Aside0.mk (hbox), zg HB hg, zg HB hg, zn1 BK238 hg, zn2 BK238 hg, zn1 BK239 hg, zn2 BK239 hg, zn1 BK240 hg, zn2 BK240 hg⟩
   clear HO_6 HO_239002 HO251 HO257 HO260 BK238 BK239 BK240 HB
   obtain ⟨HO_6, HO_239002, HO251, HO257, HO260, BK238, BK239, BK240, HB, BK261, GW261, GE261, NB238_261, NB261_238, NB239_261, NB261_239, NB240_261, NB261_240⟩ := n_
   clear hb hbox hg
   refine hK.out _ _ ⟨(blk_cell BK238.out 0).trans rfl, (blk_cell BK238.out 1).trans rfl, (blk_cell BK238.out 2).trans rfl, (blk_cell BK239.out 0).trans rfl, (blk_cell BK239.out 1).trans rfl, (blk_cell BK239.out 2).trans rfl⟩ (fun hHeld => ?_)
   clear hK K
   refine norm_ (a' := ?_) ?_ ?_
   rotate_left
   ·show Act.put _ (some 8) _ = _
    exact zap
   exact norm_ (by first | (simp only [putAll, Act.put, List.setIfInBounds_toArray, List.set_cons_zero, List.set_cons_succ]; done) | (simp only [putAll, Act.put, List.setIfInBounds_toArray, List.set_cons_zero, List.set_cons_succ]; rfl)) (hJ4_10_11_12_14 (.slice Ao70 t249.length co70, v253, v256, .slice Ao69 t258.length co69, gb261) _ ⟨hHeld, (ze HO251).out, (by (with_reducible repeat (first | apply Kd.N_alloc | apply Kd.N_drewN | apply Kd.N_drew)); exact Kd.N_mono HO257.out (fun _ hk => ⟨hk.1.1, ⟨hk.1.2.1, ⟨hk.1.2.2.1, ⟨hk.1.2.2.2.1, ⟨hk.1.2.2.2.2.1, ⟨hk.1.2.2.2.2.2.1, ⟨hk.1.2.2.2.2.2.2, hk.2⟩⟩⟩⟩⟩⟩⟩)), (ze HO260).out, (by (with_reducible repeat (first | apply Kd.V_alloc | apply Kd.V_drewN | apply Kd.V_drew)); exact Kd.V_mono HO_239002.out (fun _ hk => ⟨hk.1.1, ⟨hk.1.2.1, ⟨hk.1.2.2.1, ⟨hk.1.2.2.2.1, ⟨hk.1.2.2.2.2.1, ⟨hk.1.2.2.2.2.2.1, ⟨hk.1.2.2.2.2.2.2.1, ⟨hk.1.2.2.2.2.2.2.2, hk.2⟩⟩⟩⟩⟩⟩⟩⟩)), (ze HO_6).out, (zh BK238).out, (zh BK239).out, (zh BK240).out, (zh BK261).out, GW261.out, GE261.out, NB238_261.out, NB261_238.out, NB239_261.out, NB261_239.out, NB240_261.out, NB261_240.out, zbo⟩)
  intro hJ4_10_11_12
  refine join_ (σ := Value × Value × Value × Nat) 3 (zq 16 20479) (fun s_ => [(69, s_.1), (75, s_.2.1), (76, s_.2.2.1), (8, .pointer (some ⟨s_.2.2.2, 0, none⟩))]) (fun s_ w' => (w'.cell? ⟨gb238, 0, none⟩ = some (.int .i8 a0_0) ∧ w'.cell? ⟨gb238, 1, none⟩ = some (.slice A0_1 l0_1.length c0_1) ∧ w'.cell? ⟨gb238, 2, none⟩ = some (.slice A0_2 l0_2.length c0_2) ∧ w'.cell? ⟨gb239, 0, none⟩ = some (.int .i8 a1_0) ∧ w'.cell? ⟨gb239, 1, none⟩ = some (.slice A1_1 l1_1.length c1_1) ∧ w'.cell? ⟨gb239, 2, none⟩ = some (.slice A1_2 l1_2.length c1_2)) ∧ (Kd.R k81 81 w' w.heap.size (fun k_ => (w.heap.size ≤ k_)) s_.1 t249) ∧ (Kd.N (Kd.slice 79 (Kd.int .i16)) 24 w' w.heap.size (fun k_ => (P0_2_ k_ ∨ w.heap.size ≤ k_) ∧ some k_ ≠ (s_.1 : Value).ownBlock ∧ some k_ ≠ (.slice Ao57 x6_2.length co57 : Value).ownBlock ∧ k_ ≠ gb238 ∧ k_ ≠ gb239 ∧ k_ ≠ gb240 ∧ k_ ≠ s_.2.2.2) s_.2.2.1 y255) ∧ (Kd.V (Kd.int .i16) 79 w' w.heap.size (fun k_ => (P0_2_ k_ ∨ w.heap.size ≤ k_) ∧ some k_ ≠ (s_.1 : Value).ownBlock ∧ some k_ ≠ (s_.2.2.1 : Value).ownBlock ∧ some k_ ≠ (.slice Ao57 x6_2.length co57 : Value).ownBlock ∧ k_ ≠ gb238 ∧ k_ ≠ gb239 ∧ k_ ≠ gb240 ∧ k_ ≠ s_.2.2.2) (.slice A0_2 l0_2.length c0_2) l0_2) ∧ (Kd.R (Kd.int .i16) 79 w' w.heap.size (fun k_ => (w.heap.size ≤ k_)) (.slice Ao57 x6_2.length co57) x6_2) ∧ (w'.heap[gb238]? = some (.cells #[.int .i8 a0_0, .slice A0_1 l0_1.length c0_1, .slice A0_2 l0_2.length c0_2] 31 (0, 0))) ∧ (w'.heap[gb239]? = some (.cells #[.int .i8 a1_0, .slice A1_1 l1_1.length c1_1, .slice A1_2 l1_2.length c1_2] 31 (0, 0))) ∧ (w'.heap[gb240]? = some (.cells #[.int .i8 0, .slice none 0 0, .slice none 0 0] 31 (0, 0))) ∧ (w'.heap[s_.2.2.2]? = some (.cells #[.int .i8 0, .slice none 0 0, .slice none 0 0] 31 (0, 0))) ∧ (w.heap.size ≤ s_.2.2.2) ∧ (w.heap.size ≤ s_.2.2.2) ∧ (gb238 ≠ s_.2.2.2) ∧ (s_.2.2.2 ≠ gb238) ∧ (gb239 ≠ s_.2.2.2) ∧ (s_.2.2.2 ≠ gb239) ∧ (gb240 ≠ s_.2.2.2) ∧ (s_.2.2.2 ≠ gb240) ∧ (Below w.heap.size w w')) ?_ ?_
  rotate_left
  rotate_left
  ·skip
   rintro ⟨v250, v253, v256, gb261⟩ w65 ⟨hS_, h0_, h1_, h2_, h3_, h4_, h5_, h6_, h7_, h8_, h9_, h10_, h11_, h12_, h13_, h14_, h15_, h16_⟩
   have n_ : (Aside0 (Kd.R k81 81 w65 w.heap.size (fun k_ => (w.heap.size ≤ k_)) v250 t249)) ∧ (Aside0 (Kd.N (Kd.slice 79 (Kd.int .i16)) 24 w65 w.heap.size (fun k_ => (P0_2_ k_ ∨ w.heap.size ≤ k_) ∧ some k_ ≠ (v250 : Value).ownBlock ∧ some k_ ≠ (.slice Ao57 x6_2.length co57 : Value).ownBlock ∧ k_ ≠ gb238 ∧ k_ ≠ gb239 ∧ k_ ≠ gb240 ∧ k_ ≠ gb261) v256 y255)) ∧ (Aside0 (Kd.V (Kd.int .i16) 79 w65 w.heap.size (fun k_ => (P0_2_ k_ ∨ w.heap.size ≤ k_) ∧ some k_ ≠ (v250 : Value).ownBlock ∧ some k_ ≠ (v256 : Value).ownBlock ∧ some k_ ≠ (.slice Ao57 x6_2.length co57 : Value).ownBlock ∧ k_ ≠ gb238 ∧ k_ ≠ gb239 ∧ k_ ≠ gb240 ∧ k_ ≠ gb261) (.slice A0_2 l0_2.length c0_2) l0_2)) ∧ (Aside0 (Kd.R (Kd.int .i16) 79 w65 w.heap.size (fun k_ => (w.heap.size ≤ k_)) (.slice Ao57 x6_2.length co57) x6_2)) ∧ (Aside0 (w65.heap[gb238]? = some (.cells #[.int .i8 a0_0, .slice A0_1 l0_1.length c0_1, .slice A0_2 l0_2.length c0_2] 31 (0, 0)))) ∧ (Aside0 (w65.heap[gb239]? = some (.cells #[.int .i8 a1_0, .slice A1_1 l1_1.length c1_1, .slice A1_2 l1_2.length c1_2] 31 (0, 0)))) ∧ (Aside0 (w65.heap[gb240]? = some (.cells #[.int .i8 0, .slice none 0 0, .slice none 0 0] 31 (0, 0)))) ∧ (Aside0 (w65.heap[gb261]? = some (.cells #[.int .i8 0, .slice none 0 0, .slice none 0 0] 31 (0, 0)))) ∧ (Aside0 (w.heap.size ≤ gb261)) ∧ (Aside0 (w.heap.size ≤ gb261)) ∧ (Aside0 (gb238 ≠ gb261)) ∧ (Aside0 (gb261 ≠ gb238)) ∧ (Aside0 (gb239 ≠ gb261)) ∧ (Aside0 (gb261 ≠ gb239)) ∧ (Aside0 (gb240 ≠ gb261)) ∧ (Aside0 (gb261 ≠ gb240)) ∧ (Aside0 (Below w.heap.size w w65)) := ⟨⟨h0_⟩, ⟨h1_⟩, ⟨h2_⟩, ⟨h3_⟩, ⟨h4_⟩, ⟨h5_⟩, ⟨h6_⟩, ⟨h7_⟩, ⟨h8_⟩, ⟨h9_⟩, ⟨h10_⟩, ⟨h11_⟩, ⟨h12_⟩, ⟨h13_⟩, ⟨h14_⟩, ⟨h15_⟩, ⟨h16_⟩⟩
   clear HO_6 HO_239002 BK238 BK239 BK240 HB h0_ h1_ h2_ h3_ h4_ h5_ h6_ h7_ h8_ h9_ h10_ h11_ h12_ h13_ h14_ h15_ h16_
   obtain ⟨HO251, HO257, HO_239002, HO_6, BK238, BK239, BK240, BK261, GW261, GE261, NB238_261, NB261_238, NB239_261, NB261_239, NB240_261, NB261_240, HB⟩ := n_
   have hHeld := hS_
   obtain ⟨Ao66, co66, eo66⟩ := Kd.N_slice HO257.out
   (first | subst eo66 | (injection eo66 with f1_ f2_ f3_; have f4_ := f1_.symm; have f5_ := f3_.symm; clear f1_ f2_ f3_; subst f4_; subst f5_))
   refine norm_ (a' := ?_) ?_ ?_
   rotate_left
   ·simp only [putAll, Act.put, List.setIfInBounds_toArray, List.set_cons_zero, List.set_cons_succ]
    rfl
   refine one_ (i := 12) (N := some 77) (zq 16 24575) rfl rfl (one_of HT_.out (by kernel_rfl)) (by decide) (fun K hK => ?_)
   refine goes_ Try.func105 (by kernel_rfl) rfl #[.slice Ao66 y255.length co66] (by rfl) rfl rfl zm ?_
   with_reducible refine (slices_Concat_int16_int16.calls k2 _ _ y255 t258 _ ?side1 ?side2 A56.out).mono ?_
   (case side1 => repeat (first | exact (Kd.N_reads' HO257.out).2.2 | (with_reducible refine Kd.C_alloc ?_ _) | (with_reducible refine Kd.C_drewN ?_ _) | (with_reducible refine Kd.C_drew ?_)))
   (case side2 => exact (Kd.N_reads' HO257.out).2.1)
   rintro e w67 ⟨v259, rfl, ho0, hb⟩
   refine ⟨_, rfl, ?_⟩
   have n_ : _ ∧ _ ∧ _ ∧ _ ∧ _ ∧ _ ∧ _ ∧ _ ∧ _ ∧ _ := ⟨Aside0.mk (Kd.R_elder' (ze HO_6).out (Kd.R_base ho0) hb), Aside0.mk (Kd.V_elder' (by (with_reducible repeat (first | apply Kd.V_alloc | apply Kd.V_drewN | apply Kd.V_drew)); exact HO_239002.out) (Kd.R_base ho0) hb), zr HO251 hb, Aside0.mk (Kd.N_elder' (by (with_reducible repeat (first | apply Kd.N_alloc | apply Kd.N_drewN | apply Kd.N_drew)); exact HO257.out) (Kd.R_base ho0) hb), Aside0.mk (Kd.R_lower (Kd.R_new' (Kd.R_newM (M := fun k_ => (w.heap.size ≤ k_)) ho0 (zz HB) (fun k_ h_ => h_)) (Kd.R_lt (ze HO_6).out)) (zz HB)), zk BK238 hb, zk BK239 hb, zk BK240 hb, zk BK261 hb, zbs hb⟩
   clear HO_6 HO_239002 HO251 HO257 BK238 BK239 BK240 BK261 HB
   obtain ⟨HO_6, HO_239002, HO251, HO257, HO260, BK238, BK239, BK240, BK261, HB⟩ := n_
   (try clear hb)
   (try clear hb2)
   (try clear hk)
   (try clear hi)
   (try clear ho0)
   obtain ⟨Ao68, co68, eo68⟩ := Kd.R_slice HO260.out
   (first | subst eo68 | (injection eo68 with f1_ f2_ f3_; have f4_ := f1_.symm; have f5_ := f3_.symm; clear f1_ f2_ f3_; subst f4_; subst f5_))
   obtain ⟨Ao69, co69, eo69⟩ := Kd.R_slice HO251.out
   (first | subst eo69 | (injection eo69 with f1_ f2_ f3_; have f4_ := f1_.symm; have f5_ := f3_.symm; clear f1_ f2_ f3_; subst f4_; subst f5_))
   refine hK.out _ _ ⟨(blk_cell BK238.out 0).trans rfl, (blk_cell BK238.out 1).trans rfl, (blk_cell BK238.out 2).trans rfl, (blk_cell BK239.out 0).trans rfl, (blk_cell BK239.out 1).trans rfl, (blk_cell BK239.out 2).trans rfl⟩ (fun hHeld => ?_)
   clear hK K
   refine norm_ (a' := ?_) ?_ ?_
   rotate_left
   ·show Act.put _ (some 77) _ = _
    exact zap
   refine zpu 13 (some 78) (zq 16 32767) HT_ ?_
   exact norm_ (by first | (simp only [putAll, Act.put, List.setIfInBounds_toArray, List.set_cons_zero, List.set_cons_succ]; done) | (simp only [putAll, Act.put, List.setIfInBounds_toArray, List.set_cons_zero, List.set_cons_succ]; rfl)) (hJ4_10_11_12_14 (.slice Ao69 t249.length co69, v253, .slice Ao66 y255.length co66, .slice Ao68 t258.length co68, gb261) _ ⟨hHeld, (ze HO251).out, (by (with_reducible repeat (first | apply Kd.N_alloc | apply Kd.N_drewN | apply Kd.N_drew)); exact Kd.N_mono HO257.out (fun _ hk => ⟨hk.1.1, ⟨hk.1.2.1, ⟨hk.2, ⟨hk.1.2.2.1, ⟨hk.1.2.2.2.1, ⟨hk.1.2.2.2.2.1, ⟨hk.1.2.2.2.2.2.1, hk.1.2.2.2.2.2.2⟩⟩⟩⟩⟩⟩⟩)), (by (with_reducible repeat (first | apply Kd.R_alloc | apply Kd.R_drewN | apply Kd.R_drew)); exact Kd.R_mono HO260.out (fun _ hk => ⟨hk.1.1, hk.2⟩)), (by (with_reducible repeat (first | apply Kd.V_alloc | apply Kd.V_drewN | apply Kd.V_drew)); exact Kd.V_mono HO_239002.out (fun _ hk => ⟨hk.1.1, ⟨hk.1.2.1, ⟨hk.1.2.2.1, ⟨hk.2, ⟨hk.1.2.2.2.1, ⟨hk.1.2.2.2.2.1, ⟨hk.1.2.2.2.2.2.1, ⟨hk.1.2.2.2.2.2.2.1, hk.1.2.2.2.2.2.2.2⟩⟩⟩⟩⟩⟩⟩⟩)), (ze HO_6).out, (zh BK238).out, (zh BK239).out, (zh BK240).out, (zh BK261).out, GW261.out, GE261.out, NB238_261.out, NB261_238.out, NB239_261.out, NB261_239.out, NB240_261.out, NB261_240.out, zbo⟩)
  intro hJ4_10_11_14
  refine join_ (σ := Value × Value × Value) 4 (zq 16 4095) (fun s_ => [(69, s_.1), (75, s_.2.1), (76, s_.2.2)]) (fun s_ w' => (w'.cell? ⟨gb238, 0, none⟩ = some (.int .i8 a0_0) ∧ w'.cell? ⟨gb238, 1, none⟩ = some (.slice A0_1 l0_1.length c0_1) ∧ w'.cell? ⟨gb238, 2, none⟩ = some (.slice A0_2 l0_2.length c0_2) ∧ w'.cell? ⟨gb239, 0, none⟩ = some (.int .i8 a1_0) ∧ w'.cell? ⟨gb239, 1, none⟩ = some (.slice A1_1 l1_1.length c1_1) ∧ w'.cell? ⟨gb239, 2, none⟩ = some (.slice A1_2 l1_2.length c1_2)) ∧ (Kd.R k81 81 w' w.heap.size (fun k_ => (w.heap.size ≤ k_)) s_.1 t249) ∧ (Kd.N (Kd.slice 79 (Kd.int .i16)) 24 w' w.heap.size (fun k_ => (P0_2_ k_ ∨ w.heap.size ≤ k_) ∧ some k_ ≠ (s_.1 : Value).ownBlock ∧ some k_ ≠ (.slice Ao57 x6_2.length co57 : Value).ownBlock ∧ k_ ≠ gb238 ∧ k_ ≠ gb239 ∧ k_ ≠ gb240) s_.2.2 y255) ∧ (Kd.V (Kd.int .i16) 79 w' w.heap.size (fun k_ => (P0_2_ k_ ∨ w.heap.size ≤ k_) ∧ some k_ ≠ (s_.1 : Value).ownBlock ∧ some k_ ≠ (s_.2.2 : Value).ownBlock ∧ some k_ ≠ (.slice Ao57 x6_2.length co57 : Value).ownBlock ∧ k_ ≠ gb238 ∧ k_ ≠ gb239 ∧ k_ ≠ gb240) (.slice A0_2 l0_2.length c0_2) l0_2) ∧ (Kd.R (Kd.int .i16) 79 w' w.heap.size (fun k_ => (w.heap.size ≤ k_)) (.slice Ao57 x6_2.length co57) x6_2) ∧ (w'.heap[gb238]? = some (.cells #[.int .i8 a0_0, .slice A0_1 l0_1.length c0_1, .slice A0_2 l0_2.length c0_2] 31 (0, 0))) ∧ (w'.heap[gb239]? = some (.cells #[.int .i8 a1_0, .slice A1_1 l1_1.length c1_1, .slice A1_2 l1_2.length c1_2] 31 (0, 0))) ∧ (w'.heap[gb240]? = some (.cells #[.int .i8 0, .slice none 0 0, .slice none 0 0] 31 (0, 0))) ∧ (Below w.heap.size w w')) ?_ ?_
  rotate_left
  rotate_left
  ·skip
   rintro ⟨v250, v253, v256⟩ w64 ⟨hS_, h0_, h1_, h2_, h3_, h4_, h5_, h6_, h7_⟩
   have n_ : (Aside0 (Kd.R k81 81 w64 w.heap.size (fun k_ => (w.heap.size ≤ k_)) v250 t249)) ∧ (Aside0 (Kd.N (Kd.slice 79 (Kd.int .i16)) 24 w64 w.heap.size (fun k_ => (P0_2_ k_ ∨ w.heap.size ≤ k_) ∧ some k_ ≠ (v250 : Value).ownBlock ∧ some k_ ≠ (.slice Ao57 x6_2.length co57 : Value).ownBlock ∧ k_ ≠ gb238 ∧ k_ ≠ gb239 ∧ k_ ≠ gb240) v256 y255)) ∧ (Aside0 (Kd.V (Kd.int .i16) 79 w64 w.heap.size (fun k_ => (P0_2_ k_ ∨ w.heap.size ≤ k_) ∧ some k_ ≠ (v250 : Value).ownBlock ∧ some k_ ≠ (v256 : Value).ownBlock ∧ some k_ ≠ (.slice Ao57 x6_2.length co57 : Value).ownBlock ∧ k_ ≠ gb238 ∧ k_ ≠ gb239 ∧ k_ ≠ gb240) (.slice A0_2 l0_2.length c0_2) l0_2)) ∧ (Aside0 (Kd.R (Kd.int .i16) 79 w64 w.heap.size (fun k_ => (w.heap.size ≤ k_)) (.slice Ao57 x6_2.length co57) x6_2)) ∧ (Aside0 (w64.heap[gb238]? = some (.cells #[.int .i8 a0_0, .slice A0_1 l0_1.length c0_1, .slice A0_2 l0_2.length c0_2] 31 (0, 0)))) ∧ (Aside0 (w64.heap[gb239]? = some (.cells #[.int .i8 a1_0, .slice A1_1 l1_1.length c1_1, .slice A1_2 l1_2.length c1_2] 31 (0, 0)))) ∧ (Aside0 (w64.heap[gb240]? = some (.cells #[.int .i8 0, .slice none 0 0, .slice none 0 0] 31 (0, 0)))) ∧ (Aside0 (Below w.heap.size w w64)) := ⟨⟨h0_⟩, ⟨h1_⟩, ⟨h2_⟩, ⟨h3_⟩, ⟨h4_⟩, ⟨h5_⟩, ⟨h6_⟩, ⟨h7_⟩⟩
   clear HO_6 HO_239002 BK238 BK239 BK240 HB h0_ h1_ h2_ h3_ h4_ h5_ h6_ h7_
   obtain ⟨HO251, HO257, HO_239002, HO_6, BK238, BK239, BK240, HB⟩ := n_
   have hHeld := hS_
   obtain ⟨Ao65, co65, eo65⟩ := Kd.N_slice HO257.out
   (first | subst eo65 | (injection eo65 with f1_ f2_ f3_; have f4_ := f1_.symm; have f5_ := f3_.symm; clear f1_ f2_ f3_; subst f4_; subst f5_))
   refine norm_ (a' := ?_) ?_ ?_
   rotate_left
   ·simp only [putAll, Act.put, List.setIfInBounds_toArray, List.set_cons_zero, List.set_cons_succ]
    rfl
   refine two_ (i := 12) (j := 14) (Ni := some 77) (Nj := some 8) (zq 16 8191) (zq 16 20479) rfl rfl rfl rfl (two_of HT_.out (by kernel_rfl)) (by decide) (by decide) (fun K hK => ?_) (fun K hK => ?_)
   rotate_left
   ·skip
    refine box_step ?hg (N := 8) ?hd (cs := #[.int .i8 0, .slice none 0 0, .slice none 0 0]) (t := 31) ?hr ?_; (case hd => rfl); (case hg => rfl); (case hr => exact zgs)
    intro gb261 hg w65 hbox hb
    have n_ : _ ∧ _ ∧ _ ∧ _ ∧ _ ∧ _ ∧ _ ∧ _ ∧ _ ∧ _ ∧ _ ∧ _ ∧ _ ∧ _ ∧ _ ∧ _ ∧ _ := ⟨zr HO_6 hb, Aside0.mk (Kd.V_below (Kd.V_elderB (by (with_reducible repeat (first | apply Kd.V_alloc | apply Kd.V_drewN | apply Kd.V_drew)); exact HO_239002.out) gb261 (Nat.le_of_eq hg.symm)) hb), zr HO251 hb, Aside0.mk (Kd.N_below (Kd.N_elderB (by (with_reducible repeat (first | apply Kd.N_alloc | apply Kd.N_drewN | apply Kd.N_drew)); exact HO257.out) gb261 (Nat.le_of_eq hg.symm)) hb), zk BK238 hb, zk BK239 hb, zk BK240 hb, zbs hb, Aside0.mk (hbox), zg HB hg, zg HB hg, zn1 BK238 hg, zn2 BK238 hg, zn1 BK239 hg, zn2 BK239 hg, zn1 BK240 hg, zn2 BK240 hg⟩
    clear HO_6 HO_239002 HO251 HO257 BK238 BK239 BK240 HB
    obtain ⟨HO_6, HO_239002, HO251, HO257, BK238, BK239, BK240, HB, BK261, GW261, GE261, NB238_261, NB261_238, NB239_261, NB261_239, NB240_261, NB261_240⟩ := n_
    clear hb hbox hg
    refine hK.out _ _ ⟨(blk_cell BK238.out 0).trans rfl, (blk_cell BK238.out 1).trans rfl, (blk_cell BK238.out 2).trans rfl, (blk_cell BK239.out 0).trans rfl, (blk_cell BK239.out 1).trans rfl, (blk_cell BK239.out 2).trans rfl⟩ (fun hHeld => ?_)
    clear hK K
    refine norm_ (a' := ?_) ?_ ?_
    rotate_left
    ·show Act.put _ (some 8) _ = _
     exact zap
    exact norm_ (by first | (simp only [putAll, Act.put, List.setIfInBounds_toArray, List.set_cons_zero, List.set_cons_succ]; done) | (simp only [putAll, Act.put, List.setIfInBounds_toArray, List.set_cons_zero, List.set_cons_succ]; rfl)) (hJ4_10_11_14 (v250, v253, _, gb261) _ ⟨hHeld, (ze HO251).out, (by (with_reducible repeat (first | apply Kd.N_alloc | apply Kd.N_drewN | apply Kd.N_drew)); exact Kd.N_mono HO257.out (fun _ hk => ⟨hk.1.1, ⟨hk.1.2.1, ⟨hk.1.2.2.1, ⟨hk.1.2.2.2.1, ⟨hk.1.2.2.2.2.1, ⟨hk.1.2.2.2.2.2, hk.2⟩⟩⟩⟩⟩⟩)), (by (with_reducible repeat (first | apply Kd.V_alloc | apply Kd.V_drewN | apply Kd.V_drew)); exact Kd.V_mono HO_239002.out (fun _ hk => ⟨hk.1.1, ⟨hk.1.2.1, ⟨hk.1.2.2.1, ⟨hk.1.2.2.2.1, ⟨hk.1.2.2.2.2.1, ⟨hk.1.2.2.2.2.2.1, ⟨hk.1.2.2.2.2.2.2, hk.2⟩⟩⟩⟩⟩⟩⟩)), (ze HO_6).out, (zh BK238).out, (zh BK239).out, (zh BK240).out, (zh BK261).out, GW261.out, GE261.out, NB238_261.out, NB261_238.out, NB239_261.out, NB261_239.out, NB240_261.out, NB261_240.out, zbo⟩)
   skip
   refine goes_ Try.func105 (by kernel_rfl) rfl #[.slice Ao65 y255.length co65] (by rfl) rfl rfl zm ?_
   with_reducible refine (slices_Concat_int16_int16.calls k2 _ _ y255 t258 _ ?side1 ?side2 A56.out).mono ?_
   (case side1 => repeat (first | exact (Kd.N_reads' HO257.out).2.2 | (with_reducible refine Kd.C_alloc ?_ _) | (with_reducible refine Kd.C_drewN ?_ _) | (with_reducible refine Kd.C_drew ?_)))
   (case side2 => exact (Kd.N_reads' HO257.out).2.1)
   rintro e w66 ⟨v259, rfl, ho0, hb⟩
   refine ⟨_, rfl, ?_⟩
   have n_ : _ ∧ _ ∧ _ ∧ _ ∧ _ ∧ _ ∧ _ ∧ _ ∧ _ := ⟨Aside0.mk (Kd.R_elder' (ze HO_6).out (Kd.R_base ho0) hb), Aside0.mk (Kd.V_elder' (by (with_reducible repeat (first | apply Kd.V_alloc | apply Kd.V_drewN | apply Kd.V_drew)); exact HO_239002.out) (Kd.R_base ho0) hb), zr HO251 hb, Aside0.mk (Kd.N_elder' (by (with_reducible repeat (first | apply Kd.N_alloc | apply Kd.N_drewN | apply Kd.N_drew)); exact HO257.out) (Kd.R_base ho0) hb), Aside0.mk (Kd.R_lower (Kd.R_new' (Kd.R_newM (M := fun k_ => (w.heap.size ≤ k_)) ho0 (zz HB) (fun k_ h_ => h_)) (Kd.R_lt (ze HO_6).out)) (zz HB)), zk BK238 hb, zk BK239 hb, zk BK240 hb, zbs hb⟩
   clear HO_6 HO_239002 HO251 HO257 BK238 BK239 BK240 HB
   obtain ⟨HO_6, HO_239002, HO251, HO257, HO260, BK238, BK239, BK240, HB⟩ := n_
   (try clear hb)
   (try clear hb2)
   (try clear hk)
   (try clear hi)
   (try clear ho0)
   obtain ⟨Ao67, co67, eo67⟩ := Kd.R_slice HO260.out
   (first | subst eo67 | (injection eo67 with f1_ f2_ f3_; have f4_ := f1_.symm; have f5_ := f3_.symm; clear f1_ f2_ f3_; subst f4_; subst f5_))
   obtain ⟨Ao68, co68, eo68⟩ := Kd.R_slice HO251.out
   (first | subst eo68 | (injection eo68 with f1_ f2_ f3_; have f4_ := f1_.symm; have f5_ := f3_.symm; clear f1_ f2_ f3_; subst f4_; subst f5_))
   refine hK.out _ _ ⟨(blk_cell BK238.out 0).trans rfl, (blk_cell BK238.out 1).trans rfl, (blk_cell BK238.out 2).trans rfl, (blk_cell BK239.out 0).trans rfl, (blk_cell BK239.out 1).trans rfl, (blk_cell BK239.out 2).trans rfl⟩ (fun hHeld => ?_)
   clear hK K
   refine norm_ (a' := ?_) ?_ ?_
   rotate_left
   ·show Act.put _ (some 77) _ = _
    exact zap
   refine zpu 13 (some 78) (zq 16 16383) HT_ ?_
   exact norm_ (by first | (simp only [putAll, Act.put, List.setIfInBounds_toArray, List.set_cons_zero, List.set_cons_succ]; done) | (simp only [putAll, Act.put, List.setIfInBounds_toArray, List.set_cons_zero, List.set_cons_succ]; rfl)) (hJ4_10_11_12 (.slice Ao68 t249.length co68, v253, .slice Ao65 y255.length co65, .slice Ao67 t258.length co67) _ ⟨hHeld, (ze HO251).out, (by (with_reducible repeat (first | apply Kd.N_alloc | apply Kd.N_drewN | apply Kd.N_drew)); exact Kd.N_mono HO257.out (fun _ hk => ⟨hk.1.1, ⟨hk.1.2.1, ⟨hk.2, ⟨hk.1.2.2.1, ⟨hk.1.2.2.2.1, ⟨hk.1.2.2.2.2.1, hk.1.2.2.2.2.2⟩⟩⟩⟩⟩⟩)), (by (with_reducible repeat (first | apply Kd.R_alloc | apply Kd.R_drewN | apply Kd.R_drew)); exact Kd.R_mono HO260.out (fun _ hk => ⟨hk.1.1, hk.2⟩)), (by (with_reducible repeat (first | apply Kd.V_alloc | apply Kd.V_drewN | apply Kd.V_drew)); exact Kd.V_mono HO_239002.out (fun _ hk => ⟨hk.1.1, ⟨hk.1.2.1, ⟨hk.1.2.2.1, ⟨hk.2, ⟨hk.1.2.2.2.1, ⟨hk.1.2.2.2.2.1, ⟨hk.1.2.2.2.2.2.1, hk.1.2.2.2.2.2.2⟩⟩⟩⟩⟩⟩⟩)), (ze HO_6).out, (zh BK238).out, (zh BK239).out, (zh BK240).out, zbo⟩)
  intro hJ4_10_11
  refine join_ (σ := Value × Value × Nat) 4 (zq 16 18431) (fun s_ => [(69, s_.1), (75, s_.2.1), (8, .pointer (some ⟨s_.2.2, 0, none⟩))]) (fun s_ w' => (w'.cell? ⟨gb238, 0, none⟩ = some (.int .i8 a0_0) ∧ w'.cell? ⟨gb238, 1, none⟩ = some (.slice A0_1 l0_1.length c0_1) ∧ w'.cell? ⟨gb238, 2, none⟩ = some (.slice A0_2 l0_2.length c0_2) ∧ w'.cell? ⟨gb239, 0, none⟩ = some (.int .i8 a1_0) ∧ w'.cell? ⟨gb239, 1, none⟩ = some (.slice A1_1 l1_1.length c1_1) ∧ w'.cell? ⟨gb239, 2, none⟩ = some (.slice A1_2 l1_2.length c1_2)) ∧ (Kd.R k81 81 w' w.heap.size (fun k_ => (w.heap.size ≤ k_)) s_.1 t249) ∧ (Kd.R (Kd.int .i16) 79 w' w.heap.size (fun k_ => (w.heap.size ≤ k_) ∧ some k_ ≠ (.slice Ao57 x6_2.length co57 : Value).ownBlock) s_.2.1 t252) ∧ (Kd.V (Kd.int .i16) 79 w' w.heap.size (fun k_ => (P0_2_ k_ ∨ w.heap.size ≤ k_) ∧ some k_ ≠ (s_.1 : Value).ownBlock ∧ some k_ ≠ (s_.2.1 : Value).ownBlock ∧ some k_ ≠ (.slice Ao57 x6_2.length co57 : Value).ownBlock ∧ k_ ≠ gb238 ∧ k_ ≠ gb239 ∧ k_ ≠ gb240 ∧ k_ ≠ s_.2.2) (.slice A0_2 l0_2.length c0_2) l0_2) ∧ (Kd.R (Kd.int .i16) 79 w' w.heap.size (fun k_ => (w.heap.size ≤ k_) ∧ some k_ ≠ (s_.2.1 : Value).ownBlock) (.slice Ao57 x6_2.length co57) x6_2) ∧ (w'.heap[gb238]? = some (.cells #[.int .i8 a0_0, .slice A0_1 l0_1.length c0_1, .slice A0_2 l0_2.length c0_2] 31 (0, 0))) ∧ (w'.heap[gb239]? = some (.cells #[.int .i8 a1_0, .slice A1_1 l1_1.length c1_1, .slice A1_2 l1_2.length c1_2] 31 (0, 0))) ∧ (w'.heap[gb240]? = some (.cells #[.int .i8 0, .slice none 0 0, .slice none 0 0] 31 (0, 0))) ∧ (w'.heap[s_.2.2]? = some (.cells #[.int .i8 0, .slice none 0 0, .slice none 0 0] 31 (0, 0))) ∧ (w.heap.size ≤ s_.2.2) ∧ (w.heap.size ≤ s_.2.2) ∧ (gb238 ≠ s_.2.2) ∧ (s_.2.2 ≠ gb238) ∧ (gb239 ≠ s_.2.2) ∧ (s_.2.2 ≠ gb239) ∧ (gb240 ≠ s_.2.2) ∧ (s_.2.2 ≠ gb240) ∧ (Below w.heap.size w w')) ?_ ?_
  rotate_left
  rotate_left
  ·skip
   rintro ⟨v250, v253, gb261⟩ w62 ⟨hS_, h0_, h1_, h2_, h3_, h4_, h5_, h6_, h7_, h8_, h9_, h10_, h11_, h12_, h13_, h14_, h15_, h16_⟩
   have n_ : (Aside0 (Kd.R k81 81 w62 w.heap.size (fun k_ => (w.heap.size ≤ k_)) v250 t249)) ∧ (Aside0 (Kd.R (Kd.int .i16) 79 w62 w.heap.size (fun k_ => (w.heap.size ≤ k_) ∧ some k_ ≠ (.slice Ao57 x6_2.length co57 : Value).ownBlock) v253 t252)) ∧ (Aside0 (Kd.V (Kd.int .i16) 79 w62 w.heap.size (fun k_ => (P0_2_ k_ ∨ w.heap.size ≤ k_) ∧ some k_ ≠ (v250 : Value).ownBlock ∧ some k_ ≠ (v253 : Value).ownBlock ∧ some k_ ≠ (.slice Ao57 x6_2.length co57 : Value).ownBlock ∧ k_ ≠ gb238 ∧ k_ ≠ gb239 ∧ k_ ≠ gb240 ∧ k_ ≠ gb261) (.slice A0_2 l0_2.length c0_2) l0_2)) ∧ (Aside0 (Kd.R (Kd.int .i16) 79 w62 w.heap.size (fun k_ => (w.heap.size ≤ k_) ∧ some k_ ≠ (v253 : Value).ownBlock) (.slice Ao57 x6_2.length co57) x6_2)) ∧ (Aside0 (w62.heap[gb238]? = some (.cells #[.int .i8 a0_0, .slice A0_1 l0_1.length c0_1, .slice A0_2 l0_2.length c0_2] 31 (0, 0)))) ∧ (Aside0 (w62.heap[gb239]? = some (.cells #[.int .i8 a1_0, .slice A1_1 l1_1.length c1_1, .slice A1_2 l1_2.length c1_2] 31 (0, 0)))) ∧ (Aside0 (w62.heap[gb240]? = some (.cells #[.int .i8 0, .slice none 0 0, .slice none 0 0] 31 (0, 0)))) ∧ (Aside0 (w62.heap[gb261]? = some (.cells #[.int .i8 0, .slice none 0 0, .slice none 0 0] 31 (0, 0)))) ∧ (Aside0 (w.heap.size ≤ gb261)) ∧ (Aside0 (w.heap.size ≤ gb261)) ∧ (Aside0 (gb238 ≠ gb261)) ∧ (Aside0 (gb261 ≠ gb238)) ∧ (Aside0 (gb239 ≠ gb261)) ∧ (Aside0 (gb261 ≠ gb239)) ∧ (Aside0 (gb240 ≠ gb261)) ∧ (Aside0 (gb261 ≠ gb240)) ∧ (Aside0 (Below w.heap.size w w62)) := ⟨⟨h0_⟩, ⟨h1_⟩, ⟨h2_⟩, ⟨h3_⟩, ⟨h4_⟩, ⟨h5_⟩, ⟨h6_⟩, ⟨h7_⟩, ⟨h8_⟩, ⟨h9_⟩, ⟨h10_⟩, ⟨h11_⟩, ⟨h12_⟩, ⟨h13_⟩, ⟨h14_⟩, ⟨h15_⟩, ⟨h16_⟩⟩
   clear HO_6 HO_239002 BK238 BK239 BK240 HB h0_ h1_ h2_ h3_ h4_ h5_ h6_ h7_ h8_ h9_ h10_ h11_ h12_ h13_ h14_ h15_ h16_
   obtain ⟨HO251, HO254, HO_239002, HO_6, BK238, BK239, BK240, BK261, GW261, GE261, NB238_261, NB261_238, NB239_261, NB261_239, NB240_261, NB261_240, HB⟩ := n_
   have hHeld := hS_
   obtain ⟨Ao63, co63, eo63⟩ := Kd.R_slice HO254.out
   (first | subst eo63 | (injection eo63 with f1_ f2_ f3_; have f4_ := f1_.symm; have f5_ := f3_.symm; clear f1_ f2_ f3_; subst f4_; subst f5_))
   refine norm_ (a' := ?_) ?_ ?_
   rotate_left
   ·simp only [putAll, Act.put, List.setIfInBounds_toArray, List.set_cons_zero, List.set_cons_succ]
    rfl
   refine one_ (i := 11) (N := some 76) (zq 16 20479) rfl rfl (one_of HT_.out (by kernel_rfl)) (by decide) (fun K hK => ?_)
   refine Kd.N_lit_step (Kd.slice 79 (Kd.int .i16)) _ 24 ?hg (N' := 76) ?hd (xs := ([l0_2, t252] : List (List Int))) (inner := [.slice A0_2 l0_2.length c0_2, .slice Ao63 t252.length co63]) (ok := (fun k_ => (P0_2_ k_ ∨ w.heap.size ≤ k_) ∧ some k_ ≠ (.slice Ao57 x6_2.length co57 : Value).ownBlock ∧ some k_ ≠ (v250 : Value).ownBlock ∧ k_ ≠ gb238 ∧ k_ ≠ gb239 ∧ k_ ≠ gb240 ∧ k_ ≠ gb261)) (okp := (fun k_ => (P0_2_ k_ ∨ w.heap.size ≤ k_) ∧ some k_ ≠ (.slice Ao57 x6_2.length co57 : Value).ownBlock ∧ some k_ ≠ (v250 : Value).ownBlock ∧ k_ ≠ gb238 ∧ k_ ≠ gb239 ∧ k_ ≠ gb240 ∧ k_ ≠ gb261)) ?hr ?hp (fun _ hk => hk) ((show ∀ k_, w62.heap.size ≤ k_ → (fun k_ => (P0_2_ k_ ∨ w.heap.size ≤ k_) ∧ some k_ ≠ (.slice Ao57 x6_2.length co57 : Value).ownBlock ∧ some k_ ≠ (v250 : Value).ownBlock ∧ k_ ≠ gb238 ∧ k_ ≠ gb239 ∧ k_ ≠ gb240 ∧ k_ ≠ gb261) k_ from fun k_ hk => ⟨(.inr (Nat.le_trans (zz HB) hk)), Kd.fresh' (Kd.R_lt (ze HO_6).out) k_ hk, Kd.fresh' (Kd.R_lt (ze HO251).out) k_ hk, Kd.freshB (g := gb238) (o := .cells #[.int .i8 a0_0, .slice A0_1 l0_1.length c0_1, .slice A0_2 l0_2.length c0_2] 31 (0, 0)) (zh BK238).out k_ hk, Kd.freshB (g := gb239) (o := .cells #[.int .i8 a1_0, .slice A1_1 l1_1.length c1_1, .slice A1_2 l1_2.length c1_2] 31 (0, 0)) (zh BK239).out k_ hk, Kd.freshB (g := gb240) (o := .cells #[.int .i8 0, .slice none 0 0, .slice none 0 0] 31 (0, 0)) (zh BK240).out k_ hk, Kd.freshB (g := gb261) (o := .cells #[.int .i8 0, .slice none 0 0, .slice none 0 0] 31 (0, 0)) (zh BK261).out k_ hk⟩) _ (Nat.le_refl _)) (Below.refl _ _) (Nat.le_refl _) (by simp) ?_; (case hd => rfl); (case hg => rfl); (case hr => exact zgs); (case hp => exact (Reps.one (show Kd.FK (Kd.slice 79 (Kd.int .i16)) _ _ l0_2 [.slice A0_2 l0_2.length c0_2] from (Kd.FK_slice_mk (Kd.V_reads' (Kd.V_mono (ok' := (fun k_ => (P0_2_ k_ ∨ w.heap.size ≤ k_) ∧ some k_ ≠ (.slice Ao57 x6_2.length co57 : Value).ownBlock ∧ some k_ ≠ (v250 : Value).ownBlock ∧ k_ ≠ gb238 ∧ k_ ≠ gb239 ∧ k_ ≠ gb240 ∧ k_ ≠ gb261)) (HO_239002.out) (fun k_ hk => ⟨hk.1, ⟨hk.2.2.2.1, ⟨hk.2.1, ⟨hk.2.2.2.2.1, ⟨hk.2.2.2.2.2.1, ⟨hk.2.2.2.2.2.2.1, hk.2.2.2.2.2.2.2⟩⟩⟩⟩⟩⟩))).2.1 (Kd.V_F (Kd.V_mono (ok' := (fun k_ => (P0_2_ k_ ∨ w.heap.size ≤ k_) ∧ some k_ ≠ (.slice Ao57 x6_2.length co57 : Value).ownBlock ∧ some k_ ≠ (v250 : Value).ownBlock ∧ k_ ≠ gb238 ∧ k_ ≠ gb239 ∧ k_ ≠ gb240 ∧ k_ ≠ gb261)) (HO_239002.out) (fun k_ hk => ⟨hk.1, ⟨hk.2.2.2.1, ⟨hk.2.1, ⟨hk.2.2.2.2.1, ⟨hk.2.2.2.2.2.1, ⟨hk.2.2.2.2.2.2.1, hk.2.2.2.2.2.2.2⟩⟩⟩⟩⟩⟩))))) (Reps.one (show Kd.FK (Kd.slice 79 (Kd.int .i16)) _ _ t252 [.slice Ao63 t252.length co63] from (Kd.FK_slice_mk (Kd.R_reads' (Kd.R_mono (ok' := (fun k_ => (P0_2_ k_ ∨ w.heap.size ≤ k_) ∧ some k_ ≠ (.slice Ao57 x6_2.length co57 : Value).ownBlock ∧ some k_ ≠ (v250 : Value).ownBlock ∧ k_ ≠ gb238 ∧ k_ ≠ gb239 ∧ k_ ≠ gb240 ∧ k_ ≠ gb261)) (Kd.R_types (Kd.R_types (Kd.R_types (Kd.R_types (Kd.R_apart' (HO254.out) (Kd.R_typed HO251.out) (by decide)) BK238.out (by decide)) BK239.out (by decide)) BK240.out (by decide)) BK261.out (by decide)) (fun k_ hk => ⟨(.inr (hk.1.1.1.1.1.1)), ⟨hk.1.1.1.1.1.2, ⟨hk.1.1.1.1.2, ⟨hk.1.1.1.2, ⟨hk.1.1.2, ⟨hk.1.2, hk.2⟩⟩⟩⟩⟩⟩))).2.1 (Kd.R_F (Kd.R_mono (ok' := (fun k_ => (P0_2_ k_ ∨ w.heap.size ≤ k_) ∧ some k_ ≠ (.slice Ao57 x6_2.length co57 : Value).ownBlock ∧ some k_ ≠ (v250 : Value).ownBlock ∧ k_ ≠ gb238 ∧ k_ ≠ gb239 ∧ k_ ≠ gb240 ∧ k_ ≠ gb261)) (Kd.R_types (Kd.R_types (Kd.R_types (Kd.R_types (Kd.R_apart' (HO254.out) (Kd.R_typed HO251.out) (by decide)) BK238.out (by decide)) BK239.out (by decide)) BK240.out (by decide)) BK261.out (by decide)) (fun k_ hk => ⟨(.inr (hk.1.1.1.1.1.1)), ⟨hk.1.1.1.1.1.2, ⟨hk.1.1.1.1.2, ⟨hk.1.1.1.2, ⟨hk.1.1.2, ⟨hk.1.2, hk.2⟩⟩⟩⟩⟩⟩))))) (Reps.none _ _))))
   intro v256 w64 ho65 hb hg_ hnew_
   clear hg_ hnew_
   (first | rw [← Ny255.out] at ho65 | (simp only [Int.reduceToNat] at ho65; rw [← Ny255.out] at ho65))
   have n_ : _ ∧ _ ∧ _ ∧ _ ∧ _ ∧ _ ∧ _ ∧ _ ∧ _ := ⟨zr HO_6 hb, Aside0.mk (Kd.V_elder' (by (with_reducible repeat (first | apply Kd.V_alloc | apply Kd.V_drewN | apply Kd.V_drew)); exact HO_239002.out) (Kd.N_base ho65) hb), zr HO251 hb, Aside0.mk (Kd.N_lower ho65 (zz HB)), zk BK238 hb, zk BK239 hb, zk BK240 hb, zk BK261 hb, zbs hb⟩
   clear HO_6 HO_239002 HO251 BK238 BK239 BK240 BK261 HB HO254
   obtain ⟨HO_6, HO_239002, HO251, HO257, BK238, BK239, BK240, BK261, HB⟩ := n_
   clear hb ho65
   refine hK.out _ _ ⟨(blk_cell BK238.out 0).trans rfl, (blk_cell BK238.out 1).trans rfl, (blk_cell BK238.out 2).trans rfl, (blk_cell BK239.out 0).trans rfl, (blk_cell BK239.out 1).trans rfl, (blk_cell BK239.out 2).trans rfl⟩ (fun hHeld => ?_)
   clear hK K
   refine norm_ (a' := ?_) ?_ ?_
   rotate_left
   ·show Act.put _ (some 76) _ = _
    exact zap
   exact norm_ (by first | (simp only [putAll, Act.put, List.setIfInBounds_toArray, List.set_cons_zero, List.set_cons_succ]; done) | (simp only [putAll, Act.put, List.setIfInBounds_toArray, List.set_cons_zero, List.set_cons_succ]; rfl)) (hJ4_10_11_14 (v250, .slice Ao63 t252.length co63, v256, gb261) _ ⟨hHeld, (ze HO251).out, (by (with_reducible repeat (first | apply Kd.N_alloc | apply Kd.N_drewN | apply Kd.N_drew)); exact Kd.N_mono HO257.out (fun _ hk => ⟨hk.1, ⟨hk.2.2.1, ⟨hk.2.1, ⟨hk.2.2.2.1, ⟨hk.2.2.2.2.1, ⟨hk.2.2.2.2.2.1, hk.2.2.2.2.2.2⟩⟩⟩⟩⟩⟩)), (by (with_reducible repeat (first | apply Kd.V_alloc | apply Kd.V_drewN | apply Kd.V_drew)); exact Kd.V_mono HO_239002.out (fun _ hk => ⟨hk.1.1, ⟨hk.1.2.1, ⟨hk.2, ⟨hk.1.2.2.2.1, ⟨hk.1.2.2.2.2.1, ⟨hk.1.2.2.2.2.2.1, ⟨hk.1.2.2.2.2.2.2.1, hk.1.2.2.2.2.2.2.2⟩⟩⟩⟩⟩⟩⟩)), (by (with_reducible repeat (first | apply Kd.R_alloc | apply Kd.R_drewN | apply Kd.R_drew)); exact Kd.R_mono HO_6.out (fun _ hk => hk.1)), (zh BK238).out, (zh BK239).out, (zh BK240).out, (zh BK261).out, GW261.out, GE261.out, NB238_261.out, NB261_238.out, NB239_261.out, NB261_239.out, NB240_261.out, NB261_240.out, zbo⟩)
  intro hJ4_10_14
  refine join_ (σ := Value × Value) 5 (zq 16 2047) (fun s_ => [(69, s_.1), (75, s_.2)]) (fun s_ w' => (w'.cell? ⟨gb238, 0, none⟩ = some (.int .i8 a0_0) ∧ w'.cell? ⟨gb238, 1, none⟩ = some (.slice A0_1 l0_1.length c0_1) ∧ w'.cell? ⟨gb238, 2, none⟩ = some (.slice A0_2 l0_2.length c0_2) ∧ w'.cell? ⟨gb239, 0, none⟩ = some (.int .i8 a1_0) ∧ w'.cell? ⟨gb239, 1, none⟩ = some (.slice A1_1 l1_1.length c1_1) ∧ w'.cell? ⟨gb239, 2, none⟩ = some (.slice A1_2 l1_2.length c1_2)) ∧ (Kd.R k81 81 w' w.heap.size (fun k_ => (w.heap.size ≤ k_)) s_.1 t249) ∧ (Kd.R (Kd.int .i16) 79 w' w.heap.size (fun k_ => (w.heap.size ≤ k_) ∧ some k_ ≠ (.slice Ao57 x6_2.length co57 : Value).ownBlock) s_.2 t252) ∧ (Kd.V (Kd.int .i16) 79 w' w.heap.size (fun k_ => (P0_2_ k_ ∨ w.heap.size ≤ k_) ∧ some k_ ≠ (s_.1 : Value).ownBlock ∧ some k_ ≠ (s_.2 : Value).ownBlock ∧ some k_ ≠ (.slice Ao57 x6_2.length co57 : Value).ownBlock ∧ k_ ≠ gb238 ∧ k_ ≠ gb239 ∧ k_ ≠ gb240) (.slice A0_2 l0_2.length c0_2) l0_2) ∧ (Kd.R (Kd.int .i16) 79 w' w.heap.size (fun k_ => (w.heap.size ≤ k_) ∧ some k_ ≠ (s_.2 : Value).ownBlock) (.slice Ao57 x6_2.length co57) x6_2) ∧ (w'.heap[gb238]? = some (.cells #[.int .i8 a0_0, .slice A0_1 l0_1.length c0_1, .slice A0_2 l0_2.length c0_2] 31 (0, 0))) ∧ (w'.heap[gb239]? = some (.cells #[.int .i8 a1_0, .slice A1_1 l1_1.length c1_1, .slice A1_2 l1_2.length c1_2] 31 (0, 0))) ∧ (w'.heap[gb240]? = some (.cells #[.int .i8 0, .slice none 0 0, .slice none 0 0] 31 (0, 0))) ∧ (Below w.heap.size w w')) ?_ ?_
  rotate_left
  rotate_left
  ·skip
   rintro ⟨v250, v253⟩ w61 ⟨hS_, h0_, h1_, h2_, h3_, h4_, h5_, h6_, h7_⟩
   have n_ : (Aside0 (Kd.R k81 81 w61 w.heap.size (fun k_ => (w.heap.size ≤ k_)) v250 t249)) ∧ (Aside0 (Kd.R (Kd.int .i16) 79 w61 w.heap.size (fun k_ => (w.heap.size ≤ k_) ∧ some k_ ≠ (.slice Ao57 x6_2.length co57 : Value).ownBlock) v253 t252)) ∧ (Aside0 (Kd.V (Kd.int .i16) 79 w61 w.heap.size (fun k_ => (P0_2_ k_ ∨ w.heap.size ≤ k_) ∧ some k_ ≠ (v250 : Value).ownBlock ∧ some k_ ≠ (v253 : Value).ownBlock ∧ some k_ ≠ (.slice Ao57 x6_2.length co57 : Value).ownBlock ∧ k_ ≠ gb238 ∧ k_ ≠ gb239 ∧ k_ ≠ gb240) (.slice A0_2 l0_2.length c0_2) l0_2)) ∧ (Aside0 (Kd.R (Kd.int .i16) 79 w61 w.heap.size (fun k_ => (w.heap.size ≤ k_) ∧ some k_ ≠ (v253 : Value).ownBlock) (.slice Ao57 x6_2.length co57) x6_2)) ∧ (Aside0 (w61.heap[gb238]? = some (.cells #[.int .i8 a0_0, .slice A0_1 l0_1.length c0_1, .slice A0_2 l0_2.length c0_2] 31 (0, 0)))) ∧ (Aside0 (w61.heap[gb239]? = some (.cells #[.int .i8 a1_0, .slice A1_1 l1_1.length c1_1, .slice A1_2 l1_2.length c1_2] 31 (0, 0)))) ∧ (Aside0 (w61.heap[gb240]? = some (.cells #[.int .i8 0, .slice none 0 0, .slice none 0 0] 31 (0, 0)))) ∧ (Aside0 (Below w.heap.size w w61)) := ⟨⟨h0_⟩, ⟨h1_⟩, ⟨h2_⟩, ⟨h3_⟩, ⟨h4_⟩, ⟨h5_⟩, ⟨h6_⟩, ⟨h7_⟩⟩
   clear HO_6 HO_239002 BK238 BK239 BK240 HB h0_ h1_ h2_ h3_ h4_ h5_ h6_ h7_
   obtain ⟨HO251, HO254, HO_239002, HO_6, BK238, BK239, BK240, HB⟩ := n_
   have hHeld := hS_
   obtain ⟨Ao62, co62, eo62⟩ := Kd.R_slice HO254.out
   (first | subst eo62 | (injection eo62 with f1_ f2_ f3_; have f4_ := f1_.symm; have f5_ := f3_.symm; clear f1_ f2_ f3_; subst f4_; subst f5_))
   refine norm_ (a' := ?_) ?_ ?_
   rotate_left
   ·simp only [putAll, Act.put, List.setIfInBounds_toArray, List.set_cons_zero, List.set_cons_succ]
    rfl
   refine two_ (i := 11) (j := 14) (Ni := some 76) (Nj := some 8) (zq 16 4095) (zq 16 18431) rfl rfl rfl rfl (two_of HT_.out (by kernel_rfl)) (by decide) (by decide) (fun K hK => ?_) (fun K hK => ?_)
   rotate_left
   ·skip
    refine box_step ?hg (N := 8) ?hd (cs := #[.int .i8 0, .slice none 0 0, .slice none 0 0]) (t := 31) ?hr ?_; (case hd => rfl); (case hg => rfl); (case hr => exact zgs)
    intro gb261 hg w62 hbox hb
    have n_ : _ ∧ _ ∧ _ ∧ _ ∧ _ ∧ _ ∧ _ ∧ _ ∧ _ ∧ _ ∧ _ ∧ _ ∧ _ ∧ _ ∧ _ ∧ _ ∧ _ := ⟨zr HO_6 hb, Aside0.mk (Kd.V_below (Kd.V_elderB (by (with_reducible repeat (first | apply Kd.V_alloc | apply Kd.V_drewN | apply Kd.V_drew)); exact HO_239002.out) gb261 (Nat.le_of_eq hg.symm)) hb), zr HO251 hb, zr HO254 hb, zk BK238 hb, zk BK239 hb, zk BK240 hb, zbs hb, Aside0.mk (hbox), zg HB hg, zg HB hg, zn1 BK238 hg, zn2 BK238 hg, zn1 BK239 hg, zn2 BK239 hg, zn1 BK240 hg, zn2 BK240 hg⟩
    clear HO_6 HO_239002 HO251 HO254 BK238 BK239 BK240 HB
    obtain ⟨HO_6, HO_239002, HO251, HO254, BK238, BK239, BK240, HB, BK261, GW261, GE261, NB238_261, NB261_238, NB239_261, NB261_239, NB240_261, NB261_240⟩ := n_
    clear hb hbox hg
    refine hK.out _ _ ⟨(blk_cell BK238.out 0).trans rfl, (blk_cell BK238.out 1).trans rfl, (blk_cell BK238.out 2).trans rfl, (blk_cell BK239.out 0).trans rfl, (blk_cell BK239.out 1).trans rfl, (blk_cell BK239.out 2).trans rfl⟩ (fun hHeld => ?_)
    clear hK K
    refine norm_ (a' := ?_) ?_ ?_
    rotate_left
    ·show Act.put _ (some 8) _ = _
     exact zap
    exact norm_ (by first | (simp only [putAll, Act.put, List.setIfInBounds_toArray, List.set_cons_zero, List.set_cons_succ]; done) | (simp only [putAll, Act.put, List.setIfInBounds_toArray, List.set_cons_zero, List.set_cons_succ]; rfl)) (hJ4_10_14 (v250, _, gb261) _ ⟨hHeld, (ze HO251).out, (ze HO254).out, (by (with_reducible repeat (first | apply Kd.V_alloc | apply Kd.V_drewN | apply Kd.V_drew)); exact Kd.V_mono HO_239002.out (fun _ hk => ⟨hk.1.1, ⟨hk.1.2.1, ⟨hk.1.2.2.1, ⟨hk.1.2.2.2.1, ⟨hk.1.2.2.2.2.1, ⟨hk.1.2.2.2.2.2.1, ⟨hk.1.2.2.2.2.2.2, hk.2⟩⟩⟩⟩⟩⟩⟩)), (ze HO_6).out, (zh BK238).out, (zh BK239).out, (zh BK240).out, (zh BK261).out, GW261.out, GE261.out, NB238_261.out, NB261_238.out, NB239_261.out, NB261_239.out, NB240_261.out, NB261_240.out, zbo⟩)
   skip
   refine Kd.N_lit_step (Kd.slice 79 (Kd.int .i16)) _ 24 ?hg (N' := 76) ?hd (xs := ([l0_2, t252] : List (List Int))) (inner := [.slice A0_2 l0_2.length c0_2, .slice Ao62 t252.length co62]) (ok := (fun k_ => (P0_2_ k_ ∨ w.heap.size ≤ k_) ∧ some k_ ≠ (.slice Ao57 x6_2.length co57 : Value).ownBlock ∧ some k_ ≠ (v250 : Value).ownBlock ∧ k_ ≠ gb238 ∧ k_ ≠ gb239 ∧ k_ ≠ gb240)) (okp := (fun k_ => (P0_2_ k_ ∨ w.heap.size ≤ k_) ∧ some k_ ≠ (.slice Ao57 x6_2.length co57 : Value).ownBlock ∧ some k_ ≠ (v250 : Value).ownBlock ∧ k_ ≠ gb238 ∧ k_ ≠ gb239 ∧ k_ ≠ gb240)) ?hr ?hp (fun _ hk => hk) ((show ∀ k_, w61.heap.size ≤ k_ → (fun k_ => (P0_2_ k_ ∨ w.heap.size ≤ k_) ∧ some k_ ≠ (.slice Ao57 x6_2.length co57 : Value).ownBlock ∧ some k_ ≠ (v250 : Value).ownBlock ∧ k_ ≠ gb238 ∧ k_ ≠ gb239 ∧ k_ ≠ gb240) k_ from fun k_ hk => ⟨(.inr (Nat.le_trans (zz HB) hk)), Kd.fresh' (Kd.R_lt (ze HO_6).out) k_ hk, Kd.fresh' (Kd.R_lt (ze HO251).out) k_ hk, Kd.freshB (g := gb238) (o := .cells #[.int .i8 a0_0, .slice A0_1 l0_1.length c0_1, .slice A0_2 l0_2.length c0_2] 31 (0, 0)) (zh BK238).out k_ hk, Kd.freshB (g := gb239) (o := .cells #[.int .i8 a1_0, .slice A1_1 l1_1.length c1_1, .slice A1_2 l1_2.length c1_2] 31 (0, 0)) (zh BK239).out k_ hk, Kd.freshB (g := gb240) (o := .cells #[.int .i8 0, .slice none 0 0, .slice none 0 0] 31 (0, 0)) (zh BK240).out k_ hk⟩) _ (Nat.le_refl _)) (Below.refl _ _) (Nat.le_refl _) (by simp) ?_; (case hd => rfl); (case hg => rfl); (case hr => exact zgs); (case hp => exact (Reps.one (show Kd.FK (Kd.slice 79 (Kd.int .i16)) _ _ l0_2 [.slice A0_2 l0_2.length c0_2] from (Kd.FK_slice_mk (Kd.V_reads' (Kd.V_mono (ok' := (fun k_ => (P0_2_ k_ ∨ w.heap.size ≤ k_) ∧ some k_ ≠ (.slice Ao57 x6_2.length co57 : Value).ownBlock ∧ some k_ ≠ (v250 : Value).ownBlock ∧ k_ ≠ gb238 ∧ k_ ≠ gb239 ∧ k_ ≠ gb240)) (HO_239002.out) (fun k_ hk => ⟨hk.1, ⟨hk.2.2.2.1, ⟨hk.2.1, ⟨hk.2.2.2.2.1, ⟨hk.2.2.2.2.2.1, hk.2.2.2.2.2.2⟩⟩⟩⟩⟩))).2.1 (Kd.V_F (Kd.V_mono (ok' := (fun k_ => (P0_2_ k_ ∨ w.heap.size ≤ k_) ∧ some k_ ≠ (.slice Ao57 x6_2.length co57 : Value).ownBlock ∧ some k_ ≠ (v250 : Value).ownBlock ∧ k_ ≠ gb238 ∧ k_ ≠ gb239 ∧ k_ ≠ gb240)) (HO_239002.out) (fun k_ hk => ⟨hk.1, ⟨hk.2.2.2.1, ⟨hk.2.1, ⟨hk.2.2.2.2.1, ⟨hk.2.2.2.2.2.1, hk.2.2.2.2.2.2⟩⟩⟩⟩⟩))))) (Reps.one (show Kd.FK (Kd.slice 79 (Kd.int .i16)) _ _ t252 [.slice Ao62 t252.length co62] from (Kd.FK_slice_mk (Kd.R_reads' (Kd.R_mono (ok' := (fun k_ => (P0_2_ k_ ∨ w.heap.size ≤ k_) ∧ some k_ ≠ (.slice Ao57 x6_2.length co57 : Value).ownBlock ∧ some k_ ≠ (v250 : Value).ownBlock ∧ k_ ≠ gb238 ∧ k_ ≠ gb239 ∧ k_ ≠ gb240)) (Kd.R_types (Kd.R_types (Kd.R_types (Kd.R_apart' (HO254.out) (Kd.R_typed HO251.out) (by decide)) BK238.out (by decide)) BK239.out (by decide)) BK240.out (by decide)) (fun k_ hk => ⟨(.inr (hk.1.1.1.1.1)), ⟨hk.1.1.1.1.2, ⟨hk.1.1.1.2, ⟨hk.1.1.2, ⟨hk.1.2, hk.2⟩⟩⟩⟩⟩))).2.1 (Kd.R_F (Kd.R_mono (ok' := (fun k_ => (P0_2_ k_ ∨ w.heap.size ≤ k_) ∧ some k_ ≠ (.slice Ao57 x6_2.length co57 : Value).ownBlock ∧ some k_ ≠ (v250 : Value).ownBlock ∧ k_ ≠ gb238 ∧ k_ ≠ gb239 ∧ k_ ≠ gb240)) (Kd.R_types (Kd.R_types (Kd.R_types (Kd.R_apart' (HO254.out) (Kd.R_typed HO251.out) (by decide)) BK238.out (by decide)) BK239.out (by decide)) BK240.out (by decide)) (fun k_ hk => ⟨(.inr (hk.1.1.1.1.1)), ⟨hk.1.1.1.1.2, ⟨hk.1.1.1.2, ⟨hk.1.1.2, ⟨hk.1.2, hk.2⟩⟩⟩⟩⟩))))) (Reps.none _ _))))
   intro v256 w63 ho64 hb hg_ hnew_
   clear hg_ hnew_
   (first | rw [← Ny255.out] at ho64 | (simp only [Int.reduceToNat] at ho64; rw [← Ny255.out] at ho64))
   have n_ : _ ∧ _ ∧ _ ∧ _ ∧ _ ∧ _ ∧ _ ∧ _ := ⟨zr HO_6 hb, Aside0.mk (Kd.V_elder' (by (with_reducible repeat (first | apply Kd.V_alloc | apply Kd.V_drewN | apply Kd.V_drew)); exact HO_239002.out) (Kd.N_base ho64) hb), zr HO251 hb, Aside0.mk (Kd.N_lower ho64 (zz HB)), zk BK238 hb, zk BK239 hb, zk BK240 hb, zbs hb⟩
   clear HO_6 HO_239002 HO251 BK238 BK239 BK240 HB HO254
   obtain ⟨HO_6, HO_239002, HO251, HO257, BK238, BK239, BK240, HB⟩ := n_
   clear hb ho64
   refine hK.out _ _ ⟨(blk_cell BK238.out 0).trans rfl, (blk_cell BK238.out 1).trans rfl, (blk_cell BK238.out 2).trans rfl, (blk_cell BK239.out 0).trans rfl, (blk_cell BK239.out 1).trans rfl, (blk_cell BK239.out 2).trans rfl⟩ (fun hHeld => ?_)
   clear hK K
   refine norm_ (a' := ?_) ?_ ?_
   rotate_left
   ·show Act.put _ (some 76) _ = _
    exact zap
   exact norm_ (by first | (simp only [putAll, Act.put, List.setIfInBounds_toArray, List.set_cons_zero, List.set_cons_succ]; done) | (simp only [putAll, Act.put, List.setIfInBounds_toArray, List.set_cons_zero, List.set_cons_succ]; rfl)) (hJ4_10_11 (v250, .slice Ao62 t252.length co62, v256) _ ⟨hHeld, (ze HO251).out, (by (with_reducible repeat (first | apply Kd.N_alloc | apply Kd.N_drewN | apply Kd.N_drew)); exact Kd.N_mono HO257.out (fun _ hk => ⟨hk.1, ⟨hk.2.2.1, ⟨hk.2.1, ⟨hk.2.2.2.1, ⟨hk.2.2.2.2.1, hk.2.2.2.2.2⟩⟩⟩⟩⟩)), (by (with_reducible repeat (first | apply Kd.V_alloc | apply Kd.V_drewN | apply Kd.V_drew)); exact Kd.V_mono HO_239002.out (fun _ hk => ⟨hk.1.1, ⟨hk.1.2.1, ⟨hk.2, ⟨hk.1.2.2.2.1, ⟨hk.1.2.2.2.2.1, ⟨hk.1.2.2.2.2.2.1, hk.1.2.2.2.2.2.2⟩⟩⟩⟩⟩⟩)), (by (with_reducible repeat (first | apply Kd.R_alloc | apply Kd.R_drewN | apply Kd.R_drew)); exact Kd.R_mono HO_6.out (fun _ hk => hk.1)), (zh BK238).out, (zh BK239).out, (zh BK240).out, zbo⟩)
  intro hJ4_10
  refine join_ (σ := Value × Nat) 5 (zq 16 17407) (fun s_ => [(69, s_.1), (8, .pointer (some ⟨s_.2, 0, none⟩))]) (fun s_ w' => (w'.cell? ⟨gb238, 0, none⟩ = some (.int .i8 a0_0) ∧ w'.cell? ⟨gb238, 1, none⟩ = some (.slice A0_1 l0_1.length c0_1) ∧ w'.cell? ⟨gb238, 2, none⟩ = some (.slice A0_2 l0_2.length c0_2) ∧ w'.cell? ⟨gb239, 0, none⟩ = some (.int .i8 a1_0) ∧ w'.cell? ⟨gb239, 1, none⟩ = some (.slice A1_1 l1_1.length c1_1) ∧ w'.cell? ⟨gb239, 2, none⟩ = some (.slice A1_2 l1_2.length c1_2)) ∧ (Kd.R k81 81 w' w.heap.size (fun k_ => (w.heap.size ≤ k_)) s_.1 t249) ∧ (Kd.V (Kd.int .i16) 79 w' w.heap.size (fun k_ => (P0_2_ k_ ∨ w.heap.size ≤ k_) ∧ some k_ ≠ (s_.1 : Value).ownBlock ∧ some k_ ≠ (.slice Ao57 x6_2.length co57 : Value).ownBlock ∧ k_ ≠ gb238 ∧ k_ ≠ gb239 ∧ k_ ≠ gb240 ∧ k_ ≠ s_.2) (.slice A0_2 l0_2.length c0_2) l0_2) ∧ (Kd.R (Kd.int .i16) 79 w' w.heap.size (fun k_ => (w.heap.size ≤ k_)) (.slice Ao57 x6_2.length co57) x6_2) ∧ (w'.heap[gb238]? = some (.cells #[.int .i8 a0_0, .slice A0_1 l0_1.length c0_1, .slice A0_2 l0_2.length c0_2] 31 (0, 0))) ∧ (w'.heap[gb239]? = some (.cells #[.int .i8 a1_0, .slice A1_1 l1_1.length c1_1, .slice A1_2 l1_2.length c1_2] 31 (0, 0))) ∧ (w'.heap[gb240]? = some (.cells #[.int .i8 0, .slice none 0 0, .slice none 0 0] 31 (0, 0))) ∧ (w'.heap[s_.2]? = some (.cells #[.int .i8 0, .slice none 0 0, .slice none 0 0] 31 (0, 0))) ∧ (w.heap.size ≤ s_.2) ∧ (w.heap.size ≤ s_.2) ∧ (gb238 ≠ s_.2) ∧ (s_.2 ≠ gb238) ∧ (gb239 ≠ s_.2) ∧ (s_.2 ≠ gb239) ∧ (gb240 ≠ s_.2) ∧ (s_.2 ≠ gb240) ∧ (Below w.heap.size w w')) ?_ ?_
  rotate_left
  rotate_left
  ·skip
   rintro ⟨v250, gb261⟩ w61 ⟨hS_, h0_, h1_, h2_, h3_, h4_, h5_, h6_, h7_, h8_, h9_, h10_, h11_, h12_, h13_, h14_, h15_⟩
   have n_ : (Aside0 (Kd.R k81 81 w61 w.heap.size (fun k_ => (w.heap.size ≤ k_)) v250 t249)) ∧ (Aside0 (Kd.V (Kd.int .i16) 79 w61 w.heap.size (fun k_ => (P0_2_ k_ ∨ w.heap.size ≤ k_) ∧ some k_ ≠ (v250 : Value).ownBlock ∧ some k_ ≠ (.slice Ao57 x6_2.length co57 : Value).ownBlock ∧ k_ ≠ gb238 ∧ k_ ≠ gb239 ∧ k_ ≠ gb240 ∧ k_ ≠ gb261) (.slice A0_2 l0_2.length c0_2) l0_2)) ∧ (Aside0 (Kd.R (Kd.int .i16) 79 w61 w.heap.size (fun k_ => (w.heap.size ≤ k_)) (.slice Ao57 x6_2.length co57) x6_2)) ∧ (Aside0 (w61.heap[gb238]? = some (.cells #[.int .i8 a0_0, .slice A0_1 l0_1.length c0_1, .slice A0_2 l0_2.length c0_2] 31 (0, 0)))) ∧ (Aside0 (w61.heap[gb239]? = some (.cells #[.int .i8 a1_0, .slice A1_1 l1_1.length c1_1, .slice A1_2 l1_2.length c1_2] 31 (0, 0)))) ∧ (Aside0 (w61.heap[gb240]? = some (.cells #[.int .i8 0, .slice none 0 0, .slice none 0 0] 31 (0, 0)))) ∧ (Aside0 (w61.heap[gb261]? = some (.cells #[.int .i8 0, .slice none 0 0, .slice none 0 0] 31 (0, 0)))) ∧ (Aside0 (w.heap.size ≤ gb261)) ∧ (Aside0 (w.heap.size ≤ gb261)) ∧ (Aside0 (gb238 ≠ gb261)) ∧ (Aside0 (gb261 ≠ gb238)) ∧ (Aside0 (gb239 ≠ gb261)) ∧ (Aside0 (gb261 ≠ gb239)) ∧ (Aside0 (gb240 ≠ gb261)) ∧ (Aside0 (gb261 ≠ gb240)) ∧ (Aside0 (Below w.heap.size w w61)) := ⟨⟨h0_⟩, ⟨h1_⟩, ⟨h2_⟩, ⟨h3_⟩, ⟨h4_⟩, ⟨h5_⟩, ⟨h6_⟩, ⟨h7_⟩, ⟨h8_⟩, ⟨h9_⟩, ⟨h10_⟩, ⟨h11_⟩, ⟨h12_⟩, ⟨h13_⟩, ⟨h14_⟩, ⟨h15_⟩⟩
   clear HO_6 HO_239002 BK238 BK239 BK240 HB h0_ h1_ h2_ h3_ h4_ h5_ h6_ h7_ h8_ h9_ h10_ h11_ h12_ h13_ h14_ h15_
   obtain ⟨HO251, HO_239002, HO_6, BK238, BK239, BK240, BK261, GW261, GE261, NB238_261, NB261_238, NB239_261, NB261_239, NB240_261, NB261_240, HB⟩ := n_
   have hHeld := hS_
   refine norm_ (a' := ?_) ?_ ?_
   rotate_left
   ·simp only [putAll, Act.put, List.setIfInBounds_toArray, List.set_cons_zero, List.set_cons_succ]
    rfl
   refine one_ (i := 10) (N := some 75) (zq 16 18431) rfl rfl (one_of HT_.out (by kernel_rfl)) (by decide) (fun K hK => ?_)
   refine goes_ Try.func106 (by kernel_rfl) rfl #[.slice A1_2 l1_2.length c1_2, .slice Ao57 x6_2.length co57] (by rfl) rfl rfl zm ?_
   with_reducible refine (impl_renamedAll.calls k2 _ _ l1_2 _ _ x6_2 t252 _ ?side1 ?side2 ?side3 ?side4 A55.out).mono ?_
   (case side1 => exact zcc HB HR1_2.out)
   (case side2 => exact HC1_2.out)
   (case side3 => exact zrc HO_6)
   (case side4 => exact (Kd.R_reads' HO_6.out).2.1)
   rintro e w62 ⟨v253, rfl, ho0, hb⟩
   refine ⟨_, rfl, ?_⟩
   have n_ : _ ∧ _ ∧ _ ∧ _ ∧ _ ∧ _ ∧ _ ∧ _ ∧ _ := ⟨Aside0.mk (Kd.R_elder' (ze HO_6).out (Kd.R_base ho0) hb), Aside0.mk (Kd.V_elder' (by (with_reducible repeat (first | apply Kd.V_alloc | apply Kd.V_drewN | apply Kd.V_drew)); exact HO_239002.out) (Kd.R_base ho0) hb), zr HO251 hb, Aside0.mk (Kd.R_lower (Kd.R_new' (Kd.R_newM (M := fun k_ => (w.heap.size ≤ k_)) ho0 (zz HB) (fun k_ h_ => h_)) (Kd.R_lt (ze HO_6).out)) (zz HB)), zk BK238 hb, zk BK239 hb, zk BK240 hb, zk BK261 hb, zbs hb⟩
   clear HO_6 HO_239002 HO251 BK238 BK239 BK240 BK261 HB
   obtain ⟨HO_6, HO_239002, HO251, HO254, BK238, BK239, BK240, BK261, HB⟩ := n_
   (try clear hb)
   (try clear hb2)
   (try clear hk)
   (try clear hi)
   (try clear ho0)
   refine hK.out _ _ ⟨(blk_cell BK238.out 0).trans rfl, (blk_cell BK238.out 1).trans rfl, (blk_cell BK238.out 2).trans rfl, (blk_cell BK239.out 0).trans rfl, (blk_cell BK239.out 1).trans rfl, (blk_cell BK239.out 2).trans rfl⟩ (fun hHeld => ?_)
   clear hK K
   refine norm_ (a' := ?_) ?_ ?_
   rotate_left
   ·show Act.put _ (some 75) _ = _
    exact zap
   exact norm_ (by first | (simp only [putAll, Act.put, List.setIfInBounds_toArray, List.set_cons_zero, List.set_cons_succ]; done) | (simp only [putAll, Act.put, List.setIfInBounds_toArray, List.set_cons_zero, List.set_cons_succ]; rfl)) (hJ4_10_14 (v250, v253, gb261) _ ⟨hHeld, (ze HO251).out, (by (with_reducible repeat (first | apply Kd.R_alloc | apply Kd.R_drewN | apply Kd.R_drew)); exact Kd.R_mono HO254.out (fun _ hk => ⟨hk.1.1, hk.2⟩)), (by (with_reducible repeat (first | apply Kd.V_alloc | apply Kd.V_drewN | apply Kd.V_drew)); exact Kd.V_mono HO_239002.out (fun _ hk => ⟨hk.1.1, ⟨hk.1.2.1, ⟨hk.2, ⟨hk.1.2.2.1, ⟨hk.1.2.2.2.1, ⟨hk.1.2.2.2.2.1, ⟨hk.1.2.2.2.2.2.1, hk.1.2.2.2.2.2.2⟩⟩⟩⟩⟩⟩⟩)), (ze HO_6).out, (zh BK238).out, (zh BK239).out, (zh BK240).out, (zh BK261).out, GW261.out, GE261.out, NB238_261.out, NB261_238.out, NB239_261.out, NB261_239.out, NB240_261.out, NB261_240.out, zbo⟩)
  intro hJ4_14
  refine join_ (σ := Value) 6 (zq 16 1023) (fun s_ => [(69, s_)]) (fun s_ w' => (w'.cell? ⟨gb238, 0, none⟩ = some (.int .i8 a0_0) ∧ w'.cell? ⟨gb238, 1, none⟩ = some (.slice A0_1 l0_1.length c0_1) ∧ w'.cell? ⟨gb238, 2, none⟩ = some (.slice A0_2 l0_2.length c0_2) ∧ w'.cell? ⟨gb239, 0, none⟩ = some (.int .i8 a1_0) ∧ w'.cell? ⟨gb239, 1, none⟩ = some (.slice A1_1 l1_1.length c1_1) ∧ w'.cell? ⟨gb239, 2, none⟩ = some (.slice A1_2 l1_2.length c1_2)) ∧ (Kd.R k81 81 w' w.heap.size (fun k_ => (w.heap.size ≤ k_)) s_ t249) ∧ (Kd.V (Kd.int .i16) 79 w' w.heap.size (fun k_ => (P0_2_ k_ ∨ w.heap.size ≤ k_) ∧ some k_ ≠ (s_ : Value).ownBlock ∧ some k_ ≠ (.slice Ao57 x6_2.length co57 : Value).ownBlock ∧ k_ ≠ gb238 ∧ k_ ≠ gb239 ∧ k_ ≠ gb240) (.slice A0_2 l0_2.length c0_2) l0_2) ∧ (Kd.R (Kd.int .i16) 79 w' w.heap.size (fun k_ => (w.heap.size ≤ k_)) (.slice Ao57 x6_2.length co57) x6_2) ∧ (w'.heap[gb238]? = some (.cells #[.int .i8 a0_0, .slice A0_1 l0_1.length c0_1, .slice A0_2 l0_2.length c0_2] 31 (0, 0))) ∧ (w'.heap[gb239]? = some (.cells #[.int .i8 a1_0, .slice A1_1 l1_1.length c1_1, .slice A1_2 l1_2.length c1_2] 31 (0, 0))) ∧ (w'.heap[gb240]? = some (.cells #[.int .i8 0, .slice none 0 0, .slice none 0 0] 31 (0, 0))) ∧ (Below w.heap.size w w')) ?_ ?_
  rotate_left
  rotate_left
  ·skip
   rintro v250 w60 ⟨hS_, h0_, h1_, h2_, h3_, h4_, h5_, h6_⟩
   have n_ : (Aside0 (Kd.R k81 81 w60 w.heap.size (fun k_ => (w.heap.size ≤ k_)) v250 t249)) ∧ (Aside0 (Kd.V (Kd.int .i16) 79 w60 w.heap.size (fun k_ => (P0_2_ k_ ∨ w.heap.size ≤ k_) ∧ some k_ ≠ (v250 : Value).ownBlock ∧ some k_ ≠ (.slice Ao57 x6_2.length co57 : Value).ownBlock ∧ k_ ≠ gb238 ∧ k_ ≠ gb239 ∧ k_ ≠ gb240) (.slice A0_2 l0_2.length c0_2) l0_2)) ∧ (Aside0 (Kd.R (Kd.int .i16) 79 w60 w.heap.size (fun k_ => (w.heap.size ≤ k_)) (.slice Ao57 x6_2.length co57) x6_2)) ∧ (Aside0 (w60.heap[gb238]? = some (.cells #[.int .i8 a0_0, .slice A0_1 l0_1.length c0_1, .slice A0_2 l0_2.length c0_2] 31 (0, 0)))) ∧ (Aside0 (w60.heap[gb239]? = some (.cells #[.int .i8 a1_0, .slice A1_1 l1_1.length c1_1, .slice A1_2 l1_2.length c1_2] 31 (0, 0)))) ∧ (Aside0 (w60.heap[gb240]? = some (.cells #[.int .i8 0, .slice none 0 0, .slice none 0 0] 31 (0, 0)))) ∧ (Aside0 (Below w.heap.size w w60)) := ⟨⟨h0_⟩, ⟨h1_⟩, ⟨h2_⟩, ⟨h3_⟩, ⟨h4_⟩, ⟨h5_⟩, ⟨h6_⟩⟩
   clear HO_6 HO_239002 BK238 BK239 BK240 HB h0_ h1_ h2_ h3_ h4_ h5_ h6_
   obtain ⟨HO251, HO_239002, HO_6, BK238, BK239, BK240, HB⟩ := n_
   have hHeld := hS_
   refine norm_ (a' := ?_) ?_ ?_
   rotate_left
   ·simp only [putAll, Act.put, List.setIfInBounds_toArray, List.set_cons_zero, List.set_cons_succ]
    rfl
   refine two_ (i := 10) (j := 14) (Ni := some 75) (Nj := some 8) (zq 16 2047) (zq 16 17407) rfl rfl rfl rfl (two_of HT_.out (by kernel_rfl)) (by decide) (by decide) (fun K hK => ?_) (fun K hK => ?_)
   rotate_left
   ·skip
    refine box_step ?hg (N := 8) ?hd (cs := #[.int .i8 0, .slice none 0 0, .slice none 0 0]) (t := 31) ?hr ?_; (case hd => rfl); (case hg => rfl); (case hr => exact zgs)
    intro gb261 hg w61 hbox hb
    have n_ : _ ∧ _ ∧ _ ∧ _ ∧ _ ∧ _ ∧ _ ∧ _ ∧ _ ∧ _ ∧ _ ∧ _ ∧ _ ∧ _ ∧ _ ∧ _ := ⟨zr HO_6 hb, Aside0.mk (Kd.V_below (Kd.V_elderB (by (with_reducible repeat (first | apply Kd.V_alloc | apply Kd.V_drewN | apply Kd.V_drew)); exact HO_239002.out) gb261 (Nat.le_of_eq hg.symm)) hb), zr HO251 hb, zk BK238 hb, zk BK239 hb, zk BK240 hb, zbs hb, Aside0.mk (hbox), zg HB hg, zg HB hg, zn1 BK238 hg, zn2 BK238 hg, zn1 BK239 hg, zn2 BK239 hg, zn1 BK240 hg, zn2 BK240 hg⟩
    clear HO_6 HO_239002 HO251 BK238 BK239 BK240 HB
    obtain ⟨HO_6, HO_239002, HO251, BK238, BK239, BK240, HB, BK261, GW261, GE261, NB238_261, NB261_238, NB239_261, NB261_239, NB240_261, NB261_240⟩ := n_
    clear hb hbox hg
    refine hK.out _ _ ⟨(blk_cell BK238.out 0).trans rfl, (blk_cell BK238.out 1).trans rfl, (blk_cell BK238.out 2).trans rfl, (blk_cell BK239.out 0).trans rfl, (blk_cell BK239.out 1).trans rfl, (blk_cell BK239.out 2).trans rfl⟩ (fun hHeld => ?_)
    clear hK K
    refine norm_ (a' := ?_) ?_ ?_
    rotate_left
    ·show Act.put _ (some 8) _ = _
     exact zap
    exact norm_ (by first | (simp only [putAll, Act.put, List.setIfInBounds_toArray, List.set_cons_zero, List.set_cons_succ]; done) | (simp only [putAll, Act.put, List.setIfInBounds_toArray, List.set_cons_zero, List.set_cons_succ]; rfl)) (hJ4_14 (v250, gb261) _ ⟨hHeld, (ze HO251).out, (by (with_reducible repeat (first | apply Kd.V_alloc | apply Kd.V_drewN | apply Kd.V_drew)); exact Kd.V_mono HO_239002.out (fun _ hk => ⟨hk.1.1, ⟨hk.1.2.1, ⟨hk.1.2.2.1, ⟨hk.1.2.2.2.1, ⟨hk.1.2.2.2.2.1, ⟨hk.1.2.2.2.2.2, hk.2⟩⟩⟩⟩⟩⟩)), (ze HO_6).out, (zh BK238).out, (zh BK239).out, (zh BK240).out, (zh BK261).out, GW261.out, GE261.out, NB238_261.out, NB261_238.out, NB239_261.out, NB261_239.out, NB240_261.out, NB261_240.out, zbo⟩)
   skip
   refine goes_ Try.func106 (by kernel_rfl) rfl #[.slice A1_2 l1_2.length c1_2, .slice Ao57 x6_2.length co57] (by rfl) rfl rfl zm ?_
   with_reducible refine (impl_renamedAll.calls k2 _ _ l1_2 _ _ x6_2 t252 _ ?side1 ?side2 ?side3 ?side4 A55.out).mono ?_
   (case side1 => exact zcc HB HR1_2.out)
   (case side2 => exact HC1_2.out)
   (case side3 => exact zrc HO_6)
   (case side4 => exact (Kd.R_reads' HO_6.out).2.1)
   rintro e w61 ⟨v253, rfl, ho0, hb⟩
   refine ⟨_, rfl, ?_⟩
   have n_ : _ ∧ _ ∧ _ ∧ _ ∧ _ ∧ _ ∧ _ ∧ _ := ⟨Aside0.mk (Kd.R_elder' (ze HO_6).out (Kd.R_base ho0) hb), Aside0.mk (Kd.V_elder' (by (with_reducible repeat (first | apply Kd.V_alloc | apply Kd.V_drewN | apply Kd.V_drew)); exact HO_239002.out) (Kd.R_base ho0) hb), zr HO251 hb, Aside0.mk (Kd.R_lower (Kd.R_new' (Kd.R_newM (M := fun k_ => (w.heap.size ≤ k_)) ho0 (zz HB) (fun k_ h_ => h_)) (Kd.R_lt (ze HO_6).out)) (zz HB)), zk BK238 hb, zk BK239 hb, zk BK240 hb, zbs hb⟩
   clear HO_6 HO_239002 HO251 BK238 BK239 BK240 HB
   obtain ⟨HO_6, HO_239002, HO251, HO254, BK238, BK239, BK240, HB⟩ := n_
   (try clear hb)
   (try clear hb2)
   (try clear hk)
   (try clear hi)
   (try clear ho0)
   refine hK.out _ _ ⟨(blk_cell BK238.out 0).trans rfl, (blk_cell BK238.out 1).trans rfl, (blk_cell BK238.out 2).trans rfl, (blk_cell BK239.out 0).trans rfl, (blk_cell BK239.out 1).trans rfl, (blk_cell BK239.out 2).trans rfl⟩ (fun hHeld => ?_)
   clear hK K
   refine norm_ (a' := ?_) ?_ ?_
   rotate_left
   ·show Act.put _ (some 75) _ = _
    exact zap
   exact norm_ (by first | (simp only [putAll, Act.put, List.setIfInBounds_toArray, List.set_cons_zero, List.set_cons_succ]; done) | (simp only [putAll, Act.put, List.setIfInBounds_toArray, List.set_cons_zero, List.set_cons_succ]; rfl)) (hJ4_10 (v250, v253) _ ⟨hHeld, (ze HO251).out, (by (with_reducible repeat (first | apply Kd.R_alloc | apply Kd.R_drewN | apply Kd.R_drew)); exact Kd.R_mono HO254.out (fun _ hk => ⟨hk.1.1, hk.2⟩)), (by (with_reducible repeat (first | apply Kd.V_alloc | apply Kd.V_drewN | apply Kd.V_drew)); exact Kd.V_mono HO_239002.out (fun _ hk => ⟨hk.1.1, ⟨hk.1.2.1, ⟨hk.2, ⟨hk.1.2.2.1, ⟨hk.1.2.2.2.1, ⟨hk.1.2.2.2.2.1, hk.1.2.2.2.2.2⟩⟩⟩⟩⟩⟩)), (ze HO_6).out, (zh BK238).out, (zh BK239).out, (zh BK240).out, zbo⟩)
  intro hJ4
  refine join_ (σ := Nat) 6 (zq 16 17391) (fun s_ => [(8, .pointer (some ⟨s_, 0, none⟩))]) (fun s_ w' => (w'.cell? ⟨gb238, 0, none⟩ = some (.int .i8 a0_0) ∧ w'.cell? ⟨gb238, 1, none⟩ = some (.slice A0_1 l0_1.length c0_1) ∧ w'.cell? ⟨gb238, 2, none⟩ = some (.slice A0_2 l0_2.length c0_2) ∧ w'.cell? ⟨gb239, 0, none⟩ = some (.int .i8 a1_0) ∧ w'.cell? ⟨gb239, 1, none⟩ = some (.slice A1_1 l1_1.length c1_1) ∧ w'.cell? ⟨gb239, 2, none⟩ = some (.slice A1_2 l1_2.length c1_2)) ∧ (Kd.V (Kd.int .i16) 79 w' w.heap.size (fun k_ => (P0_2_ k_ ∨ w.heap.size ≤ k_) ∧ some k_ ≠ (.slice Ao57 x6_2.length co57 : Value).ownBlock ∧ k_ ≠ gb238 ∧ k_ ≠ gb239 ∧ k_ ≠ gb240 ∧ k_ ≠ s_) (.slice A0_2 l0_2.length c0_2) l0_2) ∧ (Kd.R (Kd.int .i16) 79 w' w.heap.size (fun k_ => (w.heap.size ≤ k_)) (.slice Ao57 x6_2.length co57) x6_2) ∧ (w'.heap[gb238]? = some (.cells #[.int .i8 a0_0, .slice A0_1 l0_1.length c0_1, .slice A0_2 l0_2.length c0_2] 31 (0, 0))) ∧ (w'.heap[gb239]? = some (.cells #[.int .i8 a1_0, .slice A1_1 l1_1.length c1_1, .slice A1_2 l1_2.length c1_2] 31 (0, 0))) ∧ (w'.heap[gb240]? = some (.cells #[.int .i8 0, .slice none 0 0, .slice none 0 0] 31 (0, 0))) ∧ (w'.heap[s_]? = some (.cells #[.int .i8 0, .slice none 0 0, .slice none 0 0] 31 (0, 0))) ∧ (w.heap.size ≤ s_) ∧ (w.heap.size ≤ s_) ∧ (gb238 ≠ s_) ∧ (s_ ≠ gb238) ∧ (gb239 ≠ s_) ∧ (s_ ≠ gb239) ∧ (gb240 ≠ s_) ∧ (s_ ≠ gb240) ∧ (Below w.heap.size w w')) ?_ ?_
  rotate_left
  ·intro hJ14
   refine two_ (i := 4) (j := 14) (Ni := some 69) (Nj := some 8) (zq 16 1023) (zq 16 17391) rfl rfl rfl rfl (two_of HT_.out (by kernel_rfl)) (by decide) (by decide) (fun K hK => ?_) (fun K hK => ?_)
   ·skip
    refine goes_ Try.func104 (by kernel_rfl) rfl #[.slice A0_1 l0_1.length c0_1] (by rfl) rfl rfl zm ?_
    with_reducible refine (impl_Node.calls _ _ l0_1 t249 _ ?side1 ?side2 A54.out).mono ?_
    (case side1 => exact zcc HB HR0_1.out)
    (case side2 => exact HC0_1.out)
    rintro e w59 ⟨v250, rfl, ho0, hb⟩
    refine ⟨_, rfl, ?_⟩
    have n_ : _ ∧ _ ∧ _ ∧ _ ∧ _ ∧ _ ∧ _ := ⟨zr HO_6 hb, Aside0.mk (Kd.V_elder' (by (with_reducible repeat (first | apply Kd.V_alloc | apply Kd.V_drewN | apply Kd.V_drew)); exact HO_239002.out) (Kd.R_base ho0) hb), Aside0.mk (Kd.R_lower (Kd.R_newM (M := fun k_ => (w.heap.size ≤ k_)) ho0 (zz HB) (fun k_ h_ => h_)) (zz HB)), zk BK238 hb, zk BK239 hb, zk BK240 hb, zbs hb⟩
    clear HO_6 HO_239002 BK238 BK239 BK240 HB
    obtain ⟨HO_6, HO_239002, HO251, BK238, BK239, BK240, HB⟩ := n_
    (try clear hb)
    (try clear hb2)
    (try clear hk)
    (try clear hi)
    (try clear ho0)
    refine hK.out _ _ ⟨(blk_cell BK238.out 0).trans rfl, (blk_cell BK238.out 1).trans rfl, (blk_cell BK238.out 2).trans rfl, (blk_cell BK239.out 0).trans rfl, (blk_cell BK239.out 1).trans rfl, (blk_cell BK239.out 2).trans rfl⟩ (fun hHeld => ?_)
    clear hK K
    refine norm_ (a' := ?_) ?_ ?_
    rotate_left
    ·show Act.put _ (some 69) _ = _
     exact zap
    exact norm_ (by first | (simp only [putAll, Act.put, List.setIfInBounds_toArray, List.set_cons_zero, List.set_cons_succ]; done) | (simp only [putAll, Act.put, List.setIfInBounds_toArray, List.set_cons_zero, List.set_cons_succ]; rfl)) (hJ4 (v250) _ ⟨hHeld, (by (with_reducible repeat (first | apply Kd.R_alloc | apply Kd.R_drewN | apply Kd.R_drew)); exact Kd.R_mono HO251.out (fun _ hk => hk.1)), (by (with_reducible repeat (first | apply Kd.V_alloc | apply Kd.V_drewN | apply Kd.V_drew)); exact Kd.V_mono HO_239002.out (fun _ hk => ⟨hk.1.1, ⟨hk.2, ⟨hk.1.2.1, ⟨hk.1.2.2.1, ⟨hk.1.2.2.2.1, hk.1.2.2.2.2⟩⟩⟩⟩⟩)), (ze HO_6).out, (zh BK238).out, (zh BK239).out, (zh BK240).out, zbo⟩)
   skip
   refine box_step ?hg (N := 8) ?hd (cs := #[.int .i8 0, .slice none 0 0, .slice none 0 0]) (t := 31) ?hr ?_; (case hd => rfl); (case hg => rfl); (case hr => exact zgs)
   intro gb261 hg w59 hbox hb
   have n_ : _ ∧ _ ∧ _ ∧ _ ∧ _ ∧ _ ∧ _ ∧ _ ∧ _ ∧ _ ∧ _ ∧ _ ∧ _ ∧ _ ∧ _ := ⟨zr HO_6 hb, Aside0.mk (Kd.V_below (Kd.V_elderB (by (with_reducible repeat (first | apply Kd.V_alloc | apply Kd.V_drewN | apply Kd.V_drew)); exact HO_239002.out) gb261 (Nat.le_of_eq hg.symm)) hb), zk BK238 hb, zk BK239 hb, zk BK240 hb, zbs hb, Aside0.mk (hbox), zg HB hg, zg HB hg, zn1 BK238 hg, zn2 BK238 hg, zn1 BK239 hg, zn2 BK239 hg, zn1 BK240 hg, zn2 BK240 hg⟩
   clear HO_6 HO_239002 BK238 BK239 BK240 HB
   obtain ⟨HO_6, HO_239002, BK238, BK239, BK240, HB, BK261, GW261, GE261, NB238_261, NB261_238, NB239_261, NB261_239, NB240_261, NB261_240⟩ := n_
   clear hb hbox hg
   refine hK.out _ _ ⟨(blk_cell BK238.out 0).trans rfl, (blk_cell BK238.out 1).trans rfl, (blk_cell BK238.out 2).trans rfl, (blk_cell BK239.out 0).trans rfl, (blk_cell BK239.out 1).trans rfl, (blk_cell BK239.out 2).trans rfl⟩ (fun hHeld => ?_)
   clear hK K
   refine norm_ (a' := ?_) ?_ ?_
   rotate_left
   ·show Act.put _ (some 8) _ = _
    exact zap
   exact norm_ (by first | (simp only [putAll, Act.put, List.setIfInBounds_toArray, List.set_cons_zero, List.set_cons_succ]; done) | (simp only [putAll, Act.put, List.setIfInBounds_toArray, List.set_cons_zero, List.set_cons_succ]; rfl)) (hJ14 (gb261) _ ⟨hHeld, (by (with_reducible repeat (first | apply Kd.V_alloc | apply Kd.V_drewN | apply Kd.V_drew)); exact Kd.V_mono HO_239002.out (fun _ hk => ⟨hk.1.1, ⟨hk.1.2.1, ⟨hk.1.2.2.1, ⟨hk.1.2.2.2.1, ⟨hk.1.2.2.2.2, hk.2⟩⟩⟩⟩⟩)), (ze HO_6).out, (zh BK238).out, (zh BK239).out, (zh BK240).out, (zh BK261).out, GW261.out, GE261.out, NB238_261.out, NB261_238.out, NB239_261.out, NB261_239.out, NB240_261.out, NB261_240.out, zbo⟩)
  skip
  rintro gb261 w60 ⟨hS_, h0_, h1_, h2_, h3_, h4_, h5_, h6_, h7_, h8_, h9_, h10_, h11_, h12_, h13_, h14_⟩
  have n_ : (Aside0 (Kd.V (Kd.int .i16) 79 w60 w.heap.size (fun k_ => (P0_2_ k_ ∨ w.heap.size ≤ k_) ∧ some k_ ≠ (.slice Ao57 x6_2.length co57 : Value).ownBlock ∧ k_ ≠ gb238 ∧ k_ ≠ gb239 ∧ k_ ≠ gb240 ∧ k_ ≠ gb261) (.slice A0_2 l0_2.length c0_2) l0_2)) ∧ (Aside0 (Kd.R (Kd.int .i16) 79 w60 w.heap.size (fun k_ => (w.heap.size ≤ k_)) (.slice Ao57 x6_2.length co57) x6_2)) ∧ (Aside0 (w60.heap[gb238]? = some (.cells #[.int .i8 a0_0, .slice A0_1 l0_1.length c0_1, .slice A0_2 l0_2.length c0_2] 31 (0, 0)))) ∧ (Aside0 (w60.heap[gb239]? = some (.cells #[.int .i8 a1_0, .slice A1_1 l1_1.length c1_1, .slice A1_2 l1_2.length c1_2] 31 (0, 0)))) ∧ (Aside0 (w60.heap[gb240]? = some (.cells #[.int .i8 0, .slice none 0 0, .slice none 0 0] 31 (0, 0)))) ∧ (Aside0 (w60.heap[gb261]? = some (.cells #[.int .i8 0, .slice none 0 0, .slice none 0 0] 31 (0, 0)))) ∧ (Aside0 (w.heap.size ≤ gb261)) ∧ (Aside0 (w.heap.size ≤ gb261)) ∧ (Aside0 (gb238 ≠ gb261)) ∧ (Aside0 (gb261 ≠ gb238)) ∧ (Aside0 (gb239 ≠ gb261)) ∧ (Aside0 (gb261 ≠ gb239)) ∧ (Aside0 (gb240 ≠ gb261)) ∧ (Aside0 (gb261 ≠ gb240)) ∧ (Aside0 (Below w.heap.size w w60)) := ⟨⟨h0_⟩, ⟨h1_⟩, ⟨h2_⟩, ⟨h3_⟩, ⟨h4_⟩, ⟨h5_⟩, ⟨h6_⟩, ⟨h7_⟩, ⟨h8_⟩, ⟨h9_⟩, ⟨h10_⟩, ⟨h11_⟩, ⟨h12_⟩, ⟨h13_⟩, ⟨h14_⟩⟩
  clear HO_6 HO_239002 BK238 BK239 BK240 HB h0_ h1_ h2_ h3_ h4_ h5_ h6_ h7_ h8_ h9_ h10_ h11_ h12_ h13_ h14_
  obtain ⟨HO_239002, HO_6, BK238, BK239, BK240, BK261, GW261, GE261, NB238_261, NB261_238, NB239_261, NB261_239, NB240_261, NB261_240, HB⟩ := n_
  have hHeld := hS_
  refine norm_ (a' := ?_) ?_ ?_
  rotate_left
  ·simp only [putAll, Act.put, List.setIfInBounds_toArray, List.set_cons_zero, List.set_cons_succ]
   rfl
  refine one_ (i := 4) (N := some 69) (zq 16 17407) rfl rfl (one_of HT_.out (by kernel_rfl)) (by decide) (fun K hK => ?_)
  refine goes_ Try.func104 (by kernel_rfl) rfl #[.slice A0_1 l0_1.length c0_1] (by rfl) rfl rfl zm ?_
  with_reducible refine (impl_Node.calls _ _ l0_1 t249 _ ?side1 ?side2 A54.out).mono ?_
  (case side1 => exact zcc HB HR0_1.out)
  (case side2 => exact HC0_1.out)
  rintro e w61 ⟨v250, rfl, ho0, hb⟩
  refine ⟨_, rfl, ?_⟩
  have n_ : _ ∧ _ ∧ _ ∧ _ ∧ _ ∧ _ ∧ _ ∧ _ := ⟨zr HO_6 hb, Aside0.mk (Kd.V_elder' (by (with_reducible repeat (first | apply Kd.V_alloc | apply Kd.V_drewN | apply Kd.V_drew)); exact HO_239002.out) (Kd.R_base ho0) hb), Aside0.mk (Kd.R_lower (Kd.R_newM (M := fun k_ => (w.heap.size ≤ k_)) ho0 (zz HB) (fun k_ h_ => h_)) (zz HB)), zk BK238 hb, zk BK239 hb, zk BK240 hb, zk BK261 hb, zbs hb⟩
  clear HO_6 HO_239002 BK238 BK239 BK240 BK261 HB
  obtain ⟨HO_6, HO_239002, HO251, BK238, BK239, BK240, BK261, HB⟩ := n_
  (try clear hb)
  (try clear hb2)
  (try clear hk)
  (try clear hi)
  (try clear ho0)
  refine hK.out _ _ ⟨(blk_cell BK238.out 0).trans rfl, (blk_cell BK238.out 1).trans rfl, (blk_cell BK238.out 2).trans rfl, (blk_cell BK239.out 0).trans rfl, (blk_cell BK239.out 1).trans rfl, (blk_cell BK239.out 2).trans rfl⟩ (fun hHeld => ?_)
  clear hK K
  refine norm_ (a' := ?_) ?_ ?_
  rotate_left
  ·show Act.put _ (some 69) _ = _
   exact zap
  exact norm_ (by first | (simp only [putAll, Act.put, List.setIfInBounds_toArray, List.set_cons_zero, List.set_cons_succ]; done) | (simp only [putAll, Act.put, List.setIfInBounds_toArray, List.set_cons_zero, List.set_cons_succ]; rfl)) (hJ4_14 (v250, gb261) _ ⟨hHeld, (by (with_reducible repeat (first | apply Kd.R_alloc | apply Kd.R_drewN | apply Kd.R_drew)); exact Kd.R_mono HO251.out (fun _ hk => hk.1)), (by (with_reducible repeat (first | apply Kd.V_alloc | apply Kd.V_drewN | apply Kd.V_drew)); exact Kd.V_mono HO_239002.out (fun _ hk => ⟨hk.1.1, ⟨hk.2, ⟨hk.1.2.1, ⟨hk.1.2.2.1, ⟨hk.1.2.2.2.1, ⟨hk.1.2.2.2.2.1, hk.1.2.2.2.2.2⟩⟩⟩⟩⟩⟩)), (ze HO_6).out, (zh BK238).out, (zh BK239).out, (zh BK240).out, (zh BK261).out, GW261.out, GE261.out, NB238_261.out, NB261_238.out, NB239_261.out, NB261_239.out, NB240_261.out, NB261_240.out, zbo⟩)
 rintro ⟨v250, v253, v256, v259, gb261⟩ w69 ⟨hS_, h0_, h1_, h2_, h3_, h4_, h5_, h6_, h7_, h8_, h9_, h10_, h11_, h12_, h13_, h14_, h15_, h16_, h17_⟩
 have n_ : (Aside0 (Kd.R k81 81 w69 w.heap.size (fun k_ => (w.heap.size ≤ k_)) v250 t249)) ∧ (Aside0 (Kd.N (Kd.slice 79 (Kd.int .i16)) 24 w69 w.heap.size (fun k_ => (P0_2_ k_ ∨ w.heap.size ≤ k_) ∧ some k_ ≠ (v250 : Value).ownBlock ∧ some k_ ≠ (v259 : Value).ownBlock ∧ some k_ ≠ (.slice Ao57 x6_2.length co57 : Value).ownBlock ∧ k_ ≠ gb238 ∧ k_ ≠ gb239 ∧ k_ ≠ gb240 ∧ k_ ≠ gb261) v256 y255)) ∧ (Aside0 (Kd.R (Kd.int .i16) 79 w69 w.heap.size (fun k_ => (w.heap.size ≤ k_) ∧ some k_ ≠ (.slice Ao57 x6_2.length co57 : Value).ownBlock) v259 t258)) ∧ (Aside0 (Kd.V (Kd.int .i16) 79 w69 w.heap.size (fun k_ => (P0_2_ k_ ∨ w.heap.size ≤ k_) ∧ some k_ ≠ (v250 : Value).ownBlock ∧ some k_ ≠ (v256 : Value).ownBlock ∧ some k_ ≠ (v259 : Value).ownBlock ∧ some k_ ≠ (.slice Ao57 x6_2.length co57 : Value).ownBlock ∧ k_ ≠ gb238 ∧ k_ ≠ gb239 ∧ k_ ≠ gb240 ∧ k_ ≠ gb261) (.slice A0_2 l0_2.length c0_2) l0_2)) ∧ (Aside0 (Kd.R (Kd.int .i16) 79 w69 w.heap.size (fun k_ => (w.heap.size ≤ k_) ∧ some k_ ≠ (v259 : Value).ownBlock) (.slice Ao57 x6_2.length co57) x6_2)) ∧ (Aside0 (w69.heap[gb238]? = some (.cells #[.int .i8 a0_0, .slice A0_1 l0_1.length c0_1, .slice A0_2 l0_2.length c0_2] 31 (0, 0)))) ∧ (Aside0 (w69.heap[gb239]? = some (.cells #[.int .i8 a1_0, .slice A1_1 l1_1.length c1_1, .slice A1_2 l1_2.length c1_2] 31 (0, 0)))) ∧ (Aside0 (w69.heap[gb240]? = some (.cells #[.int .i8 0, .slice none 0 0, .slice none 0 0] 31 (0, 0)))) ∧ (Aside0 (w69.heap[gb261]? = some (.cells #[.int .i8 0, .slice none 0 0, .slice none 0 0] 31 (0, 0)))) ∧ (Aside0 (w.heap.size ≤ gb261)) ∧ (Aside0 (w.heap.size ≤ gb261)) ∧ (Aside0 (gb238 ≠ gb261)) ∧ (Aside0 (gb261 ≠ gb238)) ∧ (Aside0 (gb239 ≠ gb261)) ∧ (Aside0 (gb261 ≠ gb239)) ∧ (Aside0 (gb240 ≠ gb261)) ∧ (Aside0 (gb261 ≠ gb240)) ∧ (Aside0 (Below w.heap.size w w69)) := ⟨⟨h0_⟩, ⟨h1_⟩, ⟨h2_⟩, ⟨h3_⟩, ⟨h4_⟩, ⟨h5_⟩, ⟨h6_⟩, ⟨h7_⟩, ⟨h8_⟩, ⟨h9_⟩, ⟨h10_⟩, ⟨h11_⟩, ⟨h12_⟩, ⟨h13_⟩, ⟨h14_⟩, ⟨h15_⟩, ⟨h16_⟩, ⟨h17_⟩⟩
 clear HO_6 HO_239002 BK238 BK239 BK240 HB h0_ h1_ h2_ h3_ h4_ h5_ h6_ h7_ h8_ h9_ h10_ h11_ h12_ h13_ h14_ h15_ h16_ h17_
 obtain ⟨HO251, HO257, HO260, HO_239002, HO_6, BK238, BK239, BK240, BK261, GW261, GE261, NB238_261, NB261_238, NB239_261, NB261_239, NB240_261, NB261_240, HB⟩ := n_
 have hHeld := hS_
 obtain ⟨Ao70, co70, eo70⟩ := Kd.R_slice HO260.out
 (first | subst eo70 | (injection eo70 with f1_ f2_ f3_; have f4_ := f1_.symm; have f5_ := f3_.symm; clear f1_ f2_ f3_; subst f4_; subst f5_))
 obtain ⟨Ao71, co71, eo71⟩ := Kd.R_slice HO251.out
 (first | subst eo71 | (injection eo71 with f1_ f2_ f3_; have f4_ := f1_.symm; have f5_ := f3_.symm; clear f1_ f2_ f3_; subst f4_; subst f5_))
 refine norm_ (a' := ?_) ?_ ?_
 rotate_left
 ·simp only [putAll, Act.put, List.setIfInBounds_toArray, List.set_cons_zero, List.set_cons_succ]
  rfl
 refine one_ (i := 15) (N := none) (zq 16 65535) rfl rfl (one_of HT_.out (by kernel_rfl)) (by decide) (fun K hK => ?_)
 have hs72 : w69.cell? ⟨gb261, 0, none⟩ = some (.int .i8 0) := (blk_cell BK261.out 0).trans rfl
 have hfs72 := blk_frozen BK261.out 0
 have hns72_0 := NB238_261.out
 have hns72_1 := NB239_261.out
 have hns72_2 := NB240_261.out
 have hms72_0 := NB261_238.out
 have hms72_1 := NB261_239.out
 have hms72_2 := NB261_240.out
 have hs73 : w69.cell? ⟨gb261, 1, none⟩ = some (.slice none 0 0) := (blk_cell BK261.out 1).trans rfl
 have hfs73 := blk_frozen BK261.out 1
 have hns73_0 := NB238_261.out
 have hns73_1 := NB239_261.out
 have hns73_2 := NB240_261.out
 have hms73_0 := NB261_238.out
 have hms73_1 := NB261_239.out
 have hms73_2 := NB261_240.out
 have hs74 : w69.cell? ⟨gb261, 2, none⟩ = some (.slice none 0 0) := (blk_cell BK261.out 2).trans rfl
 have hfs74 := blk_frozen BK261.out 2
 have hns74_0 := NB238_261.out
 have hns74_1 := NB239_261.out
 have hns74_2 := NB240_261.out
 have hms74_0 := NB261_238.out
 have hms74_1 := NB261_239.out
 have hms74_2 := NB261_240.out
 refine skip_ (w1 := ?_) (by rfl) rfl ?_ ?_
 rotate_left
 ·go_simp
  rfl
 refine hK.out _ _ ⟨((cell_far (p := ⟨gb261, _, none⟩) NB238_261.out _).trans (((cell_far (p := ⟨gb261, _, none⟩) NB238_261.out _).trans (((cell_far (p := ⟨gb261, _, none⟩) NB238_261.out _).trans (hHeld.1)))))), ((cell_far (p := ⟨gb261, _, none⟩) NB238_261.out _).trans (((cell_far (p := ⟨gb261, _, none⟩) NB238_261.out _).trans (((cell_far (p := ⟨gb261, _, none⟩) NB238_261.out _).trans (hHeld.2.1)))))), ((cell_far (p := ⟨gb261, _, none⟩) NB238_261.out _).trans (((cell_far (p := ⟨gb261, _, none⟩) NB238_261.out _).trans (((cell_far (p := ⟨gb261, _, none⟩) NB238_261.out _).trans (hHeld.2.2.1)))))), ((cell_far (p := ⟨gb261, _, none⟩) NB239_261.out _).trans (((cell_far (p := ⟨gb261, _, none⟩) NB239_261.out _).trans (((cell_far (p := ⟨gb261, _, none⟩) NB239_261.out _).trans (hHeld.2.2.2.1)))))), ((cell_far (p := ⟨gb261, _, none⟩) NB239_261.out _).trans (((cell_far (p := ⟨gb261, _, none⟩) NB239_261.out _).trans (((cell_far (p := ⟨gb261, _, none⟩) NB239_261.out _).trans (hHeld.2.2.2.2.1)))))), ((cell_far (p := ⟨gb261, _, none⟩) NB239_261.out _).trans (((cell_far (p := ⟨gb261, _, none⟩) NB239_261.out _).trans (((cell_far (p := ⟨gb261, _, none⟩) NB239_261.out _).trans (hHeld.2.2.2.2.2))))))⟩ (fun hHeld => ?_)
 clear hK K
 refine done_ (done_of HT_.out (by kernel_rfl)) ?_
 have hnb75 := NB239_238.out
 have hnc75 := NB238_239.out
 have hnb76 := NB239_240.out
 have hnc76 := NB240_239.out
 have hnb77 := NB239_261.out
 have hnc77 := NB261_239.out
 obtain ⟨z78_0, z78_1, z78_2, y78_0, y78_1, y78_2⟩ := zB3 BK239
 try go_wp2
 go_loopg [82] k2 (fun kq v82 w' => ∃ (x82_3 : Int) (x262001_3 : List (S81)) (u262001 : Value), v82 = .int .i64 x82_3 ∧ Aside0 (impl_BothNetworks.l1 kq x6_2 l1_1 (l1_1.length : Int) x82_3 a0_0 x262001_3 t258 = some (r1, r2, r3, r4)) ∧ Aside0 (kq ≤ k2) ∧ Aside0 (Kd.R (Kd.int .i16) 79 w' w.heap.size (fun k_ => (w.heap.size ≤ k_) ∧ some k_ ≠ ((.slice Ao70 t258.length co70) : Value).ownBlock) (.slice Ao57 x6_2.length co57) x6_2) ∧ Aside0 (Kd.V (Kd.int .i16) 79 w' w.heap.size (fun k_ => (P0_2_ k_ ∨ w.heap.size ≤ k_) ∧ some k_ ≠ ((.slice Ao57 x6_2.length co57) : Value).ownBlock ∧ some k_ ≠ (u262001 : Value).ownBlock ∧ some k_ ≠ ((.slice Ao70 t258.length co70) : Value).ownBlock ∧ k_ ≠ gb238 ∧ k_ ≠ gb239 ∧ k_ ≠ gb240 ∧ k_ ≠ gb261) (.slice A0_2 l0_2.length c0_2) l0_2) ∧ Aside0 (Kd.R k81 81 w' w.heap.size (fun k_ => (w.heap.size ≤ k_)) u262001 x262001_3) ∧ Aside0 (Kd.R (Kd.int .i16) 79 w' w.heap.size (fun k_ => (w.heap.size ≤ k_) ∧ some k_ ≠ ((.slice Ao57 x6_2.length co57) : Value).ownBlock) (.slice Ao70 t258.length co70) t258) ∧ Aside0 (w'.heap[gb238]? = some (.cells #[.int .i8 a0_0, (.slice A0_1 l0_1.length c0_1), (.slice A0_2 l0_2.length c0_2)] 31 (0, 0))) ∧ Aside0 (w'.heap[gb239]? = some (.cells #[.int .i8 a1_0, (.slice A1_1 l1_1.length c1_1), (.slice A1_2 l1_2.length c1_2)] 31 (0, 0))) ∧ Aside0 (w'.heap[gb240]? = some (.cells #[.int .i8 0, (.slice none 0 0), (.slice none 0 0)] 31 (0, 0))) ∧ Aside0 (w'.heap[gb261]? = some (.cells #[.int .i8 a0_0, u262001, (.slice Ao70 t258.length co70)] 31 (0, 0))) ∧ Aside0 (Below w.heap.size w w'))
 case atStart => exact ⟨(0), (t249), (.slice Ao71 t249.length co71), zi, H', ⟨Nat.le_refl _⟩, ⟨by (with_reducible repeat (first | apply Kd.R_alloc | apply Kd.R_drewN | apply Kd.R_drew)); exact Kd.R_mono (Kd.R_far (p := ⟨gb261, 2, none⟩) (Kd.R_far (p := ⟨gb261, 1, none⟩) (Kd.R_far (p := ⟨gb261, 0, none⟩) (Kd.R_types HO_6.out BK261.out (by decide)) (fun _ hk => hk.2) (.int .i8 a0_0)) (fun _ hk => hk.2) (.slice Ao71 t249.length co71)) (fun _ hk => hk.2) (.slice Ao70 t258.length co70)) (fun _ hk => ⟨hk.1.1, hk.1.2⟩)⟩, ⟨by (with_reducible repeat (first | apply Kd.V_alloc | apply Kd.V_drewN | apply Kd.V_drew)); exact Kd.V_mono (Kd.V_far (p := ⟨gb261, 2, none⟩) (Kd.V_far (p := ⟨gb261, 1, none⟩) (Kd.V_far (p := ⟨gb261, 0, none⟩) (Kd.V_mono HO_239002.out (fun k_ hk => (⟨hk, hk.2.2.2.2.2.2.2.2⟩ : _ ∧ k_ ≠ gb261))) (fun _ hk => hk.2) (.int .i8 a0_0)) (fun _ hk => hk.2) (.slice Ao71 t249.length co71)) (fun _ hk => hk.2) (.slice Ao70 t258.length co70)) (fun _ hk => ⟨hk.1.1, ⟨hk.1.2.2.2.2.1, ⟨hk.1.2.1, ⟨hk.1.2.2.2.1, ⟨hk.1.2.2.2.2.2.1, ⟨hk.1.2.2.2.2.2.2.1, ⟨hk.1.2.2.2.2.2.2.2.1, hk.1.2.2.2.2.2.2.2.2⟩⟩⟩⟩⟩⟩⟩)⟩, ⟨by (with_reducible repeat (first | apply Kd.R_alloc | apply Kd.R_drewN | apply Kd.R_drew)); exact Kd.R_mono (Kd.R_far (p := ⟨gb261, 2, none⟩) (Kd.R_far (p := ⟨gb261, 1, none⟩) (Kd.R_far (p := ⟨gb261, 0, none⟩) (Kd.R_types HO251.out BK261.out (by decide)) (fun _ hk => hk.2) (.int .i8 a0_0)) (fun _ hk => hk.2) (.slice Ao71 t249.length co71)) (fun _ hk => hk.2) (.slice Ao70 t258.length co70)) (fun _ hk => hk.1)⟩, ⟨by (with_reducible repeat (first | apply Kd.R_alloc | apply Kd.R_drewN | apply Kd.R_drew)); exact Kd.R_mono (Kd.R_far (p := ⟨gb261, 2, none⟩) (Kd.R_far (p := ⟨gb261, 1, none⟩) (Kd.R_far (p := ⟨gb261, 0, none⟩) (Kd.R_types HO260.out BK261.out (by decide)) (fun _ hk => hk.2) (.int .i8 a0_0)) (fun _ hk => hk.2) (.slice Ao71 t249.length co71)) (fun _ hk => hk.2) (.slice Ao70 t258.length co70)) (fun _ hk => ⟨hk.1.1, hk.1.2⟩)⟩, zf BK238 NB238_261, zf BK239 NB239_261, zf BK240 NB240_261, ⟨zp BK261⟩, zba⟩
 clear H'
 try clear c1
 try clear p2
 try clear c7
 try clear c10
 try clear c75
 try clear c76
 try clear c77
 try clear z78_0 z78_1 z78_2 y78_0 y78_1 y78_2
 obtain ⟨x82_3, x262001_3, u262001, rfl, HA, HK3, HO_6, HO_239002, HO_262001, HO_262002, BK238, BK239, BK240, BK261, HB⟩ := hrel
 cases gk with
 | zero => exact absurd HA.out (by simp [impl_BothNetworks.l1])
 | succ k3 => ?_
 have H := HA.out
 clear HA
 simp only [impl_BothNetworks.l1] at H
 by_cases c79 : x82_3 < (l1_1.length : Int)
 rotate_left
 ·rw [if_neg c79] at H
  have c79b0 : decide (x82_3 < (l1_1.length : Int)) = false := decide_eq_false c79
  clear c79
  simp only [Option.some.injEq, Prod.mk.injEq] at H
  obtain ⟨rfl, rfl, rfl, rfl⟩ := H
  have hnb96 := NB261_238.out
  have hnc96 := NB238_261.out
  have hnb97 := NB261_239.out
  have hnc97 := NB239_261.out
  have hnb98 := NB261_240.out
  have hnc98 := NB240_261.out
  obtain ⟨z99_0, z99_1, z99_2, y99_0, y99_1, y99_2⟩ := zB3 BK261
  have hnb100 := NB240_238.out
  have hnc100 := NB238_240.out
  have hnb101 := NB240_239.out
  have hnc101 := NB239_240.out
  obtain ⟨z102_0, z102_1, z102_2, y102_0, y102_1, y102_2⟩ := zB3 BK240
  obtain ⟨Ao103, co103, eo103⟩ := Kd.R_slice HO_262001.out
  subst eo103
  go_wp2
  refine bodyPost_ret (results_ct rfl _ _ gb240 31 #[.int .i8 a0_0, .slice Ao103 x262001_3.length co103, .slice Ao70 t258.length co70] (0, 0) _ rfl (zp BK240) Try.underlying31 rfl (by kernel_rfl)) rfl ?_
  exact ⟨_, _, zv, by (with_reducible repeat (first | apply Kd.R_alloc | apply Kd.R_drewN | apply Kd.R_drew)); exact Kd.R_mono (Kd.R_far (p := ⟨gb240, 2, none⟩) (Kd.R_far (p := ⟨gb240, 1, none⟩) (Kd.R_far (p := ⟨gb240, 0, none⟩) (Kd.R_types HO_262001.out BK240.out (by decide)) (fun _ hk => hk.2) (.int .i8 a0_0)) (fun _ hk => hk.2) (.slice Ao103 x262001_3.length co103)) (fun _ hk => hk.2) (.slice Ao70 t258.length co70)) (fun _ hk => hk.1), by (with_reducible repeat (first | apply Kd.R_alloc | apply Kd.R_drewN | apply Kd.R_drew)); exact Kd.R_mono (Kd.R_far (p := ⟨gb240, 2, none⟩) (Kd.R_far (p := ⟨gb240, 1, none⟩) (Kd.R_far (p := ⟨gb240, 0, none⟩) (Kd.R_types HO_262002.out BK240.out (by decide)) (fun _ hk => hk.2) (.int .i8 a0_0)) (fun _ hk => hk.2) (.slice Ao103 x262001_3.length co103)) (fun _ hk => hk.2) (.slice Ao70 t258.length co70)) (fun _ hk => hk.1.1), zbo⟩
 rw [if_pos c79] at H
 have c79b0 : decide (x82_3 < (l1_1.length : Int)) = true := decide_eq_true c79
 clear c79
 by_cases c80 : 0 ≤ x82_3
 rotate_left
 ·rw [if_neg c80] at H
  exact absurd H (by simp)
 rw [if_pos c80] at H
 have c80b0 : decide (0 ≤ x82_3) = true := decide_eq_true c80
 clear c80
 by_cases c81 : x82_3 < (l1_1.length : Int)
 rotate_left
 ·rw [if_neg c81] at H
  exact absurd H (by simp)
 rw [if_pos c81] at H
 have c81b0 : decide (x82_3 < (l1_1.length : Int)) = true := decide_eq_true c81
 clear c81
 replace H := zob H
 obtain ⟨⟨t264, t265, t266⟩, A820, H⟩ := H
 replace H : (if x262001_3.length < 23456248059221 then (impl_BothNetworks.l1 k3 x6_2 l1_1 (l1_1.length : Int) (wrap64 (x82_3 + 1)) a0_0 (x262001_3 ++ [(⟨t264, t265, t266⟩ : S81)]) t258) else (none)) = some (r1, r2, r3, r4) := H
 have A82 := Aside0.mk A820
 clear A820
 by_cases c83 : x262001_3.length < 23456248059221
 rotate_left
 ·rw [if_neg c83] at H
  exact absurd H (by simp)
 rw [if_pos c83] at H
 have LMc83 := Aside0.mk c83
 clear c83
 obtain ⟨y267, hy267⟩ : ∃ y_ : List (S81), y_ = (x262001_3 ++ [(⟨t264, t265, t266⟩ : S81)]) := ⟨_, rfl⟩
 replace H : (impl_BothNetworks.l1 k3 x6_2 l1_1 (l1_1.length : Int) (wrap64 (x82_3 + 1)) a0_0 y267 t258) = some (r1, r2, r3, r4) := by first | (rw [hy267]; with_reducible exact H) | (have H2_ := (Option.bind_some _ _).symm.trans H; rw [hy267]; with_reducible exact H2_) | (have H2_ := (Option.bind_some _ _).symm.trans H; with_reducible exact H2_) | with_reducible exact H | (rw [hy267]; exact H) | exact H
 have Ny267 := Aside0.mk hy267
 clear hy267
 have H' := Aside0.mk H
 clear H
 have p262 : 0 ≤ (x82_3 : Int) := of_decide_eq_true zA
 have q262 : x82_3 < (l1_1.length : Int) := of_decide_eq_true zA
 obtain ⟨ad262, e262, hx262_0, hx262_1, hx262_2⟩ := at_T81 HR1_1.out x82_3 p262 q262
 cases e262
 replace hx262_0 := zc HB hx262_0
 replace hx262_1 := zc HB hx262_1
 replace hx262_2 := zc HB hx262_2
 replace p262 := eq_true p262
 replace q262 := eq_true q262
 try go_wp2_with (first | ((with_reducible refine gate_dst (N := 10) rfl ?_); (try (refine gate_guard (by rfl) ?_; dsimp only)); refine zbx 10 #[.int .i8 0, .int .i16 0, .int .i16 0] 81 ?_; intro gb263 hg w84 hbox hb; have n_ : _ ∧ _ ∧ _ ∧ _ ∧ _ ∧ _ ∧ _ ∧ _ ∧ _ ∧ _ ∧ _ ∧ _ ∧ _ ∧ _ ∧ _ ∧ _ ∧ _ ∧ _ ∧ _ ∧ _ := ⟨zr HO_6 hb, Aside0.mk (Kd.V_below (Kd.V_elderB (by (with_reducible repeat (first | apply Kd.V_alloc | apply Kd.V_drewN | apply Kd.V_drew)); exact HO_239002.out) gb263 (Nat.le_of_eq hg.symm)) hb), Aside0.mk (Kd.R_below (Kd.R_elderB (ze HO_262001).out gb263 (Nat.le_of_eq hg.symm)) hb), zr HO_262002 hb, zk BK238 hb, zk BK239 hb, zk BK240 hb, zk BK261 hb, zbs hb, Aside0.mk (hbox), zg HB hg, zg HB hg, zn1 BK238 hg, zn2 BK238 hg, zn1 BK239 hg, zn2 BK239 hg, zn1 BK240 hg, zn2 BK240 hg, zn1 BK261 hg, zn2 BK261 hg⟩; clear HO_6 HO_239002 HO_262001 HO_262002 BK238 BK239 BK240 BK261 HB; obtain ⟨HO_6, HO_239002, HO_262001, HO_262002, BK238, BK239, BK240, BK261, HB, BK263, GW263, GE263, NB238_263, NB263_238, NB239_263, NB263_239, NB240_263, NB263_240, NB261_263, NB263_261⟩ := n_; clear hb hbox hg; have hnb85 := NB263_238.out; have hnc85 := NB238_263.out; have hnb86 := NB263_239.out; have hnc86 := NB239_263.out; have hnb87 := NB263_240.out; have hnc87 := NB240_263.out; have hnb88 := NB263_261.out; have hnc88 := NB261_263.out; obtain ⟨z89_0, z89_1, z89_2, y89_0, y89_1, y89_2⟩ := zB3 BK263))
 have n0_ : Aside0 (Kd.R (Kd.int .i16) 79 (((w84.setCell ⟨gb263, 0, none⟩ (.int .i8 ((rd_T81 l1_1 x82_3).f0))).setCell ⟨gb263, 1, none⟩ (.int .i16 ((rd_T81 l1_1 x82_3).f1))).setCell ⟨gb263, 2, none⟩ (.int .i16 ((rd_T81 l1_1 x82_3).f2))) w.heap.size (fun k_ => (w.heap.size ≤ k_) ∧ some k_ ≠ (.slice Ao70 t258.length co70 : Value).ownBlock) (.slice Ao57 x6_2.length co57) x6_2) := ⟨by (with_reducible repeat (first | apply Kd.R_alloc | apply Kd.R_drewN | apply Kd.R_drew)); exact Kd.R_mono (Kd.R_far (p := ⟨gb263, 2, none⟩) (Kd.R_far (p := ⟨gb263, 1, none⟩) (Kd.R_far (p := ⟨gb263, 0, none⟩) (Kd.R_types HO_6.out BK263.out (by decide)) (fun _ hk => hk.2) (.int .i8 ((rd_T81 l1_1 x82_3).f0))) (fun _ hk => hk.2) (.int .i16 ((rd_T81 l1_1 x82_3).f1))) (fun _ hk => hk.2) (.int .i16 ((rd_T81 l1_1 x82_3).f2))) (fun _ hk => ⟨hk.1.1, hk.1.2⟩)⟩
 have n1_ : Aside0 (Kd.V (Kd.int .i16) 79 (((w84.setCell ⟨gb263, 0, none⟩ (.int .i8 ((rd_T81 l1_1 x82_3).f0))).setCell ⟨gb263, 1, none⟩ (.int .i16 ((rd_T81 l1_1 x82_3).f1))).setCell ⟨gb263, 2, none⟩ (.int .i16 ((rd_T81 l1_1 x82_3).f2))) w.heap.size (fun k_ => (P0_2_ k_ ∨ w.heap.size ≤ k_) ∧ some k_ ≠ (.slice Ao57 x6_2.length co57 : Value).ownBlock ∧ some k_ ≠ (u262001 : Value).ownBlock ∧ some k_ ≠ (.slice Ao70 t258.length co70 : Value).ownBlock ∧ k_ ≠ gb238 ∧ k_ ≠ gb239 ∧ k_ ≠ gb240 ∧ k_ ≠ gb261 ∧ k_ ≠ gb263) (.slice A0_2 l0_2.length c0_2) l0_2) := ⟨by (with_reducible repeat (first | apply Kd.V_alloc | apply Kd.V_drewN | apply Kd.V_drew)); exact Kd.V_mono (Kd.V_far (p := ⟨gb263, 2, none⟩) (Kd.V_far (p := ⟨gb263, 1, none⟩) (Kd.V_far (p := ⟨gb263, 0, none⟩) (Kd.V_mono HO_239002.out (fun k_ hk => (⟨hk, hk.2⟩ : _ ∧ k_ ≠ gb263))) (fun _ hk => hk.2) (.int .i8 ((rd_T81 l1_1 x82_3).f0))) (fun _ hk => hk.2) (.int .i16 ((rd_T81 l1_1 x82_3).f1))) (fun _ hk => hk.2) (.int .i16 ((rd_T81 l1_1 x82_3).f2))) (fun _ hk => ⟨hk.1.1.1, ⟨hk.1.1.2.1, ⟨hk.1.1.2.2.1, ⟨hk.1.1.2.2.2.1, ⟨hk.1.1.2.2.2.2.1, ⟨hk.1.1.2.2.2.2.2.1, ⟨hk.1.1.2.2.2.2.2.2.1, ⟨hk.1.1.2.2.2.2.2.2.2, hk.1.2⟩⟩⟩⟩⟩⟩⟩⟩)⟩
 have n2_ : Aside0 (Kd.R k81 81 (((w84.setCell ⟨gb263, 0, none⟩ (.int .i8 ((rd_T81 l1_1 x82_3).f0))).setCell ⟨gb263, 1, none⟩ (.int .i16 ((rd_T81 l1_1 x82_3).f1))).setCell ⟨gb263, 2, none⟩ (.int .i16 ((rd_T81 l1_1 x82_3).f2))) w.heap.size (fun k_ => (w.heap.size ≤ k_) ∧ k_ ≠ gb263) u262001 x262001_3) := ⟨by (with_reducible repeat (first | apply Kd.R_alloc | apply Kd.R_drewN | apply Kd.R_drew)); exact Kd.R_mono (Kd.R_far (p := ⟨gb263, 2, none⟩) (Kd.R_far (p := ⟨gb263, 1, none⟩) (Kd.R_far (p := ⟨gb263, 0, none⟩) (Kd.R_mono HO_262001.out (fun k_ hk => (⟨hk, hk.2⟩ : _ ∧ k_ ≠ gb263))) (fun _ hk => hk.2) (.int .i8 ((rd_T81 l1_1 x82_3).f0))) (fun _ hk => hk.2) (.int .i16 ((rd_T81 l1_1 x82_3).f1))) (fun _ hk => hk.2) (.int .i16 ((rd_T81 l1_1 x82_3).f2))) (fun _ hk => ⟨hk.1.1, hk.1.2⟩)⟩
 have n3_ : Aside0 (Kd.R (Kd.int .i16) 79 (((w84.setCell ⟨gb263, 0, none⟩ (.int .i8 ((rd_T81 l1_1 x82_3).f0))).setCell ⟨gb263, 1, none⟩ (.int .i16 ((rd_T81 l1_1 x82_3).f1))).setCell ⟨gb263, 2, none⟩ (.int .i16 ((rd_T81 l1_1 x82_3).f2))) w.heap.size (fun k_ => (w.heap.size ≤ k_) ∧ some k_ ≠ (.slice Ao57 x6_2.length co57 : Value).ownBlock) (.slice Ao70 t258.length co70) t258) := ⟨by (with_reducible repeat (first | apply Kd.R_alloc | apply Kd.R_drewN | apply Kd.R_drew)); exact Kd.R_mono (Kd.R_far (p := ⟨gb263, 2, none⟩) (Kd.R_far (p := ⟨gb263, 1, none⟩) (Kd.R_far (p := ⟨gb263, 0, none⟩) (Kd.R_types HO_262002.out BK263.out (by decide)) (fun _ hk => hk.2) (.int .i8 ((rd_T81 l1_1 x82_3).f0))) (fun _ hk => hk.2) (.int .i16 ((rd_T81 l1_1 x82_3).f1))) (fun _ hk => hk.2) (.int .i16 ((rd_T81 l1_1 x82_3).f2))) (fun _ hk => ⟨hk.1.1, hk.1.2⟩)⟩
 have n4_ : Aside0 ((((w84.setCell ⟨gb263, 0, none⟩ (.int .i8 ((rd_T81 l1_1 x82_3).f0))).setCell ⟨gb263, 1, none⟩ (.int .i16 ((rd_T81 l1_1 x82_3).f1))).setCell ⟨gb263, 2, none⟩ (.int .i16 ((rd_T81 l1_1 x82_3).f2))).heap[gb238]? = some (.cells #[.int .i8 a0_0, .slice A0_1 l0_1.length c0_1, .slice A0_2 l0_2.length c0_2] 31 (0, 0))) := zf BK238 NB238_263
 have n5_ : Aside0 ((((w84.setCell ⟨gb263, 0, none⟩ (.int .i8 ((rd_T81 l1_1 x82_3).f0))).setCell ⟨gb263, 1, none⟩ (.int .i16 ((rd_T81 l1_1 x82_3).f1))).setCell ⟨gb263, 2, none⟩ (.int .i16 ((rd_T81 l1_1 x82_3).f2))).heap[gb239]? = some (.cells #[.int .i8 a1_0, .slice (some ad262) l1_1.length c1_1, .slice A1_2 l1_2.length c1_2] 31 (0, 0))) := zf BK239 NB239_263
 have n6_ : Aside0 ((((w84.setCell ⟨gb263, 0, none⟩ (.int .i8 ((rd_T81 l1_1 x82_3).f0))).setCell ⟨gb263, 1, none⟩ (.int .i16 ((rd_T81 l1_1 x82_3).f1))).setCell ⟨gb263, 2, none⟩ (.int .i16 ((rd_T81 l1_1 x82_3).f2))).heap[gb240]? = some (.cells #[.int .i8 0, .slice none 0 0, .slice none 0 0] 31 (0, 0))) := zf BK240 NB240_263
 have n7_ : Aside0 ((((w84.setCell ⟨gb263, 0, none⟩ (.int .i8 ((rd_T81 l1_1 x82_3).f0))).setCell ⟨gb263, 1, none⟩ (.int .i16 ((rd_T81 l1_1 x82_3).f1))).setCell ⟨gb263, 2, none⟩ (.int .i16 ((rd_T81 l1_1 x82_3).f2))).heap[gb261]? = some (.cells #[.int .i8 a0_0, u262001, .slice Ao70 t258.length co70] 31 (0, 0))) := zf BK261 NB261_263
 have n8_ : Aside0 ((((w84.setCell ⟨gb263, 0, none⟩ (.int .i8 ((rd_T81 l1_1 x82_3).f0))).setCell ⟨gb263, 1, none⟩ (.int .i16 ((rd_T81 l1_1 x82_3).f1))).setCell ⟨gb263, 2, none⟩ (.int .i16 ((rd_T81 l1_1 x82_3).f2))).heap[gb263]? = some (.cells #[.int .i8 ((rd_T81 l1_1 x82_3).f0), .int .i16 ((rd_T81 l1_1 x82_3).f1), .int .i16 ((rd_T81 l1_1 x82_3).f2)] 81 (0, 0))) := ⟨zp BK263⟩
 have n9_ : Aside0 (Below w.heap.size w (((w84.setCell ⟨gb263, 0, none⟩ (.int .i8 ((rd_T81 l1_1 x82_3).f0))).setCell ⟨gb263, 1, none⟩ (.int .i16 ((rd_T81 l1_1 x82_3).f1))).setCell ⟨gb263, 2, none⟩ (.int .i16 ((rd_T81 l1_1 x82_3).f2)))) := zba
 (try clear HO_6)
 (try clear HO_239002)
 (try clear HO_262001)
 (try clear HO_262002)
 (try clear BK238)
 (try clear BK239)
 (try clear BK240)
 (try clear BK261)
 (try clear BK263)
 (try clear HB)
 generalize (((w84.setCell ⟨gb263, 0, none⟩ (.int .i8 ((rd_T81 l1_1 x82_3).f0))).setCell ⟨gb263, 1, none⟩ (.int .i16 ((rd_T81 l1_1 x82_3).f1))).setCell ⟨gb263, 2, none⟩ (.int .i16 ((rd_T81 l1_1 x82_3).f2))) = w90 at n0_ n1_ n2_ n3_ n4_ n5_ n6_ n7_ n8_ n9_ ⊢
 have HO_6 := n0_
 have HO_239002 := n1_
 have HO_262001 := n2_
 have HO_262002 := n3_
 have BK238 := n4_
 have BK239 := n5_
 have BK240 := n6_
 have BK261 := n7_
 have BK263 := n8_
 have HB := n9_
 clear n0_ n1_ n2_ n3_ n4_ n5_ n6_ n7_ n8_ n9_
 have n_ : _ ∧ _ ∧ _ ∧ _ ∧ _ ∧ _ ∧ _ ∧ _ ∧ _ ∧ _ := ⟨Aside0.mk (Kd.R_drew HO_6.out), Aside0.mk (Kd.V_drew HO_239002.out), Aside0.mk (Kd.R_drew HO_262001.out), Aside0.mk (Kd.R_drew HO_262002.out), Aside0.mk (blk_drew BK238.out), Aside0.mk (blk_drew BK239.out), Aside0.mk (blk_drew BK240.out), Aside0.mk (blk_drew BK261.out), Aside0.mk (blk_drew BK263.out), Aside0.mk (below_drew1 HB.out)⟩
 clear HO_6 HO_239002 HO_262001 HO_262002 BK238 BK239 BK240 BK261 BK263 HB
 obtain ⟨HO_6, HO_239002, HO_262001, HO_262002, BK238, BK239, BK240, BK261, BK263, HB⟩ := n_
 refine start_ (n := 9) (S := fun w' => w'.cell? ⟨gb261, 0, none⟩ = some (.int .i8 a0_0) ∧ w'.cell? ⟨gb261, 1, none⟩ = some (u262001) ∧ w'.cell? ⟨gb261, 2, none⟩ = some (.slice Ao70 t258.length co70) ∧ w'.cell? ⟨gb263, 0, none⟩ = some (.int .i8 ((rd_T81 l1_1 x82_3).f0)) ∧ w'.cell? ⟨gb263, 1, none⟩ = some (.int .i16 ((rd_T81 l1_1 x82_3).f1)) ∧ w'.cell? ⟨gb263, 2, none⟩ = some (.int .i16 ((rd_T81 l1_1 x82_3).f2))) (ds := [8]) (zq 9 0) (by kernel_rfl) rfl rfl ⟨(blk_cell BK261.out 0).trans rfl, (blk_cell BK261.out 1).trans rfl, (blk_cell BK261.out 2).trans rfl, (blk_cell BK263.out 0).trans rfl, (blk_cell BK263.out 1).trans rfl, (blk_cell BK263.out 2).trans rfl⟩ (fun hHeld => ?_); refine with_tabW impl_BothNetworks.tab17 impl_BothNetworks.bits17 (fun HT_ HW_ => ?_)
 generalize w90.drew = w91 at HO_6 HO_239002 HO_262001 HO_262002 BK238 BK239 BK240 BK261 BK263 HB hHeld ⊢
 refine zpu 0 (some 86) (zq 9 1) HT_ ?_
 refine zpu 3 (some 89) (zq 9 9) HT_ ?_
 refine ztk 1 (some 87) (zq 9 11) HT_ HW_ rfl hHeld (Or.inl ⟨by rfl, by (rintro w' ⟨s0, s1, s2, s3, s4, s5⟩; go_simp; with_reducible rfl)⟩) ?_
 refine ztk 2 (some 88) (zq 9 15) HT_ HW_ rfl hHeld (Or.inl ⟨by rfl, by (rintro w' ⟨s0, s1, s2, s3, s4, s5⟩; go_simp; with_reducible rfl)⟩) ?_
 refine one_ (i := 4) (N := some 90) (zq 9 31) rfl rfl (one_of HT_.out (by kernel_rfl)) (by decide) (fun K hK => ?_)
 refine goes_ Try.func107 (by kernel_rfl) rfl #[.agg #[.int .i8 ((rd_T81 l1_1 x82_3).f0), .int .i16 ((rd_T81 l1_1 x82_3).f1), .int .i16 ((rd_T81 l1_1 x82_3).f2)], .slice Ao57 x6_2.length co57] (by rfl) rfl rfl zm ?_
 with_reducible refine (impl_Node_renamed.calls ((rd_T81 l1_1 x82_3).f0) ((rd_T81 l1_1 x82_3).f1) ((rd_T81 l1_1 x82_3).f2) _ _ x6_2 t264 t265 t266 _ ?side1 ?side2 A82.out).mono ?_
 (case side1 => exact zrc HO_6)
 (case side2 => exact (Kd.R_reads' HO_6.out).2.1)
 rintro e w92 ⟨rfl, hb⟩
 refine ⟨_, rfl, ?_⟩
 have n_ : _ ∧ _ ∧ _ ∧ _ ∧ _ ∧ _ ∧ _ ∧ _ ∧ _ ∧ _ := ⟨zr HO_6 hb, Aside0.mk (Kd.V_below (by (with_reducible repeat (first | apply Kd.V_alloc | apply Kd.V_drewN | apply Kd.V_drew)); exact HO_239002.out) hb), zr HO_262001 hb, zr HO_262002 hb, zk BK238 hb, zk BK239 hb, zk BK240 hb, zk BK261 hb, zk BK263 hb, zbs hb⟩
 clear HO_6 HO_239002 HO_262001 HO_262002 BK238 BK239 BK240 BK261 BK263 HB
 obtain ⟨HO_6, HO_239002, HO_262001, HO_262002, BK238, BK239, BK240, BK261, BK263, HB⟩ := n_
 (try clear hb)
 (try clear hb2)
 (try clear hk)
 (try clear hi)
 refine hK.out _ _ ⟨(blk_cell BK261.out 0).trans rfl, (blk_cell BK261.out 1).trans rfl, (blk_cell BK261.out 2).trans rfl, (blk_cell BK263.out 0).trans rfl, (blk_cell BK263.out 1).trans rfl, (blk_cell BK263.out 2).trans rfl⟩ (fun hHeld => ?_)
 clear hK K
 refine norm_ (a' := ?_) ?_ ?_
 rotate_left
 ·show Act.put _ (some 90) _ = _
  exact zap
 refine one_ (i := 5) (N := some 91) (zq 9 63) rfl rfl (one_of HT_.out (by kernel_rfl)) (by decide) (fun K hK => ?_)
 refine value_ (w1 := ?_) (v := ?_) (by rfl) rfl ?_ ?_
 rotate_left 2
 ·go_simp
  constructor
  rotate_left
  ·rfl
  rfl
 refine hK.out _ _ ⟨(blk_cell (blk_alloc BK261.out _) 0).trans rfl, (blk_cell (blk_alloc BK261.out _) 1).trans rfl, (blk_cell (blk_alloc BK261.out _) 2).trans rfl, (blk_cell (blk_alloc BK263.out _) 0).trans rfl, (blk_cell (blk_alloc BK263.out _) 1).trans rfl, (blk_cell (blk_alloc BK263.out _) 2).trans rfl⟩ (fun hHeld => ?_)
 clear hK K
 refine norm_ (a' := ?_) ?_ ?_
 rotate_left
 ·show Act.put _ (some 91) _ = _
  exact zap
 refine one_ (i := 6) (N := some 92) (zq 9 127) rfl rfl (one_of HT_.out (by kernel_rfl)) (by decide) (fun K hK => ?_)
 refine Kd.R_append_step k81 (w0 := w) w.heap.size (by rfl) (.tmp 87) (.tmp 91) 29 81 (.agg #[(.int .i8 0), (.int .i16 0), (.int .i16 0)]) 6 rfl Try.underlying29 info81 rfl (by decide) (by omega) u262001 x262001_3 (⟨t264, t265, t266⟩ : S81) [.int .i8 t264, .int .i16 t265, .int .i16 t266] (fun k_ => (w.heap.size ≤ k_) ∧ k_ ≠ gb263) (fun _ => False) rfl rfl ?aP (fun _ hk => hk.elim) ?aF ?aO ?aB ?aS ?aL ?_
 (case aP => exact k81_mkM _ _ _ (⟨t264, t265, t266⟩ : S81))
 (case aB => exact zbo)
 (case aF => exact (fun k_ hk => ⟨(Nat.le_trans (zz HB) hk), Kd.freshB (g := gb263) (o := .cells #[.int .i8 ((rd_T81 l1_1 x82_3).f0), .int .i16 ((rd_T81 l1_1 x82_3).f1), .int .i16 ((rd_T81 l1_1 x82_3).f2)] 81 (0, 0)) (zh BK263).out k_ hk⟩))
 (case aO => exact (ze HO_262001).out)
 (case aS => exact (zz HB))
 (case aL => have := LMc83.out; omega)
 intro v268 w93 ho hb hg hat
 rw [← Ny267.out] at ho
 have n_ : _ ∧ _ ∧ _ ∧ _ ∧ _ ∧ _ ∧ _ ∧ _ ∧ _ ∧ _ := ⟨Aside0.mk (Kd.R_over' (ze HO_6).out (Kd.R_typed (ze HO_262001).out) (by decide) hg), Aside0.mk (Kd.V_afterv (ok := (fun k_ => (P0_2_ k_ ∨ w.heap.size ≤ k_) ∧ some k_ ≠ (.slice Ao57 x6_2.length co57 : Value).ownBlock ∧ some k_ ≠ (.slice Ao70 t258.length co70 : Value).ownBlock ∧ k_ ≠ gb238 ∧ k_ ≠ gb239 ∧ k_ ≠ gb240 ∧ k_ ≠ gb261 ∧ k_ ≠ gb263)) (by (with_reducible repeat (first | apply Kd.V_alloc | apply Kd.V_drewN | apply Kd.V_drew)); exact Kd.V_mono HO_239002.out (fun _ hk => ⟨⟨hk.1, ⟨hk.2.1, ⟨hk.2.2.2.1, ⟨hk.2.2.2.2.1, ⟨hk.2.2.2.2.2.1, ⟨hk.2.2.2.2.2.2.1, ⟨hk.2.2.2.2.2.2.2.1, hk.2.2.2.2.2.2.2.2⟩⟩⟩⟩⟩⟩⟩, hk.2.2.1⟩)) hg hat), Aside0.mk (Kd.R_over' (ze HO_262002).out (Kd.R_typed (ze HO_262001).out) (by decide) hg), Aside0.mk (blk_grown (g := gb238) (o := .cells #[.int .i8 a0_0, .slice A0_1 l0_1.length c0_1, .slice A0_2 l0_2.length c0_2] 31 (0, 0)) (zh BK238).out hg (Kd.R_ne HO_262001.out BK238.out (by decide))), Aside0.mk (blk_grown (g := gb239) (o := .cells #[.int .i8 a1_0, .slice (some ad262) l1_1.length c1_1, .slice A1_2 l1_2.length c1_2] 31 (0, 0)) (zh BK239).out hg (Kd.R_ne HO_262001.out BK239.out (by decide))), Aside0.mk (blk_grown (g := gb240) (o := .cells #[.int .i8 0, .slice none 0 0, .slice none 0 0] 31 (0, 0)) (zh BK240).out hg (Kd.R_ne HO_262001.out BK240.out (by decide))), Aside0.mk (blk_grown (g := gb261) (o := .cells #[.int .i8 a0_0, u262001, .slice Ao70 t258.length co70] 31 (0, 0)) (zh BK261).out hg (Kd.R_ne HO_262001.out BK261.out (by decide))), Aside0.mk (blk_grown (g := gb263) (o := .cells #[.int .i8 ((rd_T81 l1_1 x82_3).f0), .int .i16 ((rd_T81 l1_1 x82_3).f1), .int .i16 ((rd_T81 l1_1 x82_3).f2)] 81 (0, 0)) (zh BK263).out hg (Kd.R_away HO_262001.out (fun _ hk => hk.2))), Aside0.mk (hb), Aside0.mk (ho)⟩
 clear HO_6 HO_239002 HO_262002 BK238 BK239 BK240 BK261 BK263 HB HO_262001
 obtain ⟨HO_6, HO_239002, HO_262002, BK238, BK239, BK240, BK261, BK263, HB, HO269⟩ := n_
 clear ho hb hg hat
 obtain ⟨Ao94, co94, eo94⟩ := Kd.R_slice HO269.out
 (first | subst eo94 | (injection eo94 with f1_ f2_ f3_; have f4_ := f1_.symm; have f5_ := f3_.symm; clear f1_ f2_ f3_; subst f4_; subst f5_))
 refine hK.out _ _ ⟨(blk_cell BK261.out 0).trans rfl, (blk_cell BK261.out 1).trans rfl, (blk_cell BK261.out 2).trans rfl, (blk_cell BK263.out 0).trans rfl, (blk_cell BK263.out 1).trans rfl, (blk_cell BK263.out 2).trans rfl⟩ (fun hHeld => ?_)
 clear hK K
 refine norm_ (a' := ?_) ?_ ?_
 rotate_left
 ·show Act.put _ (some 92) _ = _
  exact zap
 refine zpu 7 (some 93) (zq 9 255) HT_ ?_
 refine last_ (i := 8) (N := none) (zq 9 511) rfl rfl (one_of HT_.out (by kernel_rfl)) (by decide) (fun K hK => ?_)
 have hs95 : w93.cell? ⟨gb261, 1, none⟩ = some (u262001) := (blk_cell BK261.out 1).trans rfl
 have hfs95 := blk_frozen BK261.out 1
 have hns95_0 := NB238_261.out
 have hns95_1 := NB239_261.out
 have hns95_2 := NB240_261.out
 have hns95_4 := NB263_261.out
 have hms95_0 := NB261_238.out
 have hms95_1 := NB261_239.out
 have hms95_2 := NB261_240.out
 have hms95_4 := NB261_263.out
 refine skip_ (w1 := ?_) (by rfl) rfl ?_ ?_
 rotate_left
 ·go_simp
  rfl
 refine hK.out _ _ ?_
 clear hK K
 refine done_ (done_of HT_.out (by kernel_rfl)) ?_
 try go_wp2
 go_roundg k3
 case measure => have := HJ2.out; have := HK2.out; have := HK3.out; omega
 case rel => exact ⟨(wrap64 (x82_3 + 1)), (y267), (.slice Ao94 y267.length co94), zi, H', ⟨by have := HJ2.out; have := HK2.out; have := HK3.out; omega⟩, ⟨by (with_reducible repeat (first | apply Kd.R_alloc | apply Kd.R_drewN | apply Kd.R_drew)); exact Kd.R_mono (Kd.R_far (p := ⟨gb261, 1, none⟩) (Kd.R_types HO_6.out BK261.out (by decide)) (fun _ hk => hk.2) (.slice Ao94 y267.length co94)) (fun _ hk => ⟨hk.1.1, hk.1.2⟩)⟩, ⟨by (with_reducible repeat (first | apply Kd.V_alloc | apply Kd.V_drewN | apply Kd.V_drew)); exact Kd.V_mono (Kd.V_far (p := ⟨gb261, 1, none⟩) (Kd.V_mono HO_239002.out (fun k_ hk => (⟨hk, hk.1.2.2.2.2.2.2.1⟩ : _ ∧ k_ ≠ gb261))) (fun _ hk => hk.2) (.slice Ao94 y267.length co94)) (fun _ hk => ⟨hk.1.1.1, ⟨hk.1.1.2.1, ⟨hk.1.2, ⟨hk.1.1.2.2.1, ⟨hk.1.1.2.2.2.1, ⟨hk.1.1.2.2.2.2.1, ⟨hk.1.1.2.2.2.2.2.1, hk.1.1.2.2.2.2.2.2.1⟩⟩⟩⟩⟩⟩⟩)⟩, ⟨by (with_reducible repeat (first | apply Kd.R_alloc | apply Kd.R_drewN | apply Kd.R_drew)); exact Kd.R_mono (Kd.R_far (p := ⟨gb261, 1, none⟩) (Kd.R_types HO269.out BK261.out (by decide)) (fun _ hk => hk.2) (.slice Ao94 y267.length co94)) (fun _ hk => hk.1.1)⟩, ⟨by (with_reducible repeat (first | apply Kd.R_alloc | apply Kd.R_drewN | apply Kd.R_drew)); exact Kd.R_mono (Kd.R_far (p := ⟨gb261, 1, none⟩) (Kd.R_types HO_262002.out BK261.out (by decide)) (fun _ hk => hk.2) (.slice Ao94 y267.length co94)) (fun _ hk => ⟨hk.1.1, hk.1.2⟩)⟩, zf BK238 NB238_261, zf BK239 NB239_261, zf BK240 NB240_261, ⟨zp BK261⟩, zba⟩
end Go.Proofs.Ytmpmanfoiocfgaa.PFnExactBothNetworks
