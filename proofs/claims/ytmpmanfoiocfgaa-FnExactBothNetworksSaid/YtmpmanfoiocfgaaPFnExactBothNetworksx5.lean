-- WRITTEN by xprint.py, a program of this session's. Not trusted: Lean checks it.
-- packed by pack.py
import Derived.Test.YtmpmanfoiocfgaaPFnExactBothNetworksx0
import Derived.Test.YtmpmanfoiocfgaaPFnExactBothNetworksx4
import Derived.Test.YtmpmanfoiocfgaaTFnExactBothNetworksa
namespace Go.Proofs.Ytmpmanfoiocfgaa.PFnExactBothNetworks
open Go.RowKit Go.Proofs.YtmpmanfoiocfgaaW.PrintWords Go.Proofs.YtmpmanfoiocfgaaW.PrintLast Go.Proofs.YtmpmanfoiocfgaaW.PrintMore Go.Proofs.YtmpmanfoiocfgaaX
attribute [local go_sem] max2_int min2_int max_two min_two max_three min_three max_four min_four   -- for this text's walks alone
set_option maxHeartbeats 8000000
set_option maxRecDepth 100000
set_option linter.unusedVariables false
set_option linter.unusedSimpArgs false

mutual
def spec_BothNetworks.j0 : Nat → Bool → Int → List (S81) → List Int → Int → List (S81) → List Int → Option (Int × (List (S81)) × List Int × Int)
  | 0, _, _, _, _, _, _, _ => none
  | k + 1, x16, x175000, x175001, x175002, x176000, x176001, x176002 => if x16 = true then (some (0, ([] : List (S81)), ([] : List Int), 1)) else (if x175000 = x176000 then (if (wrap64 ((x175001.length : Int) + (x176001.length : Int))) > 80 then (spec_BothNetworks.j1 k true x175000 x175001 x175002 x176000 x176001 x176002) else (spec_BothNetworks.j1 k (decide ((wrap64 ((x175002.length : Int) + (x176002.length : Int))) > 8)) x175000 x175001 x175002 x176000 x176001 x176002)) else (some (0, ([] : List (S81)), ([] : List Int), 4)))
def spec_BothNetworks.j1 : Nat → Bool → Int → List (S81) → List Int → Int → List (S81) → List Int → Option (Int × (List (S81)) × List Int × Int)
  | 0, _, _, _, _, _, _, _ => none
  | k + 1, x41, x175000, x175001, x175002, x176000, x176001, x176002 => if x41 = true then (some (0, ([] : List (S81)), ([] : List Int), 3)) else ((some (([] : List (S81)) : List (S81))).bind fun y179 => (if y179.length + x175001.length < 23456248059221 then ((some (([] : List Int) : List Int)).bind fun y185 => (if y185.length + x175002.length < 70368744177664 then (spec_BothNetworks.l0 k (IntKind.i16.wrap ((x175001.length : Int))) 0 x176000 x176001 x176002 x175000 (y179 ++ x175001) (y185 ++ x175002)) else (none))) else (none)))
def spec_BothNetworks.l0 : Nat → Int → Int → Int → List (S81) → List Int → Int → List (S81) → List Int → Option (Int × (List (S81)) × List Int × Int)
  | 0, _, _, _, _, _, _, _, _ => none
  | k + 1, x6, x8, x176000, x176001, x176002, x192000, x192001, x192002 => if x8 < (x176001.length : Int) then (if 0 ≤ x8 then (if ((rd_T81 x176001 x8).f0) ≥ 2 then (if x192001.length < 23456248059221 then (spec_BothNetworks.l0 k x6 (wrap64 (x8 + 1)) x176000 x176001 x176002 x192000 (x192001 ++ [(⟨(rd_T81 x176001 x8).f0, IntKind.i16.wrap (((rd_T81 x176001 x8).f1) + x6), IntKind.i16.wrap (((rd_T81 x176001 x8).f2) + x6)⟩ : S81)]) x192002) else (none)) else (if x192001.length < 23456248059221 then (spec_BothNetworks.l0 k x6 (wrap64 (x8 + 1)) x176000 x176001 x176002 x192000 (x192001 ++ [(⟨(rd_T81 x176001 x8).f0, (rd_T81 x176001 x8).f1, (rd_T81 x176001 x8).f2⟩ : S81)]) x192002) else (none))) else (none)) else (spec_BothNetworks.l1 k x6 0 x176000 x176001 x176002 x192000 x192001 x192002)
def spec_BothNetworks.l1 : Nat → Int → Int → Int → List (S81) → List Int → Int → List (S81) → List Int → Option (Int × (List (S81)) × List Int × Int)
  | 0, _, _, _, _, _, _, _, _ => none
  | k + 1, x6, x10, x176000, x176001, x176002, x192000, x192001, x192002 => if x10 < (x176002.length : Int) then (if 0 ≤ x10 then (if x192002.length < 70368744177664 then (spec_BothNetworks.l1 k x6 (wrap64 (x10 + 1)) x176000 x176001 x176002 x192000 x192001 (x192002 ++ [IntKind.i16.wrap ((rd x176002 x10) + x6)])) else (none)) else (none)) else (some (x192000, x192001, x192002, 0))
end
def spec_BothNetworks.f (k : Nat) (a0_0 : Int) (l0_1 : List (S81)) (l0_2 : List Int) (a1_0 : Int) (l1_1 : List (S81)) (l1_2 : List Int) : Option (Int × (List (S81)) × List Int × Int) := (spec_l04Ok.f k [(⟨a0_0, l0_1, l0_2⟩ : S31)]).bind fun t177 => (if t177 = true then ((spec_l04Ok.f k [(⟨a1_0, l1_1, l1_2⟩ : S31)]).bind fun t178 => (spec_BothNetworks.j0 k (!t178) a0_0 l0_1 l0_2 a1_0 l1_1 l1_2)) else (spec_BothNetworks.j0 k true a0_0 l0_1 l0_2 a1_0 l1_1 l1_2))
theorem spec_BothNetworks.mono_l : ∀ k, (∀ y0 y1 y2 y3 y4 y5 y6, LeO (spec_BothNetworks.j0 k y0 y1 y2 y3 y4 y5 y6) (spec_BothNetworks.j0 (k + 1) y0 y1 y2 y3 y4 y5 y6)) ∧ (∀ y0 y1 y2 y3 y4 y5 y6, LeO (spec_BothNetworks.j1 k y0 y1 y2 y3 y4 y5 y6) (spec_BothNetworks.j1 (k + 1) y0 y1 y2 y3 y4 y5 y6)) ∧ (∀ y0 y1 y2 y3 y4 y5 y6 y7, LeO (spec_BothNetworks.l0 k y0 y1 y2 y3 y4 y5 y6 y7) (spec_BothNetworks.l0 (k + 1) y0 y1 y2 y3 y4 y5 y6 y7)) ∧ (∀ y0 y1 y2 y3 y4 y5 y6 y7, LeO (spec_BothNetworks.l1 k y0 y1 y2 y3 y4 y5 y6 y7) (spec_BothNetworks.l1 (k + 1) y0 y1 y2 y3 y4 y5 y6 y7))
  | 0 => ⟨fun _ _ _ _ _ _ _ r h => by simp [spec_BothNetworks.j0] at h, fun _ _ _ _ _ _ _ r h => by simp [spec_BothNetworks.j1] at h, fun _ _ _ _ _ _ _ _ r h => by simp [spec_BothNetworks.l0] at h, fun _ _ _ _ _ _ _ _ r h => by simp [spec_BothNetworks.l1] at h⟩
  | k + 1 => by
    obtain ⟨ih0, ih1, ih2, ih3⟩ := spec_BothNetworks.mono_l k
    refine ⟨?_, ?_, ?_, ?_⟩
    · intro y0 y1 y2 y3 y4 y5 y6
      unfold spec_BothNetworks.j0
      repeat' first | (with_reducible first | apply ih0 | apply ih1 | apply ih2 | apply ih3 | apply spec_l04Ok.mono | exact LeO.refl _ | exact LeO.none _ | refine LeO.ite ?_ ?_ | refine LeO.bind ?_ (fun _ => ?_)) | apply ih0 | apply ih1 | apply ih2 | apply ih3 | apply spec_l04Ok.mono | exact LeO.none _ | refine LeO.ite ?_ ?_ | refine LeO.bind ?_ (fun _ => ?_)
    · intro y0 y1 y2 y3 y4 y5 y6
      unfold spec_BothNetworks.j1
      repeat' first | (with_reducible first | apply ih0 | apply ih1 | apply ih2 | apply ih3 | apply spec_l04Ok.mono | exact LeO.refl _ | exact LeO.none _ | refine LeO.ite ?_ ?_ | refine LeO.bind ?_ (fun _ => ?_)) | apply ih0 | apply ih1 | apply ih2 | apply ih3 | apply spec_l04Ok.mono | exact LeO.none _ | refine LeO.ite ?_ ?_ | refine LeO.bind ?_ (fun _ => ?_)
    · intro y0 y1 y2 y3 y4 y5 y6 y7
      unfold spec_BothNetworks.l0
      repeat' first | (with_reducible first | apply ih0 | apply ih1 | apply ih2 | apply ih3 | apply spec_l04Ok.mono | exact LeO.refl _ | exact LeO.none _ | refine LeO.ite ?_ ?_ | refine LeO.bind ?_ (fun _ => ?_)) | apply ih0 | apply ih1 | apply ih2 | apply ih3 | apply spec_l04Ok.mono | exact LeO.none _ | refine LeO.ite ?_ ?_ | refine LeO.bind ?_ (fun _ => ?_)
    · intro y0 y1 y2 y3 y4 y5 y6 y7
      unfold spec_BothNetworks.l1
      repeat' first | (with_reducible first | apply ih0 | apply ih1 | apply ih2 | apply ih3 | apply spec_l04Ok.mono | exact LeO.refl _ | exact LeO.none _ | refine LeO.ite ?_ ?_ | refine LeO.bind ?_ (fun _ => ?_)) | apply ih0 | apply ih1 | apply ih2 | apply ih3 | apply spec_l04Ok.mono | exact LeO.none _ | refine LeO.ite ?_ ?_ | refine LeO.bind ?_ (fun _ => ?_)
theorem spec_BothNetworks.mono : ∀ a0 a1 a2 a3 a4 a5 k, LeO (spec_BothNetworks.f k a0 a1 a2 a3 a4 a5) (spec_BothNetworks.f (k + 1) a0 a1 a2 a3 a4 a5) := by
 intro a0 a1 a2 a3 a4 a5 k
 obtain ⟨ih0, ih1, ih2, ih3⟩ := spec_BothNetworks.mono_l k
 unfold spec_BothNetworks.f
 repeat' first | (with_reducible first | apply ih0 | apply ih1 | apply ih2 | apply ih3 | apply spec_l04Ok.mono | exact LeO.refl _ | exact LeO.none _ | refine LeO.ite ?_ ?_ | refine LeO.bind ?_ (fun _ => ?_)) | apply ih0 | apply ih1 | apply ih2 | apply ih3 | apply spec_l04Ok.mono | exact LeO.none _ | refine LeO.ite ?_ ?_ | refine LeO.bind ?_ (fun _ => ?_)
def spec_BothNetworks.T8 : Bool × List (List Nat × List Nat) := (true, [([], []), ([0], [0]), ([], []), ([], []), ([3], [3]), ([2, 4], [2, 4]), ([], []), ([], []), ([7], [7]), ([6, 8, 5], [6, 8]), ([1, 5, 9], [1, 5, 9]), ([], []), ([11, 10, 9, 0, 1, 2, 3, 4, 5, 6, 7, 8, 9, 10, 11], [10, 11])])
def spec_BothNetworks.B8 : List Nat := [0, 1, 0, 0, 8, 28, 0, 0, 128, 508, 1023, 0, 4095]
theorem spec_BothNetworks.tab8 : rtab .any (opsOf Try.f56 8) = spec_BothNetworks.T8 := by kernel_rfl
theorem spec_BothNetworks.bits8 : waitsOk spec_BothNetworks.T8.2 spec_BothNetworks.B8 = true := by kernel_rfl
def spec_BothNetworks.T20 : Bool × List (List Nat × List Nat) := (true, [([], []), ([0], [0]), ([], []), ([2], [2]), ([], []), ([3, 4], [3, 4]), ([5], [5]), ([], []), ([6, 7], [6, 7]), ([8], [8]), ([1, 9], [1, 9]), ([0, 1, 2, 3, 4, 5, 6, 7, 8, 9, 10], []), ([11, 10, 10, 0, 1, 2, 3, 4, 5, 6, 7, 8, 9, 10], [10, 11])])
def spec_BothNetworks.B20 : List Nat := [0, 1, 0, 4, 0, 28, 60, 0, 252, 508, 1023, 2047, 4095]
theorem spec_BothNetworks.tab20 : rtab .any (opsOf Try.f56 20) = spec_BothNetworks.T20 := by kernel_rfl
theorem spec_BothNetworks.bits20 : waitsOk spec_BothNetworks.T20.2 spec_BothNetworks.B20 = true := by kernel_rfl
theorem spec_BothNetworks.calls (k : Nat) (a0_0 : Int) (A0_1 : Option Addr) (c0_1 : Nat) (l0_1 : List (S81)) (A0_2 : Option Addr) (c0_2 : Nat) (l0_2 : List Int) (a1_0 : Int) (A1_1 : Option Addr) (c1_1 : Nat) (l1_1 : List (S81)) (A1_2 : Option Addr) (c1_2 : Nat) (l1_2 : List Int) (r1 : Int) (r2 : List (S81)) (r3 : List Int) (r4 : Int) (w : World) (hr0_1 : Kd.C k81 w A0_1 l0_1.length l0_1) (hc0_1 : l0_1.length ≤ c0_1) (hr0_2 : Kd.C (Kd.int .i16) w A0_2 l0_2.length l0_2) (hc0_2 : l0_2.length ≤ c0_2) (hr1_1 : Kd.C k81 w A1_1 l1_1.length l1_1) (hc1_1 : l1_1.length ≤ c1_1) (hr1_2 : Kd.C (Kd.int .i16) w A1_2 l1_2.length l1_2) (hc1_2 : l1_2.length ≤ c1_2) (h : spec_BothNetworks.f k a0_0 l0_1 l0_2 a1_0 l1_1 l1_2 = some (r1, r2, r3, r4)) :
    Calls Try.prog 56 #[.agg #[.int .i8 a0_0, .slice A0_1 l0_1.length c0_1, .slice A0_2 l0_2.length c0_2], .agg #[.int .i8 a1_0, .slice A1_1 l1_1.length c1_1, .slice A1_2 l1_2.length c1_2]] w fun e w' => ∃ v1_ v2_ : Value, e = .returned (.tuple #[.agg #[.int .i8 r1, v1_, v2_], .int .i64 r4]) ∧ Kd.R k81 81 w' w.heap.size (fun _ => True) v1_ r2 ∧ Kd.R (Kd.int .i16) 79 w' w.heap.size (fun _ => True) v2_ r3 ∧ Below w.heap.size w w' := by
 have hu31 := Try.underlying31
 have hu81 := Try.underlying81
 have HR0_1 := Aside0.mk hr0_1
 have HC0_1 := Aside0.mk hc0_1
 clear hr0_1 hc0_1
 have HR0_2 := Aside0.mk hr0_2
 have HC0_2 := Aside0.mk hc0_2
 clear hr0_2 hc0_2
 have HR1_1 := Aside0.mk hr1_1
 have HC1_1 := Aside0.mk hc1_1
 clear hr1_1 hc1_1
 have HR1_2 := Aside0.mk hr1_2
 have HC1_2 := Aside0.mk hc1_2
 clear hr1_2 hc1_2
 have HB := Aside0.mk (Below.refl w.heap.size w)
 have H : ((spec_l04Ok.f k [(⟨a0_0, l0_1, l0_2⟩ : S31)]).bind fun t177 => (if t177 = true then ((spec_l04Ok.f k [(⟨a1_0, l1_1, l1_2⟩ : S31)]).bind fun t178 => (spec_BothNetworks.j0 k (!t178) a0_0 l0_1 l0_2 a1_0 l1_1 l1_2)) else (spec_BothNetworks.j0 k true a0_0 l0_1 l0_2 a1_0 l1_1 l1_2))) = some (r1, r2, r3, r4) := h
 clear h
 have HC3 := Aside0.mk H
 clear H
 go_enter Try.func56, Try.ntmps56
 go_upto_region 1 with (first | ((with_reducible refine gate_dst (N := 2) rfl ?_); (try (refine gate_guard (by rfl) ?_; dsimp only)); refine zbx 2 #[.int .i8 a0_0, .slice A0_1 l0_1.length c0_1, .slice A0_2 l0_2.length c0_2] 31 ?_; intro gb174 hg w4 hbox hb; have n_ : _ ∧ _ ∧ _ ∧ _ := ⟨zb HB hb, Aside0.mk (hbox), zg HB hg, zg HB hg⟩; clear HB; obtain ⟨HB, BK174, GW174, GE174⟩ := n_; clear hb hbox hg) | ((with_reducible refine gate_dst (N := 3) rfl ?_); (try (refine gate_guard (by rfl) ?_; dsimp only)); refine zbx 3 #[.int .i8 a1_0, .slice A1_1 l1_1.length c1_1, .slice A1_2 l1_2.length c1_2] 31 ?_; intro gb175 hg w5 hbox hb; have n_ : _ ∧ _ ∧ _ ∧ _ ∧ _ ∧ _ ∧ _ := ⟨zk BK174 hb, zbs hb, Aside0.mk (hbox), zg HB hg, zg HB hg, zn1 BK174 hg, zn2 BK174 hg⟩; clear BK174 HB; obtain ⟨BK174, HB, BK175, GW175, GE175, NB174_175, NB175_174⟩ := n_; clear hb hbox hg) | ((with_reducible refine gate_dst (N := 4) rfl ?_); (try (refine gate_guard (by rfl) ?_; dsimp only)); refine zbx 4 #[.int .i8 0, .slice none 0 0, .slice none 0 0] 31 ?_; intro gb176 hg w6 hbox hb; have n_ : _ ∧ _ ∧ _ ∧ _ ∧ _ ∧ _ ∧ _ ∧ _ ∧ _ ∧ _ := ⟨zk BK174 hb, zk BK175 hb, zbs hb, Aside0.mk (hbox), zg HB hg, zg HB hg, zn1 BK174 hg, zn2 BK174 hg, zn1 BK175 hg, zn2 BK175 hg⟩; clear BK174 BK175 HB; obtain ⟨BK174, BK175, HB, BK176, GW176, GE176, NB174_176, NB176_174, NB175_176, NB176_175⟩ := n_; clear hb hbox hg))
 (try simp only [Act.put, List.setIfInBounds_toArray, List.set_cons_zero, List.set_cons_succ])
 go_cut [16] (fun v16 wc => ∃ (kq : Nat) (x16_2 : Bool), v16 = .bool x16_2 ∧ Aside0 (spec_BothNetworks.j0 kq x16_2 a0_0 l0_1 l0_2 a1_0 l1_1 l1_2 = some (r1, r2, r3, r4)) ∧ Aside0 (kq ≤ k) ∧ Aside0 (wc.heap[gb174]? = some (.cells #[.int .i8 a0_0, (.slice A0_1 l0_1.length c0_1), (.slice A0_2 l0_2.length c0_2)] 31 (0, 0))) ∧ Aside0 (wc.heap[gb175]? = some (.cells #[.int .i8 a1_0, (.slice A1_1 l1_1.length c1_1), (.slice A1_2 l1_2.length c1_2)] 31 (0, 0))) ∧ Aside0 (wc.heap[gb176]? = some (.cells #[.int .i8 0, (.slice none 0 0), (.slice none 0 0)] 31 (0, 0))) ∧ Aside0 (Below w.heap.size w wc))
 case first =>
  have H := HC3.out
  clear HC3
  replace H := zob H
  obtain ⟨t177, A70, H⟩ := H
  replace H : (if t177 = true then ((spec_l04Ok.f k [(⟨a1_0, l1_1, l1_2⟩ : S31)]).bind fun t178 => (spec_BothNetworks.j0 k (!t178) a0_0 l0_1 l0_2 a1_0 l1_1 l1_2)) else (spec_BothNetworks.j0 k true a0_0 l0_1 l0_2 a1_0 l1_1 l1_2)) = some (r1, r2, r3, r4) := H
  have A7 := Aside0.mk A70
  clear A70
  by_cases c8 : t177 = true
  rotate_left
  ·replace c8 := Bool.eq_false_iff.mpr c8
   subst c8
   have H1 : (spec_BothNetworks.j0 k true a0_0 l0_1 l0_2 a1_0 l1_1 l1_2) = some (r1, r2, r3, r4) := by rw [if_neg (show ¬ (false = true) by decide)] at H; exact H
   clear H
   have H := H1
   clear H1
   have H' := Aside0.mk H
   clear H
   go_wp2_with (first | ((with_reducible refine gate_callee (f := 81) rfl ?_); refine goesL_ (some 11) rfl rfl Try.func81 (by kernel_rfl) rfl #[.pointer (some ⟨gb174, 0, none⟩)] rfl zm ?_; (with_reducible refine (spec_l04Ok.calls k _ [(⟨a0_0, l0_1, l0_2⟩ : S31)] false _ ?side1 A7.out).mono ?_); (case side1 => refine ro_of_blk (T := 31) (cs := #[.int .i8 a0_0, .slice A0_1 l0_1.length c0_1, .slice A0_2 l0_2.length c0_2]) (zh BK174).out ?_; exact k31_mk _ (⟨a0_0, l0_1, l0_2⟩ : S31) (by exact HC0_1.out) (by exact zcc HB HR0_1.out) (by exact HC0_2.out) (by exact zcc HB HR0_2.out)); rintro e w12 ⟨rfl, hb⟩; refine ⟨_, rfl, ?_⟩; have n_ : _ ∧ _ ∧ _ ∧ _ := ⟨zk BK174 hb, zk BK175 hb, zk BK176 hb, zbs hb⟩; clear BK174 BK175 BK176 HB; obtain ⟨BK174, BK175, BK176, HB⟩ := n_; (try clear hb); (try clear hb2); (try clear hk); (try clear hi)))
   go_meet
   case rel => exact ⟨_, (true), zi, H', ⟨by first | omega | exact Nat.le_refl _⟩, zh BK174, zh BK175, zh BK176, zba⟩
  subst c8
  have H1 : ((spec_l04Ok.f k [(⟨a1_0, l1_1, l1_2⟩ : S31)]).bind fun t178 => (spec_BothNetworks.j0 k (!t178) a0_0 l0_1 l0_2 a1_0 l1_1 l1_2)) = some (r1, r2, r3, r4) := by rw [if_pos rfl] at H; exact H
  clear H
  have H := H1
  clear H1
  replace H := zob H
  obtain ⟨t178, A90, H⟩ := H
  replace H : (spec_BothNetworks.j0 k (!t178) a0_0 l0_1 l0_2 a1_0 l1_1 l1_2) = some (r1, r2, r3, r4) := H
  have A9 := Aside0.mk A90
  clear A90
  have H' := Aside0.mk H
  clear H
  go_wp2_with (first | ((with_reducible refine gate_callee (f := 81) rfl ?_); refine goesL_ (some 11) rfl rfl Try.func81 (by kernel_rfl) rfl #[.pointer (some ⟨gb174, 0, none⟩)] rfl zm ?_; (with_reducible refine (spec_l04Ok.calls k _ [(⟨a0_0, l0_1, l0_2⟩ : S31)] true _ ?side1 A7.out).mono ?_); (case side1 => refine ro_of_blk (T := 31) (cs := #[.int .i8 a0_0, .slice A0_1 l0_1.length c0_1, .slice A0_2 l0_2.length c0_2]) (zh BK174).out ?_; exact k31_mk _ (⟨a0_0, l0_1, l0_2⟩ : S31) (by exact HC0_1.out) (by exact zcc HB HR0_1.out) (by exact HC0_2.out) (by exact zcc HB HR0_2.out)); rintro e w10 ⟨rfl, hb⟩; refine ⟨_, rfl, ?_⟩; have n_ : _ ∧ _ ∧ _ ∧ _ := ⟨zk BK174 hb, zk BK175 hb, zk BK176 hb, zbs hb⟩; clear BK174 BK175 BK176 HB; obtain ⟨BK174, BK175, BK176, HB⟩ := n_; (try clear hb); (try clear hb2); (try clear hk); (try clear hi)) | (go_at_call 81; (with_reducible refine (spec_l04Ok.calls k _ [(⟨a1_0, l1_1, l1_2⟩ : S31)] t178 _ ?side1 A9.out).mono ?_); (case side1 => refine ro_of_blk (T := 31) (cs := #[.int .i8 a1_0, .slice A1_1 l1_1.length c1_1, .slice A1_2 l1_2.length c1_2]) (zh BK175).out ?_; exact k31_mk _ (⟨a1_0, l1_1, l1_2⟩ : S31) (by exact HC1_1.out) (by exact zcc HB HR1_1.out) (by exact HC1_2.out) (by exact zcc HB HR1_2.out)); rintro e w11 ⟨rfl, hb⟩; have n_ : _ ∧ _ ∧ _ ∧ _ := ⟨zk BK174 hb, zk BK175 hb, zk BK176 hb, zbs hb⟩; clear BK174 BK175 BK176 HB; obtain ⟨BK174, BK175, BK176, HB⟩ := n_; (try clear hb); (try clear hb2); (try clear hk); (try clear hi)))
  go_meet
  case rel => exact ⟨_, (!t178), zi, H', ⟨by first | omega | exact Nat.le_refl _⟩, zh BK174, zh BK175, zh BK176, zba⟩
 clear HC3
 try clear c1
 try clear p2
 try clear c5
 try clear c8
 obtain ⟨kq, x16_2, rfl, HA, HJ2, BK174, BK175, BK176, HB⟩ := hcut
 cases kq with
 | zero => exact absurd HA.out (by simp [spec_BothNetworks.j0])
 | succ kj2 => ?_
 have H := HA.out
 clear HA
 simp only [spec_BothNetworks.j0] at H
 by_cases c13 : x16_2 = true
 ·subst c13
  have H1 : (some (0, ([] : List (S81)), ([] : List Int), 1)) = some (r1, r2, r3, r4) := by rw [if_pos rfl] at H; exact H
  clear H
  have H := H1
  clear H1
  simp only [Option.some.injEq, Prod.mk.injEq] at H
  obtain ⟨rfl, rfl, rfl, rfl⟩ := H
  have hnb14 := NB176_174.out
  have hnc14 := NB174_176.out
  have hnb15 := NB176_175.out
  have hnc15 := NB175_176.out
  obtain ⟨z16_0, z16_1, z16_2, y16_0, y16_1, y16_2⟩ := zB3 BK176
  go_wp2
  refine bodyPost_ret (results_ct rfl _ _ gb176 31 #[.int .i8 0, .slice none 0 0, .slice none 0 0] (0, 0) _ rfl (zp BK176) Try.underlying31 rfl (by kernel_rfl)) rfl ?_
  exact ⟨_, _, zv, by first | exact Kd.R_nil _ _ _ _ _ | exact Kd.N_nil _ _ _ _ _ | exact Kd.V_nil _ _ _ _ _ | exact Kd.Q_nil _ _ _ _ _ | exact Kd.S_nil _ _ _ _ _, by first | exact Kd.R_nil _ _ _ _ _ | exact Kd.N_nil _ _ _ _ _ | exact Kd.V_nil _ _ _ _ _ | exact Kd.Q_nil _ _ _ _ _ | exact Kd.S_nil _ _ _ _ _, zbo⟩
 replace c13 := Bool.eq_false_iff.mpr c13
 subst c13
 have H1 : (if a0_0 = a1_0 then (if (wrap64 ((l0_1.length : Int) + (l1_1.length : Int))) > 80 then (spec_BothNetworks.j1 kj2 true a0_0 l0_1 l0_2 a1_0 l1_1 l1_2) else (spec_BothNetworks.j1 kj2 (decide ((wrap64 ((l0_2.length : Int) + (l1_2.length : Int))) > 8)) a0_0 l0_1 l0_2 a1_0 l1_1 l1_2)) else (some (0, ([] : List (S81)), ([] : List Int), 4))) = some (r1, r2, r3, r4) := by rw [if_neg (show ¬ (false = true) by decide)] at H; exact H
 clear H
 have H := H1
 clear H1
 by_cases c17 : a0_0 = a1_0
 rotate_left
 ·rw [if_neg c17] at H
  have c17b0 : (a0_0 == a1_0) = false := beq_eq_false_iff_ne.mpr c17
  have c17b1 : (a0_0 != a1_0) = true := bne_iff_ne.mpr c17
  simp only [Option.some.injEq, Prod.mk.injEq] at H
  obtain ⟨rfl, rfl, rfl, rfl⟩ := H
  have hnb123 := NB174_175.out
  have hnc123 := NB175_174.out
  have hnb124 := NB174_176.out
  have hnc124 := NB176_174.out
  obtain ⟨z125_0, z125_1, z125_2, y125_0, y125_1, y125_2⟩ := zB3 BK174
  have hnb126 := NB175_176.out
  have hnc126 := NB176_175.out
  obtain ⟨z127_0, z127_1, z127_2, y127_0, y127_1, y127_2⟩ := zB3 BK175
  obtain ⟨z128_0, z128_1, z128_2, y128_0, y128_1, y128_2⟩ := zB3 BK176
  go_wp2
  refine bodyPost_ret (results_ct rfl _ _ gb176 31 #[.int .i8 0, .slice none 0 0, .slice none 0 0] (0, 0) _ rfl (zp BK176) Try.underlying31 rfl (by kernel_rfl)) rfl ?_
  exact ⟨_, _, zv, by first | exact Kd.R_nil _ _ _ _ _ | exact Kd.N_nil _ _ _ _ _ | exact Kd.V_nil _ _ _ _ _ | exact Kd.Q_nil _ _ _ _ _ | exact Kd.S_nil _ _ _ _ _, by first | exact Kd.R_nil _ _ _ _ _ | exact Kd.N_nil _ _ _ _ _ | exact Kd.V_nil _ _ _ _ _ | exact Kd.Q_nil _ _ _ _ _ | exact Kd.S_nil _ _ _ _ _, zbo⟩
 rw [if_pos c17] at H
 have c17b0 : (a0_0 == a1_0) = true := beq_iff_eq.mpr c17
 have c17b1 : (a0_0 != a1_0) = false := bne_eq_false_iff_eq.mpr c17
 clear c17
 have HC18 := Aside0.mk H
 clear H
 have hnb19 := NB174_175.out
 have hnc19 := NB175_174.out
 have hnb20 := NB174_176.out
 have hnc20 := NB176_174.out
 obtain ⟨z21_0, z21_1, z21_2, y21_0, y21_1, y21_2⟩ := zB3 BK174
 have hnb22 := NB175_176.out
 have hnc22 := NB176_175.out
 obtain ⟨z23_0, z23_1, z23_2, y23_0, y23_1, y23_2⟩ := zB3 BK175
 go_upto_region 5 with (fail)
 go_cut [41] (fun v41 wc => ∃ (kq : Nat) (x41_17 : Bool), v41 = .bool x41_17 ∧ Aside0 (spec_BothNetworks.j1 kq x41_17 a0_0 l0_1 l0_2 a1_0 l1_1 l1_2 = some (r1, r2, r3, r4)) ∧ Aside0 (kq ≤ kj2) ∧ Aside0 (wc.heap[gb174]? = some (.cells #[.int .i8 a0_0, (.slice A0_1 l0_1.length c0_1), (.slice A0_2 l0_2.length c0_2)] 31 (0, 0))) ∧ Aside0 (wc.heap[gb175]? = some (.cells #[.int .i8 a1_0, (.slice A1_1 l1_1.length c1_1), (.slice A1_2 l1_2.length c1_2)] 31 (0, 0))) ∧ Aside0 (wc.heap[gb176]? = some (.cells #[.int .i8 0, (.slice none 0 0), (.slice none 0 0)] 31 (0, 0))) ∧ Aside0 (Below w.heap.size w wc))
 case first =>
  have H := HC18.out
  clear HC18
  by_cases c24 : (wrap64 ((l0_1.length : Int) + (l1_1.length : Int))) > 80
  ·rw [if_pos c24] at H
   have c24b0 : decide (80 < (wrap64 ((l0_1.length : Int) + (l1_1.length : Int)))) = true := decide_eq_true c24
   clear c24
   (first | rw [c24b0] | (simp only [i64_w, i32_w]; rw [c24b0]) | (have h_ := c24b0; simp only [bne] at h_; rw [h_]) | skip)
   have H' := Aside0.mk H
   clear H
   have hnb25 := NB174_175.out
   have hnc25 := NB175_174.out
   have hnb26 := NB174_176.out
   have hnc26 := NB176_174.out
   obtain ⟨z27_0, z27_1, z27_2, y27_0, y27_1, y27_2⟩ := zB3 BK174
   have hnb28 := NB175_176.out
   have hnc28 := NB176_175.out
   obtain ⟨z29_0, z29_1, z29_2, y29_0, y29_1, y29_2⟩ := zB3 BK175
   go_wp2
   go_meet
   case rel => exact ⟨_, (true), zi, H', ⟨by have := HJ2.out; first | omega | exact Nat.le_refl _⟩, zh BK174, zh BK175, zh BK176, zba⟩
  rw [if_neg c24] at H
  have c24b0 : decide (80 < (wrap64 ((l0_1.length : Int) + (l1_1.length : Int)))) = false := decide_eq_false c24
  clear c24
  (first | rw [c24b0] | (simp only [i64_w, i32_w]; rw [c24b0]) | (have h_ := c24b0; simp only [bne] at h_; rw [h_]) | skip)
  have H' := Aside0.mk H
  clear H
  have hnb30 := NB174_175.out
  have hnc30 := NB175_174.out
  have hnb31 := NB174_176.out
  have hnc31 := NB176_174.out
  obtain ⟨z32_0, z32_1, z32_2, y32_0, y32_1, y32_2⟩ := zB3 BK174
  have hnb33 := NB175_176.out
  have hnc33 := NB176_175.out
  obtain ⟨z34_0, z34_1, z34_2, y34_0, y34_1, y34_2⟩ := zB3 BK175
  go_wp2
  go_meet
  case rel => exact ⟨_, (decide ((wrap64 ((l0_2.length : Int) + (l1_2.length : Int))) > 8)), zi, H', ⟨by have := HJ2.out; first | omega | exact Nat.le_refl _⟩, zh BK174, zh BK175, zh BK176, zba⟩
 clear HC18
 try clear c1
 try clear c2
 try clear p2
 try clear c3
 try clear c5
 try clear p6
 try clear c8
 try clear c13
 try clear c14
 try clear c15
 try clear c17
 try clear c17b0
 try clear c17b1
 try clear c19
 try clear c20
 try clear c22
 try clear c24
 try clear c24b0
 try clear c25
 try clear c26
 try clear c28
 try clear c30
 try clear c31
 try clear c33
 try clear z16_0 z16_1 z16_2
 try clear z21_0 z21_1 z21_2
 try clear z23_0 z23_1 z23_2
 try clear z27_0 z27_1 z27_2
 try clear z29_0 z29_1 z29_2
 try clear z32_0 z32_1 z32_2
 try clear z34_0 z34_1 z34_2
 try clear y16_0
 try clear y16_1
 try clear y16_2
 try clear y21_0
 try clear y21_1
 try clear y21_2
 try clear y23_0
 try clear y23_1
 try clear y23_2
 try clear y27_0
 try clear y27_1
 try clear y27_2
 try clear y29_0
 try clear y29_1
 try clear y29_2
 try clear y32_0
 try clear y32_1
 try clear y32_2
 try clear y34_0
 try clear y34_1
 try clear y34_2
 try clear p2
 obtain ⟨kq, x41_17, rfl, HA, HJ17, BK174, BK175, BK176, HB⟩ := hcut
 cases kq with
 | zero => exact absurd HA.out (by simp [spec_BothNetworks.j1])
 | succ kj17 => ?_
 have H := HA.out
 clear HA
 simp only [spec_BothNetworks.j1] at H
 by_cases c35 : x41_17 = true
 ·subst c35
  have H1 : (some (0, ([] : List (S81)), ([] : List Int), 3)) = some (r1, r2, r3, r4) := by rw [if_pos rfl] at H; exact H
  clear H
  have H := H1
  clear H1
  simp only [Option.some.injEq, Prod.mk.injEq] at H
  obtain ⟨rfl, rfl, rfl, rfl⟩ := H
  have hnb36 := NB176_174.out
  have hnc36 := NB174_176.out
  have hnb37 := NB176_175.out
  have hnc37 := NB175_176.out
  obtain ⟨z38_0, z38_1, z38_2, y38_0, y38_1, y38_2⟩ := zB3 BK176
  go_wp2
  refine bodyPost_ret (results_ct rfl _ _ gb176 31 #[.int .i8 0, .slice none 0 0, .slice none 0 0] (0, 0) _ rfl (zp BK176) Try.underlying31 rfl (by kernel_rfl)) rfl ?_
  exact ⟨_, _, zv, by first | exact Kd.R_nil _ _ _ _ _ | exact Kd.N_nil _ _ _ _ _ | exact Kd.V_nil _ _ _ _ _ | exact Kd.Q_nil _ _ _ _ _ | exact Kd.S_nil _ _ _ _ _, by first | exact Kd.R_nil _ _ _ _ _ | exact Kd.N_nil _ _ _ _ _ | exact Kd.V_nil _ _ _ _ _ | exact Kd.Q_nil _ _ _ _ _ | exact Kd.S_nil _ _ _ _ _, zbo⟩
 replace c35 := Bool.eq_false_iff.mpr c35
 subst c35
 have H1 : ((some (([] : List (S81)) : List (S81))).bind fun y179 => (if y179.length + l0_1.length < 23456248059221 then ((some (([] : List Int) : List Int)).bind fun y185 => (if y185.length + l0_2.length < 70368744177664 then (spec_BothNetworks.l0 kj17 (IntKind.i16.wrap ((l0_1.length : Int))) 0 a1_0 l1_1 l1_2 a0_0 (y179 ++ l0_1) (y185 ++ l0_2)) else (none))) else (none))) = some (r1, r2, r3, r4) := by rw [if_neg (show ¬ (false = true) by decide)] at H; exact H
 clear H
 have H := H1
 clear H1
 obtain ⟨y179, hy179⟩ : ∃ y_ : List (S81), y_ = (([] : List (S81))) := ⟨_, rfl⟩
 replace H : (if y179.length + l0_1.length < 23456248059221 then ((some (([] : List Int) : List Int)).bind fun y185 => (if y185.length + l0_2.length < 70368744177664 then (spec_BothNetworks.l0 kj17 (IntKind.i16.wrap ((l0_1.length : Int))) 0 a1_0 l1_1 l1_2 a0_0 (y179 ++ l0_1) (y185 ++ l0_2)) else (none))) else (none)) = some (r1, r2, r3, r4) := by first | (rw [hy179]; with_reducible exact H) | (have H2_ := (Option.bind_some _ _).symm.trans H; rw [hy179]; with_reducible exact H2_) | (have H2_ := (Option.bind_some _ _).symm.trans H; with_reducible exact H2_) | with_reducible exact H | (rw [hy179]; exact H) | exact H
 have Ny179 := Aside0.mk hy179
 clear hy179
 by_cases c39 : y179.length + l0_1.length < 23456248059221
 rotate_left
 ·rw [if_neg c39] at H
  exact absurd H (by simp)
 rw [if_pos c39] at H
 have LMc39 := Aside0.mk c39
 clear c39
 obtain ⟨y182, hy182⟩ : ∃ y_ : List (S81), y_ = (y179 ++ l0_1) := ⟨_, rfl⟩
 replace H : ((some (([] : List Int) : List Int)).bind fun y185 => (if y185.length + l0_2.length < 70368744177664 then (spec_BothNetworks.l0 kj17 (IntKind.i16.wrap ((l0_1.length : Int))) 0 a1_0 l1_1 l1_2 a0_0 y182 (y185 ++ l0_2)) else (none))) = some (r1, r2, r3, r4) := by first | (rw [hy182]; with_reducible exact H) | (have H2_ := (Option.bind_some _ _).symm.trans H; rw [hy182]; with_reducible exact H2_) | (have H2_ := (Option.bind_some _ _).symm.trans H; with_reducible exact H2_) | with_reducible exact H | (rw [hy182]; exact H) | exact H
 have Ny182 := Aside0.mk hy182
 clear hy182
 obtain ⟨y185, hy185⟩ : ∃ y_ : List Int, y_ = (([] : List Int)) := ⟨_, rfl⟩
 replace H : (if y185.length + l0_2.length < 70368744177664 then (spec_BothNetworks.l0 kj17 (IntKind.i16.wrap ((l0_1.length : Int))) 0 a1_0 l1_1 l1_2 a0_0 y182 (y185 ++ l0_2)) else (none)) = some (r1, r2, r3, r4) := by first | (rw [hy185]; with_reducible exact H) | (have H2_ := (Option.bind_some _ _).symm.trans H; rw [hy185]; with_reducible exact H2_) | (have H2_ := (Option.bind_some _ _).symm.trans H; with_reducible exact H2_) | with_reducible exact H | (rw [hy185]; exact H) | exact H
 have Ny185 := Aside0.mk hy185
 clear hy185
 by_cases c40 : y185.length + l0_2.length < 70368744177664
 rotate_left
 ·rw [if_neg c40] at H
  exact absurd H (by simp)
 rw [if_pos c40] at H
 have LMc40 := Aside0.mk c40
 clear c40
 obtain ⟨y188, hy188⟩ : ∃ y_ : List Int, y_ = (y185 ++ l0_2) := ⟨_, rfl⟩
 replace H : (spec_BothNetworks.l0 kj17 (IntKind.i16.wrap ((l0_1.length : Int))) 0 a1_0 l1_1 l1_2 a0_0 y182 y188) = some (r1, r2, r3, r4) := by first | (rw [hy188]; with_reducible exact H) | (have H2_ := (Option.bind_some _ _).symm.trans H; rw [hy188]; with_reducible exact H2_) | (have H2_ := (Option.bind_some _ _).symm.trans H; with_reducible exact H2_) | with_reducible exact H | (rw [hy188]; exact H) | exact H
 have Ny188 := Aside0.mk hy188
 clear hy188
 have H' := Aside0.mk H
 clear H
 have hnb41 := NB174_175.out
 have hnc41 := NB175_174.out
 have hnb42 := NB174_176.out
 have hnc42 := NB176_174.out
 obtain ⟨z43_0, z43_1, z43_2, y43_0, y43_1, y43_2⟩ := zB3 BK174
 try go_wp2
 have n_ : _ ∧ _ ∧ _ ∧ _ := ⟨Aside0.mk (blk_drew BK174.out), Aside0.mk (blk_drew BK175.out), Aside0.mk (blk_drew BK176.out), Aside0.mk (below_drew1 HB.out)⟩
 clear BK174 BK175 BK176 HB
 obtain ⟨BK174, BK175, BK176, HB⟩ := n_
 refine start_ (n := 13) (S := fun w' => w'.cell? ⟨gb174, 0, none⟩ = some (.int .i8 a0_0) ∧ w'.cell? ⟨gb174, 1, none⟩ = some (.slice A0_1 l0_1.length c0_1) ∧ w'.cell? ⟨gb174, 2, none⟩ = some (.slice A0_2 l0_2.length c0_2)) (ds := []) (zq 13 0) (by kernel_rfl) rfl rfl ⟨(blk_cell BK174.out 0).trans rfl, (blk_cell BK174.out 1).trans rfl, (blk_cell BK174.out 2).trans rfl⟩ (fun hHeld => ?_); refine with_tabW spec_BothNetworks.tab8 spec_BothNetworks.bits8 (fun HT_ HW_ => ?_)
 generalize wc.drew = w44 at BK174 BK175 BK176 HB hHeld ⊢
 refine zpu 0 (some 47) (zq 13 1) HT_ ?_
 refine zpu 3 (some 50) (zq 13 9) HT_ ?_
 refine zpu 7 (some 54) (zq 13 137) HT_ ?_
 refine ztk 1 (some 48) (zq 13 139) HT_ HW_ rfl hHeld (Or.inl ⟨by rfl, by (rintro w' ⟨s0, s1, s2⟩; go_simp; with_reducible rfl)⟩) ?_
 refine ztk 4 (some 51) (zq 13 155) HT_ HW_ rfl hHeld (Or.inl ⟨by rfl, by (rintro w' ⟨s0, s1, s2⟩; go_simp; with_reducible rfl)⟩) ?_
 refine ztk 8 (some 55) (zq 13 411) HT_ HW_ rfl hHeld (Or.inl ⟨by rfl, by (rintro w' ⟨s0, s1, s2⟩; go_simp; with_reducible rfl)⟩) ?_
 refine join_ (σ := Value × Value × Value × Value × Nat) 1 (zq 13 4095) (fun s_ => [(49, s_.1), (52, s_.2.1), (53, s_.2.2.1), (56, s_.2.2.2.1), (7, .pointer (some ⟨s_.2.2.2.2, 0, none⟩)), (57, .agg #[.int .i8 a0_0, s_.2.1, s_.2.2.2.1])]) (fun s_ w' => (w'.cell? ⟨gb174, 0, none⟩ = some (.int .i8 a0_0) ∧ w'.cell? ⟨gb174, 1, none⟩ = some (.slice A0_1 l0_1.length c0_1) ∧ w'.cell? ⟨gb174, 2, none⟩ = some (.slice A0_2 l0_2.length c0_2)) ∧ (Kd.R k81 81 w' w.heap.size (fun _ => True) s_.2.1 y182) ∧ (Kd.R (Kd.int .i16) 79 w' w.heap.size (fun _ => True) s_.2.2.2.1 y188) ∧ (w'.heap[gb174]? = some (.cells #[.int .i8 a0_0, .slice A0_1 l0_1.length c0_1, .slice A0_2 l0_2.length c0_2] 31 (0, 0))) ∧ (w'.heap[gb175]? = some (.cells #[.int .i8 a1_0, .slice A1_1 l1_1.length c1_1, .slice A1_2 l1_2.length c1_2] 31 (0, 0))) ∧ (w'.heap[gb176]? = some (.cells #[.int .i8 0, .slice none 0 0, .slice none 0 0] 31 (0, 0))) ∧ (w'.heap[s_.2.2.2.2]? = some (.cells #[.int .i8 0, .slice none 0 0, .slice none 0 0] 31 (0, 0))) ∧ (w.heap.size ≤ s_.2.2.2.2) ∧ (w.heap.size ≤ s_.2.2.2.2) ∧ (gb174 ≠ s_.2.2.2.2) ∧ (s_.2.2.2.2 ≠ gb174) ∧ (gb175 ≠ s_.2.2.2.2) ∧ (s_.2.2.2.2 ≠ gb175) ∧ (gb176 ≠ s_.2.2.2.2) ∧ (s_.2.2.2.2 ≠ gb176) ∧ (Below w.heap.size w w')) ?_ ?_
 rotate_left
 ·intro hJ2_5_6_9_11
  refine join_ (σ := Value × Value × Value × Value) 2 (zq 13 2047) (fun s_ => [(49, s_.1), (52, s_.2.1), (53, s_.2.2.1), (56, s_.2.2.2), (57, .agg #[.int .i8 a0_0, s_.2.1, s_.2.2.2])]) (fun s_ w' => (w'.cell? ⟨gb174, 0, none⟩ = some (.int .i8 a0_0) ∧ w'.cell? ⟨gb174, 1, none⟩ = some (.slice A0_1 l0_1.length c0_1) ∧ w'.cell? ⟨gb174, 2, none⟩ = some (.slice A0_2 l0_2.length c0_2)) ∧ (Kd.R k81 81 w' w.heap.size (fun _ => True) s_.2.1 y182) ∧ (Kd.R (Kd.int .i16) 79 w' w.heap.size (fun _ => True) s_.2.2.2 y188) ∧ (w'.heap[gb174]? = some (.cells #[.int .i8 a0_0, .slice A0_1 l0_1.length c0_1, .slice A0_2 l0_2.length c0_2] 31 (0, 0))) ∧ (w'.heap[gb175]? = some (.cells #[.int .i8 a1_0, .slice A1_1 l1_1.length c1_1, .slice A1_2 l1_2.length c1_2] 31 (0, 0))) ∧ (w'.heap[gb176]? = some (.cells #[.int .i8 0, .slice none 0 0, .slice none 0 0] 31 (0, 0))) ∧ (Below w.heap.size w w')) ?_ ?_
  rotate_left
  rotate_left
  ·skip
   rintro ⟨v180, v183, v186, v189⟩ w53 ⟨hS_, h0_, h1_, h2_, h3_, h4_, h5_⟩
   have n_ : (Aside0 (Kd.R k81 81 w53 w.heap.size (fun _ => True) v183 y182)) ∧ (Aside0 (Kd.R (Kd.int .i16) 79 w53 w.heap.size (fun _ => True) v189 y188)) ∧ (Aside0 (w53.heap[gb174]? = some (.cells #[.int .i8 a0_0, .slice A0_1 l0_1.length c0_1, .slice A0_2 l0_2.length c0_2] 31 (0, 0)))) ∧ (Aside0 (w53.heap[gb175]? = some (.cells #[.int .i8 a1_0, .slice A1_1 l1_1.length c1_1, .slice A1_2 l1_2.length c1_2] 31 (0, 0)))) ∧ (Aside0 (w53.heap[gb176]? = some (.cells #[.int .i8 0, .slice none 0 0, .slice none 0 0] 31 (0, 0)))) ∧ (Aside0 (Below w.heap.size w w53)) := ⟨⟨h0_⟩, ⟨h1_⟩, ⟨h2_⟩, ⟨h3_⟩, ⟨h4_⟩, ⟨h5_⟩⟩
   clear BK174 BK175 BK176 HB h0_ h1_ h2_ h3_ h4_ h5_
   obtain ⟨HO184, HO190, BK174, BK175, BK176, HB⟩ := n_
   have hHeld := hS_
   obtain ⟨Ao54, co54, eo54⟩ := Kd.R_slice HO190.out
   (first | subst eo54 | (injection eo54 with f1_ f2_ f3_; have f4_ := f1_.symm; have f5_ := f3_.symm; clear f1_ f2_ f3_; subst f4_; subst f5_))
   obtain ⟨Ao55, co55, eo55⟩ := Kd.R_slice HO184.out
   (first | subst eo55 | (injection eo55 with f1_ f2_ f3_; have f4_ := f1_.symm; have f5_ := f3_.symm; clear f1_ f2_ f3_; subst f4_; subst f5_))
   refine norm_ (a' := ?_) ?_ ?_
   rotate_left
   ·simp only [putAll, Act.put, List.setIfInBounds_toArray, List.set_cons_zero, List.set_cons_succ]
    rfl
   refine one_ (i := 11) (N := some 7) (zq 13 4095) rfl rfl (one_of HT_.out (by kernel_rfl)) (by decide) (fun K hK => ?_)
   refine box_step ?hg (N := 7) ?hd (cs := #[.int .i8 0, .slice none 0 0, .slice none 0 0]) (t := 31) ?hr ?_; (case hd => rfl); (case hg => rfl); (case hr => exact zgs)
   intro gb191 hg w56 hbox hb
   have n_ : _ ∧ _ ∧ _ ∧ _ ∧ _ ∧ _ ∧ _ ∧ _ ∧ _ ∧ _ ∧ _ ∧ _ ∧ _ ∧ _ ∧ _ := ⟨zr HO184 hb, zr HO190 hb, zk BK174 hb, zk BK175 hb, zk BK176 hb, zbs hb, Aside0.mk (hbox), zg HB hg, zg HB hg, zn1 BK174 hg, zn2 BK174 hg, zn1 BK175 hg, zn2 BK175 hg, zn1 BK176 hg, zn2 BK176 hg⟩
   clear HO184 HO190 BK174 BK175 BK176 HB
   obtain ⟨HO184, HO190, BK174, BK175, BK176, HB, BK191, GW191, GE191, NB174_191, NB191_174, NB175_191, NB191_175, NB176_191, NB191_176⟩ := n_
   clear hb hbox hg
   refine hK.out _ _ ⟨(blk_cell BK174.out 0).trans rfl, (blk_cell BK174.out 1).trans rfl, (blk_cell BK174.out 2).trans rfl⟩ (fun hHeld => ?_)
   clear hK K
   refine norm_ (a' := ?_) ?_ ?_
   rotate_left
   ·show Act.put _ (some 7) _ = _
    exact zap
   exact norm_ (by first | (simp only [putAll, Act.put, List.setIfInBounds_toArray, List.set_cons_zero, List.set_cons_succ]; done) | (simp only [putAll, Act.put, List.setIfInBounds_toArray, List.set_cons_zero, List.set_cons_succ]; rfl)) (hJ2_5_6_9_11 (v180, .slice Ao55 y182.length co55, v186, .slice Ao54 y188.length co54, gb191) _ ⟨hHeld, (ze HO184).out, (ze HO190).out, (zh BK174).out, (zh BK175).out, (zh BK176).out, (zh BK191).out, GW191.out, GE191.out, NB174_191.out, NB191_174.out, NB175_191.out, NB191_175.out, NB176_191.out, NB191_176.out, zbo⟩)
  intro hJ2_5_6_9
  refine join_ (σ := Value × Value × Value × Nat) 3 (zq 13 2559) (fun s_ => [(49, s_.1), (52, s_.2.1), (53, s_.2.2.1), (7, .pointer (some ⟨s_.2.2.2, 0, none⟩))]) (fun s_ w' => (w'.cell? ⟨gb174, 0, none⟩ = some (.int .i8 a0_0) ∧ w'.cell? ⟨gb174, 1, none⟩ = some (.slice A0_1 l0_1.length c0_1) ∧ w'.cell? ⟨gb174, 2, none⟩ = some (.slice A0_2 l0_2.length c0_2)) ∧ (Kd.R k81 81 w' w.heap.size (fun _ => True) s_.2.1 y182) ∧ (Kd.R (Kd.int .i16) 79 w' w.heap.size (fun _ => True) s_.2.2.1 y185) ∧ (w'.heap[gb174]? = some (.cells #[.int .i8 a0_0, .slice A0_1 l0_1.length c0_1, .slice A0_2 l0_2.length c0_2] 31 (0, 0))) ∧ (w'.heap[gb175]? = some (.cells #[.int .i8 a1_0, .slice A1_1 l1_1.length c1_1, .slice A1_2 l1_2.length c1_2] 31 (0, 0))) ∧ (w'.heap[gb176]? = some (.cells #[.int .i8 0, .slice none 0 0, .slice none 0 0] 31 (0, 0))) ∧ (w'.heap[s_.2.2.2]? = some (.cells #[.int .i8 0, .slice none 0 0, .slice none 0 0] 31 (0, 0))) ∧ (w.heap.size ≤ s_.2.2.2) ∧ (w.heap.size ≤ s_.2.2.2) ∧ (gb174 ≠ s_.2.2.2) ∧ (s_.2.2.2 ≠ gb174) ∧ (gb175 ≠ s_.2.2.2) ∧ (s_.2.2.2 ≠ gb175) ∧ (gb176 ≠ s_.2.2.2) ∧ (s_.2.2.2 ≠ gb176) ∧ (Below w.heap.size w w')) ?_ ?_
  rotate_left
  rotate_left
  ·skip
   rintro ⟨v180, v183, v186, gb191⟩ w51 ⟨hS_, h0_, h1_, h2_, h3_, h4_, h5_, h6_, h7_, h8_, h9_, h10_, h11_, h12_, h13_, h14_⟩
   have n_ : (Aside0 (Kd.R k81 81 w51 w.heap.size (fun _ => True) v183 y182)) ∧ (Aside0 (Kd.R (Kd.int .i16) 79 w51 w.heap.size (fun _ => True) v186 y185)) ∧ (Aside0 (w51.heap[gb174]? = some (.cells #[.int .i8 a0_0, .slice A0_1 l0_1.length c0_1, .slice A0_2 l0_2.length c0_2] 31 (0, 0)))) ∧ (Aside0 (w51.heap[gb175]? = some (.cells #[.int .i8 a1_0, .slice A1_1 l1_1.length c1_1, .slice A1_2 l1_2.length c1_2] 31 (0, 0)))) ∧ (Aside0 (w51.heap[gb176]? = some (.cells #[.int .i8 0, .slice none 0 0, .slice none 0 0] 31 (0, 0)))) ∧ (Aside0 (w51.heap[gb191]? = some (.cells #[.int .i8 0, .slice none 0 0, .slice none 0 0] 31 (0, 0)))) ∧ (Aside0 (w.heap.size ≤ gb191)) ∧ (Aside0 (w.heap.size ≤ gb191)) ∧ (Aside0 (gb174 ≠ gb191)) ∧ (Aside0 (gb191 ≠ gb174)) ∧ (Aside0 (gb175 ≠ gb191)) ∧ (Aside0 (gb191 ≠ gb175)) ∧ (Aside0 (gb176 ≠ gb191)) ∧ (Aside0 (gb191 ≠ gb176)) ∧ (Aside0 (Below w.heap.size w w51)) := ⟨⟨h0_⟩, ⟨h1_⟩, ⟨h2_⟩, ⟨h3_⟩, ⟨h4_⟩, ⟨h5_⟩, ⟨h6_⟩, ⟨h7_⟩, ⟨h8_⟩, ⟨h9_⟩, ⟨h10_⟩, ⟨h11_⟩, ⟨h12_⟩, ⟨h13_⟩, ⟨h14_⟩⟩
   clear BK174 BK175 BK176 HB h0_ h1_ h2_ h3_ h4_ h5_ h6_ h7_ h8_ h9_ h10_ h11_ h12_ h13_ h14_
   obtain ⟨HO184, HO187, BK174, BK175, BK176, BK191, GW191, GE191, NB174_191, NB191_174, NB175_191, NB191_175, NB176_191, NB191_176, HB⟩ := n_
   have hHeld := hS_
   refine norm_ (a' := ?_) ?_ ?_
   rotate_left
   ·simp only [putAll, Act.put, List.setIfInBounds_toArray, List.set_cons_zero, List.set_cons_succ]
    rfl
   refine one_ (i := 9) (N := some 56) (zq 13 3071) rfl rfl (one_of HT_.out (by kernel_rfl)) (by decide) (fun K hK => ?_)
   refine Kd.R_append_rows_step (Kd.int .i16) (w0 := w) w.heap.size (by rfl) (.tmp 53) (.tmp 55) 24 79 (.int .i16 0) 2 rfl Try.underlying24 info79 rfl (by decide) (by omega) v186 y185 l0_2 _ _ _ (fun _ => True) (fun _ => False) rfl rfl ?aO ?aR (fun _ _ h => h) (fun _ h => h.elim) ?aF ?aB ?aS ?aL ?_
   (case aR => exact zcc HB HR0_2.out)
   (case aB => exact zbo)
   (case aF => exact (fun _ _ => trivial))
   (case aO => exact (ze HO187).out)
   (case aS => exact (zz HB))
   (case aL => have := LMc40.out; omega)
   intro v189 w52 ho hb hg hat
   rw [← Ny188.out] at ho
   have n_ : _ ∧ _ ∧ _ ∧ _ ∧ _ ∧ _ ∧ _ := ⟨Aside0.mk (blk_grown (g := gb174) (o := .cells #[.int .i8 a0_0, .slice A0_1 l0_1.length c0_1, .slice A0_2 l0_2.length c0_2] 31 (0, 0)) (zh BK174).out hg (Kd.R_ne HO187.out BK174.out (by decide))), Aside0.mk (blk_grown (g := gb175) (o := .cells #[.int .i8 a1_0, .slice A1_1 l1_1.length c1_1, .slice A1_2 l1_2.length c1_2] 31 (0, 0)) (zh BK175).out hg (Kd.R_ne HO187.out BK175.out (by decide))), Aside0.mk (blk_grown (g := gb176) (o := .cells #[.int .i8 0, .slice none 0 0, .slice none 0 0] 31 (0, 0)) (zh BK176).out hg (Kd.R_ne HO187.out BK176.out (by decide))), Aside0.mk (Kd.R_over' (ze HO184).out (Kd.R_typed (ze HO187).out) (by decide) hg), Aside0.mk (blk_grown (g := gb191) (o := .cells #[.int .i8 0, .slice none 0 0, .slice none 0 0] 31 (0, 0)) (zh BK191).out hg (Kd.R_ne HO187.out BK191.out (by decide))), Aside0.mk (hb), Aside0.mk (ho)⟩
   clear BK174 BK175 BK176 HO184 BK191 HB HO187
   obtain ⟨BK174, BK175, BK176, HO184, BK191, HB, HO190⟩ := n_
   clear ho hb hg hat
   obtain ⟨Ao53, co53, eo53⟩ := Kd.R_slice HO190.out
   (first | subst eo53 | (injection eo53 with f1_ f2_ f3_; have f4_ := f1_.symm; have f5_ := f3_.symm; clear f1_ f2_ f3_; subst f4_; subst f5_))
   obtain ⟨Ao54, co54, eo54⟩ := Kd.R_slice HO184.out
   (first | subst eo54 | (injection eo54 with f1_ f2_ f3_; have f4_ := f1_.symm; have f5_ := f3_.symm; clear f1_ f2_ f3_; subst f4_; subst f5_))
   refine hK.out _ _ ⟨(blk_cell BK174.out 0).trans rfl, (blk_cell BK174.out 1).trans rfl, (blk_cell BK174.out 2).trans rfl⟩ (fun hHeld => ?_)
   clear hK K
   refine norm_ (a' := ?_) ?_ ?_
   rotate_left
   ·show Act.put _ (some 56) _ = _
    exact zap
   refine zpu 10 (some 57) (zq 13 4095) HT_ ?_
   exact norm_ (by first | (simp only [putAll, Act.put, List.setIfInBounds_toArray, List.set_cons_zero, List.set_cons_succ]; done) | (simp only [putAll, Act.put, List.setIfInBounds_toArray, List.set_cons_zero, List.set_cons_succ]; rfl)) (hJ2_5_6_9_11 (v180, .slice Ao54 y182.length co54, v186, .slice Ao53 y188.length co53, gb191) _ ⟨hHeld, (ze HO184).out, (ze HO190).out, (zh BK174).out, (zh BK175).out, (zh BK176).out, (zh BK191).out, GW191.out, GE191.out, NB174_191.out, NB191_174.out, NB175_191.out, NB191_175.out, NB176_191.out, NB191_176.out, zbo⟩)
  intro hJ2_5_6_11
  refine join_ (σ := Value × Value × Value) 4 (zq 13 511) (fun s_ => [(49, s_.1), (52, s_.2.1), (53, s_.2.2)]) (fun s_ w' => (w'.cell? ⟨gb174, 0, none⟩ = some (.int .i8 a0_0) ∧ w'.cell? ⟨gb174, 1, none⟩ = some (.slice A0_1 l0_1.length c0_1) ∧ w'.cell? ⟨gb174, 2, none⟩ = some (.slice A0_2 l0_2.length c0_2)) ∧ (Kd.R k81 81 w' w.heap.size (fun _ => True) s_.2.1 y182) ∧ (Kd.R (Kd.int .i16) 79 w' w.heap.size (fun _ => True) s_.2.2 y185) ∧ (w'.heap[gb174]? = some (.cells #[.int .i8 a0_0, .slice A0_1 l0_1.length c0_1, .slice A0_2 l0_2.length c0_2] 31 (0, 0))) ∧ (w'.heap[gb175]? = some (.cells #[.int .i8 a1_0, .slice A1_1 l1_1.length c1_1, .slice A1_2 l1_2.length c1_2] 31 (0, 0))) ∧ (w'.heap[gb176]? = some (.cells #[.int .i8 0, .slice none 0 0, .slice none 0 0] 31 (0, 0))) ∧ (Below w.heap.size w w')) ?_ ?_
  rotate_left
  rotate_left
  ·skip
   rintro ⟨v180, v183, v186⟩ w50 ⟨hS_, h0_, h1_, h2_, h3_, h4_, h5_⟩
   have n_ : (Aside0 (Kd.R k81 81 w50 w.heap.size (fun _ => True) v183 y182)) ∧ (Aside0 (Kd.R (Kd.int .i16) 79 w50 w.heap.size (fun _ => True) v186 y185)) ∧ (Aside0 (w50.heap[gb174]? = some (.cells #[.int .i8 a0_0, .slice A0_1 l0_1.length c0_1, .slice A0_2 l0_2.length c0_2] 31 (0, 0)))) ∧ (Aside0 (w50.heap[gb175]? = some (.cells #[.int .i8 a1_0, .slice A1_1 l1_1.length c1_1, .slice A1_2 l1_2.length c1_2] 31 (0, 0)))) ∧ (Aside0 (w50.heap[gb176]? = some (.cells #[.int .i8 0, .slice none 0 0, .slice none 0 0] 31 (0, 0)))) ∧ (Aside0 (Below w.heap.size w w50)) := ⟨⟨h0_⟩, ⟨h1_⟩, ⟨h2_⟩, ⟨h3_⟩, ⟨h4_⟩, ⟨h5_⟩⟩
   clear BK174 BK175 BK176 HB h0_ h1_ h2_ h3_ h4_ h5_
   obtain ⟨HO184, HO187, BK174, BK175, BK176, HB⟩ := n_
   have hHeld := hS_
   refine norm_ (a' := ?_) ?_ ?_
   rotate_left
   ·simp only [putAll, Act.put, List.setIfInBounds_toArray, List.set_cons_zero, List.set_cons_succ]
    rfl
   refine two_ (i := 9) (j := 11) (Ni := some 56) (Nj := some 7) (zq 13 1023) (zq 13 2559) rfl rfl rfl rfl (two_of HT_.out (by kernel_rfl)) (by decide) (by decide) (fun K hK => ?_) (fun K hK => ?_)
   rotate_left
   ·skip
    refine box_step ?hg (N := 7) ?hd (cs := #[.int .i8 0, .slice none 0 0, .slice none 0 0]) (t := 31) ?hr ?_; (case hd => rfl); (case hg => rfl); (case hr => exact zgs)
    intro gb191 hg w51 hbox hb
    have n_ : _ ∧ _ ∧ _ ∧ _ ∧ _ ∧ _ ∧ _ ∧ _ ∧ _ ∧ _ ∧ _ ∧ _ ∧ _ ∧ _ ∧ _ := ⟨zr HO184 hb, zr HO187 hb, zk BK174 hb, zk BK175 hb, zk BK176 hb, zbs hb, Aside0.mk (hbox), zg HB hg, zg HB hg, zn1 BK174 hg, zn2 BK174 hg, zn1 BK175 hg, zn2 BK175 hg, zn1 BK176 hg, zn2 BK176 hg⟩
    clear HO184 HO187 BK174 BK175 BK176 HB
    obtain ⟨HO184, HO187, BK174, BK175, BK176, HB, BK191, GW191, GE191, NB174_191, NB191_174, NB175_191, NB191_175, NB176_191, NB191_176⟩ := n_
    clear hb hbox hg
    refine hK.out _ _ ⟨(blk_cell BK174.out 0).trans rfl, (blk_cell BK174.out 1).trans rfl, (blk_cell BK174.out 2).trans rfl⟩ (fun hHeld => ?_)
    clear hK K
    refine norm_ (a' := ?_) ?_ ?_
    rotate_left
    ·show Act.put _ (some 7) _ = _
     exact zap
    exact norm_ (by first | (simp only [putAll, Act.put, List.setIfInBounds_toArray, List.set_cons_zero, List.set_cons_succ]; done) | (simp only [putAll, Act.put, List.setIfInBounds_toArray, List.set_cons_zero, List.set_cons_succ]; rfl)) (hJ2_5_6_11 (v180, v183, v186, gb191) _ ⟨hHeld, (ze HO184).out, (ze HO187).out, (zh BK174).out, (zh BK175).out, (zh BK176).out, (zh BK191).out, GW191.out, GE191.out, NB174_191.out, NB191_174.out, NB175_191.out, NB191_175.out, NB176_191.out, NB191_176.out, zbo⟩)
   skip
   refine Kd.R_append_rows_step (Kd.int .i16) (w0 := w) w.heap.size (by rfl) (.tmp 53) (.tmp 55) 24 79 (.int .i16 0) 2 rfl Try.underlying24 info79 rfl (by decide) (by omega) v186 y185 l0_2 _ _ _ (fun _ => True) (fun _ => False) rfl rfl ?aO ?aR (fun _ _ h => h) (fun _ h => h.elim) ?aF ?aB ?aS ?aL ?_
   (case aR => exact zcc HB HR0_2.out)
   (case aB => exact zbo)
   (case aF => exact (fun _ _ => trivial))
   (case aO => exact (ze HO187).out)
   (case aS => exact (zz HB))
   (case aL => have := LMc40.out; omega)
   intro v189 w51 ho hb hg hat
   rw [← Ny188.out] at ho
   have n_ : _ ∧ _ ∧ _ ∧ _ ∧ _ ∧ _ := ⟨Aside0.mk (blk_grown (g := gb174) (o := .cells #[.int .i8 a0_0, .slice A0_1 l0_1.length c0_1, .slice A0_2 l0_2.length c0_2] 31 (0, 0)) (zh BK174).out hg (Kd.R_ne HO187.out BK174.out (by decide))), Aside0.mk (blk_grown (g := gb175) (o := .cells #[.int .i8 a1_0, .slice A1_1 l1_1.length c1_1, .slice A1_2 l1_2.length c1_2] 31 (0, 0)) (zh BK175).out hg (Kd.R_ne HO187.out BK175.out (by decide))), Aside0.mk (blk_grown (g := gb176) (o := .cells #[.int .i8 0, .slice none 0 0, .slice none 0 0] 31 (0, 0)) (zh BK176).out hg (Kd.R_ne HO187.out BK176.out (by decide))), Aside0.mk (Kd.R_over' (ze HO184).out (Kd.R_typed (ze HO187).out) (by decide) hg), Aside0.mk (hb), Aside0.mk (ho)⟩
   clear BK174 BK175 BK176 HO184 HB HO187
   obtain ⟨BK174, BK175, BK176, HO184, HB, HO190⟩ := n_
   clear ho hb hg hat
   obtain ⟨Ao52, co52, eo52⟩ := Kd.R_slice HO190.out
   (first | subst eo52 | (injection eo52 with f1_ f2_ f3_; have f4_ := f1_.symm; have f5_ := f3_.symm; clear f1_ f2_ f3_; subst f4_; subst f5_))
   obtain ⟨Ao53, co53, eo53⟩ := Kd.R_slice HO184.out
   (first | subst eo53 | (injection eo53 with f1_ f2_ f3_; have f4_ := f1_.symm; have f5_ := f3_.symm; clear f1_ f2_ f3_; subst f4_; subst f5_))
   refine hK.out _ _ ⟨(blk_cell BK174.out 0).trans rfl, (blk_cell BK174.out 1).trans rfl, (blk_cell BK174.out 2).trans rfl⟩ (fun hHeld => ?_)
   clear hK K
   refine norm_ (a' := ?_) ?_ ?_
   rotate_left
   ·show Act.put _ (some 56) _ = _
    exact zap
   refine zpu 10 (some 57) (zq 13 2047) HT_ ?_
   exact norm_ (by first | (simp only [putAll, Act.put, List.setIfInBounds_toArray, List.set_cons_zero, List.set_cons_succ]; done) | (simp only [putAll, Act.put, List.setIfInBounds_toArray, List.set_cons_zero, List.set_cons_succ]; rfl)) (hJ2_5_6_9 (v180, .slice Ao53 y182.length co53, v186, .slice Ao52 y188.length co52) _ ⟨hHeld, (ze HO184).out, (ze HO190).out, (zh BK174).out, (zh BK175).out, (zh BK176).out, zbo⟩)
  intro hJ2_5_6
  refine join_ (σ := Value × Value × Nat) 4 (zq 13 2495) (fun s_ => [(49, s_.1), (52, s_.2.1), (7, .pointer (some ⟨s_.2.2, 0, none⟩))]) (fun s_ w' => (w'.cell? ⟨gb174, 0, none⟩ = some (.int .i8 a0_0) ∧ w'.cell? ⟨gb174, 1, none⟩ = some (.slice A0_1 l0_1.length c0_1) ∧ w'.cell? ⟨gb174, 2, none⟩ = some (.slice A0_2 l0_2.length c0_2)) ∧ (Kd.R k81 81 w' w.heap.size (fun _ => True) s_.2.1 y182) ∧ (w'.heap[gb174]? = some (.cells #[.int .i8 a0_0, .slice A0_1 l0_1.length c0_1, .slice A0_2 l0_2.length c0_2] 31 (0, 0))) ∧ (w'.heap[gb175]? = some (.cells #[.int .i8 a1_0, .slice A1_1 l1_1.length c1_1, .slice A1_2 l1_2.length c1_2] 31 (0, 0))) ∧ (w'.heap[gb176]? = some (.cells #[.int .i8 0, .slice none 0 0, .slice none 0 0] 31 (0, 0))) ∧ (w'.heap[s_.2.2]? = some (.cells #[.int .i8 0, .slice none 0 0, .slice none 0 0] 31 (0, 0))) ∧ (w.heap.size ≤ s_.2.2) ∧ (w.heap.size ≤ s_.2.2) ∧ (gb174 ≠ s_.2.2) ∧ (s_.2.2 ≠ gb174) ∧ (gb175 ≠ s_.2.2) ∧ (s_.2.2 ≠ gb175) ∧ (gb176 ≠ s_.2.2) ∧ (s_.2.2 ≠ gb176) ∧ (Below w.heap.size w w')) ?_ ?_
  rotate_left
  rotate_left
  ·skip
   rintro ⟨v180, v183, gb191⟩ w49 ⟨hS_, h0_, h1_, h2_, h3_, h4_, h5_, h6_, h7_, h8_, h9_, h10_, h11_, h12_, h13_⟩
   have n_ : (Aside0 (Kd.R k81 81 w49 w.heap.size (fun _ => True) v183 y182)) ∧ (Aside0 (w49.heap[gb174]? = some (.cells #[.int .i8 a0_0, .slice A0_1 l0_1.length c0_1, .slice A0_2 l0_2.length c0_2] 31 (0, 0)))) ∧ (Aside0 (w49.heap[gb175]? = some (.cells #[.int .i8 a1_0, .slice A1_1 l1_1.length c1_1, .slice A1_2 l1_2.length c1_2] 31 (0, 0)))) ∧ (Aside0 (w49.heap[gb176]? = some (.cells #[.int .i8 0, .slice none 0 0, .slice none 0 0] 31 (0, 0)))) ∧ (Aside0 (w49.heap[gb191]? = some (.cells #[.int .i8 0, .slice none 0 0, .slice none 0 0] 31 (0, 0)))) ∧ (Aside0 (w.heap.size ≤ gb191)) ∧ (Aside0 (w.heap.size ≤ gb191)) ∧ (Aside0 (gb174 ≠ gb191)) ∧ (Aside0 (gb191 ≠ gb174)) ∧ (Aside0 (gb175 ≠ gb191)) ∧ (Aside0 (gb191 ≠ gb175)) ∧ (Aside0 (gb176 ≠ gb191)) ∧ (Aside0 (gb191 ≠ gb176)) ∧ (Aside0 (Below w.heap.size w w49)) := ⟨⟨h0_⟩, ⟨h1_⟩, ⟨h2_⟩, ⟨h3_⟩, ⟨h4_⟩, ⟨h5_⟩, ⟨h6_⟩, ⟨h7_⟩, ⟨h8_⟩, ⟨h9_⟩, ⟨h10_⟩, ⟨h11_⟩, ⟨h12_⟩, ⟨h13_⟩⟩
   clear BK174 BK175 BK176 HB h0_ h1_ h2_ h3_ h4_ h5_ h6_ h7_ h8_ h9_ h10_ h11_ h12_ h13_
   obtain ⟨HO184, BK174, BK175, BK176, BK191, GW191, GE191, NB174_191, NB191_174, NB175_191, NB191_175, NB176_191, NB191_176, HB⟩ := n_
   have hHeld := hS_
   refine norm_ (a' := ?_) ?_ ?_
   rotate_left
   ·simp only [putAll, Act.put, List.setIfInBounds_toArray, List.set_cons_zero, List.set_cons_succ]
    rfl
   refine one_ (i := 6) (N := some 53) (zq 13 2559) rfl rfl (one_of HT_.out (by kernel_rfl)) (by decide) (fun K hK => ?_)
   refine Kd.R_lit_step (Kd.int .i16) _ 79 ?hg (N := 53) ?hd (xs := ([] : List Int)) (inner := []) (ok := fun _ => True) (okp := fun _ => True) ?hr ?hp (fun _ hk => hk) trivial (Below.refl _ _) (Nat.le_refl _) (by simp) ?_; (case hd => rfl); (case hg => rfl); (case hr => exact zgs); (case hp => exact (Reps.none _ _))
   intro v186 w50 ho51 hb hg_ hnew_
   clear hg_ hnew_
   (first | rw [← Ny185.out] at ho51 | (simp only [Int.reduceToNat] at ho51; rw [← Ny185.out] at ho51))
   have n_ : _ ∧ _ ∧ _ ∧ _ ∧ _ ∧ _ ∧ _ := ⟨zr HO184 hb, Aside0.mk (Kd.R_lower ho51 (zz HB)), zk BK174 hb, zk BK175 hb, zk BK176 hb, zk BK191 hb, zbs hb⟩
   clear HO184 BK174 BK175 BK176 BK191 HB
   obtain ⟨HO184, HO187, BK174, BK175, BK176, BK191, HB⟩ := n_
   clear hb ho51
   refine hK.out _ _ ⟨(blk_cell BK174.out 0).trans rfl, (blk_cell BK174.out 1).trans rfl, (blk_cell BK174.out 2).trans rfl⟩ (fun hHeld => ?_)
   clear hK K
   refine norm_ (a' := ?_) ?_ ?_
   rotate_left
   ·show Act.put _ (some 53) _ = _
    exact zap
   exact norm_ (by first | (simp only [putAll, Act.put, List.setIfInBounds_toArray, List.set_cons_zero, List.set_cons_succ]; done) | (simp only [putAll, Act.put, List.setIfInBounds_toArray, List.set_cons_zero, List.set_cons_succ]; rfl)) (hJ2_5_6_11 (v180, v183, v186, gb191) _ ⟨hHeld, (ze HO184).out, (ze HO187).out, (zh BK174).out, (zh BK175).out, (zh BK176).out, (zh BK191).out, GW191.out, GE191.out, NB174_191.out, NB191_174.out, NB175_191.out, NB191_175.out, NB176_191.out, NB191_176.out, zbo⟩)
  intro hJ2_5_11
  refine join_ (σ := Value × Value × Nat) 4 (zq 13 2527) (fun s_ => [(49, s_.1), (53, s_.2.1), (7, .pointer (some ⟨s_.2.2, 0, none⟩))]) (fun s_ w' => (w'.cell? ⟨gb174, 0, none⟩ = some (.int .i8 a0_0) ∧ w'.cell? ⟨gb174, 1, none⟩ = some (.slice A0_1 l0_1.length c0_1) ∧ w'.cell? ⟨gb174, 2, none⟩ = some (.slice A0_2 l0_2.length c0_2)) ∧ (Kd.R k81 81 w' w.heap.size (fun _ => True) s_.1 y179) ∧ (Kd.R (Kd.int .i16) 79 w' w.heap.size (fun _ => True) s_.2.1 y185) ∧ (w'.heap[gb174]? = some (.cells #[.int .i8 a0_0, .slice A0_1 l0_1.length c0_1, .slice A0_2 l0_2.length c0_2] 31 (0, 0))) ∧ (w'.heap[gb175]? = some (.cells #[.int .i8 a1_0, .slice A1_1 l1_1.length c1_1, .slice A1_2 l1_2.length c1_2] 31 (0, 0))) ∧ (w'.heap[gb176]? = some (.cells #[.int .i8 0, .slice none 0 0, .slice none 0 0] 31 (0, 0))) ∧ (w'.heap[s_.2.2]? = some (.cells #[.int .i8 0, .slice none 0 0, .slice none 0 0] 31 (0, 0))) ∧ (w.heap.size ≤ s_.2.2) ∧ (w.heap.size ≤ s_.2.2) ∧ (gb174 ≠ s_.2.2) ∧ (s_.2.2 ≠ gb174) ∧ (gb175 ≠ s_.2.2) ∧ (s_.2.2 ≠ gb175) ∧ (gb176 ≠ s_.2.2) ∧ (s_.2.2 ≠ gb176) ∧ (Below w.heap.size w w')) ?_ ?_
  rotate_left
  rotate_left
  ·skip
   rintro ⟨v180, v186, gb191⟩ w50 ⟨hS_, h0_, h1_, h2_, h3_, h4_, h5_, h6_, h7_, h8_, h9_, h10_, h11_, h12_, h13_, h14_⟩
   have n_ : (Aside0 (Kd.R k81 81 w50 w.heap.size (fun _ => True) v180 y179)) ∧ (Aside0 (Kd.R (Kd.int .i16) 79 w50 w.heap.size (fun _ => True) v186 y185)) ∧ (Aside0 (w50.heap[gb174]? = some (.cells #[.int .i8 a0_0, .slice A0_1 l0_1.length c0_1, .slice A0_2 l0_2.length c0_2] 31 (0, 0)))) ∧ (Aside0 (w50.heap[gb175]? = some (.cells #[.int .i8 a1_0, .slice A1_1 l1_1.length c1_1, .slice A1_2 l1_2.length c1_2] 31 (0, 0)))) ∧ (Aside0 (w50.heap[gb176]? = some (.cells #[.int .i8 0, .slice none 0 0, .slice none 0 0] 31 (0, 0)))) ∧ (Aside0 (w50.heap[gb191]? = some (.cells #[.int .i8 0, .slice none 0 0, .slice none 0 0] 31 (0, 0)))) ∧ (Aside0 (w.heap.size ≤ gb191)) ∧ (Aside0 (w.heap.size ≤ gb191)) ∧ (Aside0 (gb174 ≠ gb191)) ∧ (Aside0 (gb191 ≠ gb174)) ∧ (Aside0 (gb175 ≠ gb191)) ∧ (Aside0 (gb191 ≠ gb175)) ∧ (Aside0 (gb176 ≠ gb191)) ∧ (Aside0 (gb191 ≠ gb176)) ∧ (Aside0 (Below w.heap.size w w50)) := ⟨⟨h0_⟩, ⟨h1_⟩, ⟨h2_⟩, ⟨h3_⟩, ⟨h4_⟩, ⟨h5_⟩, ⟨h6_⟩, ⟨h7_⟩, ⟨h8_⟩, ⟨h9_⟩, ⟨h10_⟩, ⟨h11_⟩, ⟨h12_⟩, ⟨h13_⟩, ⟨h14_⟩⟩
   clear BK174 BK175 BK176 HB h0_ h1_ h2_ h3_ h4_ h5_ h6_ h7_ h8_ h9_ h10_ h11_ h12_ h13_ h14_
   obtain ⟨HO181, HO187, BK174, BK175, BK176, BK191, GW191, GE191, NB174_191, NB191_174, NB175_191, NB191_175, NB176_191, NB191_176, HB⟩ := n_
   have hHeld := hS_
   refine norm_ (a' := ?_) ?_ ?_
   rotate_left
   ·simp only [putAll, Act.put, List.setIfInBounds_toArray, List.set_cons_zero, List.set_cons_succ]
    rfl
   refine one_ (i := 5) (N := some 52) (zq 13 2559) rfl rfl (one_of HT_.out (by kernel_rfl)) (by decide) (fun K hK => ?_)
   refine Kd.R_append_rows_step k81 (w0 := w) w.heap.size (by rfl) (.tmp 49) (.tmp 51) 29 81 (.agg #[(.int .i8 0), (.int .i16 0), (.int .i16 0)]) 6 rfl Try.underlying29 info81 rfl (by decide) (by omega) v180 y179 l0_1 _ _ _ (fun _ => True) (fun _ => False) rfl rfl ?aO ?aR (fun _ _ h => h) (fun _ h => h.elim) ?aF ?aB ?aS ?aL ?_
   (case aR => exact zcc HB HR0_1.out)
   (case aB => exact zbo)
   (case aF => exact (fun _ _ => trivial))
   (case aO => exact (ze HO181).out)
   (case aS => exact (zz HB))
   (case aL => have := LMc39.out; omega)
   intro v183 w51 ho hb hg hat
   rw [← Ny182.out] at ho
   have n_ : _ ∧ _ ∧ _ ∧ _ ∧ _ ∧ _ ∧ _ := ⟨Aside0.mk (blk_grown (g := gb174) (o := .cells #[.int .i8 a0_0, .slice A0_1 l0_1.length c0_1, .slice A0_2 l0_2.length c0_2] 31 (0, 0)) (zh BK174).out hg (Kd.R_ne HO181.out BK174.out (by decide))), Aside0.mk (blk_grown (g := gb175) (o := .cells #[.int .i8 a1_0, .slice A1_1 l1_1.length c1_1, .slice A1_2 l1_2.length c1_2] 31 (0, 0)) (zh BK175).out hg (Kd.R_ne HO181.out BK175.out (by decide))), Aside0.mk (blk_grown (g := gb176) (o := .cells #[.int .i8 0, .slice none 0 0, .slice none 0 0] 31 (0, 0)) (zh BK176).out hg (Kd.R_ne HO181.out BK176.out (by decide))), Aside0.mk (Kd.R_over' (ze HO187).out (Kd.R_typed (ze HO181).out) (by decide) hg), Aside0.mk (blk_grown (g := gb191) (o := .cells #[.int .i8 0, .slice none 0 0, .slice none 0 0] 31 (0, 0)) (zh BK191).out hg (Kd.R_ne HO181.out BK191.out (by decide))), Aside0.mk (hb), Aside0.mk (ho)⟩
   clear BK174 BK175 BK176 HO187 BK191 HB HO181
   obtain ⟨BK174, BK175, BK176, HO187, BK191, HB, HO184⟩ := n_
   clear ho hb hg hat
   refine hK.out _ _ ⟨(blk_cell BK174.out 0).trans rfl, (blk_cell BK174.out 1).trans rfl, (blk_cell BK174.out 2).trans rfl⟩ (fun hHeld => ?_)
   clear hK K
   refine norm_ (a' := ?_) ?_ ?_
   rotate_left
   ·show Act.put _ (some 52) _ = _
    exact zap
   exact norm_ (by first | (simp only [putAll, Act.put, List.setIfInBounds_toArray, List.set_cons_zero, List.set_cons_succ]; done) | (simp only [putAll, Act.put, List.setIfInBounds_toArray, List.set_cons_zero, List.set_cons_succ]; rfl)) (hJ2_5_6_11 (v180, v183, v186, gb191) _ ⟨hHeld, (ze HO184).out, (ze HO187).out, (zh BK174).out, (zh BK175).out, (zh BK176).out, (zh BK191).out, GW191.out, GE191.out, NB174_191.out, NB191_174.out, NB175_191.out, NB191_175.out, NB176_191.out, NB191_176.out, zbo⟩)
  intro hJ2_6_11
  refine join_ (σ := Value × Value) 5 (zq 13 447) (fun s_ => [(49, s_.1), (52, s_.2)]) (fun s_ w' => (w'.cell? ⟨gb174, 0, none⟩ = some (.int .i8 a0_0) ∧ w'.cell? ⟨gb174, 1, none⟩ = some (.slice A0_1 l0_1.length c0_1) ∧ w'.cell? ⟨gb174, 2, none⟩ = some (.slice A0_2 l0_2.length c0_2)) ∧ (Kd.R k81 81 w' w.heap.size (fun _ => True) s_.2 y182) ∧ (w'.heap[gb174]? = some (.cells #[.int .i8 a0_0, .slice A0_1 l0_1.length c0_1, .slice A0_2 l0_2.length c0_2] 31 (0, 0))) ∧ (w'.heap[gb175]? = some (.cells #[.int .i8 a1_0, .slice A1_1 l1_1.length c1_1, .slice A1_2 l1_2.length c1_2] 31 (0, 0))) ∧ (w'.heap[gb176]? = some (.cells #[.int .i8 0, .slice none 0 0, .slice none 0 0] 31 (0, 0))) ∧ (Below w.heap.size w w')) ?_ ?_
  rotate_left
  rotate_left
  ·skip
   rintro ⟨v180, v183⟩ w48 ⟨hS_, h0_, h1_, h2_, h3_, h4_⟩
   have n_ : (Aside0 (Kd.R k81 81 w48 w.heap.size (fun _ => True) v183 y182)) ∧ (Aside0 (w48.heap[gb174]? = some (.cells #[.int .i8 a0_0, .slice A0_1 l0_1.length c0_1, .slice A0_2 l0_2.length c0_2] 31 (0, 0)))) ∧ (Aside0 (w48.heap[gb175]? = some (.cells #[.int .i8 a1_0, .slice A1_1 l1_1.length c1_1, .slice A1_2 l1_2.length c1_2] 31 (0, 0)))) ∧ (Aside0 (w48.heap[gb176]? = some (.cells #[.int .i8 0, .slice none 0 0, .slice none 0 0] 31 (0, 0)))) ∧ (Aside0 (Below w.heap.size w w48)) := ⟨⟨h0_⟩, ⟨h1_⟩, ⟨h2_⟩, ⟨h3_⟩, ⟨h4_⟩⟩
   clear BK174 BK175 BK176 HB h0_ h1_ h2_ h3_ h4_
   obtain ⟨HO184, BK174, BK175, BK176, HB⟩ := n_
   have hHeld := hS_
   refine norm_ (a' := ?_) ?_ ?_
   rotate_left
   ·simp only [putAll, Act.put, List.setIfInBounds_toArray, List.set_cons_zero, List.set_cons_succ]
    rfl
   refine two_ (i := 6) (j := 11) (Ni := some 53) (Nj := some 7) (zq 13 511) (zq 13 2495) rfl rfl rfl rfl (two_of HT_.out (by kernel_rfl)) (by decide) (by decide) (fun K hK => ?_) (fun K hK => ?_)
   ·skip
    refine Kd.R_lit_step (Kd.int .i16) _ 79 ?hg (N := 53) ?hd (xs := ([] : List Int)) (inner := []) (ok := fun _ => True) (okp := fun _ => True) ?hr ?hp (fun _ hk => hk) trivial (Below.refl _ _) (Nat.le_refl _) (by simp) ?_; (case hd => rfl); (case hg => rfl); (case hr => exact zgs); (case hp => exact (Reps.none _ _))
    intro v186 w49 ho50 hb hg_ hnew_
    clear hg_ hnew_
    (first | rw [← Ny185.out] at ho50 | (simp only [Int.reduceToNat] at ho50; rw [← Ny185.out] at ho50))
    have n_ : _ ∧ _ ∧ _ ∧ _ ∧ _ ∧ _ := ⟨zr HO184 hb, Aside0.mk (Kd.R_lower ho50 (zz HB)), zk BK174 hb, zk BK175 hb, zk BK176 hb, zbs hb⟩
    clear HO184 BK174 BK175 BK176 HB
    obtain ⟨HO184, HO187, BK174, BK175, BK176, HB⟩ := n_
    clear hb ho50
    refine hK.out _ _ ⟨(blk_cell BK174.out 0).trans rfl, (blk_cell BK174.out 1).trans rfl, (blk_cell BK174.out 2).trans rfl⟩ (fun hHeld => ?_)
    clear hK K
    refine norm_ (a' := ?_) ?_ ?_
    rotate_left
    ·show Act.put _ (some 53) _ = _
     exact zap
    exact norm_ (by first | (simp only [putAll, Act.put, List.setIfInBounds_toArray, List.set_cons_zero, List.set_cons_succ]; done) | (simp only [putAll, Act.put, List.setIfInBounds_toArray, List.set_cons_zero, List.set_cons_succ]; rfl)) (hJ2_5_6 (v180, v183, v186) _ ⟨hHeld, (ze HO184).out, (ze HO187).out, (zh BK174).out, (zh BK175).out, (zh BK176).out, zbo⟩)
   skip
   refine box_step ?hg (N := 7) ?hd (cs := #[.int .i8 0, .slice none 0 0, .slice none 0 0]) (t := 31) ?hr ?_; (case hd => rfl); (case hg => rfl); (case hr => exact zgs)
   intro gb191 hg w49 hbox hb
   have n_ : _ ∧ _ ∧ _ ∧ _ ∧ _ ∧ _ ∧ _ ∧ _ ∧ _ ∧ _ ∧ _ ∧ _ ∧ _ ∧ _ := ⟨zr HO184 hb, zk BK174 hb, zk BK175 hb, zk BK176 hb, zbs hb, Aside0.mk (hbox), zg HB hg, zg HB hg, zn1 BK174 hg, zn2 BK174 hg, zn1 BK175 hg, zn2 BK175 hg, zn1 BK176 hg, zn2 BK176 hg⟩
   clear HO184 BK174 BK175 BK176 HB
   obtain ⟨HO184, BK174, BK175, BK176, HB, BK191, GW191, GE191, NB174_191, NB191_174, NB175_191, NB191_175, NB176_191, NB191_176⟩ := n_
   clear hb hbox hg
   refine hK.out _ _ ⟨(blk_cell BK174.out 0).trans rfl, (blk_cell BK174.out 1).trans rfl, (blk_cell BK174.out 2).trans rfl⟩ (fun hHeld => ?_)
   clear hK K
   refine norm_ (a' := ?_) ?_ ?_
   rotate_left
   ·show Act.put _ (some 7) _ = _
    exact zap
   exact norm_ (by first | (simp only [putAll, Act.put, List.setIfInBounds_toArray, List.set_cons_zero, List.set_cons_succ]; done) | (simp only [putAll, Act.put, List.setIfInBounds_toArray, List.set_cons_zero, List.set_cons_succ]; rfl)) (hJ2_5_11 (v180, v183, gb191) _ ⟨hHeld, (ze HO184).out, (zh BK174).out, (zh BK175).out, (zh BK176).out, (zh BK191).out, GW191.out, GE191.out, NB174_191.out, NB191_174.out, NB175_191.out, NB191_175.out, NB176_191.out, NB191_176.out, zbo⟩)
  intro hJ2_5
  refine join_ (σ := Value × Value) 5 (zq 13 479) (fun s_ => [(49, s_.1), (53, s_.2)]) (fun s_ w' => (w'.cell? ⟨gb174, 0, none⟩ = some (.int .i8 a0_0) ∧ w'.cell? ⟨gb174, 1, none⟩ = some (.slice A0_1 l0_1.length c0_1) ∧ w'.cell? ⟨gb174, 2, none⟩ = some (.slice A0_2 l0_2.length c0_2)) ∧ (Kd.R k81 81 w' w.heap.size (fun _ => True) s_.1 y179) ∧ (Kd.R (Kd.int .i16) 79 w' w.heap.size (fun _ => True) s_.2 y185) ∧ (w'.heap[gb174]? = some (.cells #[.int .i8 a0_0, .slice A0_1 l0_1.length c0_1, .slice A0_2 l0_2.length c0_2] 31 (0, 0))) ∧ (w'.heap[gb175]? = some (.cells #[.int .i8 a1_0, .slice A1_1 l1_1.length c1_1, .slice A1_2 l1_2.length c1_2] 31 (0, 0))) ∧ (w'.heap[gb176]? = some (.cells #[.int .i8 0, .slice none 0 0, .slice none 0 0] 31 (0, 0))) ∧ (Below w.heap.size w w')) ?_ ?_
  rotate_left
  rotate_left
  ·skip
   rintro ⟨v180, v186⟩ w49 ⟨hS_, h0_, h1_, h2_, h3_, h4_, h5_⟩
   have n_ : (Aside0 (Kd.R k81 81 w49 w.heap.size (fun _ => True) v180 y179)) ∧ (Aside0 (Kd.R (Kd.int .i16) 79 w49 w.heap.size (fun _ => True) v186 y185)) ∧ (Aside0 (w49.heap[gb174]? = some (.cells #[.int .i8 a0_0, .slice A0_1 l0_1.length c0_1, .slice A0_2 l0_2.length c0_2] 31 (0, 0)))) ∧ (Aside0 (w49.heap[gb175]? = some (.cells #[.int .i8 a1_0, .slice A1_1 l1_1.length c1_1, .slice A1_2 l1_2.length c1_2] 31 (0, 0)))) ∧ (Aside0 (w49.heap[gb176]? = some (.cells #[.int .i8 0, .slice none 0 0, .slice none 0 0] 31 (0, 0)))) ∧ (Aside0 (Below w.heap.size w w49)) := ⟨⟨h0_⟩, ⟨h1_⟩, ⟨h2_⟩, ⟨h3_⟩, ⟨h4_⟩, ⟨h5_⟩⟩
   clear BK174 BK175 BK176 HB h0_ h1_ h2_ h3_ h4_ h5_
   obtain ⟨HO181, HO187, BK174, BK175, BK176, HB⟩ := n_
   have hHeld := hS_
   refine norm_ (a' := ?_) ?_ ?_
   rotate_left
   ·simp only [putAll, Act.put, List.setIfInBounds_toArray, List.set_cons_zero, List.set_cons_succ]
    rfl
   refine two_ (i := 5) (j := 11) (Ni := some 52) (Nj := some 7) (zq 13 511) (zq 13 2527) rfl rfl rfl rfl (two_of HT_.out (by kernel_rfl)) (by decide) (by decide) (fun K hK => ?_) (fun K hK => ?_)
   rotate_left
   ·skip
    refine box_step ?hg (N := 7) ?hd (cs := #[.int .i8 0, .slice none 0 0, .slice none 0 0]) (t := 31) ?hr ?_; (case hd => rfl); (case hg => rfl); (case hr => exact zgs)
    intro gb191 hg w50 hbox hb
    have n_ : _ ∧ _ ∧ _ ∧ _ ∧ _ ∧ _ ∧ _ ∧ _ ∧ _ ∧ _ ∧ _ ∧ _ ∧ _ ∧ _ ∧ _ := ⟨zr HO181 hb, zr HO187 hb, zk BK174 hb, zk BK175 hb, zk BK176 hb, zbs hb, Aside0.mk (hbox), zg HB hg, zg HB hg, zn1 BK174 hg, zn2 BK174 hg, zn1 BK175 hg, zn2 BK175 hg, zn1 BK176 hg, zn2 BK176 hg⟩
    clear HO181 HO187 BK174 BK175 BK176 HB
    obtain ⟨HO181, HO187, BK174, BK175, BK176, HB, BK191, GW191, GE191, NB174_191, NB191_174, NB175_191, NB191_175, NB176_191, NB191_176⟩ := n_
    clear hb hbox hg
    refine hK.out _ _ ⟨(blk_cell BK174.out 0).trans rfl, (blk_cell BK174.out 1).trans rfl, (blk_cell BK174.out 2).trans rfl⟩ (fun hHeld => ?_)
    clear hK K
    refine norm_ (a' := ?_) ?_ ?_
    rotate_left
    ·show Act.put _ (some 7) _ = _
     exact zap
    exact norm_ (by first | (simp only [putAll, Act.put, List.setIfInBounds_toArray, List.set_cons_zero, List.set_cons_succ]; done) | (simp only [putAll, Act.put, List.setIfInBounds_toArray, List.set_cons_zero, List.set_cons_succ]; rfl)) (hJ2_6_11 (v180, v186, gb191) _ ⟨hHeld, (ze HO181).out, (ze HO187).out, (zh BK174).out, (zh BK175).out, (zh BK176).out, (zh BK191).out, GW191.out, GE191.out, NB174_191.out, NB191_174.out, NB175_191.out, NB191_175.out, NB176_191.out, NB191_176.out, zbo⟩)
   skip
   refine Kd.R_append_rows_step k81 (w0 := w) w.heap.size (by rfl) (.tmp 49) (.tmp 51) 29 81 (.agg #[(.int .i8 0), (.int .i16 0), (.int .i16 0)]) 6 rfl Try.underlying29 info81 rfl (by decide) (by omega) v180 y179 l0_1 _ _ _ (fun _ => True) (fun _ => False) rfl rfl ?aO ?aR (fun _ _ h => h) (fun _ h => h.elim) ?aF ?aB ?aS ?aL ?_
   (case aR => exact zcc HB HR0_1.out)
   (case aB => exact zbo)
   (case aF => exact (fun _ _ => trivial))
   (case aO => exact (ze HO181).out)
   (case aS => exact (zz HB))
   (case aL => have := LMc39.out; omega)
   intro v183 w50 ho hb hg hat
   rw [← Ny182.out] at ho
   have n_ : _ ∧ _ ∧ _ ∧ _ ∧ _ ∧ _ := ⟨Aside0.mk (blk_grown (g := gb174) (o := .cells #[.int .i8 a0_0, .slice A0_1 l0_1.length c0_1, .slice A0_2 l0_2.length c0_2] 31 (0, 0)) (zh BK174).out hg (Kd.R_ne HO181.out BK174.out (by decide))), Aside0.mk (blk_grown (g := gb175) (o := .cells #[.int .i8 a1_0, .slice A1_1 l1_1.length c1_1, .slice A1_2 l1_2.length c1_2] 31 (0, 0)) (zh BK175).out hg (Kd.R_ne HO181.out BK175.out (by decide))), Aside0.mk (blk_grown (g := gb176) (o := .cells #[.int .i8 0, .slice none 0 0, .slice none 0 0] 31 (0, 0)) (zh BK176).out hg (Kd.R_ne HO181.out BK176.out (by decide))), Aside0.mk (Kd.R_over' (ze HO187).out (Kd.R_typed (ze HO181).out) (by decide) hg), Aside0.mk (hb), Aside0.mk (ho)⟩
   clear BK174 BK175 BK176 HO187 HB HO181
   obtain ⟨BK174, BK175, BK176, HO187, HB, HO184⟩ := n_
   clear ho hb hg hat
   refine hK.out _ _ ⟨(blk_cell BK174.out 0).trans rfl, (blk_cell BK174.out 1).trans rfl, (blk_cell BK174.out 2).trans rfl⟩ (fun hHeld => ?_)
   clear hK K
   refine norm_ (a' := ?_) ?_ ?_
   rotate_left
   ·show Act.put _ (some 52) _ = _
    exact zap
   exact norm_ (by first | (simp only [putAll, Act.put, List.setIfInBounds_toArray, List.set_cons_zero, List.set_cons_succ]; done) | (simp only [putAll, Act.put, List.setIfInBounds_toArray, List.set_cons_zero, List.set_cons_succ]; rfl)) (hJ2_5_6 (v180, v183, v186) _ ⟨hHeld, (ze HO184).out, (ze HO187).out, (zh BK174).out, (zh BK175).out, (zh BK176).out, zbo⟩)
  intro hJ2_6
  refine join_ (σ := Value × Nat) 5 (zq 13 2463) (fun s_ => [(49, s_.1), (7, .pointer (some ⟨s_.2, 0, none⟩))]) (fun s_ w' => (w'.cell? ⟨gb174, 0, none⟩ = some (.int .i8 a0_0) ∧ w'.cell? ⟨gb174, 1, none⟩ = some (.slice A0_1 l0_1.length c0_1) ∧ w'.cell? ⟨gb174, 2, none⟩ = some (.slice A0_2 l0_2.length c0_2)) ∧ (Kd.R k81 81 w' w.heap.size (fun _ => True) s_.1 y179) ∧ (w'.heap[gb174]? = some (.cells #[.int .i8 a0_0, .slice A0_1 l0_1.length c0_1, .slice A0_2 l0_2.length c0_2] 31 (0, 0))) ∧ (w'.heap[gb175]? = some (.cells #[.int .i8 a1_0, .slice A1_1 l1_1.length c1_1, .slice A1_2 l1_2.length c1_2] 31 (0, 0))) ∧ (w'.heap[gb176]? = some (.cells #[.int .i8 0, .slice none 0 0, .slice none 0 0] 31 (0, 0))) ∧ (w'.heap[s_.2]? = some (.cells #[.int .i8 0, .slice none 0 0, .slice none 0 0] 31 (0, 0))) ∧ (w.heap.size ≤ s_.2) ∧ (w.heap.size ≤ s_.2) ∧ (gb174 ≠ s_.2) ∧ (s_.2 ≠ gb174) ∧ (gb175 ≠ s_.2) ∧ (s_.2 ≠ gb175) ∧ (gb176 ≠ s_.2) ∧ (s_.2 ≠ gb176) ∧ (Below w.heap.size w w')) ?_ ?_
  rotate_left
  rotate_left
  ·skip
   rintro ⟨v180, gb191⟩ w48 ⟨hS_, h0_, h1_, h2_, h3_, h4_, h5_, h6_, h7_, h8_, h9_, h10_, h11_, h12_, h13_⟩
   have n_ : (Aside0 (Kd.R k81 81 w48 w.heap.size (fun _ => True) v180 y179)) ∧ (Aside0 (w48.heap[gb174]? = some (.cells #[.int .i8 a0_0, .slice A0_1 l0_1.length c0_1, .slice A0_2 l0_2.length c0_2] 31 (0, 0)))) ∧ (Aside0 (w48.heap[gb175]? = some (.cells #[.int .i8 a1_0, .slice A1_1 l1_1.length c1_1, .slice A1_2 l1_2.length c1_2] 31 (0, 0)))) ∧ (Aside0 (w48.heap[gb176]? = some (.cells #[.int .i8 0, .slice none 0 0, .slice none 0 0] 31 (0, 0)))) ∧ (Aside0 (w48.heap[gb191]? = some (.cells #[.int .i8 0, .slice none 0 0, .slice none 0 0] 31 (0, 0)))) ∧ (Aside0 (w.heap.size ≤ gb191)) ∧ (Aside0 (w.heap.size ≤ gb191)) ∧ (Aside0 (gb174 ≠ gb191)) ∧ (Aside0 (gb191 ≠ gb174)) ∧ (Aside0 (gb175 ≠ gb191)) ∧ (Aside0 (gb191 ≠ gb175)) ∧ (Aside0 (gb176 ≠ gb191)) ∧ (Aside0 (gb191 ≠ gb176)) ∧ (Aside0 (Below w.heap.size w w48)) := ⟨⟨h0_⟩, ⟨h1_⟩, ⟨h2_⟩, ⟨h3_⟩, ⟨h4_⟩, ⟨h5_⟩, ⟨h6_⟩, ⟨h7_⟩, ⟨h8_⟩, ⟨h9_⟩, ⟨h10_⟩, ⟨h11_⟩, ⟨h12_⟩, ⟨h13_⟩⟩
   clear BK174 BK175 BK176 HB h0_ h1_ h2_ h3_ h4_ h5_ h6_ h7_ h8_ h9_ h10_ h11_ h12_ h13_
   obtain ⟨HO181, BK174, BK175, BK176, BK191, GW191, GE191, NB174_191, NB191_174, NB175_191, NB191_175, NB176_191, NB191_176, HB⟩ := n_
   have hHeld := hS_
   refine norm_ (a' := ?_) ?_ ?_
   rotate_left
   ·simp only [putAll, Act.put, List.setIfInBounds_toArray, List.set_cons_zero, List.set_cons_succ]
    rfl
   refine two_ (i := 5) (j := 6) (Ni := some 52) (Nj := some 53) (zq 13 2495) (zq 13 2527) rfl rfl rfl rfl (two_of HT_.out (by kernel_rfl)) (by decide) (by decide) (fun K hK => ?_) (fun K hK => ?_)
   rotate_left
   ·skip
    refine Kd.R_lit_step (Kd.int .i16) _ 79 ?hg (N := 53) ?hd (xs := ([] : List Int)) (inner := []) (ok := fun _ => True) (okp := fun _ => True) ?hr ?hp (fun _ hk => hk) trivial (Below.refl _ _) (Nat.le_refl _) (by simp) ?_; (case hd => rfl); (case hg => rfl); (case hr => exact zgs); (case hp => exact (Reps.none _ _))
    intro v186 w49 ho50 hb hg_ hnew_
    clear hg_ hnew_
    (first | rw [← Ny185.out] at ho50 | (simp only [Int.reduceToNat] at ho50; rw [← Ny185.out] at ho50))
    have n_ : _ ∧ _ ∧ _ ∧ _ ∧ _ ∧ _ ∧ _ := ⟨zr HO181 hb, Aside0.mk (Kd.R_lower ho50 (zz HB)), zk BK174 hb, zk BK175 hb, zk BK176 hb, zk BK191 hb, zbs hb⟩
    clear HO181 BK174 BK175 BK176 BK191 HB
    obtain ⟨HO181, HO187, BK174, BK175, BK176, BK191, HB⟩ := n_
    clear hb ho50
    refine hK.out _ _ ⟨(blk_cell BK174.out 0).trans rfl, (blk_cell BK174.out 1).trans rfl, (blk_cell BK174.out 2).trans rfl⟩ (fun hHeld => ?_)
    clear hK K
    refine norm_ (a' := ?_) ?_ ?_
    rotate_left
    ·show Act.put _ (some 53) _ = _
     exact zap
    exact norm_ (by first | (simp only [putAll, Act.put, List.setIfInBounds_toArray, List.set_cons_zero, List.set_cons_succ]; done) | (simp only [putAll, Act.put, List.setIfInBounds_toArray, List.set_cons_zero, List.set_cons_succ]; rfl)) (hJ2_6_11 (v180, v186, gb191) _ ⟨hHeld, (ze HO181).out, (ze HO187).out, (zh BK174).out, (zh BK175).out, (zh BK176).out, (zh BK191).out, GW191.out, GE191.out, NB174_191.out, NB191_174.out, NB175_191.out, NB191_175.out, NB176_191.out, NB191_176.out, zbo⟩)
   skip
   refine Kd.R_append_rows_step k81 (w0 := w) w.heap.size (by rfl) (.tmp 49) (.tmp 51) 29 81 (.agg #[(.int .i8 0), (.int .i16 0), (.int .i16 0)]) 6 rfl Try.underlying29 info81 rfl (by decide) (by omega) v180 y179 l0_1 _ _ _ (fun _ => True) (fun _ => False) rfl rfl ?aO ?aR (fun _ _ h => h) (fun _ h => h.elim) ?aF ?aB ?aS ?aL ?_
   (case aR => exact zcc HB HR0_1.out)
   (case aB => exact zbo)
   (case aF => exact (fun _ _ => trivial))
   (case aO => exact (ze HO181).out)
   (case aS => exact (zz HB))
   (case aL => have := LMc39.out; omega)
   intro v183 w49 ho hb hg hat
   rw [← Ny182.out] at ho
   have n_ : _ ∧ _ ∧ _ ∧ _ ∧ _ ∧ _ := ⟨Aside0.mk (blk_grown (g := gb174) (o := .cells #[.int .i8 a0_0, .slice A0_1 l0_1.length c0_1, .slice A0_2 l0_2.length c0_2] 31 (0, 0)) (zh BK174).out hg (Kd.R_ne HO181.out BK174.out (by decide))), Aside0.mk (blk_grown (g := gb175) (o := .cells #[.int .i8 a1_0, .slice A1_1 l1_1.length c1_1, .slice A1_2 l1_2.length c1_2] 31 (0, 0)) (zh BK175).out hg (Kd.R_ne HO181.out BK175.out (by decide))), Aside0.mk (blk_grown (g := gb176) (o := .cells #[.int .i8 0, .slice none 0 0, .slice none 0 0] 31 (0, 0)) (zh BK176).out hg (Kd.R_ne HO181.out BK176.out (by decide))), Aside0.mk (blk_grown (g := gb191) (o := .cells #[.int .i8 0, .slice none 0 0, .slice none 0 0] 31 (0, 0)) (zh BK191).out hg (Kd.R_ne HO181.out BK191.out (by decide))), Aside0.mk (hb), Aside0.mk (ho)⟩
   clear BK174 BK175 BK176 BK191 HB HO181
   obtain ⟨BK174, BK175, BK176, BK191, HB, HO184⟩ := n_
   clear ho hb hg hat
   refine hK.out _ _ ⟨(blk_cell BK174.out 0).trans rfl, (blk_cell BK174.out 1).trans rfl, (blk_cell BK174.out 2).trans rfl⟩ (fun hHeld => ?_)
   clear hK K
   refine norm_ (a' := ?_) ?_ ?_
   rotate_left
   ·show Act.put _ (some 52) _ = _
    exact zap
   exact norm_ (by first | (simp only [putAll, Act.put, List.setIfInBounds_toArray, List.set_cons_zero, List.set_cons_succ]; done) | (simp only [putAll, Act.put, List.setIfInBounds_toArray, List.set_cons_zero, List.set_cons_succ]; rfl)) (hJ2_5_11 (v180, v183, gb191) _ ⟨hHeld, (ze HO184).out, (zh BK174).out, (zh BK175).out, (zh BK176).out, (zh BK191).out, GW191.out, GE191.out, NB174_191.out, NB191_174.out, NB175_191.out, NB191_175.out, NB176_191.out, NB191_176.out, zbo⟩)
  intro hJ2_11
  refine join_ (σ := Value × Nat) 5 (zq 13 2523) (fun s_ => [(53, s_.1), (7, .pointer (some ⟨s_.2, 0, none⟩))]) (fun s_ w' => (w'.cell? ⟨gb174, 0, none⟩ = some (.int .i8 a0_0) ∧ w'.cell? ⟨gb174, 1, none⟩ = some (.slice A0_1 l0_1.length c0_1) ∧ w'.cell? ⟨gb174, 2, none⟩ = some (.slice A0_2 l0_2.length c0_2)) ∧ (Kd.R (Kd.int .i16) 79 w' w.heap.size (fun _ => True) s_.1 y185) ∧ (w'.heap[gb174]? = some (.cells #[.int .i8 a0_0, .slice A0_1 l0_1.length c0_1, .slice A0_2 l0_2.length c0_2] 31 (0, 0))) ∧ (w'.heap[gb175]? = some (.cells #[.int .i8 a1_0, .slice A1_1 l1_1.length c1_1, .slice A1_2 l1_2.length c1_2] 31 (0, 0))) ∧ (w'.heap[gb176]? = some (.cells #[.int .i8 0, .slice none 0 0, .slice none 0 0] 31 (0, 0))) ∧ (w'.heap[s_.2]? = some (.cells #[.int .i8 0, .slice none 0 0, .slice none 0 0] 31 (0, 0))) ∧ (w.heap.size ≤ s_.2) ∧ (w.heap.size ≤ s_.2) ∧ (gb174 ≠ s_.2) ∧ (s_.2 ≠ gb174) ∧ (gb175 ≠ s_.2) ∧ (s_.2 ≠ gb175) ∧ (gb176 ≠ s_.2) ∧ (s_.2 ≠ gb176) ∧ (Below w.heap.size w w')) ?_ ?_
  rotate_left
  rotate_left
  ·skip
   rintro ⟨v186, gb191⟩ w48 ⟨hS_, h0_, h1_, h2_, h3_, h4_, h5_, h6_, h7_, h8_, h9_, h10_, h11_, h12_, h13_⟩
   have n_ : (Aside0 (Kd.R (Kd.int .i16) 79 w48 w.heap.size (fun _ => True) v186 y185)) ∧ (Aside0 (w48.heap[gb174]? = some (.cells #[.int .i8 a0_0, .slice A0_1 l0_1.length c0_1, .slice A0_2 l0_2.length c0_2] 31 (0, 0)))) ∧ (Aside0 (w48.heap[gb175]? = some (.cells #[.int .i8 a1_0, .slice A1_1 l1_1.length c1_1, .slice A1_2 l1_2.length c1_2] 31 (0, 0)))) ∧ (Aside0 (w48.heap[gb176]? = some (.cells #[.int .i8 0, .slice none 0 0, .slice none 0 0] 31 (0, 0)))) ∧ (Aside0 (w48.heap[gb191]? = some (.cells #[.int .i8 0, .slice none 0 0, .slice none 0 0] 31 (0, 0)))) ∧ (Aside0 (w.heap.size ≤ gb191)) ∧ (Aside0 (w.heap.size ≤ gb191)) ∧ (Aside0 (gb174 ≠ gb191)) ∧ (Aside0 (gb191 ≠ gb174)) ∧ (Aside0 (gb175 ≠ gb191)) ∧ (Aside0 (gb191 ≠ gb175)) ∧ (Aside0 (gb176 ≠ gb191)) ∧ (Aside0 (gb191 ≠ gb176)) ∧ (Aside0 (Below w.heap.size w w48)) := ⟨⟨h0_⟩, ⟨h1_⟩, ⟨h2_⟩, ⟨h3_⟩, ⟨h4_⟩, ⟨h5_⟩, ⟨h6_⟩, ⟨h7_⟩, ⟨h8_⟩, ⟨h9_⟩, ⟨h10_⟩, ⟨h11_⟩, ⟨h12_⟩, ⟨h13_⟩⟩
   clear BK174 BK175 BK176 HB h0_ h1_ h2_ h3_ h4_ h5_ h6_ h7_ h8_ h9_ h10_ h11_ h12_ h13_
   obtain ⟨HO187, BK174, BK175, BK176, BK191, GW191, GE191, NB174_191, NB191_174, NB175_191, NB191_175, NB176_191, NB191_176, HB⟩ := n_
   have hHeld := hS_
   refine norm_ (a' := ?_) ?_ ?_
   rotate_left
   ·simp only [putAll, Act.put, List.setIfInBounds_toArray, List.set_cons_zero, List.set_cons_succ]
    rfl
   refine one_ (i := 2) (N := some 49) (zq 13 2527) rfl rfl (one_of HT_.out (by kernel_rfl)) (by decide) (fun K hK => ?_)
   refine Kd.R_lit_step k81 _ 81 ?hg (N := 49) ?hd (xs := ([] : List (S81))) (inner := []) (ok := fun _ => True) (okp := fun _ => True) ?hr ?hp (fun _ hk => hk) trivial (Below.refl _ _) (Nat.le_refl _) (by simp) ?_; (case hd => rfl); (case hg => rfl); (case hr => exact zgs); (case hp => exact (Reps.none _ _))
   intro v180 w49 ho50 hb hg_ hnew_
   clear hg_ hnew_
   (first | rw [← Ny179.out] at ho50 | (simp only [Int.reduceToNat] at ho50; rw [← Ny179.out] at ho50))
   have n_ : _ ∧ _ ∧ _ ∧ _ ∧ _ ∧ _ ∧ _ := ⟨zr HO187 hb, Aside0.mk (Kd.R_lower ho50 (zz HB)), zk BK174 hb, zk BK175 hb, zk BK176 hb, zk BK191 hb, zbs hb⟩
   clear HO187 BK174 BK175 BK176 BK191 HB
   obtain ⟨HO187, HO181, BK174, BK175, BK176, BK191, HB⟩ := n_
   clear hb ho50
   refine hK.out _ _ ⟨(blk_cell BK174.out 0).trans rfl, (blk_cell BK174.out 1).trans rfl, (blk_cell BK174.out 2).trans rfl⟩ (fun hHeld => ?_)
   clear hK K
   refine norm_ (a' := ?_) ?_ ?_
   rotate_left
   ·show Act.put _ (some 49) _ = _
    exact zap
   exact norm_ (by first | (simp only [putAll, Act.put, List.setIfInBounds_toArray, List.set_cons_zero, List.set_cons_succ]; done) | (simp only [putAll, Act.put, List.setIfInBounds_toArray, List.set_cons_zero, List.set_cons_succ]; rfl)) (hJ2_6_11 (v180, v186, gb191) _ ⟨hHeld, (ze HO181).out, (ze HO187).out, (zh BK174).out, (zh BK175).out, (zh BK176).out, (zh BK191).out, GW191.out, GE191.out, NB174_191.out, NB191_174.out, NB175_191.out, NB191_175.out, NB176_191.out, NB191_176.out, zbo⟩)
  intro hJ6_11
  refine join_ (σ := Value) 6 (zq 13 415) (fun s_ => [(49, s_)]) (fun s_ w' => (w'.cell? ⟨gb174, 0, none⟩ = some (.int .i8 a0_0) ∧ w'.cell? ⟨gb174, 1, none⟩ = some (.slice A0_1 l0_1.length c0_1) ∧ w'.cell? ⟨gb174, 2, none⟩ = some (.slice A0_2 l0_2.length c0_2)) ∧ (Kd.R k81 81 w' w.heap.size (fun _ => True) s_ y179) ∧ (w'.heap[gb174]? = some (.cells #[.int .i8 a0_0, .slice A0_1 l0_1.length c0_1, .slice A0_2 l0_2.length c0_2] 31 (0, 0))) ∧ (w'.heap[gb175]? = some (.cells #[.int .i8 a1_0, .slice A1_1 l1_1.length c1_1, .slice A1_2 l1_2.length c1_2] 31 (0, 0))) ∧ (w'.heap[gb176]? = some (.cells #[.int .i8 0, .slice none 0 0, .slice none 0 0] 31 (0, 0))) ∧ (Below w.heap.size w w')) ?_ ?_
  rotate_left
  rotate_left
  ·skip
   rintro v180 w47 ⟨hS_, h0_, h1_, h2_, h3_, h4_⟩
   have n_ : (Aside0 (Kd.R k81 81 w47 w.heap.size (fun _ => True) v180 y179)) ∧ (Aside0 (w47.heap[gb174]? = some (.cells #[.int .i8 a0_0, .slice A0_1 l0_1.length c0_1, .slice A0_2 l0_2.length c0_2] 31 (0, 0)))) ∧ (Aside0 (w47.heap[gb175]? = some (.cells #[.int .i8 a1_0, .slice A1_1 l1_1.length c1_1, .slice A1_2 l1_2.length c1_2] 31 (0, 0)))) ∧ (Aside0 (w47.heap[gb176]? = some (.cells #[.int .i8 0, .slice none 0 0, .slice none 0 0] 31 (0, 0)))) ∧ (Aside0 (Below w.heap.size w w47)) := ⟨⟨h0_⟩, ⟨h1_⟩, ⟨h2_⟩, ⟨h3_⟩, ⟨h4_⟩⟩
   clear BK174 BK175 BK176 HB h0_ h1_ h2_ h3_ h4_
   obtain ⟨HO181, BK174, BK175, BK176, HB⟩ := n_
   have hHeld := hS_
   refine norm_ (a' := ?_) ?_ ?_
   rotate_left
   ·simp only [putAll, Act.put, List.setIfInBounds_toArray, List.set_cons_zero, List.set_cons_succ]
    rfl
   refine three_ (i := 5) (j := 6) (k := 11) (Ni := some 52) (Nj := some 53) (Nk := some 7) (zq 13 447) (zq 13 479) (zq 13 2463) rfl rfl rfl rfl rfl rfl (three_of HT_.out (by kernel_rfl)) (by decide) (by decide) (by decide) (fun K hK => ?_) (fun K hK => ?_) (fun K hK => ?_)
   rotate_left
   ·skip
    refine Kd.R_lit_step (Kd.int .i16) _ 79 ?hg (N := 53) ?hd (xs := ([] : List Int)) (inner := []) (ok := fun _ => True) (okp := fun _ => True) ?hr ?hp (fun _ hk => hk) trivial (Below.refl _ _) (Nat.le_refl _) (by simp) ?_; (case hd => rfl); (case hg => rfl); (case hr => exact zgs); (case hp => exact (Reps.none _ _))
    intro v186 w48 ho49 hb hg_ hnew_
    clear hg_ hnew_
    (first | rw [← Ny185.out] at ho49 | (simp only [Int.reduceToNat] at ho49; rw [← Ny185.out] at ho49))
    have n_ : _ ∧ _ ∧ _ ∧ _ ∧ _ ∧ _ := ⟨zr HO181 hb, Aside0.mk (Kd.R_lower ho49 (zz HB)), zk BK174 hb, zk BK175 hb, zk BK176 hb, zbs hb⟩
    clear HO181 BK174 BK175 BK176 HB
    obtain ⟨HO181, HO187, BK174, BK175, BK176, HB⟩ := n_
    clear hb ho49
    refine hK.out _ _ ⟨(blk_cell BK174.out 0).trans rfl, (blk_cell BK174.out 1).trans rfl, (blk_cell BK174.out 2).trans rfl⟩ (fun hHeld => ?_)
    clear hK K
    refine norm_ (a' := ?_) ?_ ?_
    rotate_left
    ·show Act.put _ (some 53) _ = _
     exact zap
    exact norm_ (by first | (simp only [putAll, Act.put, List.setIfInBounds_toArray, List.set_cons_zero, List.set_cons_succ]; done) | (simp only [putAll, Act.put, List.setIfInBounds_toArray, List.set_cons_zero, List.set_cons_succ]; rfl)) (hJ2_6 (v180, v186) _ ⟨hHeld, (ze HO181).out, (ze HO187).out, (zh BK174).out, (zh BK175).out, (zh BK176).out, zbo⟩)
   ·skip
    refine box_step ?hg (N := 7) ?hd (cs := #[.int .i8 0, .slice none 0 0, .slice none 0 0]) (t := 31) ?hr ?_; (case hd => rfl); (case hg => rfl); (case hr => exact zgs)
    intro gb191 hg w48 hbox hb
    have n_ : _ ∧ _ ∧ _ ∧ _ ∧ _ ∧ _ ∧ _ ∧ _ ∧ _ ∧ _ ∧ _ ∧ _ ∧ _ ∧ _ := ⟨zr HO181 hb, zk BK174 hb, zk BK175 hb, zk BK176 hb, zbs hb, Aside0.mk (hbox), zg HB hg, zg HB hg, zn1 BK174 hg, zn2 BK174 hg, zn1 BK175 hg, zn2 BK175 hg, zn1 BK176 hg, zn2 BK176 hg⟩
    clear HO181 BK174 BK175 BK176 HB
    obtain ⟨HO181, BK174, BK175, BK176, HB, BK191, GW191, GE191, NB174_191, NB191_174, NB175_191, NB191_175, NB176_191, NB191_176⟩ := n_
    clear hb hbox hg
    refine hK.out _ _ ⟨(blk_cell BK174.out 0).trans rfl, (blk_cell BK174.out 1).trans rfl, (blk_cell BK174.out 2).trans rfl⟩ (fun hHeld => ?_)
    clear hK K
    refine norm_ (a' := ?_) ?_ ?_
    rotate_left
    ·show Act.put _ (some 7) _ = _
     exact zap
    exact norm_ (by first | (simp only [putAll, Act.put, List.setIfInBounds_toArray, List.set_cons_zero, List.set_cons_succ]; done) | (simp only [putAll, Act.put, List.setIfInBounds_toArray, List.set_cons_zero, List.set_cons_succ]; rfl)) (hJ2_11 (v180, gb191) _ ⟨hHeld, (ze HO181).out, (zh BK174).out, (zh BK175).out, (zh BK176).out, (zh BK191).out, GW191.out, GE191.out, NB174_191.out, NB191_174.out, NB175_191.out, NB191_175.out, NB176_191.out, NB191_176.out, zbo⟩)
   skip
   refine Kd.R_append_rows_step k81 (w0 := w) w.heap.size (by rfl) (.tmp 49) (.tmp 51) 29 81 (.agg #[(.int .i8 0), (.int .i16 0), (.int .i16 0)]) 6 rfl Try.underlying29 info81 rfl (by decide) (by omega) v180 y179 l0_1 _ _ _ (fun _ => True) (fun _ => False) rfl rfl ?aO ?aR (fun _ _ h => h) (fun _ h => h.elim) ?aF ?aB ?aS ?aL ?_
   (case aR => exact zcc HB HR0_1.out)
   (case aB => exact zbo)
   (case aF => exact (fun _ _ => trivial))
   (case aO => exact (ze HO181).out)
   (case aS => exact (zz HB))
   (case aL => have := LMc39.out; omega)
   intro v183 w48 ho hb hg hat
   rw [← Ny182.out] at ho
   have n_ : _ ∧ _ ∧ _ ∧ _ ∧ _ := ⟨Aside0.mk (blk_grown (g := gb174) (o := .cells #[.int .i8 a0_0, .slice A0_1 l0_1.length c0_1, .slice A0_2 l0_2.length c0_2] 31 (0, 0)) (zh BK174).out hg (Kd.R_ne HO181.out BK174.out (by decide))), Aside0.mk (blk_grown (g := gb175) (o := .cells #[.int .i8 a1_0, .slice A1_1 l1_1.length c1_1, .slice A1_2 l1_2.length c1_2] 31 (0, 0)) (zh BK175).out hg (Kd.R_ne HO181.out BK175.out (by decide))), Aside0.mk (blk_grown (g := gb176) (o := .cells #[.int .i8 0, .slice none 0 0, .slice none 0 0] 31 (0, 0)) (zh BK176).out hg (Kd.R_ne HO181.out BK176.out (by decide))), Aside0.mk (hb), Aside0.mk (ho)⟩
   clear BK174 BK175 BK176 HB HO181
   obtain ⟨BK174, BK175, BK176, HB, HO184⟩ := n_
   clear ho hb hg hat
   refine hK.out _ _ ⟨(blk_cell BK174.out 0).trans rfl, (blk_cell BK174.out 1).trans rfl, (blk_cell BK174.out 2).trans rfl⟩ (fun hHeld => ?_)
   clear hK K
   refine norm_ (a' := ?_) ?_ ?_
   rotate_left
   ·show Act.put _ (some 52) _ = _
    exact zap
   exact norm_ (by first | (simp only [putAll, Act.put, List.setIfInBounds_toArray, List.set_cons_zero, List.set_cons_succ]; done) | (simp only [putAll, Act.put, List.setIfInBounds_toArray, List.set_cons_zero, List.set_cons_succ]; rfl)) (hJ2_5 (v180, v183) _ ⟨hHeld, (ze HO184).out, (zh BK174).out, (zh BK175).out, (zh BK176).out, zbo⟩)
  intro hJ2
  refine join_ (σ := Value) 6 (zq 13 475) (fun s_ => [(53, s_)]) (fun s_ w' => (w'.cell? ⟨gb174, 0, none⟩ = some (.int .i8 a0_0) ∧ w'.cell? ⟨gb174, 1, none⟩ = some (.slice A0_1 l0_1.length c0_1) ∧ w'.cell? ⟨gb174, 2, none⟩ = some (.slice A0_2 l0_2.length c0_2)) ∧ (Kd.R (Kd.int .i16) 79 w' w.heap.size (fun _ => True) s_ y185) ∧ (w'.heap[gb174]? = some (.cells #[.int .i8 a0_0, .slice A0_1 l0_1.length c0_1, .slice A0_2 l0_2.length c0_2] 31 (0, 0))) ∧ (w'.heap[gb175]? = some (.cells #[.int .i8 a1_0, .slice A1_1 l1_1.length c1_1, .slice A1_2 l1_2.length c1_2] 31 (0, 0))) ∧ (w'.heap[gb176]? = some (.cells #[.int .i8 0, .slice none 0 0, .slice none 0 0] 31 (0, 0))) ∧ (Below w.heap.size w w')) ?_ ?_
  rotate_left
  rotate_left
  ·skip
   rintro v186 w47 ⟨hS_, h0_, h1_, h2_, h3_, h4_⟩
   have n_ : (Aside0 (Kd.R (Kd.int .i16) 79 w47 w.heap.size (fun _ => True) v186 y185)) ∧ (Aside0 (w47.heap[gb174]? = some (.cells #[.int .i8 a0_0, .slice A0_1 l0_1.length c0_1, .slice A0_2 l0_2.length c0_2] 31 (0, 0)))) ∧ (Aside0 (w47.heap[gb175]? = some (.cells #[.int .i8 a1_0, .slice A1_1 l1_1.length c1_1, .slice A1_2 l1_2.length c1_2] 31 (0, 0)))) ∧ (Aside0 (w47.heap[gb176]? = some (.cells #[.int .i8 0, .slice none 0 0, .slice none 0 0] 31 (0, 0)))) ∧ (Aside0 (Below w.heap.size w w47)) := ⟨⟨h0_⟩, ⟨h1_⟩, ⟨h2_⟩, ⟨h3_⟩, ⟨h4_⟩⟩
   clear BK174 BK175 BK176 HB h0_ h1_ h2_ h3_ h4_
   obtain ⟨HO187, BK174, BK175, BK176, HB⟩ := n_
   have hHeld := hS_
   refine norm_ (a' := ?_) ?_ ?_
   rotate_left
   ·simp only [putAll, Act.put, List.setIfInBounds_toArray, List.set_cons_zero, List.set_cons_succ]
    rfl
   refine two_ (i := 2) (j := 11) (Ni := some 49) (Nj := some 7) (zq 13 479) (zq 13 2523) rfl rfl rfl rfl (two_of HT_.out (by kernel_rfl)) (by decide) (by decide) (fun K hK => ?_) (fun K hK => ?_)
   ·skip
    refine Kd.R_lit_step k81 _ 81 ?hg (N := 49) ?hd (xs := ([] : List (S81))) (inner := []) (ok := fun _ => True) (okp := fun _ => True) ?hr ?hp (fun _ hk => hk) trivial (Below.refl _ _) (Nat.le_refl _) (by simp) ?_; (case hd => rfl); (case hg => rfl); (case hr => exact zgs); (case hp => exact (Reps.none _ _))
    intro v180 w48 ho49 hb hg_ hnew_
    clear hg_ hnew_
    (first | rw [← Ny179.out] at ho49 | (simp only [Int.reduceToNat] at ho49; rw [← Ny179.out] at ho49))
    have n_ : _ ∧ _ ∧ _ ∧ _ ∧ _ ∧ _ := ⟨zr HO187 hb, Aside0.mk (Kd.R_lower ho49 (zz HB)), zk BK174 hb, zk BK175 hb, zk BK176 hb, zbs hb⟩
    clear HO187 BK174 BK175 BK176 HB
    obtain ⟨HO187, HO181, BK174, BK175, BK176, HB⟩ := n_
    clear hb ho49
    refine hK.out _ _ ⟨(blk_cell BK174.out 0).trans rfl, (blk_cell BK174.out 1).trans rfl, (blk_cell BK174.out 2).trans rfl⟩ (fun hHeld => ?_)
    clear hK K
    refine norm_ (a' := ?_) ?_ ?_
    rotate_left
    ·show Act.put _ (some 49) _ = _
     exact zap
    exact norm_ (by first | (simp only [putAll, Act.put, List.setIfInBounds_toArray, List.set_cons_zero, List.set_cons_succ]; done) | (simp only [putAll, Act.put, List.setIfInBounds_toArray, List.set_cons_zero, List.set_cons_succ]; rfl)) (hJ2_6 (v180, v186) _ ⟨hHeld, (ze HO181).out, (ze HO187).out, (zh BK174).out, (zh BK175).out, (zh BK176).out, zbo⟩)
   skip
   refine box_step ?hg (N := 7) ?hd (cs := #[.int .i8 0, .slice none 0 0, .slice none 0 0]) (t := 31) ?hr ?_; (case hd => rfl); (case hg => rfl); (case hr => exact zgs)
   intro gb191 hg w48 hbox hb
   have n_ : _ ∧ _ ∧ _ ∧ _ ∧ _ ∧ _ ∧ _ ∧ _ ∧ _ ∧ _ ∧ _ ∧ _ ∧ _ ∧ _ := ⟨zr HO187 hb, zk BK174 hb, zk BK175 hb, zk BK176 hb, zbs hb, Aside0.mk (hbox), zg HB hg, zg HB hg, zn1 BK174 hg, zn2 BK174 hg, zn1 BK175 hg, zn2 BK175 hg, zn1 BK176 hg, zn2 BK176 hg⟩
   clear HO187 BK174 BK175 BK176 HB
   obtain ⟨HO187, BK174, BK175, BK176, HB, BK191, GW191, GE191, NB174_191, NB191_174, NB175_191, NB191_175, NB176_191, NB191_176⟩ := n_
   clear hb hbox hg
   refine hK.out _ _ ⟨(blk_cell BK174.out 0).trans rfl, (blk_cell BK174.out 1).trans rfl, (blk_cell BK174.out 2).trans rfl⟩ (fun hHeld => ?_)
   clear hK K
   refine norm_ (a' := ?_) ?_ ?_
   rotate_left
   ·show Act.put _ (some 7) _ = _
    exact zap
   exact norm_ (by first | (simp only [putAll, Act.put, List.setIfInBounds_toArray, List.set_cons_zero, List.set_cons_succ]; done) | (simp only [putAll, Act.put, List.setIfInBounds_toArray, List.set_cons_zero, List.set_cons_succ]; rfl)) (hJ6_11 (v186, gb191) _ ⟨hHeld, (ze HO187).out, (zh BK174).out, (zh BK175).out, (zh BK176).out, (zh BK191).out, GW191.out, GE191.out, NB174_191.out, NB191_174.out, NB175_191.out, NB191_175.out, NB176_191.out, NB191_176.out, zbo⟩)
  intro hJ6
  refine join_ (σ := Nat) 6 (zq 13 2459) (fun s_ => [(7, .pointer (some ⟨s_, 0, none⟩))]) (fun s_ w' => (w'.cell? ⟨gb174, 0, none⟩ = some (.int .i8 a0_0) ∧ w'.cell? ⟨gb174, 1, none⟩ = some (.slice A0_1 l0_1.length c0_1) ∧ w'.cell? ⟨gb174, 2, none⟩ = some (.slice A0_2 l0_2.length c0_2)) ∧ (w'.heap[gb174]? = some (.cells #[.int .i8 a0_0, .slice A0_1 l0_1.length c0_1, .slice A0_2 l0_2.length c0_2] 31 (0, 0))) ∧ (w'.heap[gb175]? = some (.cells #[.int .i8 a1_0, .slice A1_1 l1_1.length c1_1, .slice A1_2 l1_2.length c1_2] 31 (0, 0))) ∧ (w'.heap[gb176]? = some (.cells #[.int .i8 0, .slice none 0 0, .slice none 0 0] 31 (0, 0))) ∧ (w'.heap[s_]? = some (.cells #[.int .i8 0, .slice none 0 0, .slice none 0 0] 31 (0, 0))) ∧ (w.heap.size ≤ s_) ∧ (w.heap.size ≤ s_) ∧ (gb174 ≠ s_) ∧ (s_ ≠ gb174) ∧ (gb175 ≠ s_) ∧ (s_ ≠ gb175) ∧ (gb176 ≠ s_) ∧ (s_ ≠ gb176) ∧ (Below w.heap.size w w')) ?_ ?_
  rotate_left
  ·intro hJ11
   refine three_ (i := 2) (j := 6) (k := 11) (Ni := some 49) (Nj := some 53) (Nk := some 7) (zq 13 415) (zq 13 475) (zq 13 2459) rfl rfl rfl rfl rfl rfl (three_of HT_.out (by kernel_rfl)) (by decide) (by decide) (by decide) (fun K hK => ?_) (fun K hK => ?_) (fun K hK => ?_)
   ·skip
    refine Kd.R_lit_step k81 _ 81 ?hg (N := 49) ?hd (xs := ([] : List (S81))) (inner := []) (ok := fun _ => True) (okp := fun _ => True) ?hr ?hp (fun _ hk => hk) trivial (Below.refl _ _) (Nat.le_refl _) (by simp) ?_; (case hd => rfl); (case hg => rfl); (case hr => exact zgs); (case hp => exact (Reps.none _ _))
    intro v180 w45 ho46 hb hg_ hnew_
    clear hg_ hnew_
    (first | rw [← Ny179.out] at ho46 | (simp only [Int.reduceToNat] at ho46; rw [← Ny179.out] at ho46))
    have n_ : _ ∧ _ ∧ _ ∧ _ ∧ _ := ⟨Aside0.mk (Kd.R_lower ho46 (zz HB)), zk BK174 hb, zk BK175 hb, zk BK176 hb, zbs hb⟩
    clear BK174 BK175 BK176 HB
    obtain ⟨HO181, BK174, BK175, BK176, HB⟩ := n_
    clear hb ho46
    refine hK.out _ _ ⟨(blk_cell BK174.out 0).trans rfl, (blk_cell BK174.out 1).trans rfl, (blk_cell BK174.out 2).trans rfl⟩ (fun hHeld => ?_)
    clear hK K
    refine norm_ (a' := ?_) ?_ ?_
    rotate_left
    ·show Act.put _ (some 49) _ = _
     exact zap
    exact norm_ (by first | (simp only [putAll, Act.put, List.setIfInBounds_toArray, List.set_cons_zero, List.set_cons_succ]; done) | (simp only [putAll, Act.put, List.setIfInBounds_toArray, List.set_cons_zero, List.set_cons_succ]; rfl)) (hJ2 (v180) _ ⟨hHeld, (ze HO181).out, (zh BK174).out, (zh BK175).out, (zh BK176).out, zbo⟩)
   ·skip
    refine Kd.R_lit_step (Kd.int .i16) _ 79 ?hg (N := 53) ?hd (xs := ([] : List Int)) (inner := []) (ok := fun _ => True) (okp := fun _ => True) ?hr ?hp (fun _ hk => hk) trivial (Below.refl _ _) (Nat.le_refl _) (by simp) ?_; (case hd => rfl); (case hg => rfl); (case hr => exact zgs); (case hp => exact (Reps.none _ _))
    intro v186 w45 ho46 hb hg_ hnew_
    clear hg_ hnew_
    (first | rw [← Ny185.out] at ho46 | (simp only [Int.reduceToNat] at ho46; rw [← Ny185.out] at ho46))
    have n_ : _ ∧ _ ∧ _ ∧ _ ∧ _ := ⟨Aside0.mk (Kd.R_lower ho46 (zz HB)), zk BK174 hb, zk BK175 hb, zk BK176 hb, zbs hb⟩
    clear BK174 BK175 BK176 HB
    obtain ⟨HO187, BK174, BK175, BK176, HB⟩ := n_
    clear hb ho46
    refine hK.out _ _ ⟨(blk_cell BK174.out 0).trans rfl, (blk_cell BK174.out 1).trans rfl, (blk_cell BK174.out 2).trans rfl⟩ (fun hHeld => ?_)
    clear hK K
    refine norm_ (a' := ?_) ?_ ?_
    rotate_left
    ·show Act.put _ (some 53) _ = _
     exact zap
    exact norm_ (by first | (simp only [putAll, Act.put, List.setIfInBounds_toArray, List.set_cons_zero, List.set_cons_succ]; done) | (simp only [putAll, Act.put, List.setIfInBounds_toArray, List.set_cons_zero, List.set_cons_succ]; rfl)) (hJ6 (v186) _ ⟨hHeld, (ze HO187).out, (zh BK174).out, (zh BK175).out, (zh BK176).out, zbo⟩)
   skip
   refine box_step ?hg (N := 7) ?hd (cs := #[.int .i8 0, .slice none 0 0, .slice none 0 0]) (t := 31) ?hr ?_; (case hd => rfl); (case hg => rfl); (case hr => exact zgs)
   intro gb191 hg w45 hbox hb
   have n_ : _ ∧ _ ∧ _ ∧ _ ∧ _ ∧ _ ∧ _ ∧ _ ∧ _ ∧ _ ∧ _ ∧ _ ∧ _ := ⟨zk BK174 hb, zk BK175 hb, zk BK176 hb, zbs hb, Aside0.mk (hbox), zg HB hg, zg HB hg, zn1 BK174 hg, zn2 BK174 hg, zn1 BK175 hg, zn2 BK175 hg, zn1 BK176 hg, zn2 BK176 hg⟩
   clear BK174 BK175 BK176 HB
   obtain ⟨BK174, BK175, BK176, HB, BK191, GW191, GE191, NB174_191, NB191_174, NB175_191, NB191_175, NB176_191, NB191_176⟩ := n_
   clear hb hbox hg
   refine hK.out _ _ ⟨(blk_cell BK174.out 0).trans rfl, (blk_cell BK174.out 1).trans rfl, (blk_cell BK174.out 2).trans rfl⟩ (fun hHeld => ?_)
   clear hK K
   refine norm_ (a' := ?_) ?_ ?_
   rotate_left
   ·show Act.put _ (some 7) _ = _
    exact zap
   exact norm_ (by first | (simp only [putAll, Act.put, List.setIfInBounds_toArray, List.set_cons_zero, List.set_cons_succ]; done) | (simp only [putAll, Act.put, List.setIfInBounds_toArray, List.set_cons_zero, List.set_cons_succ]; rfl)) (hJ11 (gb191) _ ⟨hHeld, (zh BK174).out, (zh BK175).out, (zh BK176).out, (zh BK191).out, GW191.out, GE191.out, NB174_191.out, NB191_174.out, NB175_191.out, NB191_175.out, NB176_191.out, NB191_176.out, zbo⟩)
  skip
  rintro gb191 w46 ⟨hS_, h0_, h1_, h2_, h3_, h4_, h5_, h6_, h7_, h8_, h9_, h10_, h11_, h12_⟩
  have n_ : (Aside0 (w46.heap[gb174]? = some (.cells #[.int .i8 a0_0, .slice A0_1 l0_1.length c0_1, .slice A0_2 l0_2.length c0_2] 31 (0, 0)))) ∧ (Aside0 (w46.heap[gb175]? = some (.cells #[.int .i8 a1_0, .slice A1_1 l1_1.length c1_1, .slice A1_2 l1_2.length c1_2] 31 (0, 0)))) ∧ (Aside0 (w46.heap[gb176]? = some (.cells #[.int .i8 0, .slice none 0 0, .slice none 0 0] 31 (0, 0)))) ∧ (Aside0 (w46.heap[gb191]? = some (.cells #[.int .i8 0, .slice none 0 0, .slice none 0 0] 31 (0, 0)))) ∧ (Aside0 (w.heap.size ≤ gb191)) ∧ (Aside0 (w.heap.size ≤ gb191)) ∧ (Aside0 (gb174 ≠ gb191)) ∧ (Aside0 (gb191 ≠ gb174)) ∧ (Aside0 (gb175 ≠ gb191)) ∧ (Aside0 (gb191 ≠ gb175)) ∧ (Aside0 (gb176 ≠ gb191)) ∧ (Aside0 (gb191 ≠ gb176)) ∧ (Aside0 (Below w.heap.size w w46)) := ⟨⟨h0_⟩, ⟨h1_⟩, ⟨h2_⟩, ⟨h3_⟩, ⟨h4_⟩, ⟨h5_⟩, ⟨h6_⟩, ⟨h7_⟩, ⟨h8_⟩, ⟨h9_⟩, ⟨h10_⟩, ⟨h11_⟩, ⟨h12_⟩⟩
  clear BK174 BK175 BK176 HB h0_ h1_ h2_ h3_ h4_ h5_ h6_ h7_ h8_ h9_ h10_ h11_ h12_
  obtain ⟨BK174, BK175, BK176, BK191, GW191, GE191, NB174_191, NB191_174, NB175_191, NB191_175, NB176_191, NB191_176, HB⟩ := n_
  have hHeld := hS_
  refine norm_ (a' := ?_) ?_ ?_
  rotate_left
  ·simp only [putAll, Act.put, List.setIfInBounds_toArray, List.set_cons_zero, List.set_cons_succ]
   rfl
  refine two_ (i := 2) (j := 6) (Ni := some 49) (Nj := some 53) (zq 13 2463) (zq 13 2523) rfl rfl rfl rfl (two_of HT_.out (by kernel_rfl)) (by decide) (by decide) (fun K hK => ?_) (fun K hK => ?_)
  ·skip
   refine Kd.R_lit_step k81 _ 81 ?hg (N := 49) ?hd (xs := ([] : List (S81))) (inner := []) (ok := fun _ => True) (okp := fun _ => True) ?hr ?hp (fun _ hk => hk) trivial (Below.refl _ _) (Nat.le_refl _) (by simp) ?_; (case hd => rfl); (case hg => rfl); (case hr => exact zgs); (case hp => exact (Reps.none _ _))
   intro v180 w47 ho48 hb hg_ hnew_
   clear hg_ hnew_
   (first | rw [← Ny179.out] at ho48 | (simp only [Int.reduceToNat] at ho48; rw [← Ny179.out] at ho48))
   have n_ : _ ∧ _ ∧ _ ∧ _ ∧ _ ∧ _ := ⟨Aside0.mk (Kd.R_lower ho48 (zz HB)), zk BK174 hb, zk BK175 hb, zk BK176 hb, zk BK191 hb, zbs hb⟩
   clear BK174 BK175 BK176 BK191 HB
   obtain ⟨HO181, BK174, BK175, BK176, BK191, HB⟩ := n_
   clear hb ho48
   refine hK.out _ _ ⟨(blk_cell BK174.out 0).trans rfl, (blk_cell BK174.out 1).trans rfl, (blk_cell BK174.out 2).trans rfl⟩ (fun hHeld => ?_)
   clear hK K
   refine norm_ (a' := ?_) ?_ ?_
   rotate_left
   ·show Act.put _ (some 49) _ = _
    exact zap
   exact norm_ (by first | (simp only [putAll, Act.put, List.setIfInBounds_toArray, List.set_cons_zero, List.set_cons_succ]; done) | (simp only [putAll, Act.put, List.setIfInBounds_toArray, List.set_cons_zero, List.set_cons_succ]; rfl)) (hJ2_11 (v180, gb191) _ ⟨hHeld, (ze HO181).out, (zh BK174).out, (zh BK175).out, (zh BK176).out, (zh BK191).out, GW191.out, GE191.out, NB174_191.out, NB191_174.out, NB175_191.out, NB191_175.out, NB176_191.out, NB191_176.out, zbo⟩)
  skip
  refine Kd.R_lit_step (Kd.int .i16) _ 79 ?hg (N := 53) ?hd (xs := ([] : List Int)) (inner := []) (ok := fun _ => True) (okp := fun _ => True) ?hr ?hp (fun _ hk => hk) trivial (Below.refl _ _) (Nat.le_refl _) (by simp) ?_; (case hd => rfl); (case hg => rfl); (case hr => exact zgs); (case hp => exact (Reps.none _ _))
  intro v186 w47 ho48 hb hg_ hnew_
  clear hg_ hnew_
  (first | rw [← Ny185.out] at ho48 | (simp only [Int.reduceToNat] at ho48; rw [← Ny185.out] at ho48))
  have n_ : _ ∧ _ ∧ _ ∧ _ ∧ _ ∧ _ := ⟨Aside0.mk (Kd.R_lower ho48 (zz HB)), zk BK174 hb, zk BK175 hb, zk BK176 hb, zk BK191 hb, zbs hb⟩
  clear BK174 BK175 BK176 BK191 HB
  obtain ⟨HO187, BK174, BK175, BK176, BK191, HB⟩ := n_
  clear hb ho48
  refine hK.out _ _ ⟨(blk_cell BK174.out 0).trans rfl, (blk_cell BK174.out 1).trans rfl, (blk_cell BK174.out 2).trans rfl⟩ (fun hHeld => ?_)
  clear hK K
  refine norm_ (a' := ?_) ?_ ?_
  rotate_left
  ·show Act.put _ (some 53) _ = _
   exact zap
  exact norm_ (by first | (simp only [putAll, Act.put, List.setIfInBounds_toArray, List.set_cons_zero, List.set_cons_succ]; done) | (simp only [putAll, Act.put, List.setIfInBounds_toArray, List.set_cons_zero, List.set_cons_succ]; rfl)) (hJ6_11 (v186, gb191) _ ⟨hHeld, (ze HO187).out, (zh BK174).out, (zh BK175).out, (zh BK176).out, (zh BK191).out, GW191.out, GE191.out, NB174_191.out, NB191_174.out, NB175_191.out, NB191_175.out, NB176_191.out, NB191_176.out, zbo⟩)
 rintro ⟨v180, v183, v186, v189, gb191⟩ w54 ⟨hS_, h0_, h1_, h2_, h3_, h4_, h5_, h6_, h7_, h8_, h9_, h10_, h11_, h12_, h13_, h14_⟩
 have n_ : (Aside0 (Kd.R k81 81 w54 w.heap.size (fun _ => True) v183 y182)) ∧ (Aside0 (Kd.R (Kd.int .i16) 79 w54 w.heap.size (fun _ => True) v189 y188)) ∧ (Aside0 (w54.heap[gb174]? = some (.cells #[.int .i8 a0_0, .slice A0_1 l0_1.length c0_1, .slice A0_2 l0_2.length c0_2] 31 (0, 0)))) ∧ (Aside0 (w54.heap[gb175]? = some (.cells #[.int .i8 a1_0, .slice A1_1 l1_1.length c1_1, .slice A1_2 l1_2.length c1_2] 31 (0, 0)))) ∧ (Aside0 (w54.heap[gb176]? = some (.cells #[.int .i8 0, .slice none 0 0, .slice none 0 0] 31 (0, 0)))) ∧ (Aside0 (w54.heap[gb191]? = some (.cells #[.int .i8 0, .slice none 0 0, .slice none 0 0] 31 (0, 0)))) ∧ (Aside0 (w.heap.size ≤ gb191)) ∧ (Aside0 (w.heap.size ≤ gb191)) ∧ (Aside0 (gb174 ≠ gb191)) ∧ (Aside0 (gb191 ≠ gb174)) ∧ (Aside0 (gb175 ≠ gb191)) ∧ (Aside0 (gb191 ≠ gb175)) ∧ (Aside0 (gb176 ≠ gb191)) ∧ (Aside0 (gb191 ≠ gb176)) ∧ (Aside0 (Below w.heap.size w w54)) := ⟨⟨h0_⟩, ⟨h1_⟩, ⟨h2_⟩, ⟨h3_⟩, ⟨h4_⟩, ⟨h5_⟩, ⟨h6_⟩, ⟨h7_⟩, ⟨h8_⟩, ⟨h9_⟩, ⟨h10_⟩, ⟨h11_⟩, ⟨h12_⟩, ⟨h13_⟩, ⟨h14_⟩⟩
 clear BK174 BK175 BK176 HB h0_ h1_ h2_ h3_ h4_ h5_ h6_ h7_ h8_ h9_ h10_ h11_ h12_ h13_ h14_
 obtain ⟨HO184, HO190, BK174, BK175, BK176, BK191, GW191, GE191, NB174_191, NB191_174, NB175_191, NB191_175, NB176_191, NB191_176, HB⟩ := n_
 have hHeld := hS_
 obtain ⟨Ao55, co55, eo55⟩ := Kd.R_slice HO190.out
 (first | subst eo55 | (injection eo55 with f1_ f2_ f3_; have f4_ := f1_.symm; have f5_ := f3_.symm; clear f1_ f2_ f3_; subst f4_; subst f5_))
 obtain ⟨Ao56, co56, eo56⟩ := Kd.R_slice HO184.out
 (first | subst eo56 | (injection eo56 with f1_ f2_ f3_; have f4_ := f1_.symm; have f5_ := f3_.symm; clear f1_ f2_ f3_; subst f4_; subst f5_))
 refine norm_ (a' := ?_) ?_ ?_
 rotate_left
 ·simp only [putAll, Act.put, List.setIfInBounds_toArray, List.set_cons_zero, List.set_cons_succ]
  rfl
 refine one_ (i := 12) (N := none) (zq 13 8191) rfl rfl (one_of HT_.out (by kernel_rfl)) (by decide) (fun K hK => ?_)
 have hs57 : w54.cell? ⟨gb191, 0, none⟩ = some (.int .i8 0) := (blk_cell BK191.out 0).trans rfl
 have hfs57 := blk_frozen BK191.out 0
 have hns57_0 := NB174_191.out
 have hns57_1 := NB175_191.out
 have hns57_2 := NB176_191.out
 have hms57_0 := NB191_174.out
 have hms57_1 := NB191_175.out
 have hms57_2 := NB191_176.out
 have hs58 : w54.cell? ⟨gb191, 1, none⟩ = some (.slice none 0 0) := (blk_cell BK191.out 1).trans rfl
 have hfs58 := blk_frozen BK191.out 1
 have hns58_0 := NB174_191.out
 have hns58_1 := NB175_191.out
 have hns58_2 := NB176_191.out
 have hms58_0 := NB191_174.out
 have hms58_1 := NB191_175.out
 have hms58_2 := NB191_176.out
 have hs59 : w54.cell? ⟨gb191, 2, none⟩ = some (.slice none 0 0) := (blk_cell BK191.out 2).trans rfl
 have hfs59 := blk_frozen BK191.out 2
 have hns59_0 := NB174_191.out
 have hns59_1 := NB175_191.out
 have hns59_2 := NB176_191.out
 have hms59_0 := NB191_174.out
 have hms59_1 := NB191_175.out
 have hms59_2 := NB191_176.out
 refine skip_ (w1 := ?_) (by rfl) rfl ?_ ?_
 rotate_left
 ·go_simp
  rfl
 refine hK.out _ _ ⟨((cell_far (p := ⟨gb191, _, none⟩) NB174_191.out _).trans (((cell_far (p := ⟨gb191, _, none⟩) NB174_191.out _).trans (((cell_far (p := ⟨gb191, _, none⟩) NB174_191.out _).trans (hHeld.1)))))), ((cell_far (p := ⟨gb191, _, none⟩) NB174_191.out _).trans (((cell_far (p := ⟨gb191, _, none⟩) NB174_191.out _).trans (((cell_far (p := ⟨gb191, _, none⟩) NB174_191.out _).trans (hHeld.2.1)))))), ((cell_far (p := ⟨gb191, _, none⟩) NB174_191.out _).trans (((cell_far (p := ⟨gb191, _, none⟩) NB174_191.out _).trans (((cell_far (p := ⟨gb191, _, none⟩) NB174_191.out _).trans (hHeld.2.2))))))⟩ (fun hHeld => ?_)
 clear hK K
 refine done_ (done_of HT_.out (by kernel_rfl)) ?_
 try go_wp2
 go_loopg [8] kj17 (fun kq v8 w' => ∃ (x8_3 : Int) (x192001_3 : List (S81)) (u192001 : Value), v8 = .int .i64 x8_3 ∧ Aside0 (spec_BothNetworks.l0 kq (IntKind.i16.wrap ((l0_1.length : Int))) x8_3 a1_0 l1_1 l1_2 a0_0 x192001_3 y188 = some (r1, r2, r3, r4)) ∧ Aside0 (kq ≤ kj17) ∧ Aside0 (Kd.R k81 81 w' w.heap.size (fun _ => True) u192001 x192001_3) ∧ Aside0 (Kd.R (Kd.int .i16) 79 w' w.heap.size (fun _ => True) (.slice Ao55 y188.length co55) y188) ∧ Aside0 (w'.heap[gb174]? = some (.cells #[.int .i8 a0_0, (.slice A0_1 l0_1.length c0_1), (.slice A0_2 l0_2.length c0_2)] 31 (0, 0))) ∧ Aside0 (w'.heap[gb175]? = some (.cells #[.int .i8 a1_0, (.slice A1_1 l1_1.length c1_1), (.slice A1_2 l1_2.length c1_2)] 31 (0, 0))) ∧ Aside0 (w'.heap[gb176]? = some (.cells #[.int .i8 0, (.slice none 0 0), (.slice none 0 0)] 31 (0, 0))) ∧ Aside0 (w'.heap[gb191]? = some (.cells #[.int .i8 a0_0, u192001, (.slice Ao55 y188.length co55)] 31 (0, 0))) ∧ Aside0 (Below w.heap.size w w'))
 case atStart => exact ⟨(0), (y182), (.slice Ao56 y182.length co56), zi, H', ⟨Nat.le_refl _⟩, ⟨Kd.R_mono (zs HO184 BK191).out (fun _ hk => trivial)⟩, ⟨Kd.R_mono (zs HO190 BK191).out (fun _ hk => trivial)⟩, zf BK174 NB174_191, zf BK175 NB175_191, zf BK176 NB176_191, ⟨zp BK191⟩, zba⟩
 clear H'
 try clear c1
 try clear p2
 try clear c3
 try clear c4
 try clear c39
 try clear c40
 obtain ⟨x8_3, x192001_3, u192001, rfl, HA, HK3, HO_192001, HO_192002, BK174, BK175, BK176, BK191, HB⟩ := hrel
 cases gk with
 | zero => exact absurd HA.out (by simp [spec_BothNetworks.l0])
 | succ k3 => ?_
 have H := HA.out
 clear HA
 simp only [spec_BothNetworks.l0] at H
 by_cases c60 : x8_3 < (l1_1.length : Int)
 rotate_left
 ·rw [if_neg c60] at H
  have c60b0 : decide (x8_3 < (l1_1.length : Int)) = false := decide_eq_false c60
  clear c60
  have H' := Aside0.mk H
  clear H
  have hnb97 := NB175_174.out
  have hnc97 := NB174_175.out
  have hnb98 := NB175_176.out
  have hnc98 := NB176_175.out
  have hnb99 := NB175_191.out
  have hnc99 := NB191_175.out
  obtain ⟨z100_0, z100_1, z100_2, y100_0, y100_1, y100_2⟩ := zB3 BK175
  go_wp2
  go_loopg [10] k3 (fun kq v10 w' => ∃ (x10_4 : Int) (x192002_4 : List Int) (u192002 : Value), v10 = .int .i64 x10_4 ∧ Aside0 (spec_BothNetworks.l1 kq (IntKind.i16.wrap ((l0_1.length : Int))) x10_4 a1_0 l1_1 l1_2 a0_0 x192001_3 x192002_4 = some (r1, r2, r3, r4)) ∧ Aside0 (kq ≤ k3) ∧ Aside0 (Kd.R k81 81 w' w.heap.size (fun _ => True) u192001 x192001_3) ∧ Aside0 (Kd.R (Kd.int .i16) 79 w' w.heap.size (fun _ => True) u192002 x192002_4) ∧ Aside0 (w'.heap[gb174]? = some (.cells #[.int .i8 a0_0, (.slice A0_1 l0_1.length c0_1), (.slice A0_2 l0_2.length c0_2)] 31 (0, 0))) ∧ Aside0 (w'.heap[gb175]? = some (.cells #[.int .i8 a1_0, (.slice A1_1 l1_1.length c1_1), (.slice A1_2 l1_2.length c1_2)] 31 (0, 0))) ∧ Aside0 (w'.heap[gb176]? = some (.cells #[.int .i8 0, (.slice none 0 0), (.slice none 0 0)] 31 (0, 0))) ∧ Aside0 (w'.heap[gb191]? = some (.cells #[.int .i8 a0_0, u192001, u192002] 31 (0, 0))) ∧ Aside0 (Below w.heap.size w w'))
  case atStart => exact ⟨(0), (y188), (.slice Ao55 y188.length co55), zi, H', ⟨Nat.le_refl _⟩, ze HO_192001, ze HO_192002, zh BK174, zh BK175, zh BK176, zh BK191, zba⟩
  clear H'
  try clear c1
  try clear p1
  try clear q1
  try clear hx1
  try clear p2
  try clear c3
  try clear c4
  try clear c6
  try clear p6
  try clear c7
  try clear c8
  try clear c9
  try clear p19
  try clear q19
  try clear hx19
  try clear c39
  try clear c40
  try clear c60
  try clear c60b0
  try clear c61
  try clear c61b0
  try clear c62
  try clear c62b0
  try clear c63
  try clear c64
  try clear p64
  try clear c65
  try clear c66
  try clear c69
  try clear c70
  try clear c71
  try clear c72
  try clear c74
  try clear c75
  try clear c80
  try clear c81
  try clear c82
  try clear c83
  try clear c86
  try clear c87
  try clear c88
  try clear c89
  try clear c91
  try clear c92
  try clear c97
  try clear c98
  try clear c99
  try clear z100_0 z100_1 z100_2
  try clear z67_0 z67_1 z67_2
  try clear z73_0 z73_1 z73_2
  try clear z76_0 z76_1 z76_2
  try clear z79_0 z79_1 z79_2
  try clear z84_0 z84_1 z84_2
  try clear z90_0 z90_1 z90_2
  try clear z93_0 z93_1 z93_2
  try clear z96_0 z96_1 z96_2
  try clear y100_0
  try clear y100_1
  try clear y100_2
  try clear y67_0
  try clear y67_1
  try clear y67_2
  try clear y73_0
  try clear y73_1
  try clear y73_2
  try clear y76_0
  try clear y76_1
  try clear y76_2
  try clear y79_0
  try clear y79_1
  try clear y79_2
  try clear y84_0
  try clear y84_1
  try clear y84_2
  try clear y90_0
  try clear y90_1
  try clear y90_2
  try clear y93_0
  try clear y93_1
  try clear y93_2
  try clear y96_0
  try clear y96_1
  try clear y96_2
  try clear hx192_0
  try clear hx192_1
  try clear hx192_2
  try clear p192
  try clear p2
  try clear q192
  obtain ⟨x10_4, x192002_4, u192002, rfl, HA, HK4, HO_192001, HO_192002, BK174, BK175, BK176, BK191, HB⟩ := hrel
  cases gk with
  | zero => exact absurd HA.out (by simp [spec_BothNetworks.l1])
  | succ k4 => ?_
  have H := HA.out
  clear HA
  simp only [spec_BothNetworks.l1] at H
  by_cases c101 : x10_4 < (l1_2.length : Int)
  rotate_left
  ·rw [if_neg c101] at H
   have c101b0 : decide (x10_4 < (l1_2.length : Int)) = false := decide_eq_false c101
   clear c101
   simp only [Option.some.injEq, Prod.mk.injEq] at H
   obtain ⟨rfl, rfl, rfl, rfl⟩ := H
   have hnb112 := NB175_174.out
   have hnc112 := NB174_175.out
   have hnb113 := NB175_176.out
   have hnc113 := NB176_175.out
   have hnb114 := NB175_191.out
   have hnc114 := NB191_175.out
   obtain ⟨z115_0, z115_1, z115_2, y115_0, y115_1, y115_2⟩ := zB3 BK175
   have hnb116 := NB191_174.out
   have hnc116 := NB174_191.out
   have hnb117 := NB191_176.out
   have hnc117 := NB176_191.out
   obtain ⟨z118_0, z118_1, z118_2, y118_0, y118_1, y118_2⟩ := zB3 BK191
   have hnb119 := NB176_174.out
   have hnc119 := NB174_176.out
   obtain ⟨z120_0, z120_1, z120_2, y120_0, y120_1, y120_2⟩ := zB3 BK176
   obtain ⟨Ao121, co121, eo121⟩ := Kd.R_slice HO_192001.out
   subst eo121
   obtain ⟨Ao122, co122, eo122⟩ := Kd.R_slice HO_192002.out
   subst eo122
   go_wp2
   refine bodyPost_ret (results_ct rfl _ _ gb176 31 #[.int .i8 a0_0, .slice Ao121 x192001_3.length co121, .slice Ao122 x192002_4.length co122] (0, 0) _ rfl (zp BK176) Try.underlying31 rfl (by kernel_rfl)) rfl ?_
   exact ⟨_, _, zv, Kd.R_mono (zs HO_192001 BK176).out (fun _ hk => trivial), Kd.R_mono (zs HO_192002 BK176).out (fun _ hk => trivial), zbo⟩
  rw [if_pos c101] at H
  have c101b0 : decide (x10_4 < (l1_2.length : Int)) = true := decide_eq_true c101
  clear c101
  by_cases c102 : 0 ≤ x10_4
  rotate_left
  ·rw [if_neg c102] at H
   exact absurd H (by simp)
  rw [if_pos c102] at H
  have c102b0 : decide (0 ≤ x10_4) = true := decide_eq_true c102
  clear c102
  by_cases c103 : x192002_4.length < 70368744177664
  rotate_left
  ·rw [if_neg c103] at H
   exact absurd H (by simp)
  rw [if_pos c103] at H
  have LMc103 := Aside0.mk c103
  clear c103
  obtain ⟨y201, hy201⟩ : ∃ y_ : List Int, y_ = (x192002_4 ++ [IntKind.i16.wrap ((rd l1_2 x10_4) + (IntKind.i16.wrap ((l0_1.length : Int))))]) := ⟨_, rfl⟩
  replace H : (spec_BothNetworks.l1 k4 (IntKind.i16.wrap ((l0_1.length : Int))) (wrap64 (x10_4 + 1)) a1_0 l1_1 l1_2 a0_0 x192001_3 y201) = some (r1, r2, r3, r4) := by first | (rw [hy201]; with_reducible exact H) | (have H2_ := (Option.bind_some _ _).symm.trans H; rw [hy201]; with_reducible exact H2_) | (have H2_ := (Option.bind_some _ _).symm.trans H; with_reducible exact H2_) | with_reducible exact H | (rw [hy201]; exact H) | exact H
  have Ny201 := Aside0.mk hy201
  clear hy201
  have H' := Aside0.mk H
  clear H
  have hnb104 := NB175_174.out
  have hnc104 := NB174_175.out
  have hnb105 := NB175_176.out
  have hnc105 := NB176_175.out
  have hnb106 := NB175_191.out
  have hnc106 := NB191_175.out
  obtain ⟨z107_0, z107_1, z107_2, y107_0, y107_1, y107_2⟩ := zB3 BK175
  try go_wp2
  have n_ : _ ∧ _ ∧ _ ∧ _ ∧ _ ∧ _ ∧ _ := ⟨Aside0.mk (Kd.R_drew HO_192001.out), Aside0.mk (Kd.R_drew HO_192002.out), Aside0.mk (blk_drew BK174.out), Aside0.mk (blk_drew BK175.out), Aside0.mk (blk_drew BK176.out), Aside0.mk (blk_drew BK191.out), Aside0.mk (below_drew1 HB.out)⟩
  clear HO_192001 HO_192002 BK174 BK175 BK176 BK191 HB
  obtain ⟨HO_192001, HO_192002, BK174, BK175, BK176, BK191, HB⟩ := n_
  have p200 : 0 ≤ (x10_4 : Int) := of_decide_eq_true zA
  have q200 : x10_4 < (l1_2.length : Int) := of_decide_eq_true zA
  obtain ⟨ad200, e200, hx200_0⟩ := Kd.at_int HR1_2.out x10_4 p200 q200
  have hw200_0 := hx200_0
  cases e200
  replace hx200_0 := zc HB hx200_0
  replace p200 := eq_true p200
  replace q200 := eq_true q200
  refine start_ (n := 13) (S := fun w' => w'.cell? ⟨gb191, 0, none⟩ = some (.int .i8 a0_0) ∧ w'.cell? ⟨gb191, 1, none⟩ = some (u192001) ∧ w'.cell? ⟨gb191, 2, none⟩ = some (u192002) ∧ w'.cell? ⟨gb175, 0, none⟩ = some (.int .i8 a1_0) ∧ w'.cell? ⟨gb175, 1, none⟩ = some (.slice A1_1 l1_1.length c1_1) ∧ w'.cell? ⟨gb175, 2, none⟩ = some (.slice (some ad200) l1_2.length c1_2) ∧ w'.cell? (ad200.add (x10_4).toNat) = some (.int .i16 (rd l1_2 x10_4))) (ds := [12]) (zq 13 0) (by kernel_rfl) rfl rfl ⟨(blk_cell BK191.out 0).trans rfl, (blk_cell BK191.out 1).trans rfl, (blk_cell BK191.out 2).trans rfl, (blk_cell BK175.out 0).trans rfl, (blk_cell BK175.out 1).trans rfl, (blk_cell BK175.out 2).trans rfl, (zc HB hw200_0)⟩ (fun hHeld => ?_); refine with_tabW spec_BothNetworks.tab20 spec_BothNetworks.bits20 (fun HT_ HW_ => ?_)
  generalize wr.drew = w108 at HO_192001 HO_192002 BK174 BK175 BK176 BK191 HB hx200_0 hHeld ⊢
  refine zpu 0 (some 96) (zq 13 1) HT_ ?_
  refine zpu 2 (some 98) (zq 13 5) HT_ ?_
  refine zpu 4 (some 100) (zq 13 21) HT_ ?_
  refine zpu 7 (some 103) (zq 13 149) HT_ ?_
  refine ztk 1 (some 97) (zq 13 151) HT_ HW_ rfl hHeld (Or.inl ⟨by rfl, by (rintro w' ⟨s0, s1, s2, s3, s4, s5, s6⟩; go_simp; with_reducible rfl)⟩) ?_
  refine ztk 3 (some 99) (zq 13 159) HT_ HW_ rfl hHeld (Or.inl ⟨by rfl, by (rintro w' ⟨s0, s1, s2, s3, s4, s5, s6⟩; go_simp; with_reducible rfl)⟩) ?_
  refine zpu 5 (some 101) (zq 13 191) HT_ ?_
  refine ztk 6 (some 102) (zq 13 255) HT_ HW_ rfl hHeld (Or.inl ⟨by rfl, by (rintro w' ⟨s0, s1, s2, s3, s4, s5, s6⟩; go_simp; with_reducible rfl)⟩) ?_
  refine zpu 8 (some 104) (zq 13 511) HT_ ?_
  refine one_ (i := 9) (N := some 105) (zq 13 1023) rfl rfl (one_of HT_.out (by kernel_rfl)) (by decide) (fun K hK => ?_)
  refine value_ (w1 := ?_) (v := ?_) (by rfl) rfl ?_ ?_
  rotate_left 2
  ·go_simp
   constructor
   rotate_left
   ·rfl
   rfl
  refine hK.out _ _ ⟨(blk_cell (blk_alloc BK191.out _) 0).trans rfl, (blk_cell (blk_alloc BK191.out _) 1).trans rfl, (blk_cell (blk_alloc BK191.out _) 2).trans rfl, (blk_cell (blk_alloc BK175.out _) 0).trans rfl, (blk_cell (blk_alloc BK175.out _) 1).trans rfl, (blk_cell (blk_alloc BK175.out _) 2).trans rfl, (World.cell?_alloc_lt _ _ _ (World.block_lt_of_cell? _ _ ((zc HB hw200_0)))).trans ((zc HB hw200_0))⟩ (fun hHeld => ?_)
  clear hK K
  refine norm_ (a' := ?_) ?_ ?_
  rotate_left
  ·show Act.put _ (some 105) _ = _
   exact zap
  refine one_ (i := 10) (N := some 106) (zq 13 2047) rfl rfl (one_of HT_.out (by kernel_rfl)) (by decide) (fun K hK => ?_)
  refine Kd.R_append_step (Kd.int .i16) (w0 := w) w.heap.size (by rfl) (.tmp 97) (.tmp 105) 24 79 (.int .i16 0) 2 rfl Try.underlying24 info79 rfl (by decide) (by omega) u192002 x192002_4 (IntKind.i16.wrap ((rd l1_2 x10_4) + (IntKind.i16.wrap ((l0_1.length : Int))))) [.int .i16 (IntKind.i16.wrap ((rd l1_2 x10_4) + (IntKind.i16.wrap ((l0_1.length : Int)))))] (fun _ => True) (fun _ => False) rfl rfl ?aP (fun _ hk => hk.elim) ?aF ?aO ?aB ?aS ?aL ?_
  (case aP => exact rfl)
  (case aB => exact zbo)
  (case aF => exact (fun _ _ => trivial))
  (case aO => exact (ze HO_192002).out)
  (case aS => exact (zz HB))
  (case aL => have := LMc103.out; omega)
  intro v202 w109 ho hb hg hat
  rw [← Ny201.out] at ho
  have n_ : _ ∧ _ ∧ _ ∧ _ ∧ _ ∧ _ ∧ _ := ⟨Aside0.mk (Kd.R_over' (ze HO_192001).out (Kd.R_typed (ze HO_192002).out) (by decide) hg), Aside0.mk (blk_grown (g := gb174) (o := .cells #[.int .i8 a0_0, .slice A0_1 l0_1.length c0_1, .slice A0_2 l0_2.length c0_2] 31 (0, 0)) (zh BK174).out hg (Kd.R_ne HO_192002.out BK174.out (by decide))), Aside0.mk (blk_grown (g := gb175) (o := .cells #[.int .i8 a1_0, .slice A1_1 l1_1.length c1_1, .slice (some ad200) l1_2.length c1_2] 31 (0, 0)) (zh BK175).out hg (Kd.R_ne HO_192002.out BK175.out (by decide))), Aside0.mk (blk_grown (g := gb176) (o := .cells #[.int .i8 0, .slice none 0 0, .slice none 0 0] 31 (0, 0)) (zh BK176).out hg (Kd.R_ne HO_192002.out BK176.out (by decide))), Aside0.mk (blk_grown (g := gb191) (o := .cells #[.int .i8 a0_0, u192001, u192002] 31 (0, 0)) (zh BK191).out hg (Kd.R_ne HO_192002.out BK191.out (by decide))), Aside0.mk (hb), Aside0.mk (ho)⟩
  clear HO_192001 BK174 BK175 BK176 BK191 HB HO_192002
  obtain ⟨HO_192001, BK174, BK175, BK176, BK191, HB, HO203⟩ := n_
  clear ho hb hg hat
  obtain ⟨Ao110, co110, eo110⟩ := Kd.R_slice HO203.out
  (first | subst eo110 | (injection eo110 with f1_ f2_ f3_; have f4_ := f1_.symm; have f5_ := f3_.symm; clear f1_ f2_ f3_; subst f4_; subst f5_))
  refine hK.out _ _ ⟨(blk_cell BK191.out 0).trans rfl, (blk_cell BK191.out 1).trans rfl, (blk_cell BK191.out 2).trans rfl, (blk_cell BK175.out 0).trans rfl, (blk_cell BK175.out 1).trans rfl, (blk_cell BK175.out 2).trans rfl, (zc HB hw200_0)⟩ (fun hHeld => ?_)
  clear hK K
  refine norm_ (a' := ?_) ?_ ?_
  rotate_left
  ·show Act.put _ (some 106) _ = _
   exact zap
  refine zpu 11 (some 107) (zq 13 4095) HT_ ?_
  refine last_ (i := 12) (N := none) (zq 13 8191) rfl rfl (one_of HT_.out (by kernel_rfl)) (by decide) (fun K hK => ?_)
  have hs111 : w109.cell? ⟨gb191, 2, none⟩ = some (u192002) := (blk_cell BK191.out 2).trans rfl
  have hfs111 := blk_frozen BK191.out 2
  have hns111_0 := NB174_191.out
  have hns111_1 := NB175_191.out
  have hns111_2 := NB176_191.out
  have hms111_0 := NB191_174.out
  have hms111_1 := NB191_175.out
  have hms111_2 := NB191_176.out
  refine skip_ (w1 := ?_) (by rfl) rfl ?_ ?_
  rotate_left
  ·go_simp
   rfl
  refine hK.out _ _ ?_
  clear hK K
  refine done_ (done_of HT_.out (by kernel_rfl)) ?_
  try go_wp2
  go_roundg k4
  case measure => have := HJ2.out; have := HJ17.out; have := HK3.out; have := HK4.out; omega
  case rel => exact ⟨(wrap64 (x10_4 + 1)), (y201), (.slice Ao110 y201.length co110), zi, H', ⟨by have := HJ2.out; have := HJ17.out; have := HK3.out; have := HK4.out; omega⟩, ⟨Kd.R_mono (zs HO_192001 BK191).out (fun _ hk => trivial)⟩, ⟨Kd.R_mono (zs HO203 BK191).out (fun _ hk => trivial)⟩, zf BK174 NB174_191, zf BK175 NB175_191, zf BK176 NB176_191, ⟨zp BK191⟩, zba⟩
 rw [if_pos c60] at H
 have c60b0 : decide (x8_3 < (l1_1.length : Int)) = true := decide_eq_true c60
 clear c60
 by_cases c61 : 0 ≤ x8_3
 rotate_left
 ·rw [if_neg c61] at H
  exact absurd H (by simp)
 rw [if_pos c61] at H
 have c61b0 : decide (0 ≤ x8_3) = true := decide_eq_true c61
 clear c61
 by_cases c62 : ((rd_T81 l1_1 x8_3).f0) ≥ 2
 rotate_left
 ·rw [if_neg c62] at H
  have c62b0 : decide (2 ≤ ((rd_T81 l1_1 x8_3).f0)) = false := decide_eq_false c62
  clear c62
  by_cases c80 : x192001_3.length < 23456248059221
  rotate_left
  ·rw [if_neg c80] at H
   exact absurd H (by simp)
  rw [if_pos c80] at H
  have LMc80 := Aside0.mk c80
  clear c80
  obtain ⟨y197, hy197⟩ : ∃ y_ : List (S81), y_ = (x192001_3 ++ [(⟨(rd_T81 l1_1 x8_3).f0, (rd_T81 l1_1 x8_3).f1, (rd_T81 l1_1 x8_3).f2⟩ : S81)]) := ⟨_, rfl⟩
  replace H : (spec_BothNetworks.l0 k3 (IntKind.i16.wrap ((l0_1.length : Int))) (wrap64 (x8_3 + 1)) a1_0 l1_1 l1_2 a0_0 y197 y188) = some (r1, r2, r3, r4) := by first | (rw [hy197]; with_reducible exact H) | (have H2_ := (Option.bind_some _ _).symm.trans H; rw [hy197]; with_reducible exact H2_) | (have H2_ := (Option.bind_some _ _).symm.trans H; with_reducible exact H2_) | with_reducible exact H | (rw [hy197]; exact H) | exact H
  have Ny197 := Aside0.mk hy197
  clear hy197
  have H' := Aside0.mk H
  clear H
  have hnb81 := NB175_174.out
  have hnc81 := NB174_175.out
  have hnb82 := NB175_176.out
  have hnc82 := NB176_175.out
  have hnb83 := NB175_191.out
  have hnc83 := NB191_175.out
  obtain ⟨z84_0, z84_1, z84_2, y84_0, y84_1, y84_2⟩ := zB3 BK175
  have p192 : 0 ≤ (x8_3 : Int) := of_decide_eq_true zA
  have q192 : x8_3 < (l1_1.length : Int) := of_decide_eq_true zA
  obtain ⟨ad192, e192, hx192_0, hx192_1, hx192_2⟩ := at_T81 HR1_1.out x8_3 p192 q192
  cases e192
  replace hx192_0 := zc HB hx192_0
  replace hx192_1 := zc HB hx192_1
  replace hx192_2 := zc HB hx192_2
  replace p192 := eq_true p192
  replace q192 := eq_true q192
  go_wp2_with (first | ((with_reducible refine gate_dst (N := 9) rfl ?_); (try (refine gate_guard (by rfl) ?_; dsimp only)); refine zbx 9 #[.int .i8 0, .int .i16 0, .int .i16 0] 81 ?_; intro gb193 hg w85 hbox hb; have n_ : _ ∧ _ ∧ _ ∧ _ ∧ _ ∧ _ ∧ _ ∧ _ ∧ _ ∧ _ ∧ _ ∧ _ ∧ _ ∧ _ ∧ _ ∧ _ ∧ _ ∧ _ := ⟨Aside0.mk (Kd.R_below (Kd.R_elderB (ze HO_192001).out gb193 (Nat.le_of_eq hg.symm)) hb), zr HO_192002 hb, zk BK174 hb, zk BK175 hb, zk BK176 hb, zk BK191 hb, zbs hb, Aside0.mk (hbox), zg HB hg, zg HB hg, zn1 BK174 hg, zn2 BK174 hg, zn1 BK175 hg, zn2 BK175 hg, zn1 BK176 hg, zn2 BK176 hg, zn1 BK191 hg, zn2 BK191 hg⟩; clear HO_192001 HO_192002 BK174 BK175 BK176 BK191 HB; obtain ⟨HO_192001, HO_192002, BK174, BK175, BK176, BK191, HB, BK193, GW193, GE193, NB174_193, NB193_174, NB175_193, NB193_175, NB176_193, NB193_176, NB191_193, NB193_191⟩ := n_; clear hb hbox hg; have hnb86 := NB193_174.out; have hnc86 := NB174_193.out; have hnb87 := NB193_175.out; have hnc87 := NB175_193.out; have hnb88 := NB193_176.out; have hnc88 := NB176_193.out; have hnb89 := NB193_191.out; have hnc89 := NB191_193.out; obtain ⟨z90_0, z90_1, z90_2, y90_0, y90_1, y90_2⟩ := zB3 BK193; have hnb91 := NB191_174.out; have hnc91 := NB174_191.out; have hnb92 := NB191_176.out; have hnc92 := NB176_191.out; obtain ⟨z93_0, z93_1, z93_2, y93_0, y93_1, y93_2⟩ := zB3 BK191) | ((with_reducible refine gate_builtin (b := .append) (xs := #[.tmp 84, .tmp 86]) rfl ?_); (try (refine gate_guard (by rfl) ?_; dsimp only)); at_builtin; refine Kd.R_append k81 (w0 := w) w.heap.size rfl (.tmp 84) (.tmp 86) 29 81 (.agg #[(.int .i8 0), (.int .i16 0), (.int .i16 0)]) 6 rfl Try.underlying29 info81 rfl (by decide) (by omega) u192001 x192001_3 (⟨(rd_T81 l1_1 x8_3).f0, (rd_T81 l1_1 x8_3).f1, (rd_T81 l1_1 x8_3).f2⟩ : S81) [.int .i8 ((rd_T81 l1_1 x8_3).f0), .int .i16 ((rd_T81 l1_1 x8_3).f1), .int .i16 ((rd_T81 l1_1 x8_3).f2)] (fun k_ => k_ ≠ gb193) (fun _ => False) rfl (by first | (go_simp; done) | (go_simp; rfl)) ?aP (fun _ hk => hk.elim) ?aF ?aO ?aB ?aS ?aL ?_; (case aP => exact k81_mkM _ _ _ (⟨(rd_T81 l1_1 x8_3).f0, (rd_T81 l1_1 x8_3).f1, (rd_T81 l1_1 x8_3).f2⟩ : S81)); (case aB => exact zbo); (case aF => exact (fun k_ hk => Kd.freshB (g := gb193) (o := .cells #[.int .i8 ((rd_T81 l1_1 x8_3).f0), .int .i16 ((rd_T81 l1_1 x8_3).f1), .int .i16 ((rd_T81 l1_1 x8_3).f2)] 81 (0, 0)) (zp BK193) k_ hk)); (case aO => exact (by (with_reducible repeat (first | apply Kd.R_alloc | apply Kd.R_drewN | apply Kd.R_drew)); exact Kd.R_mono (Kd.R_far (p := ⟨gb193, 2, none⟩) (Kd.R_far (p := ⟨gb193, 1, none⟩) (Kd.R_far (p := ⟨gb193, 0, none⟩) (Kd.R_mono HO_192001.out (fun k_ hk => (⟨hk, hk.2⟩ : _ ∧ k_ ≠ gb193))) (fun _ hk => hk.2) (.int .i8 ((rd_T81 l1_1 x8_3).f0))) (fun _ hk => hk.2) (.int .i16 ((rd_T81 l1_1 x8_3).f1))) (fun _ hk => hk.2) (.int .i16 ((rd_T81 l1_1 x8_3).f2))) (fun _ hk => hk.1.2))); (case aS => exact (zz HB)); (case aL => have := LMc80.out; omega); intro v198 w94 ho hb hg hat; rw [← Ny197.out] at ho; have n_ : _ ∧ _ ∧ _ ∧ _ ∧ _ ∧ _ ∧ _ ∧ _ := ⟨Aside0.mk (Kd.R_over' (zs HO_192002 BK193).out (Kd.R_typed (by (with_reducible repeat (first | apply Kd.R_alloc | apply Kd.R_drewN | apply Kd.R_drew)); exact (Kd.R_mono (Kd.R_far (p := ⟨gb193, 2, none⟩) (Kd.R_far (p := ⟨gb193, 1, none⟩) (Kd.R_far (p := ⟨gb193, 0, none⟩) (Kd.R_mono HO_192001.out (fun k_ hk => (⟨hk, hk.2⟩ : _ ∧ k_ ≠ gb193))) (fun _ hk => hk.2) (.int .i8 ((rd_T81 l1_1 x8_3).f0))) (fun _ hk => hk.2) (.int .i16 ((rd_T81 l1_1 x8_3).f1))) (fun _ hk => hk.2) (.int .i16 ((rd_T81 l1_1 x8_3).f2))) (fun _ h_ => h_.1)))) (by decide) hg), Aside0.mk (blk_grown (g := gb174) (o := .cells #[.int .i8 a0_0, .slice A0_1 l0_1.length c0_1, .slice A0_2 l0_2.length c0_2] 31 (0, 0)) (zf BK174 NB174_193).out hg (Kd.R_ne HO_192001.out BK174.out (by decide))), Aside0.mk (blk_grown (g := gb175) (o := .cells #[.int .i8 a1_0, .slice (some ad192) l1_1.length c1_1, .slice A1_2 l1_2.length c1_2] 31 (0, 0)) (zf BK175 NB175_193).out hg (Kd.R_ne HO_192001.out BK175.out (by decide))), Aside0.mk (blk_grown (g := gb176) (o := .cells #[.int .i8 0, .slice none 0 0, .slice none 0 0] 31 (0, 0)) (zf BK176 NB176_193).out hg (Kd.R_ne HO_192001.out BK176.out (by decide))), Aside0.mk (blk_grown (g := gb191) (o := .cells #[.int .i8 a0_0, u192001, .slice Ao55 y188.length co55] 31 (0, 0)) (zf BK191 NB191_193).out hg (Kd.R_ne HO_192001.out BK191.out (by decide))), Aside0.mk (blk_grown (g := gb193) (o := .cells #[.int .i8 ((rd_T81 l1_1 x8_3).f0), .int .i16 ((rd_T81 l1_1 x8_3).f1), .int .i16 ((rd_T81 l1_1 x8_3).f2)] 81 (0, 0)) (zp BK193) hg (Kd.R_away HO_192001.out (fun _ hk => hk.2))), Aside0.mk (hb), Aside0.mk (ho)⟩; clear HO_192002 BK174 BK175 BK176 BK191 BK193 HB HO_192001; obtain ⟨HO_192002, BK174, BK175, BK176, BK191, BK193, HB, HO199⟩ := n_; clear ho hb hg hat; obtain ⟨Ao95, co95, eo95⟩ := Kd.R_slice HO199.out; subst eo95; obtain ⟨z96_0, z96_1, z96_2, y96_0, y96_1, y96_2⟩ := zB3 BK191))
  go_roundg k3
  case measure => have := HJ2.out; have := HJ17.out; have := HK3.out; omega
  case rel => exact ⟨(wrap64 (x8_3 + 1)), (y197), (.slice Ao95 y197.length co95), zi, H', ⟨by have := HJ2.out; have := HJ17.out; have := HK3.out; omega⟩, ⟨Kd.R_mono (zs HO199 BK191).out (fun _ hk => trivial)⟩, ⟨Kd.R_mono (zs HO_192002 BK191).out (fun _ hk => trivial)⟩, zf BK174 NB174_191, zf BK175 NB175_191, zf BK176 NB176_191, ⟨zp BK191⟩, zba⟩
 rw [if_pos c62] at H
 have c62b0 : decide (2 ≤ ((rd_T81 l1_1 x8_3).f0)) = true := decide_eq_true c62
 clear c62
 by_cases c63 : x192001_3.length < 23456248059221
 rotate_left
 ·rw [if_neg c63] at H
  exact absurd H (by simp)
 rw [if_pos c63] at H
 have LMc63 := Aside0.mk c63
 clear c63
 obtain ⟨y194, hy194⟩ : ∃ y_ : List (S81), y_ = (x192001_3 ++ [(⟨(rd_T81 l1_1 x8_3).f0, IntKind.i16.wrap (((rd_T81 l1_1 x8_3).f1) + (IntKind.i16.wrap ((l0_1.length : Int)))), IntKind.i16.wrap (((rd_T81 l1_1 x8_3).f2) + (IntKind.i16.wrap ((l0_1.length : Int))))⟩ : S81)]) := ⟨_, rfl⟩
 replace H : (spec_BothNetworks.l0 k3 (IntKind.i16.wrap ((l0_1.length : Int))) (wrap64 (x8_3 + 1)) a1_0 l1_1 l1_2 a0_0 y194 y188) = some (r1, r2, r3, r4) := by first | (rw [hy194]; with_reducible exact H) | (have H2_ := (Option.bind_some _ _).symm.trans H; rw [hy194]; with_reducible exact H2_) | (have H2_ := (Option.bind_some _ _).symm.trans H; with_reducible exact H2_) | with_reducible exact H | (rw [hy194]; exact H) | exact H
 have Ny194 := Aside0.mk hy194
 clear hy194
 have H' := Aside0.mk H
 clear H
 have hnb64 := NB175_174.out
 have hnc64 := NB174_175.out
 have hnb65 := NB175_176.out
 have hnc65 := NB176_175.out
 have hnb66 := NB175_191.out
 have hnc66 := NB191_175.out
 obtain ⟨z67_0, z67_1, z67_2, y67_0, y67_1, y67_2⟩ := zB3 BK175
 have p192 : 0 ≤ (x8_3 : Int) := of_decide_eq_true zA
 have q192 : x8_3 < (l1_1.length : Int) := of_decide_eq_true zA
 obtain ⟨ad192, e192, hx192_0, hx192_1, hx192_2⟩ := at_T81 HR1_1.out x8_3 p192 q192
 cases e192
 replace hx192_0 := zc HB hx192_0
 replace hx192_1 := zc HB hx192_1
 replace hx192_2 := zc HB hx192_2
 replace p192 := eq_true p192
 replace q192 := eq_true q192
 go_wp2_with (first | ((with_reducible refine gate_dst (N := 85) rfl ?_); have zz_ : Aside0 ((World.setCell (World.setCell (World.setCell (World.setCell (World.setCell w68 ⟨gb193, 0, none⟩ (.int .i8 ((rd_T81 l1_1 x8_3).f0))) ⟨gb193, 1, none⟩ (.int .i16 ((rd_T81 l1_1 x8_3).f1))) ⟨gb193, 2, none⟩ (.int .i16 ((rd_T81 l1_1 x8_3).f2))) ⟨gb193, 1, none⟩ (.int .i16 (IntKind.i16.wrap (((rd_T81 l1_1 x8_3).f1) + (IntKind.i16.wrap ((l0_1.length : Int))))))) ⟨gb193, 2, none⟩ (.int .i16 (IntKind.i16.wrap (((rd_T81 l1_1 x8_3).f2) + (IntKind.i16.wrap ((l0_1.length : Int))))))).heap[gb193]? = some (.cells #[.int .i8 ((rd_T81 l1_1 x8_3).f0), .int .i16 (IntKind.i16.wrap (((rd_T81 l1_1 x8_3).f1) + (IntKind.i16.wrap ((l0_1.length : Int))))), .int .i16 (IntKind.i16.wrap (((rd_T81 l1_1 x8_3).f2) + (IntKind.i16.wrap ((l0_1.length : Int)))))] 81 (0, 0))) := ⟨zp BK193⟩; obtain ⟨zz_0, zz_1, zz_2, zy_0, zy_1, zy_2⟩ := zB3 zz_; generalize hW_ : (World.setCell (World.setCell (World.setCell (World.setCell (World.setCell w68 ⟨gb193, 0, none⟩ (.int .i8 ((rd_T81 l1_1 x8_3).f0))) ⟨gb193, 1, none⟩ (.int .i16 ((rd_T81 l1_1 x8_3).f1))) ⟨gb193, 2, none⟩ (.int .i16 ((rd_T81 l1_1 x8_3).f2))) ⟨gb193, 1, none⟩ (.int .i16 (IntKind.i16.wrap (((rd_T81 l1_1 x8_3).f1) + (IntKind.i16.wrap ((l0_1.length : Int))))))) ⟨gb193, 2, none⟩ (.int .i16 (IntKind.i16.wrap (((rd_T81 l1_1 x8_3).f2) + (IntKind.i16.wrap ((l0_1.length : Int))))))) = wz_ at zz_0 zz_1 zz_2 zy_0 zy_1 zy_2 ⊢; have hWz_ := Aside0.mk hW_; clear hW_ zz_; go_step; go_step; have hW_ := hWz_.out; clear hWz_; subst hW_) | ((with_reducible refine gate_dst (N := 9) rfl ?_); (try (refine gate_guard (by rfl) ?_; dsimp only)); refine zbx 9 #[.int .i8 0, .int .i16 0, .int .i16 0] 81 ?_; intro gb193 hg w68 hbox hb; have n_ : _ ∧ _ ∧ _ ∧ _ ∧ _ ∧ _ ∧ _ ∧ _ ∧ _ ∧ _ ∧ _ ∧ _ ∧ _ ∧ _ ∧ _ ∧ _ ∧ _ ∧ _ := ⟨Aside0.mk (Kd.R_below (Kd.R_elderB (ze HO_192001).out gb193 (Nat.le_of_eq hg.symm)) hb), zr HO_192002 hb, zk BK174 hb, zk BK175 hb, zk BK176 hb, zk BK191 hb, zbs hb, Aside0.mk (hbox), zg HB hg, zg HB hg, zn1 BK174 hg, zn2 BK174 hg, zn1 BK175 hg, zn2 BK175 hg, zn1 BK176 hg, zn2 BK176 hg, zn1 BK191 hg, zn2 BK191 hg⟩; clear HO_192001 HO_192002 BK174 BK175 BK176 BK191 HB; obtain ⟨HO_192001, HO_192002, BK174, BK175, BK176, BK191, HB, BK193, GW193, GE193, NB174_193, NB193_174, NB175_193, NB193_175, NB176_193, NB193_176, NB191_193, NB193_191⟩ := n_; clear hb hbox hg; have hnb69 := NB193_174.out; have hnc69 := NB174_193.out; have hnb70 := NB193_175.out; have hnc70 := NB175_193.out; have hnb71 := NB193_176.out; have hnc71 := NB176_193.out; have hnb72 := NB193_191.out; have hnc72 := NB191_193.out; obtain ⟨z73_0, z73_1, z73_2, y73_0, y73_1, y73_2⟩ := zB3 BK193; have hnb74 := NB191_174.out; have hnc74 := NB174_191.out; have hnb75 := NB191_176.out; have hnc75 := NB176_191.out; obtain ⟨z76_0, z76_1, z76_2, y76_0, y76_1, y76_2⟩ := zB3 BK191) | ((with_reducible refine gate_builtin (b := .append) (xs := #[.tmp 84, .tmp 86]) rfl ?_); (try (refine gate_guard (by rfl) ?_; dsimp only)); at_builtin; refine Kd.R_append k81 (w0 := w) w.heap.size rfl (.tmp 84) (.tmp 86) 29 81 (.agg #[(.int .i8 0), (.int .i16 0), (.int .i16 0)]) 6 rfl Try.underlying29 info81 rfl (by decide) (by omega) u192001 x192001_3 (⟨(rd_T81 l1_1 x8_3).f0, IntKind.i16.wrap (((rd_T81 l1_1 x8_3).f1) + (IntKind.i16.wrap ((l0_1.length : Int)))), IntKind.i16.wrap (((rd_T81 l1_1 x8_3).f2) + (IntKind.i16.wrap ((l0_1.length : Int))))⟩ : S81) [.int .i8 ((rd_T81 l1_1 x8_3).f0), .int .i16 (IntKind.i16.wrap (((rd_T81 l1_1 x8_3).f1) + (IntKind.i16.wrap ((l0_1.length : Int))))), .int .i16 (IntKind.i16.wrap (((rd_T81 l1_1 x8_3).f2) + (IntKind.i16.wrap ((l0_1.length : Int)))))] (fun k_ => k_ ≠ gb193) (fun _ => False) rfl (by first | (go_simp; done) | (go_simp; rfl)) ?aP (fun _ hk => hk.elim) ?aF ?aO ?aB ?aS ?aL ?_; (case aP => exact k81_mkM _ _ _ (⟨(rd_T81 l1_1 x8_3).f0, IntKind.i16.wrap (((rd_T81 l1_1 x8_3).f1) + (IntKind.i16.wrap ((l0_1.length : Int)))), IntKind.i16.wrap (((rd_T81 l1_1 x8_3).f2) + (IntKind.i16.wrap ((l0_1.length : Int))))⟩ : S81)); (case aB => exact zbo); (case aF => exact (fun k_ hk => Kd.freshB (g := gb193) (o := .cells #[.int .i8 ((rd_T81 l1_1 x8_3).f0), .int .i16 (IntKind.i16.wrap (((rd_T81 l1_1 x8_3).f1) + (IntKind.i16.wrap ((l0_1.length : Int))))), .int .i16 (IntKind.i16.wrap (((rd_T81 l1_1 x8_3).f2) + (IntKind.i16.wrap ((l0_1.length : Int)))))] 81 (0, 0)) (zp BK193) k_ hk)); (case aO => exact (by (with_reducible repeat (first | apply Kd.R_alloc | apply Kd.R_drewN | apply Kd.R_drew)); exact Kd.R_mono (Kd.R_far (p := ⟨gb193, 2, none⟩) (Kd.R_far (p := ⟨gb193, 1, none⟩) (Kd.R_far (p := ⟨gb193, 2, none⟩) (Kd.R_far (p := ⟨gb193, 1, none⟩) (Kd.R_far (p := ⟨gb193, 0, none⟩) (Kd.R_mono HO_192001.out (fun k_ hk => (⟨hk, hk.2⟩ : _ ∧ k_ ≠ gb193))) (fun _ hk => hk.2) (.int .i8 ((rd_T81 l1_1 x8_3).f0))) (fun _ hk => hk.2) (.int .i16 ((rd_T81 l1_1 x8_3).f1))) (fun _ hk => hk.2) (.int .i16 ((rd_T81 l1_1 x8_3).f2))) (fun _ hk => hk.2) (.int .i16 (IntKind.i16.wrap (((rd_T81 l1_1 x8_3).f1) + (IntKind.i16.wrap ((l0_1.length : Int))))))) (fun _ hk => hk.2) (.int .i16 (IntKind.i16.wrap (((rd_T81 l1_1 x8_3).f2) + (IntKind.i16.wrap ((l0_1.length : Int))))))) (fun _ hk => hk.1.2))); (case aS => exact (zz HB)); (case aL => have := LMc63.out; omega); intro v195 w77 ho hb hg hat; rw [← Ny194.out] at ho; have n_ : _ ∧ _ ∧ _ ∧ _ ∧ _ ∧ _ ∧ _ ∧ _ := ⟨Aside0.mk (Kd.R_over' (zs HO_192002 BK193).out (Kd.R_typed (by (with_reducible repeat (first | apply Kd.R_alloc | apply Kd.R_drewN | apply Kd.R_drew)); exact (Kd.R_mono (Kd.R_far (p := ⟨gb193, 2, none⟩) (Kd.R_far (p := ⟨gb193, 1, none⟩) (Kd.R_far (p := ⟨gb193, 2, none⟩) (Kd.R_far (p := ⟨gb193, 1, none⟩) (Kd.R_far (p := ⟨gb193, 0, none⟩) (Kd.R_mono HO_192001.out (fun k_ hk => (⟨hk, hk.2⟩ : _ ∧ k_ ≠ gb193))) (fun _ hk => hk.2) (.int .i8 ((rd_T81 l1_1 x8_3).f0))) (fun _ hk => hk.2) (.int .i16 ((rd_T81 l1_1 x8_3).f1))) (fun _ hk => hk.2) (.int .i16 ((rd_T81 l1_1 x8_3).f2))) (fun _ hk => hk.2) (.int .i16 (IntKind.i16.wrap (((rd_T81 l1_1 x8_3).f1) + (IntKind.i16.wrap ((l0_1.length : Int))))))) (fun _ hk => hk.2) (.int .i16 (IntKind.i16.wrap (((rd_T81 l1_1 x8_3).f2) + (IntKind.i16.wrap ((l0_1.length : Int))))))) (fun _ h_ => h_.1)))) (by decide) hg), Aside0.mk (blk_grown (g := gb174) (o := .cells #[.int .i8 a0_0, .slice A0_1 l0_1.length c0_1, .slice A0_2 l0_2.length c0_2] 31 (0, 0)) (zf BK174 NB174_193).out hg (Kd.R_ne HO_192001.out BK174.out (by decide))), Aside0.mk (blk_grown (g := gb175) (o := .cells #[.int .i8 a1_0, .slice (some ad192) l1_1.length c1_1, .slice A1_2 l1_2.length c1_2] 31 (0, 0)) (zf BK175 NB175_193).out hg (Kd.R_ne HO_192001.out BK175.out (by decide))), Aside0.mk (blk_grown (g := gb176) (o := .cells #[.int .i8 0, .slice none 0 0, .slice none 0 0] 31 (0, 0)) (zf BK176 NB176_193).out hg (Kd.R_ne HO_192001.out BK176.out (by decide))), Aside0.mk (blk_grown (g := gb191) (o := .cells #[.int .i8 a0_0, u192001, .slice Ao55 y188.length co55] 31 (0, 0)) (zf BK191 NB191_193).out hg (Kd.R_ne HO_192001.out BK191.out (by decide))), Aside0.mk (blk_grown (g := gb193) (o := .cells #[.int .i8 ((rd_T81 l1_1 x8_3).f0), .int .i16 (IntKind.i16.wrap (((rd_T81 l1_1 x8_3).f1) + (IntKind.i16.wrap ((l0_1.length : Int))))), .int .i16 (IntKind.i16.wrap (((rd_T81 l1_1 x8_3).f2) + (IntKind.i16.wrap ((l0_1.length : Int)))))] 81 (0, 0)) (zp BK193) hg (Kd.R_away HO_192001.out (fun _ hk => hk.2))), Aside0.mk (hb), Aside0.mk (ho)⟩; clear HO_192002 BK174 BK175 BK176 BK191 BK193 HB HO_192001; obtain ⟨HO_192002, BK174, BK175, BK176, BK191, BK193, HB, HO196⟩ := n_; clear ho hb hg hat; obtain ⟨Ao78, co78, eo78⟩ := Kd.R_slice HO196.out; subst eo78; obtain ⟨z79_0, z79_1, z79_2, y79_0, y79_1, y79_2⟩ := zB3 BK191))
 go_roundg k3
 case measure => have := HJ2.out; have := HJ17.out; have := HK3.out; omega
 case rel => exact ⟨(wrap64 (x8_3 + 1)), (y194), (.slice Ao78 y194.length co78), zi, H', ⟨by have := HJ2.out; have := HJ17.out; have := HK3.out; omega⟩, ⟨Kd.R_mono (zs HO196 BK191).out (fun _ hk => trivial)⟩, ⟨Kd.R_mono (zs HO_192002 BK191).out (fun _ hk => trivial)⟩, zf BK174 NB174_191, zf BK175 NB175_191, zf BK176 NB176_191, ⟨zp BK191⟩, zba⟩
end Go.Proofs.Ytmpmanfoiocfgaa.PFnExactBothNetworks
