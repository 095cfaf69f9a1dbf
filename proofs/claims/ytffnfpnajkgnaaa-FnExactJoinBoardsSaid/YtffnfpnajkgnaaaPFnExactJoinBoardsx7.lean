-- WRITTEN by xprint.py, a program of this session's. Not trusted: Lean checks it.
-- packed by pack.py
import Derived.Test.YtffnfpnajkgnaaaPFnExactJoinBoardsx0
import Derived.Test.YtffnfpnajkgnaaaPFnExactJoinBoardsx4
import Derived.Test.YtffnfpnajkgnaaaPFnExactJoinBoardsx5
import Derived.Test.YtffnfpnajkgnaaaPFnExactJoinBoardsx6
import Derived.Test.YtffnfpnajkgnaaaTFnExactJoinBoardsa
namespace Go.Proofs.Ytffnfpnajkgnaaa.PFnExactJoinBoards
open Go.RowKit Go.Proofs.YtffnfpnajkgnaaaW.PrintWords Go.Proofs.YtffnfpnajkgnaaaW.PrintLast Go.Proofs.YtffnfpnajkgnaaaW.PrintMore Go.Proofs.YtffnfpnajkgnaaaX
attribute [local go_sem] max2_int min2_int max_two min_two max_three min_three max_four min_four   -- for this text's walks alone
set_option maxHeartbeats 8000000
set_option maxRecDepth 100000
set_option linter.unusedVariables false
set_option linter.unusedSimpArgs false

mutual
def spec_JoinBoards.j0 : Nat → Bool → Int → Int → List (S91) → Int → Int → List (S91) → Option (Int × Int × (List (S91)) × Int)
  | 0, _, _, _, _, _, _, _ => none
  | k + 1, x14, x193000, x193001, x193002, x194000, x194001, x194002 => if x14 = true then (some (0, 0, ([] : List (S91)), 1)) else (spec_JoinBoards.l0 k 0 x193000 x193001 x193002 x194000 x194001 x194002)
def spec_JoinBoards.l0 : Nat → Int → Int → Int → List (S91) → Int → Int → List (S91) → Option (Int × Int × (List (S91)) × Int)
  | 0, _, _, _, _, _, _, _ => none
  | k + 1, x6, x193000, x193001, x193002, x194000, x194001, x194002 => if x6 < (x194002.length : Int) then (if 0 ≤ x6 then ((spec_l01In.f ((rd_T91 x194002 x6).f0.f0) ((rd_T91 x194002 x6).f0.f1) (wrap64 (x193000)) (wrap64 (x193001))).bind fun t198 => (if t198 = true then (spec_JoinBoards.l0 k (wrap64 (x6 + 1)) x193000 x193001 x193002 x194000 x194001 x194002) else (some (0, 0, ([] : List (S91)), 2)))) else (none)) else (spec_JoinBoards.l1 k 0 x193000 x193001 x193002 x194000 x194001 x194002)
def spec_JoinBoards.l1 : Nat → Int → Int → Int → List (S91) → Int → Int → List (S91) → Option (Int × Int × (List (S91)) × Int)
  | 0, _, _, _, _, _, _, _ => none
  | k + 1, x7, x193000, x193001, x193002, x194000, x194001, x194002 => if x7 < (x194002.length : Int) then (if 0 ≤ x7 then ((spec_l01Find.f k [(⟨x193000, x193001, x193002⟩ : S37)] ((rd_T91 x194002 x7).f0.f0) ((rd_T91 x194002 x7).f0.f1)).bind fun t200 => (if t200 ≥ 0 then (some (0, 0, ([] : List (S91)), 4)) else (spec_JoinBoards.l1 k (wrap64 (x7 + 1)) x193000 x193001 x193002 x194000 x194001 x194002))) else (none)) else (if (wrap64 ((x193002.length : Int) + (x194002.length : Int))) > 200 then (some (0, 0, ([] : List (S91)), 3)) else ((spec_l01Copy.f [(⟨x193000, x193001, x193002⟩ : S37)]).bind fun bt201 => (if bt201.2.2.length + x194002.length < 28147497671065 then (some (bt201.1, bt201.2.1, (bt201.2.2 ++ x194002), 0)) else (none))))
end
def spec_JoinBoards.f (k : Nat) (a0_0 : Int) (a0_1 : Int) (l0_2 : List (S91)) (a1_0 : Int) (a1_1 : Int) (l1_2 : List (S91)) : Option (Int × Int × (List (S91)) × Int) := (spec_l01Ok.f k [(⟨a0_0, a0_1, l0_2⟩ : S37)]).bind fun t195 => (if t195 = true then ((spec_l01Ok.f k [(⟨a1_0, a1_1, l1_2⟩ : S37)]).bind fun t196 => (spec_JoinBoards.j0 k (!t196) a0_0 a0_1 l0_2 a1_0 a1_1 l1_2)) else (spec_JoinBoards.j0 k true a0_0 a0_1 l0_2 a1_0 a1_1 l1_2))
theorem spec_JoinBoards.mono_l : ∀ k, (∀ y0 y1 y2 y3 y4 y5 y6, LeO (spec_JoinBoards.j0 k y0 y1 y2 y3 y4 y5 y6) (spec_JoinBoards.j0 (k + 1) y0 y1 y2 y3 y4 y5 y6)) ∧ (∀ y0 y1 y2 y3 y4 y5 y6, LeO (spec_JoinBoards.l0 k y0 y1 y2 y3 y4 y5 y6) (spec_JoinBoards.l0 (k + 1) y0 y1 y2 y3 y4 y5 y6)) ∧ (∀ y0 y1 y2 y3 y4 y5 y6, LeO (spec_JoinBoards.l1 k y0 y1 y2 y3 y4 y5 y6) (spec_JoinBoards.l1 (k + 1) y0 y1 y2 y3 y4 y5 y6))
  | 0 => ⟨fun _ _ _ _ _ _ _ r h => by simp [spec_JoinBoards.j0] at h, fun _ _ _ _ _ _ _ r h => by simp [spec_JoinBoards.l0] at h, fun _ _ _ _ _ _ _ r h => by simp [spec_JoinBoards.l1] at h⟩
  | k + 1 => by
    obtain ⟨ih0, ih1, ih2⟩ := spec_JoinBoards.mono_l k
    refine ⟨?_, ?_, ?_⟩
    · intro y0 y1 y2 y3 y4 y5 y6
      unfold spec_JoinBoards.j0
      repeat' first | (with_reducible first | apply ih0 | apply ih1 | apply ih2 | apply spec_l01Find.mono | apply spec_l01Ok.mono | exact LeO.refl _ | exact LeO.none _ | refine LeO.ite ?_ ?_ | refine LeO.bind ?_ (fun _ => ?_)) | apply ih0 | apply ih1 | apply ih2 | apply spec_l01Find.mono | apply spec_l01Ok.mono | exact LeO.none _ | refine LeO.ite ?_ ?_ | refine LeO.bind ?_ (fun _ => ?_)
    · intro y0 y1 y2 y3 y4 y5 y6
      unfold spec_JoinBoards.l0
      repeat' first | (with_reducible first | apply ih0 | apply ih1 | apply ih2 | apply spec_l01Find.mono | apply spec_l01Ok.mono | exact LeO.refl _ | exact LeO.none _ | refine LeO.ite ?_ ?_ | refine LeO.bind ?_ (fun _ => ?_)) | apply ih0 | apply ih1 | apply ih2 | apply spec_l01Find.mono | apply spec_l01Ok.mono | exact LeO.none _ | refine LeO.ite ?_ ?_ | refine LeO.bind ?_ (fun _ => ?_)
    · intro y0 y1 y2 y3 y4 y5 y6
      unfold spec_JoinBoards.l1
      repeat' first | (with_reducible first | apply ih0 | apply ih1 | apply ih2 | apply spec_l01Find.mono | apply spec_l01Ok.mono | exact LeO.refl _ | exact LeO.none _ | refine LeO.ite ?_ ?_ | refine LeO.bind ?_ (fun _ => ?_)) | apply ih0 | apply ih1 | apply ih2 | apply spec_l01Find.mono | apply spec_l01Ok.mono | exact LeO.none _ | refine LeO.ite ?_ ?_ | refine LeO.bind ?_ (fun _ => ?_)
theorem spec_JoinBoards.mono : ∀ a0 a1 a2 a3 a4 a5 k, LeO (spec_JoinBoards.f k a0 a1 a2 a3 a4 a5) (spec_JoinBoards.f (k + 1) a0 a1 a2 a3 a4 a5) := by
 intro a0 a1 a2 a3 a4 a5 k
 obtain ⟨ih0, ih1, ih2⟩ := spec_JoinBoards.mono_l k
 unfold spec_JoinBoards.f
 repeat' first | (with_reducible first | apply ih0 | apply ih1 | apply ih2 | apply spec_l01Find.mono | apply spec_l01Ok.mono | exact LeO.refl _ | exact LeO.none _ | refine LeO.ite ?_ ?_ | refine LeO.bind ?_ (fun _ => ?_)) | apply ih0 | apply ih1 | apply ih2 | apply spec_l01Find.mono | apply spec_l01Ok.mono | exact LeO.none _ | refine LeO.ite ?_ ?_ | refine LeO.bind ?_ (fun _ => ?_)
def spec_JoinBoards.T6 : Bool × List (List Nat × List Nat) := (true, [([], []), ([0], [0]), ([], []), ([1, 2], [1, 2]), ([3], [3]), ([4], [4]), ([], []), ([6], [6]), ([7], [7]), ([], []), ([9], [9]), ([10], [10]), ([5, 8, 11], [5, 8, 11]), ([12], [12])])
def spec_JoinBoards.B6 : List Nat := [0, 1, 0, 7, 15, 31, 0, 64, 192, 0, 512, 1536, 4095, 8191]
theorem spec_JoinBoards.tab6 : rtab .any (opsOf Try.f71 6) = spec_JoinBoards.T6 := by kernel_rfl
theorem spec_JoinBoards.bits6 : waitsOk spec_JoinBoards.T6.2 spec_JoinBoards.B6 = true := by kernel_rfl
theorem spec_JoinBoards.calls (k : Nat) (a0_0 : Int) (a0_1 : Int) (A0_2 : Option Addr) (c0_2 : Nat) (l0_2 : List (S91)) (a1_0 : Int) (a1_1 : Int) (A1_2 : Option Addr) (c1_2 : Nat) (l1_2 : List (S91)) (r1 : Int) (r2 : Int) (r3 : List (S91)) (r4 : Int) (w : World) (hr0_2 : Kd.C k91 w A0_2 l0_2.length l0_2) (hc0_2 : l0_2.length ≤ c0_2) (hr1_2 : Kd.C k91 w A1_2 l1_2.length l1_2) (hc1_2 : l1_2.length ≤ c1_2) (h : spec_JoinBoards.f k a0_0 a0_1 l0_2 a1_0 a1_1 l1_2 = some (r1, r2, r3, r4)) :
    Calls Try.prog 71 #[.agg #[.int .i8 a0_0, .int .i8 a0_1, .slice A0_2 l0_2.length c0_2], .agg #[.int .i8 a1_0, .int .i8 a1_1, .slice A1_2 l1_2.length c1_2]] w fun e w' => ∃ v2_ : Value, e = .returned (.tuple #[.agg #[.int .i8 r1, .int .i8 r2, v2_], .int .i64 r4]) ∧ Kd.R k91 91 w' w.heap.size (fun _ => True) v2_ r3 ∧ Below w.heap.size w w' := by
 have hu37 := Try.underlying37
 have hu74 := Try.underlying74
 have HR0_2 := Aside0.mk hr0_2
 have HC0_2 := Aside0.mk hc0_2
 clear hr0_2 hc0_2
 have HR1_2 := Aside0.mk hr1_2
 have HC1_2 := Aside0.mk hc1_2
 clear hr1_2 hc1_2
 have HB := Aside0.mk (Below.refl w.heap.size w)
 have H : ((spec_l01Ok.f k [(⟨a0_0, a0_1, l0_2⟩ : S37)]).bind fun t195 => (if t195 = true then ((spec_l01Ok.f k [(⟨a1_0, a1_1, l1_2⟩ : S37)]).bind fun t196 => (spec_JoinBoards.j0 k (!t196) a0_0 a0_1 l0_2 a1_0 a1_1 l1_2)) else (spec_JoinBoards.j0 k true a0_0 a0_1 l0_2 a1_0 a1_1 l1_2))) = some (r1, r2, r3, r4) := h
 clear h
 have HC3 := Aside0.mk H
 clear H
 go_enter Try.func71, Try.ntmps71
 go_upto_region 1 with (first | ((with_reducible refine gate_dst (N := 2) rfl ?_); refine zbx 2 #[.int .i8 a0_0, .int .i8 a0_1, .slice A0_2 l0_2.length c0_2] 37 ?_; intro gb192 hg w4 hbox hb; have n_ : _ ∧ _ ∧ _ ∧ _ := ⟨zb HB hb, Aside0.mk (hbox), zg HB hg, zg HB hg⟩; clear HB; obtain ⟨HB, BK192, GW192, GE192⟩ := n_; clear hb hbox hg) | ((with_reducible refine gate_dst (N := 3) rfl ?_); refine zbx 3 #[.int .i8 a1_0, .int .i8 a1_1, .slice A1_2 l1_2.length c1_2] 37 ?_; intro gb193 hg w5 hbox hb; have n_ : _ ∧ _ ∧ _ ∧ _ ∧ _ ∧ _ ∧ _ := ⟨zk BK192 hb, zbs hb, Aside0.mk (hbox), zg HB hg, zg HB hg, zn1 BK192 hg, zn2 BK192 hg⟩; clear BK192 HB; obtain ⟨BK192, HB, BK193, GW193, GE193, NB192_193, NB193_192⟩ := n_; clear hb hbox hg) | ((with_reducible refine gate_dst (N := 4) rfl ?_); refine zbx 4 #[.int .i8 0, .int .i8 0, .slice none 0 0] 37 ?_; intro gb194 hg w6 hbox hb; have n_ : _ ∧ _ ∧ _ ∧ _ ∧ _ ∧ _ ∧ _ ∧ _ ∧ _ ∧ _ := ⟨zk BK192 hb, zk BK193 hb, zbs hb, Aside0.mk (hbox), zg HB hg, zg HB hg, zn1 BK192 hg, zn2 BK192 hg, zn1 BK193 hg, zn2 BK193 hg⟩; clear BK192 BK193 HB; obtain ⟨BK192, BK193, HB, BK194, GW194, GE194, NB192_194, NB194_192, NB193_194, NB194_193⟩ := n_; clear hb hbox hg))
 (try simp only [Act.put, List.setIfInBounds_toArray, List.set_cons_zero, List.set_cons_succ])
 go_cut [14] (fun v14 wc => ∃ (kq : Nat) (x14_2 : Bool), v14 = .bool x14_2 ∧ Aside0 (spec_JoinBoards.j0 kq x14_2 a0_0 a0_1 l0_2 a1_0 a1_1 l1_2 = some (r1, r2, r3, r4)) ∧ Aside0 (kq ≤ k) ∧ Aside0 (wc.heap[gb192]? = some (.cells #[.int .i8 a0_0, .int .i8 a0_1, (.slice A0_2 l0_2.length c0_2)] 37 (0, 0))) ∧ Aside0 (wc.heap[gb193]? = some (.cells #[.int .i8 a1_0, .int .i8 a1_1, (.slice A1_2 l1_2.length c1_2)] 37 (0, 0))) ∧ Aside0 (wc.heap[gb194]? = some (.cells #[.int .i8 0, .int .i8 0, (.slice none 0 0)] 37 (0, 0))) ∧ Aside0 (Below w.heap.size w wc))
 case first =>
  have H := HC3.out
  clear HC3
  replace H := zob H
  obtain ⟨t195, A70, H⟩ := H
  replace H : (if t195 = true then ((spec_l01Ok.f k [(⟨a1_0, a1_1, l1_2⟩ : S37)]).bind fun t196 => (spec_JoinBoards.j0 k (!t196) a0_0 a0_1 l0_2 a1_0 a1_1 l1_2)) else (spec_JoinBoards.j0 k true a0_0 a0_1 l0_2 a1_0 a1_1 l1_2)) = some (r1, r2, r3, r4) := H
  have A7 := Aside0.mk A70
  clear A70
  by_cases c8 : t195 = true
  rotate_left
  ·replace c8 := Bool.eq_false_iff.mpr c8
   subst c8
   have H1 : (spec_JoinBoards.j0 k true a0_0 a0_1 l0_2 a1_0 a1_1 l1_2) = some (r1, r2, r3, r4) := by rw [if_neg (show ¬ (false = true) by decide)] at H; exact H
   clear H
   have H := H1
   clear H1
   have H' := Aside0.mk H
   clear H
   go_wp2_with (first | ((with_reducible refine gate_callee (f := 106) rfl ?_); refine goesL_ (some 9) rfl rfl Try.func106 (by kernel_rfl) rfl #[.pointer (some ⟨gb192, 0, none⟩)] rfl zm ?_; (with_reducible refine (spec_l01Ok.calls k _ [(⟨a0_0, a0_1, l0_2⟩ : S37)] false _ ?side1 A7.out).mono ?_); (case side1 => refine ro_of_blk (T := 37) (cs := #[.int .i8 a0_0, .int .i8 a0_1, .slice A0_2 l0_2.length c0_2]) (zh BK192).out ?_; exact k37_mk _ (⟨a0_0, a0_1, l0_2⟩ : S37) (by exact HC0_2.out) (by exact zcc HB HR0_2.out)); rintro e w12 ⟨rfl, hb⟩; refine ⟨_, rfl, ?_⟩; have n_ : _ ∧ _ ∧ _ ∧ _ := ⟨zk BK192 hb, zk BK193 hb, zk BK194 hb, zbs hb⟩; clear BK192 BK193 BK194 HB; obtain ⟨BK192, BK193, BK194, HB⟩ := n_; (try clear hb); (try clear hb2); (try clear hk); (try clear hi)))
   go_meet
   case rel => exact ⟨_, (true), zi, H', ⟨by first | omega | exact Nat.le_refl _⟩, zh BK192, zh BK193, zh BK194, zba⟩
  subst c8
  have H1 : ((spec_l01Ok.f k [(⟨a1_0, a1_1, l1_2⟩ : S37)]).bind fun t196 => (spec_JoinBoards.j0 k (!t196) a0_0 a0_1 l0_2 a1_0 a1_1 l1_2)) = some (r1, r2, r3, r4) := by rw [if_pos rfl] at H; exact H
  clear H
  have H := H1
  clear H1
  replace H := zob H
  obtain ⟨t196, A90, H⟩ := H
  replace H : (spec_JoinBoards.j0 k (!t196) a0_0 a0_1 l0_2 a1_0 a1_1 l1_2) = some (r1, r2, r3, r4) := H
  have A9 := Aside0.mk A90
  clear A90
  have H' := Aside0.mk H
  clear H
  go_wp2_with (first | ((with_reducible refine gate_callee (f := 106) rfl ?_); refine goesL_ (some 9) rfl rfl Try.func106 (by kernel_rfl) rfl #[.pointer (some ⟨gb192, 0, none⟩)] rfl zm ?_; (with_reducible refine (spec_l01Ok.calls k _ [(⟨a0_0, a0_1, l0_2⟩ : S37)] true _ ?side1 A7.out).mono ?_); (case side1 => refine ro_of_blk (T := 37) (cs := #[.int .i8 a0_0, .int .i8 a0_1, .slice A0_2 l0_2.length c0_2]) (zh BK192).out ?_; exact k37_mk _ (⟨a0_0, a0_1, l0_2⟩ : S37) (by exact HC0_2.out) (by exact zcc HB HR0_2.out)); rintro e w10 ⟨rfl, hb⟩; refine ⟨_, rfl, ?_⟩; have n_ : _ ∧ _ ∧ _ ∧ _ := ⟨zk BK192 hb, zk BK193 hb, zk BK194 hb, zbs hb⟩; clear BK192 BK193 BK194 HB; obtain ⟨BK192, BK193, BK194, HB⟩ := n_; (try clear hb); (try clear hb2); (try clear hk); (try clear hi)) | (go_at_call 106; (with_reducible refine (spec_l01Ok.calls k _ [(⟨a1_0, a1_1, l1_2⟩ : S37)] t196 _ ?side1 A9.out).mono ?_); (case side1 => refine ro_of_blk (T := 37) (cs := #[.int .i8 a1_0, .int .i8 a1_1, .slice A1_2 l1_2.length c1_2]) (zh BK193).out ?_; exact k37_mk _ (⟨a1_0, a1_1, l1_2⟩ : S37) (by exact HC1_2.out) (by exact zcc HB HR1_2.out)); rintro e w11 ⟨rfl, hb⟩; have n_ : _ ∧ _ ∧ _ ∧ _ := ⟨zk BK192 hb, zk BK193 hb, zk BK194 hb, zbs hb⟩; clear BK192 BK193 BK194 HB; obtain ⟨BK192, BK193, BK194, HB⟩ := n_; (try clear hb); (try clear hb2); (try clear hk); (try clear hi)))
  go_meet
  case rel => exact ⟨_, (!t196), zi, H', ⟨by first | omega | exact Nat.le_refl _⟩, zh BK192, zh BK193, zh BK194, zba⟩
 clear HC3
 try clear c1
 try clear p2
 try clear c7
 try clear c8
 try clear c10
 obtain ⟨kq, x14_2, rfl, HA, HJ2, BK192, BK193, BK194, HB⟩ := hcut
 cases kq with
 | zero => exact absurd HA.out (by simp [spec_JoinBoards.j0])
 | succ kj2 => ?_
 have H := HA.out
 clear HA
 simp only [spec_JoinBoards.j0] at H
 by_cases c13 : x14_2 = true
 ·subst c13
  have H1 : (some (0, 0, ([] : List (S91)), 1)) = some (r1, r2, r3, r4) := by rw [if_pos rfl] at H; exact H
  clear H
  have H := H1
  clear H1
  simp only [Option.some.injEq, Prod.mk.injEq] at H
  obtain ⟨rfl, rfl, rfl, rfl⟩ := H
  have hnb14 := NB194_192.out
  have hnc14 := NB192_194.out
  have hnb15 := NB194_193.out
  have hnc15 := NB193_194.out
  obtain ⟨z16_0, z16_1, z16_2, y16_0, y16_1, y16_2⟩ := zB3 BK194
  go_wp2
  refine bodyPost_ret (results_ct rfl _ _ gb194 37 #[.int .i8 0, .int .i8 0, .slice none 0 0] (0, 0) _ rfl (zp BK194) Try.underlying37 rfl (by kernel_rfl)) rfl ?_
  exact ⟨_, zv, by first | exact Kd.R_nil _ _ _ _ _ | exact Kd.N_nil _ _ _ _ _ | exact Kd.V_nil _ _ _ _ _ | exact Kd.Q_nil _ _ _ _ _ | exact Kd.S_nil _ _ _ _ _, zbo⟩
 replace c13 := Bool.eq_false_iff.mpr c13
 subst c13
 have H1 : (spec_JoinBoards.l0 kj2 0 a0_0 a0_1 l0_2 a1_0 a1_1 l1_2) = some (r1, r2, r3, r4) := by rw [if_neg (show ¬ (false = true) by decide)] at H; exact H
 clear H
 have H := H1
 clear H1
 have H' := Aside0.mk H
 clear H
 go_wp2
 go_loopg [6] kj2 (fun kq v6 w' => ∃ (x6_2 : Int) (x195000_2 : Int) (x195001_2 : Int), v6 = .int .i64 x6_2 ∧ Aside0 (spec_JoinBoards.l0 kq x6_2 a0_0 a0_1 l0_2 a1_0 a1_1 l1_2 = some (r1, r2, r3, r4)) ∧ Aside0 (kq ≤ kj2) ∧ Aside0 (w'.heap[gb192]? = some (.cells #[.int .i8 a0_0, .int .i8 a0_1, (.slice A0_2 l0_2.length c0_2)] 37 (0, 0))) ∧ Aside0 (w'.heap[gb193]? = some (.cells #[.int .i8 a1_0, .int .i8 a1_1, (.slice A1_2 l1_2.length c1_2)] 37 (0, 0))) ∧ Aside0 (w'.heap[gb194]? = some (.cells #[.int .i8 x195000_2, .int .i8 x195001_2, (.slice none 0 0)] 37 (0, 0))) ∧ Aside0 (Below w.heap.size w w'))
 case atStart => exact ⟨(0), (0), (0), zi, H', ⟨Nat.le_refl _⟩, zh BK192, zh BK193, zh BK194, zba⟩
 clear H'
 try clear c1
 try clear p2
 try clear c7
 try clear c8
 try clear c10
 try clear c13
 try clear c14
 try clear c15
 try clear z16_0 z16_1 z16_2 y16_0 y16_1 y16_2
 try clear p2
 obtain ⟨x6_2, x195000_2, x195001_2, rfl, HA, HK2, BK192, BK193, BK194, HB⟩ := hrel
 cases gk with
 | zero => exact absurd HA.out (by simp [spec_JoinBoards.l0])
 | succ k2 => ?_
 have H := HA.out
 clear HA
 simp only [spec_JoinBoards.l0] at H
 by_cases c17 : x6_2 < (l1_2.length : Int)
 ·rw [if_pos c17] at H
  have c17b0 : decide (x6_2 < (l1_2.length : Int)) = true := decide_eq_true c17
  clear c17
  by_cases c18 : 0 ≤ x6_2
  rotate_left
  ·rw [if_neg c18] at H
   exact absurd H (by simp)
  rw [if_pos c18] at H
  have c18b0 : decide (0 ≤ x6_2) = true := decide_eq_true c18
  clear c18
  replace H := zob H
  obtain ⟨t198, A190, H⟩ := H
  replace H : (if t198 = true then (spec_JoinBoards.l0 k2 (wrap64 (x6_2 + 1)) a0_0 a0_1 l0_2 a1_0 a1_1 l1_2) else (some (0, 0, ([] : List (S91)), 2))) = some (r1, r2, r3, r4) := H
  have A19 := Aside0.mk A190
  clear A190
  by_cases c20 : t198 = true
  ·subst c20
   have H1 : (spec_JoinBoards.l0 k2 (wrap64 (x6_2 + 1)) a0_0 a0_1 l0_2 a1_0 a1_1 l1_2) = some (r1, r2, r3, r4) := by rw [if_pos rfl] at H; exact H
   clear H
   have H := H1
   clear H1
   have H' := Aside0.mk H
   clear H
   have hnb21 := NB193_192.out
   have hnc21 := NB192_193.out
   have hnb22 := NB193_194.out
   have hnc22 := NB194_193.out
   obtain ⟨z23_0, z23_1, z23_2, y23_0, y23_1, y23_2⟩ := zB3 BK193
   try go_wp2
   have n_ : _ ∧ _ ∧ _ ∧ _ := ⟨Aside0.mk (blk_drew BK192.out), Aside0.mk (blk_drew BK193.out), Aside0.mk (blk_drew BK194.out), Aside0.mk (below_drew1 HB.out)⟩
   clear BK192 BK193 BK194 HB
   obtain ⟨BK192, BK193, BK194, HB⟩ := n_
   have p197 : 0 ≤ (x6_2 : Int) := of_decide_eq_true zA
   have q197 : x6_2 < (l1_2.length : Int) := of_decide_eq_true zA
   obtain ⟨ad197, e197, hx197_0, hx197_1, hx197_2, hx197_3, hx197_4⟩ := at_T91 HR1_2.out x6_2 p197 q197
   have hw197_4 := hx197_4
   have hw197_3 := hx197_3
   have hw197_2 := hx197_2
   have hw197_1 := hx197_1
   have hw197_0 := hx197_0
   cases e197
   replace hx197_0 := zc HB hx197_0
   replace hx197_1 := zc HB hx197_1
   replace hx197_2 := zc HB hx197_2
   replace hx197_3 := zc HB hx197_3
   replace hx197_4 := zc HB hx197_4
   replace p197 := eq_true p197
   replace q197 := eq_true q197
   refine start_ (n := 14) (S := fun w' => w'.cell? ⟨gb193, 0, none⟩ = some (.int .i8 a1_0) ∧ w'.cell? ⟨gb193, 1, none⟩ = some (.int .i8 a1_1) ∧ w'.cell? ⟨gb193, 2, none⟩ = some (.slice (some ad197) l1_2.length c1_2) ∧ w'.cell? ⟨gb192, 0, none⟩ = some (.int .i8 a0_0) ∧ w'.cell? ⟨gb192, 1, none⟩ = some (.int .i8 a0_1) ∧ w'.cell? ⟨gb192, 2, none⟩ = some (.slice A0_2 l0_2.length c0_2) ∧ w'.cell? (ad197.add ((x6_2).toNat * 5)) = some (.int .i8 ((rd_T91 l1_2 x6_2).f0.f0)) ∧ w'.cell? ⟨(ad197.add ((x6_2).toNat * 5)).block, (ad197.add ((x6_2).toNat * 5)).off + 1, none⟩ = some (.int .i8 ((rd_T91 l1_2 x6_2).f0.f1)) ∧ w'.cell? ⟨(ad197.add ((x6_2).toNat * 5)).block, (ad197.add ((x6_2).toNat * 5)).off + 2, none⟩ = some (.int .i8 ((rd_T91 l1_2 x6_2).f1)) ∧ w'.cell? ⟨(ad197.add ((x6_2).toNat * 5)).block, (ad197.add ((x6_2).toNat * 5)).off + 3, none⟩ = some (.int .i8 ((rd_T91 l1_2 x6_2).f2)) ∧ w'.cell? ⟨(ad197.add ((x6_2).toNat * 5)).block, (ad197.add ((x6_2).toNat * 5)).off + 4, none⟩ = some (.int .i8 ((rd_T91 l1_2 x6_2).f3))) (ds := []) (zq 14 0) (by kernel_rfl) rfl rfl ⟨(blk_cell BK193.out 0).trans rfl, (blk_cell BK193.out 1).trans rfl, (blk_cell BK193.out 2).trans rfl, (blk_cell BK192.out 0).trans rfl, (blk_cell BK192.out 1).trans rfl, (blk_cell BK192.out 2).trans rfl, (zc HB hw197_0), (zc HB hw197_1), (zc HB hw197_2), (zc HB hw197_3), (zc HB hw197_4)⟩ (fun hHeld => ?_); refine with_tabW spec_JoinBoards.tab6 spec_JoinBoards.bits6 (fun HT_ HW_ => ?_)
   generalize wr.drew = w24 at BK192 BK193 BK194 HB hx197_0 hx197_1 hx197_2 hx197_3 hx197_4 hHeld ⊢
   refine zpu 0 (some 23) (zq 14 1) HT_ ?_
   refine zpu 2 (some 25) (zq 14 5) HT_ ?_
   refine zpu 6 (some 29) (zq 14 69) HT_ ?_
   refine zpu 9 (some 32) (zq 14 581) HT_ ?_
   refine ztk 1 (some 24) (zq 14 583) HT_ HW_ rfl hHeld (Or.inl ⟨by rfl, by (rintro w' ⟨s0, s1, s2, s3, s4, s5, s6, s7, s8, s9, s10⟩; go_simp; with_reducible rfl)⟩) ?_
   refine zpu 3 (some 26) (zq 14 591) HT_ ?_
   refine zpu 4 (some 27) (zq 14 607) HT_ ?_
   refine ztk 5 (some 28) (zq 14 639) HT_ HW_ rfl hHeld (Or.inl ⟨by rfl, by (rintro w' ⟨s0, s1, s2, s3, s4, s5, s6, s7, s8, s9, s10⟩; go_simp; with_reducible rfl)⟩) ?_
   refine ztk 7 (some 30) (zq 14 767) HT_ HW_ rfl hHeld (Or.inl ⟨by rfl, by (rintro w' ⟨s0, s1, s2, s3, s4, s5, s6, s7, s8, s9, s10⟩; go_simp; with_reducible rfl)⟩) ?_
   refine zpu 8 (some 31) (zq 14 1023) HT_ ?_
   refine ztk 10 (some 33) (zq 14 2047) HT_ HW_ rfl hHeld (Or.inl ⟨by rfl, by (rintro w' ⟨s0, s1, s2, s3, s4, s5, s6, s7, s8, s9, s10⟩; go_simp; with_reducible rfl)⟩) ?_
   refine zpu 11 (some 34) (zq 14 4095) HT_ ?_
   refine one_ (i := 12) (N := some 35) (zq 14 8191) rfl rfl (one_of HT_.out (by kernel_rfl)) (by decide) (fun K hK => ?_)
   refine goes_ Try.func133 (by kernel_rfl) rfl #[.agg #[.int .i8 ((rd_T91 l1_2 x6_2).f0.f0), .int .i8 ((rd_T91 l1_2 x6_2).f0.f1)], .int .i64 (wrap64 (a0_0)), .int .i64 (wrap64 (a0_1))] (by rfl) rfl rfl zm ?_
   with_reducible refine (spec_l01In.calls ((rd_T91 l1_2 x6_2).f0.f0) ((rd_T91 l1_2 x6_2).f0.f1) (wrap64 (a0_0)) (wrap64 (a0_1)) true _ A19.out).mono ?_
   rintro e w25 ⟨rfl, hb⟩
   refine ⟨_, rfl, ?_⟩
   have n_ : _ ∧ _ ∧ _ ∧ _ := ⟨zk BK192 hb, zk BK193 hb, zk BK194 hb, zbs hb⟩
   clear BK192 BK193 BK194 HB
   obtain ⟨BK192, BK193, BK194, HB⟩ := n_
   (try clear hb)
   (try clear hb2)
   (try clear hk)
   (try clear hi)
   refine hK.out _ _ ⟨(blk_cell BK193.out 0).trans rfl, (blk_cell BK193.out 1).trans rfl, (blk_cell BK193.out 2).trans rfl, (blk_cell BK192.out 0).trans rfl, (blk_cell BK192.out 1).trans rfl, (blk_cell BK192.out 2).trans rfl, (zc HB hw197_0), (zc HB hw197_1), (zc HB hw197_2), (zc HB hw197_3), (zc HB hw197_4)⟩ (fun hHeld => ?_)
   clear hK K
   refine norm_ (a' := ?_) ?_ ?_
   rotate_left
   ·show Act.put _ (some 35) _ = _
    exact zap
   refine zpu 13 (some 36) (zq 14 16383) HT_ ?_
   refine done_ (done_of HT_.out (by kernel_rfl)) ?_
   try go_wp2
   go_roundg k2
   case measure => have := HJ2.out; have := HK2.out; omega
   case rel => exact ⟨(wrap64 (x6_2 + 1)), (x195000_2), (x195001_2), zi, H', ⟨by have := HJ2.out; have := HK2.out; omega⟩, zh BK192, zh BK193, zh BK194, zba⟩
  replace c20 := Bool.eq_false_iff.mpr c20
  subst c20
  have H1 : (some (0, 0, ([] : List (S91)), 2)) = some (r1, r2, r3, r4) := by rw [if_neg (show ¬ (false = true) by decide)] at H; exact H
  clear H
  have H := H1
  clear H1
  simp only [Option.some.injEq, Prod.mk.injEq] at H
  obtain ⟨rfl, rfl, rfl, rfl⟩ := H
  have hnb26 := NB193_192.out
  have hnc26 := NB192_193.out
  have hnb27 := NB193_194.out
  have hnc27 := NB194_193.out
  obtain ⟨z28_0, z28_1, z28_2, y28_0, y28_1, y28_2⟩ := zB3 BK193
  try go_wp2
  have n_ : _ ∧ _ ∧ _ ∧ _ := ⟨Aside0.mk (blk_drew BK192.out), Aside0.mk (blk_drew BK193.out), Aside0.mk (blk_drew BK194.out), Aside0.mk (below_drew1 HB.out)⟩
  clear BK192 BK193 BK194 HB
  obtain ⟨BK192, BK193, BK194, HB⟩ := n_
  have p197 : 0 ≤ (x6_2 : Int) := of_decide_eq_true zA
  have q197 : x6_2 < (l1_2.length : Int) := of_decide_eq_true zA
  obtain ⟨ad197, e197, hx197_0, hx197_1, hx197_2, hx197_3, hx197_4⟩ := at_T91 HR1_2.out x6_2 p197 q197
  have hw197_4 := hx197_4
  have hw197_3 := hx197_3
  have hw197_2 := hx197_2
  have hw197_1 := hx197_1
  have hw197_0 := hx197_0
  cases e197
  replace hx197_0 := zc HB hx197_0
  replace hx197_1 := zc HB hx197_1
  replace hx197_2 := zc HB hx197_2
  replace hx197_3 := zc HB hx197_3
  replace hx197_4 := zc HB hx197_4
  replace p197 := eq_true p197
  replace q197 := eq_true q197
  refine start_ (n := 14) (S := fun w' => w'.cell? ⟨gb193, 0, none⟩ = some (.int .i8 a1_0) ∧ w'.cell? ⟨gb193, 1, none⟩ = some (.int .i8 a1_1) ∧ w'.cell? ⟨gb193, 2, none⟩ = some (.slice (some ad197) l1_2.length c1_2) ∧ w'.cell? ⟨gb192, 0, none⟩ = some (.int .i8 a0_0) ∧ w'.cell? ⟨gb192, 1, none⟩ = some (.int .i8 a0_1) ∧ w'.cell? ⟨gb192, 2, none⟩ = some (.slice A0_2 l0_2.length c0_2) ∧ w'.cell? (ad197.add ((x6_2).toNat * 5)) = some (.int .i8 ((rd_T91 l1_2 x6_2).f0.f0)) ∧ w'.cell? ⟨(ad197.add ((x6_2).toNat * 5)).block, (ad197.add ((x6_2).toNat * 5)).off + 1, none⟩ = some (.int .i8 ((rd_T91 l1_2 x6_2).f0.f1)) ∧ w'.cell? ⟨(ad197.add ((x6_2).toNat * 5)).block, (ad197.add ((x6_2).toNat * 5)).off + 2, none⟩ = some (.int .i8 ((rd_T91 l1_2 x6_2).f1)) ∧ w'.cell? ⟨(ad197.add ((x6_2).toNat * 5)).block, (ad197.add ((x6_2).toNat * 5)).off + 3, none⟩ = some (.int .i8 ((rd_T91 l1_2 x6_2).f2)) ∧ w'.cell? ⟨(ad197.add ((x6_2).toNat * 5)).block, (ad197.add ((x6_2).toNat * 5)).off + 4, none⟩ = some (.int .i8 ((rd_T91 l1_2 x6_2).f3))) (ds := []) (zq 14 0) (by kernel_rfl) rfl rfl ⟨(blk_cell BK193.out 0).trans rfl, (blk_cell BK193.out 1).trans rfl, (blk_cell BK193.out 2).trans rfl, (blk_cell BK192.out 0).trans rfl, (blk_cell BK192.out 1).trans rfl, (blk_cell BK192.out 2).trans rfl, (zc HB hw197_0), (zc HB hw197_1), (zc HB hw197_2), (zc HB hw197_3), (zc HB hw197_4)⟩ (fun hHeld => ?_); refine with_tabW spec_JoinBoards.tab6 spec_JoinBoards.bits6 (fun HT_ HW_ => ?_)
  generalize wr.drew = w29 at BK192 BK193 BK194 HB hx197_0 hx197_1 hx197_2 hx197_3 hx197_4 hHeld ⊢
  refine zpu 0 (some 23) (zq 14 1) HT_ ?_
  refine zpu 2 (some 25) (zq 14 5) HT_ ?_
  refine zpu 6 (some 29) (zq 14 69) HT_ ?_
  refine zpu 9 (some 32) (zq 14 581) HT_ ?_
  refine ztk 1 (some 24) (zq 14 583) HT_ HW_ rfl hHeld (Or.inl ⟨by rfl, by (rintro w' ⟨s0, s1, s2, s3, s4, s5, s6, s7, s8, s9, s10⟩; go_simp; with_reducible rfl)⟩) ?_
  refine zpu 3 (some 26) (zq 14 591) HT_ ?_
  refine zpu 4 (some 27) (zq 14 607) HT_ ?_
  refine ztk 5 (some 28) (zq 14 639) HT_ HW_ rfl hHeld (Or.inl ⟨by rfl, by (rintro w' ⟨s0, s1, s2, s3, s4, s5, s6, s7, s8, s9, s10⟩; go_simp; with_reducible rfl)⟩) ?_
  refine ztk 7 (some 30) (zq 14 767) HT_ HW_ rfl hHeld (Or.inl ⟨by rfl, by (rintro w' ⟨s0, s1, s2, s3, s4, s5, s6, s7, s8, s9, s10⟩; go_simp; with_reducible rfl)⟩) ?_
  refine zpu 8 (some 31) (zq 14 1023) HT_ ?_
  refine ztk 10 (some 33) (zq 14 2047) HT_ HW_ rfl hHeld (Or.inl ⟨by rfl, by (rintro w' ⟨s0, s1, s2, s3, s4, s5, s6, s7, s8, s9, s10⟩; go_simp; with_reducible rfl)⟩) ?_
  refine zpu 11 (some 34) (zq 14 4095) HT_ ?_
  refine one_ (i := 12) (N := some 35) (zq 14 8191) rfl rfl (one_of HT_.out (by kernel_rfl)) (by decide) (fun K hK => ?_)
  refine goes_ Try.func133 (by kernel_rfl) rfl #[.agg #[.int .i8 ((rd_T91 l1_2 x6_2).f0.f0), .int .i8 ((rd_T91 l1_2 x6_2).f0.f1)], .int .i64 (wrap64 (a0_0)), .int .i64 (wrap64 (a0_1))] (by rfl) rfl rfl zm ?_
  with_reducible refine (spec_l01In.calls ((rd_T91 l1_2 x6_2).f0.f0) ((rd_T91 l1_2 x6_2).f0.f1) (wrap64 (a0_0)) (wrap64 (a0_1)) false _ A19.out).mono ?_
  rintro e w30 ⟨rfl, hb⟩
  refine ⟨_, rfl, ?_⟩
  have n_ : _ ∧ _ ∧ _ ∧ _ := ⟨zk BK192 hb, zk BK193 hb, zk BK194 hb, zbs hb⟩
  clear BK192 BK193 BK194 HB
  obtain ⟨BK192, BK193, BK194, HB⟩ := n_
  (try clear hb)
  (try clear hb2)
  (try clear hk)
  (try clear hi)
  refine hK.out _ _ ⟨(blk_cell BK193.out 0).trans rfl, (blk_cell BK193.out 1).trans rfl, (blk_cell BK193.out 2).trans rfl, (blk_cell BK192.out 0).trans rfl, (blk_cell BK192.out 1).trans rfl, (blk_cell BK192.out 2).trans rfl, (zc HB hw197_0), (zc HB hw197_1), (zc HB hw197_2), (zc HB hw197_3), (zc HB hw197_4)⟩ (fun hHeld => ?_)
  clear hK K
  refine norm_ (a' := ?_) ?_ ?_
  rotate_left
  ·show Act.put _ (some 35) _ = _
   exact zap
  refine zpu 13 (some 36) (zq 14 16383) HT_ ?_
  refine done_ (done_of HT_.out (by kernel_rfl)) ?_
  have hnb31 := NB194_192.out
  have hnc31 := NB192_194.out
  obtain ⟨z32_0, z32_1, z32_2, y32_0, y32_1, y32_2⟩ := zB3 BK194
  try go_wp2
  refine bodyPost_ret (results_ct rfl _ _ gb194 37 #[.int .i8 0, .int .i8 0, .slice none 0 0] (0, 0) _ rfl (zp BK194) Try.underlying37 rfl (by kernel_rfl)) rfl ?_
  exact ⟨_, zv, by first | exact Kd.R_nil _ _ _ _ _ | exact Kd.N_nil _ _ _ _ _ | exact Kd.V_nil _ _ _ _ _ | exact Kd.Q_nil _ _ _ _ _ | exact Kd.S_nil _ _ _ _ _, zbo⟩
 rw [if_neg c17] at H
 have c17b0 : decide (x6_2 < (l1_2.length : Int)) = false := decide_eq_false c17
 clear c17
 have H' := Aside0.mk H
 clear H
 have hnb33 := NB193_192.out
 have hnc33 := NB192_193.out
 have hnb34 := NB193_194.out
 have hnc34 := NB194_193.out
 obtain ⟨z35_0, z35_1, z35_2, y35_0, y35_1, y35_2⟩ := zB3 BK193
 go_wp2
 go_loopg [7] k2 (fun kq v7 w' => ∃ (x7_3 : Int) (x195000_3 : Int) (x195001_3 : Int), v7 = .int .i64 x7_3 ∧ Aside0 (spec_JoinBoards.l1 kq x7_3 a0_0 a0_1 l0_2 a1_0 a1_1 l1_2 = some (r1, r2, r3, r4)) ∧ Aside0 (kq ≤ k2) ∧ Aside0 (w'.heap[gb192]? = some (.cells #[.int .i8 a0_0, .int .i8 a0_1, (.slice A0_2 l0_2.length c0_2)] 37 (0, 0))) ∧ Aside0 (w'.heap[gb193]? = some (.cells #[.int .i8 a1_0, .int .i8 a1_1, (.slice A1_2 l1_2.length c1_2)] 37 (0, 0))) ∧ Aside0 (w'.heap[gb194]? = some (.cells #[.int .i8 x195000_3, .int .i8 x195001_3, (.slice none 0 0)] 37 (0, 0))) ∧ Aside0 (Below w.heap.size w w'))
 case atStart => exact ⟨(0), (x195000_2), (x195001_2), zi, H', ⟨Nat.le_refl _⟩, zh BK192, zh BK193, zh BK194, zba⟩
 clear H'
 try clear c1
 try clear p1
 try clear q1
 try clear hx1
 try clear c2
 try clear p2
 try clear c3
 try clear p6
 try clear c7
 try clear c8
 try clear c10
 try clear c13
 try clear c14
 try clear c15
 try clear c17
 try clear c17b0
 try clear c18
 try clear c18b0
 try clear p19
 try clear q19
 try clear hx19
 try clear c20
 try clear c21
 try clear c22
 try clear c26
 try clear c27
 try clear c31
 try clear c33
 try clear c34
 try clear z16_0 z16_1 z16_2
 try clear z23_0 z23_1 z23_2
 try clear z28_0 z28_1 z28_2
 try clear z32_0 z32_1 z32_2
 try clear z35_0 z35_1 z35_2
 try clear y16_0
 try clear y16_1
 try clear y16_2
 try clear y23_0
 try clear y23_1
 try clear y23_2
 try clear y28_0
 try clear y28_1
 try clear y28_2
 try clear y32_0
 try clear y32_1
 try clear y32_2
 try clear y35_0
 try clear y35_1
 try clear y35_2
 try clear hx197_0
 try clear hx197_1
 try clear hx197_2
 try clear hx197_3
 try clear hx197_4
 try clear p197
 try clear p2
 try clear q197
 obtain ⟨x7_3, x195000_3, x195001_3, rfl, HA, HK3, BK192, BK193, BK194, HB⟩ := hrel
 cases gk with
 | zero => exact absurd HA.out (by simp [spec_JoinBoards.l1])
 | succ k3 => ?_
 have H := HA.out
 clear HA
 simp only [spec_JoinBoards.l1] at H
 by_cases c36 : x7_3 < (l1_2.length : Int)
 ·rw [if_pos c36] at H
  have c36b0 : decide (x7_3 < (l1_2.length : Int)) = true := decide_eq_true c36
  clear c36
  by_cases c37 : 0 ≤ x7_3
  rotate_left
  ·rw [if_neg c37] at H
   exact absurd H (by simp)
  rw [if_pos c37] at H
  have c37b0 : decide (0 ≤ x7_3) = true := decide_eq_true c37
  clear c37
  replace H := zob H
  obtain ⟨t200, A380, H⟩ := H
  replace H : (if t200 ≥ 0 then (some (0, 0, ([] : List (S91)), 4)) else (spec_JoinBoards.l1 k3 (wrap64 (x7_3 + 1)) a0_0 a0_1 l0_2 a1_0 a1_1 l1_2)) = some (r1, r2, r3, r4) := H
  have A38 := Aside0.mk A380
  clear A380
  by_cases c39 : t200 ≥ 0
  rotate_left
  ·rw [if_neg c39] at H
   have c39b0 : decide (0 ≤ t200) = false := decide_eq_false c39
   clear c39
   have H' := Aside0.mk H
   clear H
   have hnb46 := NB193_192.out
   have hnc46 := NB192_193.out
   have hnb47 := NB193_194.out
   have hnc47 := NB194_193.out
   obtain ⟨z48_0, z48_1, z48_2, y48_0, y48_1, y48_2⟩ := zB3 BK193
   have p199 : 0 ≤ (x7_3 : Int) := of_decide_eq_true zA
   have q199 : x7_3 < (l1_2.length : Int) := of_decide_eq_true zA
   obtain ⟨ad199, e199, hx199_0, hx199_1, hx199_2, hx199_3, hx199_4⟩ := at_T91 HR1_2.out x7_3 p199 q199
   cases e199
   replace hx199_0 := zc HB hx199_0
   replace hx199_1 := zc HB hx199_1
   replace hx199_2 := zc HB hx199_2
   replace hx199_3 := zc HB hx199_3
   replace hx199_4 := zc HB hx199_4
   replace p199 := eq_true p199
   replace q199 := eq_true q199
   go_wp2_with (first | ((with_reducible refine gate_callee (f := 111) rfl ?_); refine goesL_ (some 51) rfl rfl Try.func111 (by kernel_rfl) rfl #[.pointer (some ⟨gb192, 0, none⟩), .agg #[.int .i8 ((rd_T91 l1_2 x7_3).f0.f0), .int .i8 ((rd_T91 l1_2 x7_3).f0.f1)]] rfl zm ?_; (with_reducible refine (spec_l01Find.calls k3 _ [(⟨a0_0, a0_1, l0_2⟩ : S37)] ((rd_T91 l1_2 x7_3).f0.f0) ((rd_T91 l1_2 x7_3).f0.f1) t200 _ ?side1 A38.out).mono ?_); (case side1 => refine ro_of_blk (T := 37) (cs := #[.int .i8 a0_0, .int .i8 a0_1, .slice A0_2 l0_2.length c0_2]) (zh BK192).out ?_; exact k37_mk _ (⟨a0_0, a0_1, l0_2⟩ : S37) (by exact HC0_2.out) (by exact zcc HB HR0_2.out)); rintro e w49 ⟨rfl, hb⟩; refine ⟨_, rfl, ?_⟩; have n_ : _ ∧ _ ∧ _ ∧ _ := ⟨zk BK192 hb, zk BK193 hb, zk BK194 hb, zbs hb⟩; clear BK192 BK193 BK194 HB; obtain ⟨BK192, BK193, BK194, HB⟩ := n_; (try clear hb); (try clear hb2); (try clear hk); (try clear hi)))
   go_roundg k3
   case measure => have := HJ2.out; have := HK2.out; have := HK3.out; omega
   case rel => exact ⟨(wrap64 (x7_3 + 1)), (x195000_3), (x195001_3), zi, H', ⟨by have := HJ2.out; have := HK2.out; have := HK3.out; omega⟩, zh BK192, zh BK193, zh BK194, zba⟩
  rw [if_pos c39] at H
  have c39b0 : decide (0 ≤ t200) = true := decide_eq_true c39
  clear c39
  simp only [Option.some.injEq, Prod.mk.injEq] at H
  obtain ⟨rfl, rfl, rfl, rfl⟩ := H
  have hnb40 := NB193_192.out
  have hnc40 := NB192_193.out
  have hnb41 := NB193_194.out
  have hnc41 := NB194_193.out
  obtain ⟨z42_0, z42_1, z42_2, y42_0, y42_1, y42_2⟩ := zB3 BK193
  have p199 : 0 ≤ (x7_3 : Int) := of_decide_eq_true zA
  have q199 : x7_3 < (l1_2.length : Int) := of_decide_eq_true zA
  obtain ⟨ad199, e199, hx199_0, hx199_1, hx199_2, hx199_3, hx199_4⟩ := at_T91 HR1_2.out x7_3 p199 q199
  cases e199
  replace hx199_0 := zc HB hx199_0
  replace hx199_1 := zc HB hx199_1
  replace hx199_2 := zc HB hx199_2
  replace hx199_3 := zc HB hx199_3
  replace hx199_4 := zc HB hx199_4
  replace p199 := eq_true p199
  replace q199 := eq_true q199
  go_wp2_with (first | ((with_reducible refine gate_callee (f := 111) rfl ?_); refine goesL_ (some 51) rfl rfl Try.func111 (by kernel_rfl) rfl #[.pointer (some ⟨gb192, 0, none⟩), .agg #[.int .i8 ((rd_T91 l1_2 x7_3).f0.f0), .int .i8 ((rd_T91 l1_2 x7_3).f0.f1)]] rfl zm ?_; (with_reducible refine (spec_l01Find.calls k3 _ [(⟨a0_0, a0_1, l0_2⟩ : S37)] ((rd_T91 l1_2 x7_3).f0.f0) ((rd_T91 l1_2 x7_3).f0.f1) t200 _ ?side1 A38.out).mono ?_); (case side1 => refine ro_of_blk (T := 37) (cs := #[.int .i8 a0_0, .int .i8 a0_1, .slice A0_2 l0_2.length c0_2]) (zh BK192).out ?_; exact k37_mk _ (⟨a0_0, a0_1, l0_2⟩ : S37) (by exact HC0_2.out) (by exact zcc HB HR0_2.out)); rintro e w43 ⟨rfl, hb⟩; refine ⟨_, rfl, ?_⟩; have n_ : _ ∧ _ ∧ _ ∧ _ := ⟨zk BK192 hb, zk BK193 hb, zk BK194 hb, zbs hb⟩; clear BK192 BK193 BK194 HB; obtain ⟨BK192, BK193, BK194, HB⟩ := n_; (try clear hb); (try clear hb2); (try clear hk); (try clear hi); have hnb44 := NB194_192.out; have hnc44 := NB192_194.out; obtain ⟨z45_0, z45_1, z45_2, y45_0, y45_1, y45_2⟩ := zB3 BK194))
  refine bodyPost_ret (results_ct rfl _ _ gb194 37 #[.int .i8 0, .int .i8 0, .slice none 0 0] (0, 0) _ rfl (zp BK194) Try.underlying37 rfl (by kernel_rfl)) rfl ?_
  exact ⟨_, zv, by first | exact Kd.R_nil _ _ _ _ _ | exact Kd.N_nil _ _ _ _ _ | exact Kd.V_nil _ _ _ _ _ | exact Kd.Q_nil _ _ _ _ _ | exact Kd.S_nil _ _ _ _ _, zbo⟩
 rw [if_neg c36] at H
 have c36b0 : decide (x7_3 < (l1_2.length : Int)) = false := decide_eq_false c36
 clear c36
 by_cases c50 : (wrap64 ((l0_2.length : Int) + (l1_2.length : Int))) > 200
 ·rw [if_pos c50] at H
  have c50b0 : decide (200 < (wrap64 ((l0_2.length : Int) + (l1_2.length : Int)))) = true := decide_eq_true c50
  clear c50
  simp only [Option.some.injEq, Prod.mk.injEq] at H
  obtain ⟨rfl, rfl, rfl, rfl⟩ := H
  have hnb51 := NB193_192.out
  have hnc51 := NB192_193.out
  have hnb52 := NB193_194.out
  have hnc52 := NB194_193.out
  obtain ⟨z53_0, z53_1, z53_2, y53_0, y53_1, y53_2⟩ := zB3 BK193
  have hnb54 := NB192_194.out
  have hnc54 := NB194_192.out
  obtain ⟨z55_0, z55_1, z55_2, y55_0, y55_1, y55_2⟩ := zB3 BK192
  obtain ⟨z56_0, z56_1, z56_2, y56_0, y56_1, y56_2⟩ := zB3 BK194
  go_wp2
  refine bodyPost_ret (results_ct rfl _ _ gb194 37 #[.int .i8 0, .int .i8 0, .slice none 0 0] (0, 0) _ rfl (zp BK194) Try.underlying37 rfl (by kernel_rfl)) rfl ?_
  exact ⟨_, zv, by first | exact Kd.R_nil _ _ _ _ _ | exact Kd.N_nil _ _ _ _ _ | exact Kd.V_nil _ _ _ _ _ | exact Kd.Q_nil _ _ _ _ _ | exact Kd.S_nil _ _ _ _ _, zbo⟩
 rw [if_neg c50] at H
 have c50b0 : decide (200 < (wrap64 ((l0_2.length : Int) + (l1_2.length : Int)))) = false := decide_eq_false c50
 clear c50
 replace H := zob H
 obtain ⟨⟨t201, t202, t203⟩, A570, H⟩ := H
 replace H : (if t203.length + l1_2.length < 28147497671065 then (some (t201, t202, (t203 ++ l1_2), 0)) else (none)) = some (r1, r2, r3, r4) := H
 have A57 := Aside0.mk A570
 clear A570
 by_cases c58 : t203.length + l1_2.length < 28147497671065
 rotate_left
 ·rw [if_neg c58] at H
  exact absurd H (by simp)
 rw [if_pos c58] at H
 have LMc58 := Aside0.mk c58
 clear c58
 obtain ⟨y207, hy207⟩ : ∃ y_ : List (S91), y_ = (t203 ++ l1_2) := ⟨_, rfl⟩
 replace H : (some (t201, t202, y207, 0)) = some (r1, r2, r3, r4) := by first | (rw [hy207]; with_reducible exact H) | (have H2_ := (Option.bind_some _ _).symm.trans H; rw [hy207]; with_reducible exact H2_) | (have H2_ := (Option.bind_some _ _).symm.trans H; with_reducible exact H2_) | with_reducible exact H | (rw [hy207]; exact H) | exact H
 have Ny207 := Aside0.mk hy207
 clear hy207
 simp only [Option.some.injEq, Prod.mk.injEq] at H
 obtain ⟨rfl, rfl, rfl, rfl⟩ := H
 have hnb59 := NB193_192.out
 have hnc59 := NB192_193.out
 have hnb60 := NB193_194.out
 have hnc60 := NB194_193.out
 obtain ⟨z61_0, z61_1, z61_2, y61_0, y61_1, y61_2⟩ := zB3 BK193
 have hnb62 := NB192_194.out
 have hnc62 := NB194_192.out
 obtain ⟨z63_0, z63_1, z63_2, y63_0, y63_1, y63_2⟩ := zB3 BK192
 go_wp2_with (first | ((with_reducible refine gate_callee (f := 131) rfl ?_); refine goesL_ (some 63) rfl rfl Try.func131 (by kernel_rfl) rfl #[.pointer (some ⟨gb192, 0, none⟩)] rfl zm ?_; (with_reducible refine (spec_l01Copy.calls _ [(⟨a0_0, a0_1, l0_2⟩ : S37)] t201 t202 t203 _ ?side1 A57.out).mono ?_); (case side1 => refine ro_of_blk (T := 37) (cs := #[.int .i8 a0_0, .int .i8 a0_1, .slice A0_2 l0_2.length c0_2]) (zh BK192).out ?_; exact k37_mk _ (⟨a0_0, a0_1, l0_2⟩ : S37) (by exact HC0_2.out) (by exact zcc HB HR0_2.out)); rintro e w64 ⟨v204, rfl, ho0, hb⟩; refine ⟨_, rfl, ?_⟩; have n_ : _ ∧ _ ∧ _ ∧ _ ∧ _ := ⟨Aside0.mk (Kd.R_lower ho0 (zz HB)), zk BK192 hb, zk BK193 hb, zk BK194 hb, zbs hb⟩; clear BK192 BK193 BK194 HB; obtain ⟨HO205, BK192, BK193, BK194, HB⟩ := n_; (try clear hb); (try clear hb2); (try clear hk); (try clear hi); (try clear ho0)) | ((with_reducible refine gate_dst (N := 8) rfl ?_); refine zbx 8 #[.int .i8 0, .int .i8 0, .slice none 0 0] 37 ?_; intro gb206 hg w65 hbox hb; have n_ : _ ∧ _ ∧ _ ∧ _ ∧ _ ∧ _ ∧ _ ∧ _ ∧ _ ∧ _ ∧ _ ∧ _ ∧ _ ∧ _ := ⟨zr HO205 hb, zk BK192 hb, zk BK193 hb, zk BK194 hb, zbs hb, Aside0.mk (hbox), zg HB hg, zg HB hg, zn1 BK192 hg, zn2 BK192 hg, zn1 BK193 hg, zn2 BK193 hg, zn1 BK194 hg, zn2 BK194 hg⟩; clear HO205 BK192 BK193 BK194 HB; obtain ⟨HO205, BK192, BK193, BK194, HB, BK206, GW206, GE206, NB192_206, NB206_192, NB193_206, NB206_193, NB194_206, NB206_194⟩ := n_; clear hb hbox hg; have hnb66 := NB206_192.out; have hnc66 := NB192_206.out; have hnb67 := NB206_193.out; have hnc67 := NB193_206.out; have hnb68 := NB206_194.out; have hnc68 := NB194_206.out; obtain ⟨z69_0, z69_1, z69_2, y69_0, y69_1, y69_2⟩ := zB3 BK206; obtain ⟨Ao70, co70, eo70⟩ := Kd.R_slice HO205.out; subst eo70; obtain ⟨z71_0, z71_1, z71_2, y71_0, y71_1, y71_2⟩ := zB3 BK193) | ((with_reducible refine gate_builtin (b := .append) (xs := #[.tmp 65, .tmp 67]) rfl ?_); at_builtin; refine Kd.R_append_rows k91 (w0 := w) w.heap.size rfl (.tmp 65) (.tmp 67) 35 91 (.agg #[(.int .i8 0), (.int .i8 0), (.int .i8 0), (.int .i8 0), (.int .i8 0)]) 5 rfl Try.underlying35 info91 rfl (by decide) (by omega) (.slice Ao70 t203.length co70) t203 l1_2 _ _ _ (fun _ => True) (fun _ => False) rfl rfl ?aO ?aR (fun _ _ h => h) (fun _ h => h.elim) ?aF ?aB ?aS ?aL ?_; (case aR => exact Kd.C_below HR1_2.out zbo); (case aB => exact zbo); (case aF => exact (fun _ _ => trivial)); (case aO => exact (Kd.R_mono (zs HO205 BK206).out (fun _ hk => trivial))); (case aS => exact (zz HB)); (case aL => have := LMc58.out; omega); intro v208 w72 ho hb hg hat; rw [← Ny207.out] at ho; have n_ : _ ∧ _ ∧ _ ∧ _ ∧ _ ∧ _ := ⟨Aside0.mk (blk_grown (g := gb192) (o := .cells #[.int .i8 a0_0, .int .i8 a0_1, .slice A0_2 l0_2.length c0_2] 37 (0, 0)) (zf BK192 NB192_206).out hg (Kd.R_ne HO205.out BK192.out (by decide))), Aside0.mk (blk_grown (g := gb193) (o := .cells #[.int .i8 a1_0, .int .i8 a1_1, .slice A1_2 l1_2.length c1_2] 37 (0, 0)) (zf BK193 NB193_206).out hg (Kd.R_ne HO205.out BK193.out (by decide))), Aside0.mk (blk_grown (g := gb194) (o := .cells #[.int .i8 x195000_3, .int .i8 x195001_3, .slice none 0 0] 37 (0, 0)) (zf BK194 NB194_206).out hg (Kd.R_ne HO205.out BK194.out (by decide))), Aside0.mk (blk_grown (g := gb206) (o := .cells #[.int .i8 t201, .int .i8 t202, .slice Ao70 t203.length co70] 37 (0, 0)) (zp BK206) hg (Kd.R_ne HO205.out BK206.out (by decide))), Aside0.mk (hb), Aside0.mk (ho)⟩; clear BK192 BK193 BK194 BK206 HB HO205; obtain ⟨BK192, BK193, BK194, BK206, HB, HO209⟩ := n_; clear ho hb hg hat; obtain ⟨Ao73, co73, eo73⟩ := Kd.R_slice HO209.out; subst eo73; obtain ⟨z74_0, z74_1, z74_2, y74_0, y74_1, y74_2⟩ := zB3 BK206; obtain ⟨z75_0, z75_1, z75_2, y75_0, y75_1, y75_2⟩ := zB3 BK194))
 refine bodyPost_ret (results_ct rfl _ _ gb194 37 #[.int .i8 t201, .int .i8 t202, .slice Ao73 y207.length co73] (0, 0) _ rfl (by (with_reducible repeat (first | refine blk_drewN ?_ _ | refine blk_drew ?_ | refine blk_alloc ?_ _)); refine blk_put (cs := #[.int .i8 t201, .int .i8 t202, .slice none 0 0]) ?_ 2 _ rfl; (with_reducible repeat (first | refine blk_drewN ?_ _ | refine blk_drew ?_ | refine blk_alloc ?_ _)); refine blk_put (cs := #[.int .i8 t201, .int .i8 x195001_3, .slice none 0 0]) ?_ 1 _ rfl; (with_reducible repeat (first | refine blk_drewN ?_ _ | refine blk_drew ?_ | refine blk_alloc ?_ _)); refine blk_put (cs := #[.int .i8 x195000_3, .int .i8 x195001_3, .slice none 0 0]) ?_ 0 _ rfl; (with_reducible repeat (first | refine blk_drewN ?_ _ | refine blk_drew ?_ | refine blk_alloc ?_ _)); refine blk_far ?_ NB194_206.out _; (with_reducible repeat (first | refine blk_drewN ?_ _ | refine blk_drew ?_ | refine blk_alloc ?_ _)); exact BK194.out) Try.underlying37 rfl (by kernel_rfl)) rfl ?_
 exact ⟨_, zv, by (with_reducible repeat (first | apply Kd.R_alloc | apply Kd.R_drewN | apply Kd.R_drew)); exact Kd.R_mono (Kd.R_far (p := ⟨gb194, 2, none⟩) (Kd.R_far (p := ⟨gb194, 1, none⟩) (Kd.R_far (p := ⟨gb194, 0, none⟩) (Kd.R_far (p := ⟨gb206, 2, none⟩) (Kd.R_types (Kd.R_types HO209.out BK206.out (by decide)) BK194.out (by decide)) (fun _ hk => hk.1.2) (.slice Ao73 y207.length co73)) (fun _ hk => hk.2) (.int .i8 t201)) (fun _ hk => hk.2) (.int .i8 t202)) (fun _ hk => hk.2) (.slice Ao73 y207.length co73)) (fun _ hk => trivial), zbo⟩
def impl_in.f (a0 : Int) (a1 : Int) (a2 : Int) : Option (Bool) := if a0 ≥ a1 then (some (decide (a0 ≤ a2))) else (some false)
theorem impl_in.calls (a0 : Int) (a1 : Int) (a2 : Int) (r : Bool) (w : World) (h : impl_in.f a0 a1 a2 = some r) :
    Calls Try.prog 98 #[.int .i64 a0, .int .i64 a1, .int .i64 a2] w fun e w' => e = .returned (.bool r) ∧ Drawn0 w w' := by
 have H : (if a0 ≥ a1 then (some (decide (a0 ≤ a2))) else (some false)) = some r := h
 clear h
 by_cases c4 : a0 ≥ a1
 ·rw [if_pos c4] at H
  have c4b0 : decide (a1 ≤ a0) = true := decide_eq_true c4
  clear c4
  obtain rfl := Option.some.inj H
  go_enter Try.func98, Try.ntmps98
  go_wp2
  go_ret
  exact ⟨zi, zdr⟩
 rw [if_neg c4] at H
 have c4b0 : decide (a1 ≤ a0) = false := decide_eq_false c4
 clear c4
 obtain rfl := Option.some.inj H
 go_enter Try.func98, Try.ntmps98
 go_wp2
 go_ret
 exact ⟨zi, zdr⟩
end Go.Proofs.Ytffnfpnajkgnaaa.PFnExactJoinBoards
