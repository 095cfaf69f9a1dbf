-- WRITTEN by xprint.py, a program of this session's. Not trusted: Lean checks it.
-- packed by pack.py
import Derived.Test.YtmpmanfoiocfgaaPFnExactMergeOfx0
import Derived.Test.YtmpmanfoiocfgaaPFnExactMergeOfx4
import Derived.Test.YtmpmanfoiocfgaaPFnExactMergeOfx6
import Derived.Test.YtmpmanfoiocfgaaTFnExactMergeOfa
namespace Go.Proofs.Ytmpmanfoiocfgaa.PFnExactMergeOf
open Go.RowKit Go.Proofs.YtmpmanfoiocfgaaW.PrintWords Go.Proofs.YtmpmanfoiocfgaaW.PrintLast Go.Proofs.YtmpmanfoiocfgaaW.PrintMore Go.Proofs.YtmpmanfoiocfgaaX
attribute [local go_sem] max2_int min2_int max_two min_two max_three min_three max_four min_four   -- for this text's walks alone
set_option linter.unusedVariables false
set_option linter.unusedSimpArgs false

/-! ### spec_MergeOf: function 67 -/
def spec_MergeOf.f (k : Nat) (a0_0 : Int) (l0_1 : List (S81)) (l0_2 : List Int) : Option (Int × (List (S81)) × List Int × List Int × Int) := (spec_l04Ok.f k [(⟨a0_0, l0_1, l0_2⟩ : S31)]).bind fun t257 => (if t257 = true then ((spec_l04Merge.f k [(⟨a0_0, l0_1, l0_2⟩ : S31)]).bind fun bt258 => (some (bt258.1, bt258.2.1, bt258.2.2.1, bt258.2.2.2, 0))) else (some (0, ([] : List (S81)), ([] : List Int), (([] : List Int)), 1)))
theorem spec_MergeOf.mono : ∀ a0 a1 a2 k, LeO (spec_MergeOf.f k a0 a1 a2) (spec_MergeOf.f (k + 1) a0 a1 a2) := by
 intro a0 a1 a2 k
 unfold spec_MergeOf.f
 repeat' first | (with_reducible first | apply spec_l04Merge.mono | apply spec_l04Ok.mono | exact LeO.refl _ | exact LeO.none _ | refine LeO.ite ?_ ?_ | refine LeO.bind ?_ (fun _ => ?_)) | apply spec_l04Merge.mono | apply spec_l04Ok.mono | exact LeO.none _ | refine LeO.ite ?_ ?_ | refine LeO.bind ?_ (fun _ => ?_)
set_option maxHeartbeats 8000000 in
set_option maxRecDepth 100000 in
theorem spec_MergeOf.calls (k : Nat) (a0_0 : Int) (A0_1 : Option Addr) (c0_1 : Nat) (l0_1 : List (S81)) (A0_2 : Option Addr) (c0_2 : Nat) (l0_2 : List Int) (r1 : Int) (r2 : List (S81)) (r3 : List Int) (r4 : List Int) (r5 : Int) (w : World) (hr0_1 : Kd.C k81 w A0_1 l0_1.length l0_1) (hc0_1 : l0_1.length ≤ c0_1) (hr0_2 : Kd.C (Kd.int .i16) w A0_2 l0_2.length l0_2) (hc0_2 : l0_2.length ≤ c0_2) (h : spec_MergeOf.f k a0_0 l0_1 l0_2 = some (r1, r2, r3, r4, r5)) :
    Calls Try.prog 67 #[.agg #[.int .i8 a0_0, .slice A0_1 l0_1.length c0_1, .slice A0_2 l0_2.length c0_2]] w fun e w' => ∃ v1_ v2_ v3_ : Value, e = .returned (.tuple #[.agg #[.int .i8 r1, v1_, v2_], v3_, .int .i64 r5]) ∧ Kd.R k81 81 w' w.heap.size (fun _ => True) v1_ r2 ∧ Kd.R (Kd.int .i16) 79 w' w.heap.size (fun _ => True) v2_ r3 ∧ Kd.R (Kd.int .i64) 2 w' w.heap.size (fun _ => True) v3_ r4 ∧ Below w.heap.size w w' := by
 have hu31 := Try.underlying31
 have HR0_1 := Aside0.mk hr0_1
 have HC0_1 := Aside0.mk hc0_1
 clear hr0_1 hc0_1
 have HR0_2 := Aside0.mk hr0_2
 have HC0_2 := Aside0.mk hc0_2
 clear hr0_2 hc0_2
 have HB := Aside0.mk (Below.refl w.heap.size w)
 have H : ((spec_l04Ok.f k [(⟨a0_0, l0_1, l0_2⟩ : S31)]).bind fun t257 => (if t257 = true then ((spec_l04Merge.f k [(⟨a0_0, l0_1, l0_2⟩ : S31)]).bind fun bt258 => (some (bt258.1, bt258.2.1, bt258.2.2.1, bt258.2.2.2, 0))) else (some (0, ([] : List (S81)), ([] : List Int), (([] : List Int)), 1)))) = some (r1, r2, r3, r4, r5) := h
 clear h
 replace H := Option.bind_eq_some_iff.mp H
 obtain ⟨t257, A20, H⟩ := H
 replace H : (if t257 = true then ((spec_l04Merge.f k [(⟨a0_0, l0_1, l0_2⟩ : S31)]).bind fun bt258 => (some (bt258.1, bt258.2.1, bt258.2.2.1, bt258.2.2.2, 0))) else (some (0, ([] : List (S81)), ([] : List Int), (([] : List Int)), 1))) = some (r1, r2, r3, r4, r5) := H
 have A2 := Aside0.mk A20
 clear A20
 by_cases c3 : t257 = true
 rotate_left
 ·replace c3 := Bool.eq_false_iff.mpr c3
  subst c3
  have H1 : (some (0, ([] : List (S81)), ([] : List Int), (([] : List Int)), 1)) = some (r1, r2, r3, r4, r5) := by rw [if_neg (show ¬ (false = true) by decide)] at H; exact H
  clear H
  have H := H1
  clear H1
  obtain ⟨y269, hy269⟩ : ∃ y_ : List Int, y_ = (([] : List Int)) := ⟨_, rfl⟩
  replace H : (some (0, ([] : List (S81)), ([] : List Int), y269, 1)) = some (r1, r2, r3, r4, r5) := by first | (rw [hy269]; with_reducible exact H) | (have H2_ := (Option.bind_some _ _).symm.trans H; rw [hy269]; with_reducible exact H2_) | (have H2_ := (Option.bind_some _ _).symm.trans H; with_reducible exact H2_) | with_reducible exact H | (rw [hy269]; exact H) | exact H
  have Ny269 := Aside0.mk hy269
  clear hy269
  simp only [Option.some.injEq, Prod.mk.injEq] at H
  obtain ⟨rfl, rfl, rfl, rfl, rfl⟩ := H
  go_enter Try.func67, Try.ntmps67
  go_wp2_with (first | ((with_reducible refine gate_dst (N := 1) rfl ?_); refine box_event ?hg (N := 1) ?hd (cs := #[.int .i8 a0_0, .slice A0_1 l0_1.length c0_1, .slice A0_2 l0_2.length c0_2]) (t := 31) ?hr ?_; (case hd => rfl); (case hg => rfl); (case hr => first | (go_simp; done) | (go_simp; rfl)); intro gb255 hg w17 hbox hb; have n_ : _ ∧ _ ∧ _ ∧ _ := ⟨zb HB hb, Aside0.mk (hbox), zg HB hg, zg HB hg⟩; clear HB; obtain ⟨HB, BK255, GW255, GE255⟩ := n_; clear hb hbox hg) | ((with_reducible refine gate_dst (N := 2) rfl ?_); refine box_event ?hg (N := 2) ?hd (cs := #[.int .i8 0, .slice none 0 0, .slice none 0 0]) (t := 31) ?hr ?_; (case hd => rfl); (case hg => rfl); (case hr => first | (go_simp; done) | (go_simp; rfl)); intro gb256 hg w18 hbox hb; have n_ : _ ∧ _ ∧ _ ∧ _ ∧ _ ∧ _ ∧ _ := ⟨zk BK255 hb, zbs hb, Aside0.mk (hbox), zg HB hg, zg HB hg, zn1 BK255 hg, zn2 BK255 hg⟩; clear BK255 HB; obtain ⟨BK255, HB, BK256, GW256, GE256, NB255_256, NB256_255⟩ := n_; clear hb hbox hg) | ((with_reducible refine gate_callee (f := 81) rfl ?_); refine goesL_ (some 7) rfl rfl Try.func81 (by kernel_rfl) rfl #[.pointer (some ⟨gb255, 0, none⟩)] rfl (by (try simp only [List.map_toArray, List.map_cons, List.map_nil]); first | done | rfl | (simp only [List.length_drop, List.length_take]; rfl)) ?_; (with_reducible refine (spec_l04Ok.calls k _ [(⟨a0_0, l0_1, l0_2⟩ : S31)] false _ ?side1 A2.out).mono ?_); (case side1 => refine ro_of_blk (T := 31) (cs := #[.int .i8 a0_0, .slice A0_1 l0_1.length c0_1, .slice A0_2 l0_2.length c0_2]) (zh BK255).out ?_; exact k31_mk _ (⟨a0_0, l0_1, l0_2⟩ : S31) (by exact HC0_1.out) (by exact zcc HB HR0_1.out) (by exact HC0_2.out) (by exact zcc HB HR0_2.out)); rintro e w19 ⟨rfl, hb⟩; refine ⟨_, rfl, ?_⟩; have n_ : _ ∧ _ ∧ _ := ⟨zk BK255 hb, zk BK256 hb, zbs hb⟩; clear BK255 BK256 HB; obtain ⟨BK255, BK256, HB⟩ := n_; (try clear hb); (try clear hb2); (try clear hk); (try clear hi)) | ((with_reducible refine gate_dst (N := 10) rfl ?_); refine Kd.R_lit (Kd.int .i64) _ 2 ?hg (N := 10) ?hd (xs := ([] : List Int)) (inner := []) (ok := fun _ => True) (okp := fun _ => True) ?hr ?hp (fun _ hk => hk) trivial (Below.refl _ _) (Nat.le_refl _) (by simp) ?_; (case hd => rfl); (case hg => rfl); (case hr => first | (go_simp; done) | (go_simp; rfl)); (case hp => exact (Reps.none _ _)); intro v270 w20 ho21 hb hg_ hnew_; clear hg_ hnew_; (first | rw [← Ny269.out] at ho21 | (simp only [Int.reduceToNat] at ho21; rw [← Ny269.out] at ho21)); have n_ : _ ∧ _ ∧ _ ∧ _ := ⟨Aside0.mk (Kd.R_lower ho21 (zz HB)), zk BK255 hb, zk BK256 hb, zbs hb⟩; clear BK255 BK256 HB; obtain ⟨HO271, BK255, BK256, HB⟩ := n_; clear hb ho21; have hnb22 := NB256_255.out; have hnc22 := NB255_256.out; obtain ⟨z23_0, z23_1, z23_2, y23_0, y23_1, y23_2⟩ := zB3 BK256))
  refine bodyPost_ret (results_ctt rfl _ _ gb256 31 #[.int .i8 0, .slice none 0 0, .slice none 0 0] (0, 0) _ rfl (by (with_reducible repeat (first | refine blk_drewN ?_ _ | refine blk_drew ?_ | refine blk_alloc ?_ _)); refine blk_put (cs := #[.int .i8 0, .slice none 0 0, .slice none 0 0]) ?_ 2 _ rfl; (with_reducible repeat (first | refine blk_drewN ?_ _ | refine blk_drew ?_ | refine blk_alloc ?_ _)); refine blk_put (cs := #[.int .i8 0, .slice none 0 0, .slice none 0 0]) ?_ 1 _ rfl; (with_reducible repeat (first | refine blk_drewN ?_ _ | refine blk_drew ?_ | refine blk_alloc ?_ _)); refine blk_put (cs := #[.int .i8 0, .slice none 0 0, .slice none 0 0]) ?_ 0 _ rfl; (with_reducible repeat (first | refine blk_drewN ?_ _ | refine blk_drew ?_ | refine blk_alloc ?_ _)); exact BK256.out) Try.underlying31 rfl (by kernel_rfl)) rfl ?_
  exact ⟨_, _, _, by first | rfl | (simp [errW_none, errW_some] <;> rfl) | (simp [*, errW_none, errW_some] <;> rfl), by first | exact Kd.R_nil _ _ _ _ _ | exact Kd.N_nil _ _ _ _ _ | exact Kd.V_nil _ _ _ _ _ | exact Kd.Q_nil _ _ _ _ _ | exact Kd.S_nil _ _ _ _ _, by first | exact Kd.R_nil _ _ _ _ _ | exact Kd.N_nil _ _ _ _ _ | exact Kd.V_nil _ _ _ _ _ | exact Kd.Q_nil _ _ _ _ _ | exact Kd.S_nil _ _ _ _ _, by (with_reducible repeat (first | apply Kd.R_alloc | apply Kd.R_drewN | apply Kd.R_drew)); exact Kd.R_mono (Kd.R_far (p := ⟨gb256, 2, none⟩) (Kd.R_far (p := ⟨gb256, 1, none⟩) (Kd.R_far (p := ⟨gb256, 0, none⟩) (Kd.R_types HO271.out BK256.out (by decide)) (fun _ hk => hk.2) (.int .i8 0)) (fun _ hk => hk.2) (.slice none 0 0)) (fun _ hk => hk.2) (.slice none 0 0)) (fun _ hk => trivial), by repeat (first | (with_reducible first | exact HB.out | apply below_alloc | apply pw_below_drewN | apply below_drew1 | refine below_set ?_ GE255.out | refine below_set ?_ GE256.out) | exact HB.out)⟩
 subst c3
 have H1 : ((spec_l04Merge.f k [(⟨a0_0, l0_1, l0_2⟩ : S31)]).bind fun bt258 => (some (bt258.1, bt258.2.1, bt258.2.2.1, bt258.2.2.2, 0))) = some (r1, r2, r3, r4, r5) := by rw [if_pos rfl] at H; exact H
 clear H
 have H := H1
 clear H1
 replace H := Option.bind_eq_some_iff.mp H
 obtain ⟨⟨t258, t259, t262, t265⟩, A40, H⟩ := H
 replace H : (some (t258, t259, t262, t265, 0)) = some (r1, r2, r3, r4, r5) := H
 have A4 := Aside0.mk A40
 clear A40
 simp only [Option.some.injEq, Prod.mk.injEq] at H
 obtain ⟨rfl, rfl, rfl, rfl, rfl⟩ := H
 go_enter Try.func67, Try.ntmps67
 go_wp2_with (first | ((with_reducible refine gate_dst (N := 1) rfl ?_); refine box_event ?hg (N := 1) ?hd (cs := #[.int .i8 a0_0, .slice A0_1 l0_1.length c0_1, .slice A0_2 l0_2.length c0_2]) (t := 31) ?hr ?_; (case hd => rfl); (case hg => rfl); (case hr => first | (go_simp; done) | (go_simp; rfl)); intro gb255 hg w5 hbox hb; have n_ : _ ∧ _ ∧ _ ∧ _ := ⟨zb HB hb, Aside0.mk (hbox), zg HB hg, zg HB hg⟩; clear HB; obtain ⟨HB, BK255, GW255, GE255⟩ := n_; clear hb hbox hg) | ((with_reducible refine gate_dst (N := 2) rfl ?_); refine box_event ?hg (N := 2) ?hd (cs := #[.int .i8 0, .slice none 0 0, .slice none 0 0]) (t := 31) ?hr ?_; (case hd => rfl); (case hg => rfl); (case hr => first | (go_simp; done) | (go_simp; rfl)); intro gb256 hg w6 hbox hb; have n_ : _ ∧ _ ∧ _ ∧ _ ∧ _ ∧ _ ∧ _ := ⟨zk BK255 hb, zbs hb, Aside0.mk (hbox), zg HB hg, zg HB hg, zn1 BK255 hg, zn2 BK255 hg⟩; clear BK255 HB; obtain ⟨BK255, HB, BK256, GW256, GE256, NB255_256, NB256_255⟩ := n_; clear hb hbox hg) | ((with_reducible refine gate_callee (f := 81) rfl ?_); refine goesL_ (some 7) rfl rfl Try.func81 (by kernel_rfl) rfl #[.pointer (some ⟨gb255, 0, none⟩)] rfl (by (try simp only [List.map_toArray, List.map_cons, List.map_nil]); first | done | rfl | (simp only [List.length_drop, List.length_take]; rfl)) ?_; (with_reducible refine (spec_l04Ok.calls k _ [(⟨a0_0, l0_1, l0_2⟩ : S31)] true _ ?side1 A2.out).mono ?_); (case side1 => refine ro_of_blk (T := 31) (cs := #[.int .i8 a0_0, .slice A0_1 l0_1.length c0_1, .slice A0_2 l0_2.length c0_2]) (zh BK255).out ?_; exact k31_mk _ (⟨a0_0, l0_1, l0_2⟩ : S31) (by exact HC0_1.out) (by exact zcc HB HR0_1.out) (by exact HC0_2.out) (by exact zcc HB HR0_2.out)); rintro e w7 ⟨rfl, hb⟩; refine ⟨_, rfl, ?_⟩; have n_ : _ ∧ _ ∧ _ := ⟨zk BK255 hb, zk BK256 hb, zbs hb⟩; clear BK255 BK256 HB; obtain ⟨BK255, BK256, HB⟩ := n_; (try clear hb); (try clear hb2); (try clear hk); (try clear hi)) | ((with_reducible refine gate_callee (f := 121) rfl ?_); refine goesL_ (some 12) rfl rfl Try.func121 (by kernel_rfl) rfl #[.pointer (some ⟨gb255, 0, none⟩)] rfl (by (try simp only [List.map_toArray, List.map_cons, List.map_nil]); first | done | rfl | (simp only [List.length_drop, List.length_take]; rfl)) ?_; (with_reducible refine (spec_l04Merge.calls k _ [(⟨a0_0, l0_1, l0_2⟩ : S31)] t258 t259 t262 t265 _ ?side1 A4.out).mono ?_); (case side1 => refine ro_of_blk (T := 31) (cs := #[.int .i8 a0_0, .slice A0_1 l0_1.length c0_1, .slice A0_2 l0_2.length c0_2]) (zh BK255).out ?_; exact k31_mk _ (⟨a0_0, l0_1, l0_2⟩ : S31) (by exact HC0_1.out) (by exact zcc HB HR0_1.out) (by exact HC0_2.out) (by exact zcc HB HR0_2.out)); rintro e w8 ⟨v260, v263, v266, rfl, ho0, ho1, ho2, hb⟩; refine ⟨_, rfl, ?_⟩; have n_ : _ ∧ _ ∧ _ ∧ _ ∧ _ ∧ _ := ⟨Aside0.mk (Kd.R_lower ho0 (zz HB)), Aside0.mk (Kd.R_lower ho1 (zz HB)), Aside0.mk (Kd.R_lower ho2 (zz HB)), zk BK255 hb, zk BK256 hb, zbs hb⟩; clear BK255 BK256 HB; obtain ⟨HO261, HO264, HO267, BK255, BK256, HB⟩ := n_; (try clear hb); (try clear hb2); (try clear hk); (try clear hi); (try clear ho0); (try clear ho1); (try clear ho2)) | ((with_reducible refine gate_dst (N := 5) rfl ?_); refine box_event ?hg (N := 5) ?hd (cs := #[.int .i8 0, .slice none 0 0, .slice none 0 0]) (t := 31) ?hr ?_; (case hd => rfl); (case hg => rfl); (case hr => first | (go_simp; done) | (go_simp; rfl)); intro gb268 hg w9 hbox hb; have n_ : _ ∧ _ ∧ _ ∧ _ ∧ _ ∧ _ ∧ _ ∧ _ ∧ _ ∧ _ ∧ _ ∧ _ ∧ _ := ⟨zr HO261 hb, zr HO264 hb, zr HO267 hb, zk BK255 hb, zk BK256 hb, zbs hb, Aside0.mk (hbox), zg HB hg, zg HB hg, zn1 BK255 hg, zn2 BK255 hg, zn1 BK256 hg, zn2 BK256 hg⟩; clear HO261 HO264 HO267 BK255 BK256 HB; obtain ⟨HO261, HO264, HO267, BK255, BK256, HB, BK268, GW268, GE268, NB255_268, NB268_255, NB256_268, NB268_256⟩ := n_; clear hb hbox hg; have hnb10 := NB268_255.out; have hnc10 := NB255_268.out; have hnb11 := NB268_256.out; have hnc11 := NB256_268.out; obtain ⟨z12_0, z12_1, z12_2, y12_0, y12_1, y12_2⟩ := zB3 BK268; obtain ⟨Ao13, co13, eo13⟩ := Kd.R_slice HO261.out; subst eo13; obtain ⟨Ao14, co14, eo14⟩ := Kd.R_slice HO264.out; subst eo14; have hnb15 := NB256_255.out; have hnc15 := NB255_256.out; obtain ⟨z16_0, z16_1, z16_2, y16_0, y16_1, y16_2⟩ := zB3 BK256))
 refine bodyPost_ret (results_ctt rfl _ _ gb256 31 #[.int .i8 t258, .slice Ao13 t259.length co13, .slice Ao14 t262.length co14] (0, 0) _ rfl (by (with_reducible repeat (first | refine blk_drewN ?_ _ | refine blk_drew ?_ | refine blk_alloc ?_ _)); refine blk_put (cs := #[.int .i8 t258, .slice Ao13 t259.length co13, .slice none 0 0]) ?_ 2 _ rfl; (with_reducible repeat (first | refine blk_drewN ?_ _ | refine blk_drew ?_ | refine blk_alloc ?_ _)); refine blk_put (cs := #[.int .i8 t258, .slice none 0 0, .slice none 0 0]) ?_ 1 _ rfl; (with_reducible repeat (first | refine blk_drewN ?_ _ | refine blk_drew ?_ | refine blk_alloc ?_ _)); refine blk_put (cs := #[.int .i8 0, .slice none 0 0, .slice none 0 0]) ?_ 0 _ rfl; (with_reducible repeat (first | refine blk_drewN ?_ _ | refine blk_drew ?_ | refine blk_alloc ?_ _)); refine blk_far ?_ NB256_268.out _; (with_reducible repeat (first | refine blk_drewN ?_ _ | refine blk_drew ?_ | refine blk_alloc ?_ _)); refine blk_far ?_ NB256_268.out _; (with_reducible repeat (first | refine blk_drewN ?_ _ | refine blk_drew ?_ | refine blk_alloc ?_ _)); refine blk_far ?_ NB256_268.out _; (with_reducible repeat (first | refine blk_drewN ?_ _ | refine blk_drew ?_ | refine blk_alloc ?_ _)); exact BK256.out) Try.underlying31 rfl (by kernel_rfl)) rfl ?_
 exact ⟨_, _, _, by first | rfl | (simp [errW_none, errW_some] <;> rfl) | (simp [*, errW_none, errW_some] <;> rfl), by (with_reducible repeat (first | apply Kd.R_alloc | apply Kd.R_drewN | apply Kd.R_drew)); exact Kd.R_mono (Kd.R_far (p := ⟨gb256, 2, none⟩) (Kd.R_far (p := ⟨gb256, 1, none⟩) (Kd.R_far (p := ⟨gb256, 0, none⟩) (Kd.R_far (p := ⟨gb268, 2, none⟩) (Kd.R_far (p := ⟨gb268, 1, none⟩) (Kd.R_far (p := ⟨gb268, 0, none⟩) (Kd.R_types (Kd.R_types HO261.out BK268.out (by decide)) BK256.out (by decide)) (fun _ hk => hk.1.2) (.int .i8 t258)) (fun _ hk => hk.1.2) (.slice Ao13 t259.length co13)) (fun _ hk => hk.1.2) (.slice Ao14 t262.length co14)) (fun _ hk => hk.2) (.int .i8 t258)) (fun _ hk => hk.2) (.slice Ao13 t259.length co13)) (fun _ hk => hk.2) (.slice Ao14 t262.length co14)) (fun _ hk => trivial), by (with_reducible repeat (first | apply Kd.R_alloc | apply Kd.R_drewN | apply Kd.R_drew)); exact Kd.R_mono (Kd.R_far (p := ⟨gb256, 2, none⟩) (Kd.R_far (p := ⟨gb256, 1, none⟩) (Kd.R_far (p := ⟨gb256, 0, none⟩) (Kd.R_far (p := ⟨gb268, 2, none⟩) (Kd.R_far (p := ⟨gb268, 1, none⟩) (Kd.R_far (p := ⟨gb268, 0, none⟩) (Kd.R_types (Kd.R_types HO264.out BK268.out (by decide)) BK256.out (by decide)) (fun _ hk => hk.1.2) (.int .i8 t258)) (fun _ hk => hk.1.2) (.slice Ao13 t259.length co13)) (fun _ hk => hk.1.2) (.slice Ao14 t262.length co14)) (fun _ hk => hk.2) (.int .i8 t258)) (fun _ hk => hk.2) (.slice Ao13 t259.length co13)) (fun _ hk => hk.2) (.slice Ao14 t262.length co14)) (fun _ hk => trivial), by (with_reducible repeat (first | apply Kd.R_alloc | apply Kd.R_drewN | apply Kd.R_drew)); exact Kd.R_mono (Kd.R_far (p := ⟨gb256, 2, none⟩) (Kd.R_far (p := ⟨gb256, 1, none⟩) (Kd.R_far (p := ⟨gb256, 0, none⟩) (Kd.R_far (p := ⟨gb268, 2, none⟩) (Kd.R_far (p := ⟨gb268, 1, none⟩) (Kd.R_far (p := ⟨gb268, 0, none⟩) (Kd.R_types (Kd.R_types HO267.out BK268.out (by decide)) BK256.out (by decide)) (fun _ hk => hk.1.2) (.int .i8 t258)) (fun _ hk => hk.1.2) (.slice Ao13 t259.length co13)) (fun _ hk => hk.1.2) (.slice Ao14 t262.length co14)) (fun _ hk => hk.2) (.int .i8 t258)) (fun _ hk => hk.2) (.slice Ao13 t259.length co13)) (fun _ hk => hk.2) (.slice Ao14 t262.length co14)) (fun _ hk => trivial), by repeat (first | (with_reducible first | exact HB.out | apply below_alloc | apply pw_below_drewN | apply below_drew1 | refine below_set ?_ GE255.out | refine below_set ?_ GE256.out | refine below_set ?_ GE268.out) | exact HB.out)⟩
/-! ### impl_in: function 82 -/
def impl_in.f (a0 : Int) (a1 : Int) (a2 : Int) : Option (Bool) := if a0 ≥ a1 then (some (decide (a0 ≤ a2))) else (some false)
set_option maxHeartbeats 8000000 in
set_option maxRecDepth 100000 in
theorem impl_in.calls (a0 : Int) (a1 : Int) (a2 : Int) (r : Bool) (w : World) (h : impl_in.f a0 a1 a2 = some r) :
    Calls Try.prog 82 #[.int .i64 a0, .int .i64 a1, .int .i64 a2] w fun e w' => e = .returned (.bool r) ∧ Drawn0 w w' := by
 have H : (if a0 ≥ a1 then (some (decide (a0 ≤ a2))) else (some false)) = some r := h
 clear h
 by_cases c4 : a0 ≥ a1
 ·rw [if_pos c4] at H
  have c4b0 : decide (a1 ≤ a0) = true := decide_eq_true c4
  clear c4
  obtain rfl := Option.some.inj H
  go_enter Try.func82, Try.ntmps82
  go_wp2
  go_ret
  exact ⟨by first | rfl | (simp; done) | (simp [*]; done) | (exact congrArg (Value.int .i64) (wrap_eq (by omega))), by repeat (first | exact Drawn0.refl _ | apply Drawn0.step)⟩
 rw [if_neg c4] at H
 have c4b0 : decide (a1 ≤ a0) = false := decide_eq_false c4
 clear c4
 obtain rfl := Option.some.inj H
 go_enter Try.func82, Try.ntmps82
 go_wp2
 go_ret
 exact ⟨by first | rfl | (simp; done) | (simp [*]; done) | (exact congrArg (Value.int .i64) (wrap_eq (by omega))), by repeat (first | exact Drawn0.refl _ | apply Drawn0.step)⟩
/-! ### impl_Node_ok: function 83 -/
def impl_Node_ok.j0 : Nat → Int → Int → Int → Bool → Option (Bool)
  | 0, _, _, _, _ => none
  | k + 1, x2, x7, x8, x35 => if x35 = true then ((impl_in.f x7 0 (wrap64 (x2 - 1))).bind fun t274 => (if t274 = true then ((impl_in.f x8 0 (wrap64 (x2 - 1))).bind fun t275 => (some t275)) else (some false))) else (some false)
def impl_Node_ok.f (k : Nat) (a0_0 : Int) (a0_1 : Int) (a0_2 : Int) (a1 : Int) (a2 : Int) : Option (Bool) := if a0_0 = 0 then ((impl_in.f (wrap64 (a0_1)) 0 (wrap64 (a1 - 1))).bind fun t273 => (if t273 = true then (some ((wrap64 (a0_2)) == 0)) else (some false))) else (if a0_0 = 1 then (if (wrap64 (a0_1)) = 0 then (some ((wrap64 (a0_2)) == 0)) else (some false)) else (if a0_0 = 2 then (impl_Node_ok.j0 k a2 (wrap64 (a0_1)) (wrap64 (a0_2)) (a0_0 == 2)) else (impl_Node_ok.j0 k a2 (wrap64 (a0_1)) (wrap64 (a0_2)) (a0_0 == 3))))
theorem impl_Node_ok.mono_l : ∀ k, (∀ y0 y1 y2 y3, LeO (impl_Node_ok.j0 k y0 y1 y2 y3) (impl_Node_ok.j0 (k + 1) y0 y1 y2 y3))
  | 0 => fun _ _ _ _ r h => by simp [impl_Node_ok.j0] at h
  | k + 1 => by
    have ih0 := impl_Node_ok.mono_l k
    · intro y0 y1 y2 y3
      unfold impl_Node_ok.j0
      repeat' first | (with_reducible first | apply ih0 | exact LeO.refl _ | exact LeO.none _ | refine LeO.ite ?_ ?_ | refine LeO.bind ?_ (fun _ => ?_)) | apply ih0 | exact LeO.none _ | refine LeO.ite ?_ ?_ | refine LeO.bind ?_ (fun _ => ?_)
theorem impl_Node_ok.mono : ∀ a0 a1 a2 a3 a4 k, LeO (impl_Node_ok.f k a0 a1 a2 a3 a4) (impl_Node_ok.f (k + 1) a0 a1 a2 a3 a4) := by
 intro a0 a1 a2 a3 a4 k
 have ih0 := impl_Node_ok.mono_l k
 unfold impl_Node_ok.f
 repeat' first | (with_reducible first | apply ih0 | exact LeO.refl _ | exact LeO.none _ | refine LeO.ite ?_ ?_ | refine LeO.bind ?_ (fun _ => ?_)) | apply ih0 | exact LeO.none _ | refine LeO.ite ?_ ?_ | refine LeO.bind ?_ (fun _ => ?_)
set_option maxHeartbeats 8000000 in
set_option maxRecDepth 100000 in
theorem impl_Node_ok.calls (k : Nat) (a0_0 : Int) (a0_1 : Int) (a0_2 : Int) (a1 : Int) (a2 : Int) (r : Bool) (w : World) (h : impl_Node_ok.f k a0_0 a0_1 a0_2 a1 a2 = some r) :
    Calls Try.prog 83 #[.agg #[.int .i8 a0_0, .int .i16 a0_1, .int .i16 a0_2], .int .i64 a1, .int .i64 a2] w fun e w' => e = .returned (.bool r) ∧ Below w.heap.size w w' := by
 have hu81 := Try.underlying81
 have HB := Aside0.mk (Below.refl w.heap.size w)
 have H : (if a0_0 = 0 then ((impl_in.f (wrap64 (a0_1)) 0 (wrap64 (a1 - 1))).bind fun t273 => (if t273 = true then (some ((wrap64 (a0_2)) == 0)) else (some false))) else (if a0_0 = 1 then (if (wrap64 (a0_1)) = 0 then (some ((wrap64 (a0_2)) == 0)) else (some false)) else (if a0_0 = 2 then (impl_Node_ok.j0 k a2 (wrap64 (a0_1)) (wrap64 (a0_2)) (a0_0 == 2)) else (impl_Node_ok.j0 k a2 (wrap64 (a0_1)) (wrap64 (a0_2)) (a0_0 == 3))))) = some r := h
 clear h
 by_cases c4 : a0_0 = 0
 ·rw [if_pos c4] at H
  have c4b0 : (a0_0 == 0) = true := beq_iff_eq.mpr c4
  have c4b1 : (a0_0 != 0) = false := bne_eq_false_iff_eq.mpr c4
  clear c4
  replace H := Option.bind_eq_some_iff.mp H
  obtain ⟨t273, A50, H⟩ := H
  replace H : (if t273 = true then (some ((wrap64 (a0_2)) == 0)) else (some false)) = some r := H
  have A5 := Aside0.mk A50
  clear A50
  by_cases c6 : t273 = true
  ·subst c6
   have H1 : (some ((wrap64 (a0_2)) == 0)) = some r := by rw [if_pos rfl] at H; exact H
   clear H
   have H := H1
   clear H1
   obtain rfl := Option.some.inj H
   go_enter Try.func83, Try.ntmps83
   go_wp2_with (first | ((with_reducible refine gate_dst (N := 3) rfl ?_); refine box_event ?hg (N := 3) ?hd (cs := #[.int .i8 a0_0, .int .i16 a0_1, .int .i16 a0_2]) (t := 81) ?hr ?_; (case hd => rfl); (case hg => rfl); (case hr => first | (go_simp; done) | (go_simp; rfl)); intro gb272 hg w7 hbox hb; have n_ : _ ∧ _ ∧ _ ∧ _ := ⟨zb HB hb, Aside0.mk (hbox), zg HB hg, zg HB hg⟩; clear HB; obtain ⟨HB, BK272, GW272, GE272⟩ := n_; clear hb hbox hg; obtain ⟨z8_0, z8_1, z8_2, y8_0, y8_1, y8_2⟩ := zB3 BK272) | (go_at_call 82; (with_reducible refine (impl_in.calls (wrap64 (a0_1)) 0 (wrap64 (a1 - 1)) true _ A5.out).mono ?_); rintro e w' ⟨rfl, ⟨nd, rfl⟩⟩; (try first | exact ⟨rfl, _, World.drewN_drewN _ _ _⟩ | exact ⟨rfl, _, Eq.trans (World.drewN_drewN _ _ _) (congrArg (World.drewN _) (Nat.add_assoc _ _ _))⟩)) | go_quiet (first | (go_at_call 82; (with_reducible refine (impl_in.calls (wrap64 (a0_1)) 0 (wrap64 (a1 - 1)) true _ A5.out).mono ?_); rintro e w' ⟨rfl, ⟨nd, rfl⟩⟩; (try first | exact ⟨rfl, _, World.drewN_drewN _ _ _⟩ | exact ⟨rfl, _, Eq.trans (World.drewN_drewN _ _ _) (congrArg (World.drewN _) (Nat.add_assoc _ _ _))⟩))))
   go_ret
   exact ⟨by first | rfl | (simp [errW_none, errW_some] <;> rfl) | (simp [*, errW_none, errW_some] <;> rfl), by repeat (first | (with_reducible first | exact HB.out | apply below_alloc | apply pw_below_drewN | apply below_drew1 | refine below_set ?_ GE272.out) | exact HB.out)⟩
  replace c6 := Bool.eq_false_iff.mpr c6
  subst c6
  have H1 : (some false) = some r := by rw [if_neg (show ¬ (false = true) by decide)] at H; exact H
  clear H
  have H := H1
  clear H1
  obtain rfl := Option.some.inj H
  go_enter Try.func83, Try.ntmps83
  go_wp2_with (first | ((with_reducible refine gate_dst (N := 3) rfl ?_); refine box_event ?hg (N := 3) ?hd (cs := #[.int .i8 a0_0, .int .i16 a0_1, .int .i16 a0_2]) (t := 81) ?hr ?_; (case hd => rfl); (case hg => rfl); (case hr => first | (go_simp; done) | (go_simp; rfl)); intro gb272 hg w9 hbox hb; have n_ : _ ∧ _ ∧ _ ∧ _ := ⟨zb HB hb, Aside0.mk (hbox), zg HB hg, zg HB hg⟩; clear HB; obtain ⟨HB, BK272, GW272, GE272⟩ := n_; clear hb hbox hg; obtain ⟨z10_0, z10_1, z10_2, y10_0, y10_1, y10_2⟩ := zB3 BK272) | (go_at_call 82; (with_reducible refine (impl_in.calls (wrap64 (a0_1)) 0 (wrap64 (a1 - 1)) false _ A5.out).mono ?_); rintro e w' ⟨rfl, ⟨nd, rfl⟩⟩; (try first | exact ⟨rfl, _, World.drewN_drewN _ _ _⟩ | exact ⟨rfl, _, Eq.trans (World.drewN_drewN _ _ _) (congrArg (World.drewN _) (Nat.add_assoc _ _ _))⟩)) | go_quiet (first | (go_at_call 82; (with_reducible refine (impl_in.calls (wrap64 (a0_1)) 0 (wrap64 (a1 - 1)) false _ A5.out).mono ?_); rintro e w' ⟨rfl, ⟨nd, rfl⟩⟩; (try first | exact ⟨rfl, _, World.drewN_drewN _ _ _⟩ | exact ⟨rfl, _, Eq.trans (World.drewN_drewN _ _ _) (congrArg (World.drewN _) (Nat.add_assoc _ _ _))⟩))))
  go_ret
  exact ⟨by first | rfl | (simp [errW_none, errW_some] <;> rfl) | (simp [*, errW_none, errW_some] <;> rfl), by repeat (first | (with_reducible first | exact HB.out | apply below_alloc | apply pw_below_drewN | apply below_drew1 | refine below_set ?_ GE272.out) | exact HB.out)⟩
 rw [if_neg c4] at H
 have c4b0 : (a0_0 == 0) = false := beq_eq_false_iff_ne.mpr c4
 have c4b1 : (a0_0 != 0) = true := bne_iff_ne.mpr c4
 by_cases c11 : a0_0 = 1
 ·rw [if_pos c11] at H
  have c11b0 : (a0_0 == 1) = true := beq_iff_eq.mpr c11
  have c11b1 : (a0_0 != 1) = false := bne_eq_false_iff_eq.mpr c11
  clear c11
  by_cases c12 : (wrap64 (a0_1)) = 0
  rotate_left
  ·rw [if_neg c12] at H
   have c12b0 : ((wrap64 (a0_1)) == 0) = false := beq_eq_false_iff_ne.mpr c12
   have c12b1 : ((wrap64 (a0_1)) != 0) = true := bne_iff_ne.mpr c12
   obtain rfl := Option.some.inj H
   go_enter Try.func83, Try.ntmps83
   go_wp2_with (first | ((with_reducible refine gate_dst (N := 3) rfl ?_); refine box_event ?hg (N := 3) ?hd (cs := #[.int .i8 a0_0, .int .i16 a0_1, .int .i16 a0_2]) (t := 81) ?hr ?_; (case hd => rfl); (case hg => rfl); (case hr => first | (go_simp; done) | (go_simp; rfl)); intro gb272 hg w15 hbox hb; have n_ : _ ∧ _ ∧ _ ∧ _ := ⟨zb HB hb, Aside0.mk (hbox), zg HB hg, zg HB hg⟩; clear HB; obtain ⟨HB, BK272, GW272, GE272⟩ := n_; clear hb hbox hg; obtain ⟨z16_0, z16_1, z16_2, y16_0, y16_1, y16_2⟩ := zB3 BK272) | go_quiet (fail))
   go_ret
   exact ⟨by first | rfl | (simp [errW_none, errW_some] <;> rfl) | (simp [*, errW_none, errW_some] <;> rfl), by repeat (first | (with_reducible first | exact HB.out | apply below_alloc | apply pw_below_drewN | apply below_drew1 | refine below_set ?_ GE272.out) | exact HB.out)⟩
  rw [if_pos c12] at H
  have c12b0 : ((wrap64 (a0_1)) == 0) = true := beq_iff_eq.mpr c12
  have c12b1 : ((wrap64 (a0_1)) != 0) = false := bne_eq_false_iff_eq.mpr c12
  clear c12
  obtain rfl := Option.some.inj H
  go_enter Try.func83, Try.ntmps83
  go_wp2_with (first | ((with_reducible refine gate_dst (N := 3) rfl ?_); refine box_event ?hg (N := 3) ?hd (cs := #[.int .i8 a0_0, .int .i16 a0_1, .int .i16 a0_2]) (t := 81) ?hr ?_; (case hd => rfl); (case hg => rfl); (case hr => first | (go_simp; done) | (go_simp; rfl)); intro gb272 hg w13 hbox hb; have n_ : _ ∧ _ ∧ _ ∧ _ := ⟨zb HB hb, Aside0.mk (hbox), zg HB hg, zg HB hg⟩; clear HB; obtain ⟨HB, BK272, GW272, GE272⟩ := n_; clear hb hbox hg; obtain ⟨z14_0, z14_1, z14_2, y14_0, y14_1, y14_2⟩ := zB3 BK272) | go_quiet (fail))
  go_ret
  exact ⟨by first | rfl | (simp [errW_none, errW_some] <;> rfl) | (simp [*, errW_none, errW_some] <;> rfl), by repeat (first | (with_reducible first | exact HB.out | apply below_alloc | apply pw_below_drewN | apply below_drew1 | refine below_set ?_ GE272.out) | exact HB.out)⟩
 rw [if_neg c11] at H
 have c11b0 : (a0_0 == 1) = false := beq_eq_false_iff_ne.mpr c11
 have c11b1 : (a0_0 != 1) = true := bne_iff_ne.mpr c11
 have HC17 := Aside0.mk H
 clear H
 go_enter Try.func83, Try.ntmps83
 go_upto_if 35 with (first | ((with_reducible refine gate_dst (N := 3) rfl ?_); refine box_event ?hg (N := 3) ?hd (cs := #[.int .i8 a0_0, .int .i16 a0_1, .int .i16 a0_2]) (t := 81) ?hr ?_; (case hd => rfl); (case hg => rfl); (case hr => first | (go_simp; done) | (go_simp; rfl)); intro gb272 hg w18 hbox hb; have n_ : _ ∧ _ ∧ _ ∧ _ := ⟨zb HB hb, Aside0.mk (hbox), zg HB hg, zg HB hg⟩; clear HB; obtain ⟨HB, BK272, GW272, GE272⟩ := n_; clear hb hbox hg; obtain ⟨z19_0, z19_1, z19_2, y19_0, y19_1, y19_2⟩ := zB3 BK272))
 repeat (go_quiet (first | ((with_reducible refine gate_dst (N := 3) rfl ?_); refine box_event ?hg (N := 3) ?hd (cs := #[.int .i8 a0_0, .int .i16 a0_1, .int .i16 a0_2]) (t := 81) ?hr ?_; (case hd => rfl); (case hg => rfl); (case hr => first | (go_simp; done) | (go_simp; rfl)); intro gb272 hg w18 hbox hb; have n0_ := zb HB hb; have n1_ := Aside0.mk (hbox); have n2_ := zg HB hg; have n3_ := zg HB hg; clear HB; have HB := n0_; have BK272 := n1_; have GW272 := n2_; have GE272 := n3_; clear n0_ n1_ n2_ n3_; clear hb hbox hg; have z19_0 : w18.cell? ⟨gb272, 0, none⟩ = some (.int .i8 a0_0) := (blk_cell BK272.out 0).trans rfl; have z19_1 : w18.cell? ⟨gb272, 1, none⟩ = some (.int .i16 a0_1) := (blk_cell BK272.out 1).trans rfl; have z19_2 : w18.cell? ⟨gb272, 2, none⟩ = some (.int .i16 a0_2) := (blk_cell BK272.out 2).trans rfl; have y19_0 := blk_frozen BK272.out 0; have y19_1 := blk_frozen BK272.out 1; have y19_2 := blk_frozen BK272.out 2)); go_upto_if 35 with (first | ((with_reducible refine gate_dst (N := 3) rfl ?_); refine box_event ?hg (N := 3) ?hd (cs := #[.int .i8 a0_0, .int .i16 a0_1, .int .i16 a0_2]) (t := 81) ?hr ?_; (case hd => rfl); (case hg => rfl); (case hr => first | (go_simp; done) | (go_simp; rfl)); intro gb272 hg w18 hbox hb; have n0_ := zb HB hb; have n1_ := Aside0.mk (hbox); have n2_ := zg HB hg; have n3_ := zg HB hg; clear HB; have HB := n0_; have BK272 := n1_; have GW272 := n2_; have GE272 := n3_; clear n0_ n1_ n2_ n3_; clear hb hbox hg; have z19_0 : w18.cell? ⟨gb272, 0, none⟩ = some (.int .i8 a0_0) := (blk_cell BK272.out 0).trans rfl; have z19_1 : w18.cell? ⟨gb272, 1, none⟩ = some (.int .i16 a0_1) := (blk_cell BK272.out 1).trans rfl; have z19_2 : w18.cell? ⟨gb272, 2, none⟩ = some (.int .i16 a0_2) := (blk_cell BK272.out 2).trans rfl; have y19_0 := blk_frozen BK272.out 0; have y19_1 := blk_frozen BK272.out 1; have y19_2 := blk_frozen BK272.out 2)))
 (try simp only [Act.put, List.setIfInBounds_toArray, List.set_cons_zero, List.set_cons_succ])
 go_cut [35] (fun v35 wc => ∃ (kq : Nat) (x35_16 : Bool), v35 = .bool x35_16 ∧ Aside0 (impl_Node_ok.j0 kq a2 (wrap64 (a0_1)) (wrap64 (a0_2)) x35_16 = some r) ∧ Aside0 (kq ≤ k) ∧ Aside0 (wc.heap[gb272]? = some (.cells #[.int .i8 a0_0, .int .i16 a0_1, .int .i16 a0_2] 81 (0, 0))) ∧ Aside0 (Below w.heap.size w wc))
 case first =>
  have H := HC17.out
  clear HC17
  by_cases c20 : a0_0 = 2
  rotate_left
  ·rw [if_neg c20] at H
   have c20b0 : (a0_0 == 2) = false := beq_eq_false_iff_ne.mpr c20
   have c20b1 : (a0_0 != 2) = true := bne_iff_ne.mpr c20
   (first | rw [c20b0] | (simp only [i64_w, i32_w]; rw [c20b0]) | (have h_ := c20b0; simp only [bne] at h_; rw [h_]) | skip)
   have H' := Aside0.mk H
   clear H
   go_wp2
   repeat (go_quiet (fail); try go_wp2)
   go_meet
   case rel => exact ⟨_, ((a0_0 == 3)), (by first | rfl | (simp; done) | (simp [*]; done) | (exact congrArg (Value.int .i64) (wrap_eq (by omega)))), H', ⟨by first | omega | exact Nat.le_refl _⟩, zh BK272, zba⟩
  rw [if_pos c20] at H
  have c20b0 : (a0_0 == 2) = true := beq_iff_eq.mpr c20
  have c20b1 : (a0_0 != 2) = false := bne_eq_false_iff_eq.mpr c20
  clear c20
  (first | rw [c20b0] | (simp only [i64_w, i32_w]; rw [c20b0]) | (have h_ := c20b0; simp only [bne] at h_; rw [h_]) | skip)
  have H' := Aside0.mk H
  clear H
  go_wp2
  repeat (go_quiet (fail); try go_wp2)
  go_meet
  case rel => exact ⟨_, ((a0_0 == 2)), (by first | rfl | (simp; done) | (simp [*]; done) | (exact congrArg (Value.int .i64) (wrap_eq (by omega)))), H', ⟨by first | omega | exact Nat.le_refl _⟩, zh BK272, zba⟩
 clear HC17
 try clear c1
 try clear c2
 try clear p2
 try clear c4
 try clear c4b0
 try clear c4b1
 try clear c6
 try clear p6
 try clear c8
 try clear c11
 try clear c11b0
 try clear c11b1
 try clear c12
 try clear c12b0
 try clear c12b1
 try clear c20
 try clear c20b0
 try clear c20b1
 try clear z10_0 z10_1 z10_2
 try clear z14_0 z14_1 z14_2
 try clear z16_0 z16_1 z16_2
 try clear z19_0 z19_1 z19_2
 try clear z8_0 z8_1 z8_2
 try clear y10_0
 try clear y10_1
 try clear y10_2
 try clear y14_0
 try clear y14_1
 try clear y14_2
 try clear y16_0
 try clear y16_1
 try clear y16_2
 try clear y19_0
 try clear y19_1
 try clear y19_2
 try clear y8_0
 try clear y8_1
 try clear y8_2
 obtain ⟨kq, x35_16, rfl, HA, HJ16, BK272, HB⟩ := hcut
 cases kq with
 | zero => exact absurd HA.out (by simp [impl_Node_ok.j0])
 | succ kj16 => ?_
 have H := HA.out
 clear HA
 simp only [impl_Node_ok.j0] at H
 by_cases c21 : x35_16 = true
 rotate_left
 ·replace c21 := Bool.eq_false_iff.mpr c21
  subst c21
  have H1 : (some false) = some r := by rw [if_neg (show ¬ (false = true) by decide)] at H; exact H
  clear H
  have H := H1
  clear H1
  obtain rfl := Option.some.inj H
  go_wp2
  repeat (go_quiet (fail); try go_wp2)
  go_ret
  exact ⟨by first | rfl | (simp [errW_none, errW_some] <;> rfl) | (simp [*, errW_none, errW_some] <;> rfl), by repeat (first | (with_reducible first | exact HB.out | apply below_alloc | apply pw_below_drewN | apply below_drew1 | refine below_set ?_ GE272.out) | exact HB.out)⟩
 subst c21
 have H1 : ((impl_in.f (wrap64 (a0_1)) 0 (wrap64 (a2 - 1))).bind fun t274 => (if t274 = true then ((impl_in.f (wrap64 (a0_2)) 0 (wrap64 (a2 - 1))).bind fun t275 => (some t275)) else (some false))) = some r := by rw [if_pos rfl] at H; exact H
 clear H
 have H := H1
 clear H1
 replace H := Option.bind_eq_some_iff.mp H
 obtain ⟨t274, A220, H⟩ := H
 replace H : (if t274 = true then ((impl_in.f (wrap64 (a0_2)) 0 (wrap64 (a2 - 1))).bind fun t275 => (some t275)) else (some false)) = some r := H
 have A22 := Aside0.mk A220
 clear A220
 by_cases c23 : t274 = true
 rotate_left
 ·replace c23 := Bool.eq_false_iff.mpr c23
  subst c23
  have H1 : (some false) = some r := by rw [if_neg (show ¬ (false = true) by decide)] at H; exact H
  clear H
  have H := H1
  clear H1
  obtain rfl := Option.some.inj H
  go_wp2_with (first | (go_at_call 82; (with_reducible refine (impl_in.calls (wrap64 (a0_1)) 0 (wrap64 (a2 - 1)) false _ A22.out).mono ?_); rintro e w' ⟨rfl, ⟨nd, rfl⟩⟩; (try first | exact ⟨rfl, _, World.drewN_drewN _ _ _⟩ | exact ⟨rfl, _, Eq.trans (World.drewN_drewN _ _ _) (congrArg (World.drewN _) (Nat.add_assoc _ _ _))⟩)) | go_quiet (first | (go_at_call 82; (with_reducible refine (impl_in.calls (wrap64 (a0_1)) 0 (wrap64 (a2 - 1)) false _ A22.out).mono ?_); rintro e w' ⟨rfl, ⟨nd, rfl⟩⟩; (try first | exact ⟨rfl, _, World.drewN_drewN _ _ _⟩ | exact ⟨rfl, _, Eq.trans (World.drewN_drewN _ _ _) (congrArg (World.drewN _) (Nat.add_assoc _ _ _))⟩))))
  go_ret
  exact ⟨by first | rfl | (simp [errW_none, errW_some] <;> rfl) | (simp [*, errW_none, errW_some] <;> rfl), by repeat (first | (with_reducible first | exact HB.out | apply below_alloc | apply pw_below_drewN | apply below_drew1 | refine below_set ?_ GE272.out) | exact HB.out)⟩
 subst c23
 have H1 : ((impl_in.f (wrap64 (a0_2)) 0 (wrap64 (a2 - 1))).bind fun t275 => (some t275)) = some r := by rw [if_pos rfl] at H; exact H
 clear H
 have H := H1
 clear H1
 replace H := Option.bind_eq_some_iff.mp H
 obtain ⟨t275, A240, H⟩ := H
 replace H : (some t275) = some r := H
 have A24 := Aside0.mk A240
 clear A240
 obtain rfl := Option.some.inj H
 go_wp2_with (first | (go_at_call 82; (with_reducible refine (impl_in.calls (wrap64 (a0_1)) 0 (wrap64 (a2 - 1)) true _ A22.out).mono ?_); rintro e w' ⟨rfl, ⟨nd, rfl⟩⟩; (try first | exact ⟨rfl, _, World.drewN_drewN _ _ _⟩ | exact ⟨rfl, _, Eq.trans (World.drewN_drewN _ _ _) (congrArg (World.drewN _) (Nat.add_assoc _ _ _))⟩)) | (go_at_call 82; (with_reducible refine (impl_in.calls (wrap64 (a0_2)) 0 (wrap64 (a2 - 1)) t275 _ A24.out).mono ?_); rintro e w' ⟨rfl, ⟨nd, rfl⟩⟩; (try first | exact ⟨rfl, _, World.drewN_drewN _ _ _⟩ | exact ⟨rfl, _, Eq.trans (World.drewN_drewN _ _ _) (congrArg (World.drewN _) (Nat.add_assoc _ _ _))⟩)) | go_quiet (first | (go_at_call 82; (with_reducible refine (impl_in.calls (wrap64 (a0_1)) 0 (wrap64 (a2 - 1)) true _ A22.out).mono ?_); rintro e w' ⟨rfl, ⟨nd, rfl⟩⟩; (try first | exact ⟨rfl, _, World.drewN_drewN _ _ _⟩ | exact ⟨rfl, _, Eq.trans (World.drewN_drewN _ _ _) (congrArg (World.drewN _) (Nat.add_assoc _ _ _))⟩)) | (go_at_call 82; (with_reducible refine (impl_in.calls (wrap64 (a0_2)) 0 (wrap64 (a2 - 1)) t275 _ A24.out).mono ?_); rintro e w' ⟨rfl, ⟨nd, rfl⟩⟩; (try first | exact ⟨rfl, _, World.drewN_drewN _ _ _⟩ | exact ⟨rfl, _, Eq.trans (World.drewN_drewN _ _ _) (congrArg (World.drewN _) (Nat.add_assoc _ _ _))⟩))))
 go_ret
 exact ⟨by first | rfl | (simp [errW_none, errW_some] <;> rfl) | (simp [*, errW_none, errW_some] <;> rfl), by repeat (first | (with_reducible first | exact HB.out | apply below_alloc | apply pw_below_drewN | apply below_drew1 | refine below_set ?_ GE272.out) | exact HB.out)⟩
-- NOT PRINTED: function 126 (slices_IndexFunc_int16_int16)

-- NOT PRINTED: function 84 (slices_ContainsFunc_int16_int16)

/-! ### impl_ValidNetwork_1: function 85 -/
def impl_ValidNetwork_1.f (a0 : Int) (l1 : List (S31)) : Option (Bool) := if 0 < (l1.length : Int) then ((impl_in.f (wrap64 (a0)) 0 (wrap64 ((((rd_T31 l1 0).f1).length : Int) - 1))).bind fun t277 => (some (!t277))) else (none)
set_option maxHeartbeats 8000000 in
set_option maxRecDepth 100000 in
theorem impl_ValidNetwork_1.calls (a0 : Int) (adp1 : Addr) (l1 : List (S31)) (r : Bool) (w : World) (hr1 : Kd.C k31 w (some adp1) l1.length l1) (h : impl_ValidNetwork_1.f a0 l1 = some r) :
    Calls Try.prog 85 #[.int .i16 a0, .pointer (some adp1)] w fun e w' => e = .returned (.bool r) ∧ Drawn0 w w' := by
 have HR1 := Aside0.mk hr1
 clear hr1
 have H : (if 0 < (l1.length : Int) then ((impl_in.f (wrap64 (a0)) 0 (wrap64 ((((rd_T31 l1 0).f1).length : Int) - 1))).bind fun t277 => (some (!t277))) else (none)) = some r := h
 clear h
 by_cases c3 : 0 < (l1.length : Int)
 rotate_left
 ·rw [if_neg c3] at H
  exact absurd H (by simp)
 rw [if_pos c3] at H
 have c3b0 : decide (0 < (l1.length : Int)) = true := decide_eq_true c3
 have c3b1 : decide (0 < l1.length) = true := decide_eq_true (by omega)
 clear c3
 replace H := Option.bind_eq_some_iff.mp H
 obtain ⟨t277, A40, H⟩ := H
 replace H : (some (!t277)) = some r := H
 have A4 := Aside0.mk A40
 clear A40
 obtain rfl := Option.some.inj H
 have p276 : 0 ≤ (0 : Int) := (by omega)
 have q276 : 0 < (l1.length : Int) := of_decide_eq_true (by first | (with_reducible assumption) | assumption)
 obtain ⟨ad276, A276_1, c276_1, A276_2, c276_2, e276, hx276_0, hx276_1, hx276_2, hl276_1, hi276_1, hl276_2, hi276_2⟩ := at_T31 HR1.out 0 p276 q276
 obtain rfl : adp1 = ad276 := (by injection e276)
 have qi276 : (0 < l1.length) = True := eq_true (by omega)
 (try rw [show ((0 : Int)).toNat = 0 from rfl] at hx276_0)
 (try rw [show 0 * 3 = 0 from rfl] at hx276_0)
 (try rw [Addr.add_zero'] at hx276_0)
 (try rw [show ((0 : Int)).toNat = 0 from rfl] at hx276_1)
 (try rw [show 0 * 3 = 0 from rfl] at hx276_1)
 (try rw [Addr.add_zero'] at hx276_1)
 (try rw [show ((0 : Int)).toNat = 0 from rfl] at hx276_2)
 (try rw [show 0 * 3 = 0 from rfl] at hx276_2)
 (try rw [Addr.add_zero'] at hx276_2)
 have HR276_1 := Aside0.mk hi276_1
 have HC276_1 := Aside0.mk hl276_1
 clear hi276_1 hl276_1
 have HR276_2 := Aside0.mk hi276_2
 have HC276_2 := Aside0.mk hl276_2
 clear hi276_2 hl276_2
 replace p276 := eq_true p276
 replace q276 := eq_true q276
 go_enter Try.func85, Try.ntmps85
 go_wp2_with (first | ((with_reducible refine gate_callee (f := 82) rfl ?_); refine goesL_ (some 10) rfl rfl Try.func82 (by kernel_rfl) rfl #[.int .i64 (wrap64 (a0)), .int .i64 0, .int .i64 (wrap64 ((((rd_T31 l1 0).f1).length : Int) - 1))] rfl (by (try simp only [List.map_toArray, List.map_cons, List.map_nil]); first | done | rfl | (simp only [List.length_drop, List.length_take]; rfl)) ?_; (with_reducible refine (impl_in.calls (wrap64 (a0)) 0 (wrap64 ((((rd_T31 l1 0).f1).length : Int) - 1)) t277 _ A4.out).mono ?_); rintro e w' ⟨rfl, ⟨nd, rfl⟩⟩; refine ⟨_, rfl, ?_⟩))
 go_ret
 exact ⟨by first | rfl | (simp; done) | (simp [*]; done) | (exact congrArg (Value.int .i64) (wrap_eq (by omega))), by repeat (first | exact Drawn0.refl _ | apply Drawn0.step)⟩
/-! ### slices_IndexFunc__impl_ValidNetwork_1: function 164 -/
def slices_IndexFunc__impl_ValidNetwork_1.l0 : Nat → List Int → Int → Int → List (S31) → Option (Int)
  | 0, _, _, _, _ => none
  | k + 1, x0, x7, x8, x2000 => if x8 < x7 then (if 0 ≤ x8 then (if x8 < (x0.length : Int) then ((impl_ValidNetwork_1.f (rd x0 x8) x2000).bind fun t279 => (if t279 = true then (some x8) else (slices_IndexFunc__impl_ValidNetwork_1.l0 k x0 x7 (wrap64 (x8 + 1)) x2000))) else (none)) else (none)) else (some (-1))
def slices_IndexFunc__impl_ValidNetwork_1.f (k : Nat) (l0 : List Int) (l1_0 : List (S31)) : Option (Int) := slices_IndexFunc__impl_ValidNetwork_1.l0 k l0 (l0.length : Int) 0 l1_0
theorem slices_IndexFunc__impl_ValidNetwork_1.mono_l : ∀ k, (∀ y0 y1 y2 y3, LeO (slices_IndexFunc__impl_ValidNetwork_1.l0 k y0 y1 y2 y3) (slices_IndexFunc__impl_ValidNetwork_1.l0 (k + 1) y0 y1 y2 y3))
  | 0 => fun _ _ _ _ r h => by simp [slices_IndexFunc__impl_ValidNetwork_1.l0] at h
  | k + 1 => by
    have ih0 := slices_IndexFunc__impl_ValidNetwork_1.mono_l k
    · intro y0 y1 y2 y3
      unfold slices_IndexFunc__impl_ValidNetwork_1.l0
      repeat' first | (with_reducible first | apply ih0 | exact LeO.refl _ | exact LeO.none _ | refine LeO.ite ?_ ?_ | refine LeO.bind ?_ (fun _ => ?_)) | apply ih0 | exact LeO.none _ | refine LeO.ite ?_ ?_ | refine LeO.bind ?_ (fun _ => ?_)
theorem slices_IndexFunc__impl_ValidNetwork_1.mono : ∀ a0 a1 k, LeO (slices_IndexFunc__impl_ValidNetwork_1.f k a0 a1) (slices_IndexFunc__impl_ValidNetwork_1.f (k + 1) a0 a1) := by
 intro a0 a1 k
 have ih0 := slices_IndexFunc__impl_ValidNetwork_1.mono_l k
 unfold slices_IndexFunc__impl_ValidNetwork_1.f
 repeat' first | (with_reducible first | apply ih0 | exact LeO.refl _ | exact LeO.none _ | refine LeO.ite ?_ ?_ | refine LeO.bind ?_ (fun _ => ?_)) | apply ih0 | exact LeO.none _ | refine LeO.ite ?_ ?_ | refine LeO.bind ?_ (fun _ => ?_)
set_option maxHeartbeats 8000000 in
set_option maxRecDepth 100000 in
theorem slices_IndexFunc__impl_ValidNetwork_1.calls (k : Nat) (A0 : Option Addr) (c0 : Nat) (l0 : List Int) (adp1_0 : Addr) (l1_0 : List (S31)) (r : Int) (w : World) (hr0 : Kd.C (Kd.int .i16) w A0 l0.length l0) (hc0 : l0.length ≤ c0) (hr1_0 : Kd.C k31 w (some adp1_0) l1_0.length l1_0) (h : slices_IndexFunc__impl_ValidNetwork_1.f k l0 l1_0 = some r) :
    Calls Try.prog 126 #[.slice A0 l0.length c0, .func (.func 85) #[] #[.pointer (some adp1_0)]] w fun e w' => e = .returned (.int .i64 r) ∧ Drawn0 w w' := by
 have HR0 := Aside0.mk hr0
 have HC0 := Aside0.mk hc0
 clear hr0 hc0
 have HR1_0 := Aside0.mk hr1_0
 clear hr1_0
 have H : (slices_IndexFunc__impl_ValidNetwork_1.l0 k l0 (l0.length : Int) 0 l1_0) = some r := h
 clear h
 have H' := Aside0.mk H
 clear H
 go_enter Try.func126, Try.ntmps126
 go_wp2
 go_loopg [8] k (fun kq v8 w' => ∃ (x8_1 : Int), v8 = .int .i64 x8_1 ∧ Aside0 (slices_IndexFunc__impl_ValidNetwork_1.l0 kq l0 (l0.length : Int) x8_1 l1_0 = some r) ∧ Aside0 (kq ≤ k) ∧ Drawn0 w w')
 case atStart => exact ⟨(0), (by first | rfl | (simp; done) | (simp [*]; done) | (exact congrArg (Value.int .i64) (wrap_eq (by omega)))), H', ⟨Nat.le_refl _⟩, by repeat (first | exact Drawn0.refl _ | apply Drawn0.step)⟩
 clear H'
 try clear c1
 try clear p2
 obtain ⟨x8_1, rfl, HA, HK1, ⟨m1, rfl⟩⟩ := hrel
 cases gk with
 | zero => exact absurd HA.out (by simp [slices_IndexFunc__impl_ValidNetwork_1.l0])
 | succ k1 => ?_
 have H := HA.out
 clear HA
 simp only [slices_IndexFunc__impl_ValidNetwork_1.l0] at H
 by_cases c3 : x8_1 < (l0.length : Int)
 rotate_left
 ·rw [if_neg c3] at H
  have c3b0 : decide (x8_1 < (l0.length : Int)) = false := decide_eq_false c3
  clear c3
  obtain rfl := Option.some.inj H
  go_wp2
  go_ret
  exact ⟨by first | rfl | (simp; done) | (simp [*]; done) | (exact congrArg (Value.int .i64) (wrap_eq (by omega))), by repeat (first | exact Drawn0.refl _ | apply Drawn0.step)⟩
 rw [if_pos c3] at H
 have c3b0 : decide (x8_1 < (l0.length : Int)) = true := decide_eq_true c3
 clear c3
 by_cases c4 : 0 ≤ x8_1
 rotate_left
 ·rw [if_neg c4] at H
  exact absurd H (by simp)
 rw [if_pos c4] at H
 have c4b0 : decide (0 ≤ x8_1) = true := decide_eq_true c4
 clear c4
 by_cases c5 : x8_1 < (l0.length : Int)
 rotate_left
 ·rw [if_neg c5] at H
  exact absurd H (by simp)
 rw [if_pos c5] at H
 have c5b0 : decide (x8_1 < (l0.length : Int)) = true := decide_eq_true c5
 clear c5
 replace H := Option.bind_eq_some_iff.mp H
 obtain ⟨t279, A60, H⟩ := H
 replace H : (if t279 = true then (some x8_1) else (slices_IndexFunc__impl_ValidNetwork_1.l0 k1 l0 (l0.length : Int) (wrap64 (x8_1 + 1)) l1_0)) = some r := H
 have A6 := Aside0.mk A60
 clear A60
 by_cases c7 : t279 = true
 ·subst c7
  have H1 : (some x8_1) = some r := by rw [if_pos rfl] at H; exact H
  clear H
  have H := H1
  clear H1
  obtain rfl := Option.some.inj H
  have p278 : 0 ≤ (x8_1 : Int) := of_decide_eq_true (by first | (with_reducible assumption) | assumption)
  have q278 : x8_1 < (l0.length : Int) := of_decide_eq_true (by first | (with_reducible assumption) | assumption)
  obtain ⟨ad278, e278, hx278_0⟩ := Kd.at_int HR0.out x8_1 p278 q278
  cases e278
  replace p278 := eq_true p278
  replace q278 := eq_true q278
  go_wp2_with (first | (go_at_call 85; (with_reducible refine (impl_ValidNetwork_1.calls (rd l0 x8_1) _ l1_0 true _ ?side1 A6.out).mono ?_); (case side1 => repeat (first | exact HR1_0.out | (with_reducible refine Kd.C_alloc ?_ _) | (with_reducible refine Kd.C_drewN ?_ _) | (with_reducible refine Kd.C_drew ?_))); rintro e w' ⟨rfl, ⟨nd, rfl⟩⟩))
  go_ret
  exact ⟨by first | rfl | (simp; done) | (simp [*]; done) | (exact congrArg (Value.int .i64) (wrap_eq (by omega))), by repeat (first | exact Drawn0.refl _ | apply Drawn0.step)⟩
 replace c7 := Bool.eq_false_iff.mpr c7
 subst c7
 have H1 : (slices_IndexFunc__impl_ValidNetwork_1.l0 k1 l0 (l0.length : Int) (wrap64 (x8_1 + 1)) l1_0) = some r := by rw [if_neg (show ¬ (false = true) by decide)] at H; exact H
 clear H
 have H := H1
 clear H1
 have H' := Aside0.mk H
 clear H
 have p278 : 0 ≤ (x8_1 : Int) := of_decide_eq_true (by first | (with_reducible assumption) | assumption)
 have q278 : x8_1 < (l0.length : Int) := of_decide_eq_true (by first | (with_reducible assumption) | assumption)
 obtain ⟨ad278, e278, hx278_0⟩ := Kd.at_int HR0.out x8_1 p278 q278
 cases e278
 replace p278 := eq_true p278
 replace q278 := eq_true q278
 go_wp2_with (first | (go_at_call 85; (with_reducible refine (impl_ValidNetwork_1.calls (rd l0 x8_1) _ l1_0 false _ ?side1 A6.out).mono ?_); (case side1 => repeat (first | exact HR1_0.out | (with_reducible refine Kd.C_alloc ?_ _) | (with_reducible refine Kd.C_drewN ?_ _) | (with_reducible refine Kd.C_drew ?_))); rintro e w' ⟨rfl, ⟨nd, rfl⟩⟩))
 go_roundg k1
 case measure => have := HK1.out; omega
 case rel => exact ⟨(wrap64 (x8_1 + 1)), (by first | rfl | (simp; done) | (simp [*]; done) | (exact congrArg (Value.int .i64) (wrap_eq (by omega)))), H', ⟨by have := HK1.out; omega⟩, by repeat (first | exact Drawn0.refl _ | apply Drawn0.step)⟩
/-! ### slices_ContainsFunc__impl_ValidNetwork_1: function 163 -/
def slices_ContainsFunc__impl_ValidNetwork_1.f (k : Nat) (l0 : List Int) (l1_0 : List (S31)) : Option (Bool) := (slices_IndexFunc__impl_ValidNetwork_1.f k l0 l1_0).bind fun t280 => (some (decide (t280 ≥ 0)))
theorem slices_ContainsFunc__impl_ValidNetwork_1.mono : ∀ a0 a1 k, LeO (slices_ContainsFunc__impl_ValidNetwork_1.f k a0 a1) (slices_ContainsFunc__impl_ValidNetwork_1.f (k + 1) a0 a1) := by
 intro a0 a1 k
 unfold slices_ContainsFunc__impl_ValidNetwork_1.f
 repeat' first | (with_reducible first | apply slices_IndexFunc__impl_ValidNetwork_1.mono | exact LeO.refl _ | exact LeO.none _ | refine LeO.ite ?_ ?_ | refine LeO.bind ?_ (fun _ => ?_)) | apply slices_IndexFunc__impl_ValidNetwork_1.mono | exact LeO.none _ | refine LeO.ite ?_ ?_ | refine LeO.bind ?_ (fun _ => ?_)
set_option maxHeartbeats 8000000 in
set_option maxRecDepth 100000 in
theorem slices_ContainsFunc__impl_ValidNetwork_1.calls (k : Nat) (A0 : Option Addr) (c0 : Nat) (l0 : List Int) (adp1_0 : Addr) (l1_0 : List (S31)) (r : Bool) (w : World) (hr0 : Kd.C (Kd.int .i16) w A0 l0.length l0) (hc0 : l0.length ≤ c0) (hr1_0 : Kd.C k31 w (some adp1_0) l1_0.length l1_0) (h : slices_ContainsFunc__impl_ValidNetwork_1.f k l0 l1_0 = some r) :
    Calls Try.prog 84 #[.slice A0 l0.length c0, .func (.func 85) #[] #[.pointer (some adp1_0)]] w fun e w' => e = .returned (.bool r) ∧ Drawn0 w w' := by
 have HR0 := Aside0.mk hr0
 have HC0 := Aside0.mk hc0
 clear hr0 hc0
 have HR1_0 := Aside0.mk hr1_0
 clear hr1_0
 have H : ((slices_IndexFunc__impl_ValidNetwork_1.f k l0 l1_0).bind fun t280 => (some (decide (t280 ≥ 0)))) = some r := h
 clear h
 replace H := Option.bind_eq_some_iff.mp H
 obtain ⟨t280, A30, H⟩ := H
 replace H : (some (decide (t280 ≥ 0))) = some r := H
 have A3 := Aside0.mk A30
 clear A30
 obtain rfl := Option.some.inj H
 go_enter Try.func84, Try.ntmps84
 go_wp2_with (first | ((with_reducible refine gate_callee (f := 126) rfl ?_); refine goesL_ (some 7) rfl rfl Try.func126 (by kernel_rfl) rfl #[.slice A0 l0.length c0, .func (.func 85) #[] #[.pointer (some adp1_0)]] rfl (by (try simp only [List.map_toArray, List.map_cons, List.map_nil]); first | done | rfl | (simp only [List.length_drop, List.length_take]; rfl)) ?_; (with_reducible refine (slices_IndexFunc__impl_ValidNetwork_1.calls k _ _ l0 _ l1_0 t280 _ ?side1 ?side2 ?side3 A3.out).mono ?_); (case side1 => repeat (first | exact HR0.out | (with_reducible refine Kd.C_alloc ?_ _) | (with_reducible refine Kd.C_drewN ?_ _) | (with_reducible refine Kd.C_drew ?_))); (case side2 => exact HC0.out); (case side3 => repeat (first | exact HR1_0.out | (with_reducible refine Kd.C_alloc ?_ _) | (with_reducible refine Kd.C_drewN ?_ _) | (with_reducible refine Kd.C_drew ?_))); rintro e w' ⟨rfl, ⟨nd, rfl⟩⟩; refine ⟨_, rfl, ?_⟩))
 go_ret
 exact ⟨by first | rfl | (simp; done) | (simp [*]; done) | (exact congrArg (Value.int .i64) (wrap_eq (by omega))), by repeat (first | exact Drawn0.refl _ | apply Drawn0.step)⟩
end Go.Proofs.Ytmpmanfoiocfgaa.PFnExactMergeOf
