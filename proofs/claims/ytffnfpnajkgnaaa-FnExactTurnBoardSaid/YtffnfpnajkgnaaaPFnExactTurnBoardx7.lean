-- WRITTEN by xprint.py, a program of this session's. Not trusted: Lean checks it.
-- packed by pack.py
import Derived.Test.YtffnfpnajkgnaaaPFnExactTurnBoardx0
import Derived.Test.YtffnfpnajkgnaaaPFnExactTurnBoardx4
import Derived.Test.YtffnfpnajkgnaaaPFnExactTurnBoardx5
import Derived.Test.YtffnfpnajkgnaaaPFnExactTurnBoardx6
import Derived.Test.YtffnfpnajkgnaaaTFnExactTurnBoarda
namespace Go.Proofs.Ytffnfpnajkgnaaa.PFnExactTurnBoard
open Go.RowKit Go.Proofs.YtffnfpnajkgnaaaW.PrintWords Go.Proofs.YtffnfpnajkgnaaaW.PrintLast Go.Proofs.YtffnfpnajkgnaaaW.PrintMore Go.Proofs.YtffnfpnajkgnaaaX
attribute [local go_sem] max2_int min2_int max_two min_two max_three min_three max_four min_four   -- for this text's walks alone
set_option linter.unusedVariables false
set_option linter.unusedSimpArgs false

/-! ### spec_TurnBoard: function 69 -/
mutual
def spec_TurnBoard.l0 : Nat → Int → Int → Int → List (S91) → Option (Int × Int × (List (S91)) × Int)
  | 0, _, _, _, _ => none
  | k + 1, x7, x202000, x202001, x202002 => if x7 > 0 then (spec_TurnBoard.l1 k x7 0 x202000 x202001 x202002) else (some (x202000, x202001, x202002, 0))
def spec_TurnBoard.l1 : Nat → Int → Int → Int → Int → List (S91) → Option (Int × Int × (List (S91)) × Int)
  | 0, _, _, _, _, _ => none
  | k + 1, x7, x8, x202000, x202001, x202002 => if x8 < (x202002.length : Int) then (if 0 ≤ x8 then ((some (x202002.set (x8 : Int).toNat (⟨(⟨IntKind.i8.wrap ((IntKind.i8.wrap (x202001 - 1)) - ((rd_T91 x202002 x8).f0.f1)), (rd_T91 x202002 x8).f0.f0⟩ : S74), (rd_T91 x202002 x8).f1, (rd_T91 x202002 x8).f2, (rd_T91 x202002 x8).f3⟩ : S91) : List (S91))).bind fun y206 => ((spec_l01Quarters.f ((rd_T91 y206 x8).f2) 1).bind fun t208 => (spec_TurnBoard.l1 k x7 (wrap64 (x8 + 1)) x202000 x202001 (y206.set (x8 : Int).toNat (⟨(⟨(rd_T91 y206 x8).f0.f0, (rd_T91 y206 x8).f0.f1⟩ : S74), (rd_T91 y206 x8).f1, t208, (rd_T91 y206 x8).f3⟩ : S91))))) else (none)) else (spec_TurnBoard.l0 k (wrap64 (x7 - 1)) x202001 x202000 x202002)
end
def spec_TurnBoard.f (k : Nat) (a0_0 : Int) (a0_1 : Int) (l0_2 : List (S91)) (a1 : Int) : Option (Int × Int × (List (S91)) × Int) := (spec_l01Ok.f k [(⟨a0_0, a0_1, l0_2⟩ : S37)]).bind fun t194 => (if t194 = true then ((spec_l00In.f a1 (-100) 100).bind fun t195 => (if t195 = true then ((spec_l01Copy.f [(⟨a0_0, a0_1, l0_2⟩ : S37)]).bind fun bt196 => ((spec_l01Quarters.f 0 a1).bind fun t202 => (spec_TurnBoard.l0 k (wrap64 (t202)) bt196.1 bt196.2.1 bt196.2.2))) else (some (0, 0, ([] : List (S91)), 2)))) else (some (0, 0, ([] : List (S91)), 1)))
theorem spec_TurnBoard.mono_l : ∀ k, (∀ y0 y1 y2 y3, LeO (spec_TurnBoard.l0 k y0 y1 y2 y3) (spec_TurnBoard.l0 (k + 1) y0 y1 y2 y3)) ∧ (∀ y0 y1 y2 y3 y4, LeO (spec_TurnBoard.l1 k y0 y1 y2 y3 y4) (spec_TurnBoard.l1 (k + 1) y0 y1 y2 y3 y4))
  | 0 => ⟨fun _ _ _ _ r h => by simp [spec_TurnBoard.l0] at h, fun _ _ _ _ _ r h => by simp [spec_TurnBoard.l1] at h⟩
  | k + 1 => by
    obtain ⟨ih0, ih1⟩ := spec_TurnBoard.mono_l k
    refine ⟨?_, ?_⟩
    · intro y0 y1 y2 y3
      unfold spec_TurnBoard.l0
      repeat' first | (with_reducible first | apply ih0 | apply ih1 | apply spec_l01Ok.mono | exact LeO.refl _ | exact LeO.none _ | refine LeO.ite ?_ ?_ | refine LeO.bind ?_ (fun _ => ?_)) | apply ih0 | apply ih1 | apply spec_l01Ok.mono | exact LeO.none _ | refine LeO.ite ?_ ?_ | refine LeO.bind ?_ (fun _ => ?_)
    · intro y0 y1 y2 y3 y4
      unfold spec_TurnBoard.l1
      repeat' first | (with_reducible first | apply ih0 | apply ih1 | apply spec_l01Ok.mono | exact LeO.refl _ | exact LeO.none _ | refine LeO.ite ?_ ?_ | refine LeO.bind ?_ (fun _ => ?_)) | apply ih0 | apply ih1 | apply spec_l01Ok.mono | exact LeO.none _ | refine LeO.ite ?_ ?_ | refine LeO.bind ?_ (fun _ => ?_)
theorem spec_TurnBoard.mono : ∀ a0 a1 a2 a3 k, LeO (spec_TurnBoard.f k a0 a1 a2 a3) (spec_TurnBoard.f (k + 1) a0 a1 a2 a3) := by
 intro a0 a1 a2 a3 k
 obtain ⟨ih0, ih1⟩ := spec_TurnBoard.mono_l k
 unfold spec_TurnBoard.f
 repeat' first | (with_reducible first | apply ih0 | apply ih1 | apply spec_l01Ok.mono | exact LeO.refl _ | exact LeO.none _ | refine LeO.ite ?_ ?_ | refine LeO.bind ?_ (fun _ => ?_)) | apply ih0 | apply ih1 | apply spec_l01Ok.mono | exact LeO.none _ | refine LeO.ite ?_ ?_ | refine LeO.bind ?_ (fun _ => ?_)
def spec_TurnBoard.T13 : Bool × List (List Nat × List Nat) := (true, [([], []), ([], []), ([1], [1]), ([2], [2]), ([], []), ([4], [4]), ([5], [5]), ([6], [6]), ([7], [7]), ([3, 8], [3, 8]), ([], []), ([10], [10]), ([11], [11]), ([12], [12]), ([13], [13]), ([9, 14], [9, 14]), ([0, 0, 1, 2, 3, 4, 5, 6, 7, 8, 9, 10, 11, 12, 13, 14, 15], [0]), ([16, 0, 1, 2, 3, 4, 5, 6, 7, 8, 9, 10, 11, 12, 13, 14, 15], [16]), ([17, 15, 0, 1, 2, 3, 4, 5, 6, 7, 8, 9, 10, 11, 12, 13, 14, 15], [15, 17])])
def spec_TurnBoard.B13 : List Nat := [0, 0, 2, 6, 0, 16, 48, 112, 240, 510, 0, 1024, 3072, 7168, 15360, 32766, 65535, 131071, 262143]
theorem spec_TurnBoard.tab13 : rtab .any (opsOf Try.f69 13) = spec_TurnBoard.T13 := by kernel_rfl
theorem spec_TurnBoard.bits13 : waitsOk spec_TurnBoard.T13.2 spec_TurnBoard.B13 = true := by kernel_rfl
set_option maxHeartbeats 8000000 in
set_option maxRecDepth 100000 in
theorem spec_TurnBoard.calls (k : Nat) (a0_0 : Int) (a0_1 : Int) (A0_2 : Option Addr) (c0_2 : Nat) (l0_2 : List (S91)) (a1 : Int) (r1 : Int) (r2 : Int) (r3 : List (S91)) (r4 : Int) (w : World) (hr0_2 : Kd.C k91 w A0_2 l0_2.length l0_2) (hc0_2 : l0_2.length ≤ c0_2) (h : spec_TurnBoard.f k a0_0 a0_1 l0_2 a1 = some (r1, r2, r3, r4)) :
    Calls Try.prog 69 #[.agg #[.int .i8 a0_0, .int .i8 a0_1, .slice A0_2 l0_2.length c0_2], .int .i64 a1] w fun e w' => ∃ v2_ : Value, e = .returned (.tuple #[.agg #[.int .i8 r1, .int .i8 r2, v2_], .int .i64 r4]) ∧ Kd.R k91 91 w' w.heap.size (fun _ => True) v2_ r3 ∧ Below w.heap.size w w' := by
 have hu37 := Try.underlying37
 have hu74 := Try.underlying74
 have HR0_2 := Aside0.mk hr0_2
 have HC0_2 := Aside0.mk hc0_2
 clear hr0_2 hc0_2
 have HB := Aside0.mk (Below.refl w.heap.size w)
 have H : ((spec_l01Ok.f k [(⟨a0_0, a0_1, l0_2⟩ : S37)]).bind fun t194 => (if t194 = true then ((spec_l00In.f a1 (-100) 100).bind fun t195 => (if t195 = true then ((spec_l01Copy.f [(⟨a0_0, a0_1, l0_2⟩ : S37)]).bind fun bt196 => ((spec_l01Quarters.f 0 a1).bind fun t202 => (spec_TurnBoard.l0 k (wrap64 (t202)) bt196.1 bt196.2.1 bt196.2.2))) else (some (0, 0, ([] : List (S91)), 2)))) else (some (0, 0, ([] : List (S91)), 1)))) = some (r1, r2, r3, r4) := h
 clear h
 replace H := Option.bind_eq_some_iff.mp H
 obtain ⟨t194, A30, H⟩ := H
 replace H : (if t194 = true then ((spec_l00In.f a1 (-100) 100).bind fun t195 => (if t195 = true then ((spec_l01Copy.f [(⟨a0_0, a0_1, l0_2⟩ : S37)]).bind fun bt196 => ((spec_l01Quarters.f 0 a1).bind fun t202 => (spec_TurnBoard.l0 k (wrap64 (t202)) bt196.1 bt196.2.1 bt196.2.2))) else (some (0, 0, ([] : List (S91)), 2)))) else (some (0, 0, ([] : List (S91)), 1))) = some (r1, r2, r3, r4) := H
 have A3 := Aside0.mk A30
 clear A30
 by_cases c4 : t194 = true
 rotate_left
 ·replace c4 := Bool.eq_false_iff.mpr c4
  subst c4
  have H1 : (some (0, 0, ([] : List (S91)), 1)) = some (r1, r2, r3, r4) := by rw [if_neg (show ¬ (false = true) by decide)] at H; exact H
  clear H
  have H := H1
  clear H1
  simp only [Option.some.injEq, Prod.mk.injEq] at H
  obtain ⟨rfl, rfl, rfl, rfl⟩ := H
  go_enter Try.func69, Try.ntmps69
  go_wp2_with (first | ((with_reducible refine gate_dst (N := 2) rfl ?_); refine box_event ?hg (N := 2) ?hd (cs := #[.int .i8 a0_0, .int .i8 a0_1, .slice A0_2 l0_2.length c0_2]) (t := 37) ?hr ?_; (case hd => rfl); (case hg => rfl); (case hr => first | (go_simp; done) | (go_simp; rfl)); intro gb192 hg w48 hbox hb; have n_ : _ ∧ _ ∧ _ ∧ _ := ⟨zb HB hb, Aside0.mk (hbox), zg HB hg, zg HB hg⟩; clear HB; obtain ⟨HB, BK192, GW192, GE192⟩ := n_; clear hb hbox hg) | ((with_reducible refine gate_dst (N := 4) rfl ?_); refine box_event ?hg (N := 4) ?hd (cs := #[.int .i8 0, .int .i8 0, .slice none 0 0]) (t := 37) ?hr ?_; (case hd => rfl); (case hg => rfl); (case hr => first | (go_simp; done) | (go_simp; rfl)); intro gb193 hg w49 hbox hb; have n_ : _ ∧ _ ∧ _ ∧ _ ∧ _ ∧ _ ∧ _ := ⟨zk BK192 hb, zbs hb, Aside0.mk (hbox), zg HB hg, zg HB hg, zn1 BK192 hg, zn2 BK192 hg⟩; clear BK192 HB; obtain ⟨BK192, HB, BK193, GW193, GE193, NB192_193, NB193_192⟩ := n_; clear hb hbox hg) | ((with_reducible refine gate_callee (f := 106) rfl ?_); refine goesL_ (some 11) rfl rfl Try.func106 (by kernel_rfl) rfl #[.pointer (some ⟨gb192, 0, none⟩)] rfl (by (try simp only [List.map_toArray, List.map_cons, List.map_nil]); first | done | rfl | (simp only [List.length_drop, List.length_take]; rfl)) ?_; (with_reducible refine (spec_l01Ok.calls k _ [(⟨a0_0, a0_1, l0_2⟩ : S37)] false _ ?side1 A3.out).mono ?_); (case side1 => refine ro_of_blk (T := 37) (cs := #[.int .i8 a0_0, .int .i8 a0_1, .slice A0_2 l0_2.length c0_2]) (zh BK192).out ?_; exact k37_mk _ (⟨a0_0, a0_1, l0_2⟩ : S37) (by exact HC0_2.out) (by exact zcc HB HR0_2.out)); rintro e w50 ⟨rfl, hb⟩; refine ⟨_, rfl, ?_⟩; have n_ : _ ∧ _ ∧ _ := ⟨zk BK192 hb, zk BK193 hb, zbs hb⟩; clear BK192 BK193 HB; obtain ⟨BK192, BK193, HB⟩ := n_; (try clear hb); (try clear hb2); (try clear hk); (try clear hi); have hnb51 := NB193_192.out; have hnc51 := NB192_193.out; obtain ⟨z52_0, z52_1, z52_2, y52_0, y52_1, y52_2⟩ := zB3 BK193))
  refine bodyPost_ret (results_ct rfl _ _ gb193 37 #[.int .i8 0, .int .i8 0, .slice none 0 0] (0, 0) _ rfl (by (with_reducible repeat (first | refine blk_drewN ?_ _ | refine blk_drew ?_ | refine blk_alloc ?_ _)); refine blk_put (cs := #[.int .i8 0, .int .i8 0, .slice none 0 0]) ?_ 2 _ rfl; (with_reducible repeat (first | refine blk_drewN ?_ _ | refine blk_drew ?_ | refine blk_alloc ?_ _)); refine blk_put (cs := #[.int .i8 0, .int .i8 0, .slice none 0 0]) ?_ 1 _ rfl; (with_reducible repeat (first | refine blk_drewN ?_ _ | refine blk_drew ?_ | refine blk_alloc ?_ _)); refine blk_put (cs := #[.int .i8 0, .int .i8 0, .slice none 0 0]) ?_ 0 _ rfl; (with_reducible repeat (first | refine blk_drewN ?_ _ | refine blk_drew ?_ | refine blk_alloc ?_ _)); exact BK193.out) Try.underlying37 rfl (by kernel_rfl)) rfl ?_
  exact ⟨_, by first | rfl | (simp [errW_none, errW_some] <;> rfl) | (simp [*, errW_none, errW_some] <;> rfl), by first | exact Kd.R_nil _ _ _ _ _ | exact Kd.N_nil _ _ _ _ _ | exact Kd.V_nil _ _ _ _ _ | exact Kd.Q_nil _ _ _ _ _ | exact Kd.S_nil _ _ _ _ _, by repeat (first | (with_reducible first | exact HB.out | apply below_alloc | apply pw_below_drewN | apply below_drew1 | refine below_set ?_ GE192.out | refine below_set ?_ GE193.out) | exact HB.out)⟩
 subst c4
 have H1 : ((spec_l00In.f a1 (-100) 100).bind fun t195 => (if t195 = true then ((spec_l01Copy.f [(⟨a0_0, a0_1, l0_2⟩ : S37)]).bind fun bt196 => ((spec_l01Quarters.f 0 a1).bind fun t202 => (spec_TurnBoard.l0 k (wrap64 (t202)) bt196.1 bt196.2.1 bt196.2.2))) else (some (0, 0, ([] : List (S91)), 2)))) = some (r1, r2, r3, r4) := by rw [if_pos rfl] at H; exact H
 clear H
 have H := H1
 clear H1
 replace H := Option.bind_eq_some_iff.mp H
 obtain ⟨t195, A50, H⟩ := H
 replace H : (if t195 = true then ((spec_l01Copy.f [(⟨a0_0, a0_1, l0_2⟩ : S37)]).bind fun bt196 => ((spec_l01Quarters.f 0 a1).bind fun t202 => (spec_TurnBoard.l0 k (wrap64 (t202)) bt196.1 bt196.2.1 bt196.2.2))) else (some (0, 0, ([] : List (S91)), 2))) = some (r1, r2, r3, r4) := H
 have A5 := Aside0.mk A50
 clear A50
 by_cases c6 : t195 = true
 rotate_left
 ·replace c6 := Bool.eq_false_iff.mpr c6
  subst c6
  have H1 : (some (0, 0, ([] : List (S91)), 2)) = some (r1, r2, r3, r4) := by rw [if_neg (show ¬ (false = true) by decide)] at H; exact H
  clear H
  have H := H1
  clear H1
  simp only [Option.some.injEq, Prod.mk.injEq] at H
  obtain ⟨rfl, rfl, rfl, rfl⟩ := H
  go_enter Try.func69, Try.ntmps69
  go_wp2_with (first | ((with_reducible refine gate_dst (N := 2) rfl ?_); refine box_event ?hg (N := 2) ?hd (cs := #[.int .i8 a0_0, .int .i8 a0_1, .slice A0_2 l0_2.length c0_2]) (t := 37) ?hr ?_; (case hd => rfl); (case hg => rfl); (case hr => first | (go_simp; done) | (go_simp; rfl)); intro gb192 hg w43 hbox hb; have n_ : _ ∧ _ ∧ _ ∧ _ := ⟨zb HB hb, Aside0.mk (hbox), zg HB hg, zg HB hg⟩; clear HB; obtain ⟨HB, BK192, GW192, GE192⟩ := n_; clear hb hbox hg) | ((with_reducible refine gate_dst (N := 4) rfl ?_); refine box_event ?hg (N := 4) ?hd (cs := #[.int .i8 0, .int .i8 0, .slice none 0 0]) (t := 37) ?hr ?_; (case hd => rfl); (case hg => rfl); (case hr => first | (go_simp; done) | (go_simp; rfl)); intro gb193 hg w44 hbox hb; have n_ : _ ∧ _ ∧ _ ∧ _ ∧ _ ∧ _ ∧ _ := ⟨zk BK192 hb, zbs hb, Aside0.mk (hbox), zg HB hg, zg HB hg, zn1 BK192 hg, zn2 BK192 hg⟩; clear BK192 HB; obtain ⟨BK192, HB, BK193, GW193, GE193, NB192_193, NB193_192⟩ := n_; clear hb hbox hg) | ((with_reducible refine gate_callee (f := 106) rfl ?_); refine goesL_ (some 11) rfl rfl Try.func106 (by kernel_rfl) rfl #[.pointer (some ⟨gb192, 0, none⟩)] rfl (by (try simp only [List.map_toArray, List.map_cons, List.map_nil]); first | done | rfl | (simp only [List.length_drop, List.length_take]; rfl)) ?_; (with_reducible refine (spec_l01Ok.calls k _ [(⟨a0_0, a0_1, l0_2⟩ : S37)] true _ ?side1 A3.out).mono ?_); (case side1 => refine ro_of_blk (T := 37) (cs := #[.int .i8 a0_0, .int .i8 a0_1, .slice A0_2 l0_2.length c0_2]) (zh BK192).out ?_; exact k37_mk _ (⟨a0_0, a0_1, l0_2⟩ : S37) (by exact HC0_2.out) (by exact zcc HB HR0_2.out)); rintro e w45 ⟨rfl, hb⟩; refine ⟨_, rfl, ?_⟩; have n_ : _ ∧ _ ∧ _ := ⟨zk BK192 hb, zk BK193 hb, zbs hb⟩; clear BK192 BK193 HB; obtain ⟨BK192, BK193, HB⟩ := n_; (try clear hb); (try clear hb2); (try clear hk); (try clear hi)) | ((with_reducible refine gate_callee (f := 96) rfl ?_); refine goesL_ (some 15) rfl rfl Try.func96 (by kernel_rfl) rfl #[.int .i64 a1, .int .i64 (-100), .int .i64 100] rfl (by (try simp only [List.map_toArray, List.map_cons, List.map_nil]); first | done | rfl | (simp only [List.length_drop, List.length_take]; rfl)) ?_; (with_reducible refine (spec_l00In.calls a1 (-100) 100 false _ A5.out).mono ?_); rintro e w' ⟨rfl, ⟨nd, rfl⟩⟩; refine ⟨_, rfl, ?_⟩; (try (rw [drewN_self w45]; generalize hq_ : World.drewN w45 _ = w45; have n0_ : Aside0 (w45.heap[gb192]? = some (.cells #[.int .i8 a0_0, .int .i8 a0_1, .slice A0_2 l0_2.length c0_2] 37 (0, 0))) := ⟨by rw [← hq_]; exact (zh BK192).out⟩; have n1_ : Aside0 (w45.heap[gb193]? = some (.cells #[.int .i8 0, .int .i8 0, .slice none 0 0] 37 (0, 0))) := ⟨by rw [← hq_]; exact (zh BK193).out⟩; have n2_ : Aside0 (Below w.heap.size w w45) := ⟨by rw [← hq_]; exact (by repeat (first | (with_reducible first | exact HB.out | apply below_alloc | apply pw_below_drewN | apply below_drew1 | refine below_set ?_ GE192.out | refine below_set ?_ GE193.out) | exact HB.out))⟩; clear BK192 BK193 HB hq_; have BK192 := n0_; have BK193 := n1_; have HB := n2_; clear n0_ n1_ n2_)); have hnb46 := NB193_192.out; have hnc46 := NB192_193.out; obtain ⟨z47_0, z47_1, z47_2, y47_0, y47_1, y47_2⟩ := zB3 BK193))
  refine bodyPost_ret (results_ct rfl _ _ gb193 37 #[.int .i8 0, .int .i8 0, .slice none 0 0] (0, 0) _ rfl (by (with_reducible repeat (first | refine blk_drewN ?_ _ | refine blk_drew ?_ | refine blk_alloc ?_ _)); refine blk_put (cs := #[.int .i8 0, .int .i8 0, .slice none 0 0]) ?_ 2 _ rfl; (with_reducible repeat (first | refine blk_drewN ?_ _ | refine blk_drew ?_ | refine blk_alloc ?_ _)); refine blk_put (cs := #[.int .i8 0, .int .i8 0, .slice none 0 0]) ?_ 1 _ rfl; (with_reducible repeat (first | refine blk_drewN ?_ _ | refine blk_drew ?_ | refine blk_alloc ?_ _)); refine blk_put (cs := #[.int .i8 0, .int .i8 0, .slice none 0 0]) ?_ 0 _ rfl; (with_reducible repeat (first | refine blk_drewN ?_ _ | refine blk_drew ?_ | refine blk_alloc ?_ _)); exact BK193.out) Try.underlying37 rfl (by kernel_rfl)) rfl ?_
  exact ⟨_, by first | rfl | (simp [errW_none, errW_some] <;> rfl) | (simp [*, errW_none, errW_some] <;> rfl), by first | exact Kd.R_nil _ _ _ _ _ | exact Kd.N_nil _ _ _ _ _ | exact Kd.V_nil _ _ _ _ _ | exact Kd.Q_nil _ _ _ _ _ | exact Kd.S_nil _ _ _ _ _, by repeat (first | (with_reducible first | exact HB.out | apply below_alloc | apply pw_below_drewN | apply below_drew1 | refine below_set ?_ GE192.out | refine below_set ?_ GE193.out) | exact HB.out)⟩
 subst c6
 have H1 : ((spec_l01Copy.f [(⟨a0_0, a0_1, l0_2⟩ : S37)]).bind fun bt196 => ((spec_l01Quarters.f 0 a1).bind fun t202 => (spec_TurnBoard.l0 k (wrap64 (t202)) bt196.1 bt196.2.1 bt196.2.2))) = some (r1, r2, r3, r4) := by rw [if_pos rfl] at H; exact H
 clear H
 have H := H1
 clear H1
 replace H := Option.bind_eq_some_iff.mp H
 obtain ⟨⟨t196, t197, t198⟩, A70, H⟩ := H
 replace H : ((spec_l01Quarters.f 0 a1).bind fun t202 => (spec_TurnBoard.l0 k (wrap64 (t202)) t196 t197 t198)) = some (r1, r2, r3, r4) := H
 have A7 := Aside0.mk A70
 clear A70
 replace H := Option.bind_eq_some_iff.mp H
 obtain ⟨t202, A80, H⟩ := H
 replace H : (spec_TurnBoard.l0 k (wrap64 (t202)) t196 t197 t198) = some (r1, r2, r3, r4) := H
 have A8 := Aside0.mk A80
 clear A80
 have H' := Aside0.mk H
 clear H
 go_enter Try.func69, Try.ntmps69
 go_wp2_with (first | ((with_reducible refine gate_dst (N := 2) rfl ?_); refine box_event ?hg (N := 2) ?hd (cs := #[.int .i8 a0_0, .int .i8 a0_1, .slice A0_2 l0_2.length c0_2]) (t := 37) ?hr ?_; (case hd => rfl); (case hg => rfl); (case hr => first | (go_simp; done) | (go_simp; rfl)); intro gb192 hg w9 hbox hb; have n_ : _ ∧ _ ∧ _ ∧ _ := ⟨zb HB hb, Aside0.mk (hbox), zg HB hg, zg HB hg⟩; clear HB; obtain ⟨HB, BK192, GW192, GE192⟩ := n_; clear hb hbox hg) | ((with_reducible refine gate_dst (N := 4) rfl ?_); refine box_event ?hg (N := 4) ?hd (cs := #[.int .i8 0, .int .i8 0, .slice none 0 0]) (t := 37) ?hr ?_; (case hd => rfl); (case hg => rfl); (case hr => first | (go_simp; done) | (go_simp; rfl)); intro gb193 hg w10 hbox hb; have n_ : _ ∧ _ ∧ _ ∧ _ ∧ _ ∧ _ ∧ _ := ⟨zk BK192 hb, zbs hb, Aside0.mk (hbox), zg HB hg, zg HB hg, zn1 BK192 hg, zn2 BK192 hg⟩; clear BK192 HB; obtain ⟨BK192, HB, BK193, GW193, GE193, NB192_193, NB193_192⟩ := n_; clear hb hbox hg) | ((with_reducible refine gate_callee (f := 106) rfl ?_); refine goesL_ (some 11) rfl rfl Try.func106 (by kernel_rfl) rfl #[.pointer (some ⟨gb192, 0, none⟩)] rfl (by (try simp only [List.map_toArray, List.map_cons, List.map_nil]); first | done | rfl | (simp only [List.length_drop, List.length_take]; rfl)) ?_; (with_reducible refine (spec_l01Ok.calls k _ [(⟨a0_0, a0_1, l0_2⟩ : S37)] true _ ?side1 A3.out).mono ?_); (case side1 => refine ro_of_blk (T := 37) (cs := #[.int .i8 a0_0, .int .i8 a0_1, .slice A0_2 l0_2.length c0_2]) (zh BK192).out ?_; exact k37_mk _ (⟨a0_0, a0_1, l0_2⟩ : S37) (by exact HC0_2.out) (by exact zcc HB HR0_2.out)); rintro e w11 ⟨rfl, hb⟩; refine ⟨_, rfl, ?_⟩; have n_ : _ ∧ _ ∧ _ := ⟨zk BK192 hb, zk BK193 hb, zbs hb⟩; clear BK192 BK193 HB; obtain ⟨BK192, BK193, HB⟩ := n_; (try clear hb); (try clear hb2); (try clear hk); (try clear hi)) | ((with_reducible refine gate_callee (f := 96) rfl ?_); refine goesL_ (some 15) rfl rfl Try.func96 (by kernel_rfl) rfl #[.int .i64 a1, .int .i64 (-100), .int .i64 100] rfl (by (try simp only [List.map_toArray, List.map_cons, List.map_nil]); first | done | rfl | (simp only [List.length_drop, List.length_take]; rfl)) ?_; (with_reducible refine (spec_l00In.calls a1 (-100) 100 true _ A5.out).mono ?_); rintro e w' ⟨rfl, ⟨nd, rfl⟩⟩; refine ⟨_, rfl, ?_⟩; (try (rw [drewN_self w11]; generalize hq_ : World.drewN w11 _ = w11; have n0_ : Aside0 (w11.heap[gb192]? = some (.cells #[.int .i8 a0_0, .int .i8 a0_1, .slice A0_2 l0_2.length c0_2] 37 (0, 0))) := ⟨by rw [← hq_]; exact (zh BK192).out⟩; have n1_ : Aside0 (w11.heap[gb193]? = some (.cells #[.int .i8 0, .int .i8 0, .slice none 0 0] 37 (0, 0))) := ⟨by rw [← hq_]; exact (zh BK193).out⟩; have n2_ : Aside0 (Below w.heap.size w w11) := ⟨by rw [← hq_]; exact (by repeat (first | (with_reducible first | exact HB.out | apply below_alloc | apply pw_below_drewN | apply below_drew1 | refine below_set ?_ GE192.out | refine below_set ?_ GE193.out) | exact HB.out))⟩; clear BK192 BK193 HB hq_; have BK192 := n0_; have BK193 := n1_; have HB := n2_; clear n0_ n1_ n2_))) | ((with_reducible refine gate_callee (f := 131) rfl ?_); refine goesL_ (some 18) rfl rfl Try.func131 (by kernel_rfl) rfl #[.pointer (some ⟨gb192, 0, none⟩)] rfl (by (try simp only [List.map_toArray, List.map_cons, List.map_nil]); first | done | rfl | (simp only [List.length_drop, List.length_take]; rfl)) ?_; (with_reducible refine (spec_l01Copy.calls _ [(⟨a0_0, a0_1, l0_2⟩ : S37)] t196 t197 t198 _ ?side1 A7.out).mono ?_); (case side1 => refine ro_of_blk (T := 37) (cs := #[.int .i8 a0_0, .int .i8 a0_1, .slice A0_2 l0_2.length c0_2]) (zh BK192).out ?_; exact k37_mk _ (⟨a0_0, a0_1, l0_2⟩ : S37) (by exact HC0_2.out) (by exact zcc HB HR0_2.out)); rintro e w12 ⟨v199, rfl, ho0, hb⟩; refine ⟨_, rfl, ?_⟩; have n_ : _ ∧ _ ∧ _ ∧ _ := ⟨Aside0.mk (Kd.R_lower ho0 (zz HB)), zk BK192 hb, zk BK193 hb, zbs hb⟩; clear BK192 BK193 HB; obtain ⟨HO200, BK192, BK193, HB⟩ := n_; (try clear hb); (try clear hb2); (try clear hk); (try clear hi); (try clear ho0)) | ((with_reducible refine gate_dst (N := 6) rfl ?_); refine box_event ?hg (N := 6) ?hd (cs := #[.int .i8 0, .int .i8 0, .slice none 0 0]) (t := 37) ?hr ?_; (case hd => rfl); (case hg => rfl); (case hr => first | (go_simp; done) | (go_simp; rfl)); intro gb201 hg w13 hbox hb; have n_ : _ ∧ _ ∧ _ ∧ _ ∧ _ ∧ _ ∧ _ ∧ _ ∧ _ ∧ _ ∧ _ := ⟨zr HO200 hb, zk BK192 hb, zk BK193 hb, zbs hb, Aside0.mk (hbox), zg HB hg, zg HB hg, zn1 BK192 hg, zn2 BK192 hg, zn1 BK193 hg, zn2 BK193 hg⟩; clear HO200 BK192 BK193 HB; obtain ⟨HO200, BK192, BK193, HB, BK201, GW201, GE201, NB192_201, NB201_192, NB193_201, NB201_193⟩ := n_; clear hb hbox hg; have hnb14 := NB201_192.out; have hnc14 := NB192_201.out; have hnb15 := NB201_193.out; have hnc15 := NB193_201.out; obtain ⟨z16_0, z16_1, z16_2, y16_0, y16_1, y16_2⟩ := zB3 BK201; obtain ⟨Ao17, co17, eo17⟩ := Kd.R_slice HO200.out; subst eo17) | ((with_reducible refine gate_callee (f := 135) rfl ?_); refine goesL_ (some 20) rfl rfl Try.func135 (by kernel_rfl) rfl #[.int .i8 0, .int .i64 a1] rfl (by (try simp only [List.map_toArray, List.map_cons, List.map_nil]); first | done | rfl | (simp only [List.length_drop, List.length_take]; rfl)) ?_; (with_reducible refine (spec_l01Quarters.calls 0 a1 t202 _ A8.out).mono ?_); rintro e w' ⟨rfl, ⟨nd, rfl⟩⟩; refine ⟨_, rfl, ?_⟩))
 go_loopg [7] k (fun kq v7 w' => ∃ (x7_1 : Int) (x202000_1 : Int) (x202001_1 : Int) (x202002_1 : List (S91)) (u202002 : Value), v7 = .int .i64 x7_1 ∧ Aside0 (spec_TurnBoard.l0 kq x7_1 x202000_1 x202001_1 x202002_1 = some (r1, r2, r3, r4)) ∧ Aside0 (kq ≤ k) ∧ Aside0 (Kd.R k91 91 w' w.heap.size (fun _ => True) u202002 x202002_1) ∧ Aside0 (w'.heap[gb192]? = some (.cells #[.int .i8 a0_0, .int .i8 a0_1, (.slice A0_2 l0_2.length c0_2)] 37 (0, 0))) ∧ Aside0 (w'.heap[gb193]? = some (.cells #[.int .i8 0, .int .i8 0, (.slice none 0 0)] 37 (0, 0))) ∧ Aside0 (w'.heap[gb201]? = some (.cells #[.int .i8 x202000_1, .int .i8 x202001_1, u202002] 37 (0, 0))) ∧ Aside0 (Below w.heap.size w w'))
 case atStart => exact ⟨(wrap64 (t202)), (t196), (t197), (t198), (.slice Ao17 t198.length co17), (by first | rfl | (simp; done) | (simp [*]; done) | (exact congrArg (Value.int .i64) (wrap_eq (by omega)))), H', ⟨Nat.le_refl _⟩, ⟨by (with_reducible repeat (first | apply Kd.R_alloc | apply Kd.R_drewN | apply Kd.R_drew)); exact Kd.R_mono (Kd.R_far (p := ⟨gb201, 2, none⟩) (Kd.R_far (p := ⟨gb201, 1, none⟩) (Kd.R_far (p := ⟨gb201, 0, none⟩) (Kd.R_types HO200.out BK201.out (by decide)) (fun _ hk => hk.2) (.int .i8 t196)) (fun _ hk => hk.2) (.int .i8 t197)) (fun _ hk => hk.2) (.slice Ao17 t198.length co17)) (fun _ hk => trivial)⟩, zf BK192 NB192_201, zf BK193 NB193_201, ⟨by (with_reducible repeat (first | refine blk_drewN ?_ _ | refine blk_drew ?_ | refine blk_alloc ?_ _)); refine blk_put (cs := #[.int .i8 t196, .int .i8 t197, .slice none 0 0]) ?_ 2 _ rfl; (with_reducible repeat (first | refine blk_drewN ?_ _ | refine blk_drew ?_ | refine blk_alloc ?_ _)); refine blk_put (cs := #[.int .i8 t196, .int .i8 0, .slice none 0 0]) ?_ 1 _ rfl; (with_reducible repeat (first | refine blk_drewN ?_ _ | refine blk_drew ?_ | refine blk_alloc ?_ _)); refine blk_put (cs := #[.int .i8 0, .int .i8 0, .slice none 0 0]) ?_ 0 _ rfl; (with_reducible repeat (first | refine blk_drewN ?_ _ | refine blk_drew ?_ | refine blk_alloc ?_ _)); exact BK201.out⟩, zba⟩
 clear H'
 try clear c1
 try clear p2
 try clear c4
 try clear c6
 try clear p6
 try clear c9
 try clear c10
 try clear c13
 try clear c14
 try clear c15
 try clear z16_0 z16_1 z16_2 y16_0 y16_1 y16_2
 obtain ⟨x7_1, x202000_1, x202001_1, x202002_1, u202002, rfl, HA, HK1, HO_202002, BK192, BK193, BK201, HB⟩ := hrel
 cases gk with
 | zero => exact absurd HA.out (by simp [spec_TurnBoard.l0])
 | succ k1 => ?_
 have H := HA.out
 clear HA
 simp only [spec_TurnBoard.l0] at H
 by_cases c18 : x7_1 > 0
 rotate_left
 ·rw [if_neg c18] at H
  have c18b0 : decide (0 < x7_1) = false := decide_eq_false c18
  clear c18
  simp only [Option.some.injEq, Prod.mk.injEq] at H
  obtain ⟨rfl, rfl, rfl, rfl⟩ := H
  have hnb37 := NB201_192.out
  have hnc37 := NB192_201.out
  have hnb38 := NB201_193.out
  have hnc38 := NB193_201.out
  obtain ⟨z39_0, z39_1, z39_2, y39_0, y39_1, y39_2⟩ := zB3 BK201
  have hnb40 := NB193_192.out
  have hnc40 := NB192_193.out
  obtain ⟨z41_0, z41_1, z41_2, y41_0, y41_1, y41_2⟩ := zB3 BK193
  obtain ⟨Ao42, co42, eo42⟩ := Kd.R_slice HO_202002.out
  subst eo42
  go_wp2
  refine bodyPost_ret (results_ct rfl _ _ gb193 37 #[.int .i8 x202000_1, .int .i8 x202001_1, .slice Ao42 x202002_1.length co42] (0, 0) _ rfl (by (with_reducible repeat (first | refine blk_drewN ?_ _ | refine blk_drew ?_ | refine blk_alloc ?_ _)); refine blk_put (cs := #[.int .i8 x202000_1, .int .i8 x202001_1, .slice none 0 0]) ?_ 2 _ rfl; (with_reducible repeat (first | refine blk_drewN ?_ _ | refine blk_drew ?_ | refine blk_alloc ?_ _)); refine blk_put (cs := #[.int .i8 x202000_1, .int .i8 0, .slice none 0 0]) ?_ 1 _ rfl; (with_reducible repeat (first | refine blk_drewN ?_ _ | refine blk_drew ?_ | refine blk_alloc ?_ _)); refine blk_put (cs := #[.int .i8 0, .int .i8 0, .slice none 0 0]) ?_ 0 _ rfl; (with_reducible repeat (first | refine blk_drewN ?_ _ | refine blk_drew ?_ | refine blk_alloc ?_ _)); exact BK193.out) Try.underlying37 rfl (by kernel_rfl)) rfl ?_
  exact ⟨_, by first | rfl | (simp [errW_none, errW_some] <;> rfl) | (simp [*, errW_none, errW_some] <;> rfl), by (with_reducible repeat (first | apply Kd.R_alloc | apply Kd.R_drewN | apply Kd.R_drew)); exact Kd.R_mono (Kd.R_far (p := ⟨gb193, 2, none⟩) (Kd.R_far (p := ⟨gb193, 1, none⟩) (Kd.R_far (p := ⟨gb193, 0, none⟩) (Kd.R_types HO_202002.out BK193.out (by decide)) (fun _ hk => hk.2) (.int .i8 x202000_1)) (fun _ hk => hk.2) (.int .i8 x202001_1)) (fun _ hk => hk.2) (.slice Ao42 x202002_1.length co42)) (fun _ hk => trivial), by repeat (first | (with_reducible first | exact HB.out | apply below_alloc | apply pw_below_drewN | apply below_drew1 | refine below_set ?_ GE192.out | refine below_set ?_ GE193.out | refine below_set ?_ GE201.out) | exact HB.out)⟩
 rw [if_pos c18] at H
 have c18b0 : decide (0 < x7_1) = true := decide_eq_true c18
 clear c18
 have H' := Aside0.mk H
 clear H
 go_wp2
 go_loopg [8] k1 (fun kq v8 w' => ∃ (x8_2 : Int) (x202002_2 : List (S91)) (u202002 : Value), v8 = .int .i64 x8_2 ∧ Aside0 (spec_TurnBoard.l1 kq x7_1 x8_2 x202000_1 x202001_1 x202002_2 = some (r1, r2, r3, r4)) ∧ Aside0 (kq ≤ k1) ∧ Aside0 (Kd.R k91 91 w' w.heap.size (fun _ => True) u202002 x202002_2) ∧ Aside0 (w'.heap[gb192]? = some (.cells #[.int .i8 a0_0, .int .i8 a0_1, (.slice A0_2 l0_2.length c0_2)] 37 (0, 0))) ∧ Aside0 (w'.heap[gb193]? = some (.cells #[.int .i8 0, .int .i8 0, (.slice none 0 0)] 37 (0, 0))) ∧ Aside0 (w'.heap[gb201]? = some (.cells #[.int .i8 x202000_1, .int .i8 x202001_1, u202002] 37 (0, 0))) ∧ Aside0 (Below w.heap.size w w'))
 case atStart => exact ⟨(0), (x202002_1), (u202002), (by first | rfl | (simp; done) | (simp [*]; done) | (exact congrArg (Value.int .i64) (wrap_eq (by omega)))), H', ⟨Nat.le_refl _⟩, ze HO_202002, zh BK192, zh BK193, zh BK201, zba⟩
 clear H'
 try clear c1
 try clear p2
 try clear c4
 try clear c6
 try clear p6
 try clear c9
 try clear c10
 try clear c13
 try clear c14
 try clear c15
 try clear c18
 try clear c18b0
 try clear z16_0 z16_1 z16_2 y16_0 y16_1 y16_2
 try clear p2
 try clear p6
 obtain ⟨x8_2, x202002_2, u202002, rfl, HA, HK2, HO_202002, BK192, BK193, BK201, HB⟩ := hrel
 cases gk with
 | zero => exact absurd HA.out (by simp [spec_TurnBoard.l1])
 | succ k2 => ?_
 have H := HA.out
 clear HA
 simp only [spec_TurnBoard.l1] at H
 by_cases c19 : x8_2 < (x202002_2.length : Int)
 rotate_left
 ·rw [if_neg c19] at H
  have c19b0 : decide (x8_2 < (x202002_2.length : Int)) = false := decide_eq_false c19
  clear c19
  have H' := Aside0.mk H
  clear H
  have hnb33 := NB201_192.out
  have hnc33 := NB192_201.out
  have hnb34 := NB201_193.out
  have hnc34 := NB193_201.out
  obtain ⟨z35_0, z35_1, z35_2, y35_0, y35_1, y35_2⟩ := zB3 BK201
  obtain ⟨Ao36, co36, eo36⟩ := Kd.R_slice HO_202002.out
  subst eo36
  go_wp2
  go_roundg k2
  case measure => have := HK1.out; have := HK2.out; omega
  case rel => exact ⟨(wrap64 (x7_1 - 1)), (x202001_1), (x202000_1), (x202002_2), (.slice Ao36 x202002_2.length co36), (by first | rfl | (simp; done) | (simp [*]; done) | (exact congrArg (Value.int .i64) (wrap_eq (by omega)))), H', ⟨by have := HK1.out; have := HK2.out; omega⟩, ⟨by (with_reducible repeat (first | apply Kd.R_alloc | apply Kd.R_drewN | apply Kd.R_drew)); exact Kd.R_mono (Kd.R_far (p := ⟨gb201, 1, none⟩) (Kd.R_far (p := ⟨gb201, 0, none⟩) (Kd.R_types HO_202002.out BK201.out (by decide)) (fun _ hk => hk.2) (.int .i8 x202001_1)) (fun _ hk => hk.2) (.int .i8 x202000_1)) (fun _ hk => trivial)⟩, zf BK192 NB192_201, zf BK193 NB193_201, ⟨by (with_reducible repeat (first | refine blk_drewN ?_ _ | refine blk_drew ?_ | refine blk_alloc ?_ _)); refine blk_put (cs := #[.int .i8 x202001_1, .int .i8 x202001_1, .slice Ao36 x202002_2.length co36]) ?_ 1 _ rfl; (with_reducible repeat (first | refine blk_drewN ?_ _ | refine blk_drew ?_ | refine blk_alloc ?_ _)); refine blk_put (cs := #[.int .i8 x202000_1, .int .i8 x202001_1, .slice Ao36 x202002_2.length co36]) ?_ 0 _ rfl; (with_reducible repeat (first | refine blk_drewN ?_ _ | refine blk_drew ?_ | refine blk_alloc ?_ _)); exact BK201.out⟩, zba⟩
 rw [if_pos c19] at H
 have c19b0 : decide (x8_2 < (x202002_2.length : Int)) = true := decide_eq_true c19
 clear c19
 by_cases c20 : 0 ≤ x8_2
 rotate_left
 ·rw [if_neg c20] at H
  exact absurd H (by simp)
 rw [if_pos c20] at H
 have c20b0 : decide (0 ≤ x8_2) = true := decide_eq_true c20
 clear c20
 obtain ⟨y206, hy206⟩ : ∃ y_ : List (S91), y_ = (x202002_2.set (x8_2 : Int).toNat (⟨(⟨IntKind.i8.wrap ((IntKind.i8.wrap (x202001_1 - 1)) - ((rd_T91 x202002_2 x8_2).f0.f1)), (rd_T91 x202002_2 x8_2).f0.f0⟩ : S74), (rd_T91 x202002_2 x8_2).f1, (rd_T91 x202002_2 x8_2).f2, (rd_T91 x202002_2 x8_2).f3⟩ : S91)) := ⟨_, rfl⟩
 replace H : ((spec_l01Quarters.f ((rd_T91 y206 x8_2).f2) 1).bind fun t208 => (spec_TurnBoard.l1 k2 x7_1 (wrap64 (x8_2 + 1)) x202000_1 x202001_1 (y206.set (x8_2 : Int).toNat (⟨(⟨(rd_T91 y206 x8_2).f0.f0, (rd_T91 y206 x8_2).f0.f1⟩ : S74), (rd_T91 y206 x8_2).f1, t208, (rd_T91 y206 x8_2).f3⟩ : S91)))) = some (r1, r2, r3, r4) := by first | (rw [hy206]; with_reducible exact H) | (have H2_ := (Option.bind_some _ _).symm.trans H; rw [hy206]; with_reducible exact H2_) | (have H2_ := (Option.bind_some _ _).symm.trans H; with_reducible exact H2_) | with_reducible exact H | (rw [hy206]; exact H) | exact H
 have Ny206 := Aside0.mk hy206
 clear hy206
 replace H := Option.bind_eq_some_iff.mp H
 obtain ⟨t208, A220, H⟩ := H
 replace H : (spec_TurnBoard.l1 k2 x7_1 (wrap64 (x8_2 + 1)) x202000_1 x202001_1 (y206.set (x8_2 : Int).toNat (⟨(⟨(rd_T91 y206 x8_2).f0.f0, (rd_T91 y206 x8_2).f0.f1⟩ : S74), (rd_T91 y206 x8_2).f1, t208, (rd_T91 y206 x8_2).f3⟩ : S91))) = some (r1, r2, r3, r4) := H
 have A22 := Aside0.mk A220
 clear A220
 obtain ⟨y209, hy209⟩ : ∃ y_ : List (S91), y_ = (y206.set (x8_2 : Int).toNat (⟨(⟨(rd_T91 y206 x8_2).f0.f0, (rd_T91 y206 x8_2).f0.f1⟩ : S74), (rd_T91 y206 x8_2).f1, t208, (rd_T91 y206 x8_2).f3⟩ : S91)) := ⟨_, rfl⟩
 replace H : (spec_TurnBoard.l1 k2 x7_1 (wrap64 (x8_2 + 1)) x202000_1 x202001_1 y209) = some (r1, r2, r3, r4) := by first | (rw [hy209]; with_reducible exact H) | (have H2_ := (Option.bind_some _ _).symm.trans H; rw [hy209]; with_reducible exact H2_) | (have H2_ := (Option.bind_some _ _).symm.trans H; with_reducible exact H2_) | with_reducible exact H | (rw [hy209]; exact H) | exact H
 have Ny209 := Aside0.mk hy209
 clear hy209
 have H' := Aside0.mk H
 clear H
 have hnb24 := NB201_192.out
 have hnc24 := NB192_201.out
 have hnb25 := NB201_193.out
 have hnc25 := NB193_201.out
 obtain ⟨z26_0, z26_1, z26_2, y26_0, y26_1, y26_2⟩ := zB3 BK201
 obtain ⟨Ao27, co27, eo27⟩ := Kd.R_slice HO_202002.out
 subst eo27
 have p203 : 0 ≤ (x8_2 : Int) := of_decide_eq_true (by first | (with_reducible assumption) | assumption)
 have q203 : x8_2 < (x202002_2.length : Int) := of_decide_eq_true (by first | (with_reducible assumption) | assumption)
 obtain ⟨ad203, e203, hx203_0, hx203_1, hx203_2, hx203_3, hx203_4⟩ := at_T91 (Kd.R_reads' HO_202002.out).2.2 x8_2 p203 q203
 cases e203
 replace p203 := eq_true p203
 replace q203 := eq_true q203
 try go_wp2
 have n0_ := Aside0.mk (Kd.R_drew HO_202002.out)
 have n1_ := Aside0.mk (blk_drew BK192.out)
 have n2_ := Aside0.mk (blk_drew BK193.out)
 have n3_ := Aside0.mk (blk_drew BK201.out)
 have n4_ := Aside0.mk (below_drew1 HB.out)
 clear HO_202002
 clear BK192
 clear BK193
 clear BK201
 clear HB
 have HO_202002 := n0_
 have BK192 := n1_
 have BK193 := n2_
 have BK201 := n3_
 have HB := n4_
 clear n0_ n1_ n2_ n3_ n4_
 have p204 : 0 ≤ (x8_2 : Int) := of_decide_eq_true (by first | (with_reducible assumption) | assumption)
 have q204 : x8_2 < (x202002_2.length : Int) := of_decide_eq_true (by first | (with_reducible assumption) | assumption)
 obtain ⟨ad204, e204, hx204_0, hx204_1, hx204_2, hx204_3, hx204_4⟩ := at_T91 (Kd.R_reads' HO_202002.out).2.2 x8_2 p204 q204
 obtain rfl : ad203 = ad204 := (by injection e204)
 replace p204 := eq_true p204
 replace q204 := eq_true q204
 have p205 : 0 ≤ (x8_2 : Int) := of_decide_eq_true (by first | (with_reducible assumption) | assumption)
 have q205 : x8_2 < (x202002_2.length : Int) := of_decide_eq_true (by first | (with_reducible assumption) | assumption)
 obtain ⟨ad205, e205, hx205_0, hx205_1, hx205_2, hx205_3, hx205_4⟩ := at_T91 (Kd.R_reads' HO_202002.out).2.2 x8_2 p205 q205
 obtain rfl : ad203 = ad205 := (by injection e205)
 replace p205 := eq_true p205
 replace q205 := eq_true q205
 have p21 : 0 ≤ (x8_2 : Int) := of_decide_eq_true (by first | (with_reducible assumption) | assumption)
 have q21 : (x8_2 : Int) < ((x202002_2.length : Int) : Int) := of_decide_eq_true (by first | (with_reducible assumption) | assumption)
 obtain ⟨go21, co21, eo21, gb21, gl21, cl21, HG21⟩ := Kd.R_form HO_202002.out (by omega)
 (first | cases eo21 | (injection eo21 with ea_ en_ ec_; (first | subst ea_ | (injection ea_ with ea_; subst ea_)); subst ec_; clear en_))
 have GB21 := Aside0.mk gb21
 have GG21 := Aside0.mk HG21
 clear gb21 gl21 HG21
 (first | simp only [add_plain] at hx203_0 | skip)
 (first | simp only [add_plain] at hx203_1 | skip)
 (first | simp only [add_plain] at hx203_2 | skip)
 (first | simp only [add_plain] at hx203_3 | skip)
 (first | simp only [add_plain] at hx203_4 | skip)
 (first | simp only [add_plain] at hx204_0 | skip)
 (first | simp only [add_plain] at hx204_1 | skip)
 (first | simp only [add_plain] at hx204_2 | skip)
 (first | simp only [add_plain] at hx204_3 | skip)
 (first | simp only [add_plain] at hx204_4 | skip)
 (first | simp only [add_plain] at hx205_0 | skip)
 (first | simp only [add_plain] at hx205_1 | skip)
 (first | simp only [add_plain] at hx205_2 | skip)
 (first | simp only [add_plain] at hx205_3 | skip)
 (first | simp only [add_plain] at hx205_4 | skip)
 obtain ⟨ce21, hcl21, hM21, hcc21, hfr21⟩ := Kd.R_elem HO_202002.out z91 (x8_2 : Int) p21 q21
 obtain rfl := k91_openM hM21
 have hx21_0 : World.cell? _ ⟨go21, (x8_2 : Int).toNat * 5, none⟩ = some (.int .i8 ((rd_T91 x202002_2 x8_2).f0.f0)) := hcc21 0 _ rfl
 have hx21_1 : World.cell? _ ⟨go21, (x8_2 : Int).toNat * 5 + 1, none⟩ = some (.int .i8 ((rd_T91 x202002_2 x8_2).f0.f1)) := hcc21 1 _ rfl
 have hx21_2 : World.cell? _ ⟨go21, (x8_2 : Int).toNat * 5 + 2, none⟩ = some (.int .i8 ((rd_T91 x202002_2 x8_2).f1)) := hcc21 2 _ rfl
 have hx21_3 : World.cell? _ ⟨go21, (x8_2 : Int).toNat * 5 + 3, none⟩ = some (.int .i8 ((rd_T91 x202002_2 x8_2).f2)) := hcc21 3 _ rfl
 have hx21_4 : World.cell? _ ⟨go21, (x8_2 : Int).toNat * 5 + 4, none⟩ = some (.int .i8 ((rd_T91 x202002_2 x8_2).f3)) := hcc21 4 _ rfl
 have hf21_0 : World.frozen? _ ⟨go21, (x8_2 : Int).toNat * 5, none⟩ = false := hfr21 0
 have hf21_1 : World.frozen? _ ⟨go21, (x8_2 : Int).toNat * 5 + 1, none⟩ = false := hfr21 1
 have hf21_2 : World.frozen? _ ⟨go21, (x8_2 : Int).toNat * 5 + 2, none⟩ = false := hfr21 2
 have hf21_3 : World.frozen? _ ⟨go21, (x8_2 : Int).toNat * 5 + 3, none⟩ = false := hfr21 3
 have hf21_4 : World.frozen? _ ⟨go21, (x8_2 : Int).toNat * 5 + 4, none⟩ = false := hfr21 4
 clear hcl21 hcc21 hfr21 hM21
 replace p21 := eq_true p21
 replace q21 := eq_true q21
 obtain ⟨ce29, hcl29, hM29, hcc29, hfr29⟩ := Kd.R_elem HO_202002.out z91 (x8_2 : Int) (of_decide_eq_true (by first | (with_reducible assumption) | assumption)) (by have h_ : (x8_2 : Int) < ((x202002_2.length : Int) : Int) := of_decide_eq_true (by first | (with_reducible assumption) | assumption); first | exact h_ | (have e_ := (Kd.R_reads' HO_202002.out).1; omega) | simpa using h_)
 obtain rfl := k91_openM hM29
 have HP29 := (Kd.R_seg HO_202002.out (x8_2 : Int) (of_decide_eq_true (by first | (with_reducible assumption) | assumption)) (by have h_ : (x8_2 : Int) < ((x202002_2.length : Int) : Int) := of_decide_eq_true (by first | (with_reducible assumption) | assumption); first | exact h_ | (have e_ := (Kd.R_reads' HO_202002.out).1; omega) | simpa using h_) (seg := [.int .i8 (IntKind.i8.wrap ((IntKind.i8.wrap (x202001_1 - 1)) - ((rd_T91 x202002_2 x8_2).f0.f1))), .int .i8 ((rd_T91 x202002_2 x8_2).f0.f0)]) (j := 0) hcl29 hcc29 (show 2 ≤ 5 from by decide) (x' := (⟨(⟨IntKind.i8.wrap ((IntKind.i8.wrap (x202001_1 - 1)) - ((rd_T91 x202002_2 x8_2).f0.f1)), (rd_T91 x202002_2 x8_2).f0.f0⟩ : S74), (rd_T91 x202002_2 x8_2).f1, (rd_T91 x202002_2 x8_2).f2, (rd_T91 x202002_2 x8_2).f3⟩ : S91)) (k91_mkM _ _ _ (⟨(⟨IntKind.i8.wrap ((IntKind.i8.wrap (x202001_1 - 1)) - ((rd_T91 x202002_2 x8_2).f0.f1)), (rd_T91 x202002_2 x8_2).f0.f0⟩ : S74), (rd_T91 x202002_2 x8_2).f1, (rd_T91 x202002_2 x8_2).f2, (rd_T91 x202002_2 x8_2).f3⟩ : S91) ) (fun _ hk => hk)).1
 rw [← Ny206.out] at HP29
 have HQ29 := Aside0.mk HP29
 clear hcl29 hcc29 hfr29 hM29 HP29
 refine start_ (n := 19) (S := fun w' => w'.cell? ⟨gb201, 0, none⟩ = some (.int .i8 x202000_1) ∧ w'.cell? ⟨gb201, 1, none⟩ = some (.int .i8 x202001_1) ∧ w'.cell? ⟨gb201, 2, none⟩ = some (.slice (some ⟨go21, 0, none⟩) x202002_2.length co27) ∧ w'.cell? ⟨go21, ((x8_2).toNat * 5), none⟩ = some (.int .i8 ((rd_T91 x202002_2 x8_2).f0.f0)) ∧ w'.cell? ⟨go21, ((x8_2).toNat * 5) + 1, none⟩ = some (.int .i8 ((rd_T91 x202002_2 x8_2).f0.f1)) ∧ w'.cell? ⟨go21, ((x8_2).toNat * 5) + 2, none⟩ = some (.int .i8 ((rd_T91 x202002_2 x8_2).f1)) ∧ w'.cell? ⟨go21, ((x8_2).toNat * 5) + 3, none⟩ = some (.int .i8 ((rd_T91 x202002_2 x8_2).f2)) ∧ w'.cell? ⟨go21, ((x8_2).toNat * 5) + 4, none⟩ = some (.int .i8 ((rd_T91 x202002_2 x8_2).f3)) ∧ w'.cell? ⟨go21, ((x8_2).toNat * 5), none⟩ = some (.int .i8 ((rd_T91 x202002_2 x8_2).f0.f0)) ∧ w'.cell? ⟨go21, ((x8_2).toNat * 5) + 1, none⟩ = some (.int .i8 ((rd_T91 x202002_2 x8_2).f0.f1)) ∧ w'.cell? ⟨go21, ((x8_2).toNat * 5) + 2, none⟩ = some (.int .i8 ((rd_T91 x202002_2 x8_2).f1)) ∧ w'.cell? ⟨go21, ((x8_2).toNat * 5) + 3, none⟩ = some (.int .i8 ((rd_T91 x202002_2 x8_2).f2)) ∧ w'.cell? ⟨go21, ((x8_2).toNat * 5) + 4, none⟩ = some (.int .i8 ((rd_T91 x202002_2 x8_2).f3))) (ds := [18]) (zq 19 0) (by kernel_rfl) rfl rfl ⟨(blk_cell BK201.out 0).trans rfl, (blk_cell BK201.out 1).trans rfl, (blk_cell BK201.out 2).trans rfl, hx204_0, hx204_1, hx204_2, hx204_3, hx204_4, hx205_0, hx205_1, hx205_2, hx205_3, hx205_4⟩ (fun hHeld => ?_); refine with_tabW spec_TurnBoard.tab13 spec_TurnBoard.bits13 (fun HT_ HW_ => ?_)
 generalize wr.drew = w28 at HO_202002 BK192 BK193 BK201 HB GG21 HQ29 hf21_0 hf21_1 hf21_2 hf21_3 hf21_4 hx203_0 hx203_1 hx203_2 hx203_3 hx203_4 hx204_0 hx204_1 hx204_2 hx204_3 hx204_4 hx205_0 hx205_1 hx205_2 hx205_3 hx205_4 hx21_0 hx21_1 hx21_2 hx21_3 hx21_4 hHeld ⊢
 refine zpu 0 (some 37) (zq 19 1) HT_ ?_
 refine zpu 1 (some 38) (zq 19 3) HT_ ?_
 refine zpu 4 (some 41) (zq 19 19) HT_ ?_
 refine zpu 5 (some 42) (zq 19 51) HT_ ?_
 refine zpu 6 (some 43) (zq 19 115) HT_ ?_
 refine zpu 7 (some 44) (zq 19 243) HT_ ?_
 refine zpu 10 (some 47) (zq 19 1267) HT_ ?_
 refine zpu 11 (some 48) (zq 19 3315) HT_ ?_
 refine zpu 12 (some 49) (zq 19 7411) HT_ ?_
 refine zpu 13 (some 50) (zq 19 15603) HT_ ?_
 refine ztk 2 (some 39) (zq 19 15607) HT_ HW_ rfl hHeld (Or.inl ⟨by rfl, by (rintro w' ⟨s0, s1, s2, s3, s4, s5, s6, s7, s8, s9, s10, s11, s12⟩; go_simp; with_reducible rfl)⟩) ?_
 refine zpu 3 (some 40) (zq 19 15615) HT_ ?_
 refine ztk 8 (some 45) (zq 19 15871) HT_ HW_ rfl hHeld (Or.inl ⟨by rfl, by (rintro w' ⟨s0, s1, s2, s3, s4, s5, s6, s7, s8, s9, s10, s11, s12⟩; go_simp; with_reducible rfl)⟩) ?_
 refine zpu 9 (some 46) (zq 19 16383) HT_ ?_
 refine ztk 14 (some 51) (zq 19 32767) HT_ HW_ rfl hHeld (Or.inl ⟨by rfl, by (rintro w' ⟨s0, s1, s2, s3, s4, s5, s6, s7, s8, s9, s10, s11, s12⟩; go_simp; with_reducible rfl)⟩) ?_
 refine zpu 15 (some 52) (zq 19 65535) HT_ ?_
 refine zpu 16 (some 53) (zq 19 131071) HT_ ?_
 refine zpu 17 (some 54) (zq 19 262143) HT_ ?_
 refine last_ (i := 18) (N := none) (zq 19 524287) rfl rfl (one_of HT_.out (by kernel_rfl)) (by decide) (fun K hK => ?_)
 refine skip_ (w1 := ?_) (by rfl) rfl ?_ ?_
 rotate_left
 ·go_simp
  rfl
 refine hK.out _ _ ?_
 clear hK K
 refine done_ (done_of HT_.out (by kernel_rfl)) ?_
 have n0_ : Aside0 (Kd.R k91 91 ((w28.setCell ⟨go21, (x8_2 : Int).toNat * 5, none⟩ (.int .i8 (IntKind.i8.wrap ((IntKind.i8.wrap (x202001_1 - 1)) - ((rd_T91 x202002_2 x8_2).f0.f1))))).setCell ⟨go21, (x8_2 : Int).toNat * 5 + 1, none⟩ (.int .i8 ((rd_T91 x202002_2 x8_2).f0.f0))) w.heap.size (fun _ => True) (.slice (some ⟨go21, 0, none⟩) x202002_2.length co27) y206) := ⟨HQ29.out⟩
 have n1_ : Aside0 (((w28.setCell ⟨go21, (x8_2 : Int).toNat * 5, none⟩ (.int .i8 (IntKind.i8.wrap ((IntKind.i8.wrap (x202001_1 - 1)) - ((rd_T91 x202002_2 x8_2).f0.f1))))).setCell ⟨go21, (x8_2 : Int).toNat * 5 + 1, none⟩ (.int .i8 ((rd_T91 x202002_2 x8_2).f0.f0))).heap[gb192]? = some (.cells #[.int .i8 a0_0, .int .i8 a0_1, .slice A0_2 l0_2.length c0_2] 37 (0, 0))) := ⟨by (with_reducible repeat (first | refine blk_drewN ?_ _ | refine blk_drew ?_ | refine blk_alloc ?_ _)); refine blk_far ?_ (by have h_ := Kd.R_ne HO_202002.out BK192.out (by decide); intro e_; exact h_ (by rw [e_]; rfl)) _; (with_reducible repeat (first | refine blk_drewN ?_ _ | refine blk_drew ?_ | refine blk_alloc ?_ _)); refine blk_far ?_ (by have h_ := Kd.R_ne HO_202002.out BK192.out (by decide); intro e_; exact h_ (by rw [e_]; rfl)) _; (with_reducible repeat (first | refine blk_drewN ?_ _ | refine blk_drew ?_ | refine blk_alloc ?_ _)); exact BK192.out⟩
 have n2_ : Aside0 (((w28.setCell ⟨go21, (x8_2 : Int).toNat * 5, none⟩ (.int .i8 (IntKind.i8.wrap ((IntKind.i8.wrap (x202001_1 - 1)) - ((rd_T91 x202002_2 x8_2).f0.f1))))).setCell ⟨go21, (x8_2 : Int).toNat * 5 + 1, none⟩ (.int .i8 ((rd_T91 x202002_2 x8_2).f0.f0))).heap[gb193]? = some (.cells #[.int .i8 0, .int .i8 0, .slice none 0 0] 37 (0, 0))) := ⟨by (with_reducible repeat (first | refine blk_drewN ?_ _ | refine blk_drew ?_ | refine blk_alloc ?_ _)); refine blk_far ?_ (by have h_ := Kd.R_ne HO_202002.out BK193.out (by decide); intro e_; exact h_ (by rw [e_]; rfl)) _; (with_reducible repeat (first | refine blk_drewN ?_ _ | refine blk_drew ?_ | refine blk_alloc ?_ _)); refine blk_far ?_ (by have h_ := Kd.R_ne HO_202002.out BK193.out (by decide); intro e_; exact h_ (by rw [e_]; rfl)) _; (with_reducible repeat (first | refine blk_drewN ?_ _ | refine blk_drew ?_ | refine blk_alloc ?_ _)); exact BK193.out⟩
 have n3_ : Aside0 (((w28.setCell ⟨go21, (x8_2 : Int).toNat * 5, none⟩ (.int .i8 (IntKind.i8.wrap ((IntKind.i8.wrap (x202001_1 - 1)) - ((rd_T91 x202002_2 x8_2).f0.f1))))).setCell ⟨go21, (x8_2 : Int).toNat * 5 + 1, none⟩ (.int .i8 ((rd_T91 x202002_2 x8_2).f0.f0))).heap[gb201]? = some (.cells #[.int .i8 x202000_1, .int .i8 x202001_1, .slice (some ⟨go21, 0, none⟩) x202002_2.length co27] 37 (0, 0))) := ⟨by (with_reducible repeat (first | refine blk_drewN ?_ _ | refine blk_drew ?_ | refine blk_alloc ?_ _)); refine blk_far ?_ (by have h_ := Kd.R_ne HO_202002.out BK201.out (by decide); intro e_; exact h_ (by rw [e_]; rfl)) _; (with_reducible repeat (first | refine blk_drewN ?_ _ | refine blk_drew ?_ | refine blk_alloc ?_ _)); refine blk_far ?_ (by have h_ := Kd.R_ne HO_202002.out BK201.out (by decide); intro e_; exact h_ (by rw [e_]; rfl)) _; (with_reducible repeat (first | refine blk_drewN ?_ _ | refine blk_drew ?_ | refine blk_alloc ?_ _)); exact BK201.out⟩
 have n4_ : Aside0 (Below w.heap.size w ((w28.setCell ⟨go21, (x8_2 : Int).toNat * 5, none⟩ (.int .i8 (IntKind.i8.wrap ((IntKind.i8.wrap (x202001_1 - 1)) - ((rd_T91 x202002_2 x8_2).f0.f1))))).setCell ⟨go21, (x8_2 : Int).toNat * 5 + 1, none⟩ (.int .i8 ((rd_T91 x202002_2 x8_2).f0.f0)))) := zba
 (try clear HO_202002)
 (try clear BK192)
 (try clear BK193)
 (try clear BK201)
 (try clear HB)
 generalize ((w28.setCell ⟨go21, (x8_2 : Int).toNat * 5, none⟩ (.int .i8 (IntKind.i8.wrap ((IntKind.i8.wrap (x202001_1 - 1)) - ((rd_T91 x202002_2 x8_2).f0.f1))))).setCell ⟨go21, (x8_2 : Int).toNat * 5 + 1, none⟩ (.int .i8 ((rd_T91 x202002_2 x8_2).f0.f0))) = w30 at n0_ n1_ n2_ n3_ n4_ ⊢
 have HO_202002 := n0_
 have BK192 := n1_
 have BK193 := n2_
 have BK201 := n3_
 have HB := n4_
 clear n0_ n1_ n2_ n3_ n4_
 have p207 : 0 ≤ (x8_2 : Int) := of_decide_eq_true (by first | (with_reducible assumption) | assumption)
 have q207 : x8_2 < (y206.length : Int) := (by have h_ : (x8_2 : Int) < ((x202002_2.length : Int) : Int) := of_decide_eq_true (by first | (with_reducible assumption) | assumption); first | (have e_ := (Kd.R_reads' HO_202002.out).1; omega) | simpa only [Ny206.out, List.length_set] using h_)
 have ql207 : ((x8_2 : Int) < ((x202002_2.length : Int) : Int)) = True := eq_true (of_decide_eq_true (by first | (with_reducible assumption) | assumption))
 obtain ⟨ad207, e207, hx207_0, hx207_1, hx207_2, hx207_3, hx207_4⟩ := at_T91 (Kd.R_reads' HO_202002.out).2.2 x8_2 p207 q207
 obtain rfl : (⟨go21, 0, none⟩ : Addr) = ad207 := (by injection e207)
 (first | simp only [add_plain] at hx207_0 | simp only [add_at] at hx207_0 | simp only [Addr.add, Nat.zero_add] at hx207_0 | skip)
 (first | simp only [add_plain] at hx207_1 | simp only [add_at] at hx207_1 | simp only [Addr.add, Nat.zero_add] at hx207_1 | skip)
 (first | simp only [add_plain] at hx207_2 | simp only [add_at] at hx207_2 | simp only [Addr.add, Nat.zero_add] at hx207_2 | skip)
 (first | simp only [add_plain] at hx207_3 | simp only [add_at] at hx207_3 | simp only [Addr.add, Nat.zero_add] at hx207_3 | skip)
 (first | simp only [add_plain] at hx207_4 | simp only [add_at] at hx207_4 | simp only [Addr.add, Nat.zero_add] at hx207_4 | skip)
 replace p207 := eq_true p207
 replace q207 := eq_true q207
 try go_wp2_with (first | ((with_reducible refine gate_callee (f := 135) rfl ?_); refine goesL_ (some 60) rfl rfl Try.func135 (by kernel_rfl) rfl #[.int .i8 ((rd_T91 y206 x8_2).f2), .int .i64 1] rfl (by (try simp only [List.map_toArray, List.map_cons, List.map_nil]); first | done | rfl | (simp only [List.length_drop, List.length_take]; rfl)) ?_; (with_reducible refine (spec_l01Quarters.calls ((rd_T91 y206 x8_2).f2) 1 t208 _ A22.out).mono ?_); rintro e w' ⟨rfl, ⟨nd, rfl⟩⟩; refine ⟨_, rfl, ?_⟩; (try (rw [drewN_self w30]; generalize hq_ : World.drewN w30 _ = w30; have n0_ : Aside0 (Kd.R k91 91 w30 w.heap.size (fun _ => True) (.slice (some ⟨go21, 0, none⟩) x202002_2.length co27) y206) := ⟨by rw [← hq_]; exact (ze HO_202002).out⟩; have n1_ : Aside0 (w30.heap[gb192]? = some (.cells #[.int .i8 a0_0, .int .i8 a0_1, .slice A0_2 l0_2.length c0_2] 37 (0, 0))) := ⟨by rw [← hq_]; exact (zh BK192).out⟩; have n2_ : Aside0 (w30.heap[gb193]? = some (.cells #[.int .i8 0, .int .i8 0, .slice none 0 0] 37 (0, 0))) := ⟨by rw [← hq_]; exact (zh BK193).out⟩; have n3_ : Aside0 (w30.heap[gb201]? = some (.cells #[.int .i8 x202000_1, .int .i8 x202001_1, .slice (some ⟨go21, 0, none⟩) x202002_2.length co27] 37 (0, 0))) := ⟨by rw [← hq_]; exact (zh BK201).out⟩; have n4_ : Aside0 (Below w.heap.size w w30) := ⟨by rw [← hq_]; exact (by repeat (first | (with_reducible first | exact HB.out | apply below_alloc | apply pw_below_drewN | apply below_drew1 | refine below_set ?_ GE192.out | refine below_set ?_ GE193.out | refine below_set ?_ GE201.out) | exact HB.out))⟩; clear HO_202002 BK192 BK193 BK201 HB hq_; have HO_202002 := n0_; have BK192 := n1_; have BK193 := n2_; have BK201 := n3_; have HB := n4_; clear n0_ n1_ n2_ n3_ n4_)); have p23 : 0 ≤ (x8_2 : Int) := of_decide_eq_true (by first | (with_reducible assumption) | assumption); have q23 : (x8_2 : Int) < ((x202002_2.length : Int) : Int) := of_decide_eq_true (by first | (with_reducible assumption) | assumption); replace p23 := eq_true p23; replace q23 := eq_true q23; have HX31 := Aside0.mk (show Kd.R k91 91 w30 w.heap.size (fun _ => True) (.slice (some ⟨go21, 0, none⟩) x202002_2.length co27) y206 from (ze HO_202002).out); obtain ⟨ce31, hcl31, hM31, hcc31, hfr31⟩ := Kd.R_elem HX31.out z91 (x8_2 : Int) (of_decide_eq_true (by first | (with_reducible assumption) | assumption)) (by have h_ : (x8_2 : Int) < ((x202002_2.length : Int) : Int) := of_decide_eq_true (by first | (with_reducible assumption) | assumption); first | exact h_ | (have e_ := (Kd.R_reads' HO_202002.out).1; omega) | simpa using h_); obtain rfl := k91_openM hM31; have HP31 := Kd.R_seg HX31.out (x8_2 : Int) (of_decide_eq_true (by first | (with_reducible assumption) | assumption)) (by have h_ : (x8_2 : Int) < ((x202002_2.length : Int) : Int) := of_decide_eq_true (by first | (with_reducible assumption) | assumption); first | exact h_ | (have e_ := (Kd.R_reads' HO_202002.out).1; omega) | simpa using h_) (seg := [.int .i8 t208]) (j := 3) hcl31 hcc31 (show 4 ≤ 5 from by decide) (x' := (⟨(⟨(rd_T91 y206 x8_2).f0.f0, (rd_T91 y206 x8_2).f0.f1⟩ : S74), (rd_T91 y206 x8_2).f1, t208, (rd_T91 y206 x8_2).f3⟩ : S91)) (k91_mkM _ _ _ (⟨(⟨(rd_T91 y206 x8_2).f0.f0, (rd_T91 y206 x8_2).f0.f1⟩ : S74), (rd_T91 y206 x8_2).f1, t208, (rd_T91 y206 x8_2).f3⟩ : S91) ) (fun _ hk => hk); have hx31_3 := hcc31 3 _ rfl; (try simp only [show (k91).sz = 5 from rfl, Nat.mul_one, Nat.add_zero] at hx31_3); have hf31_3 := hfr31 3; (try simp only [show (k91).sz = 5 from rfl, Nat.mul_one, Nat.add_zero] at hf31_3); clear hcl31 hcc31 hfr31 hM31) | ((with_reducible refine gate_store (t := 22) (p := 62) rfl ?_); refine store_event (t := 22) (p := 62) (v := ?vo_w32) (w1 := (w30.setCell ⟨go21, (x8_2 : Int).toNat * 5 + 3, none⟩ (.int .i8 t208))) ?hg ?ho ?hn ?hr ?_; (case ho => rfl); (case hg => rfl); (case hn => rfl); (case hr => first | (go_simp; done) | (go_simp; rfl)); intro w32 hw; have hg : w30.grownBy w32 (some go21) := (by rw [hw]; exact HP31.2); have hp_ : Kd.R k91 91 w32 w.heap.size (fun _ => True) (.slice (some ⟨go21, 0, none⟩) x202002_2.length co27) y209 := (by rw [hw, Ny209.out]; exact HP31.1); clear HP31; have n_ : _ ∧ _ ∧ _ ∧ _ ∧ _ := ⟨Aside0.mk (hp_), Aside0.mk (blk_grown (g := gb192) (o := .cells #[.int .i8 a0_0, .int .i8 a0_1, .slice A0_2 l0_2.length c0_2] 37 (0, 0)) (zh BK192).out hg (Kd.R_ne HO_202002.out BK192.out (by decide))), Aside0.mk (blk_grown (g := gb193) (o := .cells #[.int .i8 0, .int .i8 0, .slice none 0 0] 37 (0, 0)) (zh BK193).out hg (Kd.R_ne HO_202002.out BK193.out (by decide))), Aside0.mk (blk_grown (g := gb201) (o := .cells #[.int .i8 x202000_1, .int .i8 x202001_1, .slice (some ⟨go21, 0, none⟩) x202002_2.length co27] 37 (0, 0)) (zh BK201).out hg (Kd.R_ne HO_202002.out BK201.out (by decide))), Aside0.mk ((by rw [hw]; exact below_set (HB.out) GB21.out : Below w.heap.size w w32))⟩; clear HO_202002 BK192 BK193 BK201 HB; obtain ⟨HO_202002, BK192, BK193, BK201, HB⟩ := n_; clear hg hw hp_))
 go_roundg k2
 case measure => have := HK1.out; have := HK2.out; omega
 case rel => exact ⟨(wrap64 (x8_2 + 1)), (y209), (.slice (some ⟨go21, 0, none⟩) x202002_2.length co27), (by first | rfl | (simp; done) | (simp [*]; done) | (exact congrArg (Value.int .i64) (wrap_eq (by omega)))), H', ⟨by have := HK1.out; have := HK2.out; omega⟩, ze HO_202002, zh BK192, zh BK193, zh BK201, zba⟩
/-! ### impl_in: function 98 -/
def impl_in.f (a0 : Int) (a1 : Int) (a2 : Int) : Option (Bool) := if a0 ≥ a1 then (some (decide (a0 ≤ a2))) else (some false)
set_option maxHeartbeats 8000000 in
set_option maxRecDepth 100000 in
theorem impl_in.calls (a0 : Int) (a1 : Int) (a2 : Int) (r : Bool) (w : World) (h : impl_in.f a0 a1 a2 = some r) :
    Calls Try.prog 98 #[.int .i64 a0, .int .i64 a1, .int .i64 a2] w fun e w' => e = .returned (.bool r) ∧ Drawn0 w w' := by
 have H : (if a0 ≥ a1 then (some (decide (a0 ≤ a2))) else (some false)) = some r := h
 clear h
 by_cases c4 : a0 ≥ a1
 ·rw [if_pos c4] at H
  have c4b0 : decide (a1 ≤ a0) = true := decide_eq_true c4
  clear c4
  obtain rfl := Option.some.inj H
  go_enter Try.func98, Try.ntmps98
  go_wp2
  go_ret
  exact ⟨by first | rfl | (simp; done) | (simp [*]; done) | (exact congrArg (Value.int .i64) (wrap_eq (by omega))), by repeat (first | exact Drawn0.refl _ | apply Drawn0.step)⟩
 rw [if_neg c4] at H
 have c4b0 : decide (a1 ≤ a0) = false := decide_eq_false c4
 clear c4
 obtain rfl := Option.some.inj H
 go_enter Try.func98, Try.ntmps98
 go_wp2
 go_ret
 exact ⟨by first | rfl | (simp; done) | (simp [*]; done) | (exact congrArg (Value.int .i64) (wrap_eq (by omega))), by repeat (first | exact Drawn0.refl _ | apply Drawn0.step)⟩
/-! ### impl_Cell_placed: function 164 -/
def impl_Cell_placed.f (a0_0 : Int) (a0_1 : Int) : Option (Bool) := (impl_in.f (wrap64 (a0_0)) 0 23).bind fun t211 => (if t211 = true then ((impl_in.f (wrap64 (a0_1)) 0 23).bind fun t212 => (some t212)) else (some false))
set_option maxHeartbeats 8000000 in
set_option maxRecDepth 100000 in
theorem impl_Cell_placed.calls (a0_0 : Int) (a0_1 : Int) (r : Bool) (w : World) (h : impl_Cell_placed.f a0_0 a0_1 = some r) :
    Calls Try.prog 164 #[.agg #[.int .i8 a0_0, .int .i8 a0_1]] w fun e w' => e = .returned (.bool r) ∧ Below w.heap.size w w' := by
 have hu74 := Try.underlying74
 have HB := Aside0.mk (Below.refl w.heap.size w)
 have H : ((impl_in.f (wrap64 (a0_0)) 0 23).bind fun t211 => (if t211 = true then ((impl_in.f (wrap64 (a0_1)) 0 23).bind fun t212 => (some t212)) else (some false))) = some r := h
 clear h
 replace H := Option.bind_eq_some_iff.mp H
 obtain ⟨t211, A20, H⟩ := H
 replace H : (if t211 = true then ((impl_in.f (wrap64 (a0_1)) 0 23).bind fun t212 => (some t212)) else (some false)) = some r := H
 have A2 := Aside0.mk A20
 clear A20
 by_cases c3 : t211 = true
 rotate_left
 ·replace c3 := Bool.eq_false_iff.mpr c3
  subst c3
  have H1 : (some false) = some r := by rw [if_neg (show ¬ (false = true) by decide)] at H; exact H
  clear H
  have H := H1
  clear H1
  obtain rfl := Option.some.inj H
  go_enter Try.func164, Try.ntmps164
  go_wp2_with (first | ((with_reducible refine gate_dst (N := 1) rfl ?_); refine box_event ?hg (N := 1) ?hd (cs := #[.int .i8 a0_0, .int .i8 a0_1]) (t := 74) ?hr ?_; (case hd => rfl); (case hg => rfl); (case hr => first | (go_simp; done) | (go_simp; rfl)); intro gb210 hg w7 hbox hb; have n_ : _ ∧ _ ∧ _ ∧ _ := ⟨zb HB hb, Aside0.mk (hbox), zg HB hg, zg HB hg⟩; clear HB; obtain ⟨HB, BK210, GW210, GE210⟩ := n_; clear hb hbox hg; obtain ⟨z8_0, z8_1, y8_0, y8_1⟩ := zB2 BK210) | ((with_reducible refine gate_callee (f := 98) rfl ?_); refine goesL_ (some 6) rfl rfl Try.func98 (by kernel_rfl) rfl #[.int .i64 (wrap64 (a0_0)), .int .i64 0, .int .i64 23] rfl (by (try simp only [List.map_toArray, List.map_cons, List.map_nil]); first | done | rfl | (simp only [List.length_drop, List.length_take]; rfl)) ?_; (with_reducible refine (impl_in.calls (wrap64 (a0_0)) 0 23 false _ A2.out).mono ?_); rintro e w' ⟨rfl, ⟨nd, rfl⟩⟩; refine ⟨_, rfl, ?_⟩))
  go_ret
  exact ⟨by first | rfl | (simp [errW_none, errW_some] <;> rfl) | (simp [*, errW_none, errW_some] <;> rfl), by repeat (first | (with_reducible first | exact HB.out | apply below_alloc | apply pw_below_drewN | apply below_drew1 | refine below_set ?_ GE210.out) | exact HB.out)⟩
 subst c3
 have H1 : ((impl_in.f (wrap64 (a0_1)) 0 23).bind fun t212 => (some t212)) = some r := by rw [if_pos rfl] at H; exact H
 clear H
 have H := H1
 clear H1
 replace H := Option.bind_eq_some_iff.mp H
 obtain ⟨t212, A40, H⟩ := H
 replace H : (some t212) = some r := H
 have A4 := Aside0.mk A40
 clear A40
 obtain rfl := Option.some.inj H
 go_enter Try.func164, Try.ntmps164
 go_wp2_with (first | ((with_reducible refine gate_dst (N := 1) rfl ?_); refine box_event ?hg (N := 1) ?hd (cs := #[.int .i8 a0_0, .int .i8 a0_1]) (t := 74) ?hr ?_; (case hd => rfl); (case hg => rfl); (case hr => first | (go_simp; done) | (go_simp; rfl)); intro gb210 hg w5 hbox hb; have n_ : _ ∧ _ ∧ _ ∧ _ := ⟨zb HB hb, Aside0.mk (hbox), zg HB hg, zg HB hg⟩; clear HB; obtain ⟨HB, BK210, GW210, GE210⟩ := n_; clear hb hbox hg; obtain ⟨z6_0, z6_1, y6_0, y6_1⟩ := zB2 BK210) | ((with_reducible refine gate_callee (f := 98) rfl ?_); refine goesL_ (some 6) rfl rfl Try.func98 (by kernel_rfl) rfl #[.int .i64 (wrap64 (a0_0)), .int .i64 0, .int .i64 23] rfl (by (try simp only [List.map_toArray, List.map_cons, List.map_nil]); first | done | rfl | (simp only [List.length_drop, List.length_take]; rfl)) ?_; (with_reducible refine (impl_in.calls (wrap64 (a0_0)) 0 23 true _ A2.out).mono ?_); rintro e w' ⟨rfl, ⟨nd, rfl⟩⟩; refine ⟨_, rfl, ?_⟩) | (go_at_call 98; (with_reducible refine (impl_in.calls (wrap64 (a0_1)) 0 23 t212 _ A4.out).mono ?_); rintro e w' ⟨rfl, ⟨nd, rfl⟩⟩))
 go_ret
 exact ⟨by first | rfl | (simp [errW_none, errW_some] <;> rfl) | (simp [*, errW_none, errW_some] <;> rfl), by repeat (first | (with_reducible first | exact HB.out | apply below_alloc | apply pw_below_drewN | apply below_drew1 | refine below_set ?_ GE210.out) | exact HB.out)⟩
/-! ### impl_ValidPiece: function 108 -/
def impl_ValidPiece.f (a0_0 : Int) (a0_1 : Int) (a0_2 : Int) (a0_3 : Int) (a0_4 : Int) : Option (Bool) := (impl_in.f (wrap64 (a0_2)) 0 5).bind fun t214 => (if t214 = true then ((impl_in.f (wrap64 (a0_3)) 0 3).bind fun t215 => (if t215 = true then ((impl_in.f (wrap64 (a0_4)) 1 9).bind fun t216 => (if t216 = true then ((impl_Cell_placed.f a0_0 a0_1).bind fun t217 => (some t217)) else (some false))) else (some false))) else (some false))
set_option maxHeartbeats 8000000 in
set_option maxRecDepth 100000 in
theorem impl_ValidPiece.calls (a0_0 : Int) (a0_1 : Int) (a0_2 : Int) (a0_3 : Int) (a0_4 : Int) (r : Bool) (w : World) (h : impl_ValidPiece.f a0_0 a0_1 a0_2 a0_3 a0_4 = some r) :
    Calls Try.prog 108 #[.agg #[.int .i8 a0_0, .int .i8 a0_1, .int .i8 a0_2, .int .i8 a0_3, .int .i8 a0_4]] w fun e w' => e = .returned (.bool r) ∧ Below w.heap.size w w' := by
 have hu91 := Try.underlying91
 have hu74 := Try.underlying74
 have HB := Aside0.mk (Below.refl w.heap.size w)
 have H : ((impl_in.f (wrap64 (a0_2)) 0 5).bind fun t214 => (if t214 = true then ((impl_in.f (wrap64 (a0_3)) 0 3).bind fun t215 => (if t215 = true then ((impl_in.f (wrap64 (a0_4)) 1 9).bind fun t216 => (if t216 = true then ((impl_Cell_placed.f a0_0 a0_1).bind fun t217 => (some t217)) else (some false))) else (some false))) else (some false))) = some r := h
 clear h
 replace H := Option.bind_eq_some_iff.mp H
 obtain ⟨t214, A20, H⟩ := H
 replace H : (if t214 = true then ((impl_in.f (wrap64 (a0_3)) 0 3).bind fun t215 => (if t215 = true then ((impl_in.f (wrap64 (a0_4)) 1 9).bind fun t216 => (if t216 = true then ((impl_Cell_placed.f a0_0 a0_1).bind fun t217 => (some t217)) else (some false))) else (some false))) else (some false)) = some r := H
 have A2 := Aside0.mk A20
 clear A20
 by_cases c3 : t214 = true
 rotate_left
 ·replace c3 := Bool.eq_false_iff.mpr c3
  subst c3
  have H1 : (some false) = some r := by rw [if_neg (show ¬ (false = true) by decide)] at H; exact H
  clear H
  have H := H1
  clear H1
  obtain rfl := Option.some.inj H
  go_enter Try.func108, Try.ntmps108
  go_wp2_with (first | ((with_reducible refine gate_dst (N := 1) rfl ?_); refine box_event ?hg (N := 1) ?hd (cs := #[.int .i8 a0_0, .int .i8 a0_1, .int .i8 a0_2, .int .i8 a0_3, .int .i8 a0_4]) (t := 91) ?hr ?_; (case hd => rfl); (case hg => rfl); (case hr => first | (go_simp; done) | (go_simp; rfl)); intro gb213 hg w16 hbox hb; have n_ : _ ∧ _ ∧ _ ∧ _ := ⟨zb HB hb, Aside0.mk (hbox), zg HB hg, zg HB hg⟩; clear HB; obtain ⟨HB, BK213, GW213, GE213⟩ := n_; clear hb hbox hg; obtain ⟨z17_0, z17_1, z17_2, z17_3, z17_4, y17_0, y17_1, y17_2, y17_3, y17_4⟩ := zB5 BK213) | ((with_reducible refine gate_callee (f := 98) rfl ?_); refine goesL_ (some 6) rfl rfl Try.func98 (by kernel_rfl) rfl #[.int .i64 (wrap64 (a0_2)), .int .i64 0, .int .i64 5] rfl (by (try simp only [List.map_toArray, List.map_cons, List.map_nil]); first | done | rfl | (simp only [List.length_drop, List.length_take]; rfl)) ?_; (with_reducible refine (impl_in.calls (wrap64 (a0_2)) 0 5 false _ A2.out).mono ?_); rintro e w' ⟨rfl, ⟨nd, rfl⟩⟩; refine ⟨_, rfl, ?_⟩))
  go_ret
  exact ⟨by first | rfl | (simp [errW_none, errW_some] <;> rfl) | (simp [*, errW_none, errW_some] <;> rfl), by repeat (first | (with_reducible first | exact HB.out | apply below_alloc | apply pw_below_drewN | apply below_drew1 | refine below_set ?_ GE213.out) | exact HB.out)⟩
 subst c3
 have H1 : ((impl_in.f (wrap64 (a0_3)) 0 3).bind fun t215 => (if t215 = true then ((impl_in.f (wrap64 (a0_4)) 1 9).bind fun t216 => (if t216 = true then ((impl_Cell_placed.f a0_0 a0_1).bind fun t217 => (some t217)) else (some false))) else (some false))) = some r := by rw [if_pos rfl] at H; exact H
 clear H
 have H := H1
 clear H1
 replace H := Option.bind_eq_some_iff.mp H
 obtain ⟨t215, A40, H⟩ := H
 replace H : (if t215 = true then ((impl_in.f (wrap64 (a0_4)) 1 9).bind fun t216 => (if t216 = true then ((impl_Cell_placed.f a0_0 a0_1).bind fun t217 => (some t217)) else (some false))) else (some false)) = some r := H
 have A4 := Aside0.mk A40
 clear A40
 by_cases c5 : t215 = true
 rotate_left
 ·replace c5 := Bool.eq_false_iff.mpr c5
  subst c5
  have H1 : (some false) = some r := by rw [if_neg (show ¬ (false = true) by decide)] at H; exact H
  clear H
  have H := H1
  clear H1
  obtain rfl := Option.some.inj H
  go_enter Try.func108, Try.ntmps108
  go_wp2_with (first | ((with_reducible refine gate_dst (N := 1) rfl ?_); refine box_event ?hg (N := 1) ?hd (cs := #[.int .i8 a0_0, .int .i8 a0_1, .int .i8 a0_2, .int .i8 a0_3, .int .i8 a0_4]) (t := 91) ?hr ?_; (case hd => rfl); (case hg => rfl); (case hr => first | (go_simp; done) | (go_simp; rfl)); intro gb213 hg w14 hbox hb; have n_ : _ ∧ _ ∧ _ ∧ _ := ⟨zb HB hb, Aside0.mk (hbox), zg HB hg, zg HB hg⟩; clear HB; obtain ⟨HB, BK213, GW213, GE213⟩ := n_; clear hb hbox hg; obtain ⟨z15_0, z15_1, z15_2, z15_3, z15_4, y15_0, y15_1, y15_2, y15_3, y15_4⟩ := zB5 BK213) | ((with_reducible refine gate_callee (f := 98) rfl ?_); refine goesL_ (some 6) rfl rfl Try.func98 (by kernel_rfl) rfl #[.int .i64 (wrap64 (a0_2)), .int .i64 0, .int .i64 5] rfl (by (try simp only [List.map_toArray, List.map_cons, List.map_nil]); first | done | rfl | (simp only [List.length_drop, List.length_take]; rfl)) ?_; (with_reducible refine (impl_in.calls (wrap64 (a0_2)) 0 5 true _ A2.out).mono ?_); rintro e w' ⟨rfl, ⟨nd, rfl⟩⟩; refine ⟨_, rfl, ?_⟩) | (go_at_call 98; (with_reducible refine (impl_in.calls (wrap64 (a0_3)) 0 3 false _ A4.out).mono ?_); rintro e w' ⟨rfl, ⟨nd, rfl⟩⟩))
  go_ret
  exact ⟨by first | rfl | (simp [errW_none, errW_some] <;> rfl) | (simp [*, errW_none, errW_some] <;> rfl), by repeat (first | (with_reducible first | exact HB.out | apply below_alloc | apply pw_below_drewN | apply below_drew1 | refine below_set ?_ GE213.out) | exact HB.out)⟩
 subst c5
 have H1 : ((impl_in.f (wrap64 (a0_4)) 1 9).bind fun t216 => (if t216 = true then ((impl_Cell_placed.f a0_0 a0_1).bind fun t217 => (some t217)) else (some false))) = some r := by rw [if_pos rfl] at H; exact H
 clear H
 have H := H1
 clear H1
 replace H := Option.bind_eq_some_iff.mp H
 obtain ⟨t216, A60, H⟩ := H
 replace H : (if t216 = true then ((impl_Cell_placed.f a0_0 a0_1).bind fun t217 => (some t217)) else (some false)) = some r := H
 have A6 := Aside0.mk A60
 clear A60
 by_cases c7 : t216 = true
 rotate_left
 ·replace c7 := Bool.eq_false_iff.mpr c7
  subst c7
  have H1 : (some false) = some r := by rw [if_neg (show ¬ (false = true) by decide)] at H; exact H
  clear H
  have H := H1
  clear H1
  obtain rfl := Option.some.inj H
  go_enter Try.func108, Try.ntmps108
  go_wp2_with (first | ((with_reducible refine gate_dst (N := 1) rfl ?_); refine box_event ?hg (N := 1) ?hd (cs := #[.int .i8 a0_0, .int .i8 a0_1, .int .i8 a0_2, .int .i8 a0_3, .int .i8 a0_4]) (t := 91) ?hr ?_; (case hd => rfl); (case hg => rfl); (case hr => first | (go_simp; done) | (go_simp; rfl)); intro gb213 hg w12 hbox hb; have n_ : _ ∧ _ ∧ _ ∧ _ := ⟨zb HB hb, Aside0.mk (hbox), zg HB hg, zg HB hg⟩; clear HB; obtain ⟨HB, BK213, GW213, GE213⟩ := n_; clear hb hbox hg; obtain ⟨z13_0, z13_1, z13_2, z13_3, z13_4, y13_0, y13_1, y13_2, y13_3, y13_4⟩ := zB5 BK213) | ((with_reducible refine gate_callee (f := 98) rfl ?_); refine goesL_ (some 6) rfl rfl Try.func98 (by kernel_rfl) rfl #[.int .i64 (wrap64 (a0_2)), .int .i64 0, .int .i64 5] rfl (by (try simp only [List.map_toArray, List.map_cons, List.map_nil]); first | done | rfl | (simp only [List.length_drop, List.length_take]; rfl)) ?_; (with_reducible refine (impl_in.calls (wrap64 (a0_2)) 0 5 true _ A2.out).mono ?_); rintro e w' ⟨rfl, ⟨nd, rfl⟩⟩; refine ⟨_, rfl, ?_⟩) | (go_at_call 98; (with_reducible refine (impl_in.calls (wrap64 (a0_3)) 0 3 true _ A4.out).mono ?_); rintro e w' ⟨rfl, ⟨nd, rfl⟩⟩) | (go_at_call 98; (with_reducible refine (impl_in.calls (wrap64 (a0_4)) 1 9 false _ A6.out).mono ?_); rintro e w' ⟨rfl, ⟨nd, rfl⟩⟩))
  go_ret
  exact ⟨by first | rfl | (simp [errW_none, errW_some] <;> rfl) | (simp [*, errW_none, errW_some] <;> rfl), by repeat (first | (with_reducible first | exact HB.out | apply below_alloc | apply pw_below_drewN | apply below_drew1 | refine below_set ?_ GE213.out) | exact HB.out)⟩
 subst c7
 have H1 : ((impl_Cell_placed.f a0_0 a0_1).bind fun t217 => (some t217)) = some r := by rw [if_pos rfl] at H; exact H
 clear H
 have H := H1
 clear H1
 replace H := Option.bind_eq_some_iff.mp H
 obtain ⟨t217, A80, H⟩ := H
 replace H : (some t217) = some r := H
 have A8 := Aside0.mk A80
 clear A80
 obtain rfl := Option.some.inj H
 go_enter Try.func108, Try.ntmps108
 go_wp2_with (first | ((with_reducible refine gate_dst (N := 1) rfl ?_); refine box_event ?hg (N := 1) ?hd (cs := #[.int .i8 a0_0, .int .i8 a0_1, .int .i8 a0_2, .int .i8 a0_3, .int .i8 a0_4]) (t := 91) ?hr ?_; (case hd => rfl); (case hg => rfl); (case hr => first | (go_simp; done) | (go_simp; rfl)); intro gb213 hg w9 hbox hb; have n_ : _ ∧ _ ∧ _ ∧ _ := ⟨zb HB hb, Aside0.mk (hbox), zg HB hg, zg HB hg⟩; clear HB; obtain ⟨HB, BK213, GW213, GE213⟩ := n_; clear hb hbox hg; obtain ⟨z10_0, z10_1, z10_2, z10_3, z10_4, y10_0, y10_1, y10_2, y10_3, y10_4⟩ := zB5 BK213) | ((with_reducible refine gate_callee (f := 98) rfl ?_); refine goesL_ (some 6) rfl rfl Try.func98 (by kernel_rfl) rfl #[.int .i64 (wrap64 (a0_2)), .int .i64 0, .int .i64 5] rfl (by (try simp only [List.map_toArray, List.map_cons, List.map_nil]); first | done | rfl | (simp only [List.length_drop, List.length_take]; rfl)) ?_; (with_reducible refine (impl_in.calls (wrap64 (a0_2)) 0 5 true _ A2.out).mono ?_); rintro e w' ⟨rfl, ⟨nd, rfl⟩⟩; refine ⟨_, rfl, ?_⟩) | (go_at_call 98; (with_reducible refine (impl_in.calls (wrap64 (a0_3)) 0 3 true _ A4.out).mono ?_); rintro e w' ⟨rfl, ⟨nd, rfl⟩⟩) | (go_at_call 98; (with_reducible refine (impl_in.calls (wrap64 (a0_4)) 1 9 true _ A6.out).mono ?_); rintro e w' ⟨rfl, ⟨nd, rfl⟩⟩) | (go_at_call 164; (with_reducible refine (impl_Cell_placed.calls a0_0 a0_1 t217 _ A8.out).mono ?_); rintro e w11 ⟨rfl, hb⟩; have n_ : _ ∧ _ := ⟨zk BK213 hb, zbs hb⟩; clear BK213 HB; obtain ⟨BK213, HB⟩ := n_; (try clear hb); (try clear hb2); (try clear hk); (try clear hi)))
 go_ret
 exact ⟨by first | rfl | (simp [errW_none, errW_some] <;> rfl) | (simp [*, errW_none, errW_some] <;> rfl), by repeat (first | (with_reducible first | exact HB.out | apply below_alloc | apply pw_below_drewN | apply below_drew1 | refine below_set ?_ GE213.out) | exact HB.out)⟩
/-! ### impl_Board_has: function 109 -/
def impl_Board_has.f (l0 : List (S37)) (a1_0 : Int) (a1_1 : Int) : Option (Bool) := if a1_0 ≥ 0 then (if 0 < (l0.length : Int) then (if a1_0 < ((rd_T37 l0 0).f0) then (if a1_1 ≥ 0 then (some (decide (a1_1 < ((rd_T37 l0 0).f1)))) else (some false)) else (some false)) else (none)) else (some false)
set_option maxHeartbeats 8000000 in
set_option maxRecDepth 100000 in
theorem impl_Board_has.calls (adp0 : Addr) (l0 : List (S37)) (a1_0 : Int) (a1_1 : Int) (r : Bool) (w : World) (hr0 : Kd.C k37 w (some adp0) l0.length l0) (h : impl_Board_has.f l0 a1_0 a1_1 = some r) :
    Calls Try.prog 109 #[.pointer (some adp0), .agg #[.int .i8 a1_0, .int .i8 a1_1]] w fun e w' => e = .returned (.bool r) ∧ Below w.heap.size w w' := by
 have hu74 := Try.underlying74
 have HR0 := Aside0.mk hr0
 clear hr0
 have HB := Aside0.mk (Below.refl w.heap.size w)
 have H : (if a1_0 ≥ 0 then (if 0 < (l0.length : Int) then (if a1_0 < ((rd_T37 l0 0).f0) then (if a1_1 ≥ 0 then (some (decide (a1_1 < ((rd_T37 l0 0).f1)))) else (some false)) else (some false)) else (none)) else (some false)) = some r := h
 clear h
 by_cases c3 : a1_0 ≥ 0
 rotate_left
 ·rw [if_neg c3] at H
  have c3b0 : decide (0 ≤ a1_0) = false := decide_eq_false c3
  clear c3
  obtain rfl := Option.some.inj H
  go_enter Try.func109, Try.ntmps109
  go_wp2_with (first | ((with_reducible refine gate_dst (N := 3) rfl ?_); refine box_event ?hg (N := 3) ?hd (cs := #[.int .i8 a1_0, .int .i8 a1_1]) (t := 74) ?hr ?_; (case hd => rfl); (case hg => rfl); (case hr => first | (go_simp; done) | (go_simp; rfl)); intro gb218 hg w13 hbox hb; have n_ : _ ∧ _ ∧ _ ∧ _ := ⟨zb HB hb, Aside0.mk (hbox), zg HB hg, zg HB hg⟩; clear HB; obtain ⟨HB, BK218, GW218, GE218⟩ := n_; clear hb hbox hg; obtain ⟨z14_0, z14_1, y14_0, y14_1⟩ := zB2 BK218) | go_quiet (fail))
  go_ret
  exact ⟨by first | rfl | (simp [errW_none, errW_some] <;> rfl) | (simp [*, errW_none, errW_some] <;> rfl), by repeat (first | (with_reducible first | exact HB.out | apply below_alloc | apply pw_below_drewN | apply below_drew1 | refine below_set ?_ GE218.out) | exact HB.out)⟩
 rw [if_pos c3] at H
 have c3b0 : decide (0 ≤ a1_0) = true := decide_eq_true c3
 clear c3
 by_cases c4 : 0 < (l0.length : Int)
 rotate_left
 ·rw [if_neg c4] at H
  exact absurd H (by simp)
 rw [if_pos c4] at H
 have c4b0 : decide (0 < (l0.length : Int)) = true := decide_eq_true c4
 have c4b1 : decide (0 < l0.length) = true := decide_eq_true (by omega)
 clear c4
 by_cases c5 : a1_0 < ((rd_T37 l0 0).f0)
 rotate_left
 ·rw [if_neg c5] at H
  have c5b0 : decide (a1_0 < ((rd_T37 l0 0).f0)) = false := decide_eq_false c5
  clear c5
  obtain rfl := Option.some.inj H
  go_enter Try.func109, Try.ntmps109
  go_wp2_with (first | ((with_reducible refine gate_dst (N := 3) rfl ?_); refine box_event ?hg (N := 3) ?hd (cs := #[.int .i8 a1_0, .int .i8 a1_1]) (t := 74) ?hr ?_; (case hd => rfl); (case hg => rfl); (case hr => first | (go_simp; done) | (go_simp; rfl)); intro gb218 hg w11 hbox hb; have n_ : _ ∧ _ ∧ _ ∧ _ := ⟨zb HB hb, Aside0.mk (hbox), zg HB hg, zg HB hg⟩; clear HB; obtain ⟨HB, BK218, GW218, GE218⟩ := n_; clear hb hbox hg; obtain ⟨z12_0, z12_1, y12_0, y12_1⟩ := zB2 BK218; have p219 : 0 ≤ (0 : Int) := (by omega); have q219 : 0 < (l0.length : Int) := of_decide_eq_true (by first | (with_reducible assumption) | assumption); obtain ⟨ad219, A219_2, c219_2, e219, hx219_0, hx219_1, hx219_2, hl219_2, hi219_2⟩ := at_T37 HR0.out 0 p219 q219; obtain rfl : adp0 = ad219 := (by injection e219); have qi219 : (0 < l0.length) = True := eq_true (by omega); (try rw [show ((0 : Int)).toNat = 0 from rfl] at hx219_0); (try rw [show 0 * 3 = 0 from rfl] at hx219_0); (try rw [Addr.add_zero'] at hx219_0); (try rw [show ((0 : Int)).toNat = 0 from rfl] at hx219_1); (try rw [show 0 * 3 = 0 from rfl] at hx219_1); (try rw [Addr.add_zero'] at hx219_1); (try rw [show ((0 : Int)).toNat = 0 from rfl] at hx219_2); (try rw [show 0 * 3 = 0 from rfl] at hx219_2); (try rw [Addr.add_zero'] at hx219_2); replace hx219_0 := zc HB hx219_0; replace hx219_1 := zc HB hx219_1; replace hx219_2 := zc HB hx219_2; have HR219_2 := Aside0.mk hi219_2; have HC219_2 := Aside0.mk hl219_2; clear hi219_2 hl219_2; replace p219 := eq_true p219; replace q219 := eq_true q219) | go_quiet (fail))
  go_ret
  exact ⟨by first | rfl | (simp [errW_none, errW_some] <;> rfl) | (simp [*, errW_none, errW_some] <;> rfl), by repeat (first | (with_reducible first | exact HB.out | apply below_alloc | apply pw_below_drewN | apply below_drew1 | refine below_set ?_ GE218.out) | exact HB.out)⟩
 rw [if_pos c5] at H
 have c5b0 : decide (a1_0 < ((rd_T37 l0 0).f0)) = true := decide_eq_true c5
 clear c5
 by_cases c6 : a1_1 ≥ 0
 rotate_left
 ·rw [if_neg c6] at H
  have c6b0 : decide (0 ≤ a1_1) = false := decide_eq_false c6
  clear c6
  obtain rfl := Option.some.inj H
  go_enter Try.func109, Try.ntmps109
  go_wp2_with (first | ((with_reducible refine gate_dst (N := 3) rfl ?_); refine box_event ?hg (N := 3) ?hd (cs := #[.int .i8 a1_0, .int .i8 a1_1]) (t := 74) ?hr ?_; (case hd => rfl); (case hg => rfl); (case hr => first | (go_simp; done) | (go_simp; rfl)); intro gb218 hg w9 hbox hb; have n_ : _ ∧ _ ∧ _ ∧ _ := ⟨zb HB hb, Aside0.mk (hbox), zg HB hg, zg HB hg⟩; clear HB; obtain ⟨HB, BK218, GW218, GE218⟩ := n_; clear hb hbox hg; obtain ⟨z10_0, z10_1, y10_0, y10_1⟩ := zB2 BK218; have p219 : 0 ≤ (0 : Int) := (by omega); have q219 : 0 < (l0.length : Int) := of_decide_eq_true (by first | (with_reducible assumption) | assumption); obtain ⟨ad219, A219_2, c219_2, e219, hx219_0, hx219_1, hx219_2, hl219_2, hi219_2⟩ := at_T37 HR0.out 0 p219 q219; obtain rfl : adp0 = ad219 := (by injection e219); have qi219 : (0 < l0.length) = True := eq_true (by omega); (try rw [show ((0 : Int)).toNat = 0 from rfl] at hx219_0); (try rw [show 0 * 3 = 0 from rfl] at hx219_0); (try rw [Addr.add_zero'] at hx219_0); (try rw [show ((0 : Int)).toNat = 0 from rfl] at hx219_1); (try rw [show 0 * 3 = 0 from rfl] at hx219_1); (try rw [Addr.add_zero'] at hx219_1); (try rw [show ((0 : Int)).toNat = 0 from rfl] at hx219_2); (try rw [show 0 * 3 = 0 from rfl] at hx219_2); (try rw [Addr.add_zero'] at hx219_2); replace hx219_0 := zc HB hx219_0; replace hx219_1 := zc HB hx219_1; replace hx219_2 := zc HB hx219_2; have HR219_2 := Aside0.mk hi219_2; have HC219_2 := Aside0.mk hl219_2; clear hi219_2 hl219_2; replace p219 := eq_true p219; replace q219 := eq_true q219) | go_quiet (fail))
  go_ret
  exact ⟨by first | rfl | (simp [errW_none, errW_some] <;> rfl) | (simp [*, errW_none, errW_some] <;> rfl), by repeat (first | (with_reducible first | exact HB.out | apply below_alloc | apply pw_below_drewN | apply below_drew1 | refine below_set ?_ GE218.out) | exact HB.out)⟩
 rw [if_pos c6] at H
 have c6b0 : decide (0 ≤ a1_1) = true := decide_eq_true c6
 clear c6
 obtain rfl := Option.some.inj H
 go_enter Try.func109, Try.ntmps109
 go_wp2_with (first | ((with_reducible refine gate_dst (N := 3) rfl ?_); refine box_event ?hg (N := 3) ?hd (cs := #[.int .i8 a1_0, .int .i8 a1_1]) (t := 74) ?hr ?_; (case hd => rfl); (case hg => rfl); (case hr => first | (go_simp; done) | (go_simp; rfl)); intro gb218 hg w7 hbox hb; have n_ : _ ∧ _ ∧ _ ∧ _ := ⟨zb HB hb, Aside0.mk (hbox), zg HB hg, zg HB hg⟩; clear HB; obtain ⟨HB, BK218, GW218, GE218⟩ := n_; clear hb hbox hg; obtain ⟨z8_0, z8_1, y8_0, y8_1⟩ := zB2 BK218; have p219 : 0 ≤ (0 : Int) := (by omega); have q219 : 0 < (l0.length : Int) := of_decide_eq_true (by first | (with_reducible assumption) | assumption); obtain ⟨ad219, A219_2, c219_2, e219, hx219_0, hx219_1, hx219_2, hl219_2, hi219_2⟩ := at_T37 HR0.out 0 p219 q219; obtain rfl : adp0 = ad219 := (by injection e219); have qi219 : (0 < l0.length) = True := eq_true (by omega); (try rw [show ((0 : Int)).toNat = 0 from rfl] at hx219_0); (try rw [show 0 * 3 = 0 from rfl] at hx219_0); (try rw [Addr.add_zero'] at hx219_0); (try rw [show ((0 : Int)).toNat = 0 from rfl] at hx219_1); (try rw [show 0 * 3 = 0 from rfl] at hx219_1); (try rw [Addr.add_zero'] at hx219_1); (try rw [show ((0 : Int)).toNat = 0 from rfl] at hx219_2); (try rw [show 0 * 3 = 0 from rfl] at hx219_2); (try rw [Addr.add_zero'] at hx219_2); replace hx219_0 := zc HB hx219_0; replace hx219_1 := zc HB hx219_1; replace hx219_2 := zc HB hx219_2; have HR219_2 := Aside0.mk hi219_2; have HC219_2 := Aside0.mk hl219_2; clear hi219_2 hl219_2; replace p219 := eq_true p219; replace q219 := eq_true q219; have p220 : 0 ≤ (0 : Int) := (by omega); have q220 : 0 < (l0.length : Int) := of_decide_eq_true (by first | (with_reducible assumption) | assumption); obtain ⟨ad220, A220_2, c220_2, e220, hx220_0, hx220_1, hx220_2, hl220_2, hi220_2⟩ := at_T37 HR0.out 0 p220 q220; obtain rfl : adp0 = ad220 := (by injection e220); have qi220 : (0 < l0.length) = True := eq_true (by omega); (try rw [show ((0 : Int)).toNat = 0 from rfl] at hx220_0); (try rw [show 0 * 3 = 0 from rfl] at hx220_0); (try rw [Addr.add_zero'] at hx220_0); (try rw [show ((0 : Int)).toNat = 0 from rfl] at hx220_1); (try rw [show 0 * 3 = 0 from rfl] at hx220_1); (try rw [Addr.add_zero'] at hx220_1); (try rw [show ((0 : Int)).toNat = 0 from rfl] at hx220_2); (try rw [show 0 * 3 = 0 from rfl] at hx220_2); (try rw [Addr.add_zero'] at hx220_2); replace hx220_0 := zc HB hx220_0; replace hx220_1 := zc HB hx220_1; replace hx220_2 := zc HB hx220_2; have HR220_2 := Aside0.mk hi220_2; have HC220_2 := Aside0.mk hl220_2; clear hi220_2 hl220_2; replace p220 := eq_true p220; replace q220 := eq_true q220; have ea_ := Option.some.inj (hx219_2.symm.trans hx220_2); injection ea_ with ea_ en_ ec_; subst ea_; subst ec_; clear en_) | go_quiet (fail))
 go_ret
 exact ⟨by first | rfl | (simp [errW_none, errW_some] <;> rfl) | (simp [*, errW_none, errW_some] <;> rfl), by repeat (first | (with_reducible first | exact HB.out | apply below_alloc | apply pw_below_drewN | apply below_drew1 | refine below_set ?_ GE218.out) | exact HB.out)⟩
end Go.Proofs.Ytffnfpnajkgnaaa.PFnExactTurnBoard
