-- WRITTEN by xprint.py, a program of this session's. Not trusted: Lean checks it.
import Derived.Test.YtffnfpnajkgnaaaPFnExactPieceAtx0
import Derived.Test.YtffnfpnajkgnaaaPFnExactPieceAtx2
import Derived.Test.YtffnfpnajkgnaaaPFnExactPieceAtx3
import Derived.Test.YtffnfpnajkgnaaaPFnExactPieceAtx6
import Derived.Test.YtffnfpnajkgnaaaPFnExactPieceAtx7
namespace Go.Proofs.Ytffnfpnajkgnaaa.PFnExactPieceAt
open Go.RowKit Go.Proofs.YtffnfpnajkgnaaaW.PrintWords Go.Proofs.YtffnfpnajkgnaaaW.PrintLast Go.Proofs.YtffnfpnajkgnaaaW.PrintMore Go.Proofs.YtffnfpnajkgnaaaX
attribute [local go_sem] max2_int min2_int max_two min_two max_three min_three max_four min_four   -- for this text's walks alone
set_option linter.unusedVariables false
set_option linter.unusedSimpArgs false

/-! ### laws_FnExactPieceAt: function 9 -/
mutual
def laws_FnExactPieceAt.j0 : Nat → Int → Int → List (S88) → Int → Int → Option (Bool)
  | 0, _, _, _, _, _ => none
  | k + 1, x195000, x195001, x195002, x196000, x196001 => (laws_toBoard.f k x195000 x195001 x195002).bind fun bt197 => ((laws_toCell.f k x196000 x196001).bind fun bt202 => ((spec_PieceAt.f k bt197.1 bt197.2.1 bt197.2.2 bt202.1 bt202.2).bind fun bt204 => ((laws_toBoard.f k x195000 x195001 x195002).bind fun bt206 => ((laws_toCell.f k x196000 x196001).bind fun bt212 => ((impl_PieceAt.f k bt206.1 bt206.2.1 bt206.2.2 bt212.1 bt212.2).bind fun bt214 => (if bt214.1 = bt204.1 then (laws_FnExactPieceAt.j1 k (bt214.2 != bt204.2) x195000 x195001 x195002 bt206.1 bt206.2.1 bt206.2.2) else (laws_FnExactPieceAt.j1 k true x195000 x195001 x195002 bt206.1 bt206.2.1 bt206.2.2)))))))
def laws_FnExactPieceAt.j1 : Nat → Bool → Int → Int → List (S88) → Int → Int → List (S91) → Option (Bool)
  | 0, _, _, _, _, _, _, _ => none
  | k + 1, x40, x195000, x195001, x195002, x212000, x212001, x212002 => if x40 = true then (some false) else (laws_FnExactPieceAt.j2 k x195000 x195001 x195002 x212000 x212001 x212002)
def laws_FnExactPieceAt.j2 : Nat → Int → Int → List (S88) → Int → Int → List (S91) → Option (Bool)
  | 0, _, _, _, _, _, _ => none
  | k + 1, x195000, x195001, x195002, x212000, x212001, x212002 => (laws_toBoard.f k x195000 x195001 x195002).bind fun bt216 => ((laws_eqBoard.f k x212000 x212001 x212002 bt216.1 bt216.2.1 bt216.2.2).bind fun t221 => (if t221 = true then (some true) else (some false)))
end
def laws_FnExactPieceAt.f (k : Nat) (a0_0 : Int) (a0_1 : Int) (l0_2 : List (S88)) (a1_0 : Int) (a1_1 : Int) : Option (Bool) := (laws_szBoard.f a0_0 a0_1 l0_2 1048576).bind fun t196 => (if t196 < 0 then (some true) else (laws_FnExactPieceAt.j0 k a0_0 a0_1 l0_2 a1_0 a1_1))
theorem laws_FnExactPieceAt.mono_l : ∀ k, (∀ y0 y1 y2 y3 y4, LeO (laws_FnExactPieceAt.j0 k y0 y1 y2 y3 y4) (laws_FnExactPieceAt.j0 (k + 1) y0 y1 y2 y3 y4)) ∧ (∀ y0 y1 y2 y3 y4 y5 y6, LeO (laws_FnExactPieceAt.j1 k y0 y1 y2 y3 y4 y5 y6) (laws_FnExactPieceAt.j1 (k + 1) y0 y1 y2 y3 y4 y5 y6)) ∧ (∀ y0 y1 y2 y3 y4 y5, LeO (laws_FnExactPieceAt.j2 k y0 y1 y2 y3 y4 y5) (laws_FnExactPieceAt.j2 (k + 1) y0 y1 y2 y3 y4 y5))
  | 0 => ⟨fun _ _ _ _ _ r h => by simp [laws_FnExactPieceAt.j0] at h, fun _ _ _ _ _ _ _ r h => by simp [laws_FnExactPieceAt.j1] at h, fun _ _ _ _ _ _ r h => by simp [laws_FnExactPieceAt.j2] at h⟩
  | k + 1 => by
    obtain ⟨ih0, ih1, ih2⟩ := laws_FnExactPieceAt.mono_l k
    refine ⟨?_, ?_, ?_⟩
    · intro y0 y1 y2 y3 y4
      unfold laws_FnExactPieceAt.j0
      repeat' first
      | (with_reducible exact ih0 _ _ _ _ _)
      | (with_reducible exact ih1 _ _ _ _ _ _ _)
      | (with_reducible exact ih2 _ _ _ _ _ _)
      | (with_reducible exact impl_PieceAt.mono _ _ _ _ _ _)
      | (with_reducible exact laws_eqBoard.mono _ _ _ _ _ _ _)
      | (with_reducible exact laws_toBoard.mono _ _ _ _)
      | (with_reducible exact laws_toCell.mono _ _ _)
      | (with_reducible exact spec_PieceAt.mono _ _ _ _ _ _)
      | (with_reducible exact LeO.refl _)
      | (with_reducible exact LeO.none _)
      | (with_reducible refine LeO.ite ?_ ?_)
      | (with_reducible refine LeO.bind ?_ (fun _ => ?_))
      | exact ih0 _ _ _ _ _
      | exact ih1 _ _ _ _ _ _ _
      | exact ih2 _ _ _ _ _ _
      | exact impl_PieceAt.mono _ _ _ _ _ _
      | exact laws_eqBoard.mono _ _ _ _ _ _ _
      | exact laws_toBoard.mono _ _ _ _
      | exact laws_toCell.mono _ _ _
      | exact spec_PieceAt.mono _ _ _ _ _ _
      | exact LeO.none _
      | refine LeO.ite ?_ ?_
      | refine LeO.bind ?_ (fun _ => ?_)
    · intro y0 y1 y2 y3 y4 y5 y6
      unfold laws_FnExactPieceAt.j1
      repeat' first
      | (with_reducible exact ih0 _ _ _ _ _)
      | (with_reducible exact ih1 _ _ _ _ _ _ _)
      | (with_reducible exact ih2 _ _ _ _ _ _)
      | (with_reducible exact impl_PieceAt.mono _ _ _ _ _ _)
      | (with_reducible exact laws_eqBoard.mono _ _ _ _ _ _ _)
      | (with_reducible exact laws_toBoard.mono _ _ _ _)
      | (with_reducible exact laws_toCell.mono _ _ _)
      | (with_reducible exact spec_PieceAt.mono _ _ _ _ _ _)
      | (with_reducible exact LeO.refl _)
      | (with_reducible exact LeO.none _)
      | (with_reducible refine LeO.ite ?_ ?_)
      | (with_reducible refine LeO.bind ?_ (fun _ => ?_))
      | exact ih0 _ _ _ _ _
      | exact ih1 _ _ _ _ _ _ _
      | exact ih2 _ _ _ _ _ _
      | exact impl_PieceAt.mono _ _ _ _ _ _
      | exact laws_eqBoard.mono _ _ _ _ _ _ _
      | exact laws_toBoard.mono _ _ _ _
      | exact laws_toCell.mono _ _ _
      | exact spec_PieceAt.mono _ _ _ _ _ _
      | exact LeO.none _
      | refine LeO.ite ?_ ?_
      | refine LeO.bind ?_ (fun _ => ?_)
    · intro y0 y1 y2 y3 y4 y5
      unfold laws_FnExactPieceAt.j2
      repeat' first
      | (with_reducible exact ih0 _ _ _ _ _)
      | (with_reducible exact ih1 _ _ _ _ _ _ _)
      | (with_reducible exact ih2 _ _ _ _ _ _)
      | (with_reducible exact impl_PieceAt.mono _ _ _ _ _ _)
      | (with_reducible exact laws_eqBoard.mono _ _ _ _ _ _ _)
      | (with_reducible exact laws_toBoard.mono _ _ _ _)
      | (with_reducible exact laws_toCell.mono _ _ _)
      | (with_reducible exact spec_PieceAt.mono _ _ _ _ _ _)
      | (with_reducible exact LeO.refl _)
      | (with_reducible exact LeO.none _)
      | (with_reducible refine LeO.ite ?_ ?_)
      | (with_reducible refine LeO.bind ?_ (fun _ => ?_))
      | exact ih0 _ _ _ _ _
      | exact ih1 _ _ _ _ _ _ _
      | exact ih2 _ _ _ _ _ _
      | exact impl_PieceAt.mono _ _ _ _ _ _
      | exact laws_eqBoard.mono _ _ _ _ _ _ _
      | exact laws_toBoard.mono _ _ _ _
      | exact laws_toCell.mono _ _ _
      | exact spec_PieceAt.mono _ _ _ _ _ _
      | exact LeO.none _
      | refine LeO.ite ?_ ?_
      | refine LeO.bind ?_ (fun _ => ?_)
theorem laws_FnExactPieceAt.mono : ∀ a0 a1 a2 a3 a4 k, LeO (laws_FnExactPieceAt.f k a0 a1 a2 a3 a4) (laws_FnExactPieceAt.f (k + 1) a0 a1 a2 a3 a4) := by
  intro a0 a1 a2 a3 a4 k
  obtain ⟨ih0, ih1, ih2⟩ := laws_FnExactPieceAt.mono_l k
  unfold laws_FnExactPieceAt.f
  repeat' first
      | (with_reducible exact ih0 _ _ _ _ _)
      | (with_reducible exact ih1 _ _ _ _ _ _ _)
      | (with_reducible exact ih2 _ _ _ _ _ _)
      | (with_reducible exact impl_PieceAt.mono _ _ _ _ _ _)
      | (with_reducible exact laws_eqBoard.mono _ _ _ _ _ _ _)
      | (with_reducible exact laws_toBoard.mono _ _ _ _)
      | (with_reducible exact laws_toCell.mono _ _ _)
      | (with_reducible exact spec_PieceAt.mono _ _ _ _ _ _)
      | (with_reducible exact LeO.refl _)
      | (with_reducible exact LeO.none _)
      | (with_reducible refine LeO.ite ?_ ?_)
      | (with_reducible refine LeO.bind ?_ (fun _ => ?_))
      | exact ih0 _ _ _ _ _
      | exact ih1 _ _ _ _ _ _ _
      | exact ih2 _ _ _ _ _ _
      | exact impl_PieceAt.mono _ _ _ _ _ _
      | exact laws_eqBoard.mono _ _ _ _ _ _ _
      | exact laws_toBoard.mono _ _ _ _
      | exact laws_toCell.mono _ _ _
      | exact spec_PieceAt.mono _ _ _ _ _ _
      | exact LeO.none _
      | refine LeO.ite ?_ ?_
      | refine LeO.bind ?_ (fun _ => ?_)
def laws_FnExactPieceAt.T5 : Bool × List (List Nat × List Nat) := (true, [([], []), ([0], [0]), ([], []), ([2, 1], [2]), ([1, 3, 3], [1, 3]), ([4], [4]), ([5], [5]), ([5], [5]), ([6, 4, 0, 1, 2, 3, 4, 5, 6], [6]), ([7, 8, 0, 1, 2, 3, 4, 5, 6, 7, 8], [7])])
def laws_FnExactPieceAt.B5 : List Nat := [0, 1, 0, 7, 15, 31, 63, 63, 127, 511]
theorem laws_FnExactPieceAt.tab5 : rtab .any (opsOf Try.f9 5) = laws_FnExactPieceAt.T5 := by kernel_rfl
theorem laws_FnExactPieceAt.bits5 : waitsOk laws_FnExactPieceAt.T5.2 laws_FnExactPieceAt.B5 = true := by kernel_rfl
def laws_FnExactPieceAt.T7 : Bool × List (List Nat × List Nat) := (true, [([], []), ([], []), ([1], [1]), ([0, 2, 2], [0, 2]), ([3], [3]), ([4], [4]), ([4], [4]), ([5, 3, 0, 1, 2, 3, 4, 5], [5]), ([6, 7, 0, 1, 2, 3, 4, 5, 6, 7], [6])])
def laws_FnExactPieceAt.B7 : List Nat := [0, 0, 2, 7, 15, 31, 31, 63, 255]
theorem laws_FnExactPieceAt.tab7 : rtab .any (opsOf Try.f9 7) = laws_FnExactPieceAt.T7 := by kernel_rfl
theorem laws_FnExactPieceAt.bits7 : waitsOk laws_FnExactPieceAt.T7.2 laws_FnExactPieceAt.B7 = true := by kernel_rfl
set_option maxHeartbeats 8000000 in
set_option maxRecDepth 100000 in
theorem laws_FnExactPieceAt.calls (k : Nat) (a0_0 : Int) (a0_1 : Int) (A0_2 : Option Addr) (c0_2 : Nat) (l0_2 : List (S88)) (a1_0 : Int) (a1_1 : Int) (r : Bool) (w : World) (hr0_2 : Kd.C k88 w A0_2 l0_2.length l0_2) (hc0_2 : l0_2.length ≤ c0_2) (h : laws_FnExactPieceAt.f k a0_0 a0_1 l0_2 a1_0 a1_1 = some r) :
    Calls Try.prog 9 #[.agg #[.int .i8 a0_0, .int .i8 a0_1, .slice A0_2 l0_2.length c0_2], .agg #[.int .i8 a1_0, .int .i8 a1_1]] w fun e w' => e = .returned (.bool r) ∧ Below w.heap.size w w' := by
  have hu25 := Try.underlying25
  have hu71 := Try.underlying71
  have hu37 := Try.underlying37
  have HR0_2 := Aside0.mk hr0_2
  have HC0_2 := Aside0.mk hc0_2
  clear hr0_2 hc0_2
  have HB := Aside0.mk (Below.refl w.heap.size w)
  have H : ((laws_szBoard.f a0_0 a0_1 l0_2 1048576).bind fun t196 => (if t196 < 0 then (some true) else (laws_FnExactPieceAt.j0 k a0_0 a0_1 l0_2 a1_0 a1_1))) = some r := h
  clear h
  replace H := Option.bind_eq_some_iff.mp H
  obtain ⟨t196, A30, H⟩ := H
  replace H : (if t196 < 0 then (some true) else (laws_FnExactPieceAt.j0 k a0_0 a0_1 l0_2 a1_0 a1_1)) = some r := H
  have A3 := Aside0.mk A30
  clear A30
  have HC4 := Aside0.mk H
  clear H
  go_enter Try.func9, Try.ntmps9
  go_upto_if 15 with (first | ((with_reducible refine gate_dst (N := 2) rfl ?_); refine box_event ?hg (N := 2) ?hd (cs := #[.int .i8 a0_0, .int .i8 a0_1, .slice A0_2 l0_2.length c0_2]) (t := 25) ?hr ?_; (case hd => rfl); (case hg => rfl); (case hr => first | (go_simp; done) | (go_simp; rfl)); intro gb194 hg w5 hbox hb; have n0_ := Aside0.mk (below_step (by repeat (first | (with_reducible first | exact HB.out | apply below_alloc | apply pw_below_drewN | apply below_drew1) | exact HB.out)) hb); have n1_ := Aside0.mk (hbox); have n2_ := Aside0.mk ((by rw [hg]; exact (below_size (by repeat (first | (with_reducible first | exact HB.out | apply below_alloc | apply pw_below_drewN | apply below_drew1) | exact HB.out))) : w.heap.size ≤ gb194)); have n3_ := Aside0.mk ((by rw [hg]; exact (below_size (by repeat (first | (with_reducible first | exact HB.out | apply below_alloc | apply pw_below_drewN | apply below_drew1) | exact HB.out))) : w.heap.size ≤ gb194)); clear HB; have HB := n0_; have BK194 := n1_; have GW194 := n2_; have GE194 := n3_; clear n0_ n1_ n2_ n3_; clear hb hbox hg) | ((with_reducible refine gate_dst (N := 3) rfl ?_); refine box_event ?hg (N := 3) ?hd (cs := #[.int .i8 a1_0, .int .i8 a1_1]) (t := 71) ?hr ?_; (case hd => rfl); (case hg => rfl); (case hr => first | (go_simp; done) | (go_simp; rfl)); intro gb195 hg w6 hbox hb; have n0_ := Aside0.mk (blk_below (g := gb194) (o := .cells #[.int .i8 a0_0, .int .i8 a0_1, .slice A0_2 l0_2.length c0_2] 25 (0, 0)) (by (with_reducible repeat (first | refine blk_drewN ?_ _ | refine blk_drew ?_ | refine blk_alloc ?_ _)); exact BK194.out) hb); have n1_ := Aside0.mk (below_step (by repeat (first | (with_reducible first | exact HB.out | apply below_alloc | apply pw_below_drewN | apply below_drew1 | refine below_set ?_ GE194.out) | exact HB.out)) hb); have n2_ := Aside0.mk (hbox); have n3_ := Aside0.mk ((by rw [hg]; exact (below_size (by repeat (first | (with_reducible first | exact HB.out | apply below_alloc | apply pw_below_drewN | apply below_drew1 | refine below_set ?_ GE194.out) | exact HB.out))) : w.heap.size ≤ gb195)); have n4_ := Aside0.mk ((by rw [hg]; exact (below_size (by repeat (first | (with_reducible first | exact HB.out | apply below_alloc | apply pw_below_drewN | apply below_drew1 | refine below_set ?_ GE194.out) | exact HB.out))) : w.heap.size ≤ gb195)); have n5_ := Aside0.mk ((by rw [hg]; exact Nat.ne_of_lt (blk_lt (g := gb194) (o := .cells #[.int .i8 a0_0, .int .i8 a0_1, .slice A0_2 l0_2.length c0_2] 25 (0, 0)) (by (with_reducible repeat (first | refine blk_drewN ?_ _ | refine blk_drew ?_ | refine blk_alloc ?_ _)); exact BK194.out)) : gb194 ≠ gb195)); have n6_ := Aside0.mk ((by rw [hg]; exact Nat.ne_of_gt (blk_lt (g := gb194) (o := .cells #[.int .i8 a0_0, .int .i8 a0_1, .slice A0_2 l0_2.length c0_2] 25 (0, 0)) (by (with_reducible repeat (first | refine blk_drewN ?_ _ | refine blk_drew ?_ | refine blk_alloc ?_ _)); exact BK194.out)) : gb195 ≠ gb194)); clear BK194; clear HB; have BK194 := n0_; have HB := n1_; have BK195 := n2_; have GW195 := n3_; have GE195 := n4_; have NB194_195 := n5_; have NB195_194 := n6_; clear n0_ n1_ n2_ n3_ n4_ n5_ n6_; clear hb hbox hg; have hnb7 := NB194_195.out; have hnc7 := NB195_194.out; have hcz8_0 : w6.cell? ⟨gb194, 0, none⟩ = some (.int .i8 a0_0) := (blk_cell BK194.out 0).trans rfl; have hcz8_1 : w6.cell? ⟨gb194, 1, none⟩ = some (.int .i8 a0_1) := (blk_cell BK194.out 1).trans rfl; have hcz8_2 : w6.cell? ⟨gb194, 2, none⟩ = some (.slice A0_2 l0_2.length c0_2) := (blk_cell BK194.out 2).trans rfl; have hfz8_0 := blk_frozen BK194.out 0; have hfz8_1 := blk_frozen BK194.out 1; have hfz8_2 := blk_frozen BK194.out 2) | ((with_reducible refine gate_callee (f := 40) rfl ?_); refine goesL_ (some 13) rfl rfl Try.func40 (by kernel_rfl) rfl #[.agg #[.int .i8 a0_0, .int .i8 a0_1, .slice A0_2 l0_2.length c0_2], .int .i64 1048576] rfl (by (try simp only [List.map_toArray, List.map_cons, List.map_nil]); first | done | rfl | (simp only [List.length_drop, List.length_take]; rfl)) ?_; (with_reducible refine (laws_szBoard.calls a0_0 a0_1 _ _ l0_2 1048576 t196 _ ?side1 ?side2 A3.out).mono ?_); (case side1 => repeat (first | exact (Kd.C_below HR0_2.out HB.out) | (with_reducible refine Kd.C_alloc ?_ _) | (with_reducible refine Kd.C_drewN ?_ _) | (with_reducible refine Kd.C_drew ?_))); (case side2 => exact HC0_2.out); rintro e w9 ⟨rfl, hb⟩; refine ⟨_, rfl, ?_⟩; have n0_ := Aside0.mk (blk_below (g := gb194) (o := .cells #[.int .i8 a0_0, .int .i8 a0_1, .slice A0_2 l0_2.length c0_2] 25 (0, 0)) (by (with_reducible repeat (first | refine blk_drewN ?_ _ | refine blk_drew ?_ | refine blk_alloc ?_ _)); exact BK194.out) hb); have n1_ := Aside0.mk (blk_below (g := gb195) (o := .cells #[.int .i8 a1_0, .int .i8 a1_1] 71 (0, 0)) (by (with_reducible repeat (first | refine blk_drewN ?_ _ | refine blk_drew ?_ | refine blk_alloc ?_ _)); exact BK195.out) hb); have n2_ := Aside0.mk (below_step (by repeat (first | (with_reducible first | exact HB.out | apply below_alloc | apply pw_below_drewN | apply below_drew1 | refine below_set ?_ GE194.out | refine below_set ?_ GE195.out) | exact HB.out)) hb); clear BK194; clear BK195; clear HB; have BK194 := n0_; have BK195 := n1_; have HB := n2_; clear n0_ n1_ n2_; (try clear hb); (try clear hb2); (try clear hk); (try clear hi)))
  (try simp only [Act.put, List.setIfInBounds_toArray, List.set_cons_zero, List.set_cons_succ])
  go_cut [] (fun wc => ∃ (kq : Nat), Aside0 (laws_FnExactPieceAt.j0 kq a0_0 a0_1 l0_2 a1_0 a1_1 = some r) ∧ Aside0 (kq ≤ k) ∧ Aside0 (wc.heap[gb194]? = some (.cells #[.int .i8 a0_0, .int .i8 a0_1, (.slice A0_2 l0_2.length c0_2)] 25 (0, 0))) ∧ Aside0 (wc.heap[gb195]? = some (.cells #[.int .i8 a1_0, .int .i8 a1_1] 71 (0, 0))) ∧ Aside0 (Below w.heap.size w wc))
  case first =>
    have H := HC4.out
    clear HC4
    by_cases c10 : t196 < 0
    · rw [if_pos c10] at H
      have c10b0 : decide (t196 < 0) = true := decide_eq_true c10
      clear c10
      (first | rw [c10b0] | (simp only [i64_w, i32_w]; rw [c10b0]) | (have h_ := c10b0; simp only [bne] at h_; rw [h_]) | skip)
      obtain rfl := Option.some.inj H
      go_wp2
      go_ret
      exact ⟨by first | rfl | (simp [errW_none, errW_some] <;> rfl) | (simp [*, errW_none, errW_some] <;> rfl), by repeat (first | (with_reducible first | exact HB.out | apply below_alloc | apply pw_below_drewN | apply below_drew1 | refine below_set ?_ GE194.out | refine below_set ?_ GE195.out) | exact HB.out)⟩
    · rw [if_neg c10] at H
      have c10b0 : decide (t196 < 0) = false := decide_eq_false c10
      clear c10
      (first | rw [c10b0] | (simp only [i64_w, i32_w]; rw [c10b0]) | (have h_ := c10b0; simp only [bne] at h_; rw [h_]) | skip)
      have H' := Aside0.mk H
      clear H
      go_wp2
      go_meet
      case rel => exact ⟨_, H', ⟨by first | omega | exact Nat.le_refl _⟩, ⟨by (with_reducible repeat (first | refine blk_drewN ?_ _ | refine blk_drew ?_ | refine blk_alloc ?_ _)); exact BK194.out⟩, ⟨by (with_reducible repeat (first | refine blk_drewN ?_ _ | refine blk_drew ?_ | refine blk_alloc ?_ _)); exact BK195.out⟩, ⟨by repeat (first | (with_reducible first | exact HB.out | apply below_alloc | apply pw_below_drewN | apply below_drew1 | refine below_set ?_ GE194.out | refine below_set ?_ GE195.out) | exact HB.out)⟩⟩
  case rest =>
    clear HC4
    try clear c1
    try clear p2
    try clear c4
    try clear c7
    try clear c9
    try clear c10
    try clear c10b0
    try clear hcz8_0
    try clear hcz8_1
    try clear hcz8_2
    try clear hfz8_0
    try clear hfz8_1
    try clear hfz8_2
    obtain ⟨kq, HA, HJ3, BK194, BK195, HB⟩ := hcut
    cases kq with
    | zero => exact absurd HA.out (by simp [laws_FnExactPieceAt.j0])
    | succ kj3 =>
      have H := HA.out
      clear HA
      simp only [laws_FnExactPieceAt.j0] at H
      replace H := Option.bind_eq_some_iff.mp H
      obtain ⟨⟨t197, t198, t199⟩, A110, H⟩ := H
      replace H : ((laws_toCell.f kj3 a1_0 a1_1).bind fun bt202 => ((spec_PieceAt.f kj3 t197 t198 t199 bt202.1 bt202.2).bind fun bt204 => ((laws_toBoard.f kj3 a0_0 a0_1 l0_2).bind fun bt206 => ((laws_toCell.f kj3 a1_0 a1_1).bind fun bt212 => ((impl_PieceAt.f kj3 bt206.1 bt206.2.1 bt206.2.2 bt212.1 bt212.2).bind fun bt214 => (if bt214.1 = bt204.1 then (laws_FnExactPieceAt.j1 kj3 (bt214.2 != bt204.2) a0_0 a0_1 l0_2 bt206.1 bt206.2.1 bt206.2.2) else (laws_FnExactPieceAt.j1 kj3 true a0_0 a0_1 l0_2 bt206.1 bt206.2.1 bt206.2.2))))))) = some r := H
      have A11 := Aside0.mk A110
      clear A110
      replace H := Option.bind_eq_some_iff.mp H
      obtain ⟨⟨t202, t203⟩, A120, H⟩ := H
      replace H : ((spec_PieceAt.f kj3 t197 t198 t199 t202 t203).bind fun bt204 => ((laws_toBoard.f kj3 a0_0 a0_1 l0_2).bind fun bt206 => ((laws_toCell.f kj3 a1_0 a1_1).bind fun bt212 => ((impl_PieceAt.f kj3 bt206.1 bt206.2.1 bt206.2.2 bt212.1 bt212.2).bind fun bt214 => (if bt214.1 = bt204.1 then (laws_FnExactPieceAt.j1 kj3 (bt214.2 != bt204.2) a0_0 a0_1 l0_2 bt206.1 bt206.2.1 bt206.2.2) else (laws_FnExactPieceAt.j1 kj3 true a0_0 a0_1 l0_2 bt206.1 bt206.2.1 bt206.2.2)))))) = some r := H
      have A12 := Aside0.mk A120
      clear A120
      replace H := Option.bind_eq_some_iff.mp H
      obtain ⟨⟨t204, t205⟩, A130, H⟩ := H
      replace H : ((laws_toBoard.f kj3 a0_0 a0_1 l0_2).bind fun bt206 => ((laws_toCell.f kj3 a1_0 a1_1).bind fun bt212 => ((impl_PieceAt.f kj3 bt206.1 bt206.2.1 bt206.2.2 bt212.1 bt212.2).bind fun bt214 => (if bt214.1 = t204 then (laws_FnExactPieceAt.j1 kj3 (bt214.2 != t205) a0_0 a0_1 l0_2 bt206.1 bt206.2.1 bt206.2.2) else (laws_FnExactPieceAt.j1 kj3 true a0_0 a0_1 l0_2 bt206.1 bt206.2.1 bt206.2.2))))) = some r := H
      have A13 := Aside0.mk A130
      clear A130
      replace H := Option.bind_eq_some_iff.mp H
      obtain ⟨⟨t206, t207, t208⟩, A140, H⟩ := H
      replace H : ((laws_toCell.f kj3 a1_0 a1_1).bind fun bt212 => ((impl_PieceAt.f kj3 t206 t207 t208 bt212.1 bt212.2).bind fun bt214 => (if bt214.1 = t204 then (laws_FnExactPieceAt.j1 kj3 (bt214.2 != t205) a0_0 a0_1 l0_2 t206 t207 t208) else (laws_FnExactPieceAt.j1 kj3 true a0_0 a0_1 l0_2 t206 t207 t208)))) = some r := H
      have A14 := Aside0.mk A140
      clear A140
      replace H := Option.bind_eq_some_iff.mp H
      obtain ⟨⟨t212, t213⟩, A150, H⟩ := H
      replace H : ((impl_PieceAt.f kj3 t206 t207 t208 t212 t213).bind fun bt214 => (if bt214.1 = t204 then (laws_FnExactPieceAt.j1 kj3 (bt214.2 != t205) a0_0 a0_1 l0_2 t206 t207 t208) else (laws_FnExactPieceAt.j1 kj3 true a0_0 a0_1 l0_2 t206 t207 t208))) = some r := H
      have A15 := Aside0.mk A150
      clear A150
      replace H := Option.bind_eq_some_iff.mp H
      obtain ⟨⟨t214, t215⟩, A160, H⟩ := H
      replace H : (if t214 = t204 then (laws_FnExactPieceAt.j1 kj3 (t215 != t205) a0_0 a0_1 l0_2 t206 t207 t208) else (laws_FnExactPieceAt.j1 kj3 true a0_0 a0_1 l0_2 t206 t207 t208)) = some r := H
      have A16 := Aside0.mk A160
      clear A160
      have HC17 := Aside0.mk H
      clear H
      try go_wp2
      have n0_ := Aside0.mk (blk_drew BK194.out)
      have n1_ := Aside0.mk (blk_drew BK195.out)
      have n2_ := Aside0.mk (below_drew1 HB.out)
      clear BK194
      clear BK195
      clear HB
      have BK194 := n0_
      have BK195 := n1_
      have HB := n2_
      clear n0_ n1_ n2_
      refine start_ (n := 10) (S := fun w' => w'.cell? ⟨gb194, 0, none⟩ = some (.int .i8 a0_0) ∧ w'.cell? ⟨gb194, 1, none⟩ = some (.int .i8 a0_1) ∧ w'.cell? ⟨gb194, 2, none⟩ = some (.slice A0_2 l0_2.length c0_2) ∧ w'.cell? ⟨gb195, 0, none⟩ = some (.int .i8 a1_0) ∧ w'.cell? ⟨gb195, 1, none⟩ = some (.int .i8 a1_1)) (ds := []) #[false, false, false, false, false, false, false, false, false, false] (by kernel_rfl) rfl rfl ⟨(blk_cell BK194.out 0).trans rfl, (blk_cell BK194.out 1).trans rfl, (blk_cell BK194.out 2).trans rfl, (blk_cell BK195.out 0).trans rfl, (blk_cell BK195.out 1).trans rfl⟩ (fun hHeld => ?_); refine with_tabW laws_FnExactPieceAt.tab5 laws_FnExactPieceAt.bits5 (fun HT_ HW_ => ?_)
      generalize wc.drew = w18 at BK194 BK195 HB hHeld ⊢
      refine take_ (i := 0) (N := some 17) (v := ?_) (a' := ?_) #[true, false, false, false, false, false, false, false, false, false] rfl rfl (take_ofW HT_.out HW_.out (by kernel_rfl)) (fun _ _ _ h => h) (Or.inl ⟨by rfl, ?_⟩) hHeld ?_ ?_
      rotate_left
      · rintro w' ⟨s0, s1, s2, s3, s4⟩
        go_simp
        with_reducible rfl
      rotate_left
      · simp only [Act.put, List.setIfInBounds_toArray, List.set_cons_zero, List.set_cons_succ, i64_w, i32_w]
        rfl
      refine take_ (i := 2) (N := some 19) (v := ?_) (a' := ?_) #[true, false, true, false, false, false, false, false, false, false] rfl rfl (take_ofW HT_.out HW_.out (by kernel_rfl)) (fun _ _ _ h => h) (Or.inl ⟨by rfl, ?_⟩) hHeld ?_ ?_
      rotate_left
      · rintro w' ⟨s0, s1, s2, s3, s4⟩
        go_simp
        with_reducible rfl
      rotate_left
      · simp only [Act.put, List.setIfInBounds_toArray, List.set_cons_zero, List.set_cons_succ, i64_w, i32_w]
        rfl
      refine one_ (i := 1) (N := some 18) #[true, true, true, false, false, false, false, false, false, false] rfl rfl (one_of HT_.out (by kernel_rfl)) (by decide) (fun K hK => ?_)
      refine goes_ Try.func42 (by kernel_rfl) rfl #[.agg #[.int .i8 a0_0, .int .i8 a0_1, .slice A0_2 l0_2.length c0_2]] (by rfl) rfl rfl (by (try simp only [List.map_toArray, List.map_cons, List.map_nil]); first | done | rfl | (simp only [List.length_drop, List.length_take]; rfl)) ?_
      with_reducible refine (laws_toBoard.calls kj3 a0_0 a0_1 _ _ l0_2 t197 t198 t199 _ ?side1 ?side2 A11.out).mono ?_
      (case side1 => repeat (first | exact (Kd.C_below HR0_2.out HB.out) | (with_reducible refine Kd.C_alloc ?_ _) | (with_reducible refine Kd.C_drewN ?_ _) | (with_reducible refine Kd.C_drew ?_)))
      (case side2 => exact HC0_2.out)
      rintro e w19 ⟨v200, rfl, ho0, hb⟩
      refine ⟨_, rfl, ?_⟩
      have n0_ := Aside0.mk (Kd.R_lower ho0 (below_size (by repeat (first | (with_reducible first | exact HB.out | apply below_alloc | apply pw_below_drewN | apply below_drew1 | refine below_set ?_ GE194.out | refine below_set ?_ GE195.out) | exact HB.out))))
      have n1_ := Aside0.mk (blk_below (g := gb194) (o := .cells #[.int .i8 a0_0, .int .i8 a0_1, .slice A0_2 l0_2.length c0_2] 25 (0, 0)) (by (with_reducible repeat (first | refine blk_drewN ?_ _ | refine blk_drew ?_ | refine blk_alloc ?_ _)); exact BK194.out) hb)
      have n2_ := Aside0.mk (blk_below (g := gb195) (o := .cells #[.int .i8 a1_0, .int .i8 a1_1] 71 (0, 0)) (by (with_reducible repeat (first | refine blk_drewN ?_ _ | refine blk_drew ?_ | refine blk_alloc ?_ _)); exact BK195.out) hb)
      have n3_ := Aside0.mk (below_step (by repeat (first | (with_reducible first | exact HB.out | apply below_alloc | apply pw_below_drewN | apply below_drew1 | refine below_set ?_ GE194.out | refine below_set ?_ GE195.out) | exact HB.out)) hb)
      clear BK194
      clear BK195
      clear HB
      have HO201 := n0_
      have BK194 := n1_
      have BK195 := n2_
      have HB := n3_
      clear n0_ n1_ n2_ n3_
      (try clear hb)
      (try clear hb2)
      (try clear hk)
      (try clear hi)
      (try clear ho0)
      refine hK.out _ _ ⟨(blk_cell BK194.out 0).trans rfl, (blk_cell BK194.out 1).trans rfl, (blk_cell BK194.out 2).trans rfl, (blk_cell BK195.out 0).trans rfl, (blk_cell BK195.out 1).trans rfl⟩ (fun hHeld => ?_)
      clear hK K
      refine norm_ (a' := ?_) ?_ ?_
      rotate_left
      · show Act.put _ (some 18) _ = _
        simp only [Act.put, List.setIfInBounds_toArray, List.set_cons_zero, List.set_cons_succ, i64_w, i32_w]
        rfl
      refine one_ (i := 3) (N := some 20) #[true, true, true, true, false, false, false, false, false, false] rfl rfl (one_of HT_.out (by kernel_rfl)) (by decide) (fun K hK => ?_)
      refine goes_ Try.func53 (by kernel_rfl) rfl #[.agg #[.int .i8 a1_0, .int .i8 a1_1]] (by rfl) rfl rfl (by (try simp only [List.map_toArray, List.map_cons, List.map_nil]); first | done | rfl | (simp only [List.length_drop, List.length_take]; rfl)) ?_
      with_reducible refine (laws_toCell.calls kj3 a1_0 a1_1 t202 t203 _ A12.out).mono ?_
      rintro e w20 ⟨rfl, hb⟩
      refine ⟨_, rfl, ?_⟩
      have n0_ := Aside0.mk (Kd.R_below (by (with_reducible repeat (first | apply Kd.R_alloc | apply Kd.R_drewN | apply Kd.R_drew)); exact HO201.out) hb)
      have n1_ := Aside0.mk (blk_below (g := gb194) (o := .cells #[.int .i8 a0_0, .int .i8 a0_1, .slice A0_2 l0_2.length c0_2] 25 (0, 0)) (by (with_reducible repeat (first | refine blk_drewN ?_ _ | refine blk_drew ?_ | refine blk_alloc ?_ _)); exact BK194.out) hb)
      have n2_ := Aside0.mk (blk_below (g := gb195) (o := .cells #[.int .i8 a1_0, .int .i8 a1_1] 71 (0, 0)) (by (with_reducible repeat (first | refine blk_drewN ?_ _ | refine blk_drew ?_ | refine blk_alloc ?_ _)); exact BK195.out) hb)
      have n3_ := Aside0.mk (below_step (by repeat (first | (with_reducible first | exact HB.out | apply below_alloc | apply pw_below_drewN | apply below_drew1 | refine below_set ?_ GE194.out | refine below_set ?_ GE195.out) | exact HB.out)) hb)
      clear HO201
      clear BK194
      clear BK195
      clear HB
      have HO201 := n0_
      have BK194 := n1_
      have BK195 := n2_
      have HB := n3_
      clear n0_ n1_ n2_ n3_
      (try clear hb)
      (try clear hb2)
      (try clear hk)
      (try clear hi)
      obtain ⟨Ao21, co21, eo21⟩ := Kd.R_slice HO201.out
      (first | subst eo21 | (injection eo21 with f1_ f2_ f3_; have f4_ := f1_.symm; have f5_ := f3_.symm; clear f1_ f2_ f3_; subst f4_; subst f5_))
      refine hK.out _ _ ⟨(blk_cell BK194.out 0).trans rfl, (blk_cell BK194.out 1).trans rfl, (blk_cell BK194.out 2).trans rfl, (blk_cell BK195.out 0).trans rfl, (blk_cell BK195.out 1).trans rfl⟩ (fun hHeld => ?_)
      clear hK K
      refine norm_ (a' := ?_) ?_ ?_
      rotate_left
      · show Act.put _ (some 20) _ = _
        simp only [Act.put, List.setIfInBounds_toArray, List.set_cons_zero, List.set_cons_succ, i64_w, i32_w]
        rfl
      refine one_ (i := 4) (N := some 21) #[true, true, true, true, true, false, false, false, false, false] rfl rfl (one_of HT_.out (by kernel_rfl)) (by decide) (fun K hK => ?_)
      refine goes_ Try.func52 (by kernel_rfl) rfl #[.agg #[.int .i8 t197, .int .i8 t198, .slice Ao21 t199.length co21], .agg #[.int .i8 t202, .int .i8 t203]] (by rfl) rfl rfl (by (try simp only [List.map_toArray, List.map_cons, List.map_nil]); first | done | rfl | (simp only [List.length_drop, List.length_take]; rfl)) ?_
      with_reducible refine (spec_PieceAt.calls kj3 t197 t198 _ _ t199 t202 t203 t204 t205 _ ?side1 ?side2 A13.out).mono ?_
      (case side1 => repeat (first | exact (Kd.R_reads' HO201.out).2.2 | (with_reducible refine Kd.C_alloc ?_ _) | (with_reducible refine Kd.C_drewN ?_ _) | (with_reducible refine Kd.C_drew ?_)))
      (case side2 => exact (Kd.R_reads' HO201.out).2.1)
      rintro e w22 ⟨rfl, hb⟩
      refine ⟨_, rfl, ?_⟩
      have n0_ := Aside0.mk (Kd.R_below (by (with_reducible repeat (first | apply Kd.R_alloc | apply Kd.R_drewN | apply Kd.R_drew)); exact HO201.out) hb)
      have n1_ := Aside0.mk (blk_below (g := gb194) (o := .cells #[.int .i8 a0_0, .int .i8 a0_1, .slice A0_2 l0_2.length c0_2] 25 (0, 0)) (by (with_reducible repeat (first | refine blk_drewN ?_ _ | refine blk_drew ?_ | refine blk_alloc ?_ _)); exact BK194.out) hb)
      have n2_ := Aside0.mk (blk_below (g := gb195) (o := .cells #[.int .i8 a1_0, .int .i8 a1_1] 71 (0, 0)) (by (with_reducible repeat (first | refine blk_drewN ?_ _ | refine blk_drew ?_ | refine blk_alloc ?_ _)); exact BK195.out) hb)
      have n3_ := Aside0.mk (below_step (by repeat (first | (with_reducible first | exact HB.out | apply below_alloc | apply pw_below_drewN | apply below_drew1 | refine below_set ?_ GE194.out | refine below_set ?_ GE195.out) | exact HB.out)) hb)
      clear HO201
      clear BK194
      clear BK195
      clear HB
      have HO201 := n0_
      have BK194 := n1_
      have BK195 := n2_
      have HB := n3_
      clear n0_ n1_ n2_ n3_
      (try clear hb)
      (try clear hb2)
      (try clear hk)
      (try clear hi)
      refine hK.out _ _ ⟨(blk_cell BK194.out 0).trans rfl, (blk_cell BK194.out 1).trans rfl, (blk_cell BK194.out 2).trans rfl, (blk_cell BK195.out 0).trans rfl, (blk_cell BK195.out 1).trans rfl⟩ (fun hHeld => ?_)
      clear hK K
      refine norm_ (a' := ?_) ?_ ?_
      rotate_left
      · show Act.put _ (some 21) _ = _
        simp only [Act.put, List.setIfInBounds_toArray, List.set_cons_zero, List.set_cons_succ, i64_w, i32_w]
        rfl
      refine pure_ (i := 5) (N := some 16) (v := ?_) (a' := ?_) #[true, true, true, true, true, true, false, false, false, false] rfl rfl (any_of HT_.out (by kernel_rfl)) (fun _ _ _ h => h) (Or.inl ⟨by rfl, ?_⟩) ?_ ?_
      rotate_left
      · intro w'
        go_simp
        with_reducible rfl
      rotate_left
      · simp only [Act.put, List.setIfInBounds_toArray, List.set_cons_zero, List.set_cons_succ, i64_w, i32_w]
        rfl
      refine pure_ (i := 6) (N := some 22) (v := ?_) (a' := ?_) #[true, true, true, true, true, true, true, false, false, false] rfl rfl (any_of HT_.out (by kernel_rfl)) (fun _ _ _ h => h) (Or.inl ⟨by rfl, ?_⟩) ?_ ?_
      rotate_left
      · intro w'
        go_simp
        with_reducible rfl
      rotate_left
      · simp only [Act.put, List.setIfInBounds_toArray, List.set_cons_zero, List.set_cons_succ, i64_w, i32_w]
        rfl
      refine pure_ (i := 7) (N := some 23) (v := ?_) (a' := ?_) #[true, true, true, true, true, true, true, true, false, false] rfl rfl (any_of HT_.out (by kernel_rfl)) (fun _ _ _ h => h) (Or.inl ⟨by rfl, ?_⟩) ?_ ?_
      rotate_left
      · intro w'
        go_simp
        with_reducible rfl
      rotate_left
      · simp only [Act.put, List.setIfInBounds_toArray, List.set_cons_zero, List.set_cons_succ, i64_w, i32_w]
        rfl
      refine pure_ (i := 8) (N := some 6) (v := ?_) (a' := ?_) #[true, true, true, true, true, true, true, true, true, false] rfl rfl (any_of HT_.out (by kernel_rfl)) (fun _ _ _ h => h) (Or.inl ⟨by rfl, ?_⟩) ?_ ?_
      rotate_left
      · intro w'
        go_simp
        with_reducible rfl
      rotate_left
      · simp only [Act.put, List.setIfInBounds_toArray, List.set_cons_zero, List.set_cons_succ, i64_w, i32_w]
        rfl
      refine pure_ (i := 9) (N := some 7) (v := ?_) (a' := ?_) #[true, true, true, true, true, true, true, true, true, true] rfl rfl (any_of HT_.out (by kernel_rfl)) (fun _ _ _ h => h) (Or.inl ⟨by rfl, ?_⟩) ?_ ?_
      rotate_left
      · intro w'
        go_simp
        with_reducible rfl
      rotate_left
      · simp only [Act.put, List.setIfInBounds_toArray, List.set_cons_zero, List.set_cons_succ, i64_w, i32_w]
        rfl
      refine done_ (done_of HT_.out (by kernel_rfl)) ?_
      have hnb23 := NB194_195.out
      have hnc23 := NB195_194.out
      have hcz24_0 : w22.cell? ⟨gb194, 0, none⟩ = some (.int .i8 a0_0) := (blk_cell BK194.out 0).trans rfl
      have hcz24_1 : w22.cell? ⟨gb194, 1, none⟩ = some (.int .i8 a0_1) := (blk_cell BK194.out 1).trans rfl
      have hcz24_2 : w22.cell? ⟨gb194, 2, none⟩ = some (.slice A0_2 l0_2.length c0_2) := (blk_cell BK194.out 2).trans rfl
      have hfz24_0 := blk_frozen BK194.out 0
      have hfz24_1 := blk_frozen BK194.out 1
      have hfz24_2 := blk_frozen BK194.out 2
      try go_wp2_with (first | ((with_reducible refine gate_callee (f := 42) rfl ?_); refine goesL_ (some 25) rfl rfl Try.func42 (by kernel_rfl) rfl #[.agg #[.int .i8 a0_0, .int .i8 a0_1, .slice A0_2 l0_2.length c0_2]] rfl (by (try simp only [List.map_toArray, List.map_cons, List.map_nil]); first | done | rfl | (simp only [List.length_drop, List.length_take]; rfl)) ?_; (with_reducible refine (laws_toBoard.calls kj3 a0_0 a0_1 _ _ l0_2 t206 t207 t208 _ ?side1 ?side2 A14.out).mono ?_); (case side1 => repeat (first | exact (Kd.C_below HR0_2.out HB.out) | (with_reducible refine Kd.C_alloc ?_ _) | (with_reducible refine Kd.C_drewN ?_ _) | (with_reducible refine Kd.C_drew ?_))); (case side2 => exact HC0_2.out); rintro e w25 ⟨v209, rfl, ho0, hb⟩; refine ⟨_, rfl, ?_⟩; have n0_ := Aside0.mk (Kd.R_elder' (by (with_reducible repeat (first | apply Kd.R_alloc | apply Kd.R_drewN | apply Kd.R_drew)); exact HO201.out) (Kd.R_base ho0) hb); have n1_ := Aside0.mk (Kd.R_lower (Kd.R_new' ho0 (Kd.R_lt (by (with_reducible repeat (first | apply Kd.R_alloc | apply Kd.R_drewN | apply Kd.R_drew)); exact HO201.out))) (below_size (by repeat (first | (with_reducible first | exact HB.out | apply below_alloc | apply pw_below_drewN | apply below_drew1 | refine below_set ?_ GE194.out | refine below_set ?_ GE195.out) | exact HB.out)))); have n2_ := Aside0.mk (blk_below (g := gb194) (o := .cells #[.int .i8 a0_0, .int .i8 a0_1, .slice A0_2 l0_2.length c0_2] 25 (0, 0)) (by (with_reducible repeat (first | refine blk_drewN ?_ _ | refine blk_drew ?_ | refine blk_alloc ?_ _)); exact BK194.out) hb); have n3_ := Aside0.mk (blk_below (g := gb195) (o := .cells #[.int .i8 a1_0, .int .i8 a1_1] 71 (0, 0)) (by (with_reducible repeat (first | refine blk_drewN ?_ _ | refine blk_drew ?_ | refine blk_alloc ?_ _)); exact BK195.out) hb); have n4_ := Aside0.mk (below_step (by repeat (first | (with_reducible first | exact HB.out | apply below_alloc | apply pw_below_drewN | apply below_drew1 | refine below_set ?_ GE194.out | refine below_set ?_ GE195.out) | exact HB.out)) hb); clear HO201; clear BK194; clear BK195; clear HB; have HO201 := n0_; have HO210 := n1_; have BK194 := n2_; have BK195 := n3_; have HB := n4_; clear n0_ n1_ n2_ n3_ n4_; (try clear hb); (try clear hb2); (try clear hk); (try clear hi); (try clear ho0)) | ((with_reducible refine gate_dst (N := 8) rfl ?_); refine box_event ?hg (N := 8) ?hd (cs := #[.int .i8 0, .int .i8 0, .slice none 0 0]) (t := 37) ?hr ?_; (case hd => rfl); (case hg => rfl); (case hr => first | (go_simp; done) | (go_simp; rfl)); intro gb211 hg w26 hbox hb; have n0_ := Aside0.mk (Kd.R_below (by (with_reducible repeat (first | apply Kd.R_alloc | apply Kd.R_drewN | apply Kd.R_drew)); exact HO201.out) hb); have n1_ := Aside0.mk (Kd.R_below (by (with_reducible repeat (first | apply Kd.R_alloc | apply Kd.R_drewN | apply Kd.R_drew)); exact HO210.out) hb); have n2_ := Aside0.mk (blk_below (g := gb194) (o := .cells #[.int .i8 a0_0, .int .i8 a0_1, .slice A0_2 l0_2.length c0_2] 25 (0, 0)) (by (with_reducible repeat (first | refine blk_drewN ?_ _ | refine blk_drew ?_ | refine blk_alloc ?_ _)); exact BK194.out) hb); have n3_ := Aside0.mk (blk_below (g := gb195) (o := .cells #[.int .i8 a1_0, .int .i8 a1_1] 71 (0, 0)) (by (with_reducible repeat (first | refine blk_drewN ?_ _ | refine blk_drew ?_ | refine blk_alloc ?_ _)); exact BK195.out) hb); have n4_ := Aside0.mk (below_step (by repeat (first | (with_reducible first | exact HB.out | apply below_alloc | apply pw_below_drewN | apply below_drew1 | refine below_set ?_ GE194.out | refine below_set ?_ GE195.out) | exact HB.out)) hb); have n5_ := Aside0.mk (hbox); have n6_ := Aside0.mk ((by rw [hg]; exact (below_size (by repeat (first | (with_reducible first | exact HB.out | apply below_alloc | apply pw_below_drewN | apply below_drew1 | refine below_set ?_ GE194.out | refine below_set ?_ GE195.out) | exact HB.out))) : w.heap.size ≤ gb211)); have n7_ := Aside0.mk ((by rw [hg]; exact (below_size (by repeat (first | (with_reducible first | exact HB.out | apply below_alloc | apply pw_below_drewN | apply below_drew1 | refine below_set ?_ GE194.out | refine below_set ?_ GE195.out) | exact HB.out))) : w.heap.size ≤ gb211)); have n8_ := Aside0.mk ((by rw [hg]; exact Nat.ne_of_lt (blk_lt (g := gb194) (o := .cells #[.int .i8 a0_0, .int .i8 a0_1, .slice A0_2 l0_2.length c0_2] 25 (0, 0)) (by (with_reducible repeat (first | refine blk_drewN ?_ _ | refine blk_drew ?_ | refine blk_alloc ?_ _)); exact BK194.out)) : gb194 ≠ gb211)); have n9_ := Aside0.mk ((by rw [hg]; exact Nat.ne_of_gt (blk_lt (g := gb194) (o := .cells #[.int .i8 a0_0, .int .i8 a0_1, .slice A0_2 l0_2.length c0_2] 25 (0, 0)) (by (with_reducible repeat (first | refine blk_drewN ?_ _ | refine blk_drew ?_ | refine blk_alloc ?_ _)); exact BK194.out)) : gb211 ≠ gb194)); have n10_ := Aside0.mk ((by rw [hg]; exact Nat.ne_of_lt (blk_lt (g := gb195) (o := .cells #[.int .i8 a1_0, .int .i8 a1_1] 71 (0, 0)) (by (with_reducible repeat (first | refine blk_drewN ?_ _ | refine blk_drew ?_ | refine blk_alloc ?_ _)); exact BK195.out)) : gb195 ≠ gb211)); have n11_ := Aside0.mk ((by rw [hg]; exact Nat.ne_of_gt (blk_lt (g := gb195) (o := .cells #[.int .i8 a1_0, .int .i8 a1_1] 71 (0, 0)) (by (with_reducible repeat (first | refine blk_drewN ?_ _ | refine blk_drew ?_ | refine blk_alloc ?_ _)); exact BK195.out)) : gb211 ≠ gb195)); clear HO201; clear HO210; clear BK194; clear BK195; clear HB; have HO201 := n0_; have HO210 := n1_; have BK194 := n2_; have BK195 := n3_; have HB := n4_; have BK211 := n5_; have GW211 := n6_; have GE211 := n7_; have NB194_211 := n8_; have NB211_194 := n9_; have NB195_211 := n10_; have NB211_195 := n11_; clear n0_ n1_ n2_ n3_ n4_ n5_ n6_ n7_ n8_ n9_ n10_ n11_; clear hb hbox hg; have hnb27 := NB211_194.out; have hnc27 := NB194_211.out; have hnb28 := NB211_195.out; have hnc28 := NB195_211.out; have hcz29_0 : w26.cell? ⟨gb211, 0, none⟩ = some (.int .i8 0) := (blk_cell BK211.out 0).trans rfl; have hcz29_1 : w26.cell? ⟨gb211, 1, none⟩ = some (.int .i8 0) := (blk_cell BK211.out 1).trans rfl; have hcz29_2 : w26.cell? ⟨gb211, 2, none⟩ = some (.slice none 0 0) := (blk_cell BK211.out 2).trans rfl; have hfz29_0 := blk_frozen BK211.out 0; have hfz29_1 := blk_frozen BK211.out 1; have hfz29_2 := blk_frozen BK211.out 2; obtain ⟨Ao30, co30, eo30⟩ := Kd.R_slice HO210.out; subst eo30))
      have n0_ : Aside0 (Kd.R k91 91 (((w26.setCell ⟨gb211, 0, none⟩ (.int .i8 t206)).setCell ⟨gb211, 1, none⟩ (.int .i8 t207)).setCell ⟨gb211, 2, none⟩ (.slice Ao30 t208.length co30)) w.heap.size (fun k_ => some k_ ≠ (.slice Ao30 t208.length co30 : Value).ownBlock) (.slice Ao21 t199.length co21) t199) := ⟨by (with_reducible repeat (first | apply Kd.R_alloc | apply Kd.R_drewN | apply Kd.R_drew)); exact Kd.R_mono (Kd.R_far (p := ⟨gb211, 2, none⟩) (Kd.R_far (p := ⟨gb211, 1, none⟩) (Kd.R_far (p := ⟨gb211, 0, none⟩) (Kd.R_types HO201.out BK211.out (by decide)) (fun _ hk => hk.2) (.int .i8 t206)) (fun _ hk => hk.2) (.int .i8 t207)) (fun _ hk => hk.2) (.slice Ao30 t208.length co30)) (fun _ hk => hk.1.2)⟩
      have n1_ : Aside0 (Kd.R k91 91 (((w26.setCell ⟨gb211, 0, none⟩ (.int .i8 t206)).setCell ⟨gb211, 1, none⟩ (.int .i8 t207)).setCell ⟨gb211, 2, none⟩ (.slice Ao30 t208.length co30)) w.heap.size (fun k_ => some k_ ≠ (.slice Ao21 t199.length co21 : Value).ownBlock) (.slice Ao30 t208.length co30) t208) := ⟨by (with_reducible repeat (first | apply Kd.R_alloc | apply Kd.R_drewN | apply Kd.R_drew)); exact Kd.R_mono (Kd.R_far (p := ⟨gb211, 2, none⟩) (Kd.R_far (p := ⟨gb211, 1, none⟩) (Kd.R_far (p := ⟨gb211, 0, none⟩) (Kd.R_types HO210.out BK211.out (by decide)) (fun _ hk => hk.2) (.int .i8 t206)) (fun _ hk => hk.2) (.int .i8 t207)) (fun _ hk => hk.2) (.slice Ao30 t208.length co30)) (fun _ hk => hk.1.2)⟩
      have n2_ : Aside0 ((((w26.setCell ⟨gb211, 0, none⟩ (.int .i8 t206)).setCell ⟨gb211, 1, none⟩ (.int .i8 t207)).setCell ⟨gb211, 2, none⟩ (.slice Ao30 t208.length co30)).heap[gb194]? = some (.cells #[.int .i8 a0_0, .int .i8 a0_1, .slice A0_2 l0_2.length c0_2] 25 (0, 0))) := ⟨by (with_reducible repeat (first | refine blk_drewN ?_ _ | refine blk_drew ?_ | refine blk_alloc ?_ _)); refine blk_far ?_ NB194_211.out _; (with_reducible repeat (first | refine blk_drewN ?_ _ | refine blk_drew ?_ | refine blk_alloc ?_ _)); refine blk_far ?_ NB194_211.out _; (with_reducible repeat (first | refine blk_drewN ?_ _ | refine blk_drew ?_ | refine blk_alloc ?_ _)); refine blk_far ?_ NB194_211.out _; (with_reducible repeat (first | refine blk_drewN ?_ _ | refine blk_drew ?_ | refine blk_alloc ?_ _)); exact BK194.out⟩
      have n3_ : Aside0 ((((w26.setCell ⟨gb211, 0, none⟩ (.int .i8 t206)).setCell ⟨gb211, 1, none⟩ (.int .i8 t207)).setCell ⟨gb211, 2, none⟩ (.slice Ao30 t208.length co30)).heap[gb195]? = some (.cells #[.int .i8 a1_0, .int .i8 a1_1] 71 (0, 0))) := ⟨by (with_reducible repeat (first | refine blk_drewN ?_ _ | refine blk_drew ?_ | refine blk_alloc ?_ _)); refine blk_far ?_ NB195_211.out _; (with_reducible repeat (first | refine blk_drewN ?_ _ | refine blk_drew ?_ | refine blk_alloc ?_ _)); refine blk_far ?_ NB195_211.out _; (with_reducible repeat (first | refine blk_drewN ?_ _ | refine blk_drew ?_ | refine blk_alloc ?_ _)); refine blk_far ?_ NB195_211.out _; (with_reducible repeat (first | refine blk_drewN ?_ _ | refine blk_drew ?_ | refine blk_alloc ?_ _)); exact BK195.out⟩
      have n4_ : Aside0 ((((w26.setCell ⟨gb211, 0, none⟩ (.int .i8 t206)).setCell ⟨gb211, 1, none⟩ (.int .i8 t207)).setCell ⟨gb211, 2, none⟩ (.slice Ao30 t208.length co30)).heap[gb211]? = some (.cells #[.int .i8 t206, .int .i8 t207, .slice Ao30 t208.length co30] 37 (0, 0))) := ⟨by (with_reducible repeat (first | refine blk_drewN ?_ _ | refine blk_drew ?_ | refine blk_alloc ?_ _)); refine blk_put (cs := #[.int .i8 t206, .int .i8 t207, .slice none 0 0]) ?_ 2 _ rfl; (with_reducible repeat (first | refine blk_drewN ?_ _ | refine blk_drew ?_ | refine blk_alloc ?_ _)); refine blk_put (cs := #[.int .i8 t206, .int .i8 0, .slice none 0 0]) ?_ 1 _ rfl; (with_reducible repeat (first | refine blk_drewN ?_ _ | refine blk_drew ?_ | refine blk_alloc ?_ _)); refine blk_put (cs := #[.int .i8 0, .int .i8 0, .slice none 0 0]) ?_ 0 _ rfl; (with_reducible repeat (first | refine blk_drewN ?_ _ | refine blk_drew ?_ | refine blk_alloc ?_ _)); exact BK211.out⟩
      have n5_ : Aside0 (Below w.heap.size w (((w26.setCell ⟨gb211, 0, none⟩ (.int .i8 t206)).setCell ⟨gb211, 1, none⟩ (.int .i8 t207)).setCell ⟨gb211, 2, none⟩ (.slice Ao30 t208.length co30))) := ⟨by repeat (first | (with_reducible first | exact HB.out | apply below_alloc | apply pw_below_drewN | apply below_drew1 | refine below_set ?_ GE194.out | refine below_set ?_ GE195.out | refine below_set ?_ GE211.out) | exact HB.out)⟩
      (try clear HO201)
      (try clear HO210)
      (try clear BK194)
      (try clear BK195)
      (try clear BK211)
      (try clear HB)
      generalize (((w26.setCell ⟨gb211, 0, none⟩ (.int .i8 t206)).setCell ⟨gb211, 1, none⟩ (.int .i8 t207)).setCell ⟨gb211, 2, none⟩ (.slice Ao30 t208.length co30)) = w31 at n0_ n1_ n2_ n3_ n4_ n5_ ⊢
      have HO201 := n0_
      have HO210 := n1_
      have BK194 := n2_
      have BK195 := n3_
      have BK211 := n4_
      have HB := n5_
      clear n0_ n1_ n2_ n3_ n4_ n5_
      have n0_ := Aside0.mk (Kd.R_drew HO201.out)
      have n1_ := Aside0.mk (Kd.R_drew HO210.out)
      have n2_ := Aside0.mk (blk_drew BK194.out)
      have n3_ := Aside0.mk (blk_drew BK195.out)
      have n4_ := Aside0.mk (blk_drew BK211.out)
      have n5_ := Aside0.mk (below_drew1 HB.out)
      clear HO201
      clear HO210
      clear BK194
      clear BK195
      clear BK211
      clear HB
      have HO201 := n0_
      have HO210 := n1_
      have BK194 := n2_
      have BK195 := n3_
      have BK211 := n4_
      have HB := n5_
      clear n0_ n1_ n2_ n3_ n4_ n5_
      refine start_ (n := 9) (S := fun w' => w'.cell? ⟨gb211, 0, none⟩ = some (.int .i8 t206) ∧ w'.cell? ⟨gb211, 1, none⟩ = some (.int .i8 t207) ∧ w'.cell? ⟨gb211, 2, none⟩ = some (.slice Ao30 t208.length co30) ∧ w'.cell? ⟨gb195, 0, none⟩ = some (.int .i8 a1_0) ∧ w'.cell? ⟨gb195, 1, none⟩ = some (.int .i8 a1_1)) (ds := []) #[false, false, false, false, false, false, false, false, false] (by kernel_rfl) rfl rfl ⟨(blk_cell BK211.out 0).trans rfl, (blk_cell BK211.out 1).trans rfl, (blk_cell BK211.out 2).trans rfl, (blk_cell BK195.out 0).trans rfl, (blk_cell BK195.out 1).trans rfl⟩ (fun hHeld => ?_); refine with_tabW laws_FnExactPieceAt.tab7 laws_FnExactPieceAt.bits7 (fun HT_ HW_ => ?_)
      generalize w31.drew = w32 at HO201 HO210 BK194 BK195 BK211 HB hHeld ⊢
      refine take_ (i := 0) (N := some 27) (v := ?_) (a' := ?_) #[true, false, false, false, false, false, false, false, false] rfl rfl (take_ofW HT_.out HW_.out (by kernel_rfl)) (fun _ _ _ h => h) (Or.inl ⟨by rfl, ?_⟩) hHeld ?_ ?_
      rotate_left
      · rintro w' ⟨s0, s1, s2, s3, s4⟩
        go_simp
        with_reducible rfl
      rotate_left
      · simp only [Act.put, List.setIfInBounds_toArray, List.set_cons_zero, List.set_cons_succ, i64_w, i32_w]
        rfl
      refine take_ (i := 1) (N := some 28) (v := ?_) (a' := ?_) #[true, true, false, false, false, false, false, false, false] rfl rfl (take_ofW HT_.out HW_.out (by kernel_rfl)) (fun _ _ _ h => h) (Or.inl ⟨by rfl, ?_⟩) hHeld ?_ ?_
      rotate_left
      · rintro w' ⟨s0, s1, s2, s3, s4⟩
        go_simp
        with_reducible rfl
      rotate_left
      · simp only [Act.put, List.setIfInBounds_toArray, List.set_cons_zero, List.set_cons_succ, i64_w, i32_w]
        rfl
      refine one_ (i := 2) (N := some 29) #[true, true, true, false, false, false, false, false, false] rfl rfl (one_of HT_.out (by kernel_rfl)) (by decide) (fun K hK => ?_)
      refine goes_ Try.func53 (by kernel_rfl) rfl #[.agg #[.int .i8 a1_0, .int .i8 a1_1]] (by rfl) rfl rfl (by (try simp only [List.map_toArray, List.map_cons, List.map_nil]); first | done | rfl | (simp only [List.length_drop, List.length_take]; rfl)) ?_
      with_reducible refine (laws_toCell.calls kj3 a1_0 a1_1 t212 t213 _ A15.out).mono ?_
      rintro e w33 ⟨rfl, hb⟩
      refine ⟨_, rfl, ?_⟩
      have n0_ := Aside0.mk (Kd.R_below (by (with_reducible repeat (first | apply Kd.R_alloc | apply Kd.R_drewN | apply Kd.R_drew)); exact HO201.out) hb)
      have n1_ := Aside0.mk (Kd.R_below (by (with_reducible repeat (first | apply Kd.R_alloc | apply Kd.R_drewN | apply Kd.R_drew)); exact HO210.out) hb)
      have n2_ := Aside0.mk (blk_below (g := gb194) (o := .cells #[.int .i8 a0_0, .int .i8 a0_1, .slice A0_2 l0_2.length c0_2] 25 (0, 0)) (by (with_reducible repeat (first | refine blk_drewN ?_ _ | refine blk_drew ?_ | refine blk_alloc ?_ _)); exact BK194.out) hb)
      have n3_ := Aside0.mk (blk_below (g := gb195) (o := .cells #[.int .i8 a1_0, .int .i8 a1_1] 71 (0, 0)) (by (with_reducible repeat (first | refine blk_drewN ?_ _ | refine blk_drew ?_ | refine blk_alloc ?_ _)); exact BK195.out) hb)
      have n4_ := Aside0.mk (blk_below (g := gb211) (o := .cells #[.int .i8 t206, .int .i8 t207, .slice Ao30 t208.length co30] 37 (0, 0)) (by (with_reducible repeat (first | refine blk_drewN ?_ _ | refine blk_drew ?_ | refine blk_alloc ?_ _)); exact BK211.out) hb)
      have n5_ := Aside0.mk (below_step (by repeat (first | (with_reducible first | exact HB.out | apply below_alloc | apply pw_below_drewN | apply below_drew1 | refine below_set ?_ GE194.out | refine below_set ?_ GE195.out | refine below_set ?_ GE211.out) | exact HB.out)) hb)
      clear HO201
      clear HO210
      clear BK194
      clear BK195
      clear BK211
      clear HB
      have HO201 := n0_
      have HO210 := n1_
      have BK194 := n2_
      have BK195 := n3_
      have BK211 := n4_
      have HB := n5_
      clear n0_ n1_ n2_ n3_ n4_ n5_
      (try clear hb)
      (try clear hb2)
      (try clear hk)
      (try clear hi)
      refine hK.out _ _ ⟨(blk_cell BK211.out 0).trans rfl, (blk_cell BK211.out 1).trans rfl, (blk_cell BK211.out 2).trans rfl, (blk_cell BK195.out 0).trans rfl, (blk_cell BK195.out 1).trans rfl⟩ (fun hHeld => ?_)
      clear hK K
      refine norm_ (a' := ?_) ?_ ?_
      rotate_left
      · show Act.put _ (some 29) _ = _
        simp only [Act.put, List.setIfInBounds_toArray, List.set_cons_zero, List.set_cons_succ, i64_w, i32_w]
        rfl
      refine one_ (i := 3) (N := some 30) #[true, true, true, true, false, false, false, false, false] rfl rfl (one_of HT_.out (by kernel_rfl)) (by decide) (fun K hK => ?_)
      refine goes_ Try.func54 (by kernel_rfl) rfl #[.agg #[.int .i8 t206, .int .i8 t207, .slice Ao30 t208.length co30], .agg #[.int .i8 t212, .int .i8 t213]] (by rfl) rfl rfl (by (try simp only [List.map_toArray, List.map_cons, List.map_nil]); first | done | rfl | (simp only [List.length_drop, List.length_take]; rfl)) ?_
      with_reducible refine (impl_PieceAt.calls kj3 t206 t207 _ _ t208 t212 t213 t214 t215 _ ?side1 ?side2 A16.out).mono ?_
      (case side1 => repeat (first | exact (Kd.R_reads' HO210.out).2.2 | (with_reducible refine Kd.C_alloc ?_ _) | (with_reducible refine Kd.C_drewN ?_ _) | (with_reducible refine Kd.C_drew ?_)))
      (case side2 => exact (Kd.R_reads' HO210.out).2.1)
      rintro e w34 ⟨rfl, hb⟩
      refine ⟨_, rfl, ?_⟩
      have n0_ := Aside0.mk (Kd.R_below (by (with_reducible repeat (first | apply Kd.R_alloc | apply Kd.R_drewN | apply Kd.R_drew)); exact HO201.out) hb)
      have n1_ := Aside0.mk (Kd.R_below (by (with_reducible repeat (first | apply Kd.R_alloc | apply Kd.R_drewN | apply Kd.R_drew)); exact HO210.out) hb)
      have n2_ := Aside0.mk (blk_below (g := gb194) (o := .cells #[.int .i8 a0_0, .int .i8 a0_1, .slice A0_2 l0_2.length c0_2] 25 (0, 0)) (by (with_reducible repeat (first | refine blk_drewN ?_ _ | refine blk_drew ?_ | refine blk_alloc ?_ _)); exact BK194.out) hb)
      have n3_ := Aside0.mk (blk_below (g := gb195) (o := .cells #[.int .i8 a1_0, .int .i8 a1_1] 71 (0, 0)) (by (with_reducible repeat (first | refine blk_drewN ?_ _ | refine blk_drew ?_ | refine blk_alloc ?_ _)); exact BK195.out) hb)
      have n4_ := Aside0.mk (blk_below (g := gb211) (o := .cells #[.int .i8 t206, .int .i8 t207, .slice Ao30 t208.length co30] 37 (0, 0)) (by (with_reducible repeat (first | refine blk_drewN ?_ _ | refine blk_drew ?_ | refine blk_alloc ?_ _)); exact BK211.out) hb)
      have n5_ := Aside0.mk (below_step (by repeat (first | (with_reducible first | exact HB.out | apply below_alloc | apply pw_below_drewN | apply below_drew1 | refine below_set ?_ GE194.out | refine below_set ?_ GE195.out | refine below_set ?_ GE211.out) | exact HB.out)) hb)
      clear HO201
      clear HO210
      clear BK194
      clear BK195
      clear BK211
      clear HB
      have HO201 := n0_
      have HO210 := n1_
      have BK194 := n2_
      have BK195 := n3_
      have BK211 := n4_
      have HB := n5_
      clear n0_ n1_ n2_ n3_ n4_ n5_
      (try clear hb)
      (try clear hb2)
      (try clear hk)
      (try clear hi)
      refine hK.out _ _ ⟨(blk_cell BK211.out 0).trans rfl, (blk_cell BK211.out 1).trans rfl, (blk_cell BK211.out 2).trans rfl, (blk_cell BK195.out 0).trans rfl, (blk_cell BK195.out 1).trans rfl⟩ (fun hHeld => ?_)
      clear hK K
      refine norm_ (a' := ?_) ?_ ?_
      rotate_left
      · show Act.put _ (some 30) _ = _
        simp only [Act.put, List.setIfInBounds_toArray, List.set_cons_zero, List.set_cons_succ, i64_w, i32_w]
        rfl
      refine pure_ (i := 4) (N := some 26) (v := ?_) (a' := ?_) #[true, true, true, true, true, false, false, false, false] rfl rfl (any_of HT_.out (by kernel_rfl)) (fun _ _ _ h => h) (Or.inl ⟨by rfl, ?_⟩) ?_ ?_
      rotate_left
      · intro w'
        go_simp
        with_reducible rfl
      rotate_left
      · simp only [Act.put, List.setIfInBounds_toArray, List.set_cons_zero, List.set_cons_succ, i64_w, i32_w]
        rfl
      refine pure_ (i := 5) (N := some 31) (v := ?_) (a' := ?_) #[true, true, true, true, true, true, false, false, false] rfl rfl (any_of HT_.out (by kernel_rfl)) (fun _ _ _ h => h) (Or.inl ⟨by rfl, ?_⟩) ?_ ?_
      rotate_left
      · intro w'
        go_simp
        with_reducible rfl
      rotate_left
      · simp only [Act.put, List.setIfInBounds_toArray, List.set_cons_zero, List.set_cons_succ, i64_w, i32_w]
        rfl
      refine pure_ (i := 6) (N := some 32) (v := ?_) (a' := ?_) #[true, true, true, true, true, true, true, false, false] rfl rfl (any_of HT_.out (by kernel_rfl)) (fun _ _ _ h => h) (Or.inl ⟨by rfl, ?_⟩) ?_ ?_
      rotate_left
      · intro w'
        go_simp
        with_reducible rfl
      rotate_left
      · simp only [Act.put, List.setIfInBounds_toArray, List.set_cons_zero, List.set_cons_succ, i64_w, i32_w]
        rfl
      refine pure_ (i := 7) (N := some 9) (v := ?_) (a' := ?_) #[true, true, true, true, true, true, true, true, false] rfl rfl (any_of HT_.out (by kernel_rfl)) (fun _ _ _ h => h) (Or.inl ⟨by rfl, ?_⟩) ?_ ?_
      rotate_left
      · intro w'
        go_simp
        with_reducible rfl
      rotate_left
      · simp only [Act.put, List.setIfInBounds_toArray, List.set_cons_zero, List.set_cons_succ, i64_w, i32_w]
        rfl
      refine pure_ (i := 8) (N := some 10) (v := ?_) (a' := ?_) #[true, true, true, true, true, true, true, true, true] rfl rfl (any_of HT_.out (by kernel_rfl)) (fun _ _ _ h => h) (Or.inl ⟨by rfl, ?_⟩) ?_ ?_
      rotate_left
      · intro w'
        go_simp
        with_reducible rfl
      rotate_left
      · simp only [Act.put, List.setIfInBounds_toArray, List.set_cons_zero, List.set_cons_succ, i64_w, i32_w]
        rfl
      refine done_ (done_of HT_.out (by kernel_rfl)) ?_
      go_upto_region 8 with (fail)
      go_cut [40] (fun v40 wc => ∃ (kq : Nat) (x40_16 : Bool), v40 = .bool x40_16 ∧ Aside0 (laws_FnExactPieceAt.j1 kq x40_16 a0_0 a0_1 l0_2 t206 t207 t208 = some r) ∧ Aside0 (kq ≤ kj3) ∧ Aside0 (Kd.R k91 91 wc w.heap.size (fun _ => True) (.slice Ao30 t208.length co30) t208) ∧ Aside0 (wc.heap[gb194]? = some (.cells #[.int .i8 a0_0, .int .i8 a0_1, (.slice A0_2 l0_2.length c0_2)] 25 (0, 0))) ∧ Aside0 (wc.heap[gb195]? = some (.cells #[.int .i8 a1_0, .int .i8 a1_1] 71 (0, 0))) ∧ Aside0 (wc.heap[gb211]? = some (.cells #[.int .i8 t206, .int .i8 t207, (.slice Ao30 t208.length co30)] 37 (0, 0))) ∧ Aside0 (Below w.heap.size w wc))
      case first =>
        have H := HC17.out
        clear HC17
        by_cases c35 : t214 = t204
        · rw [if_pos c35] at H
          have c35b0 : (t214 == t204) = true := beq_iff_eq.mpr c35
          have c35b1 : (t214 != t204) = false := bne_eq_false_iff_eq.mpr c35
          clear c35
          (first | rw [c35b0] | (simp only [i64_w, i32_w]; rw [c35b0]) | (have h_ := c35b0; simp only [bne] at h_; rw [h_]) | skip)
          have H' := Aside0.mk H
          clear H
          go_wp2
          go_meet
          case rel => exact ⟨_, ((t215 != t205)), (by first | rfl | (simp; done) | (simp [*]; done) | (exact congrArg (Value.int .i64) (wrap_eq (by omega)))), H', ⟨by have := HJ3.out; first | omega | exact Nat.le_refl _⟩, ⟨by (with_reducible repeat (first | apply Kd.R_alloc | apply Kd.R_drewN | apply Kd.R_drew)); exact Kd.R_mono HO210.out (fun _ hk => trivial)⟩, ⟨by (with_reducible repeat (first | refine blk_drewN ?_ _ | refine blk_drew ?_ | refine blk_alloc ?_ _)); exact BK194.out⟩, ⟨by (with_reducible repeat (first | refine blk_drewN ?_ _ | refine blk_drew ?_ | refine blk_alloc ?_ _)); exact BK195.out⟩, ⟨by (with_reducible repeat (first | refine blk_drewN ?_ _ | refine blk_drew ?_ | refine blk_alloc ?_ _)); exact BK211.out⟩, ⟨by repeat (first | (with_reducible first | exact HB.out | apply below_alloc | apply pw_below_drewN | apply below_drew1 | refine below_set ?_ GE194.out | refine below_set ?_ GE195.out | refine below_set ?_ GE211.out) | exact HB.out)⟩⟩
        · rw [if_neg c35] at H
          have c35b0 : (t214 == t204) = false := beq_eq_false_iff_ne.mpr c35
          have c35b1 : (t214 != t204) = true := bne_iff_ne.mpr c35
          (first | rw [c35b0] | (simp only [i64_w, i32_w]; rw [c35b0]) | (have h_ := c35b0; simp only [bne] at h_; rw [h_]) | skip)
          have H' := Aside0.mk H
          clear H
          go_wp2
          go_meet
          case rel => exact ⟨_, (true), (by first | rfl | (simp; done) | (simp [*]; done) | (exact congrArg (Value.int .i64) (wrap_eq (by omega)))), H', ⟨by have := HJ3.out; first | omega | exact Nat.le_refl _⟩, ⟨by (with_reducible repeat (first | apply Kd.R_alloc | apply Kd.R_drewN | apply Kd.R_drew)); exact Kd.R_mono HO210.out (fun _ hk => trivial)⟩, ⟨by (with_reducible repeat (first | refine blk_drewN ?_ _ | refine blk_drew ?_ | refine blk_alloc ?_ _)); exact BK194.out⟩, ⟨by (with_reducible repeat (first | refine blk_drewN ?_ _ | refine blk_drew ?_ | refine blk_alloc ?_ _)); exact BK195.out⟩, ⟨by (with_reducible repeat (first | refine blk_drewN ?_ _ | refine blk_drew ?_ | refine blk_alloc ?_ _)); exact BK211.out⟩, ⟨by repeat (first | (with_reducible first | exact HB.out | apply below_alloc | apply pw_below_drewN | apply below_drew1 | refine below_set ?_ GE194.out | refine below_set ?_ GE195.out | refine below_set ?_ GE211.out) | exact HB.out)⟩⟩
      case rest =>
        clear HC17
        try clear c1
        try clear c2
        try clear p2
        try clear c3
        try clear c4
        try clear c5
        try clear c7
        try clear c9
        try clear c10
        try clear c10b0
        try clear c23
        try clear c27
        try clear c28
        try clear c35
        try clear c35b0
        try clear c35b1
        try clear hcz24_0
        try clear hcz24_1
        try clear hcz24_2
        try clear hcz29_0
        try clear hcz29_1
        try clear hcz29_2
        try clear hcz8_0
        try clear hcz8_1
        try clear hcz8_2
        try clear hfz24_0
        try clear hfz24_1
        try clear hfz24_2
        try clear hfz29_0
        try clear hfz29_1
        try clear hfz29_2
        try clear hfz8_0
        try clear hfz8_1
        try clear hfz8_2
        try clear p2
        obtain ⟨kq, x40_16, rfl, HA, HJ16, HO_212002, BK194, BK195, BK211, HB⟩ := hcut
        cases kq with
        | zero => exact absurd HA.out (by simp [laws_FnExactPieceAt.j1])
        | succ kj16 =>
          have H := HA.out
          clear HA
          simp only [laws_FnExactPieceAt.j1] at H
          have HC36 := Aside0.mk H
          clear H
          go_upto_if 40 with (fail)
          go_cut [] (fun wc => ∃ (kq : Nat), Aside0 (laws_FnExactPieceAt.j2 kq a0_0 a0_1 l0_2 t206 t207 t208 = some r) ∧ Aside0 (kq ≤ kj16) ∧ Aside0 (Kd.R k91 91 wc w.heap.size (fun _ => True) (.slice Ao30 t208.length co30) t208) ∧ Aside0 (wc.heap[gb194]? = some (.cells #[.int .i8 a0_0, .int .i8 a0_1, (.slice A0_2 l0_2.length c0_2)] 25 (0, 0))) ∧ Aside0 (wc.heap[gb195]? = some (.cells #[.int .i8 a1_0, .int .i8 a1_1] 71 (0, 0))) ∧ Aside0 (wc.heap[gb211]? = some (.cells #[.int .i8 t206, .int .i8 t207, (.slice Ao30 t208.length co30)] 37 (0, 0))) ∧ Aside0 (Below w.heap.size w wc))
          case first =>
            have H := HC36.out
            clear HC36
            by_cases c37 : x40_16 = true
            · subst c37
              have H1 : (some false) = some r := by rw [if_pos rfl] at H; exact H
              clear H
              have H := H1
              clear H1
              obtain rfl := Option.some.inj H
              go_wp2
              go_ret
              exact ⟨by first | rfl | (simp [errW_none, errW_some] <;> rfl) | (simp [*, errW_none, errW_some] <;> rfl), by repeat (first | (with_reducible first | exact HB.out | apply below_alloc | apply pw_below_drewN | apply below_drew1 | refine below_set ?_ GE194.out | refine below_set ?_ GE195.out | refine below_set ?_ GE211.out) | exact HB.out)⟩
            · replace c37 := Bool.eq_false_iff.mpr c37
              subst c37
              have H1 : (laws_FnExactPieceAt.j2 kj16 a0_0 a0_1 l0_2 t206 t207 t208) = some r := by rw [if_neg (show ¬ (false = true) by decide)] at H; exact H
              clear H
              have H := H1
              clear H1
              have H' := Aside0.mk H
              clear H
              go_wp2
              go_meet
              case rel => exact ⟨_, H', ⟨by have := HJ3.out; have := HJ16.out; first | omega | exact Nat.le_refl _⟩, ⟨by (with_reducible repeat (first | apply Kd.R_alloc | apply Kd.R_drewN | apply Kd.R_drew)); exact HO_212002.out⟩, ⟨by (with_reducible repeat (first | refine blk_drewN ?_ _ | refine blk_drew ?_ | refine blk_alloc ?_ _)); exact BK194.out⟩, ⟨by (with_reducible repeat (first | refine blk_drewN ?_ _ | refine blk_drew ?_ | refine blk_alloc ?_ _)); exact BK195.out⟩, ⟨by (with_reducible repeat (first | refine blk_drewN ?_ _ | refine blk_drew ?_ | refine blk_alloc ?_ _)); exact BK211.out⟩, ⟨by repeat (first | (with_reducible first | exact HB.out | apply below_alloc | apply pw_below_drewN | apply below_drew1 | refine below_set ?_ GE194.out | refine below_set ?_ GE195.out | refine below_set ?_ GE211.out) | exact HB.out)⟩⟩
          case rest =>
            clear HC36
            try clear c1
            try clear c2
            try clear p2
            try clear c3
            try clear c4
            try clear c5
            try clear c7
            try clear c9
            try clear c10
            try clear c10b0
            try clear c23
            try clear c27
            try clear c28
            try clear c35
            try clear c35b0
            try clear c35b1
            try clear c37
            try clear hcz24_0
            try clear hcz24_1
            try clear hcz24_2
            try clear hcz29_0
            try clear hcz29_1
            try clear hcz29_2
            try clear hcz8_0
            try clear hcz8_1
            try clear hcz8_2
            try clear hfz24_0
            try clear hfz24_1
            try clear hfz24_2
            try clear hfz29_0
            try clear hfz29_1
            try clear hfz29_2
            try clear hfz8_0
            try clear hfz8_1
            try clear hfz8_2
            try clear p2
            obtain ⟨kq, HA, HJ35, HO_212002, BK194, BK195, BK211, HB⟩ := hcut
            cases kq with
            | zero => exact absurd HA.out (by simp [laws_FnExactPieceAt.j2])
            | succ kj35 =>
              have H := HA.out
              clear HA
              simp only [laws_FnExactPieceAt.j2] at H
              replace H := Option.bind_eq_some_iff.mp H
              obtain ⟨⟨t216, t217, t218⟩, A380, H⟩ := H
              replace H : ((laws_eqBoard.f kj35 t206 t207 t208 t216 t217 t218).bind fun t221 => (if t221 = true then (some true) else (some false))) = some r := H
              have A38 := Aside0.mk A380
              clear A380
              replace H := Option.bind_eq_some_iff.mp H
              obtain ⟨t221, A390, H⟩ := H
              replace H : (if t221 = true then (some true) else (some false)) = some r := H
              have A39 := Aside0.mk A390
              clear A390
              by_cases c40 : t221 = true
              · subst c40
                have H1 : (some true) = some r := by rw [if_pos rfl] at H; exact H
                clear H
                have H := H1
                clear H1
                obtain rfl := Option.some.inj H
                try go_wp2
                have n0_ := Aside0.mk (Kd.R_drew HO_212002.out)
                have n1_ := Aside0.mk (blk_drew BK194.out)
                have n2_ := Aside0.mk (blk_drew BK195.out)
                have n3_ := Aside0.mk (blk_drew BK211.out)
                have n4_ := Aside0.mk (below_drew1 HB.out)
                clear HO_212002
                clear BK194
                clear BK195
                clear BK211
                clear HB
                have HO_212002 := n0_
                have BK194 := n1_
                have BK195 := n2_
                have BK211 := n3_
                have HB := n4_
                clear n0_ n1_ n2_ n3_ n4_
                refine start_ (n := 5) (S := fun w' => w'.cell? ⟨gb211, 0, none⟩ = some (.int .i8 t206) ∧ w'.cell? ⟨gb211, 1, none⟩ = some (.int .i8 t207) ∧ w'.cell? ⟨gb211, 2, none⟩ = some (.slice Ao30 t208.length co30) ∧ w'.cell? ⟨gb194, 0, none⟩ = some (.int .i8 a0_0) ∧ w'.cell? ⟨gb194, 1, none⟩ = some (.int .i8 a0_1) ∧ w'.cell? ⟨gb194, 2, none⟩ = some (.slice A0_2 l0_2.length c0_2)) (ds := []) #[false, false, false, false, false] (by kernel_rfl) rfl rfl ⟨(blk_cell BK211.out 0).trans rfl, (blk_cell BK211.out 1).trans rfl, (blk_cell BK211.out 2).trans rfl, (blk_cell BK194.out 0).trans rfl, (blk_cell BK194.out 1).trans rfl, (blk_cell BK194.out 2).trans rfl⟩ (fun hHeld => ?_)
                generalize wc.drew = w41 at HO_212002 BK194 BK195 BK211 HB hHeld ⊢
                refine take_ (i := 0) (N := some 41) (v := ?_) (a' := ?_) #[true, false, false, false, false] rfl rfl (by kernel_rfl) (fun _ _ _ h => h) (Or.inl ⟨by rfl, ?_⟩) hHeld ?_ ?_
                rotate_left
                · rintro w' ⟨s0, s1, s2, s3, s4, s5⟩
                  go_simp
                  with_reducible rfl
                rotate_left
                · simp only [Act.put, List.setIfInBounds_toArray, List.set_cons_zero, List.set_cons_succ, i64_w, i32_w]
                  rfl
                refine take_ (i := 1) (N := some 42) (v := ?_) (a' := ?_) #[true, true, false, false, false] rfl rfl (by kernel_rfl) (fun _ _ _ h => h) (Or.inl ⟨by rfl, ?_⟩) hHeld ?_ ?_
                rotate_left
                · rintro w' ⟨s0, s1, s2, s3, s4, s5⟩
                  go_simp
                  with_reducible rfl
                rotate_left
                · simp only [Act.put, List.setIfInBounds_toArray, List.set_cons_zero, List.set_cons_succ, i64_w, i32_w]
                  rfl
                refine one_ (i := 2) (N := some 43) #[true, true, true, false, false] rfl rfl (by kernel_rfl) (by decide) (fun K hK => ?_)
                refine goes_ Try.func42 (by kernel_rfl) rfl #[.agg #[.int .i8 a0_0, .int .i8 a0_1, .slice A0_2 l0_2.length c0_2]] (by rfl) rfl rfl (by (try simp only [List.map_toArray, List.map_cons, List.map_nil]); first | done | rfl | (simp only [List.length_drop, List.length_take]; rfl)) ?_
                with_reducible refine (laws_toBoard.calls kj35 a0_0 a0_1 _ _ l0_2 t216 t217 t218 _ ?side1 ?side2 A38.out).mono ?_
                (case side1 => repeat (first | exact (Kd.C_below HR0_2.out HB.out) | (with_reducible refine Kd.C_alloc ?_ _) | (with_reducible refine Kd.C_drewN ?_ _) | (with_reducible refine Kd.C_drew ?_)))
                (case side2 => exact HC0_2.out)
                rintro e w42 ⟨v219, rfl, ho0, hb⟩
                refine ⟨_, rfl, ?_⟩
                have n0_ := Aside0.mk (Kd.R_elder' (by (with_reducible repeat (first | apply Kd.R_alloc | apply Kd.R_drewN | apply Kd.R_drew)); exact HO_212002.out) (Kd.R_base ho0) hb)
                have n1_ := Aside0.mk (Kd.R_lower (Kd.R_new' ho0 (Kd.R_lt (by (with_reducible repeat (first | apply Kd.R_alloc | apply Kd.R_drewN | apply Kd.R_drew)); exact HO_212002.out))) (below_size (by repeat (first | (with_reducible first | exact HB.out | apply below_alloc | apply pw_below_drewN | apply below_drew1 | refine below_set ?_ GE194.out | refine below_set ?_ GE195.out | refine below_set ?_ GE211.out) | exact HB.out))))
                have n2_ := Aside0.mk (blk_below (g := gb194) (o := .cells #[.int .i8 a0_0, .int .i8 a0_1, .slice A0_2 l0_2.length c0_2] 25 (0, 0)) (by (with_reducible repeat (first | refine blk_drewN ?_ _ | refine blk_drew ?_ | refine blk_alloc ?_ _)); exact BK194.out) hb)
                have n3_ := Aside0.mk (blk_below (g := gb195) (o := .cells #[.int .i8 a1_0, .int .i8 a1_1] 71 (0, 0)) (by (with_reducible repeat (first | refine blk_drewN ?_ _ | refine blk_drew ?_ | refine blk_alloc ?_ _)); exact BK195.out) hb)
                have n4_ := Aside0.mk (blk_below (g := gb211) (o := .cells #[.int .i8 t206, .int .i8 t207, .slice Ao30 t208.length co30] 37 (0, 0)) (by (with_reducible repeat (first | refine blk_drewN ?_ _ | refine blk_drew ?_ | refine blk_alloc ?_ _)); exact BK211.out) hb)
                have n5_ := Aside0.mk (below_step (by repeat (first | (with_reducible first | exact HB.out | apply below_alloc | apply pw_below_drewN | apply below_drew1 | refine below_set ?_ GE194.out | refine below_set ?_ GE195.out | refine below_set ?_ GE211.out) | exact HB.out)) hb)
                clear HO_212002
                clear BK194
                clear BK195
                clear BK211
                clear HB
                have HO_212002 := n0_
                have HO220 := n1_
                have BK194 := n2_
                have BK195 := n3_
                have BK211 := n4_
                have HB := n5_
                clear n0_ n1_ n2_ n3_ n4_ n5_
                (try clear hb)
                (try clear hb2)
                (try clear hk)
                (try clear hi)
                (try clear ho0)
                obtain ⟨Ao43, co43, eo43⟩ := Kd.R_slice HO220.out
                (first | subst eo43 | (injection eo43 with f1_ f2_ f3_; have f4_ := f1_.symm; have f5_ := f3_.symm; clear f1_ f2_ f3_; subst f4_; subst f5_))
                refine hK.out _ _ ⟨(blk_cell BK211.out 0).trans rfl, (blk_cell BK211.out 1).trans rfl, (blk_cell BK211.out 2).trans rfl, (blk_cell BK194.out 0).trans rfl, (blk_cell BK194.out 1).trans rfl, (blk_cell BK194.out 2).trans rfl⟩ (fun hHeld => ?_)
                clear hK K
                refine norm_ (a' := ?_) ?_ ?_
                rotate_left
                · show Act.put _ (some 43) _ = _
                  simp only [Act.put, List.setIfInBounds_toArray, List.set_cons_zero, List.set_cons_succ, i64_w, i32_w]
                  rfl
                refine one_ (i := 3) (N := some 44) #[true, true, true, true, false] rfl rfl (by kernel_rfl) (by decide) (fun K hK => ?_)
                refine goes_ Try.func44 (by kernel_rfl) rfl #[.agg #[.int .i8 t206, .int .i8 t207, .slice Ao30 t208.length co30], .agg #[.int .i8 t216, .int .i8 t217, .slice Ao43 t218.length co43]] (by rfl) rfl rfl (by (try simp only [List.map_toArray, List.map_cons, List.map_nil]); first | done | rfl | (simp only [List.length_drop, List.length_take]; rfl)) ?_
                with_reducible refine (laws_eqBoard.calls kj35 t206 t207 _ _ t208 t216 t217 _ _ t218 true _ ?side1 ?side2 ?side3 ?side4 A39.out).mono ?_
                (case side1 => repeat (first | exact (Kd.R_reads' HO_212002.out).2.2 | (with_reducible refine Kd.C_alloc ?_ _) | (with_reducible refine Kd.C_drewN ?_ _) | (with_reducible refine Kd.C_drew ?_)))
                (case side2 => exact (Kd.R_reads' HO_212002.out).2.1)
                (case side3 => repeat (first | exact (Kd.R_reads' HO220.out).2.2 | (with_reducible refine Kd.C_alloc ?_ _) | (with_reducible refine Kd.C_drewN ?_ _) | (with_reducible refine Kd.C_drew ?_)))
                (case side4 => exact (Kd.R_reads' HO220.out).2.1)
                rintro e w44 ⟨rfl, hb⟩
                refine ⟨_, rfl, ?_⟩
                have n0_ := Aside0.mk (Kd.R_below (by (with_reducible repeat (first | apply Kd.R_alloc | apply Kd.R_drewN | apply Kd.R_drew)); exact HO_212002.out) hb)
                have n1_ := Aside0.mk (Kd.R_below (by (with_reducible repeat (first | apply Kd.R_alloc | apply Kd.R_drewN | apply Kd.R_drew)); exact HO220.out) hb)
                have n2_ := Aside0.mk (blk_below (g := gb194) (o := .cells #[.int .i8 a0_0, .int .i8 a0_1, .slice A0_2 l0_2.length c0_2] 25 (0, 0)) (by (with_reducible repeat (first | refine blk_drewN ?_ _ | refine blk_drew ?_ | refine blk_alloc ?_ _)); exact BK194.out) hb)
                have n3_ := Aside0.mk (blk_below (g := gb195) (o := .cells #[.int .i8 a1_0, .int .i8 a1_1] 71 (0, 0)) (by (with_reducible repeat (first | refine blk_drewN ?_ _ | refine blk_drew ?_ | refine blk_alloc ?_ _)); exact BK195.out) hb)
                have n4_ := Aside0.mk (blk_below (g := gb211) (o := .cells #[.int .i8 t206, .int .i8 t207, .slice Ao30 t208.length co30] 37 (0, 0)) (by (with_reducible repeat (first | refine blk_drewN ?_ _ | refine blk_drew ?_ | refine blk_alloc ?_ _)); exact BK211.out) hb)
                have n5_ := Aside0.mk (below_step (by repeat (first | (with_reducible first | exact HB.out | apply below_alloc | apply pw_below_drewN | apply below_drew1 | refine below_set ?_ GE194.out | refine below_set ?_ GE195.out | refine below_set ?_ GE211.out) | exact HB.out)) hb)
                clear HO_212002
                clear HO220
                clear BK194
                clear BK195
                clear BK211
                clear HB
                have HO_212002 := n0_
                have HO220 := n1_
                have BK194 := n2_
                have BK195 := n3_
                have BK211 := n4_
                have HB := n5_
                clear n0_ n1_ n2_ n3_ n4_ n5_
                (try clear hb)
                (try clear hb2)
                (try clear hk)
                (try clear hi)
                refine hK.out _ _ ⟨(blk_cell BK211.out 0).trans rfl, (blk_cell BK211.out 1).trans rfl, (blk_cell BK211.out 2).trans rfl, (blk_cell BK194.out 0).trans rfl, (blk_cell BK194.out 1).trans rfl, (blk_cell BK194.out 2).trans rfl⟩ (fun hHeld => ?_)
                clear hK K
                refine norm_ (a' := ?_) ?_ ?_
                rotate_left
                · show Act.put _ (some 44) _ = _
                  simp only [Act.put, List.setIfInBounds_toArray, List.set_cons_zero, List.set_cons_succ, i64_w, i32_w]
                  rfl
                refine pure_ (i := 4) (N := some 45) (v := ?_) (a' := ?_) #[true, true, true, true, true] rfl rfl (by kernel_rfl) (fun _ _ _ h => h) (Or.inl ⟨by rfl, ?_⟩) ?_ ?_
                rotate_left
                · intro w'
                  go_simp
                  with_reducible rfl
                rotate_left
                · simp only [Act.put, List.setIfInBounds_toArray, List.set_cons_zero, List.set_cons_succ, i64_w, i32_w]
                  rfl
                refine done_ (by kernel_rfl) ?_
                try go_wp2
                go_ret
                exact ⟨by first | rfl | (simp [errW_none, errW_some] <;> rfl) | (simp [*, errW_none, errW_some] <;> rfl), by repeat (first | (with_reducible first | exact HB.out | apply below_alloc | apply pw_below_drewN | apply below_drew1 | refine below_set ?_ GE194.out | refine below_set ?_ GE195.out | refine below_set ?_ GE211.out) | exact HB.out)⟩
              · replace c40 := Bool.eq_false_iff.mpr c40
                subst c40
                have H1 : (some false) = some r := by rw [if_neg (show ¬ (false = true) by decide)] at H; exact H
                clear H
                have H := H1
                clear H1
                obtain rfl := Option.some.inj H
                try go_wp2
                have n0_ := Aside0.mk (Kd.R_drew HO_212002.out)
                have n1_ := Aside0.mk (blk_drew BK194.out)
                have n2_ := Aside0.mk (blk_drew BK195.out)
                have n3_ := Aside0.mk (blk_drew BK211.out)
                have n4_ := Aside0.mk (below_drew1 HB.out)
                clear HO_212002
                clear BK194
                clear BK195
                clear BK211
                clear HB
                have HO_212002 := n0_
                have BK194 := n1_
                have BK195 := n2_
                have BK211 := n3_
                have HB := n4_
                clear n0_ n1_ n2_ n3_ n4_
                refine start_ (n := 5) (S := fun w' => w'.cell? ⟨gb211, 0, none⟩ = some (.int .i8 t206) ∧ w'.cell? ⟨gb211, 1, none⟩ = some (.int .i8 t207) ∧ w'.cell? ⟨gb211, 2, none⟩ = some (.slice Ao30 t208.length co30) ∧ w'.cell? ⟨gb194, 0, none⟩ = some (.int .i8 a0_0) ∧ w'.cell? ⟨gb194, 1, none⟩ = some (.int .i8 a0_1) ∧ w'.cell? ⟨gb194, 2, none⟩ = some (.slice A0_2 l0_2.length c0_2)) (ds := []) #[false, false, false, false, false] (by kernel_rfl) rfl rfl ⟨(blk_cell BK211.out 0).trans rfl, (blk_cell BK211.out 1).trans rfl, (blk_cell BK211.out 2).trans rfl, (blk_cell BK194.out 0).trans rfl, (blk_cell BK194.out 1).trans rfl, (blk_cell BK194.out 2).trans rfl⟩ (fun hHeld => ?_)
                generalize wc.drew = w45 at HO_212002 BK194 BK195 BK211 HB hHeld ⊢
                refine take_ (i := 0) (N := some 41) (v := ?_) (a' := ?_) #[true, false, false, false, false] rfl rfl (by kernel_rfl) (fun _ _ _ h => h) (Or.inl ⟨by rfl, ?_⟩) hHeld ?_ ?_
                rotate_left
                · rintro w' ⟨s0, s1, s2, s3, s4, s5⟩
                  go_simp
                  with_reducible rfl
                rotate_left
                · simp only [Act.put, List.setIfInBounds_toArray, List.set_cons_zero, List.set_cons_succ, i64_w, i32_w]
                  rfl
                refine take_ (i := 1) (N := some 42) (v := ?_) (a' := ?_) #[true, true, false, false, false] rfl rfl (by kernel_rfl) (fun _ _ _ h => h) (Or.inl ⟨by rfl, ?_⟩) hHeld ?_ ?_
                rotate_left
                · rintro w' ⟨s0, s1, s2, s3, s4, s5⟩
                  go_simp
                  with_reducible rfl
                rotate_left
                · simp only [Act.put, List.setIfInBounds_toArray, List.set_cons_zero, List.set_cons_succ, i64_w, i32_w]
                  rfl
                refine one_ (i := 2) (N := some 43) #[true, true, true, false, false] rfl rfl (by kernel_rfl) (by decide) (fun K hK => ?_)
                refine goes_ Try.func42 (by kernel_rfl) rfl #[.agg #[.int .i8 a0_0, .int .i8 a0_1, .slice A0_2 l0_2.length c0_2]] (by rfl) rfl rfl (by (try simp only [List.map_toArray, List.map_cons, List.map_nil]); first | done | rfl | (simp only [List.length_drop, List.length_take]; rfl)) ?_
                with_reducible refine (laws_toBoard.calls kj35 a0_0 a0_1 _ _ l0_2 t216 t217 t218 _ ?side1 ?side2 A38.out).mono ?_
                (case side1 => repeat (first | exact (Kd.C_below HR0_2.out HB.out) | (with_reducible refine Kd.C_alloc ?_ _) | (with_reducible refine Kd.C_drewN ?_ _) | (with_reducible refine Kd.C_drew ?_)))
                (case side2 => exact HC0_2.out)
                rintro e w46 ⟨v219, rfl, ho0, hb⟩
                refine ⟨_, rfl, ?_⟩
                have n0_ := Aside0.mk (Kd.R_elder' (by (with_reducible repeat (first | apply Kd.R_alloc | apply Kd.R_drewN | apply Kd.R_drew)); exact HO_212002.out) (Kd.R_base ho0) hb)
                have n1_ := Aside0.mk (Kd.R_lower (Kd.R_new' ho0 (Kd.R_lt (by (with_reducible repeat (first | apply Kd.R_alloc | apply Kd.R_drewN | apply Kd.R_drew)); exact HO_212002.out))) (below_size (by repeat (first | (with_reducible first | exact HB.out | apply below_alloc | apply pw_below_drewN | apply below_drew1 | refine below_set ?_ GE194.out | refine below_set ?_ GE195.out | refine below_set ?_ GE211.out) | exact HB.out))))
                have n2_ := Aside0.mk (blk_below (g := gb194) (o := .cells #[.int .i8 a0_0, .int .i8 a0_1, .slice A0_2 l0_2.length c0_2] 25 (0, 0)) (by (with_reducible repeat (first | refine blk_drewN ?_ _ | refine blk_drew ?_ | refine blk_alloc ?_ _)); exact BK194.out) hb)
                have n3_ := Aside0.mk (blk_below (g := gb195) (o := .cells #[.int .i8 a1_0, .int .i8 a1_1] 71 (0, 0)) (by (with_reducible repeat (first | refine blk_drewN ?_ _ | refine blk_drew ?_ | refine blk_alloc ?_ _)); exact BK195.out) hb)
                have n4_ := Aside0.mk (blk_below (g := gb211) (o := .cells #[.int .i8 t206, .int .i8 t207, .slice Ao30 t208.length co30] 37 (0, 0)) (by (with_reducible repeat (first | refine blk_drewN ?_ _ | refine blk_drew ?_ | refine blk_alloc ?_ _)); exact BK211.out) hb)
                have n5_ := Aside0.mk (below_step (by repeat (first | (with_reducible first | exact HB.out | apply below_alloc | apply pw_below_drewN | apply below_drew1 | refine below_set ?_ GE194.out | refine below_set ?_ GE195.out | refine below_set ?_ GE211.out) | exact HB.out)) hb)
                clear HO_212002
                clear BK194
                clear BK195
                clear BK211
                clear HB
                have HO_212002 := n0_
                have HO220 := n1_
                have BK194 := n2_
                have BK195 := n3_
                have BK211 := n4_
                have HB := n5_
                clear n0_ n1_ n2_ n3_ n4_ n5_
                (try clear hb)
                (try clear hb2)
                (try clear hk)
                (try clear hi)
                (try clear ho0)
                obtain ⟨Ao47, co47, eo47⟩ := Kd.R_slice HO220.out
                (first | subst eo47 | (injection eo47 with f1_ f2_ f3_; have f4_ := f1_.symm; have f5_ := f3_.symm; clear f1_ f2_ f3_; subst f4_; subst f5_))
                refine hK.out _ _ ⟨(blk_cell BK211.out 0).trans rfl, (blk_cell BK211.out 1).trans rfl, (blk_cell BK211.out 2).trans rfl, (blk_cell BK194.out 0).trans rfl, (blk_cell BK194.out 1).trans rfl, (blk_cell BK194.out 2).trans rfl⟩ (fun hHeld => ?_)
                clear hK K
                refine norm_ (a' := ?_) ?_ ?_
                rotate_left
                · show Act.put _ (some 43) _ = _
                  simp only [Act.put, List.setIfInBounds_toArray, List.set_cons_zero, List.set_cons_succ, i64_w, i32_w]
                  rfl
                refine one_ (i := 3) (N := some 44) #[true, true, true, true, false] rfl rfl (by kernel_rfl) (by decide) (fun K hK => ?_)
                refine goes_ Try.func44 (by kernel_rfl) rfl #[.agg #[.int .i8 t206, .int .i8 t207, .slice Ao30 t208.length co30], .agg #[.int .i8 t216, .int .i8 t217, .slice Ao47 t218.length co47]] (by rfl) rfl rfl (by (try simp only [List.map_toArray, List.map_cons, List.map_nil]); first | done | rfl | (simp only [List.length_drop, List.length_take]; rfl)) ?_
                with_reducible refine (laws_eqBoard.calls kj35 t206 t207 _ _ t208 t216 t217 _ _ t218 false _ ?side1 ?side2 ?side3 ?side4 A39.out).mono ?_
                (case side1 => repeat (first | exact (Kd.R_reads' HO_212002.out).2.2 | (with_reducible refine Kd.C_alloc ?_ _) | (with_reducible refine Kd.C_drewN ?_ _) | (with_reducible refine Kd.C_drew ?_)))
                (case side2 => exact (Kd.R_reads' HO_212002.out).2.1)
                (case side3 => repeat (first | exact (Kd.R_reads' HO220.out).2.2 | (with_reducible refine Kd.C_alloc ?_ _) | (with_reducible refine Kd.C_drewN ?_ _) | (with_reducible refine Kd.C_drew ?_)))
                (case side4 => exact (Kd.R_reads' HO220.out).2.1)
                rintro e w48 ⟨rfl, hb⟩
                refine ⟨_, rfl, ?_⟩
                have n0_ := Aside0.mk (Kd.R_below (by (with_reducible repeat (first | apply Kd.R_alloc | apply Kd.R_drewN | apply Kd.R_drew)); exact HO_212002.out) hb)
                have n1_ := Aside0.mk (Kd.R_below (by (with_reducible repeat (first | apply Kd.R_alloc | apply Kd.R_drewN | apply Kd.R_drew)); exact HO220.out) hb)
                have n2_ := Aside0.mk (blk_below (g := gb194) (o := .cells #[.int .i8 a0_0, .int .i8 a0_1, .slice A0_2 l0_2.length c0_2] 25 (0, 0)) (by (with_reducible repeat (first | refine blk_drewN ?_ _ | refine blk_drew ?_ | refine blk_alloc ?_ _)); exact BK194.out) hb)
                have n3_ := Aside0.mk (blk_below (g := gb195) (o := .cells #[.int .i8 a1_0, .int .i8 a1_1] 71 (0, 0)) (by (with_reducible repeat (first | refine blk_drewN ?_ _ | refine blk_drew ?_ | refine blk_alloc ?_ _)); exact BK195.out) hb)
                have n4_ := Aside0.mk (blk_below (g := gb211) (o := .cells #[.int .i8 t206, .int .i8 t207, .slice Ao30 t208.length co30] 37 (0, 0)) (by (with_reducible repeat (first | refine blk_drewN ?_ _ | refine blk_drew ?_ | refine blk_alloc ?_ _)); exact BK211.out) hb)
                have n5_ := Aside0.mk (below_step (by repeat (first | (with_reducible first | exact HB.out | apply below_alloc | apply pw_below_drewN | apply below_drew1 | refine below_set ?_ GE194.out | refine below_set ?_ GE195.out | refine below_set ?_ GE211.out) | exact HB.out)) hb)
                clear HO_212002
                clear HO220
                clear BK194
                clear BK195
                clear BK211
                clear HB
                have HO_212002 := n0_
                have HO220 := n1_
                have BK194 := n2_
                have BK195 := n3_
                have BK211 := n4_
                have HB := n5_
                clear n0_ n1_ n2_ n3_ n4_ n5_
                (try clear hb)
                (try clear hb2)
                (try clear hk)
                (try clear hi)
                refine hK.out _ _ ⟨(blk_cell BK211.out 0).trans rfl, (blk_cell BK211.out 1).trans rfl, (blk_cell BK211.out 2).trans rfl, (blk_cell BK194.out 0).trans rfl, (blk_cell BK194.out 1).trans rfl, (blk_cell BK194.out 2).trans rfl⟩ (fun hHeld => ?_)
                clear hK K
                refine norm_ (a' := ?_) ?_ ?_
                rotate_left
                · show Act.put _ (some 44) _ = _
                  simp only [Act.put, List.setIfInBounds_toArray, List.set_cons_zero, List.set_cons_succ, i64_w, i32_w]
                  rfl
                refine pure_ (i := 4) (N := some 45) (v := ?_) (a' := ?_) #[true, true, true, true, true] rfl rfl (by kernel_rfl) (fun _ _ _ h => h) (Or.inl ⟨by rfl, ?_⟩) ?_ ?_
                rotate_left
                · intro w'
                  go_simp
                  with_reducible rfl
                rotate_left
                · simp only [Act.put, List.setIfInBounds_toArray, List.set_cons_zero, List.set_cons_succ, i64_w, i32_w]
                  rfl
                refine done_ (by kernel_rfl) ?_
                try go_wp2
                go_ret
                exact ⟨by first | rfl | (simp [errW_none, errW_some] <;> rfl) | (simp [*, errW_none, errW_some] <;> rfl), by repeat (first | (with_reducible first | exact HB.out | apply below_alloc | apply pw_below_drewN | apply below_drew1 | refine below_set ?_ GE194.out | refine below_set ?_ GE195.out | refine below_set ?_ GE211.out) | exact HB.out)⟩

end Go.Proofs.Ytffnfpnajkgnaaa.PFnExactPieceAt
