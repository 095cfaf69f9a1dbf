-- WRITTEN by xprint.py, a program of this session's. Not trusted: Lean checks it.
import Derived.Test.YtdjhcnepndflmaaPFnExactNeverHitx0
import Derived.Test.YtdjhcnepndflmaaPFnExactNeverHitx4
namespace Go.Proofs.Ytdjhcnepndflmaa.PFnExactNeverHit
open Go.RowKit Go.Proofs.YtdjhcnepndflmaaW.PrintWords Go.Proofs.YtdjhcnepndflmaaW.PrintLast Go.Proofs.YtdjhcnepndflmaaW.PrintMore Go.Proofs.YtdjhcnepndflmaaX
attribute [local go_sem] max2_int min2_int max_two min_two max_three min_three max_four min_four   -- for this text's walks alone
set_option linter.unusedVariables false
set_option linter.unusedSimpArgs false

/-! ### spec_l01Next: function 57 -/
def spec_l01Next.f (a0_0 : Int) (a0_1 : Int) (a1 : Int) : Option (Int × Int) := if a1 = 0 then (some (a0_0, IntKind.i8.wrap (a0_1 - 1))) else (if a1 = 1 then (some (IntKind.i8.wrap (a0_0 + 1), a0_1)) else (if a1 = 2 then (some (a0_0, IntKind.i8.wrap (a0_1 + 1))) else (if a1 = 3 then (some (IntKind.i8.wrap (a0_0 - 1), a0_1)) else (some (a0_0, a0_1)))))
set_option maxHeartbeats 8000000 in
set_option maxRecDepth 100000 in
theorem spec_l01Next.calls (a0_0 : Int) (a0_1 : Int) (a1 : Int) (r1 : Int) (r2 : Int) (w : World) (h : spec_l01Next.f a0_0 a0_1 a1 = some (r1, r2)) :
    Calls Try.prog 57 #[.agg #[.int .i8 a0_0, .int .i8 a0_1], .int .i64 a1] w fun e w' => e = .returned (.agg #[.int .i8 r1, .int .i8 r2]) ∧ Below w.heap.size w w' := by
  have hu34 := Try.underlying34
  have HB := Aside0.mk (Below.refl w.heap.size w)
  have H : (if a1 = 0 then (some (a0_0, IntKind.i8.wrap (a0_1 - 1))) else (if a1 = 1 then (some (IntKind.i8.wrap (a0_0 + 1), a0_1)) else (if a1 = 2 then (some (a0_0, IntKind.i8.wrap (a0_1 + 1))) else (if a1 = 3 then (some (IntKind.i8.wrap (a0_0 - 1), a0_1)) else (some (a0_0, a0_1)))))) = some (r1, r2) := h
  clear h
  by_cases c3 : a1 = 0
  · rw [if_pos c3] at H
    have c3b0 : (a1 == 0) = true := beq_iff_eq.mpr c3
    have c3b1 : (a1 != 0) = false := bne_eq_false_iff_eq.mpr c3
    clear c3
    simp only [Option.some.injEq, Prod.mk.injEq] at H
    obtain ⟨rfl, rfl⟩ := H
    go_enter Try.func57, Try.ntmps57
    go_wp2_with (first | ((with_reducible refine gate_dst (N := 2) rfl ?_); refine box_event ?hg (N := 2) ?hd (cs := #[.int .i8 a0_0, .int .i8 a0_1]) (t := 34) ?hr ?_; (case hd => rfl); (case hg => rfl); (case hr => first | (go_simp; done) | (go_simp; rfl)); intro gb176 hg w4 hbox hb; have n0_ := Aside0.mk (below_step (by repeat (first | (with_reducible first | exact HB.out | apply below_alloc | apply pw_below_drewN | apply below_drew1) | exact HB.out)) hb); have n1_ := Aside0.mk (hbox); have n2_ := Aside0.mk ((by rw [hg]; exact (below_size (by repeat (first | (with_reducible first | exact HB.out | apply below_alloc | apply pw_below_drewN | apply below_drew1) | exact HB.out))) : w.heap.size ≤ gb176)); have n3_ := Aside0.mk ((by rw [hg]; exact (below_size (by repeat (first | (with_reducible first | exact HB.out | apply below_alloc | apply pw_below_drewN | apply below_drew1) | exact HB.out))) : w.heap.size ≤ gb176)); clear HB; have HB := n0_; have BK176 := n1_; have GW176 := n2_; have GE176 := n3_; clear n0_ n1_ n2_ n3_; clear hb hbox hg) | ((with_reducible refine gate_dst (N := 4) rfl ?_); refine box_event ?hg (N := 4) ?hd (cs := #[.int .i8 0, .int .i8 0]) (t := 34) ?hr ?_; (case hd => rfl); (case hg => rfl); (case hr => first | (go_simp; done) | (go_simp; rfl)); intro gb177 hg w5 hbox hb; have n0_ := Aside0.mk (blk_below (g := gb176) (o := .cells #[.int .i8 a0_0, .int .i8 a0_1] 34 (0, 0)) (by (with_reducible repeat (first | refine blk_drewN ?_ _ | refine blk_drew ?_ | refine blk_alloc ?_ _)); exact BK176.out) hb); have n1_ := Aside0.mk (below_step (by repeat (first | (with_reducible first | exact HB.out | apply below_alloc | apply pw_below_drewN | apply below_drew1 | refine below_set ?_ GE176.out) | exact HB.out)) hb); have n2_ := Aside0.mk (hbox); have n3_ := Aside0.mk ((by rw [hg]; exact (below_size (by repeat (first | (with_reducible first | exact HB.out | apply below_alloc | apply pw_below_drewN | apply below_drew1 | refine below_set ?_ GE176.out) | exact HB.out))) : w.heap.size ≤ gb177)); have n4_ := Aside0.mk ((by rw [hg]; exact (below_size (by repeat (first | (with_reducible first | exact HB.out | apply below_alloc | apply pw_below_drewN | apply below_drew1 | refine below_set ?_ GE176.out) | exact HB.out))) : w.heap.size ≤ gb177)); have n5_ := Aside0.mk ((by rw [hg]; exact Nat.ne_of_lt (blk_lt (g := gb176) (o := .cells #[.int .i8 a0_0, .int .i8 a0_1] 34 (0, 0)) (by (with_reducible repeat (first | refine blk_drewN ?_ _ | refine blk_drew ?_ | refine blk_alloc ?_ _)); exact BK176.out)) : gb176 ≠ gb177)); have n6_ := Aside0.mk ((by rw [hg]; exact Nat.ne_of_gt (blk_lt (g := gb176) (o := .cells #[.int .i8 a0_0, .int .i8 a0_1] 34 (0, 0)) (by (with_reducible repeat (first | refine blk_drewN ?_ _ | refine blk_drew ?_ | refine blk_alloc ?_ _)); exact BK176.out)) : gb177 ≠ gb176)); clear BK176; clear HB; have BK176 := n0_; have HB := n1_; have BK177 := n2_; have GW177 := n3_; have GE177 := n4_; have NB176_177 := n5_; have NB177_176 := n6_; clear n0_ n1_ n2_ n3_ n4_ n5_ n6_; clear hb hbox hg; have hnb6 := NB176_177.out; have hnc6 := NB177_176.out; have hcz7_0 : w5.cell? ⟨gb176, 0, none⟩ = some (.int .i8 a0_0) := (blk_cell BK176.out 0).trans rfl; have hcz7_1 : w5.cell? ⟨gb176, 1, none⟩ = some (.int .i8 a0_1) := (blk_cell BK176.out 1).trans rfl; have hfz7_0 := blk_frozen BK176.out 0; have hfz7_1 := blk_frozen BK176.out 1; have hcz8_0 : w5.cell? ⟨gb177, 0, none⟩ = some (.int .i8 0) := (blk_cell BK177.out 0).trans rfl; have hcz8_1 : w5.cell? ⟨gb177, 1, none⟩ = some (.int .i8 0) := (blk_cell BK177.out 1).trans rfl; have hfz8_0 := blk_frozen BK177.out 0; have hfz8_1 := blk_frozen BK177.out 1))
    refine bodyPost_ret (results_cell_row rfl _ _ gb177 34 #[.int .i8 a0_0, .int .i8 (IntKind.i8.wrap (a0_1 - 1))] (0, 0) _ rfl (by (with_reducible repeat (first | refine blk_drewN ?_ _ | refine blk_drew ?_ | refine blk_alloc ?_ _)); refine blk_put (cs := #[.int .i8 a0_0, .int .i8 0]) ?_ 1 _ rfl; (with_reducible repeat (first | refine blk_drewN ?_ _ | refine blk_drew ?_ | refine blk_alloc ?_ _)); refine blk_put (cs := #[.int .i8 0, .int .i8 0]) ?_ 0 _ rfl; (with_reducible repeat (first | refine blk_drewN ?_ _ | refine blk_drew ?_ | refine blk_alloc ?_ _)); refine blk_far ?_ NB177_176.out _; (with_reducible repeat (first | refine blk_drewN ?_ _ | refine blk_drew ?_ | refine blk_alloc ?_ _)); exact BK177.out) Try.underlying34 rfl (by kernel_rfl)) rfl ?_
    exact ⟨by first | rfl | (simp [errW_none, errW_some] <;> rfl) | (simp [*, errW_none, errW_some] <;> rfl), by repeat (first | (with_reducible first | exact HB.out | apply below_alloc | apply pw_below_drewN | apply below_drew1 | refine below_set ?_ GE176.out | refine below_set ?_ GE177.out) | exact HB.out)⟩
  · rw [if_neg c3] at H
    have c3b0 : (a1 == 0) = false := beq_eq_false_iff_ne.mpr c3
    have c3b1 : (a1 != 0) = true := bne_iff_ne.mpr c3
    by_cases c9 : a1 = 1
    · rw [if_pos c9] at H
      have c9b0 : (a1 == 1) = true := beq_iff_eq.mpr c9
      have c9b1 : (a1 != 1) = false := bne_eq_false_iff_eq.mpr c9
      clear c9
      simp only [Option.some.injEq, Prod.mk.injEq] at H
      obtain ⟨rfl, rfl⟩ := H
      go_enter Try.func57, Try.ntmps57
      go_wp2_with (first | ((with_reducible refine gate_dst (N := 2) rfl ?_); refine box_event ?hg (N := 2) ?hd (cs := #[.int .i8 a0_0, .int .i8 a0_1]) (t := 34) ?hr ?_; (case hd => rfl); (case hg => rfl); (case hr => first | (go_simp; done) | (go_simp; rfl)); intro gb176 hg w10 hbox hb; have n0_ := Aside0.mk (below_step (by repeat (first | (with_reducible first | exact HB.out | apply below_alloc | apply pw_below_drewN | apply below_drew1) | exact HB.out)) hb); have n1_ := Aside0.mk (hbox); have n2_ := Aside0.mk ((by rw [hg]; exact (below_size (by repeat (first | (with_reducible first | exact HB.out | apply below_alloc | apply pw_below_drewN | apply below_drew1) | exact HB.out))) : w.heap.size ≤ gb176)); have n3_ := Aside0.mk ((by rw [hg]; exact (below_size (by repeat (first | (with_reducible first | exact HB.out | apply below_alloc | apply pw_below_drewN | apply below_drew1) | exact HB.out))) : w.heap.size ≤ gb176)); clear HB; have HB := n0_; have BK176 := n1_; have GW176 := n2_; have GE176 := n3_; clear n0_ n1_ n2_ n3_; clear hb hbox hg) | ((with_reducible refine gate_dst (N := 4) rfl ?_); refine box_event ?hg (N := 4) ?hd (cs := #[.int .i8 0, .int .i8 0]) (t := 34) ?hr ?_; (case hd => rfl); (case hg => rfl); (case hr => first | (go_simp; done) | (go_simp; rfl)); intro gb177 hg w11 hbox hb; have n0_ := Aside0.mk (blk_below (g := gb176) (o := .cells #[.int .i8 a0_0, .int .i8 a0_1] 34 (0, 0)) (by (with_reducible repeat (first | refine blk_drewN ?_ _ | refine blk_drew ?_ | refine blk_alloc ?_ _)); exact BK176.out) hb); have n1_ := Aside0.mk (below_step (by repeat (first | (with_reducible first | exact HB.out | apply below_alloc | apply pw_below_drewN | apply below_drew1 | refine below_set ?_ GE176.out) | exact HB.out)) hb); have n2_ := Aside0.mk (hbox); have n3_ := Aside0.mk ((by rw [hg]; exact (below_size (by repeat (first | (with_reducible first | exact HB.out | apply below_alloc | apply pw_below_drewN | apply below_drew1 | refine below_set ?_ GE176.out) | exact HB.out))) : w.heap.size ≤ gb177)); have n4_ := Aside0.mk ((by rw [hg]; exact (below_size (by repeat (first | (with_reducible first | exact HB.out | apply below_alloc | apply pw_below_drewN | apply below_drew1 | refine below_set ?_ GE176.out) | exact HB.out))) : w.heap.size ≤ gb177)); have n5_ := Aside0.mk ((by rw [hg]; exact Nat.ne_of_lt (blk_lt (g := gb176) (o := .cells #[.int .i8 a0_0, .int .i8 a0_1] 34 (0, 0)) (by (with_reducible repeat (first | refine blk_drewN ?_ _ | refine blk_drew ?_ | refine blk_alloc ?_ _)); exact BK176.out)) : gb176 ≠ gb177)); have n6_ := Aside0.mk ((by rw [hg]; exact Nat.ne_of_gt (blk_lt (g := gb176) (o := .cells #[.int .i8 a0_0, .int .i8 a0_1] 34 (0, 0)) (by (with_reducible repeat (first | refine blk_drewN ?_ _ | refine blk_drew ?_ | refine blk_alloc ?_ _)); exact BK176.out)) : gb177 ≠ gb176)); clear BK176; clear HB; have BK176 := n0_; have HB := n1_; have BK177 := n2_; have GW177 := n3_; have GE177 := n4_; have NB176_177 := n5_; have NB177_176 := n6_; clear n0_ n1_ n2_ n3_ n4_ n5_ n6_; clear hb hbox hg; have hnb12 := NB176_177.out; have hnc12 := NB177_176.out; have hcz13_0 : w11.cell? ⟨gb176, 0, none⟩ = some (.int .i8 a0_0) := (blk_cell BK176.out 0).trans rfl; have hcz13_1 : w11.cell? ⟨gb176, 1, none⟩ = some (.int .i8 a0_1) := (blk_cell BK176.out 1).trans rfl; have hfz13_0 := blk_frozen BK176.out 0; have hfz13_1 := blk_frozen BK176.out 1; have hcz14_0 : w11.cell? ⟨gb177, 0, none⟩ = some (.int .i8 0) := (blk_cell BK177.out 0).trans rfl; have hcz14_1 : w11.cell? ⟨gb177, 1, none⟩ = some (.int .i8 0) := (blk_cell BK177.out 1).trans rfl; have hfz14_0 := blk_frozen BK177.out 0; have hfz14_1 := blk_frozen BK177.out 1))
      refine bodyPost_ret (results_cell_row rfl _ _ gb177 34 #[.int .i8 (IntKind.i8.wrap (a0_0 + 1)), .int .i8 a0_1] (0, 0) _ rfl (by (with_reducible repeat (first | refine blk_drewN ?_ _ | refine blk_drew ?_ | refine blk_alloc ?_ _)); refine blk_put (cs := #[.int .i8 (IntKind.i8.wrap (a0_0 + 1)), .int .i8 0]) ?_ 1 _ rfl; (with_reducible repeat (first | refine blk_drewN ?_ _ | refine blk_drew ?_ | refine blk_alloc ?_ _)); refine blk_put (cs := #[.int .i8 0, .int .i8 0]) ?_ 0 _ rfl; (with_reducible repeat (first | refine blk_drewN ?_ _ | refine blk_drew ?_ | refine blk_alloc ?_ _)); refine blk_far ?_ NB177_176.out _; (with_reducible repeat (first | refine blk_drewN ?_ _ | refine blk_drew ?_ | refine blk_alloc ?_ _)); exact BK177.out) Try.underlying34 rfl (by kernel_rfl)) rfl ?_
      exact ⟨by first | rfl | (simp [errW_none, errW_some] <;> rfl) | (simp [*, errW_none, errW_some] <;> rfl), by repeat (first | (with_reducible first | exact HB.out | apply below_alloc | apply pw_below_drewN | apply below_drew1 | refine below_set ?_ GE176.out | refine below_set ?_ GE177.out) | exact HB.out)⟩
    · rw [if_neg c9] at H
      have c9b0 : (a1 == 1) = false := beq_eq_false_iff_ne.mpr c9
      have c9b1 : (a1 != 1) = true := bne_iff_ne.mpr c9
      by_cases c15 : a1 = 2
      · rw [if_pos c15] at H
        have c15b0 : (a1 == 2) = true := beq_iff_eq.mpr c15
        have c15b1 : (a1 != 2) = false := bne_eq_false_iff_eq.mpr c15
        clear c15
        simp only [Option.some.injEq, Prod.mk.injEq] at H
        obtain ⟨rfl, rfl⟩ := H
        go_enter Try.func57, Try.ntmps57
        go_wp2_with (first | ((with_reducible refine gate_dst (N := 2) rfl ?_); refine box_event ?hg (N := 2) ?hd (cs := #[.int .i8 a0_0, .int .i8 a0_1]) (t := 34) ?hr ?_; (case hd => rfl); (case hg => rfl); (case hr => first | (go_simp; done) | (go_simp; rfl)); intro gb176 hg w16 hbox hb; have n0_ := Aside0.mk (below_step (by repeat (first | (with_reducible first | exact HB.out | apply below_alloc | apply pw_below_drewN | apply below_drew1) | exact HB.out)) hb); have n1_ := Aside0.mk (hbox); have n2_ := Aside0.mk ((by rw [hg]; exact (below_size (by repeat (first | (with_reducible first | exact HB.out | apply below_alloc | apply pw_below_drewN | apply below_drew1) | exact HB.out))) : w.heap.size ≤ gb176)); have n3_ := Aside0.mk ((by rw [hg]; exact (below_size (by repeat (first | (with_reducible first | exact HB.out | apply below_alloc | apply pw_below_drewN | apply below_drew1) | exact HB.out))) : w.heap.size ≤ gb176)); clear HB; have HB := n0_; have BK176 := n1_; have GW176 := n2_; have GE176 := n3_; clear n0_ n1_ n2_ n3_; clear hb hbox hg) | ((with_reducible refine gate_dst (N := 4) rfl ?_); refine box_event ?hg (N := 4) ?hd (cs := #[.int .i8 0, .int .i8 0]) (t := 34) ?hr ?_; (case hd => rfl); (case hg => rfl); (case hr => first | (go_simp; done) | (go_simp; rfl)); intro gb177 hg w17 hbox hb; have n0_ := Aside0.mk (blk_below (g := gb176) (o := .cells #[.int .i8 a0_0, .int .i8 a0_1] 34 (0, 0)) (by (with_reducible repeat (first | refine blk_drewN ?_ _ | refine blk_drew ?_ | refine blk_alloc ?_ _)); exact BK176.out) hb); have n1_ := Aside0.mk (below_step (by repeat (first | (with_reducible first | exact HB.out | apply below_alloc | apply pw_below_drewN | apply below_drew1 | refine below_set ?_ GE176.out) | exact HB.out)) hb); have n2_ := Aside0.mk (hbox); have n3_ := Aside0.mk ((by rw [hg]; exact (below_size (by repeat (first | (with_reducible first | exact HB.out | apply below_alloc | apply pw_below_drewN | apply below_drew1 | refine below_set ?_ GE176.out) | exact HB.out))) : w.heap.size ≤ gb177)); have n4_ := Aside0.mk ((by rw [hg]; exact (below_size (by repeat (first | (with_reducible first | exact HB.out | apply below_alloc | apply pw_below_drewN | apply below_drew1 | refine below_set ?_ GE176.out) | exact HB.out))) : w.heap.size ≤ gb177)); have n5_ := Aside0.mk ((by rw [hg]; exact Nat.ne_of_lt (blk_lt (g := gb176) (o := .cells #[.int .i8 a0_0, .int .i8 a0_1] 34 (0, 0)) (by (with_reducible repeat (first | refine blk_drewN ?_ _ | refine blk_drew ?_ | refine blk_alloc ?_ _)); exact BK176.out)) : gb176 ≠ gb177)); have n6_ := Aside0.mk ((by rw [hg]; exact Nat.ne_of_gt (blk_lt (g := gb176) (o := .cells #[.int .i8 a0_0, .int .i8 a0_1] 34 (0, 0)) (by (with_reducible repeat (first | refine blk_drewN ?_ _ | refine blk_drew ?_ | refine blk_alloc ?_ _)); exact BK176.out)) : gb177 ≠ gb176)); clear BK176; clear HB; have BK176 := n0_; have HB := n1_; have BK177 := n2_; have GW177 := n3_; have GE177 := n4_; have NB176_177 := n5_; have NB177_176 := n6_; clear n0_ n1_ n2_ n3_ n4_ n5_ n6_; clear hb hbox hg; have hnb18 := NB176_177.out; have hnc18 := NB177_176.out; have hcz19_0 : w17.cell? ⟨gb176, 0, none⟩ = some (.int .i8 a0_0) := (blk_cell BK176.out 0).trans rfl; have hcz19_1 : w17.cell? ⟨gb176, 1, none⟩ = some (.int .i8 a0_1) := (blk_cell BK176.out 1).trans rfl; have hfz19_0 := blk_frozen BK176.out 0; have hfz19_1 := blk_frozen BK176.out 1; have hcz20_0 : w17.cell? ⟨gb177, 0, none⟩ = some (.int .i8 0) := (blk_cell BK177.out 0).trans rfl; have hcz20_1 : w17.cell? ⟨gb177, 1, none⟩ = some (.int .i8 0) := (blk_cell BK177.out 1).trans rfl; have hfz20_0 := blk_frozen BK177.out 0; have hfz20_1 := blk_frozen BK177.out 1))
        refine bodyPost_ret (results_cell_row rfl _ _ gb177 34 #[.int .i8 a0_0, .int .i8 (IntKind.i8.wrap (a0_1 + 1))] (0, 0) _ rfl (by (with_reducible repeat (first | refine blk_drewN ?_ _ | refine blk_drew ?_ | refine blk_alloc ?_ _)); refine blk_put (cs := #[.int .i8 a0_0, .int .i8 0]) ?_ 1 _ rfl; (with_reducible repeat (first | refine blk_drewN ?_ _ | refine blk_drew ?_ | refine blk_alloc ?_ _)); refine blk_put (cs := #[.int .i8 0, .int .i8 0]) ?_ 0 _ rfl; (with_reducible repeat (first | refine blk_drewN ?_ _ | refine blk_drew ?_ | refine blk_alloc ?_ _)); refine blk_far ?_ NB177_176.out _; (with_reducible repeat (first | refine blk_drewN ?_ _ | refine blk_drew ?_ | refine blk_alloc ?_ _)); exact BK177.out) Try.underlying34 rfl (by kernel_rfl)) rfl ?_
        exact ⟨by first | rfl | (simp [errW_none, errW_some] <;> rfl) | (simp [*, errW_none, errW_some] <;> rfl), by repeat (first | (with_reducible first | exact HB.out | apply below_alloc | apply pw_below_drewN | apply below_drew1 | refine below_set ?_ GE176.out | refine below_set ?_ GE177.out) | exact HB.out)⟩
      · rw [if_neg c15] at H
        have c15b0 : (a1 == 2) = false := beq_eq_false_iff_ne.mpr c15
        have c15b1 : (a1 != 2) = true := bne_iff_ne.mpr c15
        by_cases c21 : a1 = 3
        · rw [if_pos c21] at H
          have c21b0 : (a1 == 3) = true := beq_iff_eq.mpr c21
          have c21b1 : (a1 != 3) = false := bne_eq_false_iff_eq.mpr c21
          clear c21
          simp only [Option.some.injEq, Prod.mk.injEq] at H
          obtain ⟨rfl, rfl⟩ := H
          go_enter Try.func57, Try.ntmps57
          go_wp2_with (first | ((with_reducible refine gate_dst (N := 2) rfl ?_); refine box_event ?hg (N := 2) ?hd (cs := #[.int .i8 a0_0, .int .i8 a0_1]) (t := 34) ?hr ?_; (case hd => rfl); (case hg => rfl); (case hr => first | (go_simp; done) | (go_simp; rfl)); intro gb176 hg w22 hbox hb; have n0_ := Aside0.mk (below_step (by repeat (first | (with_reducible first | exact HB.out | apply below_alloc | apply pw_below_drewN | apply below_drew1) | exact HB.out)) hb); have n1_ := Aside0.mk (hbox); have n2_ := Aside0.mk ((by rw [hg]; exact (below_size (by repeat (first | (with_reducible first | exact HB.out | apply below_alloc | apply pw_below_drewN | apply below_drew1) | exact HB.out))) : w.heap.size ≤ gb176)); have n3_ := Aside0.mk ((by rw [hg]; exact (below_size (by repeat (first | (with_reducible first | exact HB.out | apply below_alloc | apply pw_below_drewN | apply below_drew1) | exact HB.out))) : w.heap.size ≤ gb176)); clear HB; have HB := n0_; have BK176 := n1_; have GW176 := n2_; have GE176 := n3_; clear n0_ n1_ n2_ n3_; clear hb hbox hg) | ((with_reducible refine gate_dst (N := 4) rfl ?_); refine box_event ?hg (N := 4) ?hd (cs := #[.int .i8 0, .int .i8 0]) (t := 34) ?hr ?_; (case hd => rfl); (case hg => rfl); (case hr => first | (go_simp; done) | (go_simp; rfl)); intro gb177 hg w23 hbox hb; have n0_ := Aside0.mk (blk_below (g := gb176) (o := .cells #[.int .i8 a0_0, .int .i8 a0_1] 34 (0, 0)) (by (with_reducible repeat (first | refine blk_drewN ?_ _ | refine blk_drew ?_ | refine blk_alloc ?_ _)); exact BK176.out) hb); have n1_ := Aside0.mk (below_step (by repeat (first | (with_reducible first | exact HB.out | apply below_alloc | apply pw_below_drewN | apply below_drew1 | refine below_set ?_ GE176.out) | exact HB.out)) hb); have n2_ := Aside0.mk (hbox); have n3_ := Aside0.mk ((by rw [hg]; exact (below_size (by repeat (first | (with_reducible first | exact HB.out | apply below_alloc | apply pw_below_drewN | apply below_drew1 | refine below_set ?_ GE176.out) | exact HB.out))) : w.heap.size ≤ gb177)); have n4_ := Aside0.mk ((by rw [hg]; exact (below_size (by repeat (first | (with_reducible first | exact HB.out | apply below_alloc | apply pw_below_drewN | apply below_drew1 | refine below_set ?_ GE176.out) | exact HB.out))) : w.heap.size ≤ gb177)); have n5_ := Aside0.mk ((by rw [hg]; exact Nat.ne_of_lt (blk_lt (g := gb176) (o := .cells #[.int .i8 a0_0, .int .i8 a0_1] 34 (0, 0)) (by (with_reducible repeat (first | refine blk_drewN ?_ _ | refine blk_drew ?_ | refine blk_alloc ?_ _)); exact BK176.out)) : gb176 ≠ gb177)); have n6_ := Aside0.mk ((by rw [hg]; exact Nat.ne_of_gt (blk_lt (g := gb176) (o := .cells #[.int .i8 a0_0, .int .i8 a0_1] 34 (0, 0)) (by (with_reducible repeat (first | refine blk_drewN ?_ _ | refine blk_drew ?_ | refine blk_alloc ?_ _)); exact BK176.out)) : gb177 ≠ gb176)); clear BK176; clear HB; have BK176 := n0_; have HB := n1_; have BK177 := n2_; have GW177 := n3_; have GE177 := n4_; have NB176_177 := n5_; have NB177_176 := n6_; clear n0_ n1_ n2_ n3_ n4_ n5_ n6_; clear hb hbox hg; have hnb24 := NB176_177.out; have hnc24 := NB177_176.out; have hcz25_0 : w23.cell? ⟨gb176, 0, none⟩ = some (.int .i8 a0_0) := (blk_cell BK176.out 0).trans rfl; have hcz25_1 : w23.cell? ⟨gb176, 1, none⟩ = some (.int .i8 a0_1) := (blk_cell BK176.out 1).trans rfl; have hfz25_0 := blk_frozen BK176.out 0; have hfz25_1 := blk_frozen BK176.out 1; have hcz26_0 : w23.cell? ⟨gb177, 0, none⟩ = some (.int .i8 0) := (blk_cell BK177.out 0).trans rfl; have hcz26_1 : w23.cell? ⟨gb177, 1, none⟩ = some (.int .i8 0) := (blk_cell BK177.out 1).trans rfl; have hfz26_0 := blk_frozen BK177.out 0; have hfz26_1 := blk_frozen BK177.out 1))
          refine bodyPost_ret (results_cell_row rfl _ _ gb177 34 #[.int .i8 (IntKind.i8.wrap (a0_0 - 1)), .int .i8 a0_1] (0, 0) _ rfl (by (with_reducible repeat (first | refine blk_drewN ?_ _ | refine blk_drew ?_ | refine blk_alloc ?_ _)); refine blk_put (cs := #[.int .i8 (IntKind.i8.wrap (a0_0 - 1)), .int .i8 0]) ?_ 1 _ rfl; (with_reducible repeat (first | refine blk_drewN ?_ _ | refine blk_drew ?_ | refine blk_alloc ?_ _)); refine blk_put (cs := #[.int .i8 0, .int .i8 0]) ?_ 0 _ rfl; (with_reducible repeat (first | refine blk_drewN ?_ _ | refine blk_drew ?_ | refine blk_alloc ?_ _)); refine blk_far ?_ NB177_176.out _; (with_reducible repeat (first | refine blk_drewN ?_ _ | refine blk_drew ?_ | refine blk_alloc ?_ _)); exact BK177.out) Try.underlying34 rfl (by kernel_rfl)) rfl ?_
          exact ⟨by first | rfl | (simp [errW_none, errW_some] <;> rfl) | (simp [*, errW_none, errW_some] <;> rfl), by repeat (first | (with_reducible first | exact HB.out | apply below_alloc | apply pw_below_drewN | apply below_drew1 | refine below_set ?_ GE176.out | refine below_set ?_ GE177.out) | exact HB.out)⟩
        · rw [if_neg c21] at H
          have c21b0 : (a1 == 3) = false := beq_eq_false_iff_ne.mpr c21
          have c21b1 : (a1 != 3) = true := bne_iff_ne.mpr c21
          simp only [Option.some.injEq, Prod.mk.injEq] at H
          obtain ⟨rfl, rfl⟩ := H
          go_enter Try.func57, Try.ntmps57
          go_wp2_with (first | ((with_reducible refine gate_dst (N := 2) rfl ?_); refine box_event ?hg (N := 2) ?hd (cs := #[.int .i8 a0_0, .int .i8 a0_1]) (t := 34) ?hr ?_; (case hd => rfl); (case hg => rfl); (case hr => first | (go_simp; done) | (go_simp; rfl)); intro gb176 hg w27 hbox hb; have n0_ := Aside0.mk (below_step (by repeat (first | (with_reducible first | exact HB.out | apply below_alloc | apply pw_below_drewN | apply below_drew1) | exact HB.out)) hb); have n1_ := Aside0.mk (hbox); have n2_ := Aside0.mk ((by rw [hg]; exact (below_size (by repeat (first | (with_reducible first | exact HB.out | apply below_alloc | apply pw_below_drewN | apply below_drew1) | exact HB.out))) : w.heap.size ≤ gb176)); have n3_ := Aside0.mk ((by rw [hg]; exact (below_size (by repeat (first | (with_reducible first | exact HB.out | apply below_alloc | apply pw_below_drewN | apply below_drew1) | exact HB.out))) : w.heap.size ≤ gb176)); clear HB; have HB := n0_; have BK176 := n1_; have GW176 := n2_; have GE176 := n3_; clear n0_ n1_ n2_ n3_; clear hb hbox hg) | ((with_reducible refine gate_dst (N := 4) rfl ?_); refine box_event ?hg (N := 4) ?hd (cs := #[.int .i8 0, .int .i8 0]) (t := 34) ?hr ?_; (case hd => rfl); (case hg => rfl); (case hr => first | (go_simp; done) | (go_simp; rfl)); intro gb177 hg w28 hbox hb; have n0_ := Aside0.mk (blk_below (g := gb176) (o := .cells #[.int .i8 a0_0, .int .i8 a0_1] 34 (0, 0)) (by (with_reducible repeat (first | refine blk_drewN ?_ _ | refine blk_drew ?_ | refine blk_alloc ?_ _)); exact BK176.out) hb); have n1_ := Aside0.mk (below_step (by repeat (first | (with_reducible first | exact HB.out | apply below_alloc | apply pw_below_drewN | apply below_drew1 | refine below_set ?_ GE176.out) | exact HB.out)) hb); have n2_ := Aside0.mk (hbox); have n3_ := Aside0.mk ((by rw [hg]; exact (below_size (by repeat (first | (with_reducible first | exact HB.out | apply below_alloc | apply pw_below_drewN | apply below_drew1 | refine below_set ?_ GE176.out) | exact HB.out))) : w.heap.size ≤ gb177)); have n4_ := Aside0.mk ((by rw [hg]; exact (below_size (by repeat (first | (with_reducible first | exact HB.out | apply below_alloc | apply pw_below_drewN | apply below_drew1 | refine below_set ?_ GE176.out) | exact HB.out))) : w.heap.size ≤ gb177)); have n5_ := Aside0.mk ((by rw [hg]; exact Nat.ne_of_lt (blk_lt (g := gb176) (o := .cells #[.int .i8 a0_0, .int .i8 a0_1] 34 (0, 0)) (by (with_reducible repeat (first | refine blk_drewN ?_ _ | refine blk_drew ?_ | refine blk_alloc ?_ _)); exact BK176.out)) : gb176 ≠ gb177)); have n6_ := Aside0.mk ((by rw [hg]; exact Nat.ne_of_gt (blk_lt (g := gb176) (o := .cells #[.int .i8 a0_0, .int .i8 a0_1] 34 (0, 0)) (by (with_reducible repeat (first | refine blk_drewN ?_ _ | refine blk_drew ?_ | refine blk_alloc ?_ _)); exact BK176.out)) : gb177 ≠ gb176)); clear BK176; clear HB; have BK176 := n0_; have HB := n1_; have BK177 := n2_; have GW177 := n3_; have GE177 := n4_; have NB176_177 := n5_; have NB177_176 := n6_; clear n0_ n1_ n2_ n3_ n4_ n5_ n6_; clear hb hbox hg; have hnb29 := NB176_177.out; have hnc29 := NB177_176.out; have hcz30_0 : w28.cell? ⟨gb176, 0, none⟩ = some (.int .i8 a0_0) := (blk_cell BK176.out 0).trans rfl; have hcz30_1 : w28.cell? ⟨gb176, 1, none⟩ = some (.int .i8 a0_1) := (blk_cell BK176.out 1).trans rfl; have hfz30_0 := blk_frozen BK176.out 0; have hfz30_1 := blk_frozen BK176.out 1; have hcz31_0 : w28.cell? ⟨gb177, 0, none⟩ = some (.int .i8 0) := (blk_cell BK177.out 0).trans rfl; have hcz31_1 : w28.cell? ⟨gb177, 1, none⟩ = some (.int .i8 0) := (blk_cell BK177.out 1).trans rfl; have hfz31_0 := blk_frozen BK177.out 0; have hfz31_1 := blk_frozen BK177.out 1))
          refine bodyPost_ret (results_cell_row rfl _ _ gb177 34 #[.int .i8 a0_0, .int .i8 a0_1] (0, 0) _ rfl (by (with_reducible repeat (first | refine blk_drewN ?_ _ | refine blk_drew ?_ | refine blk_alloc ?_ _)); refine blk_put (cs := #[.int .i8 a0_0, .int .i8 0]) ?_ 1 _ rfl; (with_reducible repeat (first | refine blk_drewN ?_ _ | refine blk_drew ?_ | refine blk_alloc ?_ _)); refine blk_put (cs := #[.int .i8 0, .int .i8 0]) ?_ 0 _ rfl; (with_reducible repeat (first | refine blk_drewN ?_ _ | refine blk_drew ?_ | refine blk_alloc ?_ _)); exact BK177.out) Try.underlying34 rfl (by kernel_rfl)) rfl ?_
          exact ⟨by first | rfl | (simp [errW_none, errW_some] <;> rfl) | (simp [*, errW_none, errW_some] <;> rfl), by repeat (first | (with_reducible first | exact HB.out | apply below_alloc | apply pw_below_drewN | apply below_drew1 | refine below_set ?_ GE176.out | refine below_set ?_ GE177.out) | exact HB.out)⟩

/-! ### spec_l01Near: function 38 -/
def spec_l01Near.f (k : Nat) (l0 : List (S30)) (a1 : Int) (a2 : Int) : Option (Int) := if 0 < (l0.length : Int) then (if 0 ≤ a1 then (if a1 < (((rd_T30 l0 0).f2).length : Int) then ((spec_l01Next.f ((rd_T62 ((rd_T30 l0 0).f2) a1).f0.f0) ((rd_T62 ((rd_T30 l0 0).f2) a1).f0.f1) a2).bind fun bt180 => ((spec_l01Find.f k l0 bt180.1 bt180.2).bind fun t182 => (some t182))) else (none)) else (none)) else (none)
theorem spec_l01Near.mono : ∀ a0 a1 a2 k, LeO (spec_l01Near.f k a0 a1 a2) (spec_l01Near.f (k + 1) a0 a1 a2) := by
  intro a0 a1 a2 k
  unfold spec_l01Near.f
  repeat' first
      | (with_reducible exact spec_l01Find.mono _ _ _ _)
      | (with_reducible exact LeO.refl _)
      | (with_reducible exact LeO.none _)
      | (with_reducible refine LeO.ite ?_ ?_)
      | (with_reducible refine LeO.bind ?_ (fun _ => ?_))
      | exact spec_l01Find.mono _ _ _ _
      | exact LeO.none _
      | refine LeO.ite ?_ ?_
      | refine LeO.bind ?_ (fun _ => ?_)
set_option maxHeartbeats 8000000 in
set_option maxRecDepth 100000 in
theorem spec_l01Near.calls (k : Nat) (adp0 : Addr) (l0 : List (S30)) (a1 : Int) (a2 : Int) (r : Int) (w : World) (hr0 : Kd.C k30 w (some adp0) l0.length l0) (h : spec_l01Near.f k l0 a1 a2 = some r) :
    Calls Try.prog 38 #[.pointer (some adp0), .int .i64 a1, .int .i64 a2] w fun e w' => e = .returned (.int .i64 r) ∧ Below w.heap.size w w' := by
  have hu34 := Try.underlying34
  have HR0 := Aside0.mk hr0
  clear hr0
  have HB := Aside0.mk (Below.refl w.heap.size w)
  have H : (if 0 < (l0.length : Int) then (if 0 ≤ a1 then (if a1 < (((rd_T30 l0 0).f2).length : Int) then ((spec_l01Next.f ((rd_T62 ((rd_T30 l0 0).f2) a1).f0.f0) ((rd_T62 ((rd_T30 l0 0).f2) a1).f0.f1) a2).bind fun bt180 => ((spec_l01Find.f k l0 bt180.1 bt180.2).bind fun t182 => (some t182))) else (none)) else (none)) else (none)) = some r := h
  clear h
  by_cases c4 : 0 < (l0.length : Int)
  · rw [if_pos c4] at H
    have c4b0 : decide (0 < (l0.length : Int)) = true := decide_eq_true c4
    have c4b1 : decide (0 < l0.length) = true := decide_eq_true (by omega)
    clear c4
    by_cases c5 : 0 ≤ a1
    · rw [if_pos c5] at H
      have c5b0 : decide (0 ≤ a1) = true := decide_eq_true c5
      clear c5
      by_cases c6 : a1 < (((rd_T30 l0 0).f2).length : Int)
      · rw [if_pos c6] at H
        have c6b0 : decide (a1 < (((rd_T30 l0 0).f2).length : Int)) = true := decide_eq_true c6
        clear c6
        replace H := Option.bind_eq_some_iff.mp H
        obtain ⟨⟨t180, t181⟩, A70, H⟩ := H
        replace H : ((spec_l01Find.f k l0 t180 t181).bind fun t182 => (some t182)) = some r := H
        have A7 := Aside0.mk A70
        clear A70
        replace H := Option.bind_eq_some_iff.mp H
        obtain ⟨t182, A80, H⟩ := H
        replace H : (some t182) = some r := H
        have A8 := Aside0.mk A80
        clear A80
        obtain rfl := Option.some.inj H
        have p178 : 0 ≤ (0 : Int) := (by omega)
        have q178 : 0 < (l0.length : Int) := of_decide_eq_true (by first | (with_reducible assumption) | assumption)
        obtain ⟨ad178, A178_2, c178_2, e178, hx178_0, hx178_1, hx178_2, hl178_2, hi178_2⟩ := at_T30 HR0.out 0 p178 q178
        obtain rfl : adp0 = ad178 := (by injection e178)
        have qi178 : (0 < l0.length) = True := eq_true (by omega)
        (try rw [show ((0 : Int)).toNat = 0 from rfl] at hx178_0)
        (try rw [show 0 * 3 = 0 from rfl] at hx178_0)
        (try rw [Addr.add_zero'] at hx178_0)
        (try rw [show ((0 : Int)).toNat = 0 from rfl] at hx178_1)
        (try rw [show 0 * 3 = 0 from rfl] at hx178_1)
        (try rw [Addr.add_zero'] at hx178_1)
        (try rw [show ((0 : Int)).toNat = 0 from rfl] at hx178_2)
        (try rw [show 0 * 3 = 0 from rfl] at hx178_2)
        (try rw [Addr.add_zero'] at hx178_2)
        have HR178_2 := Aside0.mk hi178_2
        have HC178_2 := Aside0.mk hl178_2
        clear hi178_2 hl178_2
        replace p178 := eq_true p178
        replace q178 := eq_true q178
        have p179 : 0 ≤ (a1 : Int) := of_decide_eq_true (by first | (with_reducible assumption) | assumption)
        have q179 : a1 < (((rd_T30 l0 0).f2).length : Int) := of_decide_eq_true (by first | (with_reducible assumption) | assumption)
        obtain ⟨ad179, e179, hx179_0, hx179_1, hx179_2, hx179_3, hx179_4⟩ := at_T62 HR178_2.out a1 p179 q179
        cases e179
        replace p179 := eq_true p179
        replace q179 := eq_true q179
        go_enter Try.func38, Try.ntmps38
        go_wp2_with (first | ((with_reducible refine gate_callee (f := 57) rfl ?_); refine goesL_ (some 17) rfl rfl Try.func57 (by kernel_rfl) rfl #[.agg #[.int .i8 ((rd_T62 ((rd_T30 l0 0).f2) a1).f0.f0), .int .i8 ((rd_T62 ((rd_T30 l0 0).f2) a1).f0.f1)], .int .i64 a2] rfl (by (try simp only [List.map_toArray, List.map_cons, List.map_nil]); first | done | rfl | (simp only [List.length_drop, List.length_take]; rfl)) ?_; (with_reducible refine (spec_l01Next.calls ((rd_T62 ((rd_T30 l0 0).f2) a1).f0.f0) ((rd_T62 ((rd_T30 l0 0).f2) a1).f0.f1) a2 t180 t181 _ A7.out).mono ?_); rintro e w9 ⟨rfl, hb⟩; refine ⟨_, rfl, ?_⟩; have n0_ := Aside0.mk (below_step (by repeat (first | (with_reducible first | exact HB.out | apply below_alloc | apply pw_below_drewN | apply below_drew1) | exact HB.out)) hb); clear HB; have HB := n0_; clear n0_; (try clear hb); (try clear hb2); (try clear hk); (try clear hi)) | ((with_reducible refine gate_callee (f := 26) rfl ?_); refine goesL_ (some 18) rfl rfl Try.func26 (by kernel_rfl) rfl #[.pointer (some adp0), .agg #[.int .i8 t180, .int .i8 t181]] rfl (by (try simp only [List.map_toArray, List.map_cons, List.map_nil]); first | done | rfl | (simp only [List.length_drop, List.length_take]; rfl)) ?_; (with_reducible refine (spec_l01Find.calls k _ l0 t180 t181 t182 _ ?side1 A8.out).mono ?_); (case side1 => repeat (first | exact (Kd.C_below HR0.out HB.out) | (with_reducible refine Kd.C_alloc ?_ _) | (with_reducible refine Kd.C_drewN ?_ _) | (with_reducible refine Kd.C_drew ?_))); rintro e w10 ⟨rfl, hb⟩; refine ⟨_, rfl, ?_⟩; have n0_ := Aside0.mk (below_step (by repeat (first | (with_reducible first | exact HB.out | apply below_alloc | apply pw_below_drewN | apply below_drew1) | exact HB.out)) hb); clear HB; have HB := n0_; clear n0_; (try clear hb); (try clear hb2); (try clear hk); (try clear hi)))
        go_ret
        exact ⟨by first | rfl | (simp [errW_none, errW_some] <;> rfl) | (simp [*, errW_none, errW_some] <;> rfl), by repeat (first | (with_reducible first | exact HB.out | apply below_alloc | apply pw_below_drewN | apply below_drew1) | exact HB.out)⟩
      · rw [if_neg c6] at H
        exact absurd H (by simp)
    · rw [if_neg c5] at H
      exact absurd H (by simp)
  · rw [if_neg c4] at H
    exact absurd H (by simp)

/-! ### spec_l01Table: function 58 -/
def spec_l01Table.f  : Option (Int × Int × Int × Int × Int × Int × Int × Int × Int × Int × Int × Int × Int × Int × Int × Int × Int × Int × Int × Int × Int × Int × Int × Int) := some ((-1), 8, (-1), 2, (-1), (-1), 8, 4, 12, (-1), 9, 5, (-1), (-1), (-1), 2, 0, 8, 0, 2, 4, 8, 1, 2)
set_option maxHeartbeats 8000000 in
set_option maxRecDepth 100000 in
theorem spec_l01Table.run (w : World) : Calls Try.prog 58 #[] w fun e w' => e = .returned (.agg #[.int .i64 (-1), .int .i64 8, .int .i64 (-1), .int .i64 2, .int .i64 (-1), .int .i64 (-1), .int .i64 8, .int .i64 4, .int .i64 12, .int .i64 (-1), .int .i64 9, .int .i64 5, .int .i64 (-1), .int .i64 (-1), .int .i64 (-1), .int .i64 2, .int .i64 0, .int .i64 8, .int .i64 0, .int .i64 2, .int .i64 4, .int .i64 8, .int .i64 1, .int .i64 2]) ∧ Below w.heap.size w w' := by
  have hi : (Try.prog.info? 92).map (·.size) = some 24 := by kernel_rfl
  have ld := run_loadCellsFrom_new (P := Try.prog) w 92 #[.int .i64 (-1), .int .i64 8, .int .i64 (-1), .int .i64 2, .int .i64 (-1), .int .i64 (-1), .int .i64 8, .int .i64 4, .int .i64 12, .int .i64 (-1), .int .i64 9, .int .i64 5, .int .i64 (-1), .int .i64 (-1), .int .i64 (-1), .int .i64 2, .int .i64 0, .int .i64 8, .int .i64 0, .int .i64 2, .int .i64 4, .int .i64 8, .int .i64 1, .int .i64 2] 24 rfl
  go_enter Try.func58, Try.ntmps58
  go_wp2_with (first | ((with_reducible refine gate_dst (N := 1) rfl ?_); refine Kd.event_run rfl (v := .agg #[.int .i64 (-1), .int .i64 8, .int .i64 (-1), .int .i64 2]) (by kernel_rfl) ?_) | ((with_reducible refine gate_dst (N := 2) rfl ?_); refine Kd.event_run rfl (v := .agg #[.int .i64 (-1), .int .i64 (-1), .int .i64 8, .int .i64 4]) (by kernel_rfl) ?_) | ((with_reducible refine gate_dst (N := 3) rfl ?_); refine Kd.event_run rfl (v := .agg #[.int .i64 12, .int .i64 (-1), .int .i64 9, .int .i64 5]) (by kernel_rfl) ?_) | ((with_reducible refine gate_dst (N := 4) rfl ?_); refine Kd.event_run rfl (v := .agg #[.int .i64 (-1), .int .i64 (-1), .int .i64 (-1), .int .i64 2]) (by kernel_rfl) ?_) | ((with_reducible refine gate_dst (N := 5) rfl ?_); refine Kd.event_run rfl (v := .agg #[.int .i64 0, .int .i64 8, .int .i64 0, .int .i64 2]) (by kernel_rfl) ?_) | ((with_reducible refine gate_dst (N := 6) rfl ?_); refine Kd.event_run rfl (v := .agg #[.int .i64 4, .int .i64 8, .int .i64 1, .int .i64 2]) (by kernel_rfl) ?_) | ((with_reducible refine gate_dst (N := 7) rfl ?_); refine Kd.event_run rfl (v := .agg #[.int .i64 (-1), .int .i64 8, .int .i64 (-1), .int .i64 2, .int .i64 (-1), .int .i64 (-1), .int .i64 8, .int .i64 4, .int .i64 12, .int .i64 (-1), .int .i64 9, .int .i64 5, .int .i64 (-1), .int .i64 (-1), .int .i64 (-1), .int .i64 2, .int .i64 0, .int .i64 8, .int .i64 0, .int .i64 2, .int .i64 4, .int .i64 8, .int .i64 1, .int .i64 2]) (by kernel_rfl) ?_) | (refine xstore_event (W0 := w) (c := #[.int .i64 0, .int .i64 0, .int .i64 0, .int .i64 0, .int .i64 0, .int .i64 0, .int .i64 0, .int .i64 0, .int .i64 0, .int .i64 0, .int .i64 0, .int .i64 0, .int .i64 0, .int .i64 0, .int .i64 0, .int .i64 0, .int .i64 0, .int .i64 0, .int .i64 0, .int .i64 0, .int .i64 0, .int .i64 0, .int .i64 0, .int .i64 0]) (c' := #[.int .i64 (-1), .int .i64 8, .int .i64 (-1), .int .i64 2, .int .i64 (-1), .int .i64 (-1), .int .i64 8, .int .i64 4, .int .i64 12, .int .i64 (-1), .int .i64 9, .int .i64 5, .int .i64 (-1), .int .i64 (-1), .int .i64 (-1), .int .i64 2, .int .i64 0, .int .i64 8, .int .i64 0, .int .i64 2, .int .i64 4, .int .i64 8, .int .i64 1, .int .i64 2]) rfl rfl rfl rfl hi rfl (by kernel_rfl) ?_))
  refine bodyPost_ret (results_cell_row rfl _ _ w.heap.size 92 #[.int .i64 (-1), .int .i64 8, .int .i64 (-1), .int .i64 2, .int .i64 (-1), .int .i64 (-1), .int .i64 8, .int .i64 4, .int .i64 12, .int .i64 (-1), .int .i64 9, .int .i64 5, .int .i64 (-1), .int .i64 (-1), .int .i64 (-1), .int .i64 2, .int .i64 0, .int .i64 8, .int .i64 0, .int .i64 2, .int .i64 4, .int .i64 8, .int .i64 1, .int .i64 2] (0, 0) _ rfl (blk_new w _) Try.underlying92 rfl (by kernel_rfl)) rfl ?_
  exact ⟨rfl, (Below.refl _ _).alloc (Nat.le_refl _) _⟩
set_option maxRecDepth 100000 in
theorem spec_l01Table.calls (r1 : Int) (r2 : Int) (r3 : Int) (r4 : Int) (r5 : Int) (r6 : Int) (r7 : Int) (r8 : Int) (r9 : Int) (r10 : Int) (r11 : Int) (r12 : Int) (r13 : Int) (r14 : Int) (r15 : Int) (r16 : Int) (r17 : Int) (r18 : Int) (r19 : Int) (r20 : Int) (r21 : Int) (r22 : Int) (r23 : Int) (r24 : Int) (w : World) (h : spec_l01Table.f  = some (r1, r2, r3, r4, r5, r6, r7, r8, r9, r10, r11, r12, r13, r14, r15, r16, r17, r18, r19, r20, r21, r22, r23, r24)) :
    Calls Try.prog 58 #[] w fun e w' => e = .returned (.agg #[.int .i64 r1, .int .i64 r2, .int .i64 r3, .int .i64 r4, .int .i64 r5, .int .i64 r6, .int .i64 r7, .int .i64 r8, .int .i64 r9, .int .i64 r10, .int .i64 r11, .int .i64 r12, .int .i64 r13, .int .i64 r14, .int .i64 r15, .int .i64 r16, .int .i64 r17, .int .i64 r18, .int .i64 r19, .int .i64 r20, .int .i64 r21, .int .i64 r22, .int .i64 r23, .int .i64 r24]) ∧ Below w.heap.size w w' := by
  have e : (((-1), 8, (-1), 2, (-1), (-1), 8, 4, 12, (-1), 9, 5, (-1), (-1), (-1), 2, 0, 8, 0, 2, 4, 8, 1, 2) : Int × Int × Int × Int × Int × Int × Int × Int × Int × Int × Int × Int × Int × Int × Int × Int × Int × Int × Int × Int × Int × Int × Int × Int) = (r1, r2, r3, r4, r5, r6, r7, r8, r9, r10, r11, r12, r13, r14, r15, r16, r17, r18, r19, r20, r21, r22, r23, r24) := Option.some.inj h
  clear h
  have e1 := congrArg Prod.fst e
  replace e := congrArg Prod.snd e
  dsimp only at e e1
  have e2 := congrArg Prod.fst e
  replace e := congrArg Prod.snd e
  dsimp only at e e2
  have e3 := congrArg Prod.fst e
  replace e := congrArg Prod.snd e
  dsimp only at e e3
  have e4 := congrArg Prod.fst e
  replace e := congrArg Prod.snd e
  dsimp only at e e4
  have e5 := congrArg Prod.fst e
  replace e := congrArg Prod.snd e
  dsimp only at e e5
  have e6 := congrArg Prod.fst e
  replace e := congrArg Prod.snd e
  dsimp only at e e6
  have e7 := congrArg Prod.fst e
  replace e := congrArg Prod.snd e
  dsimp only at e e7
  have e8 := congrArg Prod.fst e
  replace e := congrArg Prod.snd e
  dsimp only at e e8
  have e9 := congrArg Prod.fst e
  replace e := congrArg Prod.snd e
  dsimp only at e e9
  have e10 := congrArg Prod.fst e
  replace e := congrArg Prod.snd e
  dsimp only at e e10
  have e11 := congrArg Prod.fst e
  replace e := congrArg Prod.snd e
  dsimp only at e e11
  have e12 := congrArg Prod.fst e
  replace e := congrArg Prod.snd e
  dsimp only at e e12
  have e13 := congrArg Prod.fst e
  replace e := congrArg Prod.snd e
  dsimp only at e e13
  have e14 := congrArg Prod.fst e
  replace e := congrArg Prod.snd e
  dsimp only at e e14
  have e15 := congrArg Prod.fst e
  replace e := congrArg Prod.snd e
  dsimp only at e e15
  have e16 := congrArg Prod.fst e
  replace e := congrArg Prod.snd e
  dsimp only at e e16
  have e17 := congrArg Prod.fst e
  replace e := congrArg Prod.snd e
  dsimp only at e e17
  have e18 := congrArg Prod.fst e
  replace e := congrArg Prod.snd e
  dsimp only at e e18
  have e19 := congrArg Prod.fst e
  replace e := congrArg Prod.snd e
  dsimp only at e e19
  have e20 := congrArg Prod.fst e
  replace e := congrArg Prod.snd e
  dsimp only at e e20
  have e21 := congrArg Prod.fst e
  replace e := congrArg Prod.snd e
  dsimp only at e e21
  have e22 := congrArg Prod.fst e
  replace e := congrArg Prod.snd e
  dsimp only at e e22
  have e23 := congrArg Prod.fst e
  replace e := congrArg Prod.snd e
  dsimp only at e e23
  have e24 := e
  subst e1
  subst e2
  subst e3
  subst e4
  subst e5
  subst e6
  subst e7
  subst e8
  subst e9
  subst e10
  subst e11
  subst e12
  subst e13
  subst e14
  subst e15
  subst e16
  subst e17
  subst e18
  subst e19
  subst e20
  subst e21
  subst e22
  subst e23
  subst e24
  exact spec_l01Table.run w

/-! ### spec_l01Hits: function 39 -/
def spec_l01Hits.l0 : Nat → Int → Int → Int → Int → Option (Int)
  | 0, _, _, _, _ => none
  | k + 1, x5, x6, x7, x8 => if x8 < 4 then (if 0 ≤ (IntKind.u64.wrap (x8)) then (if (Int.tmod (shr .i64 x6 (IntKind.u64.wrap (x8))) 2) = 1 then (if 0 ≤ (IntKind.u64.wrap (Int.tmod (wrap64 (x8 + x5)) 4)) then (spec_l01Hits.l0 k x5 x6 (wrap64 (x7 + (shl .i64 1 (IntKind.u64.wrap (Int.tmod (wrap64 (x8 + x5)) 4))))) (wrap64 (x8 + 1))) else (none)) else (spec_l01Hits.l0 k x5 x6 x7 (wrap64 (x8 + 1)))) else (none)) else (some x7)
def spec_l01Hits.f (k : Nat) (l0 : List (S62)) (a1 : Int) : Option (Int) := if 0 < (l0.length : Int) then ((spec_l01Table.f).bind fun bt184 => (if 0 ≤ ((rd_T62 l0 0).f1) then (if ((rd_T62 l0 0).f1) < 6 then (if 0 ≤ (Int.tmod (wrap64 ((wrap64 (a1 + 4)) - (wrap64 ((rd_T62 l0 0).f2)))) 4) then (if (Int.tmod (wrap64 ((wrap64 (a1 + 4)) - (wrap64 ((rd_T62 l0 0).f2)))) 4) < 4 then (if (rd [rd [bt184.1, bt184.2.2.2.2.1, bt184.2.2.2.2.2.2.2.2.1, bt184.2.2.2.2.2.2.2.2.2.2.2.2.1, bt184.2.2.2.2.2.2.2.2.2.2.2.2.2.2.2.2.1, bt184.2.2.2.2.2.2.2.2.2.2.2.2.2.2.2.2.2.2.2.2.1] ((rd_T62 l0 0).f1), rd [bt184.2.1, bt184.2.2.2.2.2.1, bt184.2.2.2.2.2.2.2.2.2.1, bt184.2.2.2.2.2.2.2.2.2.2.2.2.2.1, bt184.2.2.2.2.2.2.2.2.2.2.2.2.2.2.2.2.2.1, bt184.2.2.2.2.2.2.2.2.2.2.2.2.2.2.2.2.2.2.2.2.2.1] ((rd_T62 l0 0).f1), rd [bt184.2.2.1, bt184.2.2.2.2.2.2.1, bt184.2.2.2.2.2.2.2.2.2.2.1, bt184.2.2.2.2.2.2.2.2.2.2.2.2.2.2.1, bt184.2.2.2.2.2.2.2.2.2.2.2.2.2.2.2.2.2.2.1, bt184.2.2.2.2.2.2.2.2.2.2.2.2.2.2.2.2.2.2.2.2.2.2.1] ((rd_T62 l0 0).f1), rd [bt184.2.2.2.1, bt184.2.2.2.2.2.2.2.1, bt184.2.2.2.2.2.2.2.2.2.2.2.1, bt184.2.2.2.2.2.2.2.2.2.2.2.2.2.2.2.1, bt184.2.2.2.2.2.2.2.2.2.2.2.2.2.2.2.2.2.2.2.1, bt184.2.2.2.2.2.2.2.2.2.2.2.2.2.2.2.2.2.2.2.2.2.2.2] ((rd_T62 l0 0).f1)] (Int.tmod (wrap64 ((wrap64 (a1 + 4)) - (wrap64 ((rd_T62 l0 0).f2)))) 4)) < 0 then (some (-1)) else (spec_l01Hits.l0 k (wrap64 ((rd_T62 l0 0).f2)) (rd [rd [bt184.1, bt184.2.2.2.2.1, bt184.2.2.2.2.2.2.2.2.1, bt184.2.2.2.2.2.2.2.2.2.2.2.2.1, bt184.2.2.2.2.2.2.2.2.2.2.2.2.2.2.2.2.1, bt184.2.2.2.2.2.2.2.2.2.2.2.2.2.2.2.2.2.2.2.2.1] ((rd_T62 l0 0).f1), rd [bt184.2.1, bt184.2.2.2.2.2.1, bt184.2.2.2.2.2.2.2.2.2.1, bt184.2.2.2.2.2.2.2.2.2.2.2.2.2.1, bt184.2.2.2.2.2.2.2.2.2.2.2.2.2.2.2.2.2.1, bt184.2.2.2.2.2.2.2.2.2.2.2.2.2.2.2.2.2.2.2.2.2.1] ((rd_T62 l0 0).f1), rd [bt184.2.2.1, bt184.2.2.2.2.2.2.1, bt184.2.2.2.2.2.2.2.2.2.2.1, bt184.2.2.2.2.2.2.2.2.2.2.2.2.2.2.1, bt184.2.2.2.2.2.2.2.2.2.2.2.2.2.2.2.2.2.2.1, bt184.2.2.2.2.2.2.2.2.2.2.2.2.2.2.2.2.2.2.2.2.2.2.1] ((rd_T62 l0 0).f1), rd [bt184.2.2.2.1, bt184.2.2.2.2.2.2.2.1, bt184.2.2.2.2.2.2.2.2.2.2.2.1, bt184.2.2.2.2.2.2.2.2.2.2.2.2.2.2.2.1, bt184.2.2.2.2.2.2.2.2.2.2.2.2.2.2.2.2.2.2.2.1, bt184.2.2.2.2.2.2.2.2.2.2.2.2.2.2.2.2.2.2.2.2.2.2.2] ((rd_T62 l0 0).f1)] (Int.tmod (wrap64 ((wrap64 (a1 + 4)) - (wrap64 ((rd_T62 l0 0).f2)))) 4)) 0 0)) else (none)) else (none)) else (none)) else (none))) else (none)
theorem spec_l01Hits.mono_l : ∀ k, (∀ y0 y1 y2 y3, LeO (spec_l01Hits.l0 k y0 y1 y2 y3) (spec_l01Hits.l0 (k + 1) y0 y1 y2 y3))
  | 0 => fun _ _ _ _ r h => by simp [spec_l01Hits.l0] at h
  | k + 1 => by
    have ih0 := spec_l01Hits.mono_l k
    · intro y0 y1 y2 y3
      unfold spec_l01Hits.l0
      repeat' first
      | (with_reducible exact ih0 _ _ _ _)
      | (with_reducible exact LeO.refl _)
      | (with_reducible exact LeO.none _)
      | (with_reducible refine LeO.ite ?_ ?_)
      | (with_reducible refine LeO.bind ?_ (fun _ => ?_))
      | exact ih0 _ _ _ _
      | exact LeO.none _
      | refine LeO.ite ?_ ?_
      | refine LeO.bind ?_ (fun _ => ?_)
theorem spec_l01Hits.mono : ∀ a0 a1 k, LeO (spec_l01Hits.f k a0 a1) (spec_l01Hits.f (k + 1) a0 a1) := by
  intro a0 a1 k
  have ih0 := spec_l01Hits.mono_l k
  unfold spec_l01Hits.f
  repeat' first
      | (with_reducible exact ih0 _ _ _ _)
      | (with_reducible exact LeO.refl _)
      | (with_reducible exact LeO.none _)
      | (with_reducible refine LeO.ite ?_ ?_)
      | (with_reducible refine LeO.bind ?_ (fun _ => ?_))
      | exact ih0 _ _ _ _
      | exact LeO.none _
      | refine LeO.ite ?_ ?_
      | refine LeO.bind ?_ (fun _ => ?_)
def spec_l01Hits.T2 : Bool × List (List Nat × List Nat) := (true, [([], []), ([], []), ([1], [1]), ([2], [2]), ([3], [3]), ([0, 4], [0, 4]), ([], []), ([6], [6]), ([], []), ([7, 8], [7, 8]), ([9], [9]), ([5, 10], [5, 10]), ([11, 0, 0, 1, 2, 3, 4, 5, 6, 7, 8, 9, 10, 11], [11])])
def spec_l01Hits.B2 : List Nat := [0, 0, 2, 6, 14, 31, 0, 64, 0, 448, 960, 2047, 4095]
theorem spec_l01Hits.tab2 : rtab .any (opsOf Try.f39 2) = spec_l01Hits.T2 := by kernel_rfl
theorem spec_l01Hits.bits2 : waitsOk spec_l01Hits.T2.2 spec_l01Hits.B2 = true := by kernel_rfl
set_option maxHeartbeats 8000000 in
set_option maxRecDepth 100000 in
theorem spec_l01Hits.calls (k : Nat) (adp0 : Addr) (l0 : List (S62)) (a1 : Int) (r : Int) (w : World) (hr0 : Kd.C k62 w (some adp0) l0.length l0) (h : spec_l01Hits.f k l0 a1 = some r) :
    Calls Try.prog 39 #[.pointer (some adp0), .int .i64 a1] w fun e w' => e = .returned (.int .i64 r) ∧ Below w.heap.size w w' := by
  have HR0 := Aside0.mk hr0
  clear hr0
  have HB := Aside0.mk (Below.refl w.heap.size w)
  have H : (if 0 < (l0.length : Int) then ((spec_l01Table.f).bind fun bt184 => (if 0 ≤ ((rd_T62 l0 0).f1) then (if ((rd_T62 l0 0).f1) < 6 then (if 0 ≤ (Int.tmod (wrap64 ((wrap64 (a1 + 4)) - (wrap64 ((rd_T62 l0 0).f2)))) 4) then (if (Int.tmod (wrap64 ((wrap64 (a1 + 4)) - (wrap64 ((rd_T62 l0 0).f2)))) 4) < 4 then (if (rd [rd [bt184.1, bt184.2.2.2.2.1, bt184.2.2.2.2.2.2.2.2.1, bt184.2.2.2.2.2.2.2.2.2.2.2.2.1, bt184.2.2.2.2.2.2.2.2.2.2.2.2.2.2.2.2.1, bt184.2.2.2.2.2.2.2.2.2.2.2.2.2.2.2.2.2.2.2.2.1] ((rd_T62 l0 0).f1), rd [bt184.2.1, bt184.2.2.2.2.2.1, bt184.2.2.2.2.2.2.2.2.2.1, bt184.2.2.2.2.2.2.2.2.2.2.2.2.2.1, bt184.2.2.2.2.2.2.2.2.2.2.2.2.2.2.2.2.2.1, bt184.2.2.2.2.2.2.2.2.2.2.2.2.2.2.2.2.2.2.2.2.2.1] ((rd_T62 l0 0).f1), rd [bt184.2.2.1, bt184.2.2.2.2.2.2.1, bt184.2.2.2.2.2.2.2.2.2.2.1, bt184.2.2.2.2.2.2.2.2.2.2.2.2.2.2.1, bt184.2.2.2.2.2.2.2.2.2.2.2.2.2.2.2.2.2.2.1, bt184.2.2.2.2.2.2.2.2.2.2.2.2.2.2.2.2.2.2.2.2.2.2.1] ((rd_T62 l0 0).f1), rd [bt184.2.2.2.1, bt184.2.2.2.2.2.2.2.1, bt184.2.2.2.2.2.2.2.2.2.2.2.1, bt184.2.2.2.2.2.2.2.2.2.2.2.2.2.2.2.1, bt184.2.2.2.2.2.2.2.2.2.2.2.2.2.2.2.2.2.2.2.1, bt184.2.2.2.2.2.2.2.2.2.2.2.2.2.2.2.2.2.2.2.2.2.2.2] ((rd_T62 l0 0).f1)] (Int.tmod (wrap64 ((wrap64 (a1 + 4)) - (wrap64 ((rd_T62 l0 0).f2)))) 4)) < 0 then (some (-1)) else (spec_l01Hits.l0 k (wrap64 ((rd_T62 l0 0).f2)) (rd [rd [bt184.1, bt184.2.2.2.2.1, bt184.2.2.2.2.2.2.2.2.1, bt184.2.2.2.2.2.2.2.2.2.2.2.2.1, bt184.2.2.2.2.2.2.2.2.2.2.2.2.2.2.2.2.1, bt184.2.2.2.2.2.2.2.2.2.2.2.2.2.2.2.2.2.2.2.2.1] ((rd_T62 l0 0).f1), rd [bt184.2.1, bt184.2.2.2.2.2.1, bt184.2.2.2.2.2.2.2.2.2.1, bt184.2.2.2.2.2.2.2.2.2.2.2.2.2.1, bt184.2.2.2.2.2.2.2.2.2.2.2.2.2.2.2.2.2.1, bt184.2.2.2.2.2.2.2.2.2.2.2.2.2.2.2.2.2.2.2.2.2.1] ((rd_T62 l0 0).f1), rd [bt184.2.2.1, bt184.2.2.2.2.2.2.1, bt184.2.2.2.2.2.2.2.2.2.2.1, bt184.2.2.2.2.2.2.2.2.2.2.2.2.2.2.1, bt184.2.2.2.2.2.2.2.2.2.2.2.2.2.2.2.2.2.2.1, bt184.2.2.2.2.2.2.2.2.2.2.2.2.2.2.2.2.2.2.2.2.2.2.1] ((rd_T62 l0 0).f1), rd [bt184.2.2.2.1, bt184.2.2.2.2.2.2.2.1, bt184.2.2.2.2.2.2.2.2.2.2.2.1, bt184.2.2.2.2.2.2.2.2.2.2.2.2.2.2.2.1, bt184.2.2.2.2.2.2.2.2.2.2.2.2.2.2.2.2.2.2.2.1, bt184.2.2.2.2.2.2.2.2.2.2.2.2.2.2.2.2.2.2.2.2.2.2.2] ((rd_T62 l0 0).f1)] (Int.tmod (wrap64 ((wrap64 (a1 + 4)) - (wrap64 ((rd_T62 l0 0).f2)))) 4)) 0 0)) else (none)) else (none)) else (none)) else (none))) else (none)) = some r := h
  clear h
  by_cases c3 : 0 < (l0.length : Int)
  · rw [if_pos c3] at H
    have c3b0 : decide (0 < (l0.length : Int)) = true := decide_eq_true c3
    have c3b1 : decide (0 < l0.length) = true := decide_eq_true (by omega)
    clear c3
    replace H := Option.bind_eq_some_iff.mp H
    obtain ⟨⟨t184, t185, t186, t187, t188, t189, t190, t191, t192, t193, t194, t195, t196, t197, t198, t199, t200, t201, t202, t203, t204, t205, t206, t207⟩, A40, H⟩ := H
    replace H : (if 0 ≤ ((rd_T62 l0 0).f1) then (if ((rd_T62 l0 0).f1) < 6 then (if 0 ≤ (Int.tmod (wrap64 ((wrap64 (a1 + 4)) - (wrap64 ((rd_T62 l0 0).f2)))) 4) then (if (Int.tmod (wrap64 ((wrap64 (a1 + 4)) - (wrap64 ((rd_T62 l0 0).f2)))) 4) < 4 then (if (rd [rd [t184, t188, t192, t196, t200, t204] ((rd_T62 l0 0).f1), rd [t185, t189, t193, t197, t201, t205] ((rd_T62 l0 0).f1), rd [t186, t190, t194, t198, t202, t206] ((rd_T62 l0 0).f1), rd [t187, t191, t195, t199, t203, t207] ((rd_T62 l0 0).f1)] (Int.tmod (wrap64 ((wrap64 (a1 + 4)) - (wrap64 ((rd_T62 l0 0).f2)))) 4)) < 0 then (some (-1)) else (spec_l01Hits.l0 k (wrap64 ((rd_T62 l0 0).f2)) (rd [rd [t184, t188, t192, t196, t200, t204] ((rd_T62 l0 0).f1), rd [t185, t189, t193, t197, t201, t205] ((rd_T62 l0 0).f1), rd [t186, t190, t194, t198, t202, t206] ((rd_T62 l0 0).f1), rd [t187, t191, t195, t199, t203, t207] ((rd_T62 l0 0).f1)] (Int.tmod (wrap64 ((wrap64 (a1 + 4)) - (wrap64 ((rd_T62 l0 0).f2)))) 4)) 0 0)) else (none)) else (none)) else (none)) else (none)) = some r := H
    have A4 := Aside0.mk A40
    clear A40
    by_cases c5 : 0 ≤ ((rd_T62 l0 0).f1)
    · rw [if_pos c5] at H
      have c5b0 : decide (0 ≤ ((rd_T62 l0 0).f1)) = true := decide_eq_true c5
      clear c5
      by_cases c6 : ((rd_T62 l0 0).f1) < 6
      · rw [if_pos c6] at H
        have c6b0 : decide (((rd_T62 l0 0).f1) < 6) = true := decide_eq_true c6
        clear c6
        have ar7l : 0 ≤ ((rd_T62 l0 0).f1) := of_decide_eq_true (by first | (with_reducible assumption) | assumption | exact decide_eq_true (by omega))
        have ar7h : ((rd_T62 l0 0).f1) < 6 := of_decide_eq_true (by first | (with_reducible assumption) | assumption | exact decide_eq_true (by omega))
        have ar7r : ∀ W_ : World, (Instr.index 92 (.agg #[.int .i64 t184, .int .i64 t185, .int .i64 t186, .int .i64 t187, .int .i64 t188, .int .i64 t189, .int .i64 t190, .int .i64 t191, .int .i64 t192, .int .i64 t193, .int .i64 t194, .int .i64 t195, .int .i64 t196, .int .i64 t197, .int .i64 t198, .int .i64 t199, .int .i64 t200, .int .i64 t201, .int .i64 t202, .int .i64 t203, .int .i64 t204, .int .i64 t205, .int .i64 t206, .int .i64 t207]) (.int .i8 ((rd_T62 l0 0).f1))).run Try.prog W_ = .ok (.agg #[.int .i64 (rd [t184, t188, t192, t196, t200, t204] ((rd_T62 l0 0).f1)), .int .i64 (rd [t185, t189, t193, t197, t201, t205] ((rd_T62 l0 0).f1)), .int .i64 (rd [t186, t190, t194, t198, t202, t206] ((rd_T62 l0 0).f1)), .int .i64 (rd [t187, t191, t195, t199, t203, t207] ((rd_T62 l0 0).f1))]) W_ := by
          intro W_
          have h_ : ((rd_T62 l0 0).f1) = 0 ∨ ((rd_T62 l0 0).f1) = 1 ∨ ((rd_T62 l0 0).f1) = 2 ∨ ((rd_T62 l0 0).f1) = 3 ∨ ((rd_T62 l0 0).f1) = 4 ∨ ((rd_T62 l0 0).f1) = 5 := by omega
          rcases h_ with h_ | h_ | h_ | h_ | h_ | h_ <;> (rw [h_]; first | rfl | kernel_rfl)
        clear ar7l ar7h
        obtain ⟨ji8, hji8⟩ : ∃ j_ : Int, (Int.tmod (wrap64 ((wrap64 (a1 + 4)) - (wrap64 ((rd_T62 l0 0).f2)))) 4) = j_ := ⟨_, rfl⟩
        replace H : (if 0 ≤ (ji8) then (if (ji8) < 4 then (if (rd [rd [t184, t188, t192, t196, t200, t204] ((rd_T62 l0 0).f1), rd [t185, t189, t193, t197, t201, t205] ((rd_T62 l0 0).f1), rd [t186, t190, t194, t198, t202, t206] ((rd_T62 l0 0).f1), rd [t187, t191, t195, t199, t203, t207] ((rd_T62 l0 0).f1)] (ji8)) < 0 then (some (-1)) else (spec_l01Hits.l0 k (wrap64 ((rd_T62 l0 0).f2)) (rd [rd [t184, t188, t192, t196, t200, t204] ((rd_T62 l0 0).f1), rd [t185, t189, t193, t197, t201, t205] ((rd_T62 l0 0).f1), rd [t186, t190, t194, t198, t202, t206] ((rd_T62 l0 0).f1), rd [t187, t191, t195, t199, t203, t207] ((rd_T62 l0 0).f1)] (ji8)) 0 0)) else (none)) else (none)) = some r := by first | (rw [hji8] at H; exact H) | (simp only [hji8] at H ⊢; exact H)
        (try rw [hji8] at A4)
        by_cases c9 : 0 ≤ (ji8)
        · rw [if_pos c9] at H
          have c9b0 : decide (0 ≤ (ji8)) = true := decide_eq_true c9
          clear c9
          by_cases c10 : (ji8) < 4
          · rw [if_pos c10] at H
            have c10b0 : decide ((ji8) < 4) = true := decide_eq_true c10
            clear c10
            have ar11l : 0 ≤ ji8 := of_decide_eq_true (by first | (with_reducible assumption) | assumption | exact decide_eq_true (by omega))
            have ar11h : ji8 < 4 := of_decide_eq_true (by first | (with_reducible assumption) | assumption | exact decide_eq_true (by omega))
            have ar11r : ∀ W_ : World, (Instr.index 91 (.agg #[.int .i64 (rd [t184, t188, t192, t196, t200, t204] ((rd_T62 l0 0).f1)), .int .i64 (rd [t185, t189, t193, t197, t201, t205] ((rd_T62 l0 0).f1)), .int .i64 (rd [t186, t190, t194, t198, t202, t206] ((rd_T62 l0 0).f1)), .int .i64 (rd [t187, t191, t195, t199, t203, t207] ((rd_T62 l0 0).f1))]) (.int .i64 ji8)).run Try.prog W_ = .ok (.int .i64 (rd [rd [t184, t188, t192, t196, t200, t204] ((rd_T62 l0 0).f1), rd [t185, t189, t193, t197, t201, t205] ((rd_T62 l0 0).f1), rd [t186, t190, t194, t198, t202, t206] ((rd_T62 l0 0).f1), rd [t187, t191, t195, t199, t203, t207] ((rd_T62 l0 0).f1)] (ji8))) W_ := by
              intro W_
              have h_ : ji8 = 0 ∨ ji8 = 1 ∨ ji8 = 2 ∨ ji8 = 3 := by omega
              rcases h_ with h_ | h_ | h_ | h_ <;> (rw [h_]; first | rfl | kernel_rfl)
            clear ar11l ar11h
            by_cases c12 : (rd [rd [t184, t188, t192, t196, t200, t204] ((rd_T62 l0 0).f1), rd [t185, t189, t193, t197, t201, t205] ((rd_T62 l0 0).f1), rd [t186, t190, t194, t198, t202, t206] ((rd_T62 l0 0).f1), rd [t187, t191, t195, t199, t203, t207] ((rd_T62 l0 0).f1)] (ji8)) < 0
            · rw [if_pos c12] at H
              have c12b0 : decide ((rd [rd [t184, t188, t192, t196, t200, t204] ((rd_T62 l0 0).f1), rd [t185, t189, t193, t197, t201, t205] ((rd_T62 l0 0).f1), rd [t186, t190, t194, t198, t202, t206] ((rd_T62 l0 0).f1), rd [t187, t191, t195, t199, t203, t207] ((rd_T62 l0 0).f1)] (ji8)) < 0) = true := decide_eq_true c12
              clear c12
              obtain rfl := Option.some.inj H
              have p183 : 0 ≤ (0 : Int) := (by omega)
              have q183 : 0 < (l0.length : Int) := of_decide_eq_true (by first | (with_reducible assumption) | assumption)
              obtain ⟨ad183, e183, hx183_0, hx183_1, hx183_2, hx183_3, hx183_4⟩ := at_T62 HR0.out 0 p183 q183
              obtain rfl : adp0 = ad183 := (by injection e183)
              have qi183 : (0 < l0.length) = True := eq_true (by omega)
              (try rw [show ((0 : Int)).toNat = 0 from rfl] at hx183_0)
              (try rw [show 0 * 5 = 0 from rfl] at hx183_0)
              (try rw [Addr.add_zero'] at hx183_0)
              (try rw [show ((0 : Int)).toNat = 0 from rfl] at hx183_1)
              (try rw [show 0 * 5 = 0 from rfl] at hx183_1)
              (try rw [Addr.add_zero'] at hx183_1)
              (try rw [show ((0 : Int)).toNat = 0 from rfl] at hx183_2)
              (try rw [show 0 * 5 = 0 from rfl] at hx183_2)
              (try rw [Addr.add_zero'] at hx183_2)
              (try rw [show ((0 : Int)).toNat = 0 from rfl] at hx183_3)
              (try rw [show 0 * 5 = 0 from rfl] at hx183_3)
              (try rw [Addr.add_zero'] at hx183_3)
              (try rw [show ((0 : Int)).toNat = 0 from rfl] at hx183_4)
              (try rw [show 0 * 5 = 0 from rfl] at hx183_4)
              (try rw [Addr.add_zero'] at hx183_4)
              replace p183 := eq_true p183
              replace q183 := eq_true q183
              go_enter Try.func39, Try.ntmps39
              try go_wp2
              have n0_ := Aside0.mk (below_drew1 HB.out)
              clear HB
              have HB := n0_
              clear n0_
              have p208 : 0 ≤ (0 : Int) := (by omega)
              have q208 : 0 < (l0.length : Int) := of_decide_eq_true (by first | (with_reducible assumption) | assumption)
              obtain ⟨ad208, e208, hx208_0, hx208_1, hx208_2, hx208_3, hx208_4⟩ := at_T62 HR0.out 0 p208 q208
              have hw208_4 := hx208_4
              (try rw [show ((0 : Int)).toNat = 0 from rfl] at hw208_4)
              (try rw [show 0 * 5 = 0 from rfl] at hw208_4)
              (try rw [Addr.add_zero'] at hw208_4)
              have hw208_3 := hx208_3
              (try rw [show ((0 : Int)).toNat = 0 from rfl] at hw208_3)
              (try rw [show 0 * 5 = 0 from rfl] at hw208_3)
              (try rw [Addr.add_zero'] at hw208_3)
              have hw208_2 := hx208_2
              (try rw [show ((0 : Int)).toNat = 0 from rfl] at hw208_2)
              (try rw [show 0 * 5 = 0 from rfl] at hw208_2)
              (try rw [Addr.add_zero'] at hw208_2)
              have hw208_1 := hx208_1
              (try rw [show ((0 : Int)).toNat = 0 from rfl] at hw208_1)
              (try rw [show 0 * 5 = 0 from rfl] at hw208_1)
              (try rw [Addr.add_zero'] at hw208_1)
              have hw208_0 := hx208_0
              (try rw [show ((0 : Int)).toNat = 0 from rfl] at hw208_0)
              (try rw [show 0 * 5 = 0 from rfl] at hw208_0)
              (try rw [Addr.add_zero'] at hw208_0)
              obtain rfl : adp0 = ad208 := (by injection e208)
              have qi208 : (0 < l0.length) = True := eq_true (by omega)
              (try rw [show ((0 : Int)).toNat = 0 from rfl] at hx208_0)
              (try rw [show 0 * 5 = 0 from rfl] at hx208_0)
              (try rw [Addr.add_zero'] at hx208_0)
              (try rw [show ((0 : Int)).toNat = 0 from rfl] at hx208_1)
              (try rw [show 0 * 5 = 0 from rfl] at hx208_1)
              (try rw [Addr.add_zero'] at hx208_1)
              (try rw [show ((0 : Int)).toNat = 0 from rfl] at hx208_2)
              (try rw [show 0 * 5 = 0 from rfl] at hx208_2)
              (try rw [Addr.add_zero'] at hx208_2)
              (try rw [show ((0 : Int)).toNat = 0 from rfl] at hx208_3)
              (try rw [show 0 * 5 = 0 from rfl] at hx208_3)
              (try rw [Addr.add_zero'] at hx208_3)
              (try rw [show ((0 : Int)).toNat = 0 from rfl] at hx208_4)
              (try rw [show 0 * 5 = 0 from rfl] at hx208_4)
              (try rw [Addr.add_zero'] at hx208_4)
              replace hx208_0 := (HB.out.cell (World.block_lt_of_cell? w _ hx208_0)).trans hx208_0
              replace hx208_1 := (HB.out.cell (World.block_lt_of_cell? w _ hx208_1)).trans hx208_1
              replace hx208_2 := (HB.out.cell (World.block_lt_of_cell? w _ hx208_2)).trans hx208_2
              replace hx208_3 := (HB.out.cell (World.block_lt_of_cell? w _ hx208_3)).trans hx208_3
              replace hx208_4 := (HB.out.cell (World.block_lt_of_cell? w _ hx208_4)).trans hx208_4
              replace p208 := eq_true p208
              replace q208 := eq_true q208
              refine start_ (n := 13) (S := fun w' => w'.cell? adp0 = some (.int .i8 ((rd_T62 l0 0).f0.f0)) ∧ w'.cell? ⟨adp0.block, adp0.off + 1, none⟩ = some (.int .i8 ((rd_T62 l0 0).f0.f1)) ∧ w'.cell? ⟨adp0.block, adp0.off + 2, none⟩ = some (.int .i8 ((rd_T62 l0 0).f1)) ∧ w'.cell? ⟨adp0.block, adp0.off + 3, none⟩ = some (.int .i8 ((rd_T62 l0 0).f2)) ∧ w'.cell? ⟨adp0.block, adp0.off + 4, none⟩ = some (.int .i8 ((rd_T62 l0 0).f3))) (ds := []) #[false, false, false, false, false, false, false, false, false, false, false, false, false] (by kernel_rfl) rfl rfl ⟨((HB.out.cell (World.block_lt_of_cell? w _ hw208_0)).trans hw208_0), ((HB.out.cell (World.block_lt_of_cell? w _ hw208_1)).trans hw208_1), ((HB.out.cell (World.block_lt_of_cell? w _ hw208_2)).trans hw208_2), ((HB.out.cell (World.block_lt_of_cell? w _ hw208_3)).trans hw208_3), ((HB.out.cell (World.block_lt_of_cell? w _ hw208_4)).trans hw208_4)⟩ (fun hHeld => ?_); refine with_tabW spec_l01Hits.tab2 spec_l01Hits.bits2 (fun HT_ HW_ => ?_)
              generalize w.drew = w13 at HB hx208_0 hx208_1 hx208_2 hx208_3 hx208_4 hHeld ⊢
              refine pure_ (i := 1) (N := some 15) (v := ?_) (a' := ?_) #[false, true, false, false, false, false, false, false, false, false, false, false, false] rfl rfl (any_of HT_.out (by kernel_rfl)) (fun _ _ _ h => h) (Or.inl ⟨by rfl, ?_⟩) ?_ ?_
              rotate_left
              · intro w'
                go_simp
                with_reducible rfl
              rotate_left
              · simp only [Act.put, List.setIfInBounds_toArray, List.set_cons_zero, List.set_cons_succ, i64_w, i32_w]
                rfl
              refine pure_ (i := 2) (N := some 16) (v := ?_) (a' := ?_) #[false, true, true, false, false, false, false, false, false, false, false, false, false] rfl rfl (any_of HT_.out (by kernel_rfl)) (fun _ _ _ h => h) (Or.inl ⟨by rfl, ?_⟩) ?_ ?_
              rotate_left
              · intro w'
                go_simp
                with_reducible rfl
              rotate_left
              · simp only [Act.put, List.setIfInBounds_toArray, List.set_cons_zero, List.set_cons_succ, i64_w, i32_w]
                rfl
              refine pure_ (i := 3) (N := some 17) (v := ?_) (a' := ?_) #[false, true, true, true, false, false, false, false, false, false, false, false, false] rfl rfl (any_of HT_.out (by kernel_rfl)) (fun _ _ _ h => h) (Or.inl ⟨by rfl, ?_⟩) ?_ ?_
              rotate_left
              · intro w'
                go_simp
                with_reducible rfl
              rotate_left
              · simp only [Act.put, List.setIfInBounds_toArray, List.set_cons_zero, List.set_cons_succ, i64_w, i32_w]
                rfl
              refine pure_ (i := 6) (N := some 20) (v := ?_) (a' := ?_) #[false, true, true, true, false, false, true, false, false, false, false, false, false] rfl rfl (any_of HT_.out (by kernel_rfl)) (fun _ _ _ h => h) (Or.inl ⟨by rfl, ?_⟩) ?_ ?_
              rotate_left
              · intro w'
                go_simp
                with_reducible rfl
              rotate_left
              · simp only [Act.put, List.setIfInBounds_toArray, List.set_cons_zero, List.set_cons_succ, i64_w, i32_w]
                rfl
              refine pure_ (i := 7) (N := some 21) (v := ?_) (a' := ?_) #[false, true, true, true, false, false, true, true, false, false, false, false, false] rfl rfl (any_of HT_.out (by kernel_rfl)) (fun _ _ _ h => h) (Or.inl ⟨by rfl, ?_⟩) ?_ ?_
              rotate_left
              · intro w'
                go_simp
                with_reducible rfl
              rotate_left
              · simp only [Act.put, List.setIfInBounds_toArray, List.set_cons_zero, List.set_cons_succ, i64_w, i32_w]
                rfl
              refine pure_ (i := 8) (N := some 22) (v := ?_) (a' := ?_) #[false, true, true, true, false, false, true, true, true, false, false, false, false] rfl rfl (any_of HT_.out (by kernel_rfl)) (fun _ _ _ h => h) (Or.inl ⟨by rfl, ?_⟩) ?_ ?_
              rotate_left
              · intro w'
                go_simp
                with_reducible rfl
              rotate_left
              · simp only [Act.put, List.setIfInBounds_toArray, List.set_cons_zero, List.set_cons_succ, i64_w, i32_w]
                rfl
              refine pure_ (i := 9) (N := some 23) (v := ?_) (a' := ?_) #[false, true, true, true, false, false, true, true, true, true, false, false, false] rfl rfl (any_of HT_.out (by kernel_rfl)) (fun _ _ _ h => h) (Or.inl ⟨by rfl, ?_⟩) ?_ ?_
              rotate_left
              · intro w'
                go_simp
                with_reducible rfl
              rotate_left
              · simp only [Act.put, List.setIfInBounds_toArray, List.set_cons_zero, List.set_cons_succ, i64_w, i32_w]
                rfl
              refine pure_ (i := 10) (N := some 24) (v := ?_) (a' := ?_) #[false, true, true, true, false, false, true, true, true, true, true, false, false] rfl rfl (any_of HT_.out (by kernel_rfl)) (fun _ _ _ h => h) (Or.inl ⟨by rfl, ?_⟩) ?_ ?_
              rotate_left
              · intro w'
                go_simp
                with_reducible rfl
              rotate_left
              · simp only [Act.put, List.setIfInBounds_toArray, List.set_cons_zero, List.set_cons_succ, i64_w, i32_w]
                rfl
              refine take_ (i := 4) (N := some 18) (v := ?_) (a' := ?_) #[false, true, true, true, true, false, true, true, true, true, true, false, false] rfl rfl (take_ofW HT_.out HW_.out (by kernel_rfl)) (fun _ _ _ h => h) (Or.inl ⟨by rfl, ?_⟩) hHeld ?_ ?_
              rotate_left
              · rintro w' ⟨s0, s1, s2, s3, s4⟩
                go_simp
                with_reducible rfl
              rotate_left
              · simp only [Act.put, List.setIfInBounds_toArray, List.set_cons_zero, List.set_cons_succ, i64_w, i32_w]
                rfl
              refine one_ (i := 0) (N := some 14) #[true, true, true, true, true, false, true, true, true, true, true, false, false] rfl rfl (one_of HT_.out (by kernel_rfl)) (by decide) (fun K hK => ?_)
              refine goes_ Try.func58 (by kernel_rfl) rfl #[] (by rfl) rfl rfl (by (try simp only [List.map_toArray, List.map_cons, List.map_nil]); first | done | rfl | (simp only [List.length_drop, List.length_take]; rfl)) ?_
              with_reducible refine (spec_l01Table.calls  t184 t185 t186 t187 t188 t189 t190 t191 t192 t193 t194 t195 t196 t197 t198 t199 t200 t201 t202 t203 t204 t205 t206 t207 _ A4.out).mono ?_
              rintro e w14 ⟨rfl, hb⟩
              refine ⟨_, rfl, ?_⟩
              have n0_ := Aside0.mk (below_step (by repeat (first | (with_reducible first | exact HB.out | apply below_alloc | apply pw_below_drewN | apply below_drew1) | exact HB.out)) hb)
              clear HB
              have HB := n0_
              clear n0_
              (try clear hb)
              (try clear hb2)
              (try clear hk)
              (try clear hi)
              refine hK.out _ _ ⟨((HB.out.cell (World.block_lt_of_cell? w _ hw208_0)).trans hw208_0), ((HB.out.cell (World.block_lt_of_cell? w _ hw208_1)).trans hw208_1), ((HB.out.cell (World.block_lt_of_cell? w _ hw208_2)).trans hw208_2), ((HB.out.cell (World.block_lt_of_cell? w _ hw208_3)).trans hw208_3), ((HB.out.cell (World.block_lt_of_cell? w _ hw208_4)).trans hw208_4)⟩ (fun hHeld => ?_)
              clear hK K
              refine norm_ (a' := ?_) ?_ ?_
              rotate_left
              · show Act.put _ (some 14) _ = _
                simp only [Act.put, List.setIfInBounds_toArray, List.set_cons_zero, List.set_cons_succ, i64_w, i32_w]
                rfl
              refine take_ (i := 5) (N := some 19) (v := ?_) (a' := ?_) #[true, true, true, true, true, true, true, true, true, true, true, false, false] rfl rfl (take_ofW HT_.out HW_.out (by kernel_rfl)) (fun _ _ _ h => h) (Or.inl ⟨by rfl, ?_⟩) hHeld ?_ ?_
              rotate_left
              · rintro w' ⟨s0, s1, s2, s3, s4⟩
                go_simp
                with_reducible rfl
              rotate_left
              · simp only [Act.put, List.setIfInBounds_toArray, List.set_cons_zero, List.set_cons_succ, i64_w, i32_w]
                rfl
              refine take_ (i := 11) (N := some 25) (v := ?_) (a' := ?_) #[true, true, true, true, true, true, true, true, true, true, true, true, false] rfl rfl (take_ofW HT_.out HW_.out (by kernel_rfl)) (fun _ _ _ h => h) (Or.inl ⟨by rfl, ?_⟩) hHeld ?_ ?_
              rotate_left
              · rintro w' ⟨s0, s1, s2, s3, s4⟩
                go_simp
                with_reducible rfl
              rotate_left
              · simp only [Act.put, List.setIfInBounds_toArray, List.set_cons_zero, List.set_cons_succ, i64_w, i32_w]
                rfl
              refine pure_ (i := 12) (N := some 6) (v := ?_) (a' := ?_) #[true, true, true, true, true, true, true, true, true, true, true, true, true] rfl rfl (any_of HT_.out (by kernel_rfl)) (fun _ _ _ h => h) (Or.inl ⟨by rfl, ?_⟩) ?_ ?_
              rotate_left
              · intro w'
                go_simp
                with_reducible rfl
              rotate_left
              · simp only [Act.put, List.setIfInBounds_toArray, List.set_cons_zero, List.set_cons_succ, i64_w, i32_w]
                rfl
              refine done_ (done_of HT_.out (by kernel_rfl)) ?_
              try go_wp2
              go_ret
              exact ⟨by first | rfl | (simp [errW_none, errW_some] <;> rfl) | (simp only [← hji8]; first | rfl | (simp [errW_none, errW_some] <;> rfl)) | (simp [*, errW_none, errW_some] <;> rfl), by repeat (first | (with_reducible first | exact HB.out | apply below_alloc | apply pw_below_drewN | apply below_drew1) | exact HB.out)⟩
            · rw [if_neg c12] at H
              have c12b0 : decide ((rd [rd [t184, t188, t192, t196, t200, t204] ((rd_T62 l0 0).f1), rd [t185, t189, t193, t197, t201, t205] ((rd_T62 l0 0).f1), rd [t186, t190, t194, t198, t202, t206] ((rd_T62 l0 0).f1), rd [t187, t191, t195, t199, t203, t207] ((rd_T62 l0 0).f1)] (ji8)) < 0) = false := decide_eq_false c12
              clear c12
              have H' := Aside0.mk H
              clear H
              have p183 : 0 ≤ (0 : Int) := (by omega)
              have q183 : 0 < (l0.length : Int) := of_decide_eq_true (by first | (with_reducible assumption) | assumption)
              obtain ⟨ad183, e183, hx183_0, hx183_1, hx183_2, hx183_3, hx183_4⟩ := at_T62 HR0.out 0 p183 q183
              obtain rfl : adp0 = ad183 := (by injection e183)
              have qi183 : (0 < l0.length) = True := eq_true (by omega)
              (try rw [show ((0 : Int)).toNat = 0 from rfl] at hx183_0)
              (try rw [show 0 * 5 = 0 from rfl] at hx183_0)
              (try rw [Addr.add_zero'] at hx183_0)
              (try rw [show ((0 : Int)).toNat = 0 from rfl] at hx183_1)
              (try rw [show 0 * 5 = 0 from rfl] at hx183_1)
              (try rw [Addr.add_zero'] at hx183_1)
              (try rw [show ((0 : Int)).toNat = 0 from rfl] at hx183_2)
              (try rw [show 0 * 5 = 0 from rfl] at hx183_2)
              (try rw [Addr.add_zero'] at hx183_2)
              (try rw [show ((0 : Int)).toNat = 0 from rfl] at hx183_3)
              (try rw [show 0 * 5 = 0 from rfl] at hx183_3)
              (try rw [Addr.add_zero'] at hx183_3)
              (try rw [show ((0 : Int)).toNat = 0 from rfl] at hx183_4)
              (try rw [show 0 * 5 = 0 from rfl] at hx183_4)
              (try rw [Addr.add_zero'] at hx183_4)
              replace p183 := eq_true p183
              replace q183 := eq_true q183
              go_enter Try.func39, Try.ntmps39
              try go_wp2
              have n0_ := Aside0.mk (below_drew1 HB.out)
              clear HB
              have HB := n0_
              clear n0_
              have p208 : 0 ≤ (0 : Int) := (by omega)
              have q208 : 0 < (l0.length : Int) := of_decide_eq_true (by first | (with_reducible assumption) | assumption)
              obtain ⟨ad208, e208, hx208_0, hx208_1, hx208_2, hx208_3, hx208_4⟩ := at_T62 HR0.out 0 p208 q208
              have hw208_4 := hx208_4
              (try rw [show ((0 : Int)).toNat = 0 from rfl] at hw208_4)
              (try rw [show 0 * 5 = 0 from rfl] at hw208_4)
              (try rw [Addr.add_zero'] at hw208_4)
              have hw208_3 := hx208_3
              (try rw [show ((0 : Int)).toNat = 0 from rfl] at hw208_3)
              (try rw [show 0 * 5 = 0 from rfl] at hw208_3)
              (try rw [Addr.add_zero'] at hw208_3)
              have hw208_2 := hx208_2
              (try rw [show ((0 : Int)).toNat = 0 from rfl] at hw208_2)
              (try rw [show 0 * 5 = 0 from rfl] at hw208_2)
              (try rw [Addr.add_zero'] at hw208_2)
              have hw208_1 := hx208_1
              (try rw [show ((0 : Int)).toNat = 0 from rfl] at hw208_1)
              (try rw [show 0 * 5 = 0 from rfl] at hw208_1)
              (try rw [Addr.add_zero'] at hw208_1)
              have hw208_0 := hx208_0
              (try rw [show ((0 : Int)).toNat = 0 from rfl] at hw208_0)
              (try rw [show 0 * 5 = 0 from rfl] at hw208_0)
              (try rw [Addr.add_zero'] at hw208_0)
              obtain rfl : adp0 = ad208 := (by injection e208)
              have qi208 : (0 < l0.length) = True := eq_true (by omega)
              (try rw [show ((0 : Int)).toNat = 0 from rfl] at hx208_0)
              (try rw [show 0 * 5 = 0 from rfl] at hx208_0)
              (try rw [Addr.add_zero'] at hx208_0)
              (try rw [show ((0 : Int)).toNat = 0 from rfl] at hx208_1)
              (try rw [show 0 * 5 = 0 from rfl] at hx208_1)
              (try rw [Addr.add_zero'] at hx208_1)
              (try rw [show ((0 : Int)).toNat = 0 from rfl] at hx208_2)
              (try rw [show 0 * 5 = 0 from rfl] at hx208_2)
              (try rw [Addr.add_zero'] at hx208_2)
              (try rw [show ((0 : Int)).toNat = 0 from rfl] at hx208_3)
              (try rw [show 0 * 5 = 0 from rfl] at hx208_3)
              (try rw [Addr.add_zero'] at hx208_3)
              (try rw [show ((0 : Int)).toNat = 0 from rfl] at hx208_4)
              (try rw [show 0 * 5 = 0 from rfl] at hx208_4)
              (try rw [Addr.add_zero'] at hx208_4)
              replace hx208_0 := (HB.out.cell (World.block_lt_of_cell? w _ hx208_0)).trans hx208_0
              replace hx208_1 := (HB.out.cell (World.block_lt_of_cell? w _ hx208_1)).trans hx208_1
              replace hx208_2 := (HB.out.cell (World.block_lt_of_cell? w _ hx208_2)).trans hx208_2
              replace hx208_3 := (HB.out.cell (World.block_lt_of_cell? w _ hx208_3)).trans hx208_3
              replace hx208_4 := (HB.out.cell (World.block_lt_of_cell? w _ hx208_4)).trans hx208_4
              replace p208 := eq_true p208
              replace q208 := eq_true q208
              refine start_ (n := 13) (S := fun w' => w'.cell? adp0 = some (.int .i8 ((rd_T62 l0 0).f0.f0)) ∧ w'.cell? ⟨adp0.block, adp0.off + 1, none⟩ = some (.int .i8 ((rd_T62 l0 0).f0.f1)) ∧ w'.cell? ⟨adp0.block, adp0.off + 2, none⟩ = some (.int .i8 ((rd_T62 l0 0).f1)) ∧ w'.cell? ⟨adp0.block, adp0.off + 3, none⟩ = some (.int .i8 ((rd_T62 l0 0).f2)) ∧ w'.cell? ⟨adp0.block, adp0.off + 4, none⟩ = some (.int .i8 ((rd_T62 l0 0).f3))) (ds := []) #[false, false, false, false, false, false, false, false, false, false, false, false, false] (by kernel_rfl) rfl rfl ⟨((HB.out.cell (World.block_lt_of_cell? w _ hw208_0)).trans hw208_0), ((HB.out.cell (World.block_lt_of_cell? w _ hw208_1)).trans hw208_1), ((HB.out.cell (World.block_lt_of_cell? w _ hw208_2)).trans hw208_2), ((HB.out.cell (World.block_lt_of_cell? w _ hw208_3)).trans hw208_3), ((HB.out.cell (World.block_lt_of_cell? w _ hw208_4)).trans hw208_4)⟩ (fun hHeld => ?_); refine with_tabW spec_l01Hits.tab2 spec_l01Hits.bits2 (fun HT_ HW_ => ?_)
              generalize w.drew = w15 at HB hx208_0 hx208_1 hx208_2 hx208_3 hx208_4 hHeld ⊢
              refine pure_ (i := 1) (N := some 15) (v := ?_) (a' := ?_) #[false, true, false, false, false, false, false, false, false, false, false, false, false] rfl rfl (any_of HT_.out (by kernel_rfl)) (fun _ _ _ h => h) (Or.inl ⟨by rfl, ?_⟩) ?_ ?_
              rotate_left
              · intro w'
                go_simp
                with_reducible rfl
              rotate_left
              · simp only [Act.put, List.setIfInBounds_toArray, List.set_cons_zero, List.set_cons_succ, i64_w, i32_w]
                rfl
              refine pure_ (i := 2) (N := some 16) (v := ?_) (a' := ?_) #[false, true, true, false, false, false, false, false, false, false, false, false, false] rfl rfl (any_of HT_.out (by kernel_rfl)) (fun _ _ _ h => h) (Or.inl ⟨by rfl, ?_⟩) ?_ ?_
              rotate_left
              · intro w'
                go_simp
                with_reducible rfl
              rotate_left
              · simp only [Act.put, List.setIfInBounds_toArray, List.set_cons_zero, List.set_cons_succ, i64_w, i32_w]
                rfl
              refine pure_ (i := 3) (N := some 17) (v := ?_) (a' := ?_) #[false, true, true, true, false, false, false, false, false, false, false, false, false] rfl rfl (any_of HT_.out (by kernel_rfl)) (fun _ _ _ h => h) (Or.inl ⟨by rfl, ?_⟩) ?_ ?_
              rotate_left
              · intro w'
                go_simp
                with_reducible rfl
              rotate_left
              · simp only [Act.put, List.setIfInBounds_toArray, List.set_cons_zero, List.set_cons_succ, i64_w, i32_w]
                rfl
              refine pure_ (i := 6) (N := some 20) (v := ?_) (a' := ?_) #[false, true, true, true, false, false, true, false, false, false, false, false, false] rfl rfl (any_of HT_.out (by kernel_rfl)) (fun _ _ _ h => h) (Or.inl ⟨by rfl, ?_⟩) ?_ ?_
              rotate_left
              · intro w'
                go_simp
                with_reducible rfl
              rotate_left
              · simp only [Act.put, List.setIfInBounds_toArray, List.set_cons_zero, List.set_cons_succ, i64_w, i32_w]
                rfl
              refine pure_ (i := 7) (N := some 21) (v := ?_) (a' := ?_) #[false, true, true, true, false, false, true, true, false, false, false, false, false] rfl rfl (any_of HT_.out (by kernel_rfl)) (fun _ _ _ h => h) (Or.inl ⟨by rfl, ?_⟩) ?_ ?_
              rotate_left
              · intro w'
                go_simp
                with_reducible rfl
              rotate_left
              · simp only [Act.put, List.setIfInBounds_toArray, List.set_cons_zero, List.set_cons_succ, i64_w, i32_w]
                rfl
              refine pure_ (i := 8) (N := some 22) (v := ?_) (a' := ?_) #[false, true, true, true, false, false, true, true, true, false, false, false, false] rfl rfl (any_of HT_.out (by kernel_rfl)) (fun _ _ _ h => h) (Or.inl ⟨by rfl, ?_⟩) ?_ ?_
              rotate_left
              · intro w'
                go_simp
                with_reducible rfl
              rotate_left
              · simp only [Act.put, List.setIfInBounds_toArray, List.set_cons_zero, List.set_cons_succ, i64_w, i32_w]
                rfl
              refine pure_ (i := 9) (N := some 23) (v := ?_) (a' := ?_) #[false, true, true, true, false, false, true, true, true, true, false, false, false] rfl rfl (any_of HT_.out (by kernel_rfl)) (fun _ _ _ h => h) (Or.inl ⟨by rfl, ?_⟩) ?_ ?_
              rotate_left
              · intro w'
                go_simp
                with_reducible rfl
              rotate_left
              · simp only [Act.put, List.setIfInBounds_toArray, List.set_cons_zero, List.set_cons_succ, i64_w, i32_w]
                rfl
              refine pure_ (i := 10) (N := some 24) (v := ?_) (a' := ?_) #[false, true, true, true, false, false, true, true, true, true, true, false, false] rfl rfl (any_of HT_.out (by kernel_rfl)) (fun _ _ _ h => h) (Or.inl ⟨by rfl, ?_⟩) ?_ ?_
              rotate_left
              · intro w'
                go_simp
                with_reducible rfl
              rotate_left
              · simp only [Act.put, List.setIfInBounds_toArray, List.set_cons_zero, List.set_cons_succ, i64_w, i32_w]
                rfl
              refine take_ (i := 4) (N := some 18) (v := ?_) (a' := ?_) #[false, true, true, true, true, false, true, true, true, true, true, false, false] rfl rfl (take_ofW HT_.out HW_.out (by kernel_rfl)) (fun _ _ _ h => h) (Or.inl ⟨by rfl, ?_⟩) hHeld ?_ ?_
              rotate_left
              · rintro w' ⟨s0, s1, s2, s3, s4⟩
                go_simp
                with_reducible rfl
              rotate_left
              · simp only [Act.put, List.setIfInBounds_toArray, List.set_cons_zero, List.set_cons_succ, i64_w, i32_w]
                rfl
              refine one_ (i := 0) (N := some 14) #[true, true, true, true, true, false, true, true, true, true, true, false, false] rfl rfl (one_of HT_.out (by kernel_rfl)) (by decide) (fun K hK => ?_)
              refine goes_ Try.func58 (by kernel_rfl) rfl #[] (by rfl) rfl rfl (by (try simp only [List.map_toArray, List.map_cons, List.map_nil]); first | done | rfl | (simp only [List.length_drop, List.length_take]; rfl)) ?_
              with_reducible refine (spec_l01Table.calls  t184 t185 t186 t187 t188 t189 t190 t191 t192 t193 t194 t195 t196 t197 t198 t199 t200 t201 t202 t203 t204 t205 t206 t207 _ A4.out).mono ?_
              rintro e w16 ⟨rfl, hb⟩
              refine ⟨_, rfl, ?_⟩
              have n0_ := Aside0.mk (below_step (by repeat (first | (with_reducible first | exact HB.out | apply below_alloc | apply pw_below_drewN | apply below_drew1) | exact HB.out)) hb)
              clear HB
              have HB := n0_
              clear n0_
              (try clear hb)
              (try clear hb2)
              (try clear hk)
              (try clear hi)
              refine hK.out _ _ ⟨((HB.out.cell (World.block_lt_of_cell? w _ hw208_0)).trans hw208_0), ((HB.out.cell (World.block_lt_of_cell? w _ hw208_1)).trans hw208_1), ((HB.out.cell (World.block_lt_of_cell? w _ hw208_2)).trans hw208_2), ((HB.out.cell (World.block_lt_of_cell? w _ hw208_3)).trans hw208_3), ((HB.out.cell (World.block_lt_of_cell? w _ hw208_4)).trans hw208_4)⟩ (fun hHeld => ?_)
              clear hK K
              refine norm_ (a' := ?_) ?_ ?_
              rotate_left
              · show Act.put _ (some 14) _ = _
                simp only [Act.put, List.setIfInBounds_toArray, List.set_cons_zero, List.set_cons_succ, i64_w, i32_w]
                rfl
              refine take_ (i := 5) (N := some 19) (v := ?_) (a' := ?_) #[true, true, true, true, true, true, true, true, true, true, true, false, false] rfl rfl (take_ofW HT_.out HW_.out (by kernel_rfl)) (fun _ _ _ h => h) (Or.inl ⟨by rfl, ?_⟩) hHeld ?_ ?_
              rotate_left
              · rintro w' ⟨s0, s1, s2, s3, s4⟩
                go_simp
                with_reducible rfl
              rotate_left
              · simp only [Act.put, List.setIfInBounds_toArray, List.set_cons_zero, List.set_cons_succ, i64_w, i32_w]
                rfl
              refine take_ (i := 11) (N := some 25) (v := ?_) (a' := ?_) #[true, true, true, true, true, true, true, true, true, true, true, true, false] rfl rfl (take_ofW HT_.out HW_.out (by kernel_rfl)) (fun _ _ _ h => h) (Or.inl ⟨by rfl, ?_⟩) hHeld ?_ ?_
              rotate_left
              · rintro w' ⟨s0, s1, s2, s3, s4⟩
                go_simp
                with_reducible rfl
              rotate_left
              · simp only [Act.put, List.setIfInBounds_toArray, List.set_cons_zero, List.set_cons_succ, i64_w, i32_w]
                rfl
              refine pure_ (i := 12) (N := some 6) (v := ?_) (a' := ?_) #[true, true, true, true, true, true, true, true, true, true, true, true, true] rfl rfl (any_of HT_.out (by kernel_rfl)) (fun _ _ _ h => h) (Or.inl ⟨by rfl, ?_⟩) ?_ ?_
              rotate_left
              · intro w'
                go_simp
                with_reducible rfl
              rotate_left
              · simp only [Act.put, List.setIfInBounds_toArray, List.set_cons_zero, List.set_cons_succ, i64_w, i32_w]
                rfl
              refine done_ (done_of HT_.out (by kernel_rfl)) ?_
              try go_wp2
              go_loopg [7, 8] k (fun kq v7 v8 w' => ∃ (x7_1 : Int) (x8_1 : Int), v7 = .int .i64 x7_1 ∧ v8 = .int .i64 x8_1 ∧ Aside0 (spec_l01Hits.l0 kq (wrap64 ((rd_T62 l0 0).f2)) (rd [rd [t184, t188, t192, t196, t200, t204] ((rd_T62 l0 0).f1), rd [t185, t189, t193, t197, t201, t205] ((rd_T62 l0 0).f1), rd [t186, t190, t194, t198, t202, t206] ((rd_T62 l0 0).f1), rd [t187, t191, t195, t199, t203, t207] ((rd_T62 l0 0).f1)] (ji8)) x7_1 x8_1 = some r) ∧ Aside0 (kq ≤ k) ∧ Aside0 (Below w.heap.size w w'))
              case atStart => exact ⟨(0), (0), (by first | rfl | (simp; done) | (simp [*]; done) | (exact congrArg (Value.int .i64) (wrap_eq (by omega)))), (by first | rfl | (simp; done) | (simp [*]; done) | (exact congrArg (Value.int .i64) (wrap_eq (by omega)))), H', ⟨Nat.le_refl _⟩, ⟨by repeat (first | (with_reducible first | exact HB.out | apply below_alloc | apply pw_below_drewN | apply below_drew1) | exact HB.out)⟩⟩
              case round =>
                clear H'
                try clear c1
                try clear p1
                try clear q1
                try clear hx1
                try clear qi1
                try clear p2
                try clear q2
                try clear hx2
                try clear qi2
                try clear c3
                try clear c3b0
                try clear c3b1
                try clear c5
                try clear c5b0
                try clear c6
                try clear c6b0
                try clear p6
                try clear c9
                try clear c9b0
                try clear c10
                try clear c10b0
                try clear c12
                try clear c12b0
                try clear hx183_0
                try clear hx183_1
                try clear hx183_2
                try clear hx183_3
                try clear hx183_4
                try clear hx208_0
                try clear hx208_1
                try clear hx208_2
                try clear hx208_3
                try clear hx208_4
                try clear p183
                try clear p208
                try clear q183
                try clear q208
                obtain ⟨x7_1, x8_1, rfl, rfl, HA, HK1, HB⟩ := hrel
                cases gk with
                | zero => exact absurd HA.out (by simp [spec_l01Hits.l0])
                | succ k1 =>
                  have H := HA.out
                  clear HA
                  simp only [spec_l01Hits.l0] at H
                  by_cases c17 : x8_1 < 4
                  · rw [if_pos c17] at H
                    have c17b0 : decide (x8_1 < 4) = true := decide_eq_true c17
                    clear c17
                    obtain ⟨ji18, hji18⟩ : ∃ j_ : Int, (IntKind.u64.wrap (x8_1)) = j_ := ⟨_, rfl⟩
                    replace H : (if 0 ≤ (ji18) then (if (Int.tmod (shr .i64 (rd [rd [t184, t188, t192, t196, t200, t204] ((rd_T62 l0 0).f1), rd [t185, t189, t193, t197, t201, t205] ((rd_T62 l0 0).f1), rd [t186, t190, t194, t198, t202, t206] ((rd_T62 l0 0).f1), rd [t187, t191, t195, t199, t203, t207] ((rd_T62 l0 0).f1)] (ji8)) (ji18)) 2) = 1 then (if 0 ≤ (IntKind.u64.wrap (Int.tmod (wrap64 (x8_1 + (wrap64 ((rd_T62 l0 0).f2)))) 4)) then (spec_l01Hits.l0 k1 (wrap64 ((rd_T62 l0 0).f2)) (rd [rd [t184, t188, t192, t196, t200, t204] ((rd_T62 l0 0).f1), rd [t185, t189, t193, t197, t201, t205] ((rd_T62 l0 0).f1), rd [t186, t190, t194, t198, t202, t206] ((rd_T62 l0 0).f1), rd [t187, t191, t195, t199, t203, t207] ((rd_T62 l0 0).f1)] (ji8)) (wrap64 (x7_1 + (shl .i64 1 (IntKind.u64.wrap (Int.tmod (wrap64 (x8_1 + (wrap64 ((rd_T62 l0 0).f2)))) 4))))) (wrap64 (x8_1 + 1))) else (none)) else (spec_l01Hits.l0 k1 (wrap64 ((rd_T62 l0 0).f2)) (rd [rd [t184, t188, t192, t196, t200, t204] ((rd_T62 l0 0).f1), rd [t185, t189, t193, t197, t201, t205] ((rd_T62 l0 0).f1), rd [t186, t190, t194, t198, t202, t206] ((rd_T62 l0 0).f1), rd [t187, t191, t195, t199, t203, t207] ((rd_T62 l0 0).f1)] (ji8)) x7_1 (wrap64 (x8_1 + 1)))) else (none)) = some r := by first | (rw [hji18] at H; exact H) | (simp only [hji18] at H ⊢; exact H)
                    by_cases c19 : 0 ≤ (ji18)
                    · rw [if_pos c19] at H
                      have c19b0 := eq_true c19
                      have c19b1 : decide (0 ≤ (ji18)) = true := decide_eq_true c19
                      clear c19
                      obtain ⟨ji20, hji20⟩ : ∃ j_ : Int, (shr .i64 (rd [rd [t184, t188, t192, t196, t200, t204] ((rd_T62 l0 0).f1), rd [t185, t189, t193, t197, t201, t205] ((rd_T62 l0 0).f1), rd [t186, t190, t194, t198, t202, t206] ((rd_T62 l0 0).f1), rd [t187, t191, t195, t199, t203, t207] ((rd_T62 l0 0).f1)] (ji8)) (ji18)) = j_ := ⟨_, rfl⟩
                      replace H : (if (Int.tmod (ji20) 2) = 1 then (if 0 ≤ (IntKind.u64.wrap (Int.tmod (wrap64 (x8_1 + (wrap64 ((rd_T62 l0 0).f2)))) 4)) then (spec_l01Hits.l0 k1 (wrap64 ((rd_T62 l0 0).f2)) (rd [rd [t184, t188, t192, t196, t200, t204] ((rd_T62 l0 0).f1), rd [t185, t189, t193, t197, t201, t205] ((rd_T62 l0 0).f1), rd [t186, t190, t194, t198, t202, t206] ((rd_T62 l0 0).f1), rd [t187, t191, t195, t199, t203, t207] ((rd_T62 l0 0).f1)] (ji8)) (wrap64 (x7_1 + (shl .i64 1 (IntKind.u64.wrap (Int.tmod (wrap64 (x8_1 + (wrap64 ((rd_T62 l0 0).f2)))) 4))))) (wrap64 (x8_1 + 1))) else (none)) else (spec_l01Hits.l0 k1 (wrap64 ((rd_T62 l0 0).f2)) (rd [rd [t184, t188, t192, t196, t200, t204] ((rd_T62 l0 0).f1), rd [t185, t189, t193, t197, t201, t205] ((rd_T62 l0 0).f1), rd [t186, t190, t194, t198, t202, t206] ((rd_T62 l0 0).f1), rd [t187, t191, t195, t199, t203, t207] ((rd_T62 l0 0).f1)] (ji8)) x7_1 (wrap64 (x8_1 + 1)))) = some r := by first | (rw [hji20] at H; exact H) | (simp only [hji20] at H ⊢; exact H)
                      have hji20_ : ((rd [rd [t184, t188, t192, t196, t200, t204] ((rd_T62 l0 0).f1), rd [t185, t189, t193, t197, t201, t205] ((rd_T62 l0 0).f1), rd [t186, t190, t194, t198, t202, t206] ((rd_T62 l0 0).f1), rd [t187, t191, t195, t199, t203, t207] ((rd_T62 l0 0).f1)] (ji8)) / 2 ^ min (ji18).toNat 64) = ji20 := hji20
                      have hji20z : (ji18) ≤ 64 → ((rd [rd [t184, t188, t192, t196, t200, t204] ((rd_T62 l0 0).f1), rd [t185, t189, t193, t197, t201, t205] ((rd_T62 l0 0).f1), rd [t186, t190, t194, t198, t202, t206] ((rd_T62 l0 0).f1), rd [t187, t191, t195, t199, t203, t207] ((rd_T62 l0 0).f1)] (ji8)) / 2 ^ (ji18).toNat) = ji20 := shr_small hji20
                      by_cases c21 : (Int.tmod (ji20) 2) = 1
                      · rw [if_pos c21] at H
                        have c21b0 : ((Int.tmod (ji20) 2) == 1) = true := beq_iff_eq.mpr c21
                        have c21b1 : ((Int.tmod (ji20) 2) != 1) = false := bne_eq_false_iff_eq.mpr c21
                        clear c21
                        obtain ⟨ji22, hji22⟩ : ∃ j_ : Int, (IntKind.u64.wrap (Int.tmod (wrap64 (x8_1 + (wrap64 ((rd_T62 l0 0).f2)))) 4)) = j_ := ⟨_, rfl⟩
                        replace H : (if 0 ≤ (ji22) then (spec_l01Hits.l0 k1 (wrap64 ((rd_T62 l0 0).f2)) (rd [rd [t184, t188, t192, t196, t200, t204] ((rd_T62 l0 0).f1), rd [t185, t189, t193, t197, t201, t205] ((rd_T62 l0 0).f1), rd [t186, t190, t194, t198, t202, t206] ((rd_T62 l0 0).f1), rd [t187, t191, t195, t199, t203, t207] ((rd_T62 l0 0).f1)] (ji8)) (wrap64 (x7_1 + (shl .i64 1 (ji22)))) (wrap64 (x8_1 + 1))) else (none)) = some r := by first | (rw [hji22] at H; exact H) | (simp only [hji22] at H ⊢; exact H)
                        by_cases c23 : 0 ≤ (ji22)
                        · rw [if_pos c23] at H
                          have c23b0 := eq_true c23
                          have c23b1 : decide (0 ≤ (ji22)) = true := decide_eq_true c23
                          clear c23
                          obtain ⟨ji24, hji24⟩ : ∃ j_ : Int, (shl .i64 1 (ji22)) = j_ := ⟨_, rfl⟩
                          replace H : (spec_l01Hits.l0 k1 (wrap64 ((rd_T62 l0 0).f2)) (rd [rd [t184, t188, t192, t196, t200, t204] ((rd_T62 l0 0).f1), rd [t185, t189, t193, t197, t201, t205] ((rd_T62 l0 0).f1), rd [t186, t190, t194, t198, t202, t206] ((rd_T62 l0 0).f1), rd [t187, t191, t195, t199, t203, t207] ((rd_T62 l0 0).f1)] (ji8)) (wrap64 (x7_1 + (ji24))) (wrap64 (x8_1 + 1))) = some r := by first | (rw [hji24] at H; exact H) | (simp only [hji24] at H ⊢; exact H)
                          have hji24_ : (IntKind.i64.wrap (1 * 2 ^ min (ji22).toNat 64)) = ji24 := hji24
                          have hji24z : (ji22) ≤ 64 → (IntKind.i64.wrap (1 * 2 ^ (ji22).toNat)) = ji24 := shl_small hji24
                          have hji24u : (IntKind.i64.wrap (2 ^ min (ji22).toNat 64)) = ji24 := by have h_ := hji24_; rw [Int.one_mul] at h_; exact h_
                          have hji24v : (ji22) ≤ 64 → (IntKind.i64.wrap (2 ^ (ji22).toNat)) = ji24 := fun hle_ => by have h_ := hji24z hle_; rw [Int.one_mul] at h_; exact h_
                          have hji24y : (wrap64 (1 * 2 ^ min (ji22).toNat 64)) = ji24 := (i64_w _).symm.trans hji24_
                          have hji24x : (ji22) ≤ 64 → (wrap64 (1 * 2 ^ (ji22).toNat)) = ji24 := fun h_ => (i64_w _).symm.trans (hji24z h_)
                          have H' := Aside0.mk H
                          clear H
                          go_wp2
                          go_roundg k1
                          case measure => have := HK1.out; omega
                          case rel => exact ⟨(wrap64 (x7_1 + (ji24))), (wrap64 (x8_1 + 1)), (by first | rfl | (simp; done) | (simp only [← hji24] <;> (first | rfl | simp)) | (simp [*]; done) | (exact congrArg (Value.int .i64) (wrap_eq (by omega)))), (by first | rfl | (simp; done) | (simp [*]; done) | (exact congrArg (Value.int .i64) (wrap_eq (by omega)))), H', ⟨by have := HK1.out; omega⟩, ⟨by repeat (first | (with_reducible first | exact HB.out | apply below_alloc | apply pw_below_drewN | apply below_drew1) | exact HB.out)⟩⟩
                        · rw [if_neg c23] at H
                          exact absurd H (by simp)
                      · rw [if_neg c21] at H
                        have c21b0 : ((Int.tmod (ji20) 2) == 1) = false := beq_eq_false_iff_ne.mpr c21
                        have c21b1 : ((Int.tmod (ji20) 2) != 1) = true := bne_iff_ne.mpr c21
                        have H' := Aside0.mk H
                        clear H
                        go_wp2
                        go_roundg k1
                        case measure => have := HK1.out; omega
                        case rel => exact ⟨(x7_1), (wrap64 (x8_1 + 1)), (by first | rfl | (simp; done) | (simp [*]; done) | (exact congrArg (Value.int .i64) (wrap_eq (by omega)))), (by first | rfl | (simp; done) | (simp [*]; done) | (exact congrArg (Value.int .i64) (wrap_eq (by omega)))), H', ⟨by have := HK1.out; omega⟩, ⟨by repeat (first | (with_reducible first | exact HB.out | apply below_alloc | apply pw_below_drewN | apply below_drew1) | exact HB.out)⟩⟩
                    · rw [if_neg c19] at H
                      exact absurd H (by simp)
                  · rw [if_neg c17] at H
                    have c17b0 : decide (x8_1 < 4) = false := decide_eq_false c17
                    clear c17
                    obtain rfl := Option.some.inj H
                    go_wp2
                    go_ret
                    exact ⟨by first | rfl | (simp [errW_none, errW_some] <;> rfl) | (simp only [← hji8]; first | rfl | (simp [errW_none, errW_some] <;> rfl)) | (simp [*, errW_none, errW_some] <;> rfl), by repeat (first | (with_reducible first | exact HB.out | apply below_alloc | apply pw_below_drewN | apply below_drew1) | exact HB.out)⟩
          · rw [if_neg c10] at H
            exact absurd H (by simp)
        · rw [if_neg c9] at H
          exact absurd H (by simp)
      · rw [if_neg c6] at H
        exact absurd H (by simp)
    · rw [if_neg c5] at H
      exact absurd H (by simp)
  · rw [if_neg c3] at H
    exact absurd H (by simp)

end Go.Proofs.Ytdjhcnepndflmaa.PFnExactNeverHit
