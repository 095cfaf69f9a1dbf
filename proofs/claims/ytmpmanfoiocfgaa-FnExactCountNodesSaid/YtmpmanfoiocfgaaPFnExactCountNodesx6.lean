-- WRITTEN by xprint.py, a program of this session's. Not trusted: Lean checks it.
import Derived.Test.YtmpmanfoiocfgaaPFnExactCountNodesx0
namespace Go.Proofs.Ytmpmanfoiocfgaa.PFnExactCountNodes
open Go.RowKit Go.Proofs.YtmpmanfoiocfgaaW.PrintWords Go.Proofs.YtmpmanfoiocfgaaW.PrintLast Go.Proofs.YtmpmanfoiocfgaaW.PrintMore Go.Proofs.YtmpmanfoiocfgaaX
attribute [local go_sem] max2_int min2_int max_two min_two max_three min_three max_four min_four   -- for this text's walks alone
set_option linter.unusedVariables false
set_option linter.unusedSimpArgs false

/-! ### laws_eqInt64A4: function 30 -/
def laws_eqInt64A4.l0 : Nat → Int → Int → Int → Int → Int → Int → Int → Int → Int → Option (Bool)
  | 0, _, _, _, _, _, _, _, _, _ => none
  | k + 1, x5, x187000, x187001, x187002, x187003, x188000, x188001, x188002, x188003 => if x5 < 4 then (if x5 = 0 then (if x187000 = x188000 then (laws_eqInt64A4.l0 k (wrap64 (x5 + 1)) x187000 x187001 x187002 x187003 x188000 x188001 x188002 x188003) else (some false)) else (if x5 = 1 then (if x187001 = x188001 then (laws_eqInt64A4.l0 k (wrap64 (x5 + 1)) x187000 x187001 x187002 x187003 x188000 x188001 x188002 x188003) else (some false)) else (if x5 = 2 then (if x187002 = x188002 then (laws_eqInt64A4.l0 k (wrap64 (x5 + 1)) x187000 x187001 x187002 x187003 x188000 x188001 x188002 x188003) else (some false)) else (if x5 = 3 then (if x187003 = x188003 then (laws_eqInt64A4.l0 k (wrap64 (x5 + 1)) x187000 x187001 x187002 x187003 x188000 x188001 x188002 x188003) else (some false)) else (none))))) else (some true)
def laws_eqInt64A4.f (k : Nat) (a0_0 : Int) (a0_1 : Int) (a0_2 : Int) (a0_3 : Int) (a1_0 : Int) (a1_1 : Int) (a1_2 : Int) (a1_3 : Int) : Option (Bool) := laws_eqInt64A4.l0 k 0 a0_0 a0_1 a0_2 a0_3 a1_0 a1_1 a1_2 a1_3
theorem laws_eqInt64A4.mono_l : ∀ k, (∀ y0 y1 y2 y3 y4 y5 y6 y7 y8, LeO (laws_eqInt64A4.l0 k y0 y1 y2 y3 y4 y5 y6 y7 y8) (laws_eqInt64A4.l0 (k + 1) y0 y1 y2 y3 y4 y5 y6 y7 y8))
  | 0 => fun _ _ _ _ _ _ _ _ _ r h => by simp [laws_eqInt64A4.l0] at h
  | k + 1 => by
    have ih0 := laws_eqInt64A4.mono_l k
    · intro y0 y1 y2 y3 y4 y5 y6 y7 y8
      unfold laws_eqInt64A4.l0
      repeat' first
      | (with_reducible exact ih0 _ _ _ _ _ _ _ _ _)
      | (with_reducible exact LeO.refl _)
      | (with_reducible exact LeO.none _)
      | (with_reducible refine LeO.ite ?_ ?_)
      | (with_reducible refine LeO.bind ?_ (fun _ => ?_))
      | exact ih0 _ _ _ _ _ _ _ _ _
      | exact LeO.none _
      | refine LeO.ite ?_ ?_
      | refine LeO.bind ?_ (fun _ => ?_)
theorem laws_eqInt64A4.mono : ∀ a0 a1 a2 a3 a4 a5 a6 a7 k, LeO (laws_eqInt64A4.f k a0 a1 a2 a3 a4 a5 a6 a7) (laws_eqInt64A4.f (k + 1) a0 a1 a2 a3 a4 a5 a6 a7) := by
  intro a0 a1 a2 a3 a4 a5 a6 a7 k
  have ih0 := laws_eqInt64A4.mono_l k
  unfold laws_eqInt64A4.f
  repeat' first
      | (with_reducible exact ih0 _ _ _ _ _ _ _ _ _)
      | (with_reducible exact LeO.refl _)
      | (with_reducible exact LeO.none _)
      | (with_reducible refine LeO.ite ?_ ?_)
      | (with_reducible refine LeO.bind ?_ (fun _ => ?_))
      | exact ih0 _ _ _ _ _ _ _ _ _
      | exact LeO.none _
      | refine LeO.ite ?_ ?_
      | refine LeO.bind ?_ (fun _ => ?_)
set_option maxHeartbeats 8000000 in
set_option maxRecDepth 100000 in
theorem laws_eqInt64A4.calls (k : Nat) (a0_0 : Int) (a0_1 : Int) (a0_2 : Int) (a0_3 : Int) (a1_0 : Int) (a1_1 : Int) (a1_2 : Int) (a1_3 : Int) (r : Bool) (w : World) (h : laws_eqInt64A4.f k a0_0 a0_1 a0_2 a0_3 a1_0 a1_1 a1_2 a1_3 = some r) :
    Calls Try.prog 30 #[.agg #[.int .i64 a0_0, .int .i64 a0_1, .int .i64 a0_2, .int .i64 a0_3], .agg #[.int .i64 a1_0, .int .i64 a1_1, .int .i64 a1_2, .int .i64 a1_3]] w fun e w' => e = .returned (.bool r) ∧ Below w.heap.size w w' := by
  have hu36 := Try.underlying36
  have HB := Aside0.mk (Below.refl w.heap.size w)
  have H : (laws_eqInt64A4.l0 k 0 a0_0 a0_1 a0_2 a0_3 a1_0 a1_1 a1_2 a1_3) = some r := h
  clear h
  have H' := Aside0.mk H
  clear H
  go_enter Try.func30, Try.ntmps30
  go_wp2_with (first | ((with_reducible refine gate_dst (N := 2) rfl ?_); refine box_event ?hg (N := 2) ?hd (cs := #[.int .i64 a0_0, .int .i64 a0_1, .int .i64 a0_2, .int .i64 a0_3]) (t := 36) ?hr ?_; (case hd => rfl); (case hg => rfl); (case hr => first | (go_simp; done) | (go_simp; rfl)); intro gb186 hg w3 hbox hb; have n0_ := Aside0.mk (below_step (by repeat (first | (with_reducible first | exact HB.out | apply below_alloc | apply pw_below_drewN | apply below_drew1) | exact HB.out)) hb); have n1_ := Aside0.mk (hbox); have n2_ := Aside0.mk ((by rw [hg]; exact (below_size (by repeat (first | (with_reducible first | exact HB.out | apply below_alloc | apply pw_below_drewN | apply below_drew1) | exact HB.out))) : w.heap.size ≤ gb186)); have n3_ := Aside0.mk ((by rw [hg]; exact (below_size (by repeat (first | (with_reducible first | exact HB.out | apply below_alloc | apply pw_below_drewN | apply below_drew1) | exact HB.out))) : w.heap.size ≤ gb186)); clear HB; have HB := n0_; have BK186 := n1_; have GW186 := n2_; have GE186 := n3_; clear n0_ n1_ n2_ n3_; clear hb hbox hg) | ((with_reducible refine gate_dst (N := 3) rfl ?_); refine box_event ?hg (N := 3) ?hd (cs := #[.int .i64 a1_0, .int .i64 a1_1, .int .i64 a1_2, .int .i64 a1_3]) (t := 36) ?hr ?_; (case hd => rfl); (case hg => rfl); (case hr => first | (go_simp; done) | (go_simp; rfl)); intro gb187 hg w4 hbox hb; have n0_ := Aside0.mk (blk_below (g := gb186) (o := .cells #[.int .i64 a0_0, .int .i64 a0_1, .int .i64 a0_2, .int .i64 a0_3] 36 (0, 0)) (by (with_reducible repeat (first | refine blk_drewN ?_ _ | refine blk_drew ?_ | refine blk_alloc ?_ _)); exact BK186.out) hb); have n1_ := Aside0.mk (below_step (by repeat (first | (with_reducible first | exact HB.out | apply below_alloc | apply pw_below_drewN | apply below_drew1 | refine below_set ?_ GE186.out) | exact HB.out)) hb); have n2_ := Aside0.mk (hbox); have n3_ := Aside0.mk ((by rw [hg]; exact (below_size (by repeat (first | (with_reducible first | exact HB.out | apply below_alloc | apply pw_below_drewN | apply below_drew1 | refine below_set ?_ GE186.out) | exact HB.out))) : w.heap.size ≤ gb187)); have n4_ := Aside0.mk ((by rw [hg]; exact (below_size (by repeat (first | (with_reducible first | exact HB.out | apply below_alloc | apply pw_below_drewN | apply below_drew1 | refine below_set ?_ GE186.out) | exact HB.out))) : w.heap.size ≤ gb187)); have n5_ := Aside0.mk ((by rw [hg]; exact Nat.ne_of_lt (blk_lt (g := gb186) (o := .cells #[.int .i64 a0_0, .int .i64 a0_1, .int .i64 a0_2, .int .i64 a0_3] 36 (0, 0)) (by (with_reducible repeat (first | refine blk_drewN ?_ _ | refine blk_drew ?_ | refine blk_alloc ?_ _)); exact BK186.out)) : gb186 ≠ gb187)); have n6_ := Aside0.mk ((by rw [hg]; exact Nat.ne_of_gt (blk_lt (g := gb186) (o := .cells #[.int .i64 a0_0, .int .i64 a0_1, .int .i64 a0_2, .int .i64 a0_3] 36 (0, 0)) (by (with_reducible repeat (first | refine blk_drewN ?_ _ | refine blk_drew ?_ | refine blk_alloc ?_ _)); exact BK186.out)) : gb187 ≠ gb186)); clear BK186; clear HB; have BK186 := n0_; have HB := n1_; have BK187 := n2_; have GW187 := n3_; have GE187 := n4_; have NB186_187 := n5_; have NB187_186 := n6_; clear n0_ n1_ n2_ n3_ n4_ n5_ n6_; clear hb hbox hg))
  repeat (go_quiet (first | ((with_reducible refine gate_dst (N := 2) rfl ?_); refine box_event ?hg (N := 2) ?hd (cs := #[.int .i64 a0_0, .int .i64 a0_1, .int .i64 a0_2, .int .i64 a0_3]) (t := 36) ?hr ?_; (case hd => rfl); (case hg => rfl); (case hr => first | (go_simp; done) | (go_simp; rfl)); intro gb186 hg w3 hbox hb; have n0_ := Aside0.mk (below_step (by repeat (first | (with_reducible first | exact HB.out | apply below_alloc | apply pw_below_drewN | apply below_drew1) | exact HB.out)) hb); have n1_ := Aside0.mk (hbox); have n2_ := Aside0.mk ((by rw [hg]; exact (below_size (by repeat (first | (with_reducible first | exact HB.out | apply below_alloc | apply pw_below_drewN | apply below_drew1) | exact HB.out))) : w.heap.size ≤ gb186)); have n3_ := Aside0.mk ((by rw [hg]; exact (below_size (by repeat (first | (with_reducible first | exact HB.out | apply below_alloc | apply pw_below_drewN | apply below_drew1) | exact HB.out))) : w.heap.size ≤ gb186)); clear HB; have HB := n0_; have BK186 := n1_; have GW186 := n2_; have GE186 := n3_; clear n0_ n1_ n2_ n3_; clear hb hbox hg) | ((with_reducible refine gate_dst (N := 3) rfl ?_); refine box_event ?hg (N := 3) ?hd (cs := #[.int .i64 a1_0, .int .i64 a1_1, .int .i64 a1_2, .int .i64 a1_3]) (t := 36) ?hr ?_; (case hd => rfl); (case hg => rfl); (case hr => first | (go_simp; done) | (go_simp; rfl)); intro gb187 hg w4 hbox hb; have n0_ := Aside0.mk (blk_below (g := gb186) (o := .cells #[.int .i64 a0_0, .int .i64 a0_1, .int .i64 a0_2, .int .i64 a0_3] 36 (0, 0)) (by (with_reducible repeat (first | refine blk_drewN ?_ _ | refine blk_drew ?_ | refine blk_alloc ?_ _)); exact BK186.out) hb); have n1_ := Aside0.mk (below_step (by repeat (first | (with_reducible first | exact HB.out | apply below_alloc | apply pw_below_drewN | apply below_drew1 | refine below_set ?_ GE186.out) | exact HB.out)) hb); have n2_ := Aside0.mk (hbox); have n3_ := Aside0.mk ((by rw [hg]; exact (below_size (by repeat (first | (with_reducible first | exact HB.out | apply below_alloc | apply pw_below_drewN | apply below_drew1 | refine below_set ?_ GE186.out) | exact HB.out))) : w.heap.size ≤ gb187)); have n4_ := Aside0.mk ((by rw [hg]; exact (below_size (by repeat (first | (with_reducible first | exact HB.out | apply below_alloc | apply pw_below_drewN | apply below_drew1 | refine below_set ?_ GE186.out) | exact HB.out))) : w.heap.size ≤ gb187)); have n5_ := Aside0.mk ((by rw [hg]; exact Nat.ne_of_lt (blk_lt (g := gb186) (o := .cells #[.int .i64 a0_0, .int .i64 a0_1, .int .i64 a0_2, .int .i64 a0_3] 36 (0, 0)) (by (with_reducible repeat (first | refine blk_drewN ?_ _ | refine blk_drew ?_ | refine blk_alloc ?_ _)); exact BK186.out)) : gb186 ≠ gb187)); have n6_ := Aside0.mk ((by rw [hg]; exact Nat.ne_of_gt (blk_lt (g := gb186) (o := .cells #[.int .i64 a0_0, .int .i64 a0_1, .int .i64 a0_2, .int .i64 a0_3] 36 (0, 0)) (by (with_reducible repeat (first | refine blk_drewN ?_ _ | refine blk_drew ?_ | refine blk_alloc ?_ _)); exact BK186.out)) : gb187 ≠ gb186)); clear BK186; clear HB; have BK186 := n0_; have HB := n1_; have BK187 := n2_; have GW187 := n3_; have GE187 := n4_; have NB186_187 := n5_; have NB187_186 := n6_; clear n0_ n1_ n2_ n3_ n4_ n5_ n6_; clear hb hbox hg)); try go_wp2_with (first | ((with_reducible refine gate_dst (N := 2) rfl ?_); refine box_event ?hg (N := 2) ?hd (cs := #[.int .i64 a0_0, .int .i64 a0_1, .int .i64 a0_2, .int .i64 a0_3]) (t := 36) ?hr ?_; (case hd => rfl); (case hg => rfl); (case hr => first | (go_simp; done) | (go_simp; rfl)); intro gb186 hg w3 hbox hb; have n0_ := Aside0.mk (below_step (by repeat (first | (with_reducible first | exact HB.out | apply below_alloc | apply pw_below_drewN | apply below_drew1) | exact HB.out)) hb); have n1_ := Aside0.mk (hbox); have n2_ := Aside0.mk ((by rw [hg]; exact (below_size (by repeat (first | (with_reducible first | exact HB.out | apply below_alloc | apply pw_below_drewN | apply below_drew1) | exact HB.out))) : w.heap.size ≤ gb186)); have n3_ := Aside0.mk ((by rw [hg]; exact (below_size (by repeat (first | (with_reducible first | exact HB.out | apply below_alloc | apply pw_below_drewN | apply below_drew1) | exact HB.out))) : w.heap.size ≤ gb186)); clear HB; have HB := n0_; have BK186 := n1_; have GW186 := n2_; have GE186 := n3_; clear n0_ n1_ n2_ n3_; clear hb hbox hg) | ((with_reducible refine gate_dst (N := 3) rfl ?_); refine box_event ?hg (N := 3) ?hd (cs := #[.int .i64 a1_0, .int .i64 a1_1, .int .i64 a1_2, .int .i64 a1_3]) (t := 36) ?hr ?_; (case hd => rfl); (case hg => rfl); (case hr => first | (go_simp; done) | (go_simp; rfl)); intro gb187 hg w4 hbox hb; have n0_ := Aside0.mk (blk_below (g := gb186) (o := .cells #[.int .i64 a0_0, .int .i64 a0_1, .int .i64 a0_2, .int .i64 a0_3] 36 (0, 0)) (by (with_reducible repeat (first | refine blk_drewN ?_ _ | refine blk_drew ?_ | refine blk_alloc ?_ _)); exact BK186.out) hb); have n1_ := Aside0.mk (below_step (by repeat (first | (with_reducible first | exact HB.out | apply below_alloc | apply pw_below_drewN | apply below_drew1 | refine below_set ?_ GE186.out) | exact HB.out)) hb); have n2_ := Aside0.mk (hbox); have n3_ := Aside0.mk ((by rw [hg]; exact (below_size (by repeat (first | (with_reducible first | exact HB.out | apply below_alloc | apply pw_below_drewN | apply below_drew1 | refine below_set ?_ GE186.out) | exact HB.out))) : w.heap.size ≤ gb187)); have n4_ := Aside0.mk ((by rw [hg]; exact (below_size (by repeat (first | (with_reducible first | exact HB.out | apply below_alloc | apply pw_below_drewN | apply below_drew1 | refine below_set ?_ GE186.out) | exact HB.out))) : w.heap.size ≤ gb187)); have n5_ := Aside0.mk ((by rw [hg]; exact Nat.ne_of_lt (blk_lt (g := gb186) (o := .cells #[.int .i64 a0_0, .int .i64 a0_1, .int .i64 a0_2, .int .i64 a0_3] 36 (0, 0)) (by (with_reducible repeat (first | refine blk_drewN ?_ _ | refine blk_drew ?_ | refine blk_alloc ?_ _)); exact BK186.out)) : gb186 ≠ gb187)); have n6_ := Aside0.mk ((by rw [hg]; exact Nat.ne_of_gt (blk_lt (g := gb186) (o := .cells #[.int .i64 a0_0, .int .i64 a0_1, .int .i64 a0_2, .int .i64 a0_3] 36 (0, 0)) (by (with_reducible repeat (first | refine blk_drewN ?_ _ | refine blk_drew ?_ | refine blk_alloc ?_ _)); exact BK186.out)) : gb187 ≠ gb186)); clear BK186; clear HB; have BK186 := n0_; have HB := n1_; have BK187 := n2_; have GW187 := n3_; have GE187 := n4_; have NB186_187 := n5_; have NB187_186 := n6_; clear n0_ n1_ n2_ n3_ n4_ n5_ n6_; clear hb hbox hg)))
  go_loopg [5] k (fun kq v5 w' => ∃ (x5_1 : Int), v5 = .int .i64 x5_1 ∧ Aside0 (laws_eqInt64A4.l0 kq x5_1 a0_0 a0_1 a0_2 a0_3 a1_0 a1_1 a1_2 a1_3 = some r) ∧ Aside0 (kq ≤ k) ∧ Aside0 (w'.heap[gb186]? = some (.cells #[.int .i64 a0_0, .int .i64 a0_1, .int .i64 a0_2, .int .i64 a0_3] 36 (0, 0))) ∧ Aside0 (w'.heap[gb187]? = some (.cells #[.int .i64 a1_0, .int .i64 a1_1, .int .i64 a1_2, .int .i64 a1_3] 36 (0, 0))) ∧ Aside0 (Below w.heap.size w w'))
  case atStart => exact ⟨(0), (by first | rfl | (simp; done) | (simp [*]; done) | (exact congrArg (Value.int .i64) (wrap_eq (by omega)))), H', ⟨Nat.le_refl _⟩, ⟨by (with_reducible repeat (first | refine blk_drewN ?_ _ | refine blk_drew ?_ | refine blk_alloc ?_ _)); exact BK186.out⟩, ⟨by (with_reducible repeat (first | refine blk_drewN ?_ _ | refine blk_drew ?_ | refine blk_alloc ?_ _)); exact BK187.out⟩, ⟨by repeat (first | (with_reducible first | exact HB.out | apply below_alloc | apply pw_below_drewN | apply below_drew1 | refine below_set ?_ GE186.out | refine below_set ?_ GE187.out) | exact HB.out)⟩⟩
  case round =>
    clear H'
    try clear p2
    try clear c3
    obtain ⟨x5_1, rfl, HA, HK1, BK186, BK187, HB⟩ := hrel
    cases gk with
    | zero => exact absurd HA.out (by simp [laws_eqInt64A4.l0])
    | succ k1 =>
      have H := HA.out
      clear HA
      simp only [laws_eqInt64A4.l0] at H
      by_cases c5 : x5_1 < 4
      · rw [if_pos c5] at H
        have c5b0 : decide (x5_1 < 4) = true := decide_eq_true c5
        clear c5
        by_cases c6 : x5_1 = 0
        · rw [if_pos c6] at H
          have Ac6 : Aside0 (x5_1 = 0) := ⟨c6⟩
          clear c6
          have ar7e : x5_1 = 0 := by first | exact (show Aside0 (x5_1 = 0) by assumption).out | exact beq_iff_eq.mp (by assumption) | omega
          have ar7n : (x5_1).toNat = 0 := by rw [ar7e]; rfl
          have ar7l : decide (0 ≤ x5_1) = true := decide_eq_true (by omega)
          have ar7L := eq_true (of_decide_eq_true ar7l)
          have ar7h : decide (x5_1 < 4) = true := decide_eq_true (by omega)
          have ar7H := eq_true (of_decide_eq_true ar7h)
          clear ar7e
          have ar8e : x5_1 = 0 := by first | exact (show Aside0 (x5_1 = 0) by assumption).out | exact beq_iff_eq.mp (by assumption) | omega
          have ar8n : (x5_1).toNat = 0 := by rw [ar8e]; rfl
          have ar8l : decide (0 ≤ x5_1) = true := decide_eq_true (by omega)
          have ar8L := eq_true (of_decide_eq_true ar8l)
          have ar8h : decide (x5_1 < 4) = true := decide_eq_true (by omega)
          have ar8H := eq_true (of_decide_eq_true ar8h)
          clear ar8e
          by_cases c9 : a0_0 = a1_0
          · rw [if_pos c9] at H
            have c9b0 : (a0_0 == a1_0) = true := beq_iff_eq.mpr c9
            have c9b1 : (a0_0 != a1_0) = false := bne_eq_false_iff_eq.mpr c9
            clear c9
            have H' := Aside0.mk H
            clear H
            have hnb10 := NB186_187.out
            have hnc10 := NB187_186.out
            have hcz11_0 : wr.cell? ⟨gb186, 0, none⟩ = some (.int .i64 a0_0) := (blk_cell BK186.out 0).trans rfl
            have hcz11_1 : wr.cell? ⟨gb186, 1, none⟩ = some (.int .i64 a0_1) := (blk_cell BK186.out 1).trans rfl
            have hcz11_2 : wr.cell? ⟨gb186, 2, none⟩ = some (.int .i64 a0_2) := (blk_cell BK186.out 2).trans rfl
            have hcz11_3 : wr.cell? ⟨gb186, 3, none⟩ = some (.int .i64 a0_3) := (blk_cell BK186.out 3).trans rfl
            have hfz11_0 := blk_frozen BK186.out 0
            have hfz11_1 := blk_frozen BK186.out 1
            have hfz11_2 := blk_frozen BK186.out 2
            have hfz11_3 := blk_frozen BK186.out 3
            have hcz12_0 : wr.cell? ⟨gb187, 0, none⟩ = some (.int .i64 a1_0) := (blk_cell BK187.out 0).trans rfl
            have hcz12_1 : wr.cell? ⟨gb187, 1, none⟩ = some (.int .i64 a1_1) := (blk_cell BK187.out 1).trans rfl
            have hcz12_2 : wr.cell? ⟨gb187, 2, none⟩ = some (.int .i64 a1_2) := (blk_cell BK187.out 2).trans rfl
            have hcz12_3 : wr.cell? ⟨gb187, 3, none⟩ = some (.int .i64 a1_3) := (blk_cell BK187.out 3).trans rfl
            have hfz12_0 := blk_frozen BK187.out 0
            have hfz12_1 := blk_frozen BK187.out 1
            have hfz12_2 := blk_frozen BK187.out 2
            have hfz12_3 := blk_frozen BK187.out 3
            go_wp2
            repeat (go_quiet (fail); try go_wp2)
            go_roundg k1
            case measure => have := HK1.out; omega
            case rel => exact ⟨(wrap64 (x5_1 + 1)), (by first | rfl | (simp; done) | (simp [*]; done) | (exact congrArg (Value.int .i64) (wrap_eq (by omega)))), H', ⟨by have := HK1.out; omega⟩, ⟨by (with_reducible repeat (first | refine blk_drewN ?_ _ | refine blk_drew ?_ | refine blk_alloc ?_ _)); exact BK186.out⟩, ⟨by (with_reducible repeat (first | refine blk_drewN ?_ _ | refine blk_drew ?_ | refine blk_alloc ?_ _)); exact BK187.out⟩, ⟨by repeat (first | (with_reducible first | exact HB.out | apply below_alloc | apply pw_below_drewN | apply below_drew1 | refine below_set ?_ GE186.out | refine below_set ?_ GE187.out) | exact HB.out)⟩⟩
          · rw [if_neg c9] at H
            have c9b0 : (a0_0 == a1_0) = false := beq_eq_false_iff_ne.mpr c9
            have c9b1 : (a0_0 != a1_0) = true := bne_iff_ne.mpr c9
            obtain rfl := Option.some.inj H
            have hnb13 := NB186_187.out
            have hnc13 := NB187_186.out
            have hcz14_0 : wr.cell? ⟨gb186, 0, none⟩ = some (.int .i64 a0_0) := (blk_cell BK186.out 0).trans rfl
            have hcz14_1 : wr.cell? ⟨gb186, 1, none⟩ = some (.int .i64 a0_1) := (blk_cell BK186.out 1).trans rfl
            have hcz14_2 : wr.cell? ⟨gb186, 2, none⟩ = some (.int .i64 a0_2) := (blk_cell BK186.out 2).trans rfl
            have hcz14_3 : wr.cell? ⟨gb186, 3, none⟩ = some (.int .i64 a0_3) := (blk_cell BK186.out 3).trans rfl
            have hfz14_0 := blk_frozen BK186.out 0
            have hfz14_1 := blk_frozen BK186.out 1
            have hfz14_2 := blk_frozen BK186.out 2
            have hfz14_3 := blk_frozen BK186.out 3
            have hcz15_0 : wr.cell? ⟨gb187, 0, none⟩ = some (.int .i64 a1_0) := (blk_cell BK187.out 0).trans rfl
            have hcz15_1 : wr.cell? ⟨gb187, 1, none⟩ = some (.int .i64 a1_1) := (blk_cell BK187.out 1).trans rfl
            have hcz15_2 : wr.cell? ⟨gb187, 2, none⟩ = some (.int .i64 a1_2) := (blk_cell BK187.out 2).trans rfl
            have hcz15_3 : wr.cell? ⟨gb187, 3, none⟩ = some (.int .i64 a1_3) := (blk_cell BK187.out 3).trans rfl
            have hfz15_0 := blk_frozen BK187.out 0
            have hfz15_1 := blk_frozen BK187.out 1
            have hfz15_2 := blk_frozen BK187.out 2
            have hfz15_3 := blk_frozen BK187.out 3
            go_wp2
            repeat (go_quiet (fail); try go_wp2)
            go_ret
            exact ⟨by first | rfl | (simp [errW_none, errW_some] <;> rfl) | (simp [*, errW_none, errW_some] <;> rfl), by repeat (first | (with_reducible first | exact HB.out | apply below_alloc | apply pw_below_drewN | apply below_drew1 | refine below_set ?_ GE186.out | refine below_set ?_ GE187.out) | exact HB.out)⟩
        · rw [if_neg c6] at H
          clear c6
          by_cases c16 : x5_1 = 1
          · rw [if_pos c16] at H
            have Ac16 : Aside0 (x5_1 = 1) := ⟨c16⟩
            clear c16
            have ar17e : x5_1 = 1 := by first | exact (show Aside0 (x5_1 = 1) by assumption).out | exact beq_iff_eq.mp (by assumption) | omega
            have ar17n : (x5_1).toNat = 1 := by rw [ar17e]; rfl
            have ar17l : decide (0 ≤ x5_1) = true := decide_eq_true (by omega)
            have ar17L := eq_true (of_decide_eq_true ar17l)
            have ar17h : decide (x5_1 < 4) = true := decide_eq_true (by omega)
            have ar17H := eq_true (of_decide_eq_true ar17h)
            clear ar17e
            have ar18e : x5_1 = 1 := by first | exact (show Aside0 (x5_1 = 1) by assumption).out | exact beq_iff_eq.mp (by assumption) | omega
            have ar18n : (x5_1).toNat = 1 := by rw [ar18e]; rfl
            have ar18l : decide (0 ≤ x5_1) = true := decide_eq_true (by omega)
            have ar18L := eq_true (of_decide_eq_true ar18l)
            have ar18h : decide (x5_1 < 4) = true := decide_eq_true (by omega)
            have ar18H := eq_true (of_decide_eq_true ar18h)
            clear ar18e
            by_cases c19 : a0_1 = a1_1
            · rw [if_pos c19] at H
              have c19b0 : (a0_1 == a1_1) = true := beq_iff_eq.mpr c19
              have c19b1 : (a0_1 != a1_1) = false := bne_eq_false_iff_eq.mpr c19
              clear c19
              have H' := Aside0.mk H
              clear H
              have hnb20 := NB186_187.out
              have hnc20 := NB187_186.out
              have hcz21_0 : wr.cell? ⟨gb186, 0, none⟩ = some (.int .i64 a0_0) := (blk_cell BK186.out 0).trans rfl
              have hcz21_1 : wr.cell? ⟨gb186, 1, none⟩ = some (.int .i64 a0_1) := (blk_cell BK186.out 1).trans rfl
              have hcz21_2 : wr.cell? ⟨gb186, 2, none⟩ = some (.int .i64 a0_2) := (blk_cell BK186.out 2).trans rfl
              have hcz21_3 : wr.cell? ⟨gb186, 3, none⟩ = some (.int .i64 a0_3) := (blk_cell BK186.out 3).trans rfl
              have hfz21_0 := blk_frozen BK186.out 0
              have hfz21_1 := blk_frozen BK186.out 1
              have hfz21_2 := blk_frozen BK186.out 2
              have hfz21_3 := blk_frozen BK186.out 3
              have hcz22_0 : wr.cell? ⟨gb187, 0, none⟩ = some (.int .i64 a1_0) := (blk_cell BK187.out 0).trans rfl
              have hcz22_1 : wr.cell? ⟨gb187, 1, none⟩ = some (.int .i64 a1_1) := (blk_cell BK187.out 1).trans rfl
              have hcz22_2 : wr.cell? ⟨gb187, 2, none⟩ = some (.int .i64 a1_2) := (blk_cell BK187.out 2).trans rfl
              have hcz22_3 : wr.cell? ⟨gb187, 3, none⟩ = some (.int .i64 a1_3) := (blk_cell BK187.out 3).trans rfl
              have hfz22_0 := blk_frozen BK187.out 0
              have hfz22_1 := blk_frozen BK187.out 1
              have hfz22_2 := blk_frozen BK187.out 2
              have hfz22_3 := blk_frozen BK187.out 3
              go_wp2
              repeat (go_quiet (fail); try go_wp2)
              go_roundg k1
              case measure => have := HK1.out; omega
              case rel => exact ⟨(wrap64 (x5_1 + 1)), (by first | rfl | (simp; done) | (simp [*]; done) | (exact congrArg (Value.int .i64) (wrap_eq (by omega)))), H', ⟨by have := HK1.out; omega⟩, ⟨by (with_reducible repeat (first | refine blk_drewN ?_ _ | refine blk_drew ?_ | refine blk_alloc ?_ _)); exact BK186.out⟩, ⟨by (with_reducible repeat (first | refine blk_drewN ?_ _ | refine blk_drew ?_ | refine blk_alloc ?_ _)); exact BK187.out⟩, ⟨by repeat (first | (with_reducible first | exact HB.out | apply below_alloc | apply pw_below_drewN | apply below_drew1 | refine below_set ?_ GE186.out | refine below_set ?_ GE187.out) | exact HB.out)⟩⟩
            · rw [if_neg c19] at H
              have c19b0 : (a0_1 == a1_1) = false := beq_eq_false_iff_ne.mpr c19
              have c19b1 : (a0_1 != a1_1) = true := bne_iff_ne.mpr c19
              obtain rfl := Option.some.inj H
              have hnb23 := NB186_187.out
              have hnc23 := NB187_186.out
              have hcz24_0 : wr.cell? ⟨gb186, 0, none⟩ = some (.int .i64 a0_0) := (blk_cell BK186.out 0).trans rfl
              have hcz24_1 : wr.cell? ⟨gb186, 1, none⟩ = some (.int .i64 a0_1) := (blk_cell BK186.out 1).trans rfl
              have hcz24_2 : wr.cell? ⟨gb186, 2, none⟩ = some (.int .i64 a0_2) := (blk_cell BK186.out 2).trans rfl
              have hcz24_3 : wr.cell? ⟨gb186, 3, none⟩ = some (.int .i64 a0_3) := (blk_cell BK186.out 3).trans rfl
              have hfz24_0 := blk_frozen BK186.out 0
              have hfz24_1 := blk_frozen BK186.out 1
              have hfz24_2 := blk_frozen BK186.out 2
              have hfz24_3 := blk_frozen BK186.out 3
              have hcz25_0 : wr.cell? ⟨gb187, 0, none⟩ = some (.int .i64 a1_0) := (blk_cell BK187.out 0).trans rfl
              have hcz25_1 : wr.cell? ⟨gb187, 1, none⟩ = some (.int .i64 a1_1) := (blk_cell BK187.out 1).trans rfl
              have hcz25_2 : wr.cell? ⟨gb187, 2, none⟩ = some (.int .i64 a1_2) := (blk_cell BK187.out 2).trans rfl
              have hcz25_3 : wr.cell? ⟨gb187, 3, none⟩ = some (.int .i64 a1_3) := (blk_cell BK187.out 3).trans rfl
              have hfz25_0 := blk_frozen BK187.out 0
              have hfz25_1 := blk_frozen BK187.out 1
              have hfz25_2 := blk_frozen BK187.out 2
              have hfz25_3 := blk_frozen BK187.out 3
              go_wp2
              repeat (go_quiet (fail); try go_wp2)
              go_ret
              exact ⟨by first | rfl | (simp [errW_none, errW_some] <;> rfl) | (simp [*, errW_none, errW_some] <;> rfl), by repeat (first | (with_reducible first | exact HB.out | apply below_alloc | apply pw_below_drewN | apply below_drew1 | refine below_set ?_ GE186.out | refine below_set ?_ GE187.out) | exact HB.out)⟩
          · rw [if_neg c16] at H
            clear c16
            by_cases c26 : x5_1 = 2
            · rw [if_pos c26] at H
              have Ac26 : Aside0 (x5_1 = 2) := ⟨c26⟩
              clear c26
              have ar27e : x5_1 = 2 := by first | exact (show Aside0 (x5_1 = 2) by assumption).out | exact beq_iff_eq.mp (by assumption) | omega
              have ar27n : (x5_1).toNat = 2 := by rw [ar27e]; rfl
              have ar27l : decide (0 ≤ x5_1) = true := decide_eq_true (by omega)
              have ar27L := eq_true (of_decide_eq_true ar27l)
              have ar27h : decide (x5_1 < 4) = true := decide_eq_true (by omega)
              have ar27H := eq_true (of_decide_eq_true ar27h)
              clear ar27e
              have ar28e : x5_1 = 2 := by first | exact (show Aside0 (x5_1 = 2) by assumption).out | exact beq_iff_eq.mp (by assumption) | omega
              have ar28n : (x5_1).toNat = 2 := by rw [ar28e]; rfl
              have ar28l : decide (0 ≤ x5_1) = true := decide_eq_true (by omega)
              have ar28L := eq_true (of_decide_eq_true ar28l)
              have ar28h : decide (x5_1 < 4) = true := decide_eq_true (by omega)
              have ar28H := eq_true (of_decide_eq_true ar28h)
              clear ar28e
              by_cases c29 : a0_2 = a1_2
              · rw [if_pos c29] at H
                have c29b0 : (a0_2 == a1_2) = true := beq_iff_eq.mpr c29
                have c29b1 : (a0_2 != a1_2) = false := bne_eq_false_iff_eq.mpr c29
                clear c29
                have H' := Aside0.mk H
                clear H
                have hnb30 := NB186_187.out
                have hnc30 := NB187_186.out
                have hcz31_0 : wr.cell? ⟨gb186, 0, none⟩ = some (.int .i64 a0_0) := (blk_cell BK186.out 0).trans rfl
                have hcz31_1 : wr.cell? ⟨gb186, 1, none⟩ = some (.int .i64 a0_1) := (blk_cell BK186.out 1).trans rfl
                have hcz31_2 : wr.cell? ⟨gb186, 2, none⟩ = some (.int .i64 a0_2) := (blk_cell BK186.out 2).trans rfl
                have hcz31_3 : wr.cell? ⟨gb186, 3, none⟩ = some (.int .i64 a0_3) := (blk_cell BK186.out 3).trans rfl
                have hfz31_0 := blk_frozen BK186.out 0
                have hfz31_1 := blk_frozen BK186.out 1
                have hfz31_2 := blk_frozen BK186.out 2
                have hfz31_3 := blk_frozen BK186.out 3
                have hcz32_0 : wr.cell? ⟨gb187, 0, none⟩ = some (.int .i64 a1_0) := (blk_cell BK187.out 0).trans rfl
                have hcz32_1 : wr.cell? ⟨gb187, 1, none⟩ = some (.int .i64 a1_1) := (blk_cell BK187.out 1).trans rfl
                have hcz32_2 : wr.cell? ⟨gb187, 2, none⟩ = some (.int .i64 a1_2) := (blk_cell BK187.out 2).trans rfl
                have hcz32_3 : wr.cell? ⟨gb187, 3, none⟩ = some (.int .i64 a1_3) := (blk_cell BK187.out 3).trans rfl
                have hfz32_0 := blk_frozen BK187.out 0
                have hfz32_1 := blk_frozen BK187.out 1
                have hfz32_2 := blk_frozen BK187.out 2
                have hfz32_3 := blk_frozen BK187.out 3
                go_wp2
                repeat (go_quiet (fail); try go_wp2)
                go_roundg k1
                case measure => have := HK1.out; omega
                case rel => exact ⟨(wrap64 (x5_1 + 1)), (by first | rfl | (simp; done) | (simp [*]; done) | (exact congrArg (Value.int .i64) (wrap_eq (by omega)))), H', ⟨by have := HK1.out; omega⟩, ⟨by (with_reducible repeat (first | refine blk_drewN ?_ _ | refine blk_drew ?_ | refine blk_alloc ?_ _)); exact BK186.out⟩, ⟨by (with_reducible repeat (first | refine blk_drewN ?_ _ | refine blk_drew ?_ | refine blk_alloc ?_ _)); exact BK187.out⟩, ⟨by repeat (first | (with_reducible first | exact HB.out | apply below_alloc | apply pw_below_drewN | apply below_drew1 | refine below_set ?_ GE186.out | refine below_set ?_ GE187.out) | exact HB.out)⟩⟩
              · rw [if_neg c29] at H
                have c29b0 : (a0_2 == a1_2) = false := beq_eq_false_iff_ne.mpr c29
                have c29b1 : (a0_2 != a1_2) = true := bne_iff_ne.mpr c29
                obtain rfl := Option.some.inj H
                have hnb33 := NB186_187.out
                have hnc33 := NB187_186.out
                have hcz34_0 : wr.cell? ⟨gb186, 0, none⟩ = some (.int .i64 a0_0) := (blk_cell BK186.out 0).trans rfl
                have hcz34_1 : wr.cell? ⟨gb186, 1, none⟩ = some (.int .i64 a0_1) := (blk_cell BK186.out 1).trans rfl
                have hcz34_2 : wr.cell? ⟨gb186, 2, none⟩ = some (.int .i64 a0_2) := (blk_cell BK186.out 2).trans rfl
                have hcz34_3 : wr.cell? ⟨gb186, 3, none⟩ = some (.int .i64 a0_3) := (blk_cell BK186.out 3).trans rfl
                have hfz34_0 := blk_frozen BK186.out 0
                have hfz34_1 := blk_frozen BK186.out 1
                have hfz34_2 := blk_frozen BK186.out 2
                have hfz34_3 := blk_frozen BK186.out 3
                have hcz35_0 : wr.cell? ⟨gb187, 0, none⟩ = some (.int .i64 a1_0) := (blk_cell BK187.out 0).trans rfl
                have hcz35_1 : wr.cell? ⟨gb187, 1, none⟩ = some (.int .i64 a1_1) := (blk_cell BK187.out 1).trans rfl
                have hcz35_2 : wr.cell? ⟨gb187, 2, none⟩ = some (.int .i64 a1_2) := (blk_cell BK187.out 2).trans rfl
                have hcz35_3 : wr.cell? ⟨gb187, 3, none⟩ = some (.int .i64 a1_3) := (blk_cell BK187.out 3).trans rfl
                have hfz35_0 := blk_frozen BK187.out 0
                have hfz35_1 := blk_frozen BK187.out 1
                have hfz35_2 := blk_frozen BK187.out 2
                have hfz35_3 := blk_frozen BK187.out 3
                go_wp2
                repeat (go_quiet (fail); try go_wp2)
                go_ret
                exact ⟨by first | rfl | (simp [errW_none, errW_some] <;> rfl) | (simp [*, errW_none, errW_some] <;> rfl), by repeat (first | (with_reducible first | exact HB.out | apply below_alloc | apply pw_below_drewN | apply below_drew1 | refine below_set ?_ GE186.out | refine below_set ?_ GE187.out) | exact HB.out)⟩
            · rw [if_neg c26] at H
              clear c26
              by_cases c36 : x5_1 = 3
              · rw [if_pos c36] at H
                have Ac36 : Aside0 (x5_1 = 3) := ⟨c36⟩
                clear c36
                have ar37e : x5_1 = 3 := by first | exact (show Aside0 (x5_1 = 3) by assumption).out | exact beq_iff_eq.mp (by assumption) | omega
                have ar37n : (x5_1).toNat = 3 := by rw [ar37e]; rfl
                have ar37l : decide (0 ≤ x5_1) = true := decide_eq_true (by omega)
                have ar37L := eq_true (of_decide_eq_true ar37l)
                have ar37h : decide (x5_1 < 4) = true := decide_eq_true (by omega)
                have ar37H := eq_true (of_decide_eq_true ar37h)
                clear ar37e
                have ar38e : x5_1 = 3 := by first | exact (show Aside0 (x5_1 = 3) by assumption).out | exact beq_iff_eq.mp (by assumption) | omega
                have ar38n : (x5_1).toNat = 3 := by rw [ar38e]; rfl
                have ar38l : decide (0 ≤ x5_1) = true := decide_eq_true (by omega)
                have ar38L := eq_true (of_decide_eq_true ar38l)
                have ar38h : decide (x5_1 < 4) = true := decide_eq_true (by omega)
                have ar38H := eq_true (of_decide_eq_true ar38h)
                clear ar38e
                by_cases c39 : a0_3 = a1_3
                · rw [if_pos c39] at H
                  have c39b0 : (a0_3 == a1_3) = true := beq_iff_eq.mpr c39
                  have c39b1 : (a0_3 != a1_3) = false := bne_eq_false_iff_eq.mpr c39
                  clear c39
                  have H' := Aside0.mk H
                  clear H
                  have hnb40 := NB186_187.out
                  have hnc40 := NB187_186.out
                  have hcz41_0 : wr.cell? ⟨gb186, 0, none⟩ = some (.int .i64 a0_0) := (blk_cell BK186.out 0).trans rfl
                  have hcz41_1 : wr.cell? ⟨gb186, 1, none⟩ = some (.int .i64 a0_1) := (blk_cell BK186.out 1).trans rfl
                  have hcz41_2 : wr.cell? ⟨gb186, 2, none⟩ = some (.int .i64 a0_2) := (blk_cell BK186.out 2).trans rfl
                  have hcz41_3 : wr.cell? ⟨gb186, 3, none⟩ = some (.int .i64 a0_3) := (blk_cell BK186.out 3).trans rfl
                  have hfz41_0 := blk_frozen BK186.out 0
                  have hfz41_1 := blk_frozen BK186.out 1
                  have hfz41_2 := blk_frozen BK186.out 2
                  have hfz41_3 := blk_frozen BK186.out 3
                  have hcz42_0 : wr.cell? ⟨gb187, 0, none⟩ = some (.int .i64 a1_0) := (blk_cell BK187.out 0).trans rfl
                  have hcz42_1 : wr.cell? ⟨gb187, 1, none⟩ = some (.int .i64 a1_1) := (blk_cell BK187.out 1).trans rfl
                  have hcz42_2 : wr.cell? ⟨gb187, 2, none⟩ = some (.int .i64 a1_2) := (blk_cell BK187.out 2).trans rfl
                  have hcz42_3 : wr.cell? ⟨gb187, 3, none⟩ = some (.int .i64 a1_3) := (blk_cell BK187.out 3).trans rfl
                  have hfz42_0 := blk_frozen BK187.out 0
                  have hfz42_1 := blk_frozen BK187.out 1
                  have hfz42_2 := blk_frozen BK187.out 2
                  have hfz42_3 := blk_frozen BK187.out 3
                  go_wp2
                  repeat (go_quiet (fail); try go_wp2)
                  go_roundg k1
                  case measure => have := HK1.out; omega
                  case rel => exact ⟨(wrap64 (x5_1 + 1)), (by first | rfl | (simp; done) | (simp [*]; done) | (exact congrArg (Value.int .i64) (wrap_eq (by omega)))), H', ⟨by have := HK1.out; omega⟩, ⟨by (with_reducible repeat (first | refine blk_drewN ?_ _ | refine blk_drew ?_ | refine blk_alloc ?_ _)); exact BK186.out⟩, ⟨by (with_reducible repeat (first | refine blk_drewN ?_ _ | refine blk_drew ?_ | refine blk_alloc ?_ _)); exact BK187.out⟩, ⟨by repeat (first | (with_reducible first | exact HB.out | apply below_alloc | apply pw_below_drewN | apply below_drew1 | refine below_set ?_ GE186.out | refine below_set ?_ GE187.out) | exact HB.out)⟩⟩
                · rw [if_neg c39] at H
                  have c39b0 : (a0_3 == a1_3) = false := beq_eq_false_iff_ne.mpr c39
                  have c39b1 : (a0_3 != a1_3) = true := bne_iff_ne.mpr c39
                  obtain rfl := Option.some.inj H
                  have hnb43 := NB186_187.out
                  have hnc43 := NB187_186.out
                  have hcz44_0 : wr.cell? ⟨gb186, 0, none⟩ = some (.int .i64 a0_0) := (blk_cell BK186.out 0).trans rfl
                  have hcz44_1 : wr.cell? ⟨gb186, 1, none⟩ = some (.int .i64 a0_1) := (blk_cell BK186.out 1).trans rfl
                  have hcz44_2 : wr.cell? ⟨gb186, 2, none⟩ = some (.int .i64 a0_2) := (blk_cell BK186.out 2).trans rfl
                  have hcz44_3 : wr.cell? ⟨gb186, 3, none⟩ = some (.int .i64 a0_3) := (blk_cell BK186.out 3).trans rfl
                  have hfz44_0 := blk_frozen BK186.out 0
                  have hfz44_1 := blk_frozen BK186.out 1
                  have hfz44_2 := blk_frozen BK186.out 2
                  have hfz44_3 := blk_frozen BK186.out 3
                  have hcz45_0 : wr.cell? ⟨gb187, 0, none⟩ = some (.int .i64 a1_0) := (blk_cell BK187.out 0).trans rfl
                  have hcz45_1 : wr.cell? ⟨gb187, 1, none⟩ = some (.int .i64 a1_1) := (blk_cell BK187.out 1).trans rfl
                  have hcz45_2 : wr.cell? ⟨gb187, 2, none⟩ = some (.int .i64 a1_2) := (blk_cell BK187.out 2).trans rfl
                  have hcz45_3 : wr.cell? ⟨gb187, 3, none⟩ = some (.int .i64 a1_3) := (blk_cell BK187.out 3).trans rfl
                  have hfz45_0 := blk_frozen BK187.out 0
                  have hfz45_1 := blk_frozen BK187.out 1
                  have hfz45_2 := blk_frozen BK187.out 2
                  have hfz45_3 := blk_frozen BK187.out 3
                  go_wp2
                  repeat (go_quiet (fail); try go_wp2)
                  go_ret
                  exact ⟨by first | rfl | (simp [errW_none, errW_some] <;> rfl) | (simp [*, errW_none, errW_some] <;> rfl), by repeat (first | (with_reducible first | exact HB.out | apply below_alloc | apply pw_below_drewN | apply below_drew1 | refine below_set ?_ GE186.out | refine below_set ?_ GE187.out) | exact HB.out)⟩
              · rw [if_neg c36] at H
                exact absurd H (by simp)
      · rw [if_neg c5] at H
        have c5b0 : decide (x5_1 < 4) = false := decide_eq_false c5
        clear c5
        obtain rfl := Option.some.inj H
        go_wp2
        repeat (go_quiet (fail); try go_wp2)
        go_ret
        exact ⟨by first | rfl | (simp [errW_none, errW_some] <;> rfl) | (simp [*, errW_none, errW_some] <;> rfl), by repeat (first | (with_reducible first | exact HB.out | apply below_alloc | apply pw_below_drewN | apply below_drew1 | refine below_set ?_ GE186.out | refine below_set ?_ GE187.out) | exact HB.out)⟩

end Go.Proofs.Ytmpmanfoiocfgaa.PFnExactCountNodes
