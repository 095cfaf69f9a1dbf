-- WRITTEN by xprint.py, a program of this session's. Not trusted: Lean checks it.
import Derived.Test.YtffnfpnajkgnaaaPFnExactValidPushesx0
namespace Go.Proofs.Ytffnfpnajkgnaaa.PFnExactValidPushes
open Go.RowKit Go.Proofs.YtffnfpnajkgnaaaW.PrintWords Go.Proofs.YtffnfpnajkgnaaaW.PrintLast Go.Proofs.YtffnfpnajkgnaaaW.PrintMore Go.Proofs.YtffnfpnajkgnaaaX
attribute [local go_sem] max2_int min2_int max_two min_two max_three min_three max_four min_four   -- for this text's walks alone
set_option linter.unusedVariables false
set_option linter.unusedSimpArgs false

/-! ### laws_eqCell: function 159 -/
def laws_eqCell.l0 : Nat → Int → Int → Int → Int → Int → Option (Bool)
  | 0, _, _, _, _, _ => none
  | k + 1, x5, x102000, x102001, x103000, x103001 => if x5 < 2 then (if x5 = 0 then (if x102000 = x103000 then (laws_eqCell.l0 k (wrap64 (x5 + 1)) x102000 x102001 x103000 x103001) else (some false)) else (if x5 = 1 then (if x102001 = x103001 then (laws_eqCell.l0 k (wrap64 (x5 + 1)) x102000 x102001 x103000 x103001) else (some false)) else (none))) else (some true)
def laws_eqCell.f (k : Nat) (a0_0 : Int) (a0_1 : Int) (a1_0 : Int) (a1_1 : Int) : Option (Bool) := laws_eqCell.l0 k 0 a0_0 a0_1 a1_0 a1_1
theorem laws_eqCell.mono_l : ∀ k, (∀ y0 y1 y2 y3 y4, LeO (laws_eqCell.l0 k y0 y1 y2 y3 y4) (laws_eqCell.l0 (k + 1) y0 y1 y2 y3 y4))
  | 0 => fun _ _ _ _ _ r h => by simp [laws_eqCell.l0] at h
  | k + 1 => by
    have ih0 := laws_eqCell.mono_l k
    · intro y0 y1 y2 y3 y4
      unfold laws_eqCell.l0
      repeat' first
      | (with_reducible exact ih0 _ _ _ _ _)
      | (with_reducible exact LeO.refl _)
      | (with_reducible exact LeO.none _)
      | (with_reducible refine LeO.ite ?_ ?_)
      | (with_reducible refine LeO.bind ?_ (fun _ => ?_))
      | exact ih0 _ _ _ _ _
      | exact LeO.none _
      | refine LeO.ite ?_ ?_
      | refine LeO.bind ?_ (fun _ => ?_)
theorem laws_eqCell.mono : ∀ a0 a1 a2 a3 k, LeO (laws_eqCell.f k a0 a1 a2 a3) (laws_eqCell.f (k + 1) a0 a1 a2 a3) := by
  intro a0 a1 a2 a3 k
  have ih0 := laws_eqCell.mono_l k
  unfold laws_eqCell.f
  repeat' first
      | (with_reducible exact ih0 _ _ _ _ _)
      | (with_reducible exact LeO.refl _)
      | (with_reducible exact LeO.none _)
      | (with_reducible refine LeO.ite ?_ ?_)
      | (with_reducible refine LeO.bind ?_ (fun _ => ?_))
      | exact ih0 _ _ _ _ _
      | exact LeO.none _
      | refine LeO.ite ?_ ?_
      | refine LeO.bind ?_ (fun _ => ?_)
set_option maxHeartbeats 8000000 in
set_option maxRecDepth 100000 in
theorem laws_eqCell.calls (k : Nat) (a0_0 : Int) (a0_1 : Int) (a1_0 : Int) (a1_1 : Int) (r : Bool) (w : World) (h : laws_eqCell.f k a0_0 a0_1 a1_0 a1_1 = some r) :
    Calls Try.prog 159 #[.agg #[.int .i8 a0_0, .int .i8 a0_1], .agg #[.int .i8 a1_0, .int .i8 a1_1]] w fun e w' => e = .returned (.bool r) ∧ Below w.heap.size w w' := by
  have hu74 := Try.underlying74
  have HB := Aside0.mk (Below.refl w.heap.size w)
  have H : (laws_eqCell.l0 k 0 a0_0 a0_1 a1_0 a1_1) = some r := h
  clear h
  have H' := Aside0.mk H
  clear H
  go_enter Try.func159, Try.ntmps159
  go_wp2_with (first | ((with_reducible refine gate_dst (N := 2) rfl ?_); refine box_event ?hg (N := 2) ?hd (cs := #[.int .i8 a0_0, .int .i8 a0_1]) (t := 74) ?hr ?_; (case hd => rfl); (case hg => rfl); (case hr => first | (go_simp; done) | (go_simp; rfl)); intro gb101 hg w3 hbox hb; have n0_ := Aside0.mk (below_step (by repeat (first | (with_reducible first | exact HB.out | apply below_alloc | apply pw_below_drewN | apply below_drew1) | exact HB.out)) hb); have n1_ := Aside0.mk (hbox); have n2_ := Aside0.mk ((by rw [hg]; exact (below_size (by repeat (first | (with_reducible first | exact HB.out | apply below_alloc | apply pw_below_drewN | apply below_drew1) | exact HB.out))) : w.heap.size ≤ gb101)); have n3_ := Aside0.mk ((by rw [hg]; exact (below_size (by repeat (first | (with_reducible first | exact HB.out | apply below_alloc | apply pw_below_drewN | apply below_drew1) | exact HB.out))) : w.heap.size ≤ gb101)); clear HB; have HB := n0_; have BK101 := n1_; have GW101 := n2_; have GE101 := n3_; clear n0_ n1_ n2_ n3_; clear hb hbox hg) | ((with_reducible refine gate_dst (N := 3) rfl ?_); refine box_event ?hg (N := 3) ?hd (cs := #[.int .i8 a1_0, .int .i8 a1_1]) (t := 74) ?hr ?_; (case hd => rfl); (case hg => rfl); (case hr => first | (go_simp; done) | (go_simp; rfl)); intro gb102 hg w4 hbox hb; have n0_ := Aside0.mk (blk_below (g := gb101) (o := .cells #[.int .i8 a0_0, .int .i8 a0_1] 74 (0, 0)) (by (with_reducible repeat (first | refine blk_drewN ?_ _ | refine blk_drew ?_ | refine blk_alloc ?_ _)); exact BK101.out) hb); have n1_ := Aside0.mk (below_step (by repeat (first | (with_reducible first | exact HB.out | apply below_alloc | apply pw_below_drewN | apply below_drew1 | refine below_set ?_ GE101.out) | exact HB.out)) hb); have n2_ := Aside0.mk (hbox); have n3_ := Aside0.mk ((by rw [hg]; exact (below_size (by repeat (first | (with_reducible first | exact HB.out | apply below_alloc | apply pw_below_drewN | apply below_drew1 | refine below_set ?_ GE101.out) | exact HB.out))) : w.heap.size ≤ gb102)); have n4_ := Aside0.mk ((by rw [hg]; exact (below_size (by repeat (first | (with_reducible first | exact HB.out | apply below_alloc | apply pw_below_drewN | apply below_drew1 | refine below_set ?_ GE101.out) | exact HB.out))) : w.heap.size ≤ gb102)); have n5_ := Aside0.mk ((by rw [hg]; exact Nat.ne_of_lt (blk_lt (g := gb101) (o := .cells #[.int .i8 a0_0, .int .i8 a0_1] 74 (0, 0)) (by (with_reducible repeat (first | refine blk_drewN ?_ _ | refine blk_drew ?_ | refine blk_alloc ?_ _)); exact BK101.out)) : gb101 ≠ gb102)); have n6_ := Aside0.mk ((by rw [hg]; exact Nat.ne_of_gt (blk_lt (g := gb101) (o := .cells #[.int .i8 a0_0, .int .i8 a0_1] 74 (0, 0)) (by (with_reducible repeat (first | refine blk_drewN ?_ _ | refine blk_drew ?_ | refine blk_alloc ?_ _)); exact BK101.out)) : gb102 ≠ gb101)); clear BK101; clear HB; have BK101 := n0_; have HB := n1_; have BK102 := n2_; have GW102 := n3_; have GE102 := n4_; have NB101_102 := n5_; have NB102_101 := n6_; clear n0_ n1_ n2_ n3_ n4_ n5_ n6_; clear hb hbox hg))
  repeat (go_quiet (first | ((with_reducible refine gate_dst (N := 2) rfl ?_); refine box_event ?hg (N := 2) ?hd (cs := #[.int .i8 a0_0, .int .i8 a0_1]) (t := 74) ?hr ?_; (case hd => rfl); (case hg => rfl); (case hr => first | (go_simp; done) | (go_simp; rfl)); intro gb101 hg w3 hbox hb; have n0_ := Aside0.mk (below_step (by repeat (first | (with_reducible first | exact HB.out | apply below_alloc | apply pw_below_drewN | apply below_drew1) | exact HB.out)) hb); have n1_ := Aside0.mk (hbox); have n2_ := Aside0.mk ((by rw [hg]; exact (below_size (by repeat (first | (with_reducible first | exact HB.out | apply below_alloc | apply pw_below_drewN | apply below_drew1) | exact HB.out))) : w.heap.size ≤ gb101)); have n3_ := Aside0.mk ((by rw [hg]; exact (below_size (by repeat (first | (with_reducible first | exact HB.out | apply below_alloc | apply pw_below_drewN | apply below_drew1) | exact HB.out))) : w.heap.size ≤ gb101)); clear HB; have HB := n0_; have BK101 := n1_; have GW101 := n2_; have GE101 := n3_; clear n0_ n1_ n2_ n3_; clear hb hbox hg) | ((with_reducible refine gate_dst (N := 3) rfl ?_); refine box_event ?hg (N := 3) ?hd (cs := #[.int .i8 a1_0, .int .i8 a1_1]) (t := 74) ?hr ?_; (case hd => rfl); (case hg => rfl); (case hr => first | (go_simp; done) | (go_simp; rfl)); intro gb102 hg w4 hbox hb; have n0_ := Aside0.mk (blk_below (g := gb101) (o := .cells #[.int .i8 a0_0, .int .i8 a0_1] 74 (0, 0)) (by (with_reducible repeat (first | refine blk_drewN ?_ _ | refine blk_drew ?_ | refine blk_alloc ?_ _)); exact BK101.out) hb); have n1_ := Aside0.mk (below_step (by repeat (first | (with_reducible first | exact HB.out | apply below_alloc | apply pw_below_drewN | apply below_drew1 | refine below_set ?_ GE101.out) | exact HB.out)) hb); have n2_ := Aside0.mk (hbox); have n3_ := Aside0.mk ((by rw [hg]; exact (below_size (by repeat (first | (with_reducible first | exact HB.out | apply below_alloc | apply pw_below_drewN | apply below_drew1 | refine below_set ?_ GE101.out) | exact HB.out))) : w.heap.size ≤ gb102)); have n4_ := Aside0.mk ((by rw [hg]; exact (below_size (by repeat (first | (with_reducible first | exact HB.out | apply below_alloc | apply pw_below_drewN | apply below_drew1 | refine below_set ?_ GE101.out) | exact HB.out))) : w.heap.size ≤ gb102)); have n5_ := Aside0.mk ((by rw [hg]; exact Nat.ne_of_lt (blk_lt (g := gb101) (o := .cells #[.int .i8 a0_0, .int .i8 a0_1] 74 (0, 0)) (by (with_reducible repeat (first | refine blk_drewN ?_ _ | refine blk_drew ?_ | refine blk_alloc ?_ _)); exact BK101.out)) : gb101 ≠ gb102)); have n6_ := Aside0.mk ((by rw [hg]; exact Nat.ne_of_gt (blk_lt (g := gb101) (o := .cells #[.int .i8 a0_0, .int .i8 a0_1] 74 (0, 0)) (by (with_reducible repeat (first | refine blk_drewN ?_ _ | refine blk_drew ?_ | refine blk_alloc ?_ _)); exact BK101.out)) : gb102 ≠ gb101)); clear BK101; clear HB; have BK101 := n0_; have HB := n1_; have BK102 := n2_; have GW102 := n3_; have GE102 := n4_; have NB101_102 := n5_; have NB102_101 := n6_; clear n0_ n1_ n2_ n3_ n4_ n5_ n6_; clear hb hbox hg)); try go_wp2_with (first | ((with_reducible refine gate_dst (N := 2) rfl ?_); refine box_event ?hg (N := 2) ?hd (cs := #[.int .i8 a0_0, .int .i8 a0_1]) (t := 74) ?hr ?_; (case hd => rfl); (case hg => rfl); (case hr => first | (go_simp; done) | (go_simp; rfl)); intro gb101 hg w3 hbox hb; have n0_ := Aside0.mk (below_step (by repeat (first | (with_reducible first | exact HB.out | apply below_alloc | apply pw_below_drewN | apply below_drew1) | exact HB.out)) hb); have n1_ := Aside0.mk (hbox); have n2_ := Aside0.mk ((by rw [hg]; exact (below_size (by repeat (first | (with_reducible first | exact HB.out | apply below_alloc | apply pw_below_drewN | apply below_drew1) | exact HB.out))) : w.heap.size ≤ gb101)); have n3_ := Aside0.mk ((by rw [hg]; exact (below_size (by repeat (first | (with_reducible first | exact HB.out | apply below_alloc | apply pw_below_drewN | apply below_drew1) | exact HB.out))) : w.heap.size ≤ gb101)); clear HB; have HB := n0_; have BK101 := n1_; have GW101 := n2_; have GE101 := n3_; clear n0_ n1_ n2_ n3_; clear hb hbox hg) | ((with_reducible refine gate_dst (N := 3) rfl ?_); refine box_event ?hg (N := 3) ?hd (cs := #[.int .i8 a1_0, .int .i8 a1_1]) (t := 74) ?hr ?_; (case hd => rfl); (case hg => rfl); (case hr => first | (go_simp; done) | (go_simp; rfl)); intro gb102 hg w4 hbox hb; have n0_ := Aside0.mk (blk_below (g := gb101) (o := .cells #[.int .i8 a0_0, .int .i8 a0_1] 74 (0, 0)) (by (with_reducible repeat (first | refine blk_drewN ?_ _ | refine blk_drew ?_ | refine blk_alloc ?_ _)); exact BK101.out) hb); have n1_ := Aside0.mk (below_step (by repeat (first | (with_reducible first | exact HB.out | apply below_alloc | apply pw_below_drewN | apply below_drew1 | refine below_set ?_ GE101.out) | exact HB.out)) hb); have n2_ := Aside0.mk (hbox); have n3_ := Aside0.mk ((by rw [hg]; exact (below_size (by repeat (first | (with_reducible first | exact HB.out | apply below_alloc | apply pw_below_drewN | apply below_drew1 | refine below_set ?_ GE101.out) | exact HB.out))) : w.heap.size ≤ gb102)); have n4_ := Aside0.mk ((by rw [hg]; exact (below_size (by repeat (first | (with_reducible first | exact HB.out | apply below_alloc | apply pw_below_drewN | apply below_drew1 | refine below_set ?_ GE101.out) | exact HB.out))) : w.heap.size ≤ gb102)); have n5_ := Aside0.mk ((by rw [hg]; exact Nat.ne_of_lt (blk_lt (g := gb101) (o := .cells #[.int .i8 a0_0, .int .i8 a0_1] 74 (0, 0)) (by (with_reducible repeat (first | refine blk_drewN ?_ _ | refine blk_drew ?_ | refine blk_alloc ?_ _)); exact BK101.out)) : gb101 ≠ gb102)); have n6_ := Aside0.mk ((by rw [hg]; exact Nat.ne_of_gt (blk_lt (g := gb101) (o := .cells #[.int .i8 a0_0, .int .i8 a0_1] 74 (0, 0)) (by (with_reducible repeat (first | refine blk_drewN ?_ _ | refine blk_drew ?_ | refine blk_alloc ?_ _)); exact BK101.out)) : gb102 ≠ gb101)); clear BK101; clear HB; have BK101 := n0_; have HB := n1_; have BK102 := n2_; have GW102 := n3_; have GE102 := n4_; have NB101_102 := n5_; have NB102_101 := n6_; clear n0_ n1_ n2_ n3_ n4_ n5_ n6_; clear hb hbox hg)))
  go_loopg [5] k (fun kq v5 w' => ∃ (x5_1 : Int), v5 = .int .i64 x5_1 ∧ Aside0 (laws_eqCell.l0 kq x5_1 a0_0 a0_1 a1_0 a1_1 = some r) ∧ Aside0 (kq ≤ k) ∧ Aside0 (w'.heap[gb101]? = some (.cells #[.int .i8 a0_0, .int .i8 a0_1] 74 (0, 0))) ∧ Aside0 (w'.heap[gb102]? = some (.cells #[.int .i8 a1_0, .int .i8 a1_1] 74 (0, 0))) ∧ Aside0 (Below w.heap.size w w'))
  case atStart => exact ⟨(0), (by first | rfl | (simp; done) | (simp [*]; done) | (exact congrArg (Value.int .i64) (wrap_eq (by omega)))), H', ⟨Nat.le_refl _⟩, ⟨by (with_reducible repeat (first | refine blk_drewN ?_ _ | refine blk_drew ?_ | refine blk_alloc ?_ _)); exact BK101.out⟩, ⟨by (with_reducible repeat (first | refine blk_drewN ?_ _ | refine blk_drew ?_ | refine blk_alloc ?_ _)); exact BK102.out⟩, ⟨by repeat (first | (with_reducible first | exact HB.out | apply below_alloc | apply pw_below_drewN | apply below_drew1 | refine below_set ?_ GE101.out | refine below_set ?_ GE102.out) | exact HB.out)⟩⟩
  case round =>
    clear H'
    try clear c1
    try clear p2
    obtain ⟨x5_1, rfl, HA, HK1, BK101, BK102, HB⟩ := hrel
    cases gk with
    | zero => exact absurd HA.out (by simp [laws_eqCell.l0])
    | succ k1 =>
      have H := HA.out
      clear HA
      simp only [laws_eqCell.l0] at H
      by_cases c5 : x5_1 < 2
      · rw [if_pos c5] at H
        have c5b0 : decide (x5_1 < 2) = true := decide_eq_true c5
        clear c5
        by_cases c6 : x5_1 = 0
        · rw [if_pos c6] at H
          have Ac6 : Aside0 (x5_1 = 0) := ⟨c6⟩
          clear c6
          have ar7e : x5_1 = 0 := by first | exact (show Aside0 (x5_1 = 0) by assumption).out | exact beq_iff_eq.mp (by assumption) | omega
          have ar7n : (x5_1).toNat = 0 := by rw [ar7e]; rfl
          have ar7l : decide (0 ≤ x5_1) = true := decide_eq_true (by omega)
          have ar7L := eq_true (of_decide_eq_true ar7l)
          have ar7h : decide (x5_1 < 2) = true := decide_eq_true (by omega)
          have ar7H := eq_true (of_decide_eq_true ar7h)
          clear ar7e
          have ar8e : x5_1 = 0 := by first | exact (show Aside0 (x5_1 = 0) by assumption).out | exact beq_iff_eq.mp (by assumption) | omega
          have ar8n : (x5_1).toNat = 0 := by rw [ar8e]; rfl
          have ar8l : decide (0 ≤ x5_1) = true := decide_eq_true (by omega)
          have ar8L := eq_true (of_decide_eq_true ar8l)
          have ar8h : decide (x5_1 < 2) = true := decide_eq_true (by omega)
          have ar8H := eq_true (of_decide_eq_true ar8h)
          clear ar8e
          by_cases c9 : a0_0 = a1_0
          · rw [if_pos c9] at H
            have c9b0 : (a0_0 == a1_0) = true := beq_iff_eq.mpr c9
            have c9b1 : (a0_0 != a1_0) = false := bne_eq_false_iff_eq.mpr c9
            clear c9
            have H' := Aside0.mk H
            clear H
            have hnb10 := NB101_102.out
            have hnc10 := NB102_101.out
            have hcz11_0 : wr.cell? ⟨gb101, 0, none⟩ = some (.int .i8 a0_0) := (blk_cell BK101.out 0).trans rfl
            have hcz11_1 : wr.cell? ⟨gb101, 1, none⟩ = some (.int .i8 a0_1) := (blk_cell BK101.out 1).trans rfl
            have hfz11_0 := blk_frozen BK101.out 0
            have hfz11_1 := blk_frozen BK101.out 1
            have hcz12_0 : wr.cell? ⟨gb102, 0, none⟩ = some (.int .i8 a1_0) := (blk_cell BK102.out 0).trans rfl
            have hcz12_1 : wr.cell? ⟨gb102, 1, none⟩ = some (.int .i8 a1_1) := (blk_cell BK102.out 1).trans rfl
            have hfz12_0 := blk_frozen BK102.out 0
            have hfz12_1 := blk_frozen BK102.out 1
            go_wp2
            repeat (go_quiet (fail); try go_wp2)
            go_roundg k1
            case measure => have := HK1.out; omega
            case rel => exact ⟨(wrap64 (x5_1 + 1)), (by first | rfl | (simp; done) | (simp [*]; done) | (exact congrArg (Value.int .i64) (wrap_eq (by omega)))), H', ⟨by have := HK1.out; omega⟩, ⟨by (with_reducible repeat (first | refine blk_drewN ?_ _ | refine blk_drew ?_ | refine blk_alloc ?_ _)); exact BK101.out⟩, ⟨by (with_reducible repeat (first | refine blk_drewN ?_ _ | refine blk_drew ?_ | refine blk_alloc ?_ _)); exact BK102.out⟩, ⟨by repeat (first | (with_reducible first | exact HB.out | apply below_alloc | apply pw_below_drewN | apply below_drew1 | refine below_set ?_ GE101.out | refine below_set ?_ GE102.out) | exact HB.out)⟩⟩
          · rw [if_neg c9] at H
            have c9b0 : (a0_0 == a1_0) = false := beq_eq_false_iff_ne.mpr c9
            have c9b1 : (a0_0 != a1_0) = true := bne_iff_ne.mpr c9
            obtain rfl := Option.some.inj H
            have hnb13 := NB101_102.out
            have hnc13 := NB102_101.out
            have hcz14_0 : wr.cell? ⟨gb101, 0, none⟩ = some (.int .i8 a0_0) := (blk_cell BK101.out 0).trans rfl
            have hcz14_1 : wr.cell? ⟨gb101, 1, none⟩ = some (.int .i8 a0_1) := (blk_cell BK101.out 1).trans rfl
            have hfz14_0 := blk_frozen BK101.out 0
            have hfz14_1 := blk_frozen BK101.out 1
            have hcz15_0 : wr.cell? ⟨gb102, 0, none⟩ = some (.int .i8 a1_0) := (blk_cell BK102.out 0).trans rfl
            have hcz15_1 : wr.cell? ⟨gb102, 1, none⟩ = some (.int .i8 a1_1) := (blk_cell BK102.out 1).trans rfl
            have hfz15_0 := blk_frozen BK102.out 0
            have hfz15_1 := blk_frozen BK102.out 1
            go_wp2
            repeat (go_quiet (fail); try go_wp2)
            go_ret
            exact ⟨by first | rfl | (simp [errW_none, errW_some] <;> rfl) | (simp [*, errW_none, errW_some] <;> rfl), by repeat (first | (with_reducible first | exact HB.out | apply below_alloc | apply pw_below_drewN | apply below_drew1 | refine below_set ?_ GE101.out | refine below_set ?_ GE102.out) | exact HB.out)⟩
        · rw [if_neg c6] at H
          clear c6
          by_cases c16 : x5_1 = 1
          · rw [if_pos c16] at H
            have Ac16 : Aside0 (x5_1 = 1) := ⟨c16⟩
            clear c16
            have ar17e : x5_1 = 1 := by first | exact (show Aside0 (x5_1 = 1) by assumption).out | exact beq_iff_eq.mp (by assumption) | omega
            have ar17n : (x5_1).toNat = 1 := by rw [ar17e]; rfl
            have ar17l : decide (0 ≤ x5_1) = true := decide_eq_true (by omega)
            have ar17L := eq_true (of_decide_eq_true ar17l)
            have ar17h : decide (x5_1 < 2) = true := decide_eq_true (by omega)
            have ar17H := eq_true (of_decide_eq_true ar17h)
            clear ar17e
            have ar18e : x5_1 = 1 := by first | exact (show Aside0 (x5_1 = 1) by assumption).out | exact beq_iff_eq.mp (by assumption) | omega
            have ar18n : (x5_1).toNat = 1 := by rw [ar18e]; rfl
            have ar18l : decide (0 ≤ x5_1) = true := decide_eq_true (by omega)
            have ar18L := eq_true (of_decide_eq_true ar18l)
            have ar18h : decide (x5_1 < 2) = true := decide_eq_true (by omega)
            have ar18H := eq_true (of_decide_eq_true ar18h)
            clear ar18e
            by_cases c19 : a0_1 = a1_1
            · rw [if_pos c19] at H
              have c19b0 : (a0_1 == a1_1) = true := beq_iff_eq.mpr c19
              have c19b1 : (a0_1 != a1_1) = false := bne_eq_false_iff_eq.mpr c19
              clear c19
              have H' := Aside0.mk H
              clear H
              have hnb20 := NB101_102.out
              have hnc20 := NB102_101.out
              have hcz21_0 : wr.cell? ⟨gb101, 0, none⟩ = some (.int .i8 a0_0) := (blk_cell BK101.out 0).trans rfl
              have hcz21_1 : wr.cell? ⟨gb101, 1, none⟩ = some (.int .i8 a0_1) := (blk_cell BK101.out 1).trans rfl
              have hfz21_0 := blk_frozen BK101.out 0
              have hfz21_1 := blk_frozen BK101.out 1
              have hcz22_0 : wr.cell? ⟨gb102, 0, none⟩ = some (.int .i8 a1_0) := (blk_cell BK102.out 0).trans rfl
              have hcz22_1 : wr.cell? ⟨gb102, 1, none⟩ = some (.int .i8 a1_1) := (blk_cell BK102.out 1).trans rfl
              have hfz22_0 := blk_frozen BK102.out 0
              have hfz22_1 := blk_frozen BK102.out 1
              go_wp2
              repeat (go_quiet (fail); try go_wp2)
              go_roundg k1
              case measure => have := HK1.out; omega
              case rel => exact ⟨(wrap64 (x5_1 + 1)), (by first | rfl | (simp; done) | (simp [*]; done) | (exact congrArg (Value.int .i64) (wrap_eq (by omega)))), H', ⟨by have := HK1.out; omega⟩, ⟨by (with_reducible repeat (first | refine blk_drewN ?_ _ | refine blk_drew ?_ | refine blk_alloc ?_ _)); exact BK101.out⟩, ⟨by (with_reducible repeat (first | refine blk_drewN ?_ _ | refine blk_drew ?_ | refine blk_alloc ?_ _)); exact BK102.out⟩, ⟨by repeat (first | (with_reducible first | exact HB.out | apply below_alloc | apply pw_below_drewN | apply below_drew1 | refine below_set ?_ GE101.out | refine below_set ?_ GE102.out) | exact HB.out)⟩⟩
            · rw [if_neg c19] at H
              have c19b0 : (a0_1 == a1_1) = false := beq_eq_false_iff_ne.mpr c19
              have c19b1 : (a0_1 != a1_1) = true := bne_iff_ne.mpr c19
              obtain rfl := Option.some.inj H
              have hnb23 := NB101_102.out
              have hnc23 := NB102_101.out
              have hcz24_0 : wr.cell? ⟨gb101, 0, none⟩ = some (.int .i8 a0_0) := (blk_cell BK101.out 0).trans rfl
              have hcz24_1 : wr.cell? ⟨gb101, 1, none⟩ = some (.int .i8 a0_1) := (blk_cell BK101.out 1).trans rfl
              have hfz24_0 := blk_frozen BK101.out 0
              have hfz24_1 := blk_frozen BK101.out 1
              have hcz25_0 : wr.cell? ⟨gb102, 0, none⟩ = some (.int .i8 a1_0) := (blk_cell BK102.out 0).trans rfl
              have hcz25_1 : wr.cell? ⟨gb102, 1, none⟩ = some (.int .i8 a1_1) := (blk_cell BK102.out 1).trans rfl
              have hfz25_0 := blk_frozen BK102.out 0
              have hfz25_1 := blk_frozen BK102.out 1
              go_wp2
              repeat (go_quiet (fail); try go_wp2)
              go_ret
              exact ⟨by first | rfl | (simp [errW_none, errW_some] <;> rfl) | (simp [*, errW_none, errW_some] <;> rfl), by repeat (first | (with_reducible first | exact HB.out | apply below_alloc | apply pw_below_drewN | apply below_drew1 | refine below_set ?_ GE101.out | refine below_set ?_ GE102.out) | exact HB.out)⟩
          · rw [if_neg c16] at H
            exact absurd H (by simp)
      · rw [if_neg c5] at H
        have c5b0 : decide (x5_1 < 2) = false := decide_eq_false c5
        clear c5
        obtain rfl := Option.some.inj H
        go_wp2
        repeat (go_quiet (fail); try go_wp2)
        go_ret
        exact ⟨by first | rfl | (simp [errW_none, errW_some] <;> rfl) | (simp [*, errW_none, errW_some] <;> rfl), by repeat (first | (with_reducible first | exact HB.out | apply below_alloc | apply pw_below_drewN | apply below_drew1 | refine below_set ?_ GE101.out | refine below_set ?_ GE102.out) | exact HB.out)⟩

/-! ### laws_eqPush: function 91 -/
def laws_eqPush.f (k : Nat) (a0_0 : Int) (a0_1 : Int) (a0_2 : Int) (a0_3 : Int) (a1_0 : Int) (a1_1 : Int) (a1_2 : Int) (a1_3 : Int) : Option (Bool) := (laws_eqCell.f k a0_0 a0_1 a1_0 a1_1).bind fun t105 => (if t105 = true then (if a0_2 = a1_2 then (if a0_3 = a1_3 then (some true) else (some false)) else (some false)) else (some false))
theorem laws_eqPush.mono : ∀ a0 a1 a2 a3 a4 a5 a6 a7 k, LeO (laws_eqPush.f k a0 a1 a2 a3 a4 a5 a6 a7) (laws_eqPush.f (k + 1) a0 a1 a2 a3 a4 a5 a6 a7) := by
  intro a0 a1 a2 a3 a4 a5 a6 a7 k
  unfold laws_eqPush.f
  repeat' first
      | (with_reducible exact laws_eqCell.mono _ _ _ _ _)
      | (with_reducible exact LeO.refl _)
      | (with_reducible exact LeO.none _)
      | (with_reducible refine LeO.ite ?_ ?_)
      | (with_reducible refine LeO.bind ?_ (fun _ => ?_))
      | exact laws_eqCell.mono _ _ _ _ _
      | exact LeO.none _
      | refine LeO.ite ?_ ?_
      | refine LeO.bind ?_ (fun _ => ?_)
set_option maxHeartbeats 8000000 in
set_option maxRecDepth 100000 in
theorem laws_eqPush.calls (k : Nat) (a0_0 : Int) (a0_1 : Int) (a0_2 : Int) (a0_3 : Int) (a1_0 : Int) (a1_1 : Int) (a1_2 : Int) (a1_3 : Int) (r : Bool) (w : World) (h : laws_eqPush.f k a0_0 a0_1 a0_2 a0_3 a1_0 a1_1 a1_2 a1_3 = some r) :
    Calls Try.prog 91 #[.agg #[.int .i8 a0_0, .int .i8 a0_1, .int .i8 a0_2, .int .i16 a0_3], .agg #[.int .i8 a1_0, .int .i8 a1_1, .int .i8 a1_2, .int .i16 a1_3]] w fun e w' => e = .returned (.bool r) ∧ Below w.heap.size w w' := by
  have hu120 := Try.underlying120
  have hu74 := Try.underlying74
  have HB := Aside0.mk (Below.refl w.heap.size w)
  have H : ((laws_eqCell.f k a0_0 a0_1 a1_0 a1_1).bind fun t105 => (if t105 = true then (if a0_2 = a1_2 then (if a0_3 = a1_3 then (some true) else (some false)) else (some false)) else (some false))) = some r := h
  clear h
  replace H := Option.bind_eq_some_iff.mp H
  obtain ⟨t105, A30, H⟩ := H
  replace H : (if t105 = true then (if a0_2 = a1_2 then (if a0_3 = a1_3 then (some true) else (some false)) else (some false)) else (some false)) = some r := H
  have A3 := Aside0.mk A30
  clear A30
  by_cases c4 : t105 = true
  · subst c4
    have H1 : (if a0_2 = a1_2 then (if a0_3 = a1_3 then (some true) else (some false)) else (some false)) = some r := by rw [if_pos rfl] at H; exact H
    clear H
    have H := H1
    clear H1
    by_cases c5 : a0_2 = a1_2
    · rw [if_pos c5] at H
      have c5b0 : (a0_2 == a1_2) = true := beq_iff_eq.mpr c5
      have c5b1 : (a0_2 != a1_2) = false := bne_eq_false_iff_eq.mpr c5
      clear c5
      by_cases c6 : a0_3 = a1_3
      · rw [if_pos c6] at H
        have c6b0 : (a0_3 == a1_3) = true := beq_iff_eq.mpr c6
        have c6b1 : (a0_3 != a1_3) = false := bne_eq_false_iff_eq.mpr c6
        clear c6
        obtain rfl := Option.some.inj H
        go_enter Try.func91, Try.ntmps91
        go_wp2_with (first | ((with_reducible refine gate_dst (N := 2) rfl ?_); refine box_event ?hg (N := 2) ?hd (cs := #[.int .i8 a0_0, .int .i8 a0_1, .int .i8 a0_2, .int .i16 a0_3]) (t := 120) ?hr ?_; (case hd => rfl); (case hg => rfl); (case hr => first | (go_simp; done) | (go_simp; rfl)); intro gb103 hg w7 hbox hb; have n0_ := Aside0.mk (below_step (by repeat (first | (with_reducible first | exact HB.out | apply below_alloc | apply pw_below_drewN | apply below_drew1) | exact HB.out)) hb); have n1_ := Aside0.mk (hbox); have n2_ := Aside0.mk ((by rw [hg]; exact (below_size (by repeat (first | (with_reducible first | exact HB.out | apply below_alloc | apply pw_below_drewN | apply below_drew1) | exact HB.out))) : w.heap.size ≤ gb103)); have n3_ := Aside0.mk ((by rw [hg]; exact (below_size (by repeat (first | (with_reducible first | exact HB.out | apply below_alloc | apply pw_below_drewN | apply below_drew1) | exact HB.out))) : w.heap.size ≤ gb103)); clear HB; have HB := n0_; have BK103 := n1_; have GW103 := n2_; have GE103 := n3_; clear n0_ n1_ n2_ n3_; clear hb hbox hg) | ((with_reducible refine gate_dst (N := 3) rfl ?_); refine box_event ?hg (N := 3) ?hd (cs := #[.int .i8 a1_0, .int .i8 a1_1, .int .i8 a1_2, .int .i16 a1_3]) (t := 120) ?hr ?_; (case hd => rfl); (case hg => rfl); (case hr => first | (go_simp; done) | (go_simp; rfl)); intro gb104 hg w8 hbox hb; have n0_ := Aside0.mk (blk_below (g := gb103) (o := .cells #[.int .i8 a0_0, .int .i8 a0_1, .int .i8 a0_2, .int .i16 a0_3] 120 (0, 0)) (by (with_reducible repeat (first | refine blk_drewN ?_ _ | refine blk_drew ?_ | refine blk_alloc ?_ _)); exact BK103.out) hb); have n1_ := Aside0.mk (below_step (by repeat (first | (with_reducible first | exact HB.out | apply below_alloc | apply pw_below_drewN | apply below_drew1 | refine below_set ?_ GE103.out) | exact HB.out)) hb); have n2_ := Aside0.mk (hbox); have n3_ := Aside0.mk ((by rw [hg]; exact (below_size (by repeat (first | (with_reducible first | exact HB.out | apply below_alloc | apply pw_below_drewN | apply below_drew1 | refine below_set ?_ GE103.out) | exact HB.out))) : w.heap.size ≤ gb104)); have n4_ := Aside0.mk ((by rw [hg]; exact (below_size (by repeat (first | (with_reducible first | exact HB.out | apply below_alloc | apply pw_below_drewN | apply below_drew1 | refine below_set ?_ GE103.out) | exact HB.out))) : w.heap.size ≤ gb104)); have n5_ := Aside0.mk ((by rw [hg]; exact Nat.ne_of_lt (blk_lt (g := gb103) (o := .cells #[.int .i8 a0_0, .int .i8 a0_1, .int .i8 a0_2, .int .i16 a0_3] 120 (0, 0)) (by (with_reducible repeat (first | refine blk_drewN ?_ _ | refine blk_drew ?_ | refine blk_alloc ?_ _)); exact BK103.out)) : gb103 ≠ gb104)); have n6_ := Aside0.mk ((by rw [hg]; exact Nat.ne_of_gt (blk_lt (g := gb103) (o := .cells #[.int .i8 a0_0, .int .i8 a0_1, .int .i8 a0_2, .int .i16 a0_3] 120 (0, 0)) (by (with_reducible repeat (first | refine blk_drewN ?_ _ | refine blk_drew ?_ | refine blk_alloc ?_ _)); exact BK103.out)) : gb104 ≠ gb103)); clear BK103; clear HB; have BK103 := n0_; have HB := n1_; have BK104 := n2_; have GW104 := n3_; have GE104 := n4_; have NB103_104 := n5_; have NB104_103 := n6_; clear n0_ n1_ n2_ n3_ n4_ n5_ n6_; clear hb hbox hg; have hnb9 := NB103_104.out; have hnc9 := NB104_103.out; have hcz10_0 : w8.cell? ⟨gb103, 0, none⟩ = some (.int .i8 a0_0) := (blk_cell BK103.out 0).trans rfl; have hcz10_1 : w8.cell? ⟨gb103, 1, none⟩ = some (.int .i8 a0_1) := (blk_cell BK103.out 1).trans rfl; have hcz10_2 : w8.cell? ⟨gb103, 2, none⟩ = some (.int .i8 a0_2) := (blk_cell BK103.out 2).trans rfl; have hcz10_3 : w8.cell? ⟨gb103, 3, none⟩ = some (.int .i16 a0_3) := (blk_cell BK103.out 3).trans rfl; have hfz10_0 := blk_frozen BK103.out 0; have hfz10_1 := blk_frozen BK103.out 1; have hfz10_2 := blk_frozen BK103.out 2; have hfz10_3 := blk_frozen BK103.out 3; have hcz11_0 : w8.cell? ⟨gb104, 0, none⟩ = some (.int .i8 a1_0) := (blk_cell BK104.out 0).trans rfl; have hcz11_1 : w8.cell? ⟨gb104, 1, none⟩ = some (.int .i8 a1_1) := (blk_cell BK104.out 1).trans rfl; have hcz11_2 : w8.cell? ⟨gb104, 2, none⟩ = some (.int .i8 a1_2) := (blk_cell BK104.out 2).trans rfl; have hcz11_3 : w8.cell? ⟨gb104, 3, none⟩ = some (.int .i16 a1_3) := (blk_cell BK104.out 3).trans rfl; have hfz11_0 := blk_frozen BK104.out 0; have hfz11_1 := blk_frozen BK104.out 1; have hfz11_2 := blk_frozen BK104.out 2; have hfz11_3 := blk_frozen BK104.out 3) | ((with_reducible refine gate_callee (f := 159) rfl ?_); refine goesL_ (some 9) rfl rfl Try.func159 (by kernel_rfl) rfl #[.agg #[.int .i8 a0_0, .int .i8 a0_1], .agg #[.int .i8 a1_0, .int .i8 a1_1]] rfl (by (try simp only [List.map_toArray, List.map_cons, List.map_nil]); first | done | rfl | (simp only [List.length_drop, List.length_take]; rfl)) ?_; (with_reducible refine (laws_eqCell.calls k a0_0 a0_1 a1_0 a1_1 true _ A3.out).mono ?_); rintro e w12 ⟨rfl, hb⟩; refine ⟨_, rfl, ?_⟩; have n0_ := Aside0.mk (blk_below (g := gb103) (o := .cells #[.int .i8 a0_0, .int .i8 a0_1, .int .i8 a0_2, .int .i16 a0_3] 120 (0, 0)) (by (with_reducible repeat (first | refine blk_drewN ?_ _ | refine blk_drew ?_ | refine blk_alloc ?_ _)); exact BK103.out) hb); have n1_ := Aside0.mk (blk_below (g := gb104) (o := .cells #[.int .i8 a1_0, .int .i8 a1_1, .int .i8 a1_2, .int .i16 a1_3] 120 (0, 0)) (by (with_reducible repeat (first | refine blk_drewN ?_ _ | refine blk_drew ?_ | refine blk_alloc ?_ _)); exact BK104.out) hb); have n2_ := Aside0.mk (below_step (by repeat (first | (with_reducible first | exact HB.out | apply below_alloc | apply pw_below_drewN | apply below_drew1 | refine below_set ?_ GE103.out | refine below_set ?_ GE104.out) | exact HB.out)) hb); clear BK103; clear BK104; clear HB; have BK103 := n0_; have BK104 := n1_; have HB := n2_; clear n0_ n1_ n2_; (try clear hb); (try clear hb2); (try clear hk); (try clear hi); have hcz13_0 : w12.cell? ⟨gb103, 0, none⟩ = some (.int .i8 a0_0) := (blk_cell BK103.out 0).trans rfl; have hcz13_1 : w12.cell? ⟨gb103, 1, none⟩ = some (.int .i8 a0_1) := (blk_cell BK103.out 1).trans rfl; have hcz13_2 : w12.cell? ⟨gb103, 2, none⟩ = some (.int .i8 a0_2) := (blk_cell BK103.out 2).trans rfl; have hcz13_3 : w12.cell? ⟨gb103, 3, none⟩ = some (.int .i16 a0_3) := (blk_cell BK103.out 3).trans rfl; have hfz13_0 := blk_frozen BK103.out 0; have hfz13_1 := blk_frozen BK103.out 1; have hfz13_2 := blk_frozen BK103.out 2; have hfz13_3 := blk_frozen BK103.out 3; have hcz14_0 : w12.cell? ⟨gb104, 0, none⟩ = some (.int .i8 a1_0) := (blk_cell BK104.out 0).trans rfl; have hcz14_1 : w12.cell? ⟨gb104, 1, none⟩ = some (.int .i8 a1_1) := (blk_cell BK104.out 1).trans rfl; have hcz14_2 : w12.cell? ⟨gb104, 2, none⟩ = some (.int .i8 a1_2) := (blk_cell BK104.out 2).trans rfl; have hcz14_3 : w12.cell? ⟨gb104, 3, none⟩ = some (.int .i16 a1_3) := (blk_cell BK104.out 3).trans rfl; have hfz14_0 := blk_frozen BK104.out 0; have hfz14_1 := blk_frozen BK104.out 1; have hfz14_2 := blk_frozen BK104.out 2; have hfz14_3 := blk_frozen BK104.out 3))
        go_ret
        exact ⟨by first | rfl | (simp [errW_none, errW_some] <;> rfl) | (simp [*, errW_none, errW_some] <;> rfl), by repeat (first | (with_reducible first | exact HB.out | apply below_alloc | apply pw_below_drewN | apply below_drew1 | refine below_set ?_ GE103.out | refine below_set ?_ GE104.out) | exact HB.out)⟩
      · rw [if_neg c6] at H
        have c6b0 : (a0_3 == a1_3) = false := beq_eq_false_iff_ne.mpr c6
        have c6b1 : (a0_3 != a1_3) = true := bne_iff_ne.mpr c6
        obtain rfl := Option.some.inj H
        go_enter Try.func91, Try.ntmps91
        go_wp2_with (first | ((with_reducible refine gate_dst (N := 2) rfl ?_); refine box_event ?hg (N := 2) ?hd (cs := #[.int .i8 a0_0, .int .i8 a0_1, .int .i8 a0_2, .int .i16 a0_3]) (t := 120) ?hr ?_; (case hd => rfl); (case hg => rfl); (case hr => first | (go_simp; done) | (go_simp; rfl)); intro gb103 hg w15 hbox hb; have n0_ := Aside0.mk (below_step (by repeat (first | (with_reducible first | exact HB.out | apply below_alloc | apply pw_below_drewN | apply below_drew1) | exact HB.out)) hb); have n1_ := Aside0.mk (hbox); have n2_ := Aside0.mk ((by rw [hg]; exact (below_size (by repeat (first | (with_reducible first | exact HB.out | apply below_alloc | apply pw_below_drewN | apply below_drew1) | exact HB.out))) : w.heap.size ≤ gb103)); have n3_ := Aside0.mk ((by rw [hg]; exact (below_size (by repeat (first | (with_reducible first | exact HB.out | apply below_alloc | apply pw_below_drewN | apply below_drew1) | exact HB.out))) : w.heap.size ≤ gb103)); clear HB; have HB := n0_; have BK103 := n1_; have GW103 := n2_; have GE103 := n3_; clear n0_ n1_ n2_ n3_; clear hb hbox hg) | ((with_reducible refine gate_dst (N := 3) rfl ?_); refine box_event ?hg (N := 3) ?hd (cs := #[.int .i8 a1_0, .int .i8 a1_1, .int .i8 a1_2, .int .i16 a1_3]) (t := 120) ?hr ?_; (case hd => rfl); (case hg => rfl); (case hr => first | (go_simp; done) | (go_simp; rfl)); intro gb104 hg w16 hbox hb; have n0_ := Aside0.mk (blk_below (g := gb103) (o := .cells #[.int .i8 a0_0, .int .i8 a0_1, .int .i8 a0_2, .int .i16 a0_3] 120 (0, 0)) (by (with_reducible repeat (first | refine blk_drewN ?_ _ | refine blk_drew ?_ | refine blk_alloc ?_ _)); exact BK103.out) hb); have n1_ := Aside0.mk (below_step (by repeat (first | (with_reducible first | exact HB.out | apply below_alloc | apply pw_below_drewN | apply below_drew1 | refine below_set ?_ GE103.out) | exact HB.out)) hb); have n2_ := Aside0.mk (hbox); have n3_ := Aside0.mk ((by rw [hg]; exact (below_size (by repeat (first | (with_reducible first | exact HB.out | apply below_alloc | apply pw_below_drewN | apply below_drew1 | refine below_set ?_ GE103.out) | exact HB.out))) : w.heap.size ≤ gb104)); have n4_ := Aside0.mk ((by rw [hg]; exact (below_size (by repeat (first | (with_reducible first | exact HB.out | apply below_alloc | apply pw_below_drewN | apply below_drew1 | refine below_set ?_ GE103.out) | exact HB.out))) : w.heap.size ≤ gb104)); have n5_ := Aside0.mk ((by rw [hg]; exact Nat.ne_of_lt (blk_lt (g := gb103) (o := .cells #[.int .i8 a0_0, .int .i8 a0_1, .int .i8 a0_2, .int .i16 a0_3] 120 (0, 0)) (by (with_reducible repeat (first | refine blk_drewN ?_ _ | refine blk_drew ?_ | refine blk_alloc ?_ _)); exact BK103.out)) : gb103 ≠ gb104)); have n6_ := Aside0.mk ((by rw [hg]; exact Nat.ne_of_gt (blk_lt (g := gb103) (o := .cells #[.int .i8 a0_0, .int .i8 a0_1, .int .i8 a0_2, .int .i16 a0_3] 120 (0, 0)) (by (with_reducible repeat (first | refine blk_drewN ?_ _ | refine blk_drew ?_ | refine blk_alloc ?_ _)); exact BK103.out)) : gb104 ≠ gb103)); clear BK103; clear HB; have BK103 := n0_; have HB := n1_; have BK104 := n2_; have GW104 := n3_; have GE104 := n4_; have NB103_104 := n5_; have NB104_103 := n6_; clear n0_ n1_ n2_ n3_ n4_ n5_ n6_; clear hb hbox hg; have hnb17 := NB103_104.out; have hnc17 := NB104_103.out; have hcz18_0 : w16.cell? ⟨gb103, 0, none⟩ = some (.int .i8 a0_0) := (blk_cell BK103.out 0).trans rfl; have hcz18_1 : w16.cell? ⟨gb103, 1, none⟩ = some (.int .i8 a0_1) := (blk_cell BK103.out 1).trans rfl; have hcz18_2 : w16.cell? ⟨gb103, 2, none⟩ = some (.int .i8 a0_2) := (blk_cell BK103.out 2).trans rfl; have hcz18_3 : w16.cell? ⟨gb103, 3, none⟩ = some (.int .i16 a0_3) := (blk_cell BK103.out 3).trans rfl; have hfz18_0 := blk_frozen BK103.out 0; have hfz18_1 := blk_frozen BK103.out 1; have hfz18_2 := blk_frozen BK103.out 2; have hfz18_3 := blk_frozen BK103.out 3; have hcz19_0 : w16.cell? ⟨gb104, 0, none⟩ = some (.int .i8 a1_0) := (blk_cell BK104.out 0).trans rfl; have hcz19_1 : w16.cell? ⟨gb104, 1, none⟩ = some (.int .i8 a1_1) := (blk_cell BK104.out 1).trans rfl; have hcz19_2 : w16.cell? ⟨gb104, 2, none⟩ = some (.int .i8 a1_2) := (blk_cell BK104.out 2).trans rfl; have hcz19_3 : w16.cell? ⟨gb104, 3, none⟩ = some (.int .i16 a1_3) := (blk_cell BK104.out 3).trans rfl; have hfz19_0 := blk_frozen BK104.out 0; have hfz19_1 := blk_frozen BK104.out 1; have hfz19_2 := blk_frozen BK104.out 2; have hfz19_3 := blk_frozen BK104.out 3) | ((with_reducible refine gate_callee (f := 159) rfl ?_); refine goesL_ (some 9) rfl rfl Try.func159 (by kernel_rfl) rfl #[.agg #[.int .i8 a0_0, .int .i8 a0_1], .agg #[.int .i8 a1_0, .int .i8 a1_1]] rfl (by (try simp only [List.map_toArray, List.map_cons, List.map_nil]); first | done | rfl | (simp only [List.length_drop, List.length_take]; rfl)) ?_; (with_reducible refine (laws_eqCell.calls k a0_0 a0_1 a1_0 a1_1 true _ A3.out).mono ?_); rintro e w20 ⟨rfl, hb⟩; refine ⟨_, rfl, ?_⟩; have n0_ := Aside0.mk (blk_below (g := gb103) (o := .cells #[.int .i8 a0_0, .int .i8 a0_1, .int .i8 a0_2, .int .i16 a0_3] 120 (0, 0)) (by (with_reducible repeat (first | refine blk_drewN ?_ _ | refine blk_drew ?_ | refine blk_alloc ?_ _)); exact BK103.out) hb); have n1_ := Aside0.mk (blk_below (g := gb104) (o := .cells #[.int .i8 a1_0, .int .i8 a1_1, .int .i8 a1_2, .int .i16 a1_3] 120 (0, 0)) (by (with_reducible repeat (first | refine blk_drewN ?_ _ | refine blk_drew ?_ | refine blk_alloc ?_ _)); exact BK104.out) hb); have n2_ := Aside0.mk (below_step (by repeat (first | (with_reducible first | exact HB.out | apply below_alloc | apply pw_below_drewN | apply below_drew1 | refine below_set ?_ GE103.out | refine below_set ?_ GE104.out) | exact HB.out)) hb); clear BK103; clear BK104; clear HB; have BK103 := n0_; have BK104 := n1_; have HB := n2_; clear n0_ n1_ n2_; (try clear hb); (try clear hb2); (try clear hk); (try clear hi); have hcz21_0 : w20.cell? ⟨gb103, 0, none⟩ = some (.int .i8 a0_0) := (blk_cell BK103.out 0).trans rfl; have hcz21_1 : w20.cell? ⟨gb103, 1, none⟩ = some (.int .i8 a0_1) := (blk_cell BK103.out 1).trans rfl; have hcz21_2 : w20.cell? ⟨gb103, 2, none⟩ = some (.int .i8 a0_2) := (blk_cell BK103.out 2).trans rfl; have hcz21_3 : w20.cell? ⟨gb103, 3, none⟩ = some (.int .i16 a0_3) := (blk_cell BK103.out 3).trans rfl; have hfz21_0 := blk_frozen BK103.out 0; have hfz21_1 := blk_frozen BK103.out 1; have hfz21_2 := blk_frozen BK103.out 2; have hfz21_3 := blk_frozen BK103.out 3; have hcz22_0 : w20.cell? ⟨gb104, 0, none⟩ = some (.int .i8 a1_0) := (blk_cell BK104.out 0).trans rfl; have hcz22_1 : w20.cell? ⟨gb104, 1, none⟩ = some (.int .i8 a1_1) := (blk_cell BK104.out 1).trans rfl; have hcz22_2 : w20.cell? ⟨gb104, 2, none⟩ = some (.int .i8 a1_2) := (blk_cell BK104.out 2).trans rfl; have hcz22_3 : w20.cell? ⟨gb104, 3, none⟩ = some (.int .i16 a1_3) := (blk_cell BK104.out 3).trans rfl; have hfz22_0 := blk_frozen BK104.out 0; have hfz22_1 := blk_frozen BK104.out 1; have hfz22_2 := blk_frozen BK104.out 2; have hfz22_3 := blk_frozen BK104.out 3))
        go_ret
        exact ⟨by first | rfl | (simp [errW_none, errW_some] <;> rfl) | (simp [*, errW_none, errW_some] <;> rfl), by repeat (first | (with_reducible first | exact HB.out | apply below_alloc | apply pw_below_drewN | apply below_drew1 | refine below_set ?_ GE103.out | refine below_set ?_ GE104.out) | exact HB.out)⟩
    · rw [if_neg c5] at H
      have c5b0 : (a0_2 == a1_2) = false := beq_eq_false_iff_ne.mpr c5
      have c5b1 : (a0_2 != a1_2) = true := bne_iff_ne.mpr c5
      obtain rfl := Option.some.inj H
      go_enter Try.func91, Try.ntmps91
      go_wp2_with (first | ((with_reducible refine gate_dst (N := 2) rfl ?_); refine box_event ?hg (N := 2) ?hd (cs := #[.int .i8 a0_0, .int .i8 a0_1, .int .i8 a0_2, .int .i16 a0_3]) (t := 120) ?hr ?_; (case hd => rfl); (case hg => rfl); (case hr => first | (go_simp; done) | (go_simp; rfl)); intro gb103 hg w23 hbox hb; have n0_ := Aside0.mk (below_step (by repeat (first | (with_reducible first | exact HB.out | apply below_alloc | apply pw_below_drewN | apply below_drew1) | exact HB.out)) hb); have n1_ := Aside0.mk (hbox); have n2_ := Aside0.mk ((by rw [hg]; exact (below_size (by repeat (first | (with_reducible first | exact HB.out | apply below_alloc | apply pw_below_drewN | apply below_drew1) | exact HB.out))) : w.heap.size ≤ gb103)); have n3_ := Aside0.mk ((by rw [hg]; exact (below_size (by repeat (first | (with_reducible first | exact HB.out | apply below_alloc | apply pw_below_drewN | apply below_drew1) | exact HB.out))) : w.heap.size ≤ gb103)); clear HB; have HB := n0_; have BK103 := n1_; have GW103 := n2_; have GE103 := n3_; clear n0_ n1_ n2_ n3_; clear hb hbox hg) | ((with_reducible refine gate_dst (N := 3) rfl ?_); refine box_event ?hg (N := 3) ?hd (cs := #[.int .i8 a1_0, .int .i8 a1_1, .int .i8 a1_2, .int .i16 a1_3]) (t := 120) ?hr ?_; (case hd => rfl); (case hg => rfl); (case hr => first | (go_simp; done) | (go_simp; rfl)); intro gb104 hg w24 hbox hb; have n0_ := Aside0.mk (blk_below (g := gb103) (o := .cells #[.int .i8 a0_0, .int .i8 a0_1, .int .i8 a0_2, .int .i16 a0_3] 120 (0, 0)) (by (with_reducible repeat (first | refine blk_drewN ?_ _ | refine blk_drew ?_ | refine blk_alloc ?_ _)); exact BK103.out) hb); have n1_ := Aside0.mk (below_step (by repeat (first | (with_reducible first | exact HB.out | apply below_alloc | apply pw_below_drewN | apply below_drew1 | refine below_set ?_ GE103.out) | exact HB.out)) hb); have n2_ := Aside0.mk (hbox); have n3_ := Aside0.mk ((by rw [hg]; exact (below_size (by repeat (first | (with_reducible first | exact HB.out | apply below_alloc | apply pw_below_drewN | apply below_drew1 | refine below_set ?_ GE103.out) | exact HB.out))) : w.heap.size ≤ gb104)); have n4_ := Aside0.mk ((by rw [hg]; exact (below_size (by repeat (first | (with_reducible first | exact HB.out | apply below_alloc | apply pw_below_drewN | apply below_drew1 | refine below_set ?_ GE103.out) | exact HB.out))) : w.heap.size ≤ gb104)); have n5_ := Aside0.mk ((by rw [hg]; exact Nat.ne_of_lt (blk_lt (g := gb103) (o := .cells #[.int .i8 a0_0, .int .i8 a0_1, .int .i8 a0_2, .int .i16 a0_3] 120 (0, 0)) (by (with_reducible repeat (first | refine blk_drewN ?_ _ | refine blk_drew ?_ | refine blk_alloc ?_ _)); exact BK103.out)) : gb103 ≠ gb104)); have n6_ := Aside0.mk ((by rw [hg]; exact Nat.ne_of_gt (blk_lt (g := gb103) (o := .cells #[.int .i8 a0_0, .int .i8 a0_1, .int .i8 a0_2, .int .i16 a0_3] 120 (0, 0)) (by (with_reducible repeat (first | refine blk_drewN ?_ _ | refine blk_drew ?_ | refine blk_alloc ?_ _)); exact BK103.out)) : gb104 ≠ gb103)); clear BK103; clear HB; have BK103 := n0_; have HB := n1_; have BK104 := n2_; have GW104 := n3_; have GE104 := n4_; have NB103_104 := n5_; have NB104_103 := n6_; clear n0_ n1_ n2_ n3_ n4_ n5_ n6_; clear hb hbox hg; have hnb25 := NB103_104.out; have hnc25 := NB104_103.out; have hcz26_0 : w24.cell? ⟨gb103, 0, none⟩ = some (.int .i8 a0_0) := (blk_cell BK103.out 0).trans rfl; have hcz26_1 : w24.cell? ⟨gb103, 1, none⟩ = some (.int .i8 a0_1) := (blk_cell BK103.out 1).trans rfl; have hcz26_2 : w24.cell? ⟨gb103, 2, none⟩ = some (.int .i8 a0_2) := (blk_cell BK103.out 2).trans rfl; have hcz26_3 : w24.cell? ⟨gb103, 3, none⟩ = some (.int .i16 a0_3) := (blk_cell BK103.out 3).trans rfl; have hfz26_0 := blk_frozen BK103.out 0; have hfz26_1 := blk_frozen BK103.out 1; have hfz26_2 := blk_frozen BK103.out 2; have hfz26_3 := blk_frozen BK103.out 3; have hcz27_0 : w24.cell? ⟨gb104, 0, none⟩ = some (.int .i8 a1_0) := (blk_cell BK104.out 0).trans rfl; have hcz27_1 : w24.cell? ⟨gb104, 1, none⟩ = some (.int .i8 a1_1) := (blk_cell BK104.out 1).trans rfl; have hcz27_2 : w24.cell? ⟨gb104, 2, none⟩ = some (.int .i8 a1_2) := (blk_cell BK104.out 2).trans rfl; have hcz27_3 : w24.cell? ⟨gb104, 3, none⟩ = some (.int .i16 a1_3) := (blk_cell BK104.out 3).trans rfl; have hfz27_0 := blk_frozen BK104.out 0; have hfz27_1 := blk_frozen BK104.out 1; have hfz27_2 := blk_frozen BK104.out 2; have hfz27_3 := blk_frozen BK104.out 3) | ((with_reducible refine gate_callee (f := 159) rfl ?_); refine goesL_ (some 9) rfl rfl Try.func159 (by kernel_rfl) rfl #[.agg #[.int .i8 a0_0, .int .i8 a0_1], .agg #[.int .i8 a1_0, .int .i8 a1_1]] rfl (by (try simp only [List.map_toArray, List.map_cons, List.map_nil]); first | done | rfl | (simp only [List.length_drop, List.length_take]; rfl)) ?_; (with_reducible refine (laws_eqCell.calls k a0_0 a0_1 a1_0 a1_1 true _ A3.out).mono ?_); rintro e w28 ⟨rfl, hb⟩; refine ⟨_, rfl, ?_⟩; have n0_ := Aside0.mk (blk_below (g := gb103) (o := .cells #[.int .i8 a0_0, .int .i8 a0_1, .int .i8 a0_2, .int .i16 a0_3] 120 (0, 0)) (by (with_reducible repeat (first | refine blk_drewN ?_ _ | refine blk_drew ?_ | refine blk_alloc ?_ _)); exact BK103.out) hb); have n1_ := Aside0.mk (blk_below (g := gb104) (o := .cells #[.int .i8 a1_0, .int .i8 a1_1, .int .i8 a1_2, .int .i16 a1_3] 120 (0, 0)) (by (with_reducible repeat (first | refine blk_drewN ?_ _ | refine blk_drew ?_ | refine blk_alloc ?_ _)); exact BK104.out) hb); have n2_ := Aside0.mk (below_step (by repeat (first | (with_reducible first | exact HB.out | apply below_alloc | apply pw_below_drewN | apply below_drew1 | refine below_set ?_ GE103.out | refine below_set ?_ GE104.out) | exact HB.out)) hb); clear BK103; clear BK104; clear HB; have BK103 := n0_; have BK104 := n1_; have HB := n2_; clear n0_ n1_ n2_; (try clear hb); (try clear hb2); (try clear hk); (try clear hi); have hcz29_0 : w28.cell? ⟨gb103, 0, none⟩ = some (.int .i8 a0_0) := (blk_cell BK103.out 0).trans rfl; have hcz29_1 : w28.cell? ⟨gb103, 1, none⟩ = some (.int .i8 a0_1) := (blk_cell BK103.out 1).trans rfl; have hcz29_2 : w28.cell? ⟨gb103, 2, none⟩ = some (.int .i8 a0_2) := (blk_cell BK103.out 2).trans rfl; have hcz29_3 : w28.cell? ⟨gb103, 3, none⟩ = some (.int .i16 a0_3) := (blk_cell BK103.out 3).trans rfl; have hfz29_0 := blk_frozen BK103.out 0; have hfz29_1 := blk_frozen BK103.out 1; have hfz29_2 := blk_frozen BK103.out 2; have hfz29_3 := blk_frozen BK103.out 3; have hcz30_0 : w28.cell? ⟨gb104, 0, none⟩ = some (.int .i8 a1_0) := (blk_cell BK104.out 0).trans rfl; have hcz30_1 : w28.cell? ⟨gb104, 1, none⟩ = some (.int .i8 a1_1) := (blk_cell BK104.out 1).trans rfl; have hcz30_2 : w28.cell? ⟨gb104, 2, none⟩ = some (.int .i8 a1_2) := (blk_cell BK104.out 2).trans rfl; have hcz30_3 : w28.cell? ⟨gb104, 3, none⟩ = some (.int .i16 a1_3) := (blk_cell BK104.out 3).trans rfl; have hfz30_0 := blk_frozen BK104.out 0; have hfz30_1 := blk_frozen BK104.out 1; have hfz30_2 := blk_frozen BK104.out 2; have hfz30_3 := blk_frozen BK104.out 3))
      go_ret
      exact ⟨by first | rfl | (simp [errW_none, errW_some] <;> rfl) | (simp [*, errW_none, errW_some] <;> rfl), by repeat (first | (with_reducible first | exact HB.out | apply below_alloc | apply pw_below_drewN | apply below_drew1 | refine below_set ?_ GE103.out | refine below_set ?_ GE104.out) | exact HB.out)⟩
  · replace c4 := Bool.eq_false_iff.mpr c4
    subst c4
    have H1 : (some false) = some r := by rw [if_neg (show ¬ (false = true) by decide)] at H; exact H
    clear H
    have H := H1
    clear H1
    obtain rfl := Option.some.inj H
    go_enter Try.func91, Try.ntmps91
    go_wp2_with (first | ((with_reducible refine gate_dst (N := 2) rfl ?_); refine box_event ?hg (N := 2) ?hd (cs := #[.int .i8 a0_0, .int .i8 a0_1, .int .i8 a0_2, .int .i16 a0_3]) (t := 120) ?hr ?_; (case hd => rfl); (case hg => rfl); (case hr => first | (go_simp; done) | (go_simp; rfl)); intro gb103 hg w31 hbox hb; have n0_ := Aside0.mk (below_step (by repeat (first | (with_reducible first | exact HB.out | apply below_alloc | apply pw_below_drewN | apply below_drew1) | exact HB.out)) hb); have n1_ := Aside0.mk (hbox); have n2_ := Aside0.mk ((by rw [hg]; exact (below_size (by repeat (first | (with_reducible first | exact HB.out | apply below_alloc | apply pw_below_drewN | apply below_drew1) | exact HB.out))) : w.heap.size ≤ gb103)); have n3_ := Aside0.mk ((by rw [hg]; exact (below_size (by repeat (first | (with_reducible first | exact HB.out | apply below_alloc | apply pw_below_drewN | apply below_drew1) | exact HB.out))) : w.heap.size ≤ gb103)); clear HB; have HB := n0_; have BK103 := n1_; have GW103 := n2_; have GE103 := n3_; clear n0_ n1_ n2_ n3_; clear hb hbox hg) | ((with_reducible refine gate_dst (N := 3) rfl ?_); refine box_event ?hg (N := 3) ?hd (cs := #[.int .i8 a1_0, .int .i8 a1_1, .int .i8 a1_2, .int .i16 a1_3]) (t := 120) ?hr ?_; (case hd => rfl); (case hg => rfl); (case hr => first | (go_simp; done) | (go_simp; rfl)); intro gb104 hg w32 hbox hb; have n0_ := Aside0.mk (blk_below (g := gb103) (o := .cells #[.int .i8 a0_0, .int .i8 a0_1, .int .i8 a0_2, .int .i16 a0_3] 120 (0, 0)) (by (with_reducible repeat (first | refine blk_drewN ?_ _ | refine blk_drew ?_ | refine blk_alloc ?_ _)); exact BK103.out) hb); have n1_ := Aside0.mk (below_step (by repeat (first | (with_reducible first | exact HB.out | apply below_alloc | apply pw_below_drewN | apply below_drew1 | refine below_set ?_ GE103.out) | exact HB.out)) hb); have n2_ := Aside0.mk (hbox); have n3_ := Aside0.mk ((by rw [hg]; exact (below_size (by repeat (first | (with_reducible first | exact HB.out | apply below_alloc | apply pw_below_drewN | apply below_drew1 | refine below_set ?_ GE103.out) | exact HB.out))) : w.heap.size ≤ gb104)); have n4_ := Aside0.mk ((by rw [hg]; exact (below_size (by repeat (first | (with_reducible first | exact HB.out | apply below_alloc | apply pw_below_drewN | apply below_drew1 | refine below_set ?_ GE103.out) | exact HB.out))) : w.heap.size ≤ gb104)); have n5_ := Aside0.mk ((by rw [hg]; exact Nat.ne_of_lt (blk_lt (g := gb103) (o := .cells #[.int .i8 a0_0, .int .i8 a0_1, .int .i8 a0_2, .int .i16 a0_3] 120 (0, 0)) (by (with_reducible repeat (first | refine blk_drewN ?_ _ | refine blk_drew ?_ | refine blk_alloc ?_ _)); exact BK103.out)) : gb103 ≠ gb104)); have n6_ := Aside0.mk ((by rw [hg]; exact Nat.ne_of_gt (blk_lt (g := gb103) (o := .cells #[.int .i8 a0_0, .int .i8 a0_1, .int .i8 a0_2, .int .i16 a0_3] 120 (0, 0)) (by (with_reducible repeat (first | refine blk_drewN ?_ _ | refine blk_drew ?_ | refine blk_alloc ?_ _)); exact BK103.out)) : gb104 ≠ gb103)); clear BK103; clear HB; have BK103 := n0_; have HB := n1_; have BK104 := n2_; have GW104 := n3_; have GE104 := n4_; have NB103_104 := n5_; have NB104_103 := n6_; clear n0_ n1_ n2_ n3_ n4_ n5_ n6_; clear hb hbox hg; have hnb33 := NB103_104.out; have hnc33 := NB104_103.out; have hcz34_0 : w32.cell? ⟨gb103, 0, none⟩ = some (.int .i8 a0_0) := (blk_cell BK103.out 0).trans rfl; have hcz34_1 : w32.cell? ⟨gb103, 1, none⟩ = some (.int .i8 a0_1) := (blk_cell BK103.out 1).trans rfl; have hcz34_2 : w32.cell? ⟨gb103, 2, none⟩ = some (.int .i8 a0_2) := (blk_cell BK103.out 2).trans rfl; have hcz34_3 : w32.cell? ⟨gb103, 3, none⟩ = some (.int .i16 a0_3) := (blk_cell BK103.out 3).trans rfl; have hfz34_0 := blk_frozen BK103.out 0; have hfz34_1 := blk_frozen BK103.out 1; have hfz34_2 := blk_frozen BK103.out 2; have hfz34_3 := blk_frozen BK103.out 3; have hcz35_0 : w32.cell? ⟨gb104, 0, none⟩ = some (.int .i8 a1_0) := (blk_cell BK104.out 0).trans rfl; have hcz35_1 : w32.cell? ⟨gb104, 1, none⟩ = some (.int .i8 a1_1) := (blk_cell BK104.out 1).trans rfl; have hcz35_2 : w32.cell? ⟨gb104, 2, none⟩ = some (.int .i8 a1_2) := (blk_cell BK104.out 2).trans rfl; have hcz35_3 : w32.cell? ⟨gb104, 3, none⟩ = some (.int .i16 a1_3) := (blk_cell BK104.out 3).trans rfl; have hfz35_0 := blk_frozen BK104.out 0; have hfz35_1 := blk_frozen BK104.out 1; have hfz35_2 := blk_frozen BK104.out 2; have hfz35_3 := blk_frozen BK104.out 3) | ((with_reducible refine gate_callee (f := 159) rfl ?_); refine goesL_ (some 9) rfl rfl Try.func159 (by kernel_rfl) rfl #[.agg #[.int .i8 a0_0, .int .i8 a0_1], .agg #[.int .i8 a1_0, .int .i8 a1_1]] rfl (by (try simp only [List.map_toArray, List.map_cons, List.map_nil]); first | done | rfl | (simp only [List.length_drop, List.length_take]; rfl)) ?_; (with_reducible refine (laws_eqCell.calls k a0_0 a0_1 a1_0 a1_1 false _ A3.out).mono ?_); rintro e w36 ⟨rfl, hb⟩; refine ⟨_, rfl, ?_⟩; have n0_ := Aside0.mk (blk_below (g := gb103) (o := .cells #[.int .i8 a0_0, .int .i8 a0_1, .int .i8 a0_2, .int .i16 a0_3] 120 (0, 0)) (by (with_reducible repeat (first | refine blk_drewN ?_ _ | refine blk_drew ?_ | refine blk_alloc ?_ _)); exact BK103.out) hb); have n1_ := Aside0.mk (blk_below (g := gb104) (o := .cells #[.int .i8 a1_0, .int .i8 a1_1, .int .i8 a1_2, .int .i16 a1_3] 120 (0, 0)) (by (with_reducible repeat (first | refine blk_drewN ?_ _ | refine blk_drew ?_ | refine blk_alloc ?_ _)); exact BK104.out) hb); have n2_ := Aside0.mk (below_step (by repeat (first | (with_reducible first | exact HB.out | apply below_alloc | apply pw_below_drewN | apply below_drew1 | refine below_set ?_ GE103.out | refine below_set ?_ GE104.out) | exact HB.out)) hb); clear BK103; clear BK104; clear HB; have BK103 := n0_; have BK104 := n1_; have HB := n2_; clear n0_ n1_ n2_; (try clear hb); (try clear hb2); (try clear hk); (try clear hi)))
    go_ret
    exact ⟨by first | rfl | (simp [errW_none, errW_some] <;> rfl) | (simp [*, errW_none, errW_some] <;> rfl), by repeat (first | (with_reducible first | exact HB.out | apply below_alloc | apply pw_below_drewN | apply below_drew1 | refine below_set ?_ GE103.out | refine below_set ?_ GE104.out) | exact HB.out)⟩

/-! ### laws_eqPushS: function 26 -/
def laws_eqPushS.l0 : Nat → List (S120) → List (S120) → Int → Option (Bool)
  | 0, _, _, _ => none
  | k + 1, x0, x1, x5 => if x5 < (x0.length : Int) then (if 0 ≤ x5 then (if x5 < (x1.length : Int) then ((laws_eqPush.f k ((rd_T120 x0 x5).f0.f0) ((rd_T120 x0 x5).f0.f1) ((rd_T120 x0 x5).f1) ((rd_T120 x0 x5).f2) ((rd_T120 x1 x5).f0.f0) ((rd_T120 x1 x5).f0.f1) ((rd_T120 x1 x5).f1) ((rd_T120 x1 x5).f2)).bind fun t108 => (if t108 = true then (laws_eqPushS.l0 k x0 x1 (wrap64 (x5 + 1))) else (some false))) else (none)) else (none)) else (some true)
def laws_eqPushS.f (k : Nat) (l0 : List (S120)) (l1 : List (S120)) : Option (Bool) := if (l0.length : Int) = (l1.length : Int) then (laws_eqPushS.l0 k l0 l1 0) else (some false)
theorem laws_eqPushS.mono_l : ∀ k, (∀ y0 y1 y2, LeO (laws_eqPushS.l0 k y0 y1 y2) (laws_eqPushS.l0 (k + 1) y0 y1 y2))
  | 0 => fun _ _ _ r h => by simp [laws_eqPushS.l0] at h
  | k + 1 => by
    have ih0 := laws_eqPushS.mono_l k
    · intro y0 y1 y2
      unfold laws_eqPushS.l0
      repeat' first
      | (with_reducible exact ih0 _ _ _)
      | (with_reducible exact laws_eqPush.mono _ _ _ _ _ _ _ _ _)
      | (with_reducible exact LeO.refl _)
      | (with_reducible exact LeO.none _)
      | (with_reducible refine LeO.ite ?_ ?_)
      | (with_reducible refine LeO.bind ?_ (fun _ => ?_))
      | exact ih0 _ _ _
      | exact laws_eqPush.mono _ _ _ _ _ _ _ _ _
      | exact LeO.none _
      | refine LeO.ite ?_ ?_
      | refine LeO.bind ?_ (fun _ => ?_)
theorem laws_eqPushS.mono : ∀ a0 a1 k, LeO (laws_eqPushS.f k a0 a1) (laws_eqPushS.f (k + 1) a0 a1) := by
  intro a0 a1 k
  have ih0 := laws_eqPushS.mono_l k
  unfold laws_eqPushS.f
  repeat' first
      | (with_reducible exact ih0 _ _ _)
      | (with_reducible exact laws_eqPush.mono _ _ _ _ _ _ _ _ _)
      | (with_reducible exact LeO.refl _)
      | (with_reducible exact LeO.none _)
      | (with_reducible refine LeO.ite ?_ ?_)
      | (with_reducible refine LeO.bind ?_ (fun _ => ?_))
      | exact ih0 _ _ _
      | exact laws_eqPush.mono _ _ _ _ _ _ _ _ _
      | exact LeO.none _
      | refine LeO.ite ?_ ?_
      | refine LeO.bind ?_ (fun _ => ?_)
def laws_eqPushS.T6 : Bool × List (List Nat × List Nat) := (true, [([], []), ([], []), ([0, 1], [0, 1]), ([2], [2]), ([], []), ([], []), ([4, 5], [4, 5]), ([6], [6]), ([3, 7], [3, 7]), ([8], [8])])
def laws_eqPushS.B6 : List Nat := [0, 0, 3, 7, 0, 0, 48, 112, 255, 511]
theorem laws_eqPushS.tab6 : rtab .any (opsOf Try.f26 6) = laws_eqPushS.T6 := by kernel_rfl
theorem laws_eqPushS.bits6 : waitsOk laws_eqPushS.T6.2 laws_eqPushS.B6 = true := by kernel_rfl
set_option maxHeartbeats 8000000 in
set_option maxRecDepth 100000 in
theorem laws_eqPushS.calls (k : Nat) (A0 : Option Addr) (c0 : Nat) (l0 : List (S120)) (A1 : Option Addr) (c1 : Nat) (l1 : List (S120)) (r : Bool) (w : World) (hr0 : Kd.C k120 w A0 l0.length l0) (hc0 : l0.length ≤ c0) (hr1 : Kd.C k120 w A1 l1.length l1) (hc1 : l1.length ≤ c1) (h : laws_eqPushS.f k l0 l1 = some r) :
    Calls Try.prog 26 #[.slice A0 l0.length c0, .slice A1 l1.length c1] w fun e w' => e = .returned (.bool r) ∧ Below w.heap.size w w' := by
  have hu120 := Try.underlying120
  have HR0 := Aside0.mk hr0
  have HC0 := Aside0.mk hc0
  clear hr0 hc0
  have HR1 := Aside0.mk hr1
  have HC1 := Aside0.mk hc1
  clear hr1 hc1
  have HB := Aside0.mk (Below.refl w.heap.size w)
  have H : (if (l0.length : Int) = (l1.length : Int) then (laws_eqPushS.l0 k l0 l1 0) else (some false)) = some r := h
  clear h
  by_cases c3 : (l0.length : Int) = (l1.length : Int)
  · rw [if_pos c3] at H
    have c3b0 : ((l0.length : Int) == (l1.length : Int)) = true := beq_iff_eq.mpr c3
    have c3b1 : ((l0.length : Int) != (l1.length : Int)) = false := bne_eq_false_iff_eq.mpr c3
    have c3b2 : (l0.length == l1.length) = true := by first | simpa using c3 | (simp at c3 ⊢; omega)
    clear c3
    have H' := Aside0.mk H
    clear H
    go_enter Try.func26, Try.ntmps26
    go_wp2
    go_loopg [5] k (fun kq v5 w' => ∃ (x5_1 : Int), v5 = .int .i64 x5_1 ∧ Aside0 (laws_eqPushS.l0 kq l0 l1 x5_1 = some r) ∧ Aside0 (kq ≤ k) ∧ Aside0 (Below w.heap.size w w'))
    case atStart => exact ⟨(0), (by first | rfl | (simp; done) | (simp [*]; done) | (exact congrArg (Value.int .i64) (wrap_eq (by omega)))), H', ⟨Nat.le_refl _⟩, ⟨by repeat (first | (with_reducible first | exact HB.out | apply below_alloc | apply pw_below_drewN | apply below_drew1) | exact HB.out)⟩⟩
    case round =>
      clear H'
      try clear c1
      try clear c2
      try clear p2
      try clear c3
      try clear c3b0
      try clear c3b1
      try clear c3b2
      obtain ⟨x5_1, rfl, HA, HK1, HB⟩ := hrel
      cases gk with
      | zero => exact absurd HA.out (by simp [laws_eqPushS.l0])
      | succ k1 =>
        have H := HA.out
        clear HA
        simp only [laws_eqPushS.l0] at H
        by_cases c4 : x5_1 < (l0.length : Int)
        · rw [if_pos c4] at H
          have c4b0 : decide (x5_1 < (l0.length : Int)) = true := decide_eq_true c4
          clear c4
          by_cases c5 : 0 ≤ x5_1
          · rw [if_pos c5] at H
            have c5b0 : decide (0 ≤ x5_1) = true := decide_eq_true c5
            clear c5
            by_cases c6 : x5_1 < (l1.length : Int)
            · rw [if_pos c6] at H
              have c6b0 : decide (x5_1 < (l1.length : Int)) = true := decide_eq_true c6
              clear c6
              replace H := Option.bind_eq_some_iff.mp H
              obtain ⟨t108, A70, H⟩ := H
              replace H : (if t108 = true then (laws_eqPushS.l0 k1 l0 l1 (wrap64 (x5_1 + 1))) else (some false)) = some r := H
              have A7 := Aside0.mk A70
              clear A70
              by_cases c8 : t108 = true
              · subst c8
                have H1 : (laws_eqPushS.l0 k1 l0 l1 (wrap64 (x5_1 + 1))) = some r := by rw [if_pos rfl] at H; exact H
                clear H
                have H := H1
                clear H1
                have H' := Aside0.mk H
                clear H
                try go_wp2
                have n0_ := Aside0.mk (below_drew1 HB.out)
                clear HB
                have HB := n0_
                clear n0_
                have p106 : 0 ≤ (x5_1 : Int) := of_decide_eq_true (by first | (with_reducible assumption) | assumption)
                have q106 : x5_1 < (l0.length : Int) := of_decide_eq_true (by first | (with_reducible assumption) | assumption)
                obtain ⟨ad106, e106, hx106_0, hx106_1, hx106_2, hx106_3⟩ := at_T120 HR0.out x5_1 p106 q106
                have hw106_3 := hx106_3
                have hw106_2 := hx106_2
                have hw106_1 := hx106_1
                have hw106_0 := hx106_0
                cases e106
                replace hx106_0 := (HB.out.cell (World.block_lt_of_cell? w _ hx106_0)).trans hx106_0
                replace hx106_1 := (HB.out.cell (World.block_lt_of_cell? w _ hx106_1)).trans hx106_1
                replace hx106_2 := (HB.out.cell (World.block_lt_of_cell? w _ hx106_2)).trans hx106_2
                replace hx106_3 := (HB.out.cell (World.block_lt_of_cell? w _ hx106_3)).trans hx106_3
                replace p106 := eq_true p106
                replace q106 := eq_true q106
                have p107 : 0 ≤ (x5_1 : Int) := of_decide_eq_true (by first | (with_reducible assumption) | assumption)
                have q107 : x5_1 < (l1.length : Int) := of_decide_eq_true (by first | (with_reducible assumption) | assumption)
                obtain ⟨ad107, e107, hx107_0, hx107_1, hx107_2, hx107_3⟩ := at_T120 HR1.out x5_1 p107 q107
                have hw107_3 := hx107_3
                have hw107_2 := hx107_2
                have hw107_1 := hx107_1
                have hw107_0 := hx107_0
                cases e107
                replace hx107_0 := (HB.out.cell (World.block_lt_of_cell? w _ hx107_0)).trans hx107_0
                replace hx107_1 := (HB.out.cell (World.block_lt_of_cell? w _ hx107_1)).trans hx107_1
                replace hx107_2 := (HB.out.cell (World.block_lt_of_cell? w _ hx107_2)).trans hx107_2
                replace hx107_3 := (HB.out.cell (World.block_lt_of_cell? w _ hx107_3)).trans hx107_3
                replace p107 := eq_true p107
                replace q107 := eq_true q107
                refine start_ (n := 10) (S := fun w' => w'.cell? (ad106.add ((x5_1).toNat * 4)) = some (.int .i8 ((rd_T120 l0 x5_1).f0.f0)) ∧ w'.cell? ⟨(ad106.add ((x5_1).toNat * 4)).block, (ad106.add ((x5_1).toNat * 4)).off + 1, none⟩ = some (.int .i8 ((rd_T120 l0 x5_1).f0.f1)) ∧ w'.cell? ⟨(ad106.add ((x5_1).toNat * 4)).block, (ad106.add ((x5_1).toNat * 4)).off + 2, none⟩ = some (.int .i8 ((rd_T120 l0 x5_1).f1)) ∧ w'.cell? ⟨(ad106.add ((x5_1).toNat * 4)).block, (ad106.add ((x5_1).toNat * 4)).off + 3, none⟩ = some (.int .i16 ((rd_T120 l0 x5_1).f2)) ∧ w'.cell? (ad107.add ((x5_1).toNat * 4)) = some (.int .i8 ((rd_T120 l1 x5_1).f0.f0)) ∧ w'.cell? ⟨(ad107.add ((x5_1).toNat * 4)).block, (ad107.add ((x5_1).toNat * 4)).off + 1, none⟩ = some (.int .i8 ((rd_T120 l1 x5_1).f0.f1)) ∧ w'.cell? ⟨(ad107.add ((x5_1).toNat * 4)).block, (ad107.add ((x5_1).toNat * 4)).off + 2, none⟩ = some (.int .i8 ((rd_T120 l1 x5_1).f1)) ∧ w'.cell? ⟨(ad107.add ((x5_1).toNat * 4)).block, (ad107.add ((x5_1).toNat * 4)).off + 3, none⟩ = some (.int .i16 ((rd_T120 l1 x5_1).f2))) (ds := []) #[false, false, false, false, false, false, false, false, false, false] (by kernel_rfl) rfl rfl ⟨((HB.out.cell (World.block_lt_of_cell? w _ hw106_0)).trans hw106_0), ((HB.out.cell (World.block_lt_of_cell? w _ hw106_1)).trans hw106_1), ((HB.out.cell (World.block_lt_of_cell? w _ hw106_2)).trans hw106_2), ((HB.out.cell (World.block_lt_of_cell? w _ hw106_3)).trans hw106_3), ((HB.out.cell (World.block_lt_of_cell? w _ hw107_0)).trans hw107_0), ((HB.out.cell (World.block_lt_of_cell? w _ hw107_1)).trans hw107_1), ((HB.out.cell (World.block_lt_of_cell? w _ hw107_2)).trans hw107_2), ((HB.out.cell (World.block_lt_of_cell? w _ hw107_3)).trans hw107_3)⟩ (fun hHeld => ?_); refine with_tabW laws_eqPushS.tab6 laws_eqPushS.bits6 (fun HT_ HW_ => ?_)
                generalize wr.drew = w9 at HB hx106_0 hx106_1 hx106_2 hx106_3 hx107_0 hx107_1 hx107_2 hx107_3 hHeld ⊢
                refine pure_ (i := 0) (N := some 17) (v := ?_) (a' := ?_) #[true, false, false, false, false, false, false, false, false, false] rfl rfl (any_of HT_.out (by kernel_rfl)) (fun _ _ _ h => h) (Or.inl ⟨by rfl, ?_⟩) ?_ ?_
                rotate_left
                · intro w'
                  go_simp
                  with_reducible rfl
                rotate_left
                · simp only [Act.put, List.setIfInBounds_toArray, List.set_cons_zero, List.set_cons_succ, i64_w, i32_w]
                  rfl
                refine pure_ (i := 1) (N := some 18) (v := ?_) (a' := ?_) #[true, true, false, false, false, false, false, false, false, false] rfl rfl (any_of HT_.out (by kernel_rfl)) (fun _ _ _ h => h) (Or.inl ⟨by rfl, ?_⟩) ?_ ?_
                rotate_left
                · intro w'
                  go_simp
                  with_reducible rfl
                rotate_left
                · simp only [Act.put, List.setIfInBounds_toArray, List.set_cons_zero, List.set_cons_succ, i64_w, i32_w]
                  rfl
                refine pure_ (i := 2) (N := some 19) (v := ?_) (a' := ?_) #[true, true, true, false, false, false, false, false, false, false] rfl rfl (any_of HT_.out (by kernel_rfl)) (fun _ _ _ h => h) (Or.inl ⟨by rfl, ?_⟩) ?_ ?_
                rotate_left
                · intro w'
                  go_simp
                  with_reducible rfl
                rotate_left
                · simp only [Act.put, List.setIfInBounds_toArray, List.set_cons_zero, List.set_cons_succ, i64_w, i32_w]
                  rfl
                refine pure_ (i := 4) (N := some 21) (v := ?_) (a' := ?_) #[true, true, true, false, true, false, false, false, false, false] rfl rfl (any_of HT_.out (by kernel_rfl)) (fun _ _ _ h => h) (Or.inl ⟨by rfl, ?_⟩) ?_ ?_
                rotate_left
                · intro w'
                  go_simp
                  with_reducible rfl
                rotate_left
                · simp only [Act.put, List.setIfInBounds_toArray, List.set_cons_zero, List.set_cons_succ, i64_w, i32_w]
                  rfl
                refine pure_ (i := 5) (N := some 22) (v := ?_) (a' := ?_) #[true, true, true, false, true, true, false, false, false, false] rfl rfl (any_of HT_.out (by kernel_rfl)) (fun _ _ _ h => h) (Or.inl ⟨by rfl, ?_⟩) ?_ ?_
                rotate_left
                · intro w'
                  go_simp
                  with_reducible rfl
                rotate_left
                · simp only [Act.put, List.setIfInBounds_toArray, List.set_cons_zero, List.set_cons_succ, i64_w, i32_w]
                  rfl
                refine pure_ (i := 6) (N := some 23) (v := ?_) (a' := ?_) #[true, true, true, false, true, true, true, false, false, false] rfl rfl (any_of HT_.out (by kernel_rfl)) (fun _ _ _ h => h) (Or.inl ⟨by rfl, ?_⟩) ?_ ?_
                rotate_left
                · intro w'
                  go_simp
                  with_reducible rfl
                rotate_left
                · simp only [Act.put, List.setIfInBounds_toArray, List.set_cons_zero, List.set_cons_succ, i64_w, i32_w]
                  rfl
                refine take_ (i := 3) (N := some 20) (v := ?_) (a' := ?_) #[true, true, true, true, true, true, true, false, false, false] rfl rfl (take_ofW HT_.out HW_.out (by kernel_rfl)) (fun _ _ _ h => h) (Or.inl ⟨by rfl, ?_⟩) hHeld ?_ ?_
                rotate_left
                · rintro w' ⟨s0, s1, s2, s3, s4, s5, s6, s7⟩
                  go_simp
                  with_reducible rfl
                rotate_left
                · simp only [Act.put, List.setIfInBounds_toArray, List.set_cons_zero, List.set_cons_succ, i64_w, i32_w]
                  rfl
                refine take_ (i := 7) (N := some 24) (v := ?_) (a' := ?_) #[true, true, true, true, true, true, true, true, false, false] rfl rfl (take_ofW HT_.out HW_.out (by kernel_rfl)) (fun _ _ _ h => h) (Or.inl ⟨by rfl, ?_⟩) hHeld ?_ ?_
                rotate_left
                · rintro w' ⟨s0, s1, s2, s3, s4, s5, s6, s7⟩
                  go_simp
                  with_reducible rfl
                rotate_left
                · simp only [Act.put, List.setIfInBounds_toArray, List.set_cons_zero, List.set_cons_succ, i64_w, i32_w]
                  rfl
                refine one_ (i := 8) (N := some 25) #[true, true, true, true, true, true, true, true, true, false] rfl rfl (one_of HT_.out (by kernel_rfl)) (by decide) (fun K hK => ?_)
                refine goes_ Try.func91 (by kernel_rfl) rfl #[.agg #[.int .i8 ((rd_T120 l0 x5_1).f0.f0), .int .i8 ((rd_T120 l0 x5_1).f0.f1), .int .i8 ((rd_T120 l0 x5_1).f1), .int .i16 ((rd_T120 l0 x5_1).f2)], .agg #[.int .i8 ((rd_T120 l1 x5_1).f0.f0), .int .i8 ((rd_T120 l1 x5_1).f0.f1), .int .i8 ((rd_T120 l1 x5_1).f1), .int .i16 ((rd_T120 l1 x5_1).f2)]] (by rfl) rfl rfl (by (try simp only [List.map_toArray, List.map_cons, List.map_nil]); first | done | rfl | (simp only [List.length_drop, List.length_take]; rfl)) ?_
                with_reducible refine (laws_eqPush.calls k1 ((rd_T120 l0 x5_1).f0.f0) ((rd_T120 l0 x5_1).f0.f1) ((rd_T120 l0 x5_1).f1) ((rd_T120 l0 x5_1).f2) ((rd_T120 l1 x5_1).f0.f0) ((rd_T120 l1 x5_1).f0.f1) ((rd_T120 l1 x5_1).f1) ((rd_T120 l1 x5_1).f2) true _ A7.out).mono ?_
                rintro e w10 ⟨rfl, hb⟩
                refine ⟨_, rfl, ?_⟩
                have n0_ := Aside0.mk (below_step (by repeat (first | (with_reducible first | exact HB.out | apply below_alloc | apply pw_below_drewN | apply below_drew1) | exact HB.out)) hb)
                clear HB
                have HB := n0_
                clear n0_
                (try clear hb)
                (try clear hb2)
                (try clear hk)
                (try clear hi)
                refine hK.out _ _ ⟨((HB.out.cell (World.block_lt_of_cell? w _ hw106_0)).trans hw106_0), ((HB.out.cell (World.block_lt_of_cell? w _ hw106_1)).trans hw106_1), ((HB.out.cell (World.block_lt_of_cell? w _ hw106_2)).trans hw106_2), ((HB.out.cell (World.block_lt_of_cell? w _ hw106_3)).trans hw106_3), ((HB.out.cell (World.block_lt_of_cell? w _ hw107_0)).trans hw107_0), ((HB.out.cell (World.block_lt_of_cell? w _ hw107_1)).trans hw107_1), ((HB.out.cell (World.block_lt_of_cell? w _ hw107_2)).trans hw107_2), ((HB.out.cell (World.block_lt_of_cell? w _ hw107_3)).trans hw107_3)⟩ (fun hHeld => ?_)
                clear hK K
                refine norm_ (a' := ?_) ?_ ?_
                rotate_left
                · show Act.put _ (some 25) _ = _
                  simp only [Act.put, List.setIfInBounds_toArray, List.set_cons_zero, List.set_cons_succ, i64_w, i32_w]
                  rfl
                refine pure_ (i := 9) (N := some 26) (v := ?_) (a' := ?_) #[true, true, true, true, true, true, true, true, true, true] rfl rfl (any_of HT_.out (by kernel_rfl)) (fun _ _ _ h => h) (Or.inl ⟨by rfl, ?_⟩) ?_ ?_
                rotate_left
                · intro w'
                  go_simp
                  with_reducible rfl
                rotate_left
                · simp only [Act.put, List.setIfInBounds_toArray, List.set_cons_zero, List.set_cons_succ, i64_w, i32_w]
                  rfl
                refine done_ (done_of HT_.out (by kernel_rfl)) ?_
                try go_wp2
                go_roundg k1
                case measure => have := HK1.out; omega
                case rel => exact ⟨(wrap64 (x5_1 + 1)), (by first | rfl | (simp; done) | (simp [*]; done) | (exact congrArg (Value.int .i64) (wrap_eq (by omega)))), H', ⟨by have := HK1.out; omega⟩, ⟨by repeat (first | (with_reducible first | exact HB.out | apply below_alloc | apply pw_below_drewN | apply below_drew1) | exact HB.out)⟩⟩
              · replace c8 := Bool.eq_false_iff.mpr c8
                subst c8
                have H1 : (some false) = some r := by rw [if_neg (show ¬ (false = true) by decide)] at H; exact H
                clear H
                have H := H1
                clear H1
                obtain rfl := Option.some.inj H
                try go_wp2
                have n0_ := Aside0.mk (below_drew1 HB.out)
                clear HB
                have HB := n0_
                clear n0_
                have p106 : 0 ≤ (x5_1 : Int) := of_decide_eq_true (by first | (with_reducible assumption) | assumption)
                have q106 : x5_1 < (l0.length : Int) := of_decide_eq_true (by first | (with_reducible assumption) | assumption)
                obtain ⟨ad106, e106, hx106_0, hx106_1, hx106_2, hx106_3⟩ := at_T120 HR0.out x5_1 p106 q106
                have hw106_3 := hx106_3
                have hw106_2 := hx106_2
                have hw106_1 := hx106_1
                have hw106_0 := hx106_0
                cases e106
                replace hx106_0 := (HB.out.cell (World.block_lt_of_cell? w _ hx106_0)).trans hx106_0
                replace hx106_1 := (HB.out.cell (World.block_lt_of_cell? w _ hx106_1)).trans hx106_1
                replace hx106_2 := (HB.out.cell (World.block_lt_of_cell? w _ hx106_2)).trans hx106_2
                replace hx106_3 := (HB.out.cell (World.block_lt_of_cell? w _ hx106_3)).trans hx106_3
                replace p106 := eq_true p106
                replace q106 := eq_true q106
                have p107 : 0 ≤ (x5_1 : Int) := of_decide_eq_true (by first | (with_reducible assumption) | assumption)
                have q107 : x5_1 < (l1.length : Int) := of_decide_eq_true (by first | (with_reducible assumption) | assumption)
                obtain ⟨ad107, e107, hx107_0, hx107_1, hx107_2, hx107_3⟩ := at_T120 HR1.out x5_1 p107 q107
                have hw107_3 := hx107_3
                have hw107_2 := hx107_2
                have hw107_1 := hx107_1
                have hw107_0 := hx107_0
                cases e107
                replace hx107_0 := (HB.out.cell (World.block_lt_of_cell? w _ hx107_0)).trans hx107_0
                replace hx107_1 := (HB.out.cell (World.block_lt_of_cell? w _ hx107_1)).trans hx107_1
                replace hx107_2 := (HB.out.cell (World.block_lt_of_cell? w _ hx107_2)).trans hx107_2
                replace hx107_3 := (HB.out.cell (World.block_lt_of_cell? w _ hx107_3)).trans hx107_3
                replace p107 := eq_true p107
                replace q107 := eq_true q107
                refine start_ (n := 10) (S := fun w' => w'.cell? (ad106.add ((x5_1).toNat * 4)) = some (.int .i8 ((rd_T120 l0 x5_1).f0.f0)) ∧ w'.cell? ⟨(ad106.add ((x5_1).toNat * 4)).block, (ad106.add ((x5_1).toNat * 4)).off + 1, none⟩ = some (.int .i8 ((rd_T120 l0 x5_1).f0.f1)) ∧ w'.cell? ⟨(ad106.add ((x5_1).toNat * 4)).block, (ad106.add ((x5_1).toNat * 4)).off + 2, none⟩ = some (.int .i8 ((rd_T120 l0 x5_1).f1)) ∧ w'.cell? ⟨(ad106.add ((x5_1).toNat * 4)).block, (ad106.add ((x5_1).toNat * 4)).off + 3, none⟩ = some (.int .i16 ((rd_T120 l0 x5_1).f2)) ∧ w'.cell? (ad107.add ((x5_1).toNat * 4)) = some (.int .i8 ((rd_T120 l1 x5_1).f0.f0)) ∧ w'.cell? ⟨(ad107.add ((x5_1).toNat * 4)).block, (ad107.add ((x5_1).toNat * 4)).off + 1, none⟩ = some (.int .i8 ((rd_T120 l1 x5_1).f0.f1)) ∧ w'.cell? ⟨(ad107.add ((x5_1).toNat * 4)).block, (ad107.add ((x5_1).toNat * 4)).off + 2, none⟩ = some (.int .i8 ((rd_T120 l1 x5_1).f1)) ∧ w'.cell? ⟨(ad107.add ((x5_1).toNat * 4)).block, (ad107.add ((x5_1).toNat * 4)).off + 3, none⟩ = some (.int .i16 ((rd_T120 l1 x5_1).f2))) (ds := []) #[false, false, false, false, false, false, false, false, false, false] (by kernel_rfl) rfl rfl ⟨((HB.out.cell (World.block_lt_of_cell? w _ hw106_0)).trans hw106_0), ((HB.out.cell (World.block_lt_of_cell? w _ hw106_1)).trans hw106_1), ((HB.out.cell (World.block_lt_of_cell? w _ hw106_2)).trans hw106_2), ((HB.out.cell (World.block_lt_of_cell? w _ hw106_3)).trans hw106_3), ((HB.out.cell (World.block_lt_of_cell? w _ hw107_0)).trans hw107_0), ((HB.out.cell (World.block_lt_of_cell? w _ hw107_1)).trans hw107_1), ((HB.out.cell (World.block_lt_of_cell? w _ hw107_2)).trans hw107_2), ((HB.out.cell (World.block_lt_of_cell? w _ hw107_3)).trans hw107_3)⟩ (fun hHeld => ?_); refine with_tabW laws_eqPushS.tab6 laws_eqPushS.bits6 (fun HT_ HW_ => ?_)
                generalize wr.drew = w11 at HB hx106_0 hx106_1 hx106_2 hx106_3 hx107_0 hx107_1 hx107_2 hx107_3 hHeld ⊢
                refine pure_ (i := 0) (N := some 17) (v := ?_) (a' := ?_) #[true, false, false, false, false, false, false, false, false, false] rfl rfl (any_of HT_.out (by kernel_rfl)) (fun _ _ _ h => h) (Or.inl ⟨by rfl, ?_⟩) ?_ ?_
                rotate_left
                · intro w'
                  go_simp
                  with_reducible rfl
                rotate_left
                · simp only [Act.put, List.setIfInBounds_toArray, List.set_cons_zero, List.set_cons_succ, i64_w, i32_w]
                  rfl
                refine pure_ (i := 1) (N := some 18) (v := ?_) (a' := ?_) #[true, true, false, false, false, false, false, false, false, false] rfl rfl (any_of HT_.out (by kernel_rfl)) (fun _ _ _ h => h) (Or.inl ⟨by rfl, ?_⟩) ?_ ?_
                rotate_left
                · intro w'
                  go_simp
                  with_reducible rfl
                rotate_left
                · simp only [Act.put, List.setIfInBounds_toArray, List.set_cons_zero, List.set_cons_succ, i64_w, i32_w]
                  rfl
                refine pure_ (i := 2) (N := some 19) (v := ?_) (a' := ?_) #[true, true, true, false, false, false, false, false, false, false] rfl rfl (any_of HT_.out (by kernel_rfl)) (fun _ _ _ h => h) (Or.inl ⟨by rfl, ?_⟩) ?_ ?_
                rotate_left
                · intro w'
                  go_simp
                  with_reducible rfl
                rotate_left
                · simp only [Act.put, List.setIfInBounds_toArray, List.set_cons_zero, List.set_cons_succ, i64_w, i32_w]
                  rfl
                refine pure_ (i := 4) (N := some 21) (v := ?_) (a' := ?_) #[true, true, true, false, true, false, false, false, false, false] rfl rfl (any_of HT_.out (by kernel_rfl)) (fun _ _ _ h => h) (Or.inl ⟨by rfl, ?_⟩) ?_ ?_
                rotate_left
                · intro w'
                  go_simp
                  with_reducible rfl
                rotate_left
                · simp only [Act.put, List.setIfInBounds_toArray, List.set_cons_zero, List.set_cons_succ, i64_w, i32_w]
                  rfl
                refine pure_ (i := 5) (N := some 22) (v := ?_) (a' := ?_) #[true, true, true, false, true, true, false, false, false, false] rfl rfl (any_of HT_.out (by kernel_rfl)) (fun _ _ _ h => h) (Or.inl ⟨by rfl, ?_⟩) ?_ ?_
                rotate_left
                · intro w'
                  go_simp
                  with_reducible rfl
                rotate_left
                · simp only [Act.put, List.setIfInBounds_toArray, List.set_cons_zero, List.set_cons_succ, i64_w, i32_w]
                  rfl
                refine pure_ (i := 6) (N := some 23) (v := ?_) (a' := ?_) #[true, true, true, false, true, true, true, false, false, false] rfl rfl (any_of HT_.out (by kernel_rfl)) (fun _ _ _ h => h) (Or.inl ⟨by rfl, ?_⟩) ?_ ?_
                rotate_left
                · intro w'
                  go_simp
                  with_reducible rfl
                rotate_left
                · simp only [Act.put, List.setIfInBounds_toArray, List.set_cons_zero, List.set_cons_succ, i64_w, i32_w]
                  rfl
                refine take_ (i := 3) (N := some 20) (v := ?_) (a' := ?_) #[true, true, true, true, true, true, true, false, false, false] rfl rfl (take_ofW HT_.out HW_.out (by kernel_rfl)) (fun _ _ _ h => h) (Or.inl ⟨by rfl, ?_⟩) hHeld ?_ ?_
                rotate_left
                · rintro w' ⟨s0, s1, s2, s3, s4, s5, s6, s7⟩
                  go_simp
                  with_reducible rfl
                rotate_left
                · simp only [Act.put, List.setIfInBounds_toArray, List.set_cons_zero, List.set_cons_succ, i64_w, i32_w]
                  rfl
                refine take_ (i := 7) (N := some 24) (v := ?_) (a' := ?_) #[true, true, true, true, true, true, true, true, false, false] rfl rfl (take_ofW HT_.out HW_.out (by kernel_rfl)) (fun _ _ _ h => h) (Or.inl ⟨by rfl, ?_⟩) hHeld ?_ ?_
                rotate_left
                · rintro w' ⟨s0, s1, s2, s3, s4, s5, s6, s7⟩
                  go_simp
                  with_reducible rfl
                rotate_left
                · simp only [Act.put, List.setIfInBounds_toArray, List.set_cons_zero, List.set_cons_succ, i64_w, i32_w]
                  rfl
                refine one_ (i := 8) (N := some 25) #[true, true, true, true, true, true, true, true, true, false] rfl rfl (one_of HT_.out (by kernel_rfl)) (by decide) (fun K hK => ?_)
                refine goes_ Try.func91 (by kernel_rfl) rfl #[.agg #[.int .i8 ((rd_T120 l0 x5_1).f0.f0), .int .i8 ((rd_T120 l0 x5_1).f0.f1), .int .i8 ((rd_T120 l0 x5_1).f1), .int .i16 ((rd_T120 l0 x5_1).f2)], .agg #[.int .i8 ((rd_T120 l1 x5_1).f0.f0), .int .i8 ((rd_T120 l1 x5_1).f0.f1), .int .i8 ((rd_T120 l1 x5_1).f1), .int .i16 ((rd_T120 l1 x5_1).f2)]] (by rfl) rfl rfl (by (try simp only [List.map_toArray, List.map_cons, List.map_nil]); first | done | rfl | (simp only [List.length_drop, List.length_take]; rfl)) ?_
                with_reducible refine (laws_eqPush.calls k1 ((rd_T120 l0 x5_1).f0.f0) ((rd_T120 l0 x5_1).f0.f1) ((rd_T120 l0 x5_1).f1) ((rd_T120 l0 x5_1).f2) ((rd_T120 l1 x5_1).f0.f0) ((rd_T120 l1 x5_1).f0.f1) ((rd_T120 l1 x5_1).f1) ((rd_T120 l1 x5_1).f2) false _ A7.out).mono ?_
                rintro e w12 ⟨rfl, hb⟩
                refine ⟨_, rfl, ?_⟩
                have n0_ := Aside0.mk (below_step (by repeat (first | (with_reducible first | exact HB.out | apply below_alloc | apply pw_below_drewN | apply below_drew1) | exact HB.out)) hb)
                clear HB
                have HB := n0_
                clear n0_
                (try clear hb)
                (try clear hb2)
                (try clear hk)
                (try clear hi)
                refine hK.out _ _ ⟨((HB.out.cell (World.block_lt_of_cell? w _ hw106_0)).trans hw106_0), ((HB.out.cell (World.block_lt_of_cell? w _ hw106_1)).trans hw106_1), ((HB.out.cell (World.block_lt_of_cell? w _ hw106_2)).trans hw106_2), ((HB.out.cell (World.block_lt_of_cell? w _ hw106_3)).trans hw106_3), ((HB.out.cell (World.block_lt_of_cell? w _ hw107_0)).trans hw107_0), ((HB.out.cell (World.block_lt_of_cell? w _ hw107_1)).trans hw107_1), ((HB.out.cell (World.block_lt_of_cell? w _ hw107_2)).trans hw107_2), ((HB.out.cell (World.block_lt_of_cell? w _ hw107_3)).trans hw107_3)⟩ (fun hHeld => ?_)
                clear hK K
                refine norm_ (a' := ?_) ?_ ?_
                rotate_left
                · show Act.put _ (some 25) _ = _
                  simp only [Act.put, List.setIfInBounds_toArray, List.set_cons_zero, List.set_cons_succ, i64_w, i32_w]
                  rfl
                refine pure_ (i := 9) (N := some 26) (v := ?_) (a' := ?_) #[true, true, true, true, true, true, true, true, true, true] rfl rfl (any_of HT_.out (by kernel_rfl)) (fun _ _ _ h => h) (Or.inl ⟨by rfl, ?_⟩) ?_ ?_
                rotate_left
                · intro w'
                  go_simp
                  with_reducible rfl
                rotate_left
                · simp only [Act.put, List.setIfInBounds_toArray, List.set_cons_zero, List.set_cons_succ, i64_w, i32_w]
                  rfl
                refine done_ (done_of HT_.out (by kernel_rfl)) ?_
                try go_wp2
                go_ret
                exact ⟨by first | rfl | (simp [errW_none, errW_some] <;> rfl) | (simp [*, errW_none, errW_some] <;> rfl), by repeat (first | (with_reducible first | exact HB.out | apply below_alloc | apply pw_below_drewN | apply below_drew1) | exact HB.out)⟩
            · rw [if_neg c6] at H
              exact absurd H (by simp)
          · rw [if_neg c5] at H
            exact absurd H (by simp)
        · rw [if_neg c4] at H
          have c4b0 : decide (x5_1 < (l0.length : Int)) = false := decide_eq_false c4
          clear c4
          obtain rfl := Option.some.inj H
          go_wp2
          go_ret
          exact ⟨by first | rfl | (simp [errW_none, errW_some] <;> rfl) | (simp [*, errW_none, errW_some] <;> rfl), by repeat (first | (with_reducible first | exact HB.out | apply below_alloc | apply pw_below_drewN | apply below_drew1) | exact HB.out)⟩
  · rw [if_neg c3] at H
    have c3b0 : ((l0.length : Int) == (l1.length : Int)) = false := beq_eq_false_iff_ne.mpr c3
    have c3b1 : ((l0.length : Int) != (l1.length : Int)) = true := bne_iff_ne.mpr c3
    have c3b2 : (l0.length == l1.length) = false := by first | simpa using c3 | (simp at c3 ⊢; omega)
    obtain rfl := Option.some.inj H
    go_enter Try.func26, Try.ntmps26
    go_wp2
    go_ret
    exact ⟨by first | rfl | (simp [errW_none, errW_some] <;> rfl) | (simp [*, errW_none, errW_some] <;> rfl), by repeat (first | (with_reducible first | exact HB.out | apply below_alloc | apply pw_below_drewN | apply below_drew1) | exact HB.out)⟩

/-! ### laws_szPushS: function 33 -/
def laws_szPushS.f (l0 : List (S129)) (a1 : Int) : Option (Int) := if (wrap64 (a1 - (l0.length : Int))) < 0 then (some (-1)) else (some (wrap64 (a1 - (l0.length : Int))))
set_option maxHeartbeats 8000000 in
set_option maxRecDepth 100000 in
theorem laws_szPushS.calls (A0 : Option Addr) (c0 : Nat) (l0 : List (S129)) (a1 : Int) (r : Int) (w : World) (hr0 : Kd.C k129 w A0 l0.length l0) (hc0 : l0.length ≤ c0) (h : laws_szPushS.f l0 a1 = some r) :
    Calls Try.prog 33 #[.slice A0 l0.length c0, .int .i64 a1] w fun e w' => e = .returned (.int .i64 r) ∧ Drawn0 w w' := by
  have HR0 := Aside0.mk hr0
  have HC0 := Aside0.mk hc0
  clear hr0 hc0
  have H : (if (wrap64 (a1 - (l0.length : Int))) < 0 then (some (-1)) else (some (wrap64 (a1 - (l0.length : Int))))) = some r := h
  clear h
  by_cases c3 : (wrap64 (a1 - (l0.length : Int))) < 0
  · rw [if_pos c3] at H
    have c3b0 : decide ((wrap64 (a1 - (l0.length : Int))) < 0) = true := decide_eq_true c3
    clear c3
    obtain rfl := Option.some.inj H
    go_enter Try.func33, Try.ntmps33
    go_wp2
    go_ret
    exact ⟨by first | rfl | (simp; done) | (simp [*]; done) | (exact congrArg (Value.int .i64) (wrap_eq (by omega))), by repeat (first | exact Drawn0.refl _ | apply Drawn0.step)⟩
  · rw [if_neg c3] at H
    have c3b0 : decide ((wrap64 (a1 - (l0.length : Int))) < 0) = false := decide_eq_false c3
    clear c3
    obtain rfl := Option.some.inj H
    go_enter Try.func33, Try.ntmps33
    go_wp2
    go_ret
    exact ⟨by first | rfl | (simp; done) | (simp [*]; done) | (exact congrArg (Value.int .i64) (wrap_eq (by omega))), by repeat (first | exact Drawn0.refl _ | apply Drawn0.step)⟩

/-! ### laws_toCell: function 53 -/
def laws_toCell.l0 : Nat → Int → Int → Int → Int → Int → Option (Int × Int)
  | 0, _, _, _, _, _ => none
  | k + 1, x4, x110000, x110001, x112000, x112001 => if x4 < 2 then (if x4 = 0 then (laws_toCell.l0 k (wrap64 (x4 + 1)) x110000 x110001 x110000 x112001) else (if x4 = 1 then (laws_toCell.l0 k (wrap64 (x4 + 1)) x110000 x110001 x112000 x110001) else (none))) else (some (x112000, x112001))
def laws_toCell.f (k : Nat) (a0_0 : Int) (a0_1 : Int) : Option (Int × Int) := laws_toCell.l0 k 0 a0_0 a0_1 0 0
theorem laws_toCell.mono_l : ∀ k, (∀ y0 y1 y2 y3 y4, LeO (laws_toCell.l0 k y0 y1 y2 y3 y4) (laws_toCell.l0 (k + 1) y0 y1 y2 y3 y4))
  | 0 => fun _ _ _ _ _ r h => by simp [laws_toCell.l0] at h
  | k + 1 => by
    have ih0 := laws_toCell.mono_l k
    · intro y0 y1 y2 y3 y4
      unfold laws_toCell.l0
      repeat' first
      | (with_reducible exact ih0 _ _ _ _ _)
      | (with_reducible exact LeO.refl _)
      | (with_reducible exact LeO.none _)
      | (with_reducible refine LeO.ite ?_ ?_)
      | (with_reducible refine LeO.bind ?_ (fun _ => ?_))
      | exact ih0 _ _ _ _ _
      | exact LeO.none _
      | refine LeO.ite ?_ ?_
      | refine LeO.bind ?_ (fun _ => ?_)
theorem laws_toCell.mono : ∀ a0 a1 k, LeO (laws_toCell.f k a0 a1) (laws_toCell.f (k + 1) a0 a1) := by
  intro a0 a1 k
  have ih0 := laws_toCell.mono_l k
  unfold laws_toCell.f
  repeat' first
      | (with_reducible exact ih0 _ _ _ _ _)
      | (with_reducible exact LeO.refl _)
      | (with_reducible exact LeO.none _)
      | (with_reducible refine LeO.ite ?_ ?_)
      | (with_reducible refine LeO.bind ?_ (fun _ => ?_))
      | exact ih0 _ _ _ _ _
      | exact LeO.none _
      | refine LeO.ite ?_ ?_
      | refine LeO.bind ?_ (fun _ => ?_)
set_option maxHeartbeats 8000000 in
set_option maxRecDepth 100000 in
theorem laws_toCell.calls (k : Nat) (a0_0 : Int) (a0_1 : Int) (r1 : Int) (r2 : Int) (w : World) (h : laws_toCell.f k a0_0 a0_1 = some (r1, r2)) :
    Calls Try.prog 53 #[.agg #[.int .i8 a0_0, .int .i8 a0_1]] w fun e w' => e = .returned (.agg #[.int .i8 r1, .int .i8 r2]) ∧ Below w.heap.size w w' := by
  have hu71 := Try.underlying71
  have hu74 := Try.underlying74
  have HB := Aside0.mk (Below.refl w.heap.size w)
  have H : (laws_toCell.l0 k 0 a0_0 a0_1 0 0) = some (r1, r2) := h
  clear h
  have H' := Aside0.mk H
  clear H
  go_enter Try.func53, Try.ntmps53
  go_wp2_with (first | ((with_reducible refine gate_dst (N := 1) rfl ?_); refine box_event ?hg (N := 1) ?hd (cs := #[.int .i8 a0_0, .int .i8 a0_1]) (t := 71) ?hr ?_; (case hd => rfl); (case hg => rfl); (case hr => first | (go_simp; done) | (go_simp; rfl)); intro gb109 hg w2 hbox hb; have n0_ := Aside0.mk (below_step (by repeat (first | (with_reducible first | exact HB.out | apply below_alloc | apply pw_below_drewN | apply below_drew1) | exact HB.out)) hb); have n1_ := Aside0.mk (hbox); have n2_ := Aside0.mk ((by rw [hg]; exact (below_size (by repeat (first | (with_reducible first | exact HB.out | apply below_alloc | apply pw_below_drewN | apply below_drew1) | exact HB.out))) : w.heap.size ≤ gb109)); have n3_ := Aside0.mk ((by rw [hg]; exact (below_size (by repeat (first | (with_reducible first | exact HB.out | apply below_alloc | apply pw_below_drewN | apply below_drew1) | exact HB.out))) : w.heap.size ≤ gb109)); clear HB; have HB := n0_; have BK109 := n1_; have GW109 := n2_; have GE109 := n3_; clear n0_ n1_ n2_ n3_; clear hb hbox hg) | ((with_reducible refine gate_dst (N := 2) rfl ?_); refine box_event ?hg (N := 2) ?hd (cs := #[.int .i8 0, .int .i8 0]) (t := 74) ?hr ?_; (case hd => rfl); (case hg => rfl); (case hr => first | (go_simp; done) | (go_simp; rfl)); intro gb110 hg w3 hbox hb; have n0_ := Aside0.mk (blk_below (g := gb109) (o := .cells #[.int .i8 a0_0, .int .i8 a0_1] 71 (0, 0)) (by (with_reducible repeat (first | refine blk_drewN ?_ _ | refine blk_drew ?_ | refine blk_alloc ?_ _)); exact BK109.out) hb); have n1_ := Aside0.mk (below_step (by repeat (first | (with_reducible first | exact HB.out | apply below_alloc | apply pw_below_drewN | apply below_drew1 | refine below_set ?_ GE109.out) | exact HB.out)) hb); have n2_ := Aside0.mk (hbox); have n3_ := Aside0.mk ((by rw [hg]; exact (below_size (by repeat (first | (with_reducible first | exact HB.out | apply below_alloc | apply pw_below_drewN | apply below_drew1 | refine below_set ?_ GE109.out) | exact HB.out))) : w.heap.size ≤ gb110)); have n4_ := Aside0.mk ((by rw [hg]; exact (below_size (by repeat (first | (with_reducible first | exact HB.out | apply below_alloc | apply pw_below_drewN | apply below_drew1 | refine below_set ?_ GE109.out) | exact HB.out))) : w.heap.size ≤ gb110)); have n5_ := Aside0.mk ((by rw [hg]; exact Nat.ne_of_lt (blk_lt (g := gb109) (o := .cells #[.int .i8 a0_0, .int .i8 a0_1] 71 (0, 0)) (by (with_reducible repeat (first | refine blk_drewN ?_ _ | refine blk_drew ?_ | refine blk_alloc ?_ _)); exact BK109.out)) : gb109 ≠ gb110)); have n6_ := Aside0.mk ((by rw [hg]; exact Nat.ne_of_gt (blk_lt (g := gb109) (o := .cells #[.int .i8 a0_0, .int .i8 a0_1] 71 (0, 0)) (by (with_reducible repeat (first | refine blk_drewN ?_ _ | refine blk_drew ?_ | refine blk_alloc ?_ _)); exact BK109.out)) : gb110 ≠ gb109)); clear BK109; clear HB; have BK109 := n0_; have HB := n1_; have BK110 := n2_; have GW110 := n3_; have GE110 := n4_; have NB109_110 := n5_; have NB110_109 := n6_; clear n0_ n1_ n2_ n3_ n4_ n5_ n6_; clear hb hbox hg) | ((with_reducible refine gate_dst (N := 3) rfl ?_); refine box_event ?hg (N := 3) ?hd (cs := #[.int .i8 0, .int .i8 0]) (t := 74) ?hr ?_; (case hd => rfl); (case hg => rfl); (case hr => first | (go_simp; done) | (go_simp; rfl)); intro gb111 hg w4 hbox hb; have n0_ := Aside0.mk (blk_below (g := gb109) (o := .cells #[.int .i8 a0_0, .int .i8 a0_1] 71 (0, 0)) (by (with_reducible repeat (first | refine blk_drewN ?_ _ | refine blk_drew ?_ | refine blk_alloc ?_ _)); exact BK109.out) hb); have n1_ := Aside0.mk (blk_below (g := gb110) (o := .cells #[.int .i8 0, .int .i8 0] 74 (0, 0)) (by (with_reducible repeat (first | refine blk_drewN ?_ _ | refine blk_drew ?_ | refine blk_alloc ?_ _)); exact BK110.out) hb); have n2_ := Aside0.mk (below_step (by repeat (first | (with_reducible first | exact HB.out | apply below_alloc | apply pw_below_drewN | apply below_drew1 | refine below_set ?_ GE109.out | refine below_set ?_ GE110.out) | exact HB.out)) hb); have n3_ := Aside0.mk (hbox); have n4_ := Aside0.mk ((by rw [hg]; exact (below_size (by repeat (first | (with_reducible first | exact HB.out | apply below_alloc | apply pw_below_drewN | apply below_drew1 | refine below_set ?_ GE109.out | refine below_set ?_ GE110.out) | exact HB.out))) : w.heap.size ≤ gb111)); have n5_ := Aside0.mk ((by rw [hg]; exact (below_size (by repeat (first | (with_reducible first | exact HB.out | apply below_alloc | apply pw_below_drewN | apply below_drew1 | refine below_set ?_ GE109.out | refine below_set ?_ GE110.out) | exact HB.out))) : w.heap.size ≤ gb111)); have n6_ := Aside0.mk ((by rw [hg]; exact Nat.ne_of_lt (blk_lt (g := gb109) (o := .cells #[.int .i8 a0_0, .int .i8 a0_1] 71 (0, 0)) (by (with_reducible repeat (first | refine blk_drewN ?_ _ | refine blk_drew ?_ | refine blk_alloc ?_ _)); exact BK109.out)) : gb109 ≠ gb111)); have n7_ := Aside0.mk ((by rw [hg]; exact Nat.ne_of_gt (blk_lt (g := gb109) (o := .cells #[.int .i8 a0_0, .int .i8 a0_1] 71 (0, 0)) (by (with_reducible repeat (first | refine blk_drewN ?_ _ | refine blk_drew ?_ | refine blk_alloc ?_ _)); exact BK109.out)) : gb111 ≠ gb109)); have n8_ := Aside0.mk ((by rw [hg]; exact Nat.ne_of_lt (blk_lt (g := gb110) (o := .cells #[.int .i8 0, .int .i8 0] 74 (0, 0)) (by (with_reducible repeat (first | refine blk_drewN ?_ _ | refine blk_drew ?_ | refine blk_alloc ?_ _)); exact BK110.out)) : gb110 ≠ gb111)); have n9_ := Aside0.mk ((by rw [hg]; exact Nat.ne_of_gt (blk_lt (g := gb110) (o := .cells #[.int .i8 0, .int .i8 0] 74 (0, 0)) (by (with_reducible repeat (first | refine blk_drewN ?_ _ | refine blk_drew ?_ | refine blk_alloc ?_ _)); exact BK110.out)) : gb111 ≠ gb110)); clear BK109; clear BK110; clear HB; have BK109 := n0_; have BK110 := n1_; have HB := n2_; have BK111 := n3_; have GW111 := n4_; have GE111 := n5_; have NB109_111 := n6_; have NB111_109 := n7_; have NB110_111 := n8_; have NB111_110 := n9_; clear n0_ n1_ n2_ n3_ n4_ n5_ n6_ n7_ n8_ n9_; clear hb hbox hg))
  go_loopg [4] k (fun kq v4 w' => ∃ (x4_1 : Int) (x112000_1 : Int) (x112001_1 : Int), v4 = .int .i64 x4_1 ∧ Aside0 (laws_toCell.l0 kq x4_1 a0_0 a0_1 x112000_1 x112001_1 = some (r1, r2)) ∧ Aside0 (kq ≤ k) ∧ Aside0 (w'.heap[gb109]? = some (.cells #[.int .i8 a0_0, .int .i8 a0_1] 71 (0, 0))) ∧ Aside0 (w'.heap[gb110]? = some (.cells #[.int .i8 0, .int .i8 0] 74 (0, 0))) ∧ Aside0 (w'.heap[gb111]? = some (.cells #[.int .i8 x112000_1, .int .i8 x112001_1] 74 (0, 0))) ∧ Aside0 (Below w.heap.size w w'))
  case atStart => exact ⟨(0), (0), (0), (by first | rfl | (simp; done) | (simp [*]; done) | (exact congrArg (Value.int .i64) (wrap_eq (by omega)))), H', ⟨Nat.le_refl _⟩, ⟨by (with_reducible repeat (first | refine blk_drewN ?_ _ | refine blk_drew ?_ | refine blk_alloc ?_ _)); exact BK109.out⟩, ⟨by (with_reducible repeat (first | refine blk_drewN ?_ _ | refine blk_drew ?_ | refine blk_alloc ?_ _)); exact BK110.out⟩, ⟨by (with_reducible repeat (first | refine blk_drewN ?_ _ | refine blk_drew ?_ | refine blk_alloc ?_ _)); exact BK111.out⟩, ⟨by repeat (first | (with_reducible first | exact HB.out | apply below_alloc | apply pw_below_drewN | apply below_drew1 | refine below_set ?_ GE109.out | refine below_set ?_ GE110.out | refine below_set ?_ GE111.out) | exact HB.out)⟩⟩
  case round =>
    clear H'
    try clear p2
    obtain ⟨x4_1, x112000_1, x112001_1, rfl, HA, HK1, BK109, BK110, BK111, HB⟩ := hrel
    cases gk with
    | zero => exact absurd HA.out (by simp [laws_toCell.l0])
    | succ k1 =>
      have H := HA.out
      clear HA
      simp only [laws_toCell.l0] at H
      by_cases c5 : x4_1 < 2
      · rw [if_pos c5] at H
        have c5b0 : decide (x4_1 < 2) = true := decide_eq_true c5
        clear c5
        by_cases c6 : x4_1 = 0
        · rw [if_pos c6] at H
          have Ac6 : Aside0 (x4_1 = 0) := ⟨c6⟩
          clear c6
          have ar7e : x4_1 = 0 := by first | exact (show Aside0 (x4_1 = 0) by assumption).out | exact beq_iff_eq.mp (by assumption) | omega
          have ar7n : (x4_1).toNat = 0 := by rw [ar7e]; rfl
          have ar7l : decide (0 ≤ x4_1) = true := decide_eq_true (by omega)
          have ar7L := eq_true (of_decide_eq_true ar7l)
          have ar7h : decide (x4_1 < 2) = true := decide_eq_true (by omega)
          have ar7H := eq_true (of_decide_eq_true ar7h)
          clear ar7e
          have ar8e : x4_1 = 0 := by first | exact (show Aside0 (x4_1 = 0) by assumption).out | exact beq_iff_eq.mp (by assumption) | omega
          have ar8n : (x4_1).toNat = 0 := by rw [ar8e]; rfl
          have ar8l : decide (0 ≤ x4_1) = true := decide_eq_true (by omega)
          have ar8L := eq_true (of_decide_eq_true ar8l)
          have ar8h : decide (x4_1 < 2) = true := decide_eq_true (by omega)
          have ar8H := eq_true (of_decide_eq_true ar8h)
          clear ar8e
          have H' := Aside0.mk H
          clear H
          have hnb9 := NB109_110.out
          have hnc9 := NB110_109.out
          have hnb10 := NB109_111.out
          have hnc10 := NB111_109.out
          have hcz11_0 : wr.cell? ⟨gb109, 0, none⟩ = some (.int .i8 a0_0) := (blk_cell BK109.out 0).trans rfl
          have hcz11_1 : wr.cell? ⟨gb109, 1, none⟩ = some (.int .i8 a0_1) := (blk_cell BK109.out 1).trans rfl
          have hfz11_0 := blk_frozen BK109.out 0
          have hfz11_1 := blk_frozen BK109.out 1
          have hnb12 := NB111_110.out
          have hnc12 := NB110_111.out
          have hcz13_0 : wr.cell? ⟨gb111, 0, none⟩ = some (.int .i8 x112000_1) := (blk_cell BK111.out 0).trans rfl
          have hcz13_1 : wr.cell? ⟨gb111, 1, none⟩ = some (.int .i8 x112001_1) := (blk_cell BK111.out 1).trans rfl
          have hfz13_0 := blk_frozen BK111.out 0
          have hfz13_1 := blk_frozen BK111.out 1
          go_wp2
          go_roundg k1
          case measure => have := HK1.out; omega
          case rel => exact ⟨(wrap64 (x4_1 + 1)), (a0_0), (x112001_1), (by first | rfl | (simp; done) | (simp [*]; done) | (exact congrArg (Value.int .i64) (wrap_eq (by omega)))), H', ⟨by have := HK1.out; omega⟩, ⟨by (with_reducible repeat (first | refine blk_drewN ?_ _ | refine blk_drew ?_ | refine blk_alloc ?_ _)); refine blk_far ?_ NB109_111.out _; (with_reducible repeat (first | refine blk_drewN ?_ _ | refine blk_drew ?_ | refine blk_alloc ?_ _)); exact BK109.out⟩, ⟨by (with_reducible repeat (first | refine blk_drewN ?_ _ | refine blk_drew ?_ | refine blk_alloc ?_ _)); refine blk_far ?_ NB110_111.out _; (with_reducible repeat (first | refine blk_drewN ?_ _ | refine blk_drew ?_ | refine blk_alloc ?_ _)); exact BK110.out⟩, ⟨by (with_reducible repeat (first | refine blk_drewN ?_ _ | refine blk_drew ?_ | refine blk_alloc ?_ _)); refine blk_put (cs := #[.int .i8 x112000_1, .int .i8 x112001_1]) ?_ 0 _ rfl; (with_reducible repeat (first | refine blk_drewN ?_ _ | refine blk_drew ?_ | refine blk_alloc ?_ _)); exact BK111.out⟩, ⟨by repeat (first | (with_reducible first | exact HB.out | apply below_alloc | apply pw_below_drewN | apply below_drew1 | refine below_set ?_ GE109.out | refine below_set ?_ GE110.out | refine below_set ?_ GE111.out) | exact HB.out)⟩⟩
        · rw [if_neg c6] at H
          clear c6
          by_cases c14 : x4_1 = 1
          · rw [if_pos c14] at H
            have Ac14 : Aside0 (x4_1 = 1) := ⟨c14⟩
            clear c14
            have ar15e : x4_1 = 1 := by first | exact (show Aside0 (x4_1 = 1) by assumption).out | exact beq_iff_eq.mp (by assumption) | omega
            have ar15n : (x4_1).toNat = 1 := by rw [ar15e]; rfl
            have ar15l : decide (0 ≤ x4_1) = true := decide_eq_true (by omega)
            have ar15L := eq_true (of_decide_eq_true ar15l)
            have ar15h : decide (x4_1 < 2) = true := decide_eq_true (by omega)
            have ar15H := eq_true (of_decide_eq_true ar15h)
            clear ar15e
            have ar16e : x4_1 = 1 := by first | exact (show Aside0 (x4_1 = 1) by assumption).out | exact beq_iff_eq.mp (by assumption) | omega
            have ar16n : (x4_1).toNat = 1 := by rw [ar16e]; rfl
            have ar16l : decide (0 ≤ x4_1) = true := decide_eq_true (by omega)
            have ar16L := eq_true (of_decide_eq_true ar16l)
            have ar16h : decide (x4_1 < 2) = true := decide_eq_true (by omega)
            have ar16H := eq_true (of_decide_eq_true ar16h)
            clear ar16e
            have H' := Aside0.mk H
            clear H
            have hnb17 := NB109_110.out
            have hnc17 := NB110_109.out
            have hnb18 := NB109_111.out
            have hnc18 := NB111_109.out
            have hcz19_0 : wr.cell? ⟨gb109, 0, none⟩ = some (.int .i8 a0_0) := (blk_cell BK109.out 0).trans rfl
            have hcz19_1 : wr.cell? ⟨gb109, 1, none⟩ = some (.int .i8 a0_1) := (blk_cell BK109.out 1).trans rfl
            have hfz19_0 := blk_frozen BK109.out 0
            have hfz19_1 := blk_frozen BK109.out 1
            have hnb20 := NB111_110.out
            have hnc20 := NB110_111.out
            have hcz21_0 : wr.cell? ⟨gb111, 0, none⟩ = some (.int .i8 x112000_1) := (blk_cell BK111.out 0).trans rfl
            have hcz21_1 : wr.cell? ⟨gb111, 1, none⟩ = some (.int .i8 x112001_1) := (blk_cell BK111.out 1).trans rfl
            have hfz21_0 := blk_frozen BK111.out 0
            have hfz21_1 := blk_frozen BK111.out 1
            go_wp2
            go_roundg k1
            case measure => have := HK1.out; omega
            case rel => exact ⟨(wrap64 (x4_1 + 1)), (x112000_1), (a0_1), (by first | rfl | (simp; done) | (simp [*]; done) | (exact congrArg (Value.int .i64) (wrap_eq (by omega)))), H', ⟨by have := HK1.out; omega⟩, ⟨by (with_reducible repeat (first | refine blk_drewN ?_ _ | refine blk_drew ?_ | refine blk_alloc ?_ _)); refine blk_far ?_ NB109_111.out _; (with_reducible repeat (first | refine blk_drewN ?_ _ | refine blk_drew ?_ | refine blk_alloc ?_ _)); exact BK109.out⟩, ⟨by (with_reducible repeat (first | refine blk_drewN ?_ _ | refine blk_drew ?_ | refine blk_alloc ?_ _)); refine blk_far ?_ NB110_111.out _; (with_reducible repeat (first | refine blk_drewN ?_ _ | refine blk_drew ?_ | refine blk_alloc ?_ _)); exact BK110.out⟩, ⟨by (with_reducible repeat (first | refine blk_drewN ?_ _ | refine blk_drew ?_ | refine blk_alloc ?_ _)); refine blk_put (cs := #[.int .i8 x112000_1, .int .i8 x112001_1]) ?_ 1 _ rfl; (with_reducible repeat (first | refine blk_drewN ?_ _ | refine blk_drew ?_ | refine blk_alloc ?_ _)); exact BK111.out⟩, ⟨by repeat (first | (with_reducible first | exact HB.out | apply below_alloc | apply pw_below_drewN | apply below_drew1 | refine below_set ?_ GE109.out | refine below_set ?_ GE110.out | refine below_set ?_ GE111.out) | exact HB.out)⟩⟩
          · rw [if_neg c14] at H
            exact absurd H (by simp)
      · rw [if_neg c5] at H
        have c5b0 : decide (x4_1 < 2) = false := decide_eq_false c5
        clear c5
        simp only [Option.some.injEq, Prod.mk.injEq] at H
        obtain ⟨rfl, rfl⟩ := H
        have hnb22 := NB111_109.out
        have hnc22 := NB109_111.out
        have hnb23 := NB111_110.out
        have hnc23 := NB110_111.out
        have hcz24_0 : wr.cell? ⟨gb111, 0, none⟩ = some (.int .i8 x112000_1) := (blk_cell BK111.out 0).trans rfl
        have hcz24_1 : wr.cell? ⟨gb111, 1, none⟩ = some (.int .i8 x112001_1) := (blk_cell BK111.out 1).trans rfl
        have hfz24_0 := blk_frozen BK111.out 0
        have hfz24_1 := blk_frozen BK111.out 1
        have hnb25 := NB110_109.out
        have hnc25 := NB109_110.out
        have hcz26_0 : wr.cell? ⟨gb110, 0, none⟩ = some (.int .i8 0) := (blk_cell BK110.out 0).trans rfl
        have hcz26_1 : wr.cell? ⟨gb110, 1, none⟩ = some (.int .i8 0) := (blk_cell BK110.out 1).trans rfl
        have hfz26_0 := blk_frozen BK110.out 0
        have hfz26_1 := blk_frozen BK110.out 1
        go_wp2
        refine bodyPost_ret (results_cell_row rfl _ _ gb110 74 #[.int .i8 x112000_1, .int .i8 x112001_1] (0, 0) _ rfl (by (with_reducible repeat (first | refine blk_drewN ?_ _ | refine blk_drew ?_ | refine blk_alloc ?_ _)); refine blk_put (cs := #[.int .i8 x112000_1, .int .i8 0]) ?_ 1 _ rfl; (with_reducible repeat (first | refine blk_drewN ?_ _ | refine blk_drew ?_ | refine blk_alloc ?_ _)); refine blk_put (cs := #[.int .i8 0, .int .i8 0]) ?_ 0 _ rfl; (with_reducible repeat (first | refine blk_drewN ?_ _ | refine blk_drew ?_ | refine blk_alloc ?_ _)); exact BK110.out) Try.underlying74 rfl (by kernel_rfl)) rfl ?_
        exact ⟨by first | rfl | (simp [errW_none, errW_some] <;> rfl) | (simp [*, errW_none, errW_some] <;> rfl), by repeat (first | (with_reducible first | exact HB.out | apply below_alloc | apply pw_below_drewN | apply below_drew1 | refine below_set ?_ GE109.out | refine below_set ?_ GE110.out | refine below_set ?_ GE111.out) | exact HB.out)⟩

end Go.Proofs.Ytffnfpnajkgnaaa.PFnExactValidPushes
