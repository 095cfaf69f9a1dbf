-- WRITTEN by xprint.py, a program of this session's. Not trusted: Lean checks it.
import Derived.Test.YtffnfpnajkgnaaaPFnExactLaterPushesx0
namespace Go.Proofs.Ytffnfpnajkgnaaa.PFnExactLaterPushes
open Go.RowKit Go.Proofs.YtffnfpnajkgnaaaW.PrintWords Go.Proofs.YtffnfpnajkgnaaaW.PrintLast Go.Proofs.YtffnfpnajkgnaaaW.PrintMore Go.Proofs.YtffnfpnajkgnaaaX
attribute [local go_sem] max2_int min2_int max_two min_two max_three min_three max_four min_four   -- for this text's walks alone
set_option linter.unusedVariables false
set_option linter.unusedSimpArgs false

/-! ### laws_toCell: function 53 -/
def laws_toCell.l0 : Nat → Int → Int → Int → Int → Int → Option (Int × Int)
  | 0, _, _, _, _, _ => none
  | k + 1, x4, x140000, x140001, x142000, x142001 => if x4 < 2 then (if x4 = 0 then (laws_toCell.l0 k (wrap64 (x4 + 1)) x140000 x140001 x140000 x142001) else (if x4 = 1 then (laws_toCell.l0 k (wrap64 (x4 + 1)) x140000 x140001 x142000 x140001) else (none))) else (some (x142000, x142001))
def laws_toCell.f (k : Nat) (a0_0 : Int) (a0_1 : Int) : Option (Int × Int) := laws_toCell.l0 k 0 a0_0 a0_1 0 0
theorem laws_toCell.mono_l : ∀ k, (∀ y0 y1 y2 y3 y4, LeO (laws_toCell.l0 k y0 y1 y2 y3 y4) (laws_toCell.l0 (k + 1) y0 y1 y2 y3 y4))
  | 0 => fun _ _ _ _ _ r h => by simp [laws_toCell.l0] at h
  | k + 1 => by
    have ih0 := laws_toCell.mono_l k
    · intro y0 y1 y2 y3 y4
      unfold laws_toCell.l0
      repeat' first
      | (with_reducible exact ih0 _ _ _ _ _)
      | (with_reducible exact LeO.refl _)
      | (with_reducible exact LeO.none _)
      | (with_reducible refine LeO.ite ?_ ?_)
      | (with_reducible refine LeO.bind ?_ (fun _ => ?_))
      | exact ih0 _ _ _ _ _
      | exact LeO.none _
      | refine LeO.ite ?_ ?_
      | refine LeO.bind ?_ (fun _ => ?_)
theorem laws_toCell.mono : ∀ a0 a1 k, LeO (laws_toCell.f k a0 a1) (laws_toCell.f (k + 1) a0 a1) := by
  intro a0 a1 k
  have ih0 := laws_toCell.mono_l k
  unfold laws_toCell.f
  repeat' first
      | (with_reducible exact ih0 _ _ _ _ _)
      | (with_reducible exact LeO.refl _)
      | (with_reducible exact LeO.none _)
      | (with_reducible refine LeO.ite ?_ ?_)
      | (with_reducible refine LeO.bind ?_ (fun _ => ?_))
      | exact ih0 _ _ _ _ _
      | exact LeO.none _
      | refine LeO.ite ?_ ?_
      | refine LeO.bind ?_ (fun _ => ?_)
set_option maxHeartbeats 8000000 in
set_option maxRecDepth 100000 in
theorem laws_toCell.calls (k : Nat) (a0_0 : Int) (a0_1 : Int) (r1 : Int) (r2 : Int) (w : World) (h : laws_toCell.f k a0_0 a0_1 = some (r1, r2)) :
    Calls Try.prog 53 #[.agg #[.int .i8 a0_0, .int .i8 a0_1]] w fun e w' => e = .returned (.agg #[.int .i8 r1, .int .i8 r2]) ∧ Below w.heap.size w w' := by
  have hu71 := Try.underlying71
  have hu74 := Try.underlying74
  have HB := Aside0.mk (Below.refl w.heap.size w)
  have H : (laws_toCell.l0 k 0 a0_0 a0_1 0 0) = some (r1, r2) := h
  clear h
  have H' := Aside0.mk H
  clear H
  go_enter Try.func53, Try.ntmps53
  go_wp2_with (first | ((with_reducible refine gate_dst (N := 1) rfl ?_); refine box_event ?hg (N := 1) ?hd (cs := #[.int .i8 a0_0, .int .i8 a0_1]) (t := 71) ?hr ?_; (case hd => rfl); (case hg => rfl); (case hr => first | (go_simp; done) | (go_simp; rfl)); intro gb139 hg w2 hbox hb; have n0_ := Aside0.mk (below_step (by repeat (first | (with_reducible first | exact HB.out | apply below_alloc | apply pw_below_drewN | apply below_drew1) | exact HB.out)) hb); have n1_ := Aside0.mk (hbox); have n2_ := Aside0.mk ((by rw [hg]; exact (below_size (by repeat (first | (with_reducible first | exact HB.out | apply below_alloc | apply pw_below_drewN | apply below_drew1) | exact HB.out))) : w.heap.size ≤ gb139)); have n3_ := Aside0.mk ((by rw [hg]; exact (below_size (by repeat (first | (with_reducible first | exact HB.out | apply below_alloc | apply pw_below_drewN | apply below_drew1) | exact HB.out))) : w.heap.size ≤ gb139)); clear HB; have HB := n0_; have BK139 := n1_; have GW139 := n2_; have GE139 := n3_; clear n0_ n1_ n2_ n3_; clear hb hbox hg) | ((with_reducible refine gate_dst (N := 2) rfl ?_); refine box_event ?hg (N := 2) ?hd (cs := #[.int .i8 0, .int .i8 0]) (t := 74) ?hr ?_; (case hd => rfl); (case hg => rfl); (case hr => first | (go_simp; done) | (go_simp; rfl)); intro gb140 hg w3 hbox hb; have n0_ := Aside0.mk (blk_below (g := gb139) (o := .cells #[.int .i8 a0_0, .int .i8 a0_1] 71 (0, 0)) (by (with_reducible repeat (first | refine blk_drewN ?_ _ | refine blk_drew ?_ | refine blk_alloc ?_ _)); exact BK139.out) hb); have n1_ := Aside0.mk (below_step (by repeat (first | (with_reducible first | exact HB.out | apply below_alloc | apply pw_below_drewN | apply below_drew1 | refine below_set ?_ GE139.out) | exact HB.out)) hb); have n2_ := Aside0.mk (hbox); have n3_ := Aside0.mk ((by rw [hg]; exact (below_size (by repeat (first | (with_reducible first | exact HB.out | apply below_alloc | apply pw_below_drewN | apply below_drew1 | refine below_set ?_ GE139.out) | exact HB.out))) : w.heap.size ≤ gb140)); have n4_ := Aside0.mk ((by rw [hg]; exact (below_size (by repeat (first | (with_reducible first | exact HB.out | apply below_alloc | apply pw_below_drewN | apply below_drew1 | refine below_set ?_ GE139.out) | exact HB.out))) : w.heap.size ≤ gb140)); have n5_ := Aside0.mk ((by rw [hg]; exact Nat.ne_of_lt (blk_lt (g := gb139) (o := .cells #[.int .i8 a0_0, .int .i8 a0_1] 71 (0, 0)) (by (with_reducible repeat (first | refine blk_drewN ?_ _ | refine blk_drew ?_ | refine blk_alloc ?_ _)); exact BK139.out)) : gb139 ≠ gb140)); have n6_ := Aside0.mk ((by rw [hg]; exact Nat.ne_of_gt (blk_lt (g := gb139) (o := .cells #[.int .i8 a0_0, .int .i8 a0_1] 71 (0, 0)) (by (with_reducible repeat (first | refine blk_drewN ?_ _ | refine blk_drew ?_ | refine blk_alloc ?_ _)); exact BK139.out)) : gb140 ≠ gb139)); clear BK139; clear HB; have BK139 := n0_; have HB := n1_; have BK140 := n2_; have GW140 := n3_; have GE140 := n4_; have NB139_140 := n5_; have NB140_139 := n6_; clear n0_ n1_ n2_ n3_ n4_ n5_ n6_; clear hb hbox hg) | ((with_reducible refine gate_dst (N := 3) rfl ?_); refine box_event ?hg (N := 3) ?hd (cs := #[.int .i8 0, .int .i8 0]) (t := 74) ?hr ?_; (case hd => rfl); (case hg => rfl); (case hr => first | (go_simp; done) | (go_simp; rfl)); intro gb141 hg w4 hbox hb; have n0_ := Aside0.mk (blk_below (g := gb139) (o := .cells #[.int .i8 a0_0, .int .i8 a0_1] 71 (0, 0)) (by (with_reducible repeat (first | refine blk_drewN ?_ _ | refine blk_drew ?_ | refine blk_alloc ?_ _)); exact BK139.out) hb); have n1_ := Aside0.mk (blk_below (g := gb140) (o := .cells #[.int .i8 0, .int .i8 0] 74 (0, 0)) (by (with_reducible repeat (first | refine blk_drewN ?_ _ | refine blk_drew ?_ | refine blk_alloc ?_ _)); exact BK140.out) hb); have n2_ := Aside0.mk (below_step (by repeat (first | (with_reducible first | exact HB.out | apply below_alloc | apply pw_below_drewN | apply below_drew1 | refine below_set ?_ GE139.out | refine below_set ?_ GE140.out) | exact HB.out)) hb); have n3_ := Aside0.mk (hbox); have n4_ := Aside0.mk ((by rw [hg]; exact (below_size (by repeat (first | (with_reducible first | exact HB.out | apply below_alloc | apply pw_below_drewN | apply below_drew1 | refine below_set ?_ GE139.out | refine below_set ?_ GE140.out) | exact HB.out))) : w.heap.size ≤ gb141)); have n5_ := Aside0.mk ((by rw [hg]; exact (below_size (by repeat (first | (with_reducible first | exact HB.out | apply below_alloc | apply pw_below_drewN | apply below_drew1 | refine below_set ?_ GE139.out | refine below_set ?_ GE140.out) | exact HB.out))) : w.heap.size ≤ gb141)); have n6_ := Aside0.mk ((by rw [hg]; exact Nat.ne_of_lt (blk_lt (g := gb139) (o := .cells #[.int .i8 a0_0, .int .i8 a0_1] 71 (0, 0)) (by (with_reducible repeat (first | refine blk_drewN ?_ _ | refine blk_drew ?_ | refine blk_alloc ?_ _)); exact BK139.out)) : gb139 ≠ gb141)); have n7_ := Aside0.mk ((by rw [hg]; exact Nat.ne_of_gt (blk_lt (g := gb139) (o := .cells #[.int .i8 a0_0, .int .i8 a0_1] 71 (0, 0)) (by (with_reducible repeat (first | refine blk_drewN ?_ _ | refine blk_drew ?_ | refine blk_alloc ?_ _)); exact BK139.out)) : gb141 ≠ gb139)); have n8_ := Aside0.mk ((by rw [hg]; exact Nat.ne_of_lt (blk_lt (g := gb140) (o := .cells #[.int .i8 0, .int .i8 0] 74 (0, 0)) (by (with_reducible repeat (first | refine blk_drewN ?_ _ | refine blk_drew ?_ | refine blk_alloc ?_ _)); exact BK140.out)) : gb140 ≠ gb141)); have n9_ := Aside0.mk ((by rw [hg]; exact Nat.ne_of_gt (blk_lt (g := gb140) (o := .cells #[.int .i8 0, .int .i8 0] 74 (0, 0)) (by (with_reducible repeat (first | refine blk_drewN ?_ _ | refine blk_drew ?_ | refine blk_alloc ?_ _)); exact BK140.out)) : gb141 ≠ gb140)); clear BK139; clear BK140; clear HB; have BK139 := n0_; have BK140 := n1_; have HB := n2_; have BK141 := n3_; have GW141 := n4_; have GE141 := n5_; have NB139_141 := n6_; have NB141_139 := n7_; have NB140_141 := n8_; have NB141_140 := n9_; clear n0_ n1_ n2_ n3_ n4_ n5_ n6_ n7_ n8_ n9_; clear hb hbox hg))
  go_loopg [4] k (fun kq v4 w' => ∃ (x4_1 : Int) (x142000_1 : Int) (x142001_1 : Int), v4 = .int .i64 x4_1 ∧ Aside0 (laws_toCell.l0 kq x4_1 a0_0 a0_1 x142000_1 x142001_1 = some (r1, r2)) ∧ Aside0 (kq ≤ k) ∧ Aside0 (w'.heap[gb139]? = some (.cells #[.int .i8 a0_0, .int .i8 a0_1] 71 (0, 0))) ∧ Aside0 (w'.heap[gb140]? = some (.cells #[.int .i8 0, .int .i8 0] 74 (0, 0))) ∧ Aside0 (w'.heap[gb141]? = some (.cells #[.int .i8 x142000_1, .int .i8 x142001_1] 74 (0, 0))) ∧ Aside0 (Below w.heap.size w w'))
  case atStart => exact ⟨(0), (0), (0), (by first | rfl | (simp; done) | (simp [*]; done) | (exact congrArg (Value.int .i64) (wrap_eq (by omega)))), H', ⟨Nat.le_refl _⟩, ⟨by (with_reducible repeat (first | refine blk_drewN ?_ _ | refine blk_drew ?_ | refine blk_alloc ?_ _)); exact BK139.out⟩, ⟨by (with_reducible repeat (first | refine blk_drewN ?_ _ | refine blk_drew ?_ | refine blk_alloc ?_ _)); exact BK140.out⟩, ⟨by (with_reducible repeat (first | refine blk_drewN ?_ _ | refine blk_drew ?_ | refine blk_alloc ?_ _)); exact BK141.out⟩, ⟨by repeat (first | (with_reducible first | exact HB.out | apply below_alloc | apply pw_below_drewN | apply below_drew1 | refine below_set ?_ GE139.out | refine below_set ?_ GE140.out | refine below_set ?_ GE141.out) | exact HB.out)⟩⟩
  case round =>
    clear H'
    try clear p2
    obtain ⟨x4_1, x142000_1, x142001_1, rfl, HA, HK1, BK139, BK140, BK141, HB⟩ := hrel
    cases gk with
    | zero => exact absurd HA.out (by simp [laws_toCell.l0])
    | succ k1 =>
      have H := HA.out
      clear HA
      simp only [laws_toCell.l0] at H
      by_cases c5 : x4_1 < 2
      · rw [if_pos c5] at H
        have c5b0 : decide (x4_1 < 2) = true := decide_eq_true c5
        clear c5
        by_cases c6 : x4_1 = 0
        · rw [if_pos c6] at H
          have Ac6 : Aside0 (x4_1 = 0) := ⟨c6⟩
          clear c6
          have ar7e : x4_1 = 0 := by first | exact (show Aside0 (x4_1 = 0) by assumption).out | exact beq_iff_eq.mp (by assumption) | omega
          have ar7n : (x4_1).toNat = 0 := by rw [ar7e]; rfl
          have ar7l : decide (0 ≤ x4_1) = true := decide_eq_true (by omega)
          have ar7L := eq_true (of_decide_eq_true ar7l)
          have ar7h : decide (x4_1 < 2) = true := decide_eq_true (by omega)
          have ar7H := eq_true (of_decide_eq_true ar7h)
          clear ar7e
          have ar8e : x4_1 = 0 := by first | exact (show Aside0 (x4_1 = 0) by assumption).out | exact beq_iff_eq.mp (by assumption) | omega
          have ar8n : (x4_1).toNat = 0 := by rw [ar8e]; rfl
          have ar8l : decide (0 ≤ x4_1) = true := decide_eq_true (by omega)
          have ar8L := eq_true (of_decide_eq_true ar8l)
          have ar8h : decide (x4_1 < 2) = true := decide_eq_true (by omega)
          have ar8H := eq_true (of_decide_eq_true ar8h)
          clear ar8e
          have H' := Aside0.mk H
          clear H
          have hnb9 := NB139_140.out
          have hnc9 := NB140_139.out
          have hnb10 := NB139_141.out
          have hnc10 := NB141_139.out
          have hcz11_0 : wr.cell? ⟨gb139, 0, none⟩ = some (.int .i8 a0_0) := (blk_cell BK139.out 0).trans rfl
          have hcz11_1 : wr.cell? ⟨gb139, 1, none⟩ = some (.int .i8 a0_1) := (blk_cell BK139.out 1).trans rfl
          have hfz11_0 := blk_frozen BK139.out 0
          have hfz11_1 := blk_frozen BK139.out 1
          have hnb12 := NB141_140.out
          have hnc12 := NB140_141.out
          have hcz13_0 : wr.cell? ⟨gb141, 0, none⟩ = some (.int .i8 x142000_1) := (blk_cell BK141.out 0).trans rfl
          have hcz13_1 : wr.cell? ⟨gb141, 1, none⟩ = some (.int .i8 x142001_1) := (blk_cell BK141.out 1).trans rfl
          have hfz13_0 := blk_frozen BK141.out 0
          have hfz13_1 := blk_frozen BK141.out 1
          go_wp2
          go_roundg k1
          case measure => have := HK1.out; omega
          case rel => exact ⟨(wrap64 (x4_1 + 1)), (a0_0), (x142001_1), (by first | rfl | (simp; done) | (simp [*]; done) | (exact congrArg (Value.int .i64) (wrap_eq (by omega)))), H', ⟨by have := HK1.out; omega⟩, ⟨by (with_reducible repeat (first | refine blk_drewN ?_ _ | refine blk_drew ?_ | refine blk_alloc ?_ _)); refine blk_far ?_ NB139_141.out _; (with_reducible repeat (first | refine blk_drewN ?_ _ | refine blk_drew ?_ | refine blk_alloc ?_ _)); exact BK139.out⟩, ⟨by (with_reducible repeat (first | refine blk_drewN ?_ _ | refine blk_drew ?_ | refine blk_alloc ?_ _)); refine blk_far ?_ NB140_141.out _; (with_reducible repeat (first | refine blk_drewN ?_ _ | refine blk_drew ?_ | refine blk_alloc ?_ _)); exact BK140.out⟩, ⟨by (with_reducible repeat (first | refine blk_drewN ?_ _ | refine blk_drew ?_ | refine blk_alloc ?_ _)); refine blk_put (cs := #[.int .i8 x142000_1, .int .i8 x142001_1]) ?_ 0 _ rfl; (with_reducible repeat (first | refine blk_drewN ?_ _ | refine blk_drew ?_ | refine blk_alloc ?_ _)); exact BK141.out⟩, ⟨by repeat (first | (with_reducible first | exact HB.out | apply below_alloc | apply pw_below_drewN | apply below_drew1 | refine below_set ?_ GE139.out | refine below_set ?_ GE140.out | refine below_set ?_ GE141.out) | exact HB.out)⟩⟩
        · rw [if_neg c6] at H
          clear c6
          by_cases c14 : x4_1 = 1
          · rw [if_pos c14] at H
            have Ac14 : Aside0 (x4_1 = 1) := ⟨c14⟩
            clear c14
            have ar15e : x4_1 = 1 := by first | exact (show Aside0 (x4_1 = 1) by assumption).out | exact beq_iff_eq.mp (by assumption) | omega
            have ar15n : (x4_1).toNat = 1 := by rw [ar15e]; rfl
            have ar15l : decide (0 ≤ x4_1) = true := decide_eq_true (by omega)
            have ar15L := eq_true (of_decide_eq_true ar15l)
            have ar15h : decide (x4_1 < 2) = true := decide_eq_true (by omega)
            have ar15H := eq_true (of_decide_eq_true ar15h)
            clear ar15e
            have ar16e : x4_1 = 1 := by first | exact (show Aside0 (x4_1 = 1) by assumption).out | exact beq_iff_eq.mp (by assumption) | omega
            have ar16n : (x4_1).toNat = 1 := by rw [ar16e]; rfl
            have ar16l : decide (0 ≤ x4_1) = true := decide_eq_true (by omega)
            have ar16L := eq_true (of_decide_eq_true ar16l)
            have ar16h : decide (x4_1 < 2) = true := decide_eq_true (by omega)
            have ar16H := eq_true (of_decide_eq_true ar16h)
            clear ar16e
            have H' := Aside0.mk H
            clear H
            have hnb17 := NB139_140.out
            have hnc17 := NB140_139.out
            have hnb18 := NB139_141.out
            have hnc18 := NB141_139.out
            have hcz19_0 : wr.cell? ⟨gb139, 0, none⟩ = some (.int .i8 a0_0) := (blk_cell BK139.out 0).trans rfl
            have hcz19_1 : wr.cell? ⟨gb139, 1, none⟩ = some (.int .i8 a0_1) := (blk_cell BK139.out 1).trans rfl
            have hfz19_0 := blk_frozen BK139.out 0
            have hfz19_1 := blk_frozen BK139.out 1
            have hnb20 := NB141_140.out
            have hnc20 := NB140_141.out
            have hcz21_0 : wr.cell? ⟨gb141, 0, none⟩ = some (.int .i8 x142000_1) := (blk_cell BK141.out 0).trans rfl
            have hcz21_1 : wr.cell? ⟨gb141, 1, none⟩ = some (.int .i8 x142001_1) := (blk_cell BK141.out 1).trans rfl
            have hfz21_0 := blk_frozen BK141.out 0
            have hfz21_1 := blk_frozen BK141.out 1
            go_wp2
            go_roundg k1
            case measure => have := HK1.out; omega
            case rel => exact ⟨(wrap64 (x4_1 + 1)), (x142000_1), (a0_1), (by first | rfl | (simp; done) | (simp [*]; done) | (exact congrArg (Value.int .i64) (wrap_eq (by omega)))), H', ⟨by have := HK1.out; omega⟩, ⟨by (with_reducible repeat (first | refine blk_drewN ?_ _ | refine blk_drew ?_ | refine blk_alloc ?_ _)); refine blk_far ?_ NB139_141.out _; (with_reducible repeat (first | refine blk_drewN ?_ _ | refine blk_drew ?_ | refine blk_alloc ?_ _)); exact BK139.out⟩, ⟨by (with_reducible repeat (first | refine blk_drewN ?_ _ | refine blk_drew ?_ | refine blk_alloc ?_ _)); refine blk_far ?_ NB140_141.out _; (with_reducible repeat (first | refine blk_drewN ?_ _ | refine blk_drew ?_ | refine blk_alloc ?_ _)); exact BK140.out⟩, ⟨by (with_reducible repeat (first | refine blk_drewN ?_ _ | refine blk_drew ?_ | refine blk_alloc ?_ _)); refine blk_put (cs := #[.int .i8 x142000_1, .int .i8 x142001_1]) ?_ 1 _ rfl; (with_reducible repeat (first | refine blk_drewN ?_ _ | refine blk_drew ?_ | refine blk_alloc ?_ _)); exact BK141.out⟩, ⟨by repeat (first | (with_reducible first | exact HB.out | apply below_alloc | apply pw_below_drewN | apply below_drew1 | refine below_set ?_ GE139.out | refine below_set ?_ GE140.out | refine below_set ?_ GE141.out) | exact HB.out)⟩⟩
          · rw [if_neg c14] at H
            exact absurd H (by simp)
      · rw [if_neg c5] at H
        have c5b0 : decide (x4_1 < 2) = false := decide_eq_false c5
        clear c5
        simp only [Option.some.injEq, Prod.mk.injEq] at H
        obtain ⟨rfl, rfl⟩ := H
        have hnb22 := NB141_139.out
        have hnc22 := NB139_141.out
        have hnb23 := NB141_140.out
        have hnc23 := NB140_141.out
        have hcz24_0 : wr.cell? ⟨gb141, 0, none⟩ = some (.int .i8 x142000_1) := (blk_cell BK141.out 0).trans rfl
        have hcz24_1 : wr.cell? ⟨gb141, 1, none⟩ = some (.int .i8 x142001_1) := (blk_cell BK141.out 1).trans rfl
        have hfz24_0 := blk_frozen BK141.out 0
        have hfz24_1 := blk_frozen BK141.out 1
        have hnb25 := NB140_139.out
        have hnc25 := NB139_140.out
        have hcz26_0 : wr.cell? ⟨gb140, 0, none⟩ = some (.int .i8 0) := (blk_cell BK140.out 0).trans rfl
        have hcz26_1 : wr.cell? ⟨gb140, 1, none⟩ = some (.int .i8 0) := (blk_cell BK140.out 1).trans rfl
        have hfz26_0 := blk_frozen BK140.out 0
        have hfz26_1 := blk_frozen BK140.out 1
        go_wp2
        refine bodyPost_ret (results_cell_row rfl _ _ gb140 74 #[.int .i8 x142000_1, .int .i8 x142001_1] (0, 0) _ rfl (by (with_reducible repeat (first | refine blk_drewN ?_ _ | refine blk_drew ?_ | refine blk_alloc ?_ _)); refine blk_put (cs := #[.int .i8 x142000_1, .int .i8 0]) ?_ 1 _ rfl; (with_reducible repeat (first | refine blk_drewN ?_ _ | refine blk_drew ?_ | refine blk_alloc ?_ _)); refine blk_put (cs := #[.int .i8 0, .int .i8 0]) ?_ 0 _ rfl; (with_reducible repeat (first | refine blk_drewN ?_ _ | refine blk_drew ?_ | refine blk_alloc ?_ _)); exact BK140.out) Try.underlying74 rfl (by kernel_rfl)) rfl ?_
        exact ⟨by first | rfl | (simp [errW_none, errW_some] <;> rfl) | (simp [*, errW_none, errW_some] <;> rfl), by repeat (first | (with_reducible first | exact HB.out | apply below_alloc | apply pw_below_drewN | apply below_drew1 | refine below_set ?_ GE139.out | refine below_set ?_ GE140.out | refine below_set ?_ GE141.out) | exact HB.out)⟩

/-! ### laws_toPush: function 97 -/
def laws_toPush.f (k : Nat) (a0_0 : Int) (a0_1 : Int) (a0_2 : Int) (a0_3 : Int) : Option (Int × Int × Int × Int) := (laws_toCell.f k a0_0 a0_1).bind fun bt145 => (some (bt145.1, bt145.2, a0_2, a0_3))
theorem laws_toPush.mono : ∀ a0 a1 a2 a3 k, LeO (laws_toPush.f k a0 a1 a2 a3) (laws_toPush.f (k + 1) a0 a1 a2 a3) := by
  intro a0 a1 a2 a3 k
  unfold laws_toPush.f
  repeat' first
      | (with_reducible exact laws_toCell.mono _ _ _)
      | (with_reducible exact LeO.refl _)
      | (with_reducible exact LeO.none _)
      | (with_reducible refine LeO.ite ?_ ?_)
      | (with_reducible refine LeO.bind ?_ (fun _ => ?_))
      | exact laws_toCell.mono _ _ _
      | exact LeO.none _
      | refine LeO.ite ?_ ?_
      | refine LeO.bind ?_ (fun _ => ?_)
set_option maxHeartbeats 8000000 in
set_option maxRecDepth 100000 in
theorem laws_toPush.calls (k : Nat) (a0_0 : Int) (a0_1 : Int) (a0_2 : Int) (a0_3 : Int) (r1 : Int) (r2 : Int) (r3 : Int) (r4 : Int) (w : World) (h : laws_toPush.f k a0_0 a0_1 a0_2 a0_3 = some (r1, r2, r3, r4)) :
    Calls Try.prog 97 #[.agg #[.int .i8 a0_0, .int .i8 a0_1, .int .i8 a0_2, .int .i16 a0_3]] w fun e w' => e = .returned (.agg #[.int .i8 r1, .int .i8 r2, .int .i8 r3, .int .i16 r4]) ∧ Below w.heap.size w w' := by
  have hu129 := Try.underlying129
  have hu120 := Try.underlying120
  have hu71 := Try.underlying71
  have hu74 := Try.underlying74
  have HB := Aside0.mk (Below.refl w.heap.size w)
  have H : ((laws_toCell.f k a0_0 a0_1).bind fun bt145 => (some (bt145.1, bt145.2, a0_2, a0_3))) = some (r1, r2, r3, r4) := h
  clear h
  replace H := Option.bind_eq_some_iff.mp H
  obtain ⟨⟨t145, t146⟩, A20, H⟩ := H
  replace H : (some (t145, t146, a0_2, a0_3)) = some (r1, r2, r3, r4) := H
  have A2 := Aside0.mk A20
  clear A20
  simp only [Option.some.injEq, Prod.mk.injEq] at H
  obtain ⟨rfl, rfl, rfl, rfl⟩ := H
  go_enter Try.func97, Try.ntmps97
  go_wp2_with (first | ((with_reducible refine gate_dst (N := 1) rfl ?_); refine box_event ?hg (N := 1) ?hd (cs := #[.int .i8 a0_0, .int .i8 a0_1, .int .i8 a0_2, .int .i16 a0_3]) (t := 129) ?hr ?_; (case hd => rfl); (case hg => rfl); (case hr => first | (go_simp; done) | (go_simp; rfl)); intro gb142 hg w3 hbox hb; have n0_ := Aside0.mk (below_step (by repeat (first | (with_reducible first | exact HB.out | apply below_alloc | apply pw_below_drewN | apply below_drew1) | exact HB.out)) hb); have n1_ := Aside0.mk (hbox); have n2_ := Aside0.mk ((by rw [hg]; exact (below_size (by repeat (first | (with_reducible first | exact HB.out | apply below_alloc | apply pw_below_drewN | apply below_drew1) | exact HB.out))) : w.heap.size ≤ gb142)); have n3_ := Aside0.mk ((by rw [hg]; exact (below_size (by repeat (first | (with_reducible first | exact HB.out | apply below_alloc | apply pw_below_drewN | apply below_drew1) | exact HB.out))) : w.heap.size ≤ gb142)); clear HB; have HB := n0_; have BK142 := n1_; have GW142 := n2_; have GE142 := n3_; clear n0_ n1_ n2_ n3_; clear hb hbox hg) | ((with_reducible refine gate_dst (N := 2) rfl ?_); refine box_event ?hg (N := 2) ?hd (cs := #[.int .i8 0, .int .i8 0, .int .i8 0, .int .i16 0]) (t := 120) ?hr ?_; (case hd => rfl); (case hg => rfl); (case hr => first | (go_simp; done) | (go_simp; rfl)); intro gb143 hg w4 hbox hb; have n0_ := Aside0.mk (blk_below (g := gb142) (o := .cells #[.int .i8 a0_0, .int .i8 a0_1, .int .i8 a0_2, .int .i16 a0_3] 129 (0, 0)) (by (with_reducible repeat (first | refine blk_drewN ?_ _ | refine blk_drew ?_ | refine blk_alloc ?_ _)); exact BK142.out) hb); have n1_ := Aside0.mk (below_step (by repeat (first | (with_reducible first | exact HB.out | apply below_alloc | apply pw_below_drewN | apply below_drew1 | refine below_set ?_ GE142.out) | exact HB.out)) hb); have n2_ := Aside0.mk (hbox); have n3_ := Aside0.mk ((by rw [hg]; exact (below_size (by repeat (first | (with_reducible first | exact HB.out | apply below_alloc | apply pw_below_drewN | apply below_drew1 | refine below_set ?_ GE142.out) | exact HB.out))) : w.heap.size ≤ gb143)); have n4_ := Aside0.mk ((by rw [hg]; exact (below_size (by repeat (first | (with_reducible first | exact HB.out | apply below_alloc | apply pw_below_drewN | apply below_drew1 | refine below_set ?_ GE142.out) | exact HB.out))) : w.heap.size ≤ gb143)); have n5_ := Aside0.mk ((by rw [hg]; exact Nat.ne_of_lt (blk_lt (g := gb142) (o := .cells #[.int .i8 a0_0, .int .i8 a0_1, .int .i8 a0_2, .int .i16 a0_3] 129 (0, 0)) (by (with_reducible repeat (first | refine blk_drewN ?_ _ | refine blk_drew ?_ | refine blk_alloc ?_ _)); exact BK142.out)) : gb142 ≠ gb143)); have n6_ := Aside0.mk ((by rw [hg]; exact Nat.ne_of_gt (blk_lt (g := gb142) (o := .cells #[.int .i8 a0_0, .int .i8 a0_1, .int .i8 a0_2, .int .i16 a0_3] 129 (0, 0)) (by (with_reducible repeat (first | refine blk_drewN ?_ _ | refine blk_drew ?_ | refine blk_alloc ?_ _)); exact BK142.out)) : gb143 ≠ gb142)); clear BK142; clear HB; have BK142 := n0_; have HB := n1_; have BK143 := n2_; have GW143 := n3_; have GE143 := n4_; have NB142_143 := n5_; have NB143_142 := n6_; clear n0_ n1_ n2_ n3_ n4_ n5_ n6_; clear hb hbox hg) | ((with_reducible refine gate_dst (N := 3) rfl ?_); refine box_event ?hg (N := 3) ?hd (cs := #[.int .i8 0, .int .i8 0, .int .i8 0, .int .i16 0]) (t := 120) ?hr ?_; (case hd => rfl); (case hg => rfl); (case hr => first | (go_simp; done) | (go_simp; rfl)); intro gb144 hg w5 hbox hb; have n0_ := Aside0.mk (blk_below (g := gb142) (o := .cells #[.int .i8 a0_0, .int .i8 a0_1, .int .i8 a0_2, .int .i16 a0_3] 129 (0, 0)) (by (with_reducible repeat (first | refine blk_drewN ?_ _ | refine blk_drew ?_ | refine blk_alloc ?_ _)); exact BK142.out) hb); have n1_ := Aside0.mk (blk_below (g := gb143) (o := .cells #[.int .i8 0, .int .i8 0, .int .i8 0, .int .i16 0] 120 (0, 0)) (by (with_reducible repeat (first | refine blk_drewN ?_ _ | refine blk_drew ?_ | refine blk_alloc ?_ _)); exact BK143.out) hb); have n2_ := Aside0.mk (below_step (by repeat (first | (with_reducible first | exact HB.out | apply below_alloc | apply pw_below_drewN | apply below_drew1 | refine below_set ?_ GE142.out | refine below_set ?_ GE143.out) | exact HB.out)) hb); have n3_ := Aside0.mk (hbox); have n4_ := Aside0.mk ((by rw [hg]; exact (below_size (by repeat (first | (with_reducible first | exact HB.out | apply below_alloc | apply pw_below_drewN | apply below_drew1 | refine below_set ?_ GE142.out | refine below_set ?_ GE143.out) | exact HB.out))) : w.heap.size ≤ gb144)); have n5_ := Aside0.mk ((by rw [hg]; exact (below_size (by repeat (first | (with_reducible first | exact HB.out | apply below_alloc | apply pw_below_drewN | apply below_drew1 | refine below_set ?_ GE142.out | refine below_set ?_ GE143.out) | exact HB.out))) : w.heap.size ≤ gb144)); have n6_ := Aside0.mk ((by rw [hg]; exact Nat.ne_of_lt (blk_lt (g := gb142) (o := .cells #[.int .i8 a0_0, .int .i8 a0_1, .int .i8 a0_2, .int .i16 a0_3] 129 (0, 0)) (by (with_reducible repeat (first | refine blk_drewN ?_ _ | refine blk_drew ?_ | refine blk_alloc ?_ _)); exact BK142.out)) : gb142 ≠ gb144)); have n7_ := Aside0.mk ((by rw [hg]; exact Nat.ne_of_gt (blk_lt (g := gb142) (o := .cells #[.int .i8 a0_0, .int .i8 a0_1, .int .i8 a0_2, .int .i16 a0_3] 129 (0, 0)) (by (with_reducible repeat (first | refine blk_drewN ?_ _ | refine blk_drew ?_ | refine blk_alloc ?_ _)); exact BK142.out)) : gb144 ≠ gb142)); have n8_ := Aside0.mk ((by rw [hg]; exact Nat.ne_of_lt (blk_lt (g := gb143) (o := .cells #[.int .i8 0, .int .i8 0, .int .i8 0, .int .i16 0] 120 (0, 0)) (by (with_reducible repeat (first | refine blk_drewN ?_ _ | refine blk_drew ?_ | refine blk_alloc ?_ _)); exact BK143.out)) : gb143 ≠ gb144)); have n9_ := Aside0.mk ((by rw [hg]; exact Nat.ne_of_gt (blk_lt (g := gb143) (o := .cells #[.int .i8 0, .int .i8 0, .int .i8 0, .int .i16 0] 120 (0, 0)) (by (with_reducible repeat (first | refine blk_drewN ?_ _ | refine blk_drew ?_ | refine blk_alloc ?_ _)); exact BK143.out)) : gb144 ≠ gb143)); clear BK142; clear BK143; clear HB; have BK142 := n0_; have BK143 := n1_; have HB := n2_; have BK144 := n3_; have GW144 := n4_; have GE144 := n5_; have NB142_144 := n6_; have NB144_142 := n7_; have NB143_144 := n8_; have NB144_143 := n9_; clear n0_ n1_ n2_ n3_ n4_ n5_ n6_ n7_ n8_ n9_; clear hb hbox hg; have hnb6 := NB142_143.out; have hnc6 := NB143_142.out; have hnb7 := NB142_144.out; have hnc7 := NB144_142.out; have hcz8_0 : w5.cell? ⟨gb142, 0, none⟩ = some (.int .i8 a0_0) := (blk_cell BK142.out 0).trans rfl; have hcz8_1 : w5.cell? ⟨gb142, 1, none⟩ = some (.int .i8 a0_1) := (blk_cell BK142.out 1).trans rfl; have hcz8_2 : w5.cell? ⟨gb142, 2, none⟩ = some (.int .i8 a0_2) := (blk_cell BK142.out 2).trans rfl; have hcz8_3 : w5.cell? ⟨gb142, 3, none⟩ = some (.int .i16 a0_3) := (blk_cell BK142.out 3).trans rfl; have hfz8_0 := blk_frozen BK142.out 0; have hfz8_1 := blk_frozen BK142.out 1; have hfz8_2 := blk_frozen BK142.out 2; have hfz8_3 := blk_frozen BK142.out 3) | ((with_reducible refine gate_callee (f := 53) rfl ?_); refine goesL_ (some 6) rfl rfl Try.func53 (by kernel_rfl) rfl #[.agg #[.int .i8 a0_0, .int .i8 a0_1]] rfl (by (try simp only [List.map_toArray, List.map_cons, List.map_nil]); first | done | rfl | (simp only [List.length_drop, List.length_take]; rfl)) ?_; (with_reducible refine (laws_toCell.calls k a0_0 a0_1 t145 t146 _ A2.out).mono ?_); rintro e w9 ⟨rfl, hb⟩; refine ⟨_, rfl, ?_⟩; have n0_ := Aside0.mk (blk_below (g := gb142) (o := .cells #[.int .i8 a0_0, .int .i8 a0_1, .int .i8 a0_2, .int .i16 a0_3] 129 (0, 0)) (by (with_reducible repeat (first | refine blk_drewN ?_ _ | refine blk_drew ?_ | refine blk_alloc ?_ _)); exact BK142.out) hb); have n1_ := Aside0.mk (blk_below (g := gb143) (o := .cells #[.int .i8 0, .int .i8 0, .int .i8 0, .int .i16 0] 120 (0, 0)) (by (with_reducible repeat (first | refine blk_drewN ?_ _ | refine blk_drew ?_ | refine blk_alloc ?_ _)); exact BK143.out) hb); have n2_ := Aside0.mk (blk_below (g := gb144) (o := .cells #[.int .i8 0, .int .i8 0, .int .i8 0, .int .i16 0] 120 (0, 0)) (by (with_reducible repeat (first | refine blk_drewN ?_ _ | refine blk_drew ?_ | refine blk_alloc ?_ _)); exact BK144.out) hb); have n3_ := Aside0.mk (below_step (by repeat (first | (with_reducible first | exact HB.out | apply below_alloc | apply pw_below_drewN | apply below_drew1 | refine below_set ?_ GE142.out | refine below_set ?_ GE143.out | refine below_set ?_ GE144.out) | exact HB.out)) hb); clear BK142; clear BK143; clear BK144; clear HB; have BK142 := n0_; have BK143 := n1_; have BK144 := n2_; have HB := n3_; clear n0_ n1_ n2_ n3_; (try clear hb); (try clear hb2); (try clear hk); (try clear hi); have hnb10 := NB144_143.out; have hnc10 := NB143_144.out; have hcz11_0 : w9.cell? ⟨gb144, 0, none⟩ = some (.int .i8 0) := (blk_cell BK144.out 0).trans rfl; have hcz11_1 : w9.cell? ⟨gb144, 1, none⟩ = some (.int .i8 0) := (blk_cell BK144.out 1).trans rfl; have hcz11_2 : w9.cell? ⟨gb144, 2, none⟩ = some (.int .i8 0) := (blk_cell BK144.out 2).trans rfl; have hcz11_3 : w9.cell? ⟨gb144, 3, none⟩ = some (.int .i16 0) := (blk_cell BK144.out 3).trans rfl; have hfz11_0 := blk_frozen BK144.out 0; have hfz11_1 := blk_frozen BK144.out 1; have hfz11_2 := blk_frozen BK144.out 2; have hfz11_3 := blk_frozen BK144.out 3; have hcz12_0 : w9.cell? ⟨gb142, 0, none⟩ = some (.int .i8 a0_0) := (blk_cell BK142.out 0).trans rfl; have hcz12_1 : w9.cell? ⟨gb142, 1, none⟩ = some (.int .i8 a0_1) := (blk_cell BK142.out 1).trans rfl; have hcz12_2 : w9.cell? ⟨gb142, 2, none⟩ = some (.int .i8 a0_2) := (blk_cell BK142.out 2).trans rfl; have hcz12_3 : w9.cell? ⟨gb142, 3, none⟩ = some (.int .i16 a0_3) := (blk_cell BK142.out 3).trans rfl; have hfz12_0 := blk_frozen BK142.out 0; have hfz12_1 := blk_frozen BK142.out 1; have hfz12_2 := blk_frozen BK142.out 2; have hfz12_3 := blk_frozen BK142.out 3; have hcz13_0 : w9.cell? ⟨gb143, 0, none⟩ = some (.int .i8 0) := (blk_cell BK143.out 0).trans rfl; have hcz13_1 : w9.cell? ⟨gb143, 1, none⟩ = some (.int .i8 0) := (blk_cell BK143.out 1).trans rfl; have hcz13_2 : w9.cell? ⟨gb143, 2, none⟩ = some (.int .i8 0) := (blk_cell BK143.out 2).trans rfl; have hcz13_3 : w9.cell? ⟨gb143, 3, none⟩ = some (.int .i16 0) := (blk_cell BK143.out 3).trans rfl; have hfz13_0 := blk_frozen BK143.out 0; have hfz13_1 := blk_frozen BK143.out 1; have hfz13_2 := blk_frozen BK143.out 2; have hfz13_3 := blk_frozen BK143.out 3))
  refine bodyPost_ret (results_cell_row rfl _ _ gb143 120 #[.int .i8 t145, .int .i8 t146, .int .i8 a0_2, .int .i16 a0_3] (0, 0) _ rfl (by (with_reducible repeat (first | refine blk_drewN ?_ _ | refine blk_drew ?_ | refine blk_alloc ?_ _)); refine blk_put (cs := #[.int .i8 t145, .int .i8 t146, .int .i8 a0_2, .int .i16 0]) ?_ 3 _ rfl; (with_reducible repeat (first | refine blk_drewN ?_ _ | refine blk_drew ?_ | refine blk_alloc ?_ _)); refine blk_put (cs := #[.int .i8 t145, .int .i8 t146, .int .i8 0, .int .i16 0]) ?_ 2 _ rfl; (with_reducible repeat (first | refine blk_drewN ?_ _ | refine blk_drew ?_ | refine blk_alloc ?_ _)); refine blk_put (cs := #[.int .i8 t145, .int .i8 0, .int .i8 0, .int .i16 0]) ?_ 1 _ rfl; (with_reducible repeat (first | refine blk_drewN ?_ _ | refine blk_drew ?_ | refine blk_alloc ?_ _)); refine blk_put (cs := #[.int .i8 0, .int .i8 0, .int .i8 0, .int .i16 0]) ?_ 0 _ rfl; (with_reducible repeat (first | refine blk_drewN ?_ _ | refine blk_drew ?_ | refine blk_alloc ?_ _)); refine blk_far ?_ NB143_144.out _; (with_reducible repeat (first | refine blk_drewN ?_ _ | refine blk_drew ?_ | refine blk_alloc ?_ _)); refine blk_far ?_ NB143_144.out _; (with_reducible repeat (first | refine blk_drewN ?_ _ | refine blk_drew ?_ | refine blk_alloc ?_ _)); refine blk_far ?_ NB143_144.out _; (with_reducible repeat (first | refine blk_drewN ?_ _ | refine blk_drew ?_ | refine blk_alloc ?_ _)); refine blk_far ?_ NB143_144.out _; (with_reducible repeat (first | refine blk_drewN ?_ _ | refine blk_drew ?_ | refine blk_alloc ?_ _)); exact BK143.out) Try.underlying120 rfl (by kernel_rfl)) rfl ?_
  exact ⟨by first | rfl | (simp [errW_none, errW_some] <;> rfl) | (simp [*, errW_none, errW_some] <;> rfl), by repeat (first | (with_reducible first | exact HB.out | apply below_alloc | apply pw_below_drewN | apply below_drew1 | refine below_set ?_ GE142.out | refine below_set ?_ GE143.out | refine below_set ?_ GE144.out) | exact HB.out)⟩

/-! ### laws_toPushS: function 35 -/
def laws_toPushS.l0 : Nat → List (S129) → List (S120) → Int → Option ((List (S120)))
  | 0, _, _, _ => none
  | k + 1, x0, x3, x4 => if x4 < (x0.length : Int) then (if 0 ≤ x4 then ((laws_toPush.f k ((rd_T129 x0 x4).f0.f0) ((rd_T129 x0 x4).f0.f1) ((rd_T129 x0 x4).f1) ((rd_T129 x0 x4).f2)).bind fun bt151 => (if x4 < (x3.length : Int) then (laws_toPushS.l0 k x0 (x3.set (x4 : Int).toNat (⟨(⟨bt151.1, bt151.2.1⟩ : S74), bt151.2.2.1, bt151.2.2.2⟩ : S120)) (wrap64 (x4 + 1))) else (none))) else (none)) else (some x3)
def laws_toPushS.f (k : Nat) (l0 : List (S129)) : Option ((List (S120))) := if 0 ≤ (l0.length : Int) then (if ((l0.length : Int) : Int).toNat ≤ 46912496118442 then (laws_toPushS.l0 k l0 (List.replicate ((l0.length : Int) : Int).toNat z120) 0) else (none)) else (none)
theorem laws_toPushS.mono_l : ∀ k, (∀ y0 y1 y2, LeO (laws_toPushS.l0 k y0 y1 y2) (laws_toPushS.l0 (k + 1) y0 y1 y2))
  | 0 => fun _ _ _ r h => by simp [laws_toPushS.l0] at h
  | k + 1 => by
    have ih0 := laws_toPushS.mono_l k
    · intro y0 y1 y2
      unfold laws_toPushS.l0
      repeat' first
      | (with_reducible exact ih0 _ _ _)
      | (with_reducible exact laws_toPush.mono _ _ _ _ _)
      | (with_reducible exact LeO.refl _)
      | (with_reducible exact LeO.none _)
      | (with_reducible refine LeO.ite ?_ ?_)
      | (with_reducible refine LeO.bind ?_ (fun _ => ?_))
      | exact ih0 _ _ _
      | exact laws_toPush.mono _ _ _ _ _
      | exact LeO.none _
      | refine LeO.ite ?_ ?_
      | refine LeO.bind ?_ (fun _ => ?_)
theorem laws_toPushS.mono : ∀ a0 k, LeO (laws_toPushS.f k a0) (laws_toPushS.f (k + 1) a0) := by
  intro a0 k
  have ih0 := laws_toPushS.mono_l k
  unfold laws_toPushS.f
  repeat' first
      | (with_reducible exact ih0 _ _ _)
      | (with_reducible exact laws_toPush.mono _ _ _ _ _)
      | (with_reducible exact LeO.refl _)
      | (with_reducible exact LeO.none _)
      | (with_reducible refine LeO.ite ?_ ?_)
      | (with_reducible refine LeO.bind ?_ (fun _ => ?_))
      | exact ih0 _ _ _
      | exact laws_toPush.mono _ _ _ _ _
      | exact LeO.none _
      | refine LeO.ite ?_ ?_
      | refine LeO.bind ?_ (fun _ => ?_)
set_option maxHeartbeats 8000000 in
set_option maxRecDepth 100000 in
theorem laws_toPushS.calls (k : Nat) (A0 : Option Addr) (c0 : Nat) (l0 : List (S129)) (r : List (S120)) (w : World) (hr0 : Kd.C k129 w A0 l0.length l0) (hc0 : l0.length ≤ c0) (h : laws_toPushS.f k l0 = some r) :
    Calls Try.prog 35 #[.slice A0 l0.length c0] w fun e w' => ∃ v0_ : Value, e = .returned (v0_) ∧ Kd.R k120 120 w' w.heap.size (fun _ => True) v0_ r ∧ Below w.heap.size w w' := by
  have hu129 := Try.underlying129
  have hu120 := Try.underlying120
  have HR0 := Aside0.mk hr0
  have HC0 := Aside0.mk hc0
  clear hr0 hc0
  have HB := Aside0.mk (Below.refl w.heap.size w)
  have H : (if 0 ≤ (l0.length : Int) then (if ((l0.length : Int) : Int).toNat ≤ 46912496118442 then (laws_toPushS.l0 k l0 (List.replicate ((l0.length : Int) : Int).toNat z120) 0) else (none)) else (none)) = some r := h
  clear h
  by_cases c2 : 0 ≤ (l0.length : Int)
  · rw [if_pos c2] at H
    have c2b0 := eq_true c2
    have c2b1 : decide (0 ≤ (l0.length : Int)) = true := decide_eq_true c2
    clear c2
    by_cases c3 : ((l0.length : Int) : Int).toNat ≤ 46912496118442
    · rw [if_pos c3] at H
      have c3b0 := eq_true c3
      have c3b1 : decide (((l0.length : Int) : Int).toNat ≤ 46912496118442) = true := decide_eq_true c3
      clear c3
      obtain ⟨y147, hy147⟩ : ∃ y_ : List (S120), y_ = (List.replicate ((l0.length : Int) : Int).toNat z120) := ⟨_, rfl⟩
      replace H : (laws_toPushS.l0 k l0 y147 0) = some r := by first | (rw [hy147]; with_reducible exact H) | (have H2_ := (Option.bind_some _ _).symm.trans H; rw [hy147]; with_reducible exact H2_) | (have H2_ := (Option.bind_some _ _).symm.trans H; with_reducible exact H2_) | with_reducible exact H | (rw [hy147]; exact H) | exact H
      have Ny147 := Aside0.mk hy147
      clear hy147
      have H' := Aside0.mk H
      clear H
      go_enter Try.func35, Try.ntmps35
      go_wp2_with (first | ((with_reducible refine gate_dst (N := 7) rfl ?_); refine Kd.R_make k120 _ 120 rfl (N := 7) rfl 32 _ _ rfl (l0.length : Int) rfl rfl Try.underlying32 (.agg #[(.int .i8 0), (.int .i8 0), (.int .i8 0), (.int .i16 0)]) 6 info120 rfl (by decide) (by omega) z120 (ok := fun _ => True) (okp := fun _ => True) (k120_mkM _ _ _ z120 ) (fun _ hk => hk) trivial (of_decide_eq_true (by first | (with_reducible assumption) | assumption)) (Nat.le_trans (Nat.mul_le_mul_right _ (of_decide_eq_true (by first | (with_reducible assumption) | assumption) : (l0.length : Int).toNat ≤ 46912496118442)) (by omega)) (Below.refl _ _) (Nat.le_refl _) ?_; intro v148 w4 ho5 hb hg_ hnew_; clear hg_ hnew_; (first | rw [← Ny147.out] at ho5 | (simp only [Int.reduceToNat] at ho5; rw [← Ny147.out] at ho5)); have n0_ := Aside0.mk (Kd.R_lower ho5 (below_size (by repeat (first | (with_reducible first | exact HB.out | apply below_alloc | apply pw_below_drewN | apply below_drew1) | exact HB.out)))); have n1_ := Aside0.mk (below_step (by repeat (first | (with_reducible first | exact HB.out | apply below_alloc | apply pw_below_drewN | apply below_drew1) | exact HB.out)) hb); clear HB; have HO149 := n0_; have HB := n1_; clear n0_ n1_; clear hb ho5))
      go_loopg [4] k (fun kq v4 w' => ∃ (x3_1 : List (S120)) (x4_1 : Int), v4 = .int .i64 x4_1 ∧ Aside0 (laws_toPushS.l0 kq l0 x3_1 x4_1 = some r) ∧ Aside0 (kq ≤ k) ∧ Aside0 (Kd.R k120 120 w' w.heap.size (fun _ => True) v148 x3_1) ∧ Aside0 (Below w.heap.size w w'))
      case atStart => exact ⟨(y147), (0), (by first | rfl | (simp; done) | (simp [*]; done) | (exact congrArg (Value.int .i64) (wrap_eq (by omega)))), H', ⟨Nat.le_refl _⟩, ⟨by (with_reducible repeat (first | apply Kd.R_alloc | apply Kd.R_drewN | apply Kd.R_drew)); exact HO149.out⟩, ⟨by repeat (first | (with_reducible first | exact HB.out | apply below_alloc | apply pw_below_drewN | apply below_drew1) | exact HB.out)⟩⟩
      case round =>
        clear H'
        try clear c2
        try clear c2b0
        try clear c2b1
        try clear p2
        try clear c3
        try clear c3b0
        try clear c3b1
        obtain ⟨x3_1, x4_1, rfl, HA, HK1, HO_3, HB⟩ := hrel
        cases gk with
        | zero => exact absurd HA.out (by simp [laws_toPushS.l0])
        | succ k1 =>
          have H := HA.out
          clear HA
          simp only [laws_toPushS.l0] at H
          by_cases c6 : x4_1 < (l0.length : Int)
          · rw [if_pos c6] at H
            have c6b0 : decide (x4_1 < (l0.length : Int)) = true := decide_eq_true c6
            clear c6
            by_cases c7 : 0 ≤ x4_1
            · rw [if_pos c7] at H
              have c7b0 : decide (0 ≤ x4_1) = true := decide_eq_true c7
              clear c7
              replace H := Option.bind_eq_some_iff.mp H
              obtain ⟨⟨t151, t152, t153, t154⟩, A80, H⟩ := H
              replace H : (if x4_1 < (x3_1.length : Int) then (laws_toPushS.l0 k1 l0 (x3_1.set (x4_1 : Int).toNat (⟨(⟨t151, t152⟩ : S74), t153, t154⟩ : S120)) (wrap64 (x4_1 + 1))) else (none)) = some r := H
              have A8 := Aside0.mk A80
              clear A80
              by_cases c9 : x4_1 < (x3_1.length : Int)
              · rw [if_pos c9] at H
                have c9b0 : decide (x4_1 < (x3_1.length : Int)) = true := decide_eq_true c9
                clear c9
                obtain ⟨y155, hy155⟩ : ∃ y_ : List (S120), y_ = (x3_1.set (x4_1 : Int).toNat (⟨(⟨t151, t152⟩ : S74), t153, t154⟩ : S120)) := ⟨_, rfl⟩
                replace H : (laws_toPushS.l0 k1 l0 y155 (wrap64 (x4_1 + 1))) = some r := by first | (rw [hy155]; with_reducible exact H) | (have H2_ := (Option.bind_some _ _).symm.trans H; rw [hy155]; with_reducible exact H2_) | (have H2_ := (Option.bind_some _ _).symm.trans H; with_reducible exact H2_) | with_reducible exact H | (rw [hy155]; exact H) | exact H
                have Ny155 := Aside0.mk hy155
                clear hy155
                have H' := Aside0.mk H
                clear H
                have p150 : 0 ≤ (x4_1 : Int) := of_decide_eq_true (by first | (with_reducible assumption) | assumption)
                have q150 : x4_1 < (l0.length : Int) := of_decide_eq_true (by first | (with_reducible assumption) | assumption)
                obtain ⟨ad150, e150, hx150_0, hx150_1, hx150_2, hx150_3⟩ := at_T129 HR0.out x4_1 p150 q150
                cases e150
                replace hx150_0 := (HB.out.cell (World.block_lt_of_cell? w _ hx150_0)).trans hx150_0
                replace hx150_1 := (HB.out.cell (World.block_lt_of_cell? w _ hx150_1)).trans hx150_1
                replace hx150_2 := (HB.out.cell (World.block_lt_of_cell? w _ hx150_2)).trans hx150_2
                replace hx150_3 := (HB.out.cell (World.block_lt_of_cell? w _ hx150_3)).trans hx150_3
                replace p150 := eq_true p150
                replace q150 := eq_true q150
                go_wp2_with (first | ((with_reducible refine gate_callee (f := 97) rfl ?_); refine goesL_ (some 20) rfl rfl Try.func97 (by kernel_rfl) rfl #[.agg #[.int .i8 ((rd_T129 l0 x4_1).f0.f0), .int .i8 ((rd_T129 l0 x4_1).f0.f1), .int .i8 ((rd_T129 l0 x4_1).f1), .int .i16 ((rd_T129 l0 x4_1).f2)]] rfl (by (try simp only [List.map_toArray, List.map_cons, List.map_nil]); first | done | rfl | (simp only [List.length_drop, List.length_take]; rfl)) ?_; (with_reducible refine (laws_toPush.calls k1 ((rd_T129 l0 x4_1).f0.f0) ((rd_T129 l0 x4_1).f0.f1) ((rd_T129 l0 x4_1).f1) ((rd_T129 l0 x4_1).f2) t151 t152 t153 t154 _ A8.out).mono ?_); rintro e w11 ⟨rfl, hb⟩; refine ⟨_, rfl, ?_⟩; have n0_ := Aside0.mk (Kd.R_below (by (with_reducible repeat (first | apply Kd.R_alloc | apply Kd.R_drewN | apply Kd.R_drew)); exact HO_3.out) hb); have n1_ := Aside0.mk (below_step (by repeat (first | (with_reducible first | exact HB.out | apply below_alloc | apply pw_below_drewN | apply below_drew1) | exact HB.out)) hb); clear HO_3; clear HB; have HO_3 := n0_; have HB := n1_; clear n0_ n1_; (try clear hb); (try clear hb2); (try clear hk); (try clear hi); have p10 : 0 ≤ (x4_1 : Int) := of_decide_eq_true (by first | (with_reducible assumption) | assumption); have q10 : (x4_1 : Int) < ((x3_1.length : Int) : Int) := of_decide_eq_true (by first | (with_reducible assumption) | assumption); obtain ⟨go10, co10, eo10, gb10, gl10, cl10, HG10⟩ := Kd.R_form HO_3.out (by omega); (first | cases eo10 | (injection eo10 with ea_ en_ ec_; (first | subst ea_ | (injection ea_ with ea_; subst ea_)); subst ec_; clear en_)); have GB10 := Aside0.mk gb10; have GG10 := Aside0.mk HG10; clear gb10 gl10 HG10; obtain ⟨ce10, hcl10, hM10, hcc10, hfr10⟩ := Kd.R_elem HO_3.out z120 (x4_1 : Int) p10 q10; obtain rfl := k120_openM hM10; have hx10_0 : w11.cell? ⟨go10, (x4_1 : Int).toNat * 4, none⟩ = some (.int .i8 ((rd_T120 x3_1 x4_1).f0.f0)) := hcc10 0 _ rfl; have hx10_1 : w11.cell? ⟨go10, (x4_1 : Int).toNat * 4 + 1, none⟩ = some (.int .i8 ((rd_T120 x3_1 x4_1).f0.f1)) := hcc10 1 _ rfl; have hx10_2 : w11.cell? ⟨go10, (x4_1 : Int).toNat * 4 + 2, none⟩ = some (.int .i8 ((rd_T120 x3_1 x4_1).f1)) := hcc10 2 _ rfl; have hx10_3 : w11.cell? ⟨go10, (x4_1 : Int).toNat * 4 + 3, none⟩ = some (.int .i16 ((rd_T120 x3_1 x4_1).f2)) := hcc10 3 _ rfl; have hf10_0 : w11.frozen? ⟨go10, (x4_1 : Int).toNat * 4, none⟩ = false := hfr10 0; have hf10_1 : w11.frozen? ⟨go10, (x4_1 : Int).toNat * 4 + 1, none⟩ = false := hfr10 1; have hf10_2 : w11.frozen? ⟨go10, (x4_1 : Int).toNat * 4 + 2, none⟩ = false := hfr10 2; have hf10_3 : w11.frozen? ⟨go10, (x4_1 : Int).toNat * 4 + 3, none⟩ = false := hfr10 3; clear hcl10 hcc10 hfr10 hM10; replace p10 := eq_true p10; replace q10 := eq_true q10; have HX12 := Aside0.mk (show Kd.R k120 120 w11 w.heap.size (fun _ => True) (.slice (some ⟨go10, 0, none⟩) x3_1.length co10) x3_1 from (by (with_reducible repeat (first | apply Kd.R_alloc | apply Kd.R_drewN | apply Kd.R_drew)); exact HO_3.out)); obtain ⟨ce12, hcl12, hM12, hcc12, hfr12⟩ := Kd.R_elem HX12.out z120 (x4_1 : Int) (of_decide_eq_true (by first | (with_reducible assumption) | assumption)) (by have h_ : (x4_1 : Int) < ((x3_1.length : Int) : Int) := of_decide_eq_true (by first | (with_reducible assumption) | assumption); first | exact h_ | (have e_ := (Kd.R_reads' HO_3.out).1; omega) | simpa using h_); obtain rfl := k120_openM hM12; have HP12 := Kd.R_seg HX12.out (x4_1 : Int) (of_decide_eq_true (by first | (with_reducible assumption) | assumption)) (by have h_ : (x4_1 : Int) < ((x3_1.length : Int) : Int) := of_decide_eq_true (by first | (with_reducible assumption) | assumption); first | exact h_ | (have e_ := (Kd.R_reads' HO_3.out).1; omega) | simpa using h_) (seg := [.int .i8 t151, .int .i8 t152, .int .i8 t153, .int .i16 t154]) (j := 0) hcl12 hcc12 (show 4 ≤ 4 from by decide) (x' := (⟨(⟨t151, t152⟩ : S74), t153, t154⟩ : S120)) (k120_mkM _ _ _ (⟨(⟨t151, t152⟩ : S74), t153, t154⟩ : S120) ) (fun _ hk => hk); have hx12_0 := hcc12 0 _ rfl; (try simp only [show (k120).sz = 4 from rfl, Nat.mul_one, Nat.add_zero] at hx12_0); have hf12_0 := hfr12 0; (try simp only [show (k120).sz = 4 from rfl, Nat.mul_one, Nat.add_zero] at hf12_0); have hx12_1 := hcc12 1 _ rfl; (try simp only [show (k120).sz = 4 from rfl, Nat.mul_one, Nat.add_zero] at hx12_1); have hf12_1 := hfr12 1; (try simp only [show (k120).sz = 4 from rfl, Nat.mul_one, Nat.add_zero] at hf12_1); have hx12_2 := hcc12 2 _ rfl; (try simp only [show (k120).sz = 4 from rfl, Nat.mul_one, Nat.add_zero] at hx12_2); have hf12_2 := hfr12 2; (try simp only [show (k120).sz = 4 from rfl, Nat.mul_one, Nat.add_zero] at hf12_2); have hx12_3 := hcc12 3 _ rfl; (try simp only [show (k120).sz = 4 from rfl, Nat.mul_one, Nat.add_zero] at hx12_3); have hf12_3 := hfr12 3; (try simp only [show (k120).sz = 4 from rfl, Nat.mul_one, Nat.add_zero] at hf12_3); clear hcl12 hcc12 hfr12 hM12) | ((with_reducible refine gate_store (t := 120) (p := 21) rfl ?_); refine store_event (t := 120) (p := 21) (v := ?vo_w13) (w1 := ((((w11.setCell ⟨go10, (x4_1 : Int).toNat * 4, none⟩ (.int .i8 t151)).setCell ⟨go10, (x4_1 : Int).toNat * 4 + 1, none⟩ (.int .i8 t152)).setCell ⟨go10, (x4_1 : Int).toNat * 4 + 2, none⟩ (.int .i8 t153)).setCell ⟨go10, (x4_1 : Int).toNat * 4 + 3, none⟩ (.int .i16 t154))) ?hg ?ho ?hn ?hr ?_; (case ho => rfl); (case hg => rfl); (case hn => rfl); (case hr => first | (go_simp; done) | (go_simp; rfl)); intro w13 hw; have hg : w11.grownBy w13 (some go10) := (by rw [hw]; exact HP12.2); have hp_ : Kd.R k120 120 w13 w.heap.size (fun _ => True) (.slice (some ⟨go10, 0, none⟩) x3_1.length co10) y155 := (by rw [hw, Ny155.out]; exact HP12.1); clear HP12; have n0_ := Aside0.mk (hp_); have n1_ := Aside0.mk ((by rw [hw]; exact below_set (below_set (below_set (below_set (HB.out) GB10.out) GB10.out) GB10.out) GB10.out : Below w.heap.size w w13)); clear HO_3; clear HB; have HO_3 := n0_; have HB := n1_; clear n0_ n1_; clear hg hw hp_))
                go_roundg k1
                case measure => have := HK1.out; omega
                case rel => exact ⟨(y155), (wrap64 (x4_1 + 1)), (by first | rfl | (simp; done) | (simp [*]; done) | (exact congrArg (Value.int .i64) (wrap_eq (by omega)))), H', ⟨by have := HK1.out; omega⟩, ⟨by (with_reducible repeat (first | apply Kd.R_alloc | apply Kd.R_drewN | apply Kd.R_drew)); exact HO_3.out⟩, ⟨by repeat (first | (with_reducible first | exact HB.out | apply below_alloc | apply pw_below_drewN | apply below_drew1) | exact HB.out)⟩⟩
              · rw [if_neg c9] at H
                exact absurd H (by simp)
            · rw [if_neg c7] at H
              exact absurd H (by simp)
          · rw [if_neg c6] at H
            have c6b0 : decide (x4_1 < (l0.length : Int)) = false := decide_eq_false c6
            clear c6
            obtain rfl := Option.some.inj H
            go_wp2
            go_ret
            exact ⟨_, by first | rfl | (simp [errW_none, errW_some] <;> rfl) | (simp [*, errW_none, errW_some] <;> rfl), by (with_reducible repeat (first | apply Kd.R_alloc | apply Kd.R_drewN | apply Kd.R_drew)); exact HO_3.out, by repeat (first | (with_reducible first | exact HB.out | apply below_alloc | apply pw_below_drewN | apply below_drew1) | exact HB.out)⟩
    · rw [if_neg c3] at H
      exact absurd H (by simp)
  · rw [if_neg c2] at H
    exact absurd H (by simp)

/-! ### impl_in: function 98 -/
def impl_in.f (a0 : Int) (a1 : Int) (a2 : Int) : Option (Bool) := if a0 ≥ a1 then (some (decide (a0 ≤ a2))) else (some false)
set_option maxHeartbeats 8000000 in
set_option maxRecDepth 100000 in
theorem impl_in.calls (a0 : Int) (a1 : Int) (a2 : Int) (r : Bool) (w : World) (h : impl_in.f a0 a1 a2 = some r) :
    Calls Try.prog 98 #[.int .i64 a0, .int .i64 a1, .int .i64 a2] w fun e w' => e = .returned (.bool r) ∧ Drawn0 w w' := by
  have H : (if a0 ≥ a1 then (some (decide (a0 ≤ a2))) else (some false)) = some r := h
  clear h
  by_cases c4 : a0 ≥ a1
  · rw [if_pos c4] at H
    have c4b0 : decide (a1 ≤ a0) = true := decide_eq_true c4
    clear c4
    obtain rfl := Option.some.inj H
    go_enter Try.func98, Try.ntmps98
    go_wp2
    go_ret
    exact ⟨by first | rfl | (simp; done) | (simp [*]; done) | (exact congrArg (Value.int .i64) (wrap_eq (by omega))), by repeat (first | exact Drawn0.refl _ | apply Drawn0.step)⟩
  · rw [if_neg c4] at H
    have c4b0 : decide (a1 ≤ a0) = false := decide_eq_false c4
    clear c4
    obtain rfl := Option.some.inj H
    go_enter Try.func98, Try.ntmps98
    go_wp2
    go_ret
    exact ⟨by first | rfl | (simp; done) | (simp [*]; done) | (exact congrArg (Value.int .i64) (wrap_eq (by omega))), by repeat (first | exact Drawn0.refl _ | apply Drawn0.step)⟩

/-! ### impl_LaterPushes: function 36 -/
def impl_LaterPushes.l0 : Nat → Int → List (S120) → List (S120) → Int → Int → Option ((List (S120)) × Int)
  | 0, _, _, _, _, _ => none
  | k + 1, x1, x6, x16, x17, x18 => if x18 < x17 then (if 0 ≤ x18 then (if x18 < (x16.length : Int) then ((impl_in.f (wrap64 ((rd_T120 x16 x18).f2)) 0 1000).bind fun t162 => (if t162 = true then ((impl_in.f (wrap64 ((wrap64 ((rd_T120 x16 x18).f2)) + x1)) 0 1000).bind fun t163 => (if t163 = true then (if x6.length < 23456248059221 then (impl_LaterPushes.l0 k x1 (x6 ++ [(⟨(⟨(rd_T120 x16 x18).f0.f0, (rd_T120 x16 x18).f0.f1⟩ : S74), (rd_T120 x16 x18).f1, IntKind.i16.wrap (((rd_T120 x16 x18).f2) + (IntKind.i16.wrap (x1)))⟩ : S120)]) x16 x17 (wrap64 (x18 + 1))) else (none)) else (some (([] : List (S120)), 3)))) else (some (([] : List (S120)), 3)))) else (none)) else (none)) else (some (x6, 0))
def impl_LaterPushes.f (k : Nat) (l0 : List (S120)) (a1 : Int) : Option ((List (S120)) × Int) := (impl_in.f a1 (-1000) 1000).bind fun t156 => (if t156 = true then (if (l0.length : Int) > 20 then (some (([] : List (S120)), 3)) else (impl_LaterPushes.l0 k a1 (([] : List (S120))) l0 (l0.length : Int) 0)) else (some (([] : List (S120)), 2)))
theorem impl_LaterPushes.mono_l : ∀ k, (∀ y0 y1 y2 y3 y4, LeO (impl_LaterPushes.l0 k y0 y1 y2 y3 y4) (impl_LaterPushes.l0 (k + 1) y0 y1 y2 y3 y4))
  | 0 => fun _ _ _ _ _ r h => by simp [impl_LaterPushes.l0] at h
  | k + 1 => by
    have ih0 := impl_LaterPushes.mono_l k
    · intro y0 y1 y2 y3 y4
      unfold impl_LaterPushes.l0
      repeat' first
      | (with_reducible exact ih0 _ _ _ _ _)
      | (with_reducible exact LeO.refl _)
      | (with_reducible exact LeO.none _)
      | (with_reducible refine LeO.ite ?_ ?_)
      | (with_reducible refine LeO.bind ?_ (fun _ => ?_))
      | exact ih0 _ _ _ _ _
      | exact LeO.none _
      | refine LeO.ite ?_ ?_
      | refine LeO.bind ?_ (fun _ => ?_)
theorem impl_LaterPushes.mono : ∀ a0 a1 k, LeO (impl_LaterPushes.f k a0 a1) (impl_LaterPushes.f (k + 1) a0 a1) := by
  intro a0 a1 k
  have ih0 := impl_LaterPushes.mono_l k
  unfold impl_LaterPushes.f
  repeat' first
      | (with_reducible exact ih0 _ _ _ _ _)
      | (with_reducible exact LeO.refl _)
      | (with_reducible exact LeO.none _)
      | (with_reducible refine LeO.ite ?_ ?_)
      | (with_reducible refine LeO.bind ?_ (fun _ => ?_))
      | exact ih0 _ _ _ _ _
      | exact LeO.none _
      | refine LeO.ite ?_ ?_
      | refine LeO.bind ?_ (fun _ => ?_)
set_option maxHeartbeats 8000000 in
set_option maxRecDepth 100000 in
theorem impl_LaterPushes.calls (k : Nat) (A0 : Option Addr) (c0 : Nat) (l0 : List (S120)) (a1 : Int) (r1 : List (S120)) (r2 : Int) (w : World) (hr0 : Kd.C k120 w A0 l0.length l0) (hc0 : l0.length ≤ c0) (h : impl_LaterPushes.f k l0 a1 = some (r1, r2)) :
    Calls Try.prog 36 #[.slice A0 l0.length c0, .int .i64 a1] w fun e w' => ∃ v0_ : Value, e = .returned (.tuple #[v0_, .int .i64 r2]) ∧ Kd.R k120 120 w' w.heap.size (fun _ => True) v0_ r1 ∧ Below w.heap.size w w' := by
  have hu120 := Try.underlying120
  have HR0 := Aside0.mk hr0
  have HC0 := Aside0.mk hc0
  clear hr0 hc0
  have HB := Aside0.mk (Below.refl w.heap.size w)
  have H : ((impl_in.f a1 (-1000) 1000).bind fun t156 => (if t156 = true then (if (l0.length : Int) > 20 then (some (([] : List (S120)), 3)) else (impl_LaterPushes.l0 k a1 (([] : List (S120))) l0 (l0.length : Int) 0)) else (some (([] : List (S120)), 2)))) = some (r1, r2) := h
  clear h
  replace H := Option.bind_eq_some_iff.mp H
  obtain ⟨t156, A30, H⟩ := H
  replace H : (if t156 = true then (if (l0.length : Int) > 20 then (some (([] : List (S120)), 3)) else (impl_LaterPushes.l0 k a1 (([] : List (S120))) l0 (l0.length : Int) 0)) else (some (([] : List (S120)), 2))) = some (r1, r2) := H
  have A3 := Aside0.mk A30
  clear A30
  by_cases c4 : t156 = true
  · subst c4
    have H1 : (if (l0.length : Int) > 20 then (some (([] : List (S120)), 3)) else (impl_LaterPushes.l0 k a1 (([] : List (S120))) l0 (l0.length : Int) 0)) = some (r1, r2) := by rw [if_pos rfl] at H; exact H
    clear H
    have H := H1
    clear H1
    by_cases c5 : (l0.length : Int) > 20
    · rw [if_pos c5] at H
      have c5b0 : decide (20 < (l0.length : Int)) = true := decide_eq_true c5
      have c5b1 : decide (20 < l0.length) = true := decide_eq_true (by omega)
      clear c5
      simp only [Option.some.injEq, Prod.mk.injEq] at H
      obtain ⟨rfl, rfl⟩ := H
      go_enter Try.func36, Try.ntmps36
      go_wp2_with (first | ((with_reducible refine gate_callee (f := 98) rfl ?_); refine goesL_ (some 10) rfl rfl Try.func98 (by kernel_rfl) rfl #[.int .i64 a1, .int .i64 (-1000), .int .i64 1000] rfl (by (try simp only [List.map_toArray, List.map_cons, List.map_nil]); first | done | rfl | (simp only [List.length_drop, List.length_take]; rfl)) ?_; (with_reducible refine (impl_in.calls a1 (-1000) 1000 true _ A3.out).mono ?_); rintro e w' ⟨rfl, ⟨nd, rfl⟩⟩; refine ⟨_, rfl, ?_⟩))
      go_ret2
      exact ⟨_, by first | rfl | (simp [errW_none, errW_some] <;> rfl) | (simp [*, errW_none, errW_some] <;> rfl), by first | exact Kd.R_nil _ _ _ _ _ | exact Kd.N_nil _ _ _ _ _ | exact Kd.V_nil _ _ _ _ _ | exact Kd.Q_nil _ _ _ _ _ | exact Kd.S_nil _ _ _ _ _, by repeat (first | (with_reducible first | exact HB.out | apply below_alloc | apply pw_below_drewN | apply below_drew1) | exact HB.out)⟩
    · rw [if_neg c5] at H
      have c5b0 : decide (20 < (l0.length : Int)) = false := decide_eq_false c5
      have c5b1 : decide (20 < l0.length) = false := decide_eq_false (by omega)
      clear c5
      obtain ⟨y157, hy157⟩ : ∃ y_ : List (S120), y_ = (([] : List (S120))) := ⟨_, rfl⟩
      replace H : (impl_LaterPushes.l0 k a1 y157 l0 (l0.length : Int) 0) = some (r1, r2) := by first | (rw [hy157]; with_reducible exact H) | (have H2_ := (Option.bind_some _ _).symm.trans H; rw [hy157]; with_reducible exact H2_) | (have H2_ := (Option.bind_some _ _).symm.trans H; with_reducible exact H2_) | with_reducible exact H | (rw [hy157]; exact H) | exact H
      have Ny157 := Aside0.mk hy157
      clear hy157
      have H' := Aside0.mk H
      clear H
      go_enter Try.func36, Try.ntmps36
      go_wp2_with (first | ((with_reducible refine gate_callee (f := 98) rfl ?_); refine goesL_ (some 10) rfl rfl Try.func98 (by kernel_rfl) rfl #[.int .i64 a1, .int .i64 (-1000), .int .i64 1000] rfl (by (try simp only [List.map_toArray, List.map_cons, List.map_nil]); first | done | rfl | (simp only [List.length_drop, List.length_take]; rfl)) ?_; (with_reducible refine (impl_in.calls a1 (-1000) 1000 true _ A3.out).mono ?_); rintro e w' ⟨rfl, ⟨nd, rfl⟩⟩; refine ⟨_, rfl, ?_⟩) | ((with_reducible refine gate_dst (N := 15) rfl ?_); refine Kd.R_lit k120 _ 120 ?hg (N := 15) ?hd (xs := ([] : List (S120))) (inner := []) (ok := fun _ => True) (okp := fun _ => True) ?hr ?hp (fun _ hk => hk) trivial (Below.refl _ _) (Nat.le_refl _) (by simp) ?_; (case hd => rfl); (case hg => rfl); (case hr => first | (go_simp; done) | (go_simp; rfl)); (case hp => exact (Reps.none _ _)); intro v158 w6 ho7 hb hg_ hnew_; clear hg_ hnew_; (first | rw [← Ny157.out] at ho7 | (simp only [Int.reduceToNat] at ho7; rw [← Ny157.out] at ho7)); have n0_ := Aside0.mk (Kd.R_lower ho7 (below_size (by repeat (first | (with_reducible first | exact HB.out | apply below_alloc | apply pw_below_drewN | apply below_drew1) | exact HB.out)))); have n1_ := Aside0.mk (below_step (by repeat (first | (with_reducible first | exact HB.out | apply below_alloc | apply pw_below_drewN | apply below_drew1) | exact HB.out)) hb); clear HB; have HO159 := n0_; have HB := n1_; clear n0_ n1_; clear hb ho7))
      go_loopg [6, 18] k (fun kq v6 v18 w' => ∃ (x6_1 : List (S120)) (x18_1 : Int), v18 = .int .i64 x18_1 ∧ Aside0 (impl_LaterPushes.l0 kq a1 x6_1 l0 (l0.length : Int) x18_1 = some (r1, r2)) ∧ Aside0 (kq ≤ k) ∧ Aside0 (Kd.R k120 120 w' w.heap.size (fun _ => True) v6 x6_1) ∧ Aside0 (Below w.heap.size w w'))
      case atStart => exact ⟨(y157), (0), (by first | rfl | (simp; done) | (simp [*]; done) | (exact congrArg (Value.int .i64) (wrap_eq (by omega)))), H', ⟨Nat.le_refl _⟩, ⟨by (with_reducible repeat (first | apply Kd.R_alloc | apply Kd.R_drewN | apply Kd.R_drew)); exact HO159.out⟩, ⟨by repeat (first | (with_reducible first | exact HB.out | apply below_alloc | apply pw_below_drewN | apply below_drew1) | exact HB.out)⟩⟩
      case round =>
        clear H'
        try clear p2
        try clear c3
        try clear c4
        try clear c5
        try clear c5b0
        try clear c5b1
        obtain ⟨x6_1, x18_1, rfl, HA, HK1, HO_6, HB⟩ := hrel
        cases gk with
        | zero => exact absurd HA.out (by simp [impl_LaterPushes.l0])
        | succ k1 =>
          have H := HA.out
          clear HA
          simp only [impl_LaterPushes.l0] at H
          by_cases c8 : x18_1 < (l0.length : Int)
          · rw [if_pos c8] at H
            have c8b0 : decide (x18_1 < (l0.length : Int)) = true := decide_eq_true c8
            clear c8
            by_cases c9 : 0 ≤ x18_1
            · rw [if_pos c9] at H
              have c9b0 : decide (0 ≤ x18_1) = true := decide_eq_true c9
              clear c9
              by_cases c10 : x18_1 < (l0.length : Int)
              · rw [if_pos c10] at H
                have c10b0 : decide (x18_1 < (l0.length : Int)) = true := decide_eq_true c10
                clear c10
                replace H := Option.bind_eq_some_iff.mp H
                obtain ⟨t162, A110, H⟩ := H
                replace H : (if t162 = true then ((impl_in.f (wrap64 ((wrap64 ((rd_T120 l0 x18_1).f2)) + a1)) 0 1000).bind fun t163 => (if t163 = true then (if x6_1.length < 23456248059221 then (impl_LaterPushes.l0 k1 a1 (x6_1 ++ [(⟨(⟨(rd_T120 l0 x18_1).f0.f0, (rd_T120 l0 x18_1).f0.f1⟩ : S74), (rd_T120 l0 x18_1).f1, IntKind.i16.wrap (((rd_T120 l0 x18_1).f2) + (IntKind.i16.wrap (a1)))⟩ : S120)]) l0 (l0.length : Int) (wrap64 (x18_1 + 1))) else (none)) else (some (([] : List (S120)), 3)))) else (some (([] : List (S120)), 3))) = some (r1, r2) := H
                have A11 := Aside0.mk A110
                clear A110
                by_cases c12 : t162 = true
                · subst c12
                  have H1 : ((impl_in.f (wrap64 ((wrap64 ((rd_T120 l0 x18_1).f2)) + a1)) 0 1000).bind fun t163 => (if t163 = true then (if x6_1.length < 23456248059221 then (impl_LaterPushes.l0 k1 a1 (x6_1 ++ [(⟨(⟨(rd_T120 l0 x18_1).f0.f0, (rd_T120 l0 x18_1).f0.f1⟩ : S74), (rd_T120 l0 x18_1).f1, IntKind.i16.wrap (((rd_T120 l0 x18_1).f2) + (IntKind.i16.wrap (a1)))⟩ : S120)]) l0 (l0.length : Int) (wrap64 (x18_1 + 1))) else (none)) else (some (([] : List (S120)), 3)))) = some (r1, r2) := by rw [if_pos rfl] at H; exact H
                  clear H
                  have H := H1
                  clear H1
                  replace H := Option.bind_eq_some_iff.mp H
                  obtain ⟨t163, A130, H⟩ := H
                  replace H : (if t163 = true then (if x6_1.length < 23456248059221 then (impl_LaterPushes.l0 k1 a1 (x6_1 ++ [(⟨(⟨(rd_T120 l0 x18_1).f0.f0, (rd_T120 l0 x18_1).f0.f1⟩ : S74), (rd_T120 l0 x18_1).f1, IntKind.i16.wrap (((rd_T120 l0 x18_1).f2) + (IntKind.i16.wrap (a1)))⟩ : S120)]) l0 (l0.length : Int) (wrap64 (x18_1 + 1))) else (none)) else (some (([] : List (S120)), 3))) = some (r1, r2) := H
                  have A13 := Aside0.mk A130
                  clear A130
                  by_cases c14 : t163 = true
                  · subst c14
                    have H1 : (if x6_1.length < 23456248059221 then (impl_LaterPushes.l0 k1 a1 (x6_1 ++ [(⟨(⟨(rd_T120 l0 x18_1).f0.f0, (rd_T120 l0 x18_1).f0.f1⟩ : S74), (rd_T120 l0 x18_1).f1, IntKind.i16.wrap (((rd_T120 l0 x18_1).f2) + (IntKind.i16.wrap (a1)))⟩ : S120)]) l0 (l0.length : Int) (wrap64 (x18_1 + 1))) else (none)) = some (r1, r2) := by rw [if_pos rfl] at H; exact H
                    clear H
                    have H := H1
                    clear H1
                    by_cases c15 : x6_1.length < 23456248059221
                    · rw [if_pos c15] at H
                      have LMc15 := Aside0.mk c15
                      clear c15
                      obtain ⟨y164, hy164⟩ : ∃ y_ : List (S120), y_ = (x6_1 ++ [(⟨(⟨(rd_T120 l0 x18_1).f0.f0, (rd_T120 l0 x18_1).f0.f1⟩ : S74), (rd_T120 l0 x18_1).f1, IntKind.i16.wrap (((rd_T120 l0 x18_1).f2) + (IntKind.i16.wrap (a1)))⟩ : S120)]) := ⟨_, rfl⟩
                      replace H : (impl_LaterPushes.l0 k1 a1 y164 l0 (l0.length : Int) (wrap64 (x18_1 + 1))) = some (r1, r2) := by first | (rw [hy164]; with_reducible exact H) | (have H2_ := (Option.bind_some _ _).symm.trans H; rw [hy164]; with_reducible exact H2_) | (have H2_ := (Option.bind_some _ _).symm.trans H; with_reducible exact H2_) | with_reducible exact H | (rw [hy164]; exact H) | exact H
                      have Ny164 := Aside0.mk hy164
                      clear hy164
                      have H' := Aside0.mk H
                      clear H
                      have p160 : 0 ≤ (x18_1 : Int) := of_decide_eq_true (by first | (with_reducible assumption) | assumption)
                      have q160 : x18_1 < (l0.length : Int) := of_decide_eq_true (by first | (with_reducible assumption) | assumption)
                      obtain ⟨ad160, e160, hx160_0, hx160_1, hx160_2, hx160_3⟩ := at_T120 HR0.out x18_1 p160 q160
                      cases e160
                      replace hx160_0 := (HB.out.cell (World.block_lt_of_cell? w _ hx160_0)).trans hx160_0
                      replace hx160_1 := (HB.out.cell (World.block_lt_of_cell? w _ hx160_1)).trans hx160_1
                      replace hx160_2 := (HB.out.cell (World.block_lt_of_cell? w _ hx160_2)).trans hx160_2
                      replace hx160_3 := (HB.out.cell (World.block_lt_of_cell? w _ hx160_3)).trans hx160_3
                      replace p160 := eq_true p160
                      replace q160 := eq_true q160
                      go_wp2_with (first | ((with_reducible refine gate_dst (N := 8) rfl ?_); refine box_event ?hg (N := 8) ?hd (cs := #[.int .i8 0, .int .i8 0, .int .i8 0, .int .i16 0]) (t := 120) ?hr ?_; (case hd => rfl); (case hg => rfl); (case hr => first | (go_simp; done) | (go_simp; rfl)); intro gb161 hg w16 hbox hb; have n0_ := Aside0.mk (Kd.R_below (Kd.R_elderB (by (with_reducible repeat (first | apply Kd.R_alloc | apply Kd.R_drewN | apply Kd.R_drew)); exact HO_6.out) gb161 (Nat.le_of_eq hg.symm)) hb); have n1_ := Aside0.mk (below_step (by repeat (first | (with_reducible first | exact HB.out | apply below_alloc | apply pw_below_drewN | apply below_drew1) | exact HB.out)) hb); have n2_ := Aside0.mk (hbox); have n3_ := Aside0.mk ((by rw [hg]; exact (below_size (by repeat (first | (with_reducible first | exact HB.out | apply below_alloc | apply pw_below_drewN | apply below_drew1) | exact HB.out))) : w.heap.size ≤ gb161)); have n4_ := Aside0.mk ((by rw [hg]; exact (below_size (by repeat (first | (with_reducible first | exact HB.out | apply below_alloc | apply pw_below_drewN | apply below_drew1) | exact HB.out))) : w.heap.size ≤ gb161)); clear HO_6; clear HB; have HO_6 := n0_; have HB := n1_; have BK161 := n2_; have GW161 := n3_; have GE161 := n4_; clear n0_ n1_ n2_ n3_ n4_; clear hb hbox hg; have hcz17_0 : w16.cell? ⟨gb161, 0, none⟩ = some (.int .i8 0) := (blk_cell BK161.out 0).trans rfl; have hcz17_1 : w16.cell? ⟨gb161, 1, none⟩ = some (.int .i8 0) := (blk_cell BK161.out 1).trans rfl; have hcz17_2 : w16.cell? ⟨gb161, 2, none⟩ = some (.int .i8 0) := (blk_cell BK161.out 2).trans rfl; have hcz17_3 : w16.cell? ⟨gb161, 3, none⟩ = some (.int .i16 0) := (blk_cell BK161.out 3).trans rfl; have hfz17_0 := blk_frozen BK161.out 0; have hfz17_1 := blk_frozen BK161.out 1; have hfz17_2 := blk_frozen BK161.out 2; have hfz17_3 := blk_frozen BK161.out 3) | ((with_reducible refine gate_callee (f := 98) rfl ?_); refine goesL_ (some 25) rfl rfl Try.func98 (by kernel_rfl) rfl #[.int .i64 (wrap64 ((rd_T120 l0 x18_1).f2)), .int .i64 0, .int .i64 1000] rfl (by (try simp only [List.map_toArray, List.map_cons, List.map_nil]); first | done | rfl | (simp only [List.length_drop, List.length_take]; rfl)) ?_; (with_reducible refine (impl_in.calls (wrap64 ((rd_T120 l0 x18_1).f2)) 0 1000 true _ A11.out).mono ?_); rintro e w' ⟨rfl, ⟨nd, rfl⟩⟩; refine ⟨_, rfl, ?_⟩) | (go_at_call 98; (with_reducible refine (impl_in.calls (wrap64 ((wrap64 ((rd_T120 l0 x18_1).f2)) + a1)) 0 1000 true _ A13.out).mono ?_); rintro e w' ⟨rfl, ⟨nd, rfl⟩⟩) | ((with_reducible refine gate_builtin (b := .append) (xs := #[.tmp 42, .tmp 44]) rfl ?_); at_builtin; refine Kd.R_append k120 (w0 := w) w.heap.size rfl (.tmp 42) (.tmp 44) 32 120 (.agg #[(.int .i8 0), (.int .i8 0), (.int .i8 0), (.int .i16 0)]) 6 rfl Try.underlying32 info120 rfl (by decide) (by omega) u6 x6_1 (⟨(⟨(rd_T120 l0 x18_1).f0.f0, (rd_T120 l0 x18_1).f0.f1⟩ : S74), (rd_T120 l0 x18_1).f1, IntKind.i16.wrap (((rd_T120 l0 x18_1).f2) + (IntKind.i16.wrap (a1)))⟩ : S120) [.int .i8 ((rd_T120 l0 x18_1).f0.f0), .int .i8 ((rd_T120 l0 x18_1).f0.f1), .int .i8 ((rd_T120 l0 x18_1).f1), .int .i16 (IntKind.i16.wrap (((rd_T120 l0 x18_1).f2) + (IntKind.i16.wrap (a1))))] (fun k_ => k_ ≠ gb161) (fun _ => False) rfl (by first | (go_simp; done) | (go_simp; rfl)) ?aP (fun _ hk => hk.elim) ?aF ?aO ?aB ?aS ?aL ?_; (case aP => exact k120_mkM _ _ _ (⟨(⟨(rd_T120 l0 x18_1).f0.f0, (rd_T120 l0 x18_1).f0.f1⟩ : S74), (rd_T120 l0 x18_1).f1, IntKind.i16.wrap (((rd_T120 l0 x18_1).f2) + (IntKind.i16.wrap (a1)))⟩ : S120)); (case aB => exact (by repeat (first | (with_reducible first | exact HB.out | apply below_alloc | apply pw_below_drewN | apply below_drew1 | refine below_set ?_ GE161.out) | exact HB.out))); (case aF => exact (fun k_ hk => Kd.freshB (g := gb161) (o := .cells #[.int .i8 ((rd_T120 l0 x18_1).f0.f0), .int .i8 ((rd_T120 l0 x18_1).f0.f1), .int .i8 ((rd_T120 l0 x18_1).f1), .int .i16 (IntKind.i16.wrap (((rd_T120 l0 x18_1).f2) + (IntKind.i16.wrap (a1))))] 120 (0, 0)) (by (with_reducible repeat (first | refine blk_drewN ?_ _ | refine blk_drew ?_ | refine blk_alloc ?_ _)); refine blk_put (cs := #[.int .i8 ((rd_T120 l0 x18_1).f0.f0), .int .i8 ((rd_T120 l0 x18_1).f0.f1), .int .i8 ((rd_T120 l0 x18_1).f1), .int .i16 ((rd_T120 l0 x18_1).f2)]) ?_ 3 _ rfl; (with_reducible repeat (first | refine blk_drewN ?_ _ | refine blk_drew ?_ | refine blk_alloc ?_ _)); refine blk_put (cs := #[.int .i8 ((rd_T120 l0 x18_1).f0.f0), .int .i8 ((rd_T120 l0 x18_1).f0.f1), .int .i8 ((rd_T120 l0 x18_1).f1), .int .i16 0]) ?_ 3 _ rfl; (with_reducible repeat (first | refine blk_drewN ?_ _ | refine blk_drew ?_ | refine blk_alloc ?_ _)); refine blk_put (cs := #[.int .i8 ((rd_T120 l0 x18_1).f0.f0), .int .i8 ((rd_T120 l0 x18_1).f0.f1), .int .i8 0, .int .i16 0]) ?_ 2 _ rfl; (with_reducible repeat (first | refine blk_drewN ?_ _ | refine blk_drew ?_ | refine blk_alloc ?_ _)); refine blk_put (cs := #[.int .i8 ((rd_T120 l0 x18_1).f0.f0), .int .i8 0, .int .i8 0, .int .i16 0]) ?_ 1 _ rfl; (with_reducible repeat (first | refine blk_drewN ?_ _ | refine blk_drew ?_ | refine blk_alloc ?_ _)); refine blk_put (cs := #[.int .i8 0, .int .i8 0, .int .i8 0, .int .i16 0]) ?_ 0 _ rfl; (with_reducible repeat (first | refine blk_drewN ?_ _ | refine blk_drew ?_ | refine blk_alloc ?_ _)); exact BK161.out) k_ hk)); (case aO => exact (by (with_reducible repeat (first | apply Kd.R_alloc | apply Kd.R_drewN | apply Kd.R_drew)); exact Kd.R_mono (Kd.R_far (p := ⟨gb161, 3, none⟩) (Kd.R_far (p := ⟨gb161, 3, none⟩) (Kd.R_far (p := ⟨gb161, 2, none⟩) (Kd.R_far (p := ⟨gb161, 1, none⟩) (Kd.R_far (p := ⟨gb161, 0, none⟩) (Kd.R_mono HO_6.out (fun k_ hk => (⟨hk, hk.2⟩ : _ ∧ k_ ≠ gb161))) (fun _ hk => hk.2) (.int .i8 ((rd_T120 l0 x18_1).f0.f0))) (fun _ hk => hk.2) (.int .i8 ((rd_T120 l0 x18_1).f0.f1))) (fun _ hk => hk.2) (.int .i8 ((rd_T120 l0 x18_1).f1))) (fun _ hk => hk.2) (.int .i16 ((rd_T120 l0 x18_1).f2))) (fun _ hk => hk.2) (.int .i16 (IntKind.i16.wrap (((rd_T120 l0 x18_1).f2) + (IntKind.i16.wrap (a1)))))) (fun _ hk => hk.1.2))); (case aS => exact (below_size (by repeat (first | (with_reducible first | exact HB.out | apply below_alloc | apply pw_below_drewN | apply below_drew1 | refine below_set ?_ GE161.out) | exact HB.out)))); (case aL => have := LMc15.out; omega); intro v165 w18 ho hb hg hat; rw [← Ny164.out] at ho; have n0_ := Aside0.mk (blk_grown (g := gb161) (o := .cells #[.int .i8 ((rd_T120 l0 x18_1).f0.f0), .int .i8 ((rd_T120 l0 x18_1).f0.f1), .int .i8 ((rd_T120 l0 x18_1).f1), .int .i16 (IntKind.i16.wrap (((rd_T120 l0 x18_1).f2) + (IntKind.i16.wrap (a1))))] 120 (0, 0)) (by (with_reducible repeat (first | refine blk_drewN ?_ _ | refine blk_drew ?_ | refine blk_alloc ?_ _)); refine blk_put (cs := #[.int .i8 ((rd_T120 l0 x18_1).f0.f0), .int .i8 ((rd_T120 l0 x18_1).f0.f1), .int .i8 ((rd_T120 l0 x18_1).f1), .int .i16 ((rd_T120 l0 x18_1).f2)]) ?_ 3 _ rfl; (with_reducible repeat (first | refine blk_drewN ?_ _ | refine blk_drew ?_ | refine blk_alloc ?_ _)); refine blk_put (cs := #[.int .i8 ((rd_T120 l0 x18_1).f0.f0), .int .i8 ((rd_T120 l0 x18_1).f0.f1), .int .i8 ((rd_T120 l0 x18_1).f1), .int .i16 0]) ?_ 3 _ rfl; (with_reducible repeat (first | refine blk_drewN ?_ _ | refine blk_drew ?_ | refine blk_alloc ?_ _)); refine blk_put (cs := #[.int .i8 ((rd_T120 l0 x18_1).f0.f0), .int .i8 ((rd_T120 l0 x18_1).f0.f1), .int .i8 0, .int .i16 0]) ?_ 2 _ rfl; (with_reducible repeat (first | refine blk_drewN ?_ _ | refine blk_drew ?_ | refine blk_alloc ?_ _)); refine blk_put (cs := #[.int .i8 ((rd_T120 l0 x18_1).f0.f0), .int .i8 0, .int .i8 0, .int .i16 0]) ?_ 1 _ rfl; (with_reducible repeat (first | refine blk_drewN ?_ _ | refine blk_drew ?_ | refine blk_alloc ?_ _)); refine blk_put (cs := #[.int .i8 0, .int .i8 0, .int .i8 0, .int .i16 0]) ?_ 0 _ rfl; (with_reducible repeat (first | refine blk_drewN ?_ _ | refine blk_drew ?_ | refine blk_alloc ?_ _)); exact BK161.out) hg (Kd.R_away HO_6.out (fun _ hk => hk.2))); have n1_ := Aside0.mk (hb); have n2_ := Aside0.mk (ho); clear BK161; clear HB; clear HO_6; have BK161 := n0_; have HB := n1_; have HO166 := n2_; clear n0_ n1_ n2_; clear ho hb hg hat))
                      go_roundg k1
                      case measure => have := HK1.out; omega
                      case rel => exact ⟨(y164), (wrap64 (x18_1 + 1)), (by first | rfl | (simp; done) | (simp [*]; done) | (exact congrArg (Value.int .i64) (wrap_eq (by omega)))), H', ⟨by have := HK1.out; omega⟩, ⟨by (with_reducible repeat (first | apply Kd.R_alloc | apply Kd.R_drewN | apply Kd.R_drew)); exact Kd.R_mono HO166.out (fun _ hk => trivial)⟩, ⟨by repeat (first | (with_reducible first | exact HB.out | apply below_alloc | apply pw_below_drewN | apply below_drew1 | refine below_set ?_ GE161.out) | exact HB.out)⟩⟩
                    · rw [if_neg c15] at H
                      exact absurd H (by simp)
                  · replace c14 := Bool.eq_false_iff.mpr c14
                    subst c14
                    have H1 : (some (([] : List (S120)), 3)) = some (r1, r2) := by rw [if_neg (show ¬ (false = true) by decide)] at H; exact H
                    clear H
                    have H := H1
                    clear H1
                    simp only [Option.some.injEq, Prod.mk.injEq] at H
                    obtain ⟨rfl, rfl⟩ := H
                    have p160 : 0 ≤ (x18_1 : Int) := of_decide_eq_true (by first | (with_reducible assumption) | assumption)
                    have q160 : x18_1 < (l0.length : Int) := of_decide_eq_true (by first | (with_reducible assumption) | assumption)
                    obtain ⟨ad160, e160, hx160_0, hx160_1, hx160_2, hx160_3⟩ := at_T120 HR0.out x18_1 p160 q160
                    cases e160
                    replace hx160_0 := (HB.out.cell (World.block_lt_of_cell? w _ hx160_0)).trans hx160_0
                    replace hx160_1 := (HB.out.cell (World.block_lt_of_cell? w _ hx160_1)).trans hx160_1
                    replace hx160_2 := (HB.out.cell (World.block_lt_of_cell? w _ hx160_2)).trans hx160_2
                    replace hx160_3 := (HB.out.cell (World.block_lt_of_cell? w _ hx160_3)).trans hx160_3
                    replace p160 := eq_true p160
                    replace q160 := eq_true q160
                    go_wp2_with (first | ((with_reducible refine gate_dst (N := 8) rfl ?_); refine box_event ?hg (N := 8) ?hd (cs := #[.int .i8 0, .int .i8 0, .int .i8 0, .int .i16 0]) (t := 120) ?hr ?_; (case hd => rfl); (case hg => rfl); (case hr => first | (go_simp; done) | (go_simp; rfl)); intro gb161 hg w19 hbox hb; have n0_ := Aside0.mk (Kd.R_below (Kd.R_elderB (by (with_reducible repeat (first | apply Kd.R_alloc | apply Kd.R_drewN | apply Kd.R_drew)); exact HO_6.out) gb161 (Nat.le_of_eq hg.symm)) hb); have n1_ := Aside0.mk (below_step (by repeat (first | (with_reducible first | exact HB.out | apply below_alloc | apply pw_below_drewN | apply below_drew1) | exact HB.out)) hb); have n2_ := Aside0.mk (hbox); have n3_ := Aside0.mk ((by rw [hg]; exact (below_size (by repeat (first | (with_reducible first | exact HB.out | apply below_alloc | apply pw_below_drewN | apply below_drew1) | exact HB.out))) : w.heap.size ≤ gb161)); have n4_ := Aside0.mk ((by rw [hg]; exact (below_size (by repeat (first | (with_reducible first | exact HB.out | apply below_alloc | apply pw_below_drewN | apply below_drew1) | exact HB.out))) : w.heap.size ≤ gb161)); clear HO_6; clear HB; have HO_6 := n0_; have HB := n1_; have BK161 := n2_; have GW161 := n3_; have GE161 := n4_; clear n0_ n1_ n2_ n3_ n4_; clear hb hbox hg; have hcz20_0 : w19.cell? ⟨gb161, 0, none⟩ = some (.int .i8 0) := (blk_cell BK161.out 0).trans rfl; have hcz20_1 : w19.cell? ⟨gb161, 1, none⟩ = some (.int .i8 0) := (blk_cell BK161.out 1).trans rfl; have hcz20_2 : w19.cell? ⟨gb161, 2, none⟩ = some (.int .i8 0) := (blk_cell BK161.out 2).trans rfl; have hcz20_3 : w19.cell? ⟨gb161, 3, none⟩ = some (.int .i16 0) := (blk_cell BK161.out 3).trans rfl; have hfz20_0 := blk_frozen BK161.out 0; have hfz20_1 := blk_frozen BK161.out 1; have hfz20_2 := blk_frozen BK161.out 2; have hfz20_3 := blk_frozen BK161.out 3) | ((with_reducible refine gate_callee (f := 98) rfl ?_); refine goesL_ (some 25) rfl rfl Try.func98 (by kernel_rfl) rfl #[.int .i64 (wrap64 ((rd_T120 l0 x18_1).f2)), .int .i64 0, .int .i64 1000] rfl (by (try simp only [List.map_toArray, List.map_cons, List.map_nil]); first | done | rfl | (simp only [List.length_drop, List.length_take]; rfl)) ?_; (with_reducible refine (impl_in.calls (wrap64 ((rd_T120 l0 x18_1).f2)) 0 1000 true _ A11.out).mono ?_); rintro e w' ⟨rfl, ⟨nd, rfl⟩⟩; refine ⟨_, rfl, ?_⟩) | (go_at_call 98; (with_reducible refine (impl_in.calls (wrap64 ((wrap64 ((rd_T120 l0 x18_1).f2)) + a1)) 0 1000 false _ A13.out).mono ?_); rintro e w' ⟨rfl, ⟨nd, rfl⟩⟩))
                    go_ret2
                    exact ⟨_, by first | rfl | (simp [errW_none, errW_some] <;> rfl) | (simp [*, errW_none, errW_some] <;> rfl), by first | exact Kd.R_nil _ _ _ _ _ | exact Kd.N_nil _ _ _ _ _ | exact Kd.V_nil _ _ _ _ _ | exact Kd.Q_nil _ _ _ _ _ | exact Kd.S_nil _ _ _ _ _, by repeat (first | (with_reducible first | exact HB.out | apply below_alloc | apply pw_below_drewN | apply below_drew1 | refine below_set ?_ GE161.out) | exact HB.out)⟩
                · replace c12 := Bool.eq_false_iff.mpr c12
                  subst c12
                  have H1 : (some (([] : List (S120)), 3)) = some (r1, r2) := by rw [if_neg (show ¬ (false = true) by decide)] at H; exact H
                  clear H
                  have H := H1
                  clear H1
                  simp only [Option.some.injEq, Prod.mk.injEq] at H
                  obtain ⟨rfl, rfl⟩ := H
                  have p160 : 0 ≤ (x18_1 : Int) := of_decide_eq_true (by first | (with_reducible assumption) | assumption)
                  have q160 : x18_1 < (l0.length : Int) := of_decide_eq_true (by first | (with_reducible assumption) | assumption)
                  obtain ⟨ad160, e160, hx160_0, hx160_1, hx160_2, hx160_3⟩ := at_T120 HR0.out x18_1 p160 q160
                  cases e160
                  replace hx160_0 := (HB.out.cell (World.block_lt_of_cell? w _ hx160_0)).trans hx160_0
                  replace hx160_1 := (HB.out.cell (World.block_lt_of_cell? w _ hx160_1)).trans hx160_1
                  replace hx160_2 := (HB.out.cell (World.block_lt_of_cell? w _ hx160_2)).trans hx160_2
                  replace hx160_3 := (HB.out.cell (World.block_lt_of_cell? w _ hx160_3)).trans hx160_3
                  replace p160 := eq_true p160
                  replace q160 := eq_true q160
                  go_wp2_with (first | ((with_reducible refine gate_dst (N := 8) rfl ?_); refine box_event ?hg (N := 8) ?hd (cs := #[.int .i8 0, .int .i8 0, .int .i8 0, .int .i16 0]) (t := 120) ?hr ?_; (case hd => rfl); (case hg => rfl); (case hr => first | (go_simp; done) | (go_simp; rfl)); intro gb161 hg w21 hbox hb; have n0_ := Aside0.mk (Kd.R_below (Kd.R_elderB (by (with_reducible repeat (first | apply Kd.R_alloc | apply Kd.R_drewN | apply Kd.R_drew)); exact HO_6.out) gb161 (Nat.le_of_eq hg.symm)) hb); have n1_ := Aside0.mk (below_step (by repeat (first | (with_reducible first | exact HB.out | apply below_alloc | apply pw_below_drewN | apply below_drew1) | exact HB.out)) hb); have n2_ := Aside0.mk (hbox); have n3_ := Aside0.mk ((by rw [hg]; exact (below_size (by repeat (first | (with_reducible first | exact HB.out | apply below_alloc | apply pw_below_drewN | apply below_drew1) | exact HB.out))) : w.heap.size ≤ gb161)); have n4_ := Aside0.mk ((by rw [hg]; exact (below_size (by repeat (first | (with_reducible first | exact HB.out | apply below_alloc | apply pw_below_drewN | apply below_drew1) | exact HB.out))) : w.heap.size ≤ gb161)); clear HO_6; clear HB; have HO_6 := n0_; have HB := n1_; have BK161 := n2_; have GW161 := n3_; have GE161 := n4_; clear n0_ n1_ n2_ n3_ n4_; clear hb hbox hg; have hcz22_0 : w21.cell? ⟨gb161, 0, none⟩ = some (.int .i8 0) := (blk_cell BK161.out 0).trans rfl; have hcz22_1 : w21.cell? ⟨gb161, 1, none⟩ = some (.int .i8 0) := (blk_cell BK161.out 1).trans rfl; have hcz22_2 : w21.cell? ⟨gb161, 2, none⟩ = some (.int .i8 0) := (blk_cell BK161.out 2).trans rfl; have hcz22_3 : w21.cell? ⟨gb161, 3, none⟩ = some (.int .i16 0) := (blk_cell BK161.out 3).trans rfl; have hfz22_0 := blk_frozen BK161.out 0; have hfz22_1 := blk_frozen BK161.out 1; have hfz22_2 := blk_frozen BK161.out 2; have hfz22_3 := blk_frozen BK161.out 3) | ((with_reducible refine gate_callee (f := 98) rfl ?_); refine goesL_ (some 25) rfl rfl Try.func98 (by kernel_rfl) rfl #[.int .i64 (wrap64 ((rd_T120 l0 x18_1).f2)), .int .i64 0, .int .i64 1000] rfl (by (try simp only [List.map_toArray, List.map_cons, List.map_nil]); first | done | rfl | (simp only [List.length_drop, List.length_take]; rfl)) ?_; (with_reducible refine (impl_in.calls (wrap64 ((rd_T120 l0 x18_1).f2)) 0 1000 false _ A11.out).mono ?_); rintro e w' ⟨rfl, ⟨nd, rfl⟩⟩; refine ⟨_, rfl, ?_⟩))
                  go_ret2
                  exact ⟨_, by first | rfl | (simp [errW_none, errW_some] <;> rfl) | (simp [*, errW_none, errW_some] <;> rfl), by first | exact Kd.R_nil _ _ _ _ _ | exact Kd.N_nil _ _ _ _ _ | exact Kd.V_nil _ _ _ _ _ | exact Kd.Q_nil _ _ _ _ _ | exact Kd.S_nil _ _ _ _ _, by repeat (first | (with_reducible first | exact HB.out | apply below_alloc | apply pw_below_drewN | apply below_drew1 | refine below_set ?_ GE161.out) | exact HB.out)⟩
              · rw [if_neg c10] at H
                exact absurd H (by simp)
            · rw [if_neg c9] at H
              exact absurd H (by simp)
          · rw [if_neg c8] at H
            have c8b0 : decide (x18_1 < (l0.length : Int)) = false := decide_eq_false c8
            clear c8
            simp only [Option.some.injEq, Prod.mk.injEq] at H
            obtain ⟨rfl, rfl⟩ := H
            go_wp2
            go_ret2
            exact ⟨_, by first | rfl | (simp [errW_none, errW_some] <;> rfl) | (simp [*, errW_none, errW_some] <;> rfl), by (with_reducible repeat (first | apply Kd.R_alloc | apply Kd.R_drewN | apply Kd.R_drew)); exact HO_6.out, by repeat (first | (with_reducible first | exact HB.out | apply below_alloc | apply pw_below_drewN | apply below_drew1) | exact HB.out)⟩
  · replace c4 := Bool.eq_false_iff.mpr c4
    subst c4
    have H1 : (some (([] : List (S120)), 2)) = some (r1, r2) := by rw [if_neg (show ¬ (false = true) by decide)] at H; exact H
    clear H
    have H := H1
    clear H1
    simp only [Option.some.injEq, Prod.mk.injEq] at H
    obtain ⟨rfl, rfl⟩ := H
    go_enter Try.func36, Try.ntmps36
    go_wp2_with (first | ((with_reducible refine gate_callee (f := 98) rfl ?_); refine goesL_ (some 10) rfl rfl Try.func98 (by kernel_rfl) rfl #[.int .i64 a1, .int .i64 (-1000), .int .i64 1000] rfl (by (try simp only [List.map_toArray, List.map_cons, List.map_nil]); first | done | rfl | (simp only [List.length_drop, List.length_take]; rfl)) ?_; (with_reducible refine (impl_in.calls a1 (-1000) 1000 false _ A3.out).mono ?_); rintro e w' ⟨rfl, ⟨nd, rfl⟩⟩; refine ⟨_, rfl, ?_⟩))
    go_ret2
    exact ⟨_, by first | rfl | (simp [errW_none, errW_some] <;> rfl) | (simp [*, errW_none, errW_some] <;> rfl), by first | exact Kd.R_nil _ _ _ _ _ | exact Kd.N_nil _ _ _ _ _ | exact Kd.V_nil _ _ _ _ _ | exact Kd.Q_nil _ _ _ _ _ | exact Kd.S_nil _ _ _ _ _, by repeat (first | (with_reducible first | exact HB.out | apply below_alloc | apply pw_below_drewN | apply below_drew1) | exact HB.out)⟩

end Go.Proofs.Ytffnfpnajkgnaaa.PFnExactLaterPushes
