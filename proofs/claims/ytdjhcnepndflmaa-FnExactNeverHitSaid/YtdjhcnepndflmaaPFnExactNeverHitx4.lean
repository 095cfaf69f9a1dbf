-- WRITTEN by xprint.py, a program of this session's. Not trusted: Lean checks it.
import Derived.Test.YtdjhcnepndflmaaPFnExactNeverHitx0
import Derived.Test.YtdjhcnepndflmaaPFnExactNeverHitx1
namespace Go.Proofs.Ytdjhcnepndflmaa.PFnExactNeverHit
open Go.RowKit Go.Proofs.YtdjhcnepndflmaaW.PrintWords Go.Proofs.YtdjhcnepndflmaaW.PrintLast Go.Proofs.YtdjhcnepndflmaaW.PrintMore Go.Proofs.YtdjhcnepndflmaaX
attribute [local go_sem] max2_int min2_int max_two min_two max_three min_three max_four min_four   -- for this text's walks alone
set_option linter.unusedVariables false
set_option linter.unusedSimpArgs false

attribute [local go_sem high] eqA34
/-! ### spec_l01Find: function 26 -/
def spec_l01Find.l0 : Nat → List (S30) → Int → Int → Int → Option (Int)
  | 0, _, _, _, _ => none
  | k + 1, x0, x5, x147000, x147001 => if 0 < (x0.length : Int) then (if x5 < (((rd_T30 x0 0).f2).length : Int) then (if 0 ≤ x5 then (if (((rd_T62 ((rd_T30 x0 0).f2) x5).f0.f0) == x147000 && (((rd_T62 ((rd_T30 x0 0).f2) x5).f0.f1) == x147001)) = true then (some x5) else (spec_l01Find.l0 k x0 (wrap64 (x5 + 1)) x147000 x147001)) else (none)) else (some (-1))) else (none)
def spec_l01Find.f (k : Nat) (l0 : List (S30)) (a1_0 : Int) (a1_1 : Int) : Option (Int) := spec_l01Find.l0 k l0 0 a1_0 a1_1
theorem spec_l01Find.mono_l : ∀ k, (∀ y0 y1 y2 y3, LeO (spec_l01Find.l0 k y0 y1 y2 y3) (spec_l01Find.l0 (k + 1) y0 y1 y2 y3))
  | 0 => fun _ _ _ _ r h => by simp [spec_l01Find.l0] at h
  | k + 1 => by
    have ih0 := spec_l01Find.mono_l k
    · intro y0 y1 y2 y3
      unfold spec_l01Find.l0
      repeat' first
      | (with_reducible exact ih0 _ _ _ _)
      | (with_reducible exact LeO.refl _)
      | (with_reducible exact LeO.none _)
      | (with_reducible refine LeO.ite ?_ ?_)
      | (with_reducible refine LeO.bind ?_ (fun _ => ?_))
      | exact ih0 _ _ _ _
      | exact LeO.none _
      | refine LeO.ite ?_ ?_
      | refine LeO.bind ?_ (fun _ => ?_)
theorem spec_l01Find.mono : ∀ a0 a1 a2 k, LeO (spec_l01Find.f k a0 a1 a2) (spec_l01Find.f (k + 1) a0 a1 a2) := by
  intro a0 a1 a2 k
  have ih0 := spec_l01Find.mono_l k
  unfold spec_l01Find.f
  repeat' first
      | (with_reducible exact ih0 _ _ _ _)
      | (with_reducible exact LeO.refl _)
      | (with_reducible exact LeO.none _)
      | (with_reducible refine LeO.ite ?_ ?_)
      | (with_reducible refine LeO.bind ?_ (fun _ => ?_))
      | exact ih0 _ _ _ _
      | exact LeO.none _
      | refine LeO.ite ?_ ?_
      | refine LeO.bind ?_ (fun _ => ?_)
set_option maxHeartbeats 8000000 in
set_option maxRecDepth 100000 in
theorem spec_l01Find.calls (k : Nat) (adp0 : Addr) (l0 : List (S30)) (a1_0 : Int) (a1_1 : Int) (r : Int) (w : World) (hr0 : Kd.C k30 w (some adp0) l0.length l0) (h : spec_l01Find.f k l0 a1_0 a1_1 = some r) :
    Calls Try.prog 26 #[.pointer (some adp0), .agg #[.int .i8 a1_0, .int .i8 a1_1]] w fun e w' => e = .returned (.int .i64 r) ∧ Below w.heap.size w w' := by
  have hu34 := Try.underlying34
  have HR0 := Aside0.mk hr0
  clear hr0
  have HB := Aside0.mk (Below.refl w.heap.size w)
  have H : (spec_l01Find.l0 k l0 0 a1_0 a1_1) = some r := h
  clear h
  have H' := Aside0.mk H
  clear H
  go_enter Try.func26, Try.ntmps26
  go_wp2_with (first | ((with_reducible refine gate_dst (N := 3) rfl ?_); refine box_event ?hg (N := 3) ?hd (cs := #[.int .i8 a1_0, .int .i8 a1_1]) (t := 34) ?hr ?_; (case hd => rfl); (case hg => rfl); (case hr => first | (go_simp; done) | (go_simp; rfl)); intro gb146 hg w3 hbox hb; have n0_ := Aside0.mk (below_step (by repeat (first | (with_reducible first | exact HB.out | apply below_alloc | apply pw_below_drewN | apply below_drew1) | exact HB.out)) hb); have n1_ := Aside0.mk (hbox); have n2_ := Aside0.mk ((by rw [hg]; exact (below_size (by repeat (first | (with_reducible first | exact HB.out | apply below_alloc | apply pw_below_drewN | apply below_drew1) | exact HB.out))) : w.heap.size ≤ gb146)); have n3_ := Aside0.mk ((by rw [hg]; exact (below_size (by repeat (first | (with_reducible first | exact HB.out | apply below_alloc | apply pw_below_drewN | apply below_drew1) | exact HB.out))) : w.heap.size ≤ gb146)); clear HB; have HB := n0_; have BK146 := n1_; have GW146 := n2_; have GE146 := n3_; clear n0_ n1_ n2_ n3_; clear hb hbox hg))
  repeat (go_quiet (first | ((with_reducible refine gate_dst (N := 3) rfl ?_); refine box_event ?hg (N := 3) ?hd (cs := #[.int .i8 a1_0, .int .i8 a1_1]) (t := 34) ?hr ?_; (case hd => rfl); (case hg => rfl); (case hr => first | (go_simp; done) | (go_simp; rfl)); intro gb146 hg w3 hbox hb; have n0_ := Aside0.mk (below_step (by repeat (first | (with_reducible first | exact HB.out | apply below_alloc | apply pw_below_drewN | apply below_drew1) | exact HB.out)) hb); have n1_ := Aside0.mk (hbox); have n2_ := Aside0.mk ((by rw [hg]; exact (below_size (by repeat (first | (with_reducible first | exact HB.out | apply below_alloc | apply pw_below_drewN | apply below_drew1) | exact HB.out))) : w.heap.size ≤ gb146)); have n3_ := Aside0.mk ((by rw [hg]; exact (below_size (by repeat (first | (with_reducible first | exact HB.out | apply below_alloc | apply pw_below_drewN | apply below_drew1) | exact HB.out))) : w.heap.size ≤ gb146)); clear HB; have HB := n0_; have BK146 := n1_; have GW146 := n2_; have GE146 := n3_; clear n0_ n1_ n2_ n3_; clear hb hbox hg)); try go_wp2_with (first | ((with_reducible refine gate_dst (N := 3) rfl ?_); refine box_event ?hg (N := 3) ?hd (cs := #[.int .i8 a1_0, .int .i8 a1_1]) (t := 34) ?hr ?_; (case hd => rfl); (case hg => rfl); (case hr => first | (go_simp; done) | (go_simp; rfl)); intro gb146 hg w3 hbox hb; have n0_ := Aside0.mk (below_step (by repeat (first | (with_reducible first | exact HB.out | apply below_alloc | apply pw_below_drewN | apply below_drew1) | exact HB.out)) hb); have n1_ := Aside0.mk (hbox); have n2_ := Aside0.mk ((by rw [hg]; exact (below_size (by repeat (first | (with_reducible first | exact HB.out | apply below_alloc | apply pw_below_drewN | apply below_drew1) | exact HB.out))) : w.heap.size ≤ gb146)); have n3_ := Aside0.mk ((by rw [hg]; exact (below_size (by repeat (first | (with_reducible first | exact HB.out | apply below_alloc | apply pw_below_drewN | apply below_drew1) | exact HB.out))) : w.heap.size ≤ gb146)); clear HB; have HB := n0_; have BK146 := n1_; have GW146 := n2_; have GE146 := n3_; clear n0_ n1_ n2_ n3_; clear hb hbox hg)))
  go_loopg [5] k (fun kq v5 w' => ∃ (x5_1 : Int), v5 = .int .i64 x5_1 ∧ Aside0 (spec_l01Find.l0 kq l0 x5_1 a1_0 a1_1 = some r) ∧ Aside0 (kq ≤ k) ∧ Aside0 (w'.heap[gb146]? = some (.cells #[.int .i8 a1_0, .int .i8 a1_1] 34 (0, 0))) ∧ Aside0 (Below w.heap.size w w'))
  case atStart => exact ⟨(0), (by first | rfl | (simp; done) | (simp [*]; done) | (exact congrArg (Value.int .i64) (wrap_eq (by omega)))), H', ⟨Nat.le_refl _⟩, ⟨by (with_reducible repeat (first | refine blk_drewN ?_ _ | refine blk_drew ?_ | refine blk_alloc ?_ _)); exact BK146.out⟩, ⟨by repeat (first | (with_reducible first | exact HB.out | apply below_alloc | apply pw_below_drewN | apply below_drew1 | refine below_set ?_ GE146.out) | exact HB.out)⟩⟩
  case round =>
    clear H'
    try clear c2
    try clear p2
    obtain ⟨x5_1, rfl, HA, HK1, BK146, HB⟩ := hrel
    cases gk with
    | zero => exact absurd HA.out (by simp [spec_l01Find.l0])
    | succ k1 =>
      have H := HA.out
      clear HA
      simp only [spec_l01Find.l0] at H
      by_cases c4 : 0 < (l0.length : Int)
      · rw [if_pos c4] at H
        have c4b0 : decide (0 < (l0.length : Int)) = true := decide_eq_true c4
        have c4b1 : decide (0 < l0.length) = true := decide_eq_true (by omega)
        clear c4
        by_cases c5 : x5_1 < (((rd_T30 l0 0).f2).length : Int)
        · rw [if_pos c5] at H
          have c5b0 : decide (x5_1 < (((rd_T30 l0 0).f2).length : Int)) = true := decide_eq_true c5
          clear c5
          by_cases c6 : 0 ≤ x5_1
          · rw [if_pos c6] at H
            have c6b0 : decide (0 ≤ x5_1) = true := decide_eq_true c6
            clear c6
            by_cases c7 : (((rd_T62 ((rd_T30 l0 0).f2) x5_1).f0.f0) == a1_0 && (((rd_T62 ((rd_T30 l0 0).f2) x5_1).f0.f1) == a1_1)) = true
            · rw [if_pos c7] at H
              have c7b0 : (((rd_T62 ((rd_T30 l0 0).f2) x5_1).f0.f0) == a1_0 && (((rd_T62 ((rd_T30 l0 0).f2) x5_1).f0.f1) == a1_1)) = true := c7
              (try (have c7b1 : decide (((rd_T62 ((rd_T30 l0 0).f2) x5_1).f0.f0) = a1_0 && (((rd_T62 ((rd_T30 l0 0).f2) x5_1).f0.f1) == a1_1)) = true := by first | (simpa using c7) | (have h_ := c7; revert h_; cases ((rd_T62 ((rd_T30 l0 0).f2) x5_1).f0.f0) <;> cases a1_0 && (((rd_T62 ((rd_T30 l0 0).f2) x5_1).f0.f1) == a1_1) <;> decide)))
              (try (have c7b2 : (((rd_T62 ((rd_T30 l0 0).f2) x5_1).f0.f0) == a1_0 && (((rd_T62 ((rd_T30 l0 0).f2) x5_1).f0.f1) == a1_1)) = true := by first | (simpa using c7) | (have h_ := c7; revert h_; cases ((rd_T62 ((rd_T30 l0 0).f2) x5_1).f0.f0) <;> cases a1_0 && (((rd_T62 ((rd_T30 l0 0).f2) x5_1).f0.f1) == a1_1) <;> decide)))
              clear c7
              obtain rfl := Option.some.inj H
              have p147 : 0 ≤ (0 : Int) := (by omega)
              have q147 : 0 < (l0.length : Int) := of_decide_eq_true (by first | (with_reducible assumption) | assumption)
              obtain ⟨ad147, A147_2, c147_2, e147, hx147_0, hx147_1, hx147_2, hl147_2, hi147_2⟩ := at_T30 HR0.out 0 p147 q147
              obtain rfl : adp0 = ad147 := (by injection e147)
              have qi147 : (0 < l0.length) = True := eq_true (by omega)
              (try rw [show ((0 : Int)).toNat = 0 from rfl] at hx147_0)
              (try rw [show 0 * 3 = 0 from rfl] at hx147_0)
              (try rw [Addr.add_zero'] at hx147_0)
              (try rw [show ((0 : Int)).toNat = 0 from rfl] at hx147_1)
              (try rw [show 0 * 3 = 0 from rfl] at hx147_1)
              (try rw [Addr.add_zero'] at hx147_1)
              (try rw [show ((0 : Int)).toNat = 0 from rfl] at hx147_2)
              (try rw [show 0 * 3 = 0 from rfl] at hx147_2)
              (try rw [Addr.add_zero'] at hx147_2)
              replace hx147_0 := (HB.out.cell (World.block_lt_of_cell? w _ hx147_0)).trans hx147_0
              replace hx147_1 := (HB.out.cell (World.block_lt_of_cell? w _ hx147_1)).trans hx147_1
              replace hx147_2 := (HB.out.cell (World.block_lt_of_cell? w _ hx147_2)).trans hx147_2
              have HR147_2 := Aside0.mk hi147_2
              have HC147_2 := Aside0.mk hl147_2
              clear hi147_2 hl147_2
              replace p147 := eq_true p147
              replace q147 := eq_true q147
              have p148 : 0 ≤ (0 : Int) := (by omega)
              have q148 : 0 < (l0.length : Int) := of_decide_eq_true (by first | (with_reducible assumption) | assumption)
              obtain ⟨ad148, A148_2, c148_2, e148, hx148_0, hx148_1, hx148_2, hl148_2, hi148_2⟩ := at_T30 HR0.out 0 p148 q148
              obtain rfl : adp0 = ad148 := (by injection e148)
              have qi148 : (0 < l0.length) = True := eq_true (by omega)
              (try rw [show ((0 : Int)).toNat = 0 from rfl] at hx148_0)
              (try rw [show 0 * 3 = 0 from rfl] at hx148_0)
              (try rw [Addr.add_zero'] at hx148_0)
              (try rw [show ((0 : Int)).toNat = 0 from rfl] at hx148_1)
              (try rw [show 0 * 3 = 0 from rfl] at hx148_1)
              (try rw [Addr.add_zero'] at hx148_1)
              (try rw [show ((0 : Int)).toNat = 0 from rfl] at hx148_2)
              (try rw [show 0 * 3 = 0 from rfl] at hx148_2)
              (try rw [Addr.add_zero'] at hx148_2)
              replace hx148_0 := (HB.out.cell (World.block_lt_of_cell? w _ hx148_0)).trans hx148_0
              replace hx148_1 := (HB.out.cell (World.block_lt_of_cell? w _ hx148_1)).trans hx148_1
              replace hx148_2 := (HB.out.cell (World.block_lt_of_cell? w _ hx148_2)).trans hx148_2
              have HR148_2 := Aside0.mk hi148_2
              have HC148_2 := Aside0.mk hl148_2
              clear hi148_2 hl148_2
              replace p148 := eq_true p148
              replace q148 := eq_true q148
              have ea_ := Option.some.inj (hx147_2.symm.trans hx148_2)
              injection ea_ with ea_ en_ ec_
              subst ea_
              subst ec_
              clear en_
              have p149 : 0 ≤ (x5_1 : Int) := of_decide_eq_true (by first | (with_reducible assumption) | assumption)
              have q149 : x5_1 < (((rd_T30 l0 0).f2).length : Int) := of_decide_eq_true (by first | (with_reducible assumption) | assumption)
              obtain ⟨ad149, e149, hx149_0, hx149_1, hx149_2, hx149_3, hx149_4⟩ := at_T62 HR148_2.out x5_1 p149 q149
              cases e149
              replace hx149_0 := (HB.out.cell (World.block_lt_of_cell? w _ hx149_0)).trans hx149_0
              replace hx149_1 := (HB.out.cell (World.block_lt_of_cell? w _ hx149_1)).trans hx149_1
              replace hx149_2 := (HB.out.cell (World.block_lt_of_cell? w _ hx149_2)).trans hx149_2
              replace hx149_3 := (HB.out.cell (World.block_lt_of_cell? w _ hx149_3)).trans hx149_3
              replace hx149_4 := (HB.out.cell (World.block_lt_of_cell? w _ hx149_4)).trans hx149_4
              replace p149 := eq_true p149
              replace q149 := eq_true q149
              have hcz8_0 : wr.cell? ⟨gb146, 0, none⟩ = some (.int .i8 a1_0) := (blk_cell BK146.out 0).trans rfl
              have hcz8_1 : wr.cell? ⟨gb146, 1, none⟩ = some (.int .i8 a1_1) := (blk_cell BK146.out 1).trans rfl
              have hfz8_0 := blk_frozen BK146.out 0
              have hfz8_1 := blk_frozen BK146.out 1
              go_wp2
              repeat (go_quiet (fail); try go_wp2)
              go_ret
              exact ⟨by first | rfl | (simp [errW_none, errW_some] <;> rfl) | (simp [*, errW_none, errW_some] <;> rfl), by repeat (first | (with_reducible first | exact HB.out | apply below_alloc | apply pw_below_drewN | apply below_drew1 | refine below_set ?_ GE146.out) | exact HB.out)⟩
            · rw [if_neg c7] at H
              have c7b0 : (((rd_T62 ((rd_T30 l0 0).f2) x5_1).f0.f0) == a1_0 && (((rd_T62 ((rd_T30 l0 0).f2) x5_1).f0.f1) == a1_1)) = false := by simpa using c7
              (try (have c7b1 : decide (((rd_T62 ((rd_T30 l0 0).f2) x5_1).f0.f0) = a1_0 && (((rd_T62 ((rd_T30 l0 0).f2) x5_1).f0.f1) == a1_1)) = false := by first | (simpa using c7) | (have h_ := c7; revert h_; cases ((rd_T62 ((rd_T30 l0 0).f2) x5_1).f0.f0) <;> cases a1_0 && (((rd_T62 ((rd_T30 l0 0).f2) x5_1).f0.f1) == a1_1) <;> decide)))
              (try (have c7b2 : (((rd_T62 ((rd_T30 l0 0).f2) x5_1).f0.f0) == a1_0 && (((rd_T62 ((rd_T30 l0 0).f2) x5_1).f0.f1) == a1_1)) = false := by first | (simpa using c7) | (have h_ := c7; revert h_; cases ((rd_T62 ((rd_T30 l0 0).f2) x5_1).f0.f0) <;> cases a1_0 && (((rd_T62 ((rd_T30 l0 0).f2) x5_1).f0.f1) == a1_1) <;> decide)))
              (try (have c7b3 : ¬ (((rd_T62 ((rd_T30 l0 0).f2) x5_1).f0.f0) = a1_0 && (((rd_T62 ((rd_T30 l0 0).f2) x5_1).f0.f1) == a1_1)) := by simpa using c7))
              clear c7
              have H' := Aside0.mk H
              clear H
              have p147 : 0 ≤ (0 : Int) := (by omega)
              have q147 : 0 < (l0.length : Int) := of_decide_eq_true (by first | (with_reducible assumption) | assumption)
              obtain ⟨ad147, A147_2, c147_2, e147, hx147_0, hx147_1, hx147_2, hl147_2, hi147_2⟩ := at_T30 HR0.out 0 p147 q147
              obtain rfl : adp0 = ad147 := (by injection e147)
              have qi147 : (0 < l0.length) = True := eq_true (by omega)
              (try rw [show ((0 : Int)).toNat = 0 from rfl] at hx147_0)
              (try rw [show 0 * 3 = 0 from rfl] at hx147_0)
              (try rw [Addr.add_zero'] at hx147_0)
              (try rw [show ((0 : Int)).toNat = 0 from rfl] at hx147_1)
              (try rw [show 0 * 3 = 0 from rfl] at hx147_1)
              (try rw [Addr.add_zero'] at hx147_1)
              (try rw [show ((0 : Int)).toNat = 0 from rfl] at hx147_2)
              (try rw [show 0 * 3 = 0 from rfl] at hx147_2)
              (try rw [Addr.add_zero'] at hx147_2)
              replace hx147_0 := (HB.out.cell (World.block_lt_of_cell? w _ hx147_0)).trans hx147_0
              replace hx147_1 := (HB.out.cell (World.block_lt_of_cell? w _ hx147_1)).trans hx147_1
              replace hx147_2 := (HB.out.cell (World.block_lt_of_cell? w _ hx147_2)).trans hx147_2
              have HR147_2 := Aside0.mk hi147_2
              have HC147_2 := Aside0.mk hl147_2
              clear hi147_2 hl147_2
              replace p147 := eq_true p147
              replace q147 := eq_true q147
              have p148 : 0 ≤ (0 : Int) := (by omega)
              have q148 : 0 < (l0.length : Int) := of_decide_eq_true (by first | (with_reducible assumption) | assumption)
              obtain ⟨ad148, A148_2, c148_2, e148, hx148_0, hx148_1, hx148_2, hl148_2, hi148_2⟩ := at_T30 HR0.out 0 p148 q148
              obtain rfl : adp0 = ad148 := (by injection e148)
              have qi148 : (0 < l0.length) = True := eq_true (by omega)
              (try rw [show ((0 : Int)).toNat = 0 from rfl] at hx148_0)
              (try rw [show 0 * 3 = 0 from rfl] at hx148_0)
              (try rw [Addr.add_zero'] at hx148_0)
              (try rw [show ((0 : Int)).toNat = 0 from rfl] at hx148_1)
              (try rw [show 0 * 3 = 0 from rfl] at hx148_1)
              (try rw [Addr.add_zero'] at hx148_1)
              (try rw [show ((0 : Int)).toNat = 0 from rfl] at hx148_2)
              (try rw [show 0 * 3 = 0 from rfl] at hx148_2)
              (try rw [Addr.add_zero'] at hx148_2)
              replace hx148_0 := (HB.out.cell (World.block_lt_of_cell? w _ hx148_0)).trans hx148_0
              replace hx148_1 := (HB.out.cell (World.block_lt_of_cell? w _ hx148_1)).trans hx148_1
              replace hx148_2 := (HB.out.cell (World.block_lt_of_cell? w _ hx148_2)).trans hx148_2
              have HR148_2 := Aside0.mk hi148_2
              have HC148_2 := Aside0.mk hl148_2
              clear hi148_2 hl148_2
              replace p148 := eq_true p148
              replace q148 := eq_true q148
              have ea_ := Option.some.inj (hx147_2.symm.trans hx148_2)
              injection ea_ with ea_ en_ ec_
              subst ea_
              subst ec_
              clear en_
              have p149 : 0 ≤ (x5_1 : Int) := of_decide_eq_true (by first | (with_reducible assumption) | assumption)
              have q149 : x5_1 < (((rd_T30 l0 0).f2).length : Int) := of_decide_eq_true (by first | (with_reducible assumption) | assumption)
              obtain ⟨ad149, e149, hx149_0, hx149_1, hx149_2, hx149_3, hx149_4⟩ := at_T62 HR148_2.out x5_1 p149 q149
              cases e149
              replace hx149_0 := (HB.out.cell (World.block_lt_of_cell? w _ hx149_0)).trans hx149_0
              replace hx149_1 := (HB.out.cell (World.block_lt_of_cell? w _ hx149_1)).trans hx149_1
              replace hx149_2 := (HB.out.cell (World.block_lt_of_cell? w _ hx149_2)).trans hx149_2
              replace hx149_3 := (HB.out.cell (World.block_lt_of_cell? w _ hx149_3)).trans hx149_3
              replace hx149_4 := (HB.out.cell (World.block_lt_of_cell? w _ hx149_4)).trans hx149_4
              replace p149 := eq_true p149
              replace q149 := eq_true q149
              have hcz9_0 : wr.cell? ⟨gb146, 0, none⟩ = some (.int .i8 a1_0) := (blk_cell BK146.out 0).trans rfl
              have hcz9_1 : wr.cell? ⟨gb146, 1, none⟩ = some (.int .i8 a1_1) := (blk_cell BK146.out 1).trans rfl
              have hfz9_0 := blk_frozen BK146.out 0
              have hfz9_1 := blk_frozen BK146.out 1
              go_wp2
              repeat (go_quiet (fail); try go_wp2)
              go_roundg k1
              case measure => have := HK1.out; omega
              case rel => exact ⟨(wrap64 (x5_1 + 1)), (by first | rfl | (simp; done) | (simp [*]; done) | (exact congrArg (Value.int .i64) (wrap_eq (by omega)))), H', ⟨by have := HK1.out; omega⟩, ⟨by (with_reducible repeat (first | refine blk_drewN ?_ _ | refine blk_drew ?_ | refine blk_alloc ?_ _)); exact BK146.out⟩, ⟨by repeat (first | (with_reducible first | exact HB.out | apply below_alloc | apply pw_below_drewN | apply below_drew1 | refine below_set ?_ GE146.out) | exact HB.out)⟩⟩
          · rw [if_neg c6] at H
            exact absurd H (by simp)
        · rw [if_neg c5] at H
          have c5b0 : decide (x5_1 < (((rd_T30 l0 0).f2).length : Int)) = false := decide_eq_false c5
          clear c5
          obtain rfl := Option.some.inj H
          have p147 : 0 ≤ (0 : Int) := (by omega)
          have q147 : 0 < (l0.length : Int) := of_decide_eq_true (by first | (with_reducible assumption) | assumption)
          obtain ⟨ad147, A147_2, c147_2, e147, hx147_0, hx147_1, hx147_2, hl147_2, hi147_2⟩ := at_T30 HR0.out 0 p147 q147
          obtain rfl : adp0 = ad147 := (by injection e147)
          have qi147 : (0 < l0.length) = True := eq_true (by omega)
          (try rw [show ((0 : Int)).toNat = 0 from rfl] at hx147_0)
          (try rw [show 0 * 3 = 0 from rfl] at hx147_0)
          (try rw [Addr.add_zero'] at hx147_0)
          (try rw [show ((0 : Int)).toNat = 0 from rfl] at hx147_1)
          (try rw [show 0 * 3 = 0 from rfl] at hx147_1)
          (try rw [Addr.add_zero'] at hx147_1)
          (try rw [show ((0 : Int)).toNat = 0 from rfl] at hx147_2)
          (try rw [show 0 * 3 = 0 from rfl] at hx147_2)
          (try rw [Addr.add_zero'] at hx147_2)
          replace hx147_0 := (HB.out.cell (World.block_lt_of_cell? w _ hx147_0)).trans hx147_0
          replace hx147_1 := (HB.out.cell (World.block_lt_of_cell? w _ hx147_1)).trans hx147_1
          replace hx147_2 := (HB.out.cell (World.block_lt_of_cell? w _ hx147_2)).trans hx147_2
          have HR147_2 := Aside0.mk hi147_2
          have HC147_2 := Aside0.mk hl147_2
          clear hi147_2 hl147_2
          replace p147 := eq_true p147
          replace q147 := eq_true q147
          go_wp2
          repeat (go_quiet (fail); try go_wp2)
          go_ret
          exact ⟨by first | rfl | (simp [errW_none, errW_some] <;> rfl) | (simp [*, errW_none, errW_some] <;> rfl), by repeat (first | (with_reducible first | exact HB.out | apply below_alloc | apply pw_below_drewN | apply below_drew1 | refine below_set ?_ GE146.out) | exact HB.out)⟩
      · rw [if_neg c4] at H
        exact absurd H (by simp)

/-! ### spec_l00In: function 43 -/
def spec_l00In.f (a0 : Int) (a1 : Int) (a2 : Int) : Option (Bool) := if a0 ≥ a1 then (some (decide (a0 ≤ a2))) else (some false)
set_option maxHeartbeats 8000000 in
set_option maxRecDepth 100000 in
theorem spec_l00In.calls (a0 : Int) (a1 : Int) (a2 : Int) (r : Bool) (w : World) (h : spec_l00In.f a0 a1 a2 = some r) :
    Calls Try.prog 43 #[.int .i64 a0, .int .i64 a1, .int .i64 a2] w fun e w' => e = .returned (.bool r) ∧ Drawn0 w w' := by
  have H : (if a0 ≥ a1 then (some (decide (a0 ≤ a2))) else (some false)) = some r := h
  clear h
  by_cases c4 : a0 ≥ a1
  · rw [if_pos c4] at H
    have c4b0 : decide (a1 ≤ a0) = true := decide_eq_true c4
    clear c4
    obtain rfl := Option.some.inj H
    go_enter Try.func43, Try.ntmps43
    go_wp2
    go_ret
    exact ⟨by first | rfl | (simp; done) | (simp [*]; done) | (exact congrArg (Value.int .i64) (wrap_eq (by omega))), by repeat (first | exact Drawn0.refl _ | apply Drawn0.step)⟩
  · rw [if_neg c4] at H
    have c4b0 : decide (a1 ≤ a0) = false := decide_eq_false c4
    clear c4
    obtain rfl := Option.some.inj H
    go_enter Try.func43, Try.ntmps43
    go_wp2
    go_ret
    exact ⟨by first | rfl | (simp; done) | (simp [*]; done) | (exact congrArg (Value.int .i64) (wrap_eq (by omega))), by repeat (first | exact Drawn0.refl _ | apply Drawn0.step)⟩

/-! ### spec_l01In: function 45 -/
def spec_l01In.f (a0_0 : Int) (a0_1 : Int) (a1 : Int) (a2 : Int) : Option (Bool) := (spec_l00In.f (wrap64 (a0_0)) 0 (wrap64 (a1 - 1))).bind fun t151 => (if t151 = true then ((spec_l00In.f (wrap64 (a0_1)) 0 (wrap64 (a2 - 1))).bind fun t152 => (some t152)) else (some false))
set_option maxHeartbeats 8000000 in
set_option maxRecDepth 100000 in
theorem spec_l01In.calls (a0_0 : Int) (a0_1 : Int) (a1 : Int) (a2 : Int) (r : Bool) (w : World) (h : spec_l01In.f a0_0 a0_1 a1 a2 = some r) :
    Calls Try.prog 45 #[.agg #[.int .i8 a0_0, .int .i8 a0_1], .int .i64 a1, .int .i64 a2] w fun e w' => e = .returned (.bool r) ∧ Below w.heap.size w w' := by
  have hu34 := Try.underlying34
  have HB := Aside0.mk (Below.refl w.heap.size w)
  have H : ((spec_l00In.f (wrap64 (a0_0)) 0 (wrap64 (a1 - 1))).bind fun t151 => (if t151 = true then ((spec_l00In.f (wrap64 (a0_1)) 0 (wrap64 (a2 - 1))).bind fun t152 => (some t152)) else (some false))) = some r := h
  clear h
  replace H := Option.bind_eq_some_iff.mp H
  obtain ⟨t151, A40, H⟩ := H
  replace H : (if t151 = true then ((spec_l00In.f (wrap64 (a0_1)) 0 (wrap64 (a2 - 1))).bind fun t152 => (some t152)) else (some false)) = some r := H
  have A4 := Aside0.mk A40
  clear A40
  by_cases c5 : t151 = true
  · subst c5
    have H1 : ((spec_l00In.f (wrap64 (a0_1)) 0 (wrap64 (a2 - 1))).bind fun t152 => (some t152)) = some r := by rw [if_pos rfl] at H; exact H
    clear H
    have H := H1
    clear H1
    replace H := Option.bind_eq_some_iff.mp H
    obtain ⟨t152, A60, H⟩ := H
    replace H : (some t152) = some r := H
    have A6 := Aside0.mk A60
    clear A60
    obtain rfl := Option.some.inj H
    go_enter Try.func45, Try.ntmps45
    go_wp2_with (first | ((with_reducible refine gate_dst (N := 3) rfl ?_); refine box_event ?hg (N := 3) ?hd (cs := #[.int .i8 a0_0, .int .i8 a0_1]) (t := 34) ?hr ?_; (case hd => rfl); (case hg => rfl); (case hr => first | (go_simp; done) | (go_simp; rfl)); intro gb150 hg w7 hbox hb; have n0_ := Aside0.mk (below_step (by repeat (first | (with_reducible first | exact HB.out | apply below_alloc | apply pw_below_drewN | apply below_drew1) | exact HB.out)) hb); have n1_ := Aside0.mk (hbox); have n2_ := Aside0.mk ((by rw [hg]; exact (below_size (by repeat (first | (with_reducible first | exact HB.out | apply below_alloc | apply pw_below_drewN | apply below_drew1) | exact HB.out))) : w.heap.size ≤ gb150)); have n3_ := Aside0.mk ((by rw [hg]; exact (below_size (by repeat (first | (with_reducible first | exact HB.out | apply below_alloc | apply pw_below_drewN | apply below_drew1) | exact HB.out))) : w.heap.size ≤ gb150)); clear HB; have HB := n0_; have BK150 := n1_; have GW150 := n2_; have GE150 := n3_; clear n0_ n1_ n2_ n3_; clear hb hbox hg; have hcz8_0 : w7.cell? ⟨gb150, 0, none⟩ = some (.int .i8 a0_0) := (blk_cell BK150.out 0).trans rfl; have hcz8_1 : w7.cell? ⟨gb150, 1, none⟩ = some (.int .i8 a0_1) := (blk_cell BK150.out 1).trans rfl; have hfz8_0 := blk_frozen BK150.out 0; have hfz8_1 := blk_frozen BK150.out 1) | ((with_reducible refine gate_callee (f := 43) rfl ?_); refine goesL_ (some 12) rfl rfl Try.func43 (by kernel_rfl) rfl #[.int .i64 (wrap64 (a0_0)), .int .i64 0, .int .i64 (wrap64 (a1 - 1))] rfl (by (try simp only [List.map_toArray, List.map_cons, List.map_nil]); first | done | rfl | (simp only [List.length_drop, List.length_take]; rfl)) ?_; (with_reducible refine (spec_l00In.calls (wrap64 (a0_0)) 0 (wrap64 (a1 - 1)) true _ A4.out).mono ?_); rintro e w' ⟨rfl, ⟨nd, rfl⟩⟩; refine ⟨_, rfl, ?_⟩) | (go_at_call 43; (with_reducible refine (spec_l00In.calls (wrap64 (a0_1)) 0 (wrap64 (a2 - 1)) t152 _ A6.out).mono ?_); rintro e w' ⟨rfl, ⟨nd, rfl⟩⟩))
    go_ret
    exact ⟨by first | rfl | (simp [errW_none, errW_some] <;> rfl) | (simp [*, errW_none, errW_some] <;> rfl), by repeat (first | (with_reducible first | exact HB.out | apply below_alloc | apply pw_below_drewN | apply below_drew1 | refine below_set ?_ GE150.out) | exact HB.out)⟩
  · replace c5 := Bool.eq_false_iff.mpr c5
    subst c5
    have H1 : (some false) = some r := by rw [if_neg (show ¬ (false = true) by decide)] at H; exact H
    clear H
    have H := H1
    clear H1
    obtain rfl := Option.some.inj H
    go_enter Try.func45, Try.ntmps45
    go_wp2_with (first | ((with_reducible refine gate_dst (N := 3) rfl ?_); refine box_event ?hg (N := 3) ?hd (cs := #[.int .i8 a0_0, .int .i8 a0_1]) (t := 34) ?hr ?_; (case hd => rfl); (case hg => rfl); (case hr => first | (go_simp; done) | (go_simp; rfl)); intro gb150 hg w9 hbox hb; have n0_ := Aside0.mk (below_step (by repeat (first | (with_reducible first | exact HB.out | apply below_alloc | apply pw_below_drewN | apply below_drew1) | exact HB.out)) hb); have n1_ := Aside0.mk (hbox); have n2_ := Aside0.mk ((by rw [hg]; exact (below_size (by repeat (first | (with_reducible first | exact HB.out | apply below_alloc | apply pw_below_drewN | apply below_drew1) | exact HB.out))) : w.heap.size ≤ gb150)); have n3_ := Aside0.mk ((by rw [hg]; exact (below_size (by repeat (first | (with_reducible first | exact HB.out | apply below_alloc | apply pw_below_drewN | apply below_drew1) | exact HB.out))) : w.heap.size ≤ gb150)); clear HB; have HB := n0_; have BK150 := n1_; have GW150 := n2_; have GE150 := n3_; clear n0_ n1_ n2_ n3_; clear hb hbox hg; have hcz10_0 : w9.cell? ⟨gb150, 0, none⟩ = some (.int .i8 a0_0) := (blk_cell BK150.out 0).trans rfl; have hcz10_1 : w9.cell? ⟨gb150, 1, none⟩ = some (.int .i8 a0_1) := (blk_cell BK150.out 1).trans rfl; have hfz10_0 := blk_frozen BK150.out 0; have hfz10_1 := blk_frozen BK150.out 1) | ((with_reducible refine gate_callee (f := 43) rfl ?_); refine goesL_ (some 12) rfl rfl Try.func43 (by kernel_rfl) rfl #[.int .i64 (wrap64 (a0_0)), .int .i64 0, .int .i64 (wrap64 (a1 - 1))] rfl (by (try simp only [List.map_toArray, List.map_cons, List.map_nil]); first | done | rfl | (simp only [List.length_drop, List.length_take]; rfl)) ?_; (with_reducible refine (spec_l00In.calls (wrap64 (a0_0)) 0 (wrap64 (a1 - 1)) false _ A4.out).mono ?_); rintro e w' ⟨rfl, ⟨nd, rfl⟩⟩; refine ⟨_, rfl, ?_⟩))
    go_ret
    exact ⟨by first | rfl | (simp [errW_none, errW_some] <;> rfl) | (simp [*, errW_none, errW_some] <;> rfl), by repeat (first | (with_reducible first | exact HB.out | apply below_alloc | apply pw_below_drewN | apply below_drew1 | refine below_set ?_ GE150.out) | exact HB.out)⟩

/-! ### spec_l01Piece: function 44 -/
def spec_l01Piece.f (l0 : List (S62)) : Option (Bool) := if 0 < (l0.length : Int) then ((spec_l00In.f (wrap64 ((rd_T62 l0 0).f1)) 0 5).bind fun t154 => (if t154 = true then ((spec_l00In.f (wrap64 ((rd_T62 l0 0).f2)) 0 3).bind fun t156 => (if t156 = true then ((spec_l00In.f (wrap64 ((rd_T62 l0 0).f3)) 1 9).bind fun t158 => (if t158 = true then ((spec_l01In.f ((rd_T62 l0 0).f0.f0) ((rd_T62 l0 0).f0.f1) 24 24).bind fun t160 => (some t160)) else (some false))) else (some false))) else (some false))) else (none)
set_option maxHeartbeats 8000000 in
set_option maxRecDepth 100000 in
theorem spec_l01Piece.calls (adp0 : Addr) (l0 : List (S62)) (r : Bool) (w : World) (hr0 : Kd.C k62 w (some adp0) l0.length l0) (h : spec_l01Piece.f l0 = some r) :
    Calls Try.prog 44 #[.pointer (some adp0)] w fun e w' => e = .returned (.bool r) ∧ Below w.heap.size w w' := by
  have hu34 := Try.underlying34
  have HR0 := Aside0.mk hr0
  clear hr0
  have HB := Aside0.mk (Below.refl w.heap.size w)
  have H : (if 0 < (l0.length : Int) then ((spec_l00In.f (wrap64 ((rd_T62 l0 0).f1)) 0 5).bind fun t154 => (if t154 = true then ((spec_l00In.f (wrap64 ((rd_T62 l0 0).f2)) 0 3).bind fun t156 => (if t156 = true then ((spec_l00In.f (wrap64 ((rd_T62 l0 0).f3)) 1 9).bind fun t158 => (if t158 = true then ((spec_l01In.f ((rd_T62 l0 0).f0.f0) ((rd_T62 l0 0).f0.f1) 24 24).bind fun t160 => (some t160)) else (some false))) else (some false))) else (some false))) else (none)) = some r := h
  clear h
  by_cases c2 : 0 < (l0.length : Int)
  · rw [if_pos c2] at H
    have c2b0 : decide (0 < (l0.length : Int)) = true := decide_eq_true c2
    have c2b1 : decide (0 < l0.length) = true := decide_eq_true (by omega)
    clear c2
    replace H := Option.bind_eq_some_iff.mp H
    obtain ⟨t154, A30, H⟩ := H
    replace H : (if t154 = true then ((spec_l00In.f (wrap64 ((rd_T62 l0 0).f2)) 0 3).bind fun t156 => (if t156 = true then ((spec_l00In.f (wrap64 ((rd_T62 l0 0).f3)) 1 9).bind fun t158 => (if t158 = true then ((spec_l01In.f ((rd_T62 l0 0).f0.f0) ((rd_T62 l0 0).f0.f1) 24 24).bind fun t160 => (some t160)) else (some false))) else (some false))) else (some false)) = some r := H
    have A3 := Aside0.mk A30
    clear A30
    by_cases c4 : t154 = true
    · subst c4
      have H1 : ((spec_l00In.f (wrap64 ((rd_T62 l0 0).f2)) 0 3).bind fun t156 => (if t156 = true then ((spec_l00In.f (wrap64 ((rd_T62 l0 0).f3)) 1 9).bind fun t158 => (if t158 = true then ((spec_l01In.f ((rd_T62 l0 0).f0.f0) ((rd_T62 l0 0).f0.f1) 24 24).bind fun t160 => (some t160)) else (some false))) else (some false))) = some r := by rw [if_pos rfl] at H; exact H
      clear H
      have H := H1
      clear H1
      replace H := Option.bind_eq_some_iff.mp H
      obtain ⟨t156, A50, H⟩ := H
      replace H : (if t156 = true then ((spec_l00In.f (wrap64 ((rd_T62 l0 0).f3)) 1 9).bind fun t158 => (if t158 = true then ((spec_l01In.f ((rd_T62 l0 0).f0.f0) ((rd_T62 l0 0).f0.f1) 24 24).bind fun t160 => (some t160)) else (some false))) else (some false)) = some r := H
      have A5 := Aside0.mk A50
      clear A50
      by_cases c6 : t156 = true
      · subst c6
        have H1 : ((spec_l00In.f (wrap64 ((rd_T62 l0 0).f3)) 1 9).bind fun t158 => (if t158 = true then ((spec_l01In.f ((rd_T62 l0 0).f0.f0) ((rd_T62 l0 0).f0.f1) 24 24).bind fun t160 => (some t160)) else (some false))) = some r := by rw [if_pos rfl] at H; exact H
        clear H
        have H := H1
        clear H1
        replace H := Option.bind_eq_some_iff.mp H
        obtain ⟨t158, A70, H⟩ := H
        replace H : (if t158 = true then ((spec_l01In.f ((rd_T62 l0 0).f0.f0) ((rd_T62 l0 0).f0.f1) 24 24).bind fun t160 => (some t160)) else (some false)) = some r := H
        have A7 := Aside0.mk A70
        clear A70
        by_cases c8 : t158 = true
        · subst c8
          have H1 : ((spec_l01In.f ((rd_T62 l0 0).f0.f0) ((rd_T62 l0 0).f0.f1) 24 24).bind fun t160 => (some t160)) = some r := by rw [if_pos rfl] at H; exact H
          clear H
          have H := H1
          clear H1
          replace H := Option.bind_eq_some_iff.mp H
          obtain ⟨t160, A90, H⟩ := H
          replace H : (some t160) = some r := H
          have A9 := Aside0.mk A90
          clear A90
          obtain rfl := Option.some.inj H
          have p153 : 0 ≤ (0 : Int) := (by omega)
          have q153 : 0 < (l0.length : Int) := of_decide_eq_true (by first | (with_reducible assumption) | assumption)
          obtain ⟨ad153, e153, hx153_0, hx153_1, hx153_2, hx153_3, hx153_4⟩ := at_T62 HR0.out 0 p153 q153
          obtain rfl : adp0 = ad153 := (by injection e153)
          have qi153 : (0 < l0.length) = True := eq_true (by omega)
          (try rw [show ((0 : Int)).toNat = 0 from rfl] at hx153_0)
          (try rw [show 0 * 5 = 0 from rfl] at hx153_0)
          (try rw [Addr.add_zero'] at hx153_0)
          (try rw [show ((0 : Int)).toNat = 0 from rfl] at hx153_1)
          (try rw [show 0 * 5 = 0 from rfl] at hx153_1)
          (try rw [Addr.add_zero'] at hx153_1)
          (try rw [show ((0 : Int)).toNat = 0 from rfl] at hx153_2)
          (try rw [show 0 * 5 = 0 from rfl] at hx153_2)
          (try rw [Addr.add_zero'] at hx153_2)
          (try rw [show ((0 : Int)).toNat = 0 from rfl] at hx153_3)
          (try rw [show 0 * 5 = 0 from rfl] at hx153_3)
          (try rw [Addr.add_zero'] at hx153_3)
          (try rw [show ((0 : Int)).toNat = 0 from rfl] at hx153_4)
          (try rw [show 0 * 5 = 0 from rfl] at hx153_4)
          (try rw [Addr.add_zero'] at hx153_4)
          replace p153 := eq_true p153
          replace q153 := eq_true q153
          go_enter Try.func44, Try.ntmps44
          go_wp2_with (first | ((with_reducible refine gate_callee (f := 43) rfl ?_); refine goesL_ (some 8) rfl rfl Try.func43 (by kernel_rfl) rfl #[.int .i64 (wrap64 ((rd_T62 l0 0).f1)), .int .i64 0, .int .i64 5] rfl (by (try simp only [List.map_toArray, List.map_cons, List.map_nil]); first | done | rfl | (simp only [List.length_drop, List.length_take]; rfl)) ?_; (with_reducible refine (spec_l00In.calls (wrap64 ((rd_T62 l0 0).f1)) 0 5 true _ A3.out).mono ?_); rintro e w' ⟨rfl, ⟨nd, rfl⟩⟩; refine ⟨_, rfl, ?_⟩; have p155 : 0 ≤ (0 : Int) := (by omega); have q155 : 0 < (l0.length : Int) := of_decide_eq_true (by first | (with_reducible assumption) | assumption); obtain ⟨ad155, e155, hx155_0, hx155_1, hx155_2, hx155_3, hx155_4⟩ := at_T62 HR0.out 0 p155 q155; obtain rfl : adp0 = ad155 := (by injection e155); have qi155 : (0 < l0.length) = True := eq_true (by omega); (try rw [show ((0 : Int)).toNat = 0 from rfl] at hx155_0); (try rw [show 0 * 5 = 0 from rfl] at hx155_0); (try rw [Addr.add_zero'] at hx155_0); (try rw [show ((0 : Int)).toNat = 0 from rfl] at hx155_1); (try rw [show 0 * 5 = 0 from rfl] at hx155_1); (try rw [Addr.add_zero'] at hx155_1); (try rw [show ((0 : Int)).toNat = 0 from rfl] at hx155_2); (try rw [show 0 * 5 = 0 from rfl] at hx155_2); (try rw [Addr.add_zero'] at hx155_2); (try rw [show ((0 : Int)).toNat = 0 from rfl] at hx155_3); (try rw [show 0 * 5 = 0 from rfl] at hx155_3); (try rw [Addr.add_zero'] at hx155_3); (try rw [show ((0 : Int)).toNat = 0 from rfl] at hx155_4); (try rw [show 0 * 5 = 0 from rfl] at hx155_4); (try rw [Addr.add_zero'] at hx155_4); replace p155 := eq_true p155; replace q155 := eq_true q155) | (go_at_call 43; (with_reducible refine (spec_l00In.calls (wrap64 ((rd_T62 l0 0).f2)) 0 3 true _ A5.out).mono ?_); rintro e w' ⟨rfl, ⟨nd, rfl⟩⟩; have p157 : 0 ≤ (0 : Int) := (by omega); have q157 : 0 < (l0.length : Int) := of_decide_eq_true (by first | (with_reducible assumption) | assumption); obtain ⟨ad157, e157, hx157_0, hx157_1, hx157_2, hx157_3, hx157_4⟩ := at_T62 HR0.out 0 p157 q157; obtain rfl : adp0 = ad157 := (by injection e157); have qi157 : (0 < l0.length) = True := eq_true (by omega); (try rw [show ((0 : Int)).toNat = 0 from rfl] at hx157_0); (try rw [show 0 * 5 = 0 from rfl] at hx157_0); (try rw [Addr.add_zero'] at hx157_0); (try rw [show ((0 : Int)).toNat = 0 from rfl] at hx157_1); (try rw [show 0 * 5 = 0 from rfl] at hx157_1); (try rw [Addr.add_zero'] at hx157_1); (try rw [show ((0 : Int)).toNat = 0 from rfl] at hx157_2); (try rw [show 0 * 5 = 0 from rfl] at hx157_2); (try rw [Addr.add_zero'] at hx157_2); (try rw [show ((0 : Int)).toNat = 0 from rfl] at hx157_3); (try rw [show 0 * 5 = 0 from rfl] at hx157_3); (try rw [Addr.add_zero'] at hx157_3); (try rw [show ((0 : Int)).toNat = 0 from rfl] at hx157_4); (try rw [show 0 * 5 = 0 from rfl] at hx157_4); (try rw [Addr.add_zero'] at hx157_4); replace p157 := eq_true p157; replace q157 := eq_true q157) | (go_at_call 43; (with_reducible refine (spec_l00In.calls (wrap64 ((rd_T62 l0 0).f3)) 1 9 true _ A7.out).mono ?_); rintro e w' ⟨rfl, ⟨nd, rfl⟩⟩; have p159 : 0 ≤ (0 : Int) := (by omega); have q159 : 0 < (l0.length : Int) := of_decide_eq_true (by first | (with_reducible assumption) | assumption); obtain ⟨ad159, e159, hx159_0, hx159_1, hx159_2, hx159_3, hx159_4⟩ := at_T62 HR0.out 0 p159 q159; obtain rfl : adp0 = ad159 := (by injection e159); have qi159 : (0 < l0.length) = True := eq_true (by omega); (try rw [show ((0 : Int)).toNat = 0 from rfl] at hx159_0); (try rw [show 0 * 5 = 0 from rfl] at hx159_0); (try rw [Addr.add_zero'] at hx159_0); (try rw [show ((0 : Int)).toNat = 0 from rfl] at hx159_1); (try rw [show 0 * 5 = 0 from rfl] at hx159_1); (try rw [Addr.add_zero'] at hx159_1); (try rw [show ((0 : Int)).toNat = 0 from rfl] at hx159_2); (try rw [show 0 * 5 = 0 from rfl] at hx159_2); (try rw [Addr.add_zero'] at hx159_2); (try rw [show ((0 : Int)).toNat = 0 from rfl] at hx159_3); (try rw [show 0 * 5 = 0 from rfl] at hx159_3); (try rw [Addr.add_zero'] at hx159_3); (try rw [show ((0 : Int)).toNat = 0 from rfl] at hx159_4); (try rw [show 0 * 5 = 0 from rfl] at hx159_4); (try rw [Addr.add_zero'] at hx159_4); replace p159 := eq_true p159; replace q159 := eq_true q159) | (go_at_call 45; (with_reducible refine (spec_l01In.calls ((rd_T62 l0 0).f0.f0) ((rd_T62 l0 0).f0.f1) 24 24 t160 _ A9.out).mono ?_); rintro e w10 ⟨rfl, hb⟩; have n0_ := Aside0.mk (below_step (by repeat (first | (with_reducible first | exact HB.out | apply below_alloc | apply pw_below_drewN | apply below_drew1) | exact HB.out)) hb); clear HB; have HB := n0_; clear n0_; (try clear hb); (try clear hb2); (try clear hk); (try clear hi)))
          go_ret
          exact ⟨by first | rfl | (simp [errW_none, errW_some] <;> rfl) | (simp [*, errW_none, errW_some] <;> rfl), by repeat (first | (with_reducible first | exact HB.out | apply below_alloc | apply pw_below_drewN | apply below_drew1) | exact HB.out)⟩
        · replace c8 := Bool.eq_false_iff.mpr c8
          subst c8
          have H1 : (some false) = some r := by rw [if_neg (show ¬ (false = true) by decide)] at H; exact H
          clear H
          have H := H1
          clear H1
          obtain rfl := Option.some.inj H
          have p153 : 0 ≤ (0 : Int) := (by omega)
          have q153 : 0 < (l0.length : Int) := of_decide_eq_true (by first | (with_reducible assumption) | assumption)
          obtain ⟨ad153, e153, hx153_0, hx153_1, hx153_2, hx153_3, hx153_4⟩ := at_T62 HR0.out 0 p153 q153
          obtain rfl : adp0 = ad153 := (by injection e153)
          have qi153 : (0 < l0.length) = True := eq_true (by omega)
          (try rw [show ((0 : Int)).toNat = 0 from rfl] at hx153_0)
          (try rw [show 0 * 5 = 0 from rfl] at hx153_0)
          (try rw [Addr.add_zero'] at hx153_0)
          (try rw [show ((0 : Int)).toNat = 0 from rfl] at hx153_1)
          (try rw [show 0 * 5 = 0 from rfl] at hx153_1)
          (try rw [Addr.add_zero'] at hx153_1)
          (try rw [show ((0 : Int)).toNat = 0 from rfl] at hx153_2)
          (try rw [show 0 * 5 = 0 from rfl] at hx153_2)
          (try rw [Addr.add_zero'] at hx153_2)
          (try rw [show ((0 : Int)).toNat = 0 from rfl] at hx153_3)
          (try rw [show 0 * 5 = 0 from rfl] at hx153_3)
          (try rw [Addr.add_zero'] at hx153_3)
          (try rw [show ((0 : Int)).toNat = 0 from rfl] at hx153_4)
          (try rw [show 0 * 5 = 0 from rfl] at hx153_4)
          (try rw [Addr.add_zero'] at hx153_4)
          replace p153 := eq_true p153
          replace q153 := eq_true q153
          go_enter Try.func44, Try.ntmps44
          go_wp2_with (first | ((with_reducible refine gate_callee (f := 43) rfl ?_); refine goesL_ (some 8) rfl rfl Try.func43 (by kernel_rfl) rfl #[.int .i64 (wrap64 ((rd_T62 l0 0).f1)), .int .i64 0, .int .i64 5] rfl (by (try simp only [List.map_toArray, List.map_cons, List.map_nil]); first | done | rfl | (simp only [List.length_drop, List.length_take]; rfl)) ?_; (with_reducible refine (spec_l00In.calls (wrap64 ((rd_T62 l0 0).f1)) 0 5 true _ A3.out).mono ?_); rintro e w' ⟨rfl, ⟨nd, rfl⟩⟩; refine ⟨_, rfl, ?_⟩; have p155 : 0 ≤ (0 : Int) := (by omega); have q155 : 0 < (l0.length : Int) := of_decide_eq_true (by first | (with_reducible assumption) | assumption); obtain ⟨ad155, e155, hx155_0, hx155_1, hx155_2, hx155_3, hx155_4⟩ := at_T62 HR0.out 0 p155 q155; obtain rfl : adp0 = ad155 := (by injection e155); have qi155 : (0 < l0.length) = True := eq_true (by omega); (try rw [show ((0 : Int)).toNat = 0 from rfl] at hx155_0); (try rw [show 0 * 5 = 0 from rfl] at hx155_0); (try rw [Addr.add_zero'] at hx155_0); (try rw [show ((0 : Int)).toNat = 0 from rfl] at hx155_1); (try rw [show 0 * 5 = 0 from rfl] at hx155_1); (try rw [Addr.add_zero'] at hx155_1); (try rw [show ((0 : Int)).toNat = 0 from rfl] at hx155_2); (try rw [show 0 * 5 = 0 from rfl] at hx155_2); (try rw [Addr.add_zero'] at hx155_2); (try rw [show ((0 : Int)).toNat = 0 from rfl] at hx155_3); (try rw [show 0 * 5 = 0 from rfl] at hx155_3); (try rw [Addr.add_zero'] at hx155_3); (try rw [show ((0 : Int)).toNat = 0 from rfl] at hx155_4); (try rw [show 0 * 5 = 0 from rfl] at hx155_4); (try rw [Addr.add_zero'] at hx155_4); replace p155 := eq_true p155; replace q155 := eq_true q155) | (go_at_call 43; (with_reducible refine (spec_l00In.calls (wrap64 ((rd_T62 l0 0).f2)) 0 3 true _ A5.out).mono ?_); rintro e w' ⟨rfl, ⟨nd, rfl⟩⟩; have p157 : 0 ≤ (0 : Int) := (by omega); have q157 : 0 < (l0.length : Int) := of_decide_eq_true (by first | (with_reducible assumption) | assumption); obtain ⟨ad157, e157, hx157_0, hx157_1, hx157_2, hx157_3, hx157_4⟩ := at_T62 HR0.out 0 p157 q157; obtain rfl : adp0 = ad157 := (by injection e157); have qi157 : (0 < l0.length) = True := eq_true (by omega); (try rw [show ((0 : Int)).toNat = 0 from rfl] at hx157_0); (try rw [show 0 * 5 = 0 from rfl] at hx157_0); (try rw [Addr.add_zero'] at hx157_0); (try rw [show ((0 : Int)).toNat = 0 from rfl] at hx157_1); (try rw [show 0 * 5 = 0 from rfl] at hx157_1); (try rw [Addr.add_zero'] at hx157_1); (try rw [show ((0 : Int)).toNat = 0 from rfl] at hx157_2); (try rw [show 0 * 5 = 0 from rfl] at hx157_2); (try rw [Addr.add_zero'] at hx157_2); (try rw [show ((0 : Int)).toNat = 0 from rfl] at hx157_3); (try rw [show 0 * 5 = 0 from rfl] at hx157_3); (try rw [Addr.add_zero'] at hx157_3); (try rw [show ((0 : Int)).toNat = 0 from rfl] at hx157_4); (try rw [show 0 * 5 = 0 from rfl] at hx157_4); (try rw [Addr.add_zero'] at hx157_4); replace p157 := eq_true p157; replace q157 := eq_true q157) | (go_at_call 43; (with_reducible refine (spec_l00In.calls (wrap64 ((rd_T62 l0 0).f3)) 1 9 false _ A7.out).mono ?_); rintro e w' ⟨rfl, ⟨nd, rfl⟩⟩))
          go_ret
          exact ⟨by first | rfl | (simp [errW_none, errW_some] <;> rfl) | (simp [*, errW_none, errW_some] <;> rfl), by repeat (first | (with_reducible first | exact HB.out | apply below_alloc | apply pw_below_drewN | apply below_drew1) | exact HB.out)⟩
      · replace c6 := Bool.eq_false_iff.mpr c6
        subst c6
        have H1 : (some false) = some r := by rw [if_neg (show ¬ (false = true) by decide)] at H; exact H
        clear H
        have H := H1
        clear H1
        obtain rfl := Option.some.inj H
        have p153 : 0 ≤ (0 : Int) := (by omega)
        have q153 : 0 < (l0.length : Int) := of_decide_eq_true (by first | (with_reducible assumption) | assumption)
        obtain ⟨ad153, e153, hx153_0, hx153_1, hx153_2, hx153_3, hx153_4⟩ := at_T62 HR0.out 0 p153 q153
        obtain rfl : adp0 = ad153 := (by injection e153)
        have qi153 : (0 < l0.length) = True := eq_true (by omega)
        (try rw [show ((0 : Int)).toNat = 0 from rfl] at hx153_0)
        (try rw [show 0 * 5 = 0 from rfl] at hx153_0)
        (try rw [Addr.add_zero'] at hx153_0)
        (try rw [show ((0 : Int)).toNat = 0 from rfl] at hx153_1)
        (try rw [show 0 * 5 = 0 from rfl] at hx153_1)
        (try rw [Addr.add_zero'] at hx153_1)
        (try rw [show ((0 : Int)).toNat = 0 from rfl] at hx153_2)
        (try rw [show 0 * 5 = 0 from rfl] at hx153_2)
        (try rw [Addr.add_zero'] at hx153_2)
        (try rw [show ((0 : Int)).toNat = 0 from rfl] at hx153_3)
        (try rw [show 0 * 5 = 0 from rfl] at hx153_3)
        (try rw [Addr.add_zero'] at hx153_3)
        (try rw [show ((0 : Int)).toNat = 0 from rfl] at hx153_4)
        (try rw [show 0 * 5 = 0 from rfl] at hx153_4)
        (try rw [Addr.add_zero'] at hx153_4)
        replace p153 := eq_true p153
        replace q153 := eq_true q153
        go_enter Try.func44, Try.ntmps44
        go_wp2_with (first | ((with_reducible refine gate_callee (f := 43) rfl ?_); refine goesL_ (some 8) rfl rfl Try.func43 (by kernel_rfl) rfl #[.int .i64 (wrap64 ((rd_T62 l0 0).f1)), .int .i64 0, .int .i64 5] rfl (by (try simp only [List.map_toArray, List.map_cons, List.map_nil]); first | done | rfl | (simp only [List.length_drop, List.length_take]; rfl)) ?_; (with_reducible refine (spec_l00In.calls (wrap64 ((rd_T62 l0 0).f1)) 0 5 true _ A3.out).mono ?_); rintro e w' ⟨rfl, ⟨nd, rfl⟩⟩; refine ⟨_, rfl, ?_⟩; have p155 : 0 ≤ (0 : Int) := (by omega); have q155 : 0 < (l0.length : Int) := of_decide_eq_true (by first | (with_reducible assumption) | assumption); obtain ⟨ad155, e155, hx155_0, hx155_1, hx155_2, hx155_3, hx155_4⟩ := at_T62 HR0.out 0 p155 q155; obtain rfl : adp0 = ad155 := (by injection e155); have qi155 : (0 < l0.length) = True := eq_true (by omega); (try rw [show ((0 : Int)).toNat = 0 from rfl] at hx155_0); (try rw [show 0 * 5 = 0 from rfl] at hx155_0); (try rw [Addr.add_zero'] at hx155_0); (try rw [show ((0 : Int)).toNat = 0 from rfl] at hx155_1); (try rw [show 0 * 5 = 0 from rfl] at hx155_1); (try rw [Addr.add_zero'] at hx155_1); (try rw [show ((0 : Int)).toNat = 0 from rfl] at hx155_2); (try rw [show 0 * 5 = 0 from rfl] at hx155_2); (try rw [Addr.add_zero'] at hx155_2); (try rw [show ((0 : Int)).toNat = 0 from rfl] at hx155_3); (try rw [show 0 * 5 = 0 from rfl] at hx155_3); (try rw [Addr.add_zero'] at hx155_3); (try rw [show ((0 : Int)).toNat = 0 from rfl] at hx155_4); (try rw [show 0 * 5 = 0 from rfl] at hx155_4); (try rw [Addr.add_zero'] at hx155_4); replace p155 := eq_true p155; replace q155 := eq_true q155) | (go_at_call 43; (with_reducible refine (spec_l00In.calls (wrap64 ((rd_T62 l0 0).f2)) 0 3 false _ A5.out).mono ?_); rintro e w' ⟨rfl, ⟨nd, rfl⟩⟩))
        go_ret
        exact ⟨by first | rfl | (simp [errW_none, errW_some] <;> rfl) | (simp [*, errW_none, errW_some] <;> rfl), by repeat (first | (with_reducible first | exact HB.out | apply below_alloc | apply pw_below_drewN | apply below_drew1) | exact HB.out)⟩
    · replace c4 := Bool.eq_false_iff.mpr c4
      subst c4
      have H1 : (some false) = some r := by rw [if_neg (show ¬ (false = true) by decide)] at H; exact H
      clear H
      have H := H1
      clear H1
      obtain rfl := Option.some.inj H
      have p153 : 0 ≤ (0 : Int) := (by omega)
      have q153 : 0 < (l0.length : Int) := of_decide_eq_true (by first | (with_reducible assumption) | assumption)
      obtain ⟨ad153, e153, hx153_0, hx153_1, hx153_2, hx153_3, hx153_4⟩ := at_T62 HR0.out 0 p153 q153
      obtain rfl : adp0 = ad153 := (by injection e153)
      have qi153 : (0 < l0.length) = True := eq_true (by omega)
      (try rw [show ((0 : Int)).toNat = 0 from rfl] at hx153_0)
      (try rw [show 0 * 5 = 0 from rfl] at hx153_0)
      (try rw [Addr.add_zero'] at hx153_0)
      (try rw [show ((0 : Int)).toNat = 0 from rfl] at hx153_1)
      (try rw [show 0 * 5 = 0 from rfl] at hx153_1)
      (try rw [Addr.add_zero'] at hx153_1)
      (try rw [show ((0 : Int)).toNat = 0 from rfl] at hx153_2)
      (try rw [show 0 * 5 = 0 from rfl] at hx153_2)
      (try rw [Addr.add_zero'] at hx153_2)
      (try rw [show ((0 : Int)).toNat = 0 from rfl] at hx153_3)
      (try rw [show 0 * 5 = 0 from rfl] at hx153_3)
      (try rw [Addr.add_zero'] at hx153_3)
      (try rw [show ((0 : Int)).toNat = 0 from rfl] at hx153_4)
      (try rw [show 0 * 5 = 0 from rfl] at hx153_4)
      (try rw [Addr.add_zero'] at hx153_4)
      replace p153 := eq_true p153
      replace q153 := eq_true q153
      go_enter Try.func44, Try.ntmps44
      go_wp2_with (first | ((with_reducible refine gate_callee (f := 43) rfl ?_); refine goesL_ (some 8) rfl rfl Try.func43 (by kernel_rfl) rfl #[.int .i64 (wrap64 ((rd_T62 l0 0).f1)), .int .i64 0, .int .i64 5] rfl (by (try simp only [List.map_toArray, List.map_cons, List.map_nil]); first | done | rfl | (simp only [List.length_drop, List.length_take]; rfl)) ?_; (with_reducible refine (spec_l00In.calls (wrap64 ((rd_T62 l0 0).f1)) 0 5 false _ A3.out).mono ?_); rintro e w' ⟨rfl, ⟨nd, rfl⟩⟩; refine ⟨_, rfl, ?_⟩))
      go_ret
      exact ⟨by first | rfl | (simp [errW_none, errW_some] <;> rfl) | (simp [*, errW_none, errW_some] <;> rfl), by repeat (first | (with_reducible first | exact HB.out | apply below_alloc | apply pw_below_drewN | apply below_drew1) | exact HB.out)⟩
  · rw [if_neg c2] at H
    exact absurd H (by simp)

end Go.Proofs.Ytdjhcnepndflmaa.PFnExactNeverHit
