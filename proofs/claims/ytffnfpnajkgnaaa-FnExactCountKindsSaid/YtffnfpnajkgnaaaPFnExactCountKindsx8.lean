-- WRITTEN by xprint.py, a program of this session's. Not trusted: Lean checks it.
import Derived.Test.YtffnfpnajkgnaaaPFnExactCountKindsx0
namespace Go.Proofs.Ytffnfpnajkgnaaa.PFnExactCountKinds
open Go.RowKit Go.Proofs.YtffnfpnajkgnaaaW.PrintWords Go.Proofs.YtffnfpnajkgnaaaW.PrintLast Go.Proofs.YtffnfpnajkgnaaaW.PrintMore Go.Proofs.YtffnfpnajkgnaaaX
attribute [local go_sem] max2_int min2_int max_two min_two max_three min_three max_four min_four   -- for this text's walks alone
set_option linter.unusedVariables false
set_option linter.unusedSimpArgs false

/-! ### laws_eqInt64A6: function 47 -/
def laws_eqInt64A6.l0 : Nat → Int → Int → Int → Int → Int → Int → Int → Int → Int → Int → Int → Int → Int → Option (Bool)
  | 0, _, _, _, _, _, _, _, _, _, _, _, _, _ => none
  | k + 1, x5, x191000, x191001, x191002, x191003, x191004, x191005, x192000, x192001, x192002, x192003, x192004, x192005 => if x5 < 6 then (if x5 = 0 then (if x191000 = x192000 then (laws_eqInt64A6.l0 k (wrap64 (x5 + 1)) x191000 x191001 x191002 x191003 x191004 x191005 x192000 x192001 x192002 x192003 x192004 x192005) else (some false)) else (if x5 = 1 then (if x191001 = x192001 then (laws_eqInt64A6.l0 k (wrap64 (x5 + 1)) x191000 x191001 x191002 x191003 x191004 x191005 x192000 x192001 x192002 x192003 x192004 x192005) else (some false)) else (if x5 = 2 then (if x191002 = x192002 then (laws_eqInt64A6.l0 k (wrap64 (x5 + 1)) x191000 x191001 x191002 x191003 x191004 x191005 x192000 x192001 x192002 x192003 x192004 x192005) else (some false)) else (if x5 = 3 then (if x191003 = x192003 then (laws_eqInt64A6.l0 k (wrap64 (x5 + 1)) x191000 x191001 x191002 x191003 x191004 x191005 x192000 x192001 x192002 x192003 x192004 x192005) else (some false)) else (if x5 = 4 then (if x191004 = x192004 then (laws_eqInt64A6.l0 k (wrap64 (x5 + 1)) x191000 x191001 x191002 x191003 x191004 x191005 x192000 x192001 x192002 x192003 x192004 x192005) else (some false)) else (if x5 = 5 then (if x191005 = x192005 then (laws_eqInt64A6.l0 k (wrap64 (x5 + 1)) x191000 x191001 x191002 x191003 x191004 x191005 x192000 x192001 x192002 x192003 x192004 x192005) else (some false)) else (none))))))) else (some true)
def laws_eqInt64A6.f (k : Nat) (a0_0 : Int) (a0_1 : Int) (a0_2 : Int) (a0_3 : Int) (a0_4 : Int) (a0_5 : Int) (a1_0 : Int) (a1_1 : Int) (a1_2 : Int) (a1_3 : Int) (a1_4 : Int) (a1_5 : Int) : Option (Bool) := laws_eqInt64A6.l0 k 0 a0_0 a0_1 a0_2 a0_3 a0_4 a0_5 a1_0 a1_1 a1_2 a1_3 a1_4 a1_5
theorem laws_eqInt64A6.mono_l : ∀ k, (∀ y0 y1 y2 y3 y4 y5 y6 y7 y8 y9 y10 y11 y12, LeO (laws_eqInt64A6.l0 k y0 y1 y2 y3 y4 y5 y6 y7 y8 y9 y10 y11 y12) (laws_eqInt64A6.l0 (k + 1) y0 y1 y2 y3 y4 y5 y6 y7 y8 y9 y10 y11 y12))
  | 0 => fun _ _ _ _ _ _ _ _ _ _ _ _ _ r h => by simp [laws_eqInt64A6.l0] at h
  | k + 1 => by
    have ih0 := laws_eqInt64A6.mono_l k
    · intro y0 y1 y2 y3 y4 y5 y6 y7 y8 y9 y10 y11 y12
      unfold laws_eqInt64A6.l0
      repeat' first
      | (with_reducible exact ih0 _ _ _ _ _ _ _ _ _ _ _ _ _)
      | (with_reducible exact LeO.refl _)
      | (with_reducible exact LeO.none _)
      | (with_reducible refine LeO.ite ?_ ?_)
      | (with_reducible refine LeO.bind ?_ (fun _ => ?_))
      | exact ih0 _ _ _ _ _ _ _ _ _ _ _ _ _
      | exact LeO.none _
      | refine LeO.ite ?_ ?_
      | refine LeO.bind ?_ (fun _ => ?_)
theorem laws_eqInt64A6.mono : ∀ a0 a1 a2 a3 a4 a5 a6 a7 a8 a9 a10 a11 k, LeO (laws_eqInt64A6.f k a0 a1 a2 a3 a4 a5 a6 a7 a8 a9 a10 a11) (laws_eqInt64A6.f (k + 1) a0 a1 a2 a3 a4 a5 a6 a7 a8 a9 a10 a11) := by
  intro a0 a1 a2 a3 a4 a5 a6 a7 a8 a9 a10 a11 k
  have ih0 := laws_eqInt64A6.mono_l k
  unfold laws_eqInt64A6.f
  repeat' first
      | (with_reducible exact ih0 _ _ _ _ _ _ _ _ _ _ _ _ _)
      | (with_reducible exact LeO.refl _)
      | (with_reducible exact LeO.none _)
      | (with_reducible refine LeO.ite ?_ ?_)
      | (with_reducible refine LeO.bind ?_ (fun _ => ?_))
      | exact ih0 _ _ _ _ _ _ _ _ _ _ _ _ _
      | exact LeO.none _
      | refine LeO.ite ?_ ?_
      | refine LeO.bind ?_ (fun _ => ?_)
set_option maxHeartbeats 8000000 in
set_option maxRecDepth 100000 in
theorem laws_eqInt64A6.calls (k : Nat) (a0_0 : Int) (a0_1 : Int) (a0_2 : Int) (a0_3 : Int) (a0_4 : Int) (a0_5 : Int) (a1_0 : Int) (a1_1 : Int) (a1_2 : Int) (a1_3 : Int) (a1_4 : Int) (a1_5 : Int) (r : Bool) (w : World) (h : laws_eqInt64A6.f k a0_0 a0_1 a0_2 a0_3 a0_4 a0_5 a1_0 a1_1 a1_2 a1_3 a1_4 a1_5 = some r) :
    Calls Try.prog 47 #[.agg #[.int .i64 a0_0, .int .i64 a0_1, .int .i64 a0_2, .int .i64 a0_3, .int .i64 a0_4, .int .i64 a0_5], .agg #[.int .i64 a1_0, .int .i64 a1_1, .int .i64 a1_2, .int .i64 a1_3, .int .i64 a1_4, .int .i64 a1_5]] w fun e w' => e = .returned (.bool r) ∧ Below w.heap.size w w' := by
  have hu64 := Try.underlying64
  have HB := Aside0.mk (Below.refl w.heap.size w)
  have H : (laws_eqInt64A6.l0 k 0 a0_0 a0_1 a0_2 a0_3 a0_4 a0_5 a1_0 a1_1 a1_2 a1_3 a1_4 a1_5) = some r := h
  clear h
  have H' := Aside0.mk H
  clear H
  go_enter Try.func47, Try.ntmps47
  go_wp2_with (first | ((with_reducible refine gate_dst (N := 2) rfl ?_); refine box_event ?hg (N := 2) ?hd (cs := #[.int .i64 a0_0, .int .i64 a0_1, .int .i64 a0_2, .int .i64 a0_3, .int .i64 a0_4, .int .i64 a0_5]) (t := 64) ?hr ?_; (case hd => rfl); (case hg => rfl); (case hr => first | (go_simp; done) | (go_simp; rfl)); intro gb190 hg w3 hbox hb; have n0_ := Aside0.mk (below_step (by repeat (first | (with_reducible first | exact HB.out | apply below_alloc | apply pw_below_drewN | apply below_drew1) | exact HB.out)) hb); have n1_ := Aside0.mk (hbox); have n2_ := Aside0.mk ((by rw [hg]; exact (below_size (by repeat (first | (with_reducible first | exact HB.out | apply below_alloc | apply pw_below_drewN | apply below_drew1) | exact HB.out))) : w.heap.size ≤ gb190)); have n3_ := Aside0.mk ((by rw [hg]; exact (below_size (by repeat (first | (with_reducible first | exact HB.out | apply below_alloc | apply pw_below_drewN | apply below_drew1) | exact HB.out))) : w.heap.size ≤ gb190)); clear HB; have HB := n0_; have BK190 := n1_; have GW190 := n2_; have GE190 := n3_; clear n0_ n1_ n2_ n3_; clear hb hbox hg) | ((with_reducible refine gate_dst (N := 3) rfl ?_); refine box_event ?hg (N := 3) ?hd (cs := #[.int .i64 a1_0, .int .i64 a1_1, .int .i64 a1_2, .int .i64 a1_3, .int .i64 a1_4, .int .i64 a1_5]) (t := 64) ?hr ?_; (case hd => rfl); (case hg => rfl); (case hr => first | (go_simp; done) | (go_simp; rfl)); intro gb191 hg w4 hbox hb; have n0_ := Aside0.mk (blk_below (g := gb190) (o := .cells #[.int .i64 a0_0, .int .i64 a0_1, .int .i64 a0_2, .int .i64 a0_3, .int .i64 a0_4, .int .i64 a0_5] 64 (0, 0)) (by (with_reducible repeat (first | refine blk_drewN ?_ _ | refine blk_drew ?_ | refine blk_alloc ?_ _)); exact BK190.out) hb); have n1_ := Aside0.mk (below_step (by repeat (first | (with_reducible first | exact HB.out | apply below_alloc | apply pw_below_drewN | apply below_drew1 | refine below_set ?_ GE190.out) | exact HB.out)) hb); have n2_ := Aside0.mk (hbox); have n3_ := Aside0.mk ((by rw [hg]; exact (below_size (by repeat (first | (with_reducible first | exact HB.out | apply below_alloc | apply pw_below_drewN | apply below_drew1 | refine below_set ?_ GE190.out) | exact HB.out))) : w.heap.size ≤ gb191)); have n4_ := Aside0.mk ((by rw [hg]; exact (below_size (by repeat (first | (with_reducible first | exact HB.out | apply below_alloc | apply pw_below_drewN | apply below_drew1 | refine below_set ?_ GE190.out) | exact HB.out))) : w.heap.size ≤ gb191)); have n5_ := Aside0.mk ((by rw [hg]; exact Nat.ne_of_lt (blk_lt (g := gb190) (o := .cells #[.int .i64 a0_0, .int .i64 a0_1, .int .i64 a0_2, .int .i64 a0_3, .int .i64 a0_4, .int .i64 a0_5] 64 (0, 0)) (by (with_reducible repeat (first | refine blk_drewN ?_ _ | refine blk_drew ?_ | refine blk_alloc ?_ _)); exact BK190.out)) : gb190 ≠ gb191)); have n6_ := Aside0.mk ((by rw [hg]; exact Nat.ne_of_gt (blk_lt (g := gb190) (o := .cells #[.int .i64 a0_0, .int .i64 a0_1, .int .i64 a0_2, .int .i64 a0_3, .int .i64 a0_4, .int .i64 a0_5] 64 (0, 0)) (by (with_reducible repeat (first | refine blk_drewN ?_ _ | refine blk_drew ?_ | refine blk_alloc ?_ _)); exact BK190.out)) : gb191 ≠ gb190)); clear BK190; clear HB; have BK190 := n0_; have HB := n1_; have BK191 := n2_; have GW191 := n3_; have GE191 := n4_; have NB190_191 := n5_; have NB191_190 := n6_; clear n0_ n1_ n2_ n3_ n4_ n5_ n6_; clear hb hbox hg))
  repeat (go_quiet (first | ((with_reducible refine gate_dst (N := 2) rfl ?_); refine box_event ?hg (N := 2) ?hd (cs := #[.int .i64 a0_0, .int .i64 a0_1, .int .i64 a0_2, .int .i64 a0_3, .int .i64 a0_4, .int .i64 a0_5]) (t := 64) ?hr ?_; (case hd => rfl); (case hg => rfl); (case hr => first | (go_simp; done) | (go_simp; rfl)); intro gb190 hg w3 hbox hb; have n0_ := Aside0.mk (below_step (by repeat (first | (with_reducible first | exact HB.out | apply below_alloc | apply pw_below_drewN | apply below_drew1) | exact HB.out)) hb); have n1_ := Aside0.mk (hbox); have n2_ := Aside0.mk ((by rw [hg]; exact (below_size (by repeat (first | (with_reducible first | exact HB.out | apply below_alloc | apply pw_below_drewN | apply below_drew1) | exact HB.out))) : w.heap.size ≤ gb190)); have n3_ := Aside0.mk ((by rw [hg]; exact (below_size (by repeat (first | (with_reducible first | exact HB.out | apply below_alloc | apply pw_below_drewN | apply below_drew1) | exact HB.out))) : w.heap.size ≤ gb190)); clear HB; have HB := n0_; have BK190 := n1_; have GW190 := n2_; have GE190 := n3_; clear n0_ n1_ n2_ n3_; clear hb hbox hg) | ((with_reducible refine gate_dst (N := 3) rfl ?_); refine box_event ?hg (N := 3) ?hd (cs := #[.int .i64 a1_0, .int .i64 a1_1, .int .i64 a1_2, .int .i64 a1_3, .int .i64 a1_4, .int .i64 a1_5]) (t := 64) ?hr ?_; (case hd => rfl); (case hg => rfl); (case hr => first | (go_simp; done) | (go_simp; rfl)); intro gb191 hg w4 hbox hb; have n0_ := Aside0.mk (blk_below (g := gb190) (o := .cells #[.int .i64 a0_0, .int .i64 a0_1, .int .i64 a0_2, .int .i64 a0_3, .int .i64 a0_4, .int .i64 a0_5] 64 (0, 0)) (by (with_reducible repeat (first | refine blk_drewN ?_ _ | refine blk_drew ?_ | refine blk_alloc ?_ _)); exact BK190.out) hb); have n1_ := Aside0.mk (below_step (by repeat (first | (with_reducible first | exact HB.out | apply below_alloc | apply pw_below_drewN | apply below_drew1 | refine below_set ?_ GE190.out) | exact HB.out)) hb); have n2_ := Aside0.mk (hbox); have n3_ := Aside0.mk ((by rw [hg]; exact (below_size (by repeat (first | (with_reducible first | exact HB.out | apply below_alloc | apply pw_below_drewN | apply below_drew1 | refine below_set ?_ GE190.out) | exact HB.out))) : w.heap.size ≤ gb191)); have n4_ := Aside0.mk ((by rw [hg]; exact (below_size (by repeat (first | (with_reducible first | exact HB.out | apply below_alloc | apply pw_below_drewN | apply below_drew1 | refine below_set ?_ GE190.out) | exact HB.out))) : w.heap.size ≤ gb191)); have n5_ := Aside0.mk ((by rw [hg]; exact Nat.ne_of_lt (blk_lt (g := gb190) (o := .cells #[.int .i64 a0_0, .int .i64 a0_1, .int .i64 a0_2, .int .i64 a0_3, .int .i64 a0_4, .int .i64 a0_5] 64 (0, 0)) (by (with_reducible repeat (first | refine blk_drewN ?_ _ | refine blk_drew ?_ | refine blk_alloc ?_ _)); exact BK190.out)) : gb190 ≠ gb191)); have n6_ := Aside0.mk ((by rw [hg]; exact Nat.ne_of_gt (blk_lt (g := gb190) (o := .cells #[.int .i64 a0_0, .int .i64 a0_1, .int .i64 a0_2, .int .i64 a0_3, .int .i64 a0_4, .int .i64 a0_5] 64 (0, 0)) (by (with_reducible repeat (first | refine blk_drewN ?_ _ | refine blk_drew ?_ | refine blk_alloc ?_ _)); exact BK190.out)) : gb191 ≠ gb190)); clear BK190; clear HB; have BK190 := n0_; have HB := n1_; have BK191 := n2_; have GW191 := n3_; have GE191 := n4_; have NB190_191 := n5_; have NB191_190 := n6_; clear n0_ n1_ n2_ n3_ n4_ n5_ n6_; clear hb hbox hg)); try go_wp2_with (first | ((with_reducible refine gate_dst (N := 2) rfl ?_); refine box_event ?hg (N := 2) ?hd (cs := #[.int .i64 a0_0, .int .i64 a0_1, .int .i64 a0_2, .int .i64 a0_3, .int .i64 a0_4, .int .i64 a0_5]) (t := 64) ?hr ?_; (case hd => rfl); (case hg => rfl); (case hr => first | (go_simp; done) | (go_simp; rfl)); intro gb190 hg w3 hbox hb; have n0_ := Aside0.mk (below_step (by repeat (first | (with_reducible first | exact HB.out | apply below_alloc | apply pw_below_drewN | apply below_drew1) | exact HB.out)) hb); have n1_ := Aside0.mk (hbox); have n2_ := Aside0.mk ((by rw [hg]; exact (below_size (by repeat (first | (with_reducible first | exact HB.out | apply below_alloc | apply pw_below_drewN | apply below_drew1) | exact HB.out))) : w.heap.size ≤ gb190)); have n3_ := Aside0.mk ((by rw [hg]; exact (below_size (by repeat (first | (with_reducible first | exact HB.out | apply below_alloc | apply pw_below_drewN | apply below_drew1) | exact HB.out))) : w.heap.size ≤ gb190)); clear HB; have HB := n0_; have BK190 := n1_; have GW190 := n2_; have GE190 := n3_; clear n0_ n1_ n2_ n3_; clear hb hbox hg) | ((with_reducible refine gate_dst (N := 3) rfl ?_); refine box_event ?hg (N := 3) ?hd (cs := #[.int .i64 a1_0, .int .i64 a1_1, .int .i64 a1_2, .int .i64 a1_3, .int .i64 a1_4, .int .i64 a1_5]) (t := 64) ?hr ?_; (case hd => rfl); (case hg => rfl); (case hr => first | (go_simp; done) | (go_simp; rfl)); intro gb191 hg w4 hbox hb; have n0_ := Aside0.mk (blk_below (g := gb190) (o := .cells #[.int .i64 a0_0, .int .i64 a0_1, .int .i64 a0_2, .int .i64 a0_3, .int .i64 a0_4, .int .i64 a0_5] 64 (0, 0)) (by (with_reducible repeat (first | refine blk_drewN ?_ _ | refine blk_drew ?_ | refine blk_alloc ?_ _)); exact BK190.out) hb); have n1_ := Aside0.mk (below_step (by repeat (first | (with_reducible first | exact HB.out | apply below_alloc | apply pw_below_drewN | apply below_drew1 | refine below_set ?_ GE190.out) | exact HB.out)) hb); have n2_ := Aside0.mk (hbox); have n3_ := Aside0.mk ((by rw [hg]; exact (below_size (by repeat (first | (with_reducible first | exact HB.out | apply below_alloc | apply pw_below_drewN | apply below_drew1 | refine below_set ?_ GE190.out) | exact HB.out))) : w.heap.size ≤ gb191)); have n4_ := Aside0.mk ((by rw [hg]; exact (below_size (by repeat (first | (with_reducible first | exact HB.out | apply below_alloc | apply pw_below_drewN | apply below_drew1 | refine below_set ?_ GE190.out) | exact HB.out))) : w.heap.size ≤ gb191)); have n5_ := Aside0.mk ((by rw [hg]; exact Nat.ne_of_lt (blk_lt (g := gb190) (o := .cells #[.int .i64 a0_0, .int .i64 a0_1, .int .i64 a0_2, .int .i64 a0_3, .int .i64 a0_4, .int .i64 a0_5] 64 (0, 0)) (by (with_reducible repeat (first | refine blk_drewN ?_ _ | refine blk_drew ?_ | refine blk_alloc ?_ _)); exact BK190.out)) : gb190 ≠ gb191)); have n6_ := Aside0.mk ((by rw [hg]; exact Nat.ne_of_gt (blk_lt (g := gb190) (o := .cells #[.int .i64 a0_0, .int .i64 a0_1, .int .i64 a0_2, .int .i64 a0_3, .int .i64 a0_4, .int .i64 a0_5] 64 (0, 0)) (by (with_reducible repeat (first | refine blk_drewN ?_ _ | refine blk_drew ?_ | refine blk_alloc ?_ _)); exact BK190.out)) : gb191 ≠ gb190)); clear BK190; clear HB; have BK190 := n0_; have HB := n1_; have BK191 := n2_; have GW191 := n3_; have GE191 := n4_; have NB190_191 := n5_; have NB191_190 := n6_; clear n0_ n1_ n2_ n3_ n4_ n5_ n6_; clear hb hbox hg)))
  go_loopg [5] k (fun kq v5 w' => ∃ (x5_1 : Int), v5 = .int .i64 x5_1 ∧ Aside0 (laws_eqInt64A6.l0 kq x5_1 a0_0 a0_1 a0_2 a0_3 a0_4 a0_5 a1_0 a1_1 a1_2 a1_3 a1_4 a1_5 = some r) ∧ Aside0 (kq ≤ k) ∧ Aside0 (w'.heap[gb190]? = some (.cells #[.int .i64 a0_0, .int .i64 a0_1, .int .i64 a0_2, .int .i64 a0_3, .int .i64 a0_4, .int .i64 a0_5] 64 (0, 0))) ∧ Aside0 (w'.heap[gb191]? = some (.cells #[.int .i64 a1_0, .int .i64 a1_1, .int .i64 a1_2, .int .i64 a1_3, .int .i64 a1_4, .int .i64 a1_5] 64 (0, 0))) ∧ Aside0 (Below w.heap.size w w'))
  case atStart => exact ⟨(0), (by first | rfl | (simp; done) | (simp [*]; done) | (exact congrArg (Value.int .i64) (wrap_eq (by omega)))), H', ⟨Nat.le_refl _⟩, ⟨by (with_reducible repeat (first | refine blk_drewN ?_ _ | refine blk_drew ?_ | refine blk_alloc ?_ _)); exact BK190.out⟩, ⟨by (with_reducible repeat (first | refine blk_drewN ?_ _ | refine blk_drew ?_ | refine blk_alloc ?_ _)); exact BK191.out⟩, ⟨by repeat (first | (with_reducible first | exact HB.out | apply below_alloc | apply pw_below_drewN | apply below_drew1 | refine below_set ?_ GE190.out | refine below_set ?_ GE191.out) | exact HB.out)⟩⟩
  case round =>
    clear H'
    try clear p2
    try clear c4
    obtain ⟨x5_1, rfl, HA, HK1, BK190, BK191, HB⟩ := hrel
    cases gk with
    | zero => exact absurd HA.out (by simp [laws_eqInt64A6.l0])
    | succ k1 =>
      have H := HA.out
      clear HA
      simp only [laws_eqInt64A6.l0] at H
      by_cases c5 : x5_1 < 6
      · rw [if_pos c5] at H
        have c5b0 : decide (x5_1 < 6) = true := decide_eq_true c5
        clear c5
        by_cases c6 : x5_1 = 0
        · rw [if_pos c6] at H
          have Ac6 : Aside0 (x5_1 = 0) := ⟨c6⟩
          clear c6
          have ar7e : x5_1 = 0 := by first | exact (show Aside0 (x5_1 = 0) by assumption).out | exact beq_iff_eq.mp (by assumption) | omega
          have ar7n : (x5_1).toNat = 0 := by rw [ar7e]; rfl
          have ar7l : decide (0 ≤ x5_1) = true := decide_eq_true (by omega)
          have ar7L := eq_true (of_decide_eq_true ar7l)
          have ar7h : decide (x5_1 < 6) = true := decide_eq_true (by omega)
          have ar7H := eq_true (of_decide_eq_true ar7h)
          clear ar7e
          have ar8e : x5_1 = 0 := by first | exact (show Aside0 (x5_1 = 0) by assumption).out | exact beq_iff_eq.mp (by assumption) | omega
          have ar8n : (x5_1).toNat = 0 := by rw [ar8e]; rfl
          have ar8l : decide (0 ≤ x5_1) = true := decide_eq_true (by omega)
          have ar8L := eq_true (of_decide_eq_true ar8l)
          have ar8h : decide (x5_1 < 6) = true := decide_eq_true (by omega)
          have ar8H := eq_true (of_decide_eq_true ar8h)
          clear ar8e
          by_cases c9 : a0_0 = a1_0
          · rw [if_pos c9] at H
            have c9b0 : (a0_0 == a1_0) = true := beq_iff_eq.mpr c9
            have c9b1 : (a0_0 != a1_0) = false := bne_eq_false_iff_eq.mpr c9
            clear c9
            have H' := Aside0.mk H
            clear H
            have hnb10 := NB190_191.out
            have hnc10 := NB191_190.out
            have hcz11_0 : wr.cell? ⟨gb190, 0, none⟩ = some (.int .i64 a0_0) := (blk_cell BK190.out 0).trans rfl
            have hcz11_1 : wr.cell? ⟨gb190, 1, none⟩ = some (.int .i64 a0_1) := (blk_cell BK190.out 1).trans rfl
            have hcz11_2 : wr.cell? ⟨gb190, 2, none⟩ = some (.int .i64 a0_2) := (blk_cell BK190.out 2).trans rfl
            have hcz11_3 : wr.cell? ⟨gb190, 3, none⟩ = some (.int .i64 a0_3) := (blk_cell BK190.out 3).trans rfl
            have hcz11_4 : wr.cell? ⟨gb190, 4, none⟩ = some (.int .i64 a0_4) := (blk_cell BK190.out 4).trans rfl
            have hcz11_5 : wr.cell? ⟨gb190, 5, none⟩ = some (.int .i64 a0_5) := (blk_cell BK190.out 5).trans rfl
            have hfz11_0 := blk_frozen BK190.out 0
            have hfz11_1 := blk_frozen BK190.out 1
            have hfz11_2 := blk_frozen BK190.out 2
            have hfz11_3 := blk_frozen BK190.out 3
            have hfz11_4 := blk_frozen BK190.out 4
            have hfz11_5 := blk_frozen BK190.out 5
            have hcz12_0 : wr.cell? ⟨gb191, 0, none⟩ = some (.int .i64 a1_0) := (blk_cell BK191.out 0).trans rfl
            have hcz12_1 : wr.cell? ⟨gb191, 1, none⟩ = some (.int .i64 a1_1) := (blk_cell BK191.out 1).trans rfl
            have hcz12_2 : wr.cell? ⟨gb191, 2, none⟩ = some (.int .i64 a1_2) := (blk_cell BK191.out 2).trans rfl
            have hcz12_3 : wr.cell? ⟨gb191, 3, none⟩ = some (.int .i64 a1_3) := (blk_cell BK191.out 3).trans rfl
            have hcz12_4 : wr.cell? ⟨gb191, 4, none⟩ = some (.int .i64 a1_4) := (blk_cell BK191.out 4).trans rfl
            have hcz12_5 : wr.cell? ⟨gb191, 5, none⟩ = some (.int .i64 a1_5) := (blk_cell BK191.out 5).trans rfl
            have hfz12_0 := blk_frozen BK191.out 0
            have hfz12_1 := blk_frozen BK191.out 1
            have hfz12_2 := blk_frozen BK191.out 2
            have hfz12_3 := blk_frozen BK191.out 3
            have hfz12_4 := blk_frozen BK191.out 4
            have hfz12_5 := blk_frozen BK191.out 5
            go_wp2
            repeat (go_quiet (fail); try go_wp2)
            go_roundg k1
            case measure => have := HK1.out; omega
            case rel => exact ⟨(wrap64 (x5_1 + 1)), (by first | rfl | (simp; done) | (simp [*]; done) | (exact congrArg (Value.int .i64) (wrap_eq (by omega)))), H', ⟨by have := HK1.out; omega⟩, ⟨by (with_reducible repeat (first | refine blk_drewN ?_ _ | refine blk_drew ?_ | refine blk_alloc ?_ _)); exact BK190.out⟩, ⟨by (with_reducible repeat (first | refine blk_drewN ?_ _ | refine blk_drew ?_ | refine blk_alloc ?_ _)); exact BK191.out⟩, ⟨by repeat (first | (with_reducible first | exact HB.out | apply below_alloc | apply pw_below_drewN | apply below_drew1 | refine below_set ?_ GE190.out | refine below_set ?_ GE191.out) | exact HB.out)⟩⟩
          · rw [if_neg c9] at H
            have c9b0 : (a0_0 == a1_0) = false := beq_eq_false_iff_ne.mpr c9
            have c9b1 : (a0_0 != a1_0) = true := bne_iff_ne.mpr c9
            obtain rfl := Option.some.inj H
            have hnb13 := NB190_191.out
            have hnc13 := NB191_190.out
            have hcz14_0 : wr.cell? ⟨gb190, 0, none⟩ = some (.int .i64 a0_0) := (blk_cell BK190.out 0).trans rfl
            have hcz14_1 : wr.cell? ⟨gb190, 1, none⟩ = some (.int .i64 a0_1) := (blk_cell BK190.out 1).trans rfl
            have hcz14_2 : wr.cell? ⟨gb190, 2, none⟩ = some (.int .i64 a0_2) := (blk_cell BK190.out 2).trans rfl
            have hcz14_3 : wr.cell? ⟨gb190, 3, none⟩ = some (.int .i64 a0_3) := (blk_cell BK190.out 3).trans rfl
            have hcz14_4 : wr.cell? ⟨gb190, 4, none⟩ = some (.int .i64 a0_4) := (blk_cell BK190.out 4).trans rfl
            have hcz14_5 : wr.cell? ⟨gb190, 5, none⟩ = some (.int .i64 a0_5) := (blk_cell BK190.out 5).trans rfl
            have hfz14_0 := blk_frozen BK190.out 0
            have hfz14_1 := blk_frozen BK190.out 1
            have hfz14_2 := blk_frozen BK190.out 2
            have hfz14_3 := blk_frozen BK190.out 3
            have hfz14_4 := blk_frozen BK190.out 4
            have hfz14_5 := blk_frozen BK190.out 5
            have hcz15_0 : wr.cell? ⟨gb191, 0, none⟩ = some (.int .i64 a1_0) := (blk_cell BK191.out 0).trans rfl
            have hcz15_1 : wr.cell? ⟨gb191, 1, none⟩ = some (.int .i64 a1_1) := (blk_cell BK191.out 1).trans rfl
            have hcz15_2 : wr.cell? ⟨gb191, 2, none⟩ = some (.int .i64 a1_2) := (blk_cell BK191.out 2).trans rfl
            have hcz15_3 : wr.cell? ⟨gb191, 3, none⟩ = some (.int .i64 a1_3) := (blk_cell BK191.out 3).trans rfl
            have hcz15_4 : wr.cell? ⟨gb191, 4, none⟩ = some (.int .i64 a1_4) := (blk_cell BK191.out 4).trans rfl
            have hcz15_5 : wr.cell? ⟨gb191, 5, none⟩ = some (.int .i64 a1_5) := (blk_cell BK191.out 5).trans rfl
            have hfz15_0 := blk_frozen BK191.out 0
            have hfz15_1 := blk_frozen BK191.out 1
            have hfz15_2 := blk_frozen BK191.out 2
            have hfz15_3 := blk_frozen BK191.out 3
            have hfz15_4 := blk_frozen BK191.out 4
            have hfz15_5 := blk_frozen BK191.out 5
            go_wp2
            repeat (go_quiet (fail); try go_wp2)
            go_ret
            exact ⟨by first | rfl | (simp [errW_none, errW_some] <;> rfl) | (simp [*, errW_none, errW_some] <;> rfl), by repeat (first | (with_reducible first | exact HB.out | apply below_alloc | apply pw_below_drewN | apply below_drew1 | refine below_set ?_ GE190.out | refine below_set ?_ GE191.out) | exact HB.out)⟩
        · rw [if_neg c6] at H
          clear c6
          by_cases c16 : x5_1 = 1
          · rw [if_pos c16] at H
            have Ac16 : Aside0 (x5_1 = 1) := ⟨c16⟩
            clear c16
            have ar17e : x5_1 = 1 := by first | exact (show Aside0 (x5_1 = 1) by assumption).out | exact beq_iff_eq.mp (by assumption) | omega
            have ar17n : (x5_1).toNat = 1 := by rw [ar17e]; rfl
            have ar17l : decide (0 ≤ x5_1) = true := decide_eq_true (by omega)
            have ar17L := eq_true (of_decide_eq_true ar17l)
            have ar17h : decide (x5_1 < 6) = true := decide_eq_true (by omega)
            have ar17H := eq_true (of_decide_eq_true ar17h)
            clear ar17e
            have ar18e : x5_1 = 1 := by first | exact (show Aside0 (x5_1 = 1) by assumption).out | exact beq_iff_eq.mp (by assumption) | omega
            have ar18n : (x5_1).toNat = 1 := by rw [ar18e]; rfl
            have ar18l : decide (0 ≤ x5_1) = true := decide_eq_true (by omega)
            have ar18L := eq_true (of_decide_eq_true ar18l)
            have ar18h : decide (x5_1 < 6) = true := decide_eq_true (by omega)
            have ar18H := eq_true (of_decide_eq_true ar18h)
            clear ar18e
            by_cases c19 : a0_1 = a1_1
            · rw [if_pos c19] at H
              have c19b0 : (a0_1 == a1_1) = true := beq_iff_eq.mpr c19
              have c19b1 : (a0_1 != a1_1) = false := bne_eq_false_iff_eq.mpr c19
              clear c19
              have H' := Aside0.mk H
              clear H
              have hnb20 := NB190_191.out
              have hnc20 := NB191_190.out
              have hcz21_0 : wr.cell? ⟨gb190, 0, none⟩ = some (.int .i64 a0_0) := (blk_cell BK190.out 0).trans rfl
              have hcz21_1 : wr.cell? ⟨gb190, 1, none⟩ = some (.int .i64 a0_1) := (blk_cell BK190.out 1).trans rfl
              have hcz21_2 : wr.cell? ⟨gb190, 2, none⟩ = some (.int .i64 a0_2) := (blk_cell BK190.out 2).trans rfl
              have hcz21_3 : wr.cell? ⟨gb190, 3, none⟩ = some (.int .i64 a0_3) := (blk_cell BK190.out 3).trans rfl
              have hcz21_4 : wr.cell? ⟨gb190, 4, none⟩ = some (.int .i64 a0_4) := (blk_cell BK190.out 4).trans rfl
              have hcz21_5 : wr.cell? ⟨gb190, 5, none⟩ = some (.int .i64 a0_5) := (blk_cell BK190.out 5).trans rfl
              have hfz21_0 := blk_frozen BK190.out 0
              have hfz21_1 := blk_frozen BK190.out 1
              have hfz21_2 := blk_frozen BK190.out 2
              have hfz21_3 := blk_frozen BK190.out 3
              have hfz21_4 := blk_frozen BK190.out 4
              have hfz21_5 := blk_frozen BK190.out 5
              have hcz22_0 : wr.cell? ⟨gb191, 0, none⟩ = some (.int .i64 a1_0) := (blk_cell BK191.out 0).trans rfl
              have hcz22_1 : wr.cell? ⟨gb191, 1, none⟩ = some (.int .i64 a1_1) := (blk_cell BK191.out 1).trans rfl
              have hcz22_2 : wr.cell? ⟨gb191, 2, none⟩ = some (.int .i64 a1_2) := (blk_cell BK191.out 2).trans rfl
              have hcz22_3 : wr.cell? ⟨gb191, 3, none⟩ = some (.int .i64 a1_3) := (blk_cell BK191.out 3).trans rfl
              have hcz22_4 : wr.cell? ⟨gb191, 4, none⟩ = some (.int .i64 a1_4) := (blk_cell BK191.out 4).trans rfl
              have hcz22_5 : wr.cell? ⟨gb191, 5, none⟩ = some (.int .i64 a1_5) := (blk_cell BK191.out 5).trans rfl
              have hfz22_0 := blk_frozen BK191.out 0
              have hfz22_1 := blk_frozen BK191.out 1
              have hfz22_2 := blk_frozen BK191.out 2
              have hfz22_3 := blk_frozen BK191.out 3
              have hfz22_4 := blk_frozen BK191.out 4
              have hfz22_5 := blk_frozen BK191.out 5
              go_wp2
              repeat (go_quiet (fail); try go_wp2)
              go_roundg k1
              case measure => have := HK1.out; omega
              case rel => exact ⟨(wrap64 (x5_1 + 1)), (by first | rfl | (simp; done) | (simp [*]; done) | (exact congrArg (Value.int .i64) (wrap_eq (by omega)))), H', ⟨by have := HK1.out; omega⟩, ⟨by (with_reducible repeat (first | refine blk_drewN ?_ _ | refine blk_drew ?_ | refine blk_alloc ?_ _)); exact BK190.out⟩, ⟨by (with_reducible repeat (first | refine blk_drewN ?_ _ | refine blk_drew ?_ | refine blk_alloc ?_ _)); exact BK191.out⟩, ⟨by repeat (first | (with_reducible first | exact HB.out | apply below_alloc | apply pw_below_drewN | apply below_drew1 | refine below_set ?_ GE190.out | refine below_set ?_ GE191.out) | exact HB.out)⟩⟩
            · rw [if_neg c19] at H
              have c19b0 : (a0_1 == a1_1) = false := beq_eq_false_iff_ne.mpr c19
              have c19b1 : (a0_1 != a1_1) = true := bne_iff_ne.mpr c19
              obtain rfl := Option.some.inj H
              have hnb23 := NB190_191.out
              have hnc23 := NB191_190.out
              have hcz24_0 : wr.cell? ⟨gb190, 0, none⟩ = some (.int .i64 a0_0) := (blk_cell BK190.out 0).trans rfl
              have hcz24_1 : wr.cell? ⟨gb190, 1, none⟩ = some (.int .i64 a0_1) := (blk_cell BK190.out 1).trans rfl
              have hcz24_2 : wr.cell? ⟨gb190, 2, none⟩ = some (.int .i64 a0_2) := (blk_cell BK190.out 2).trans rfl
              have hcz24_3 : wr.cell? ⟨gb190, 3, none⟩ = some (.int .i64 a0_3) := (blk_cell BK190.out 3).trans rfl
              have hcz24_4 : wr.cell? ⟨gb190, 4, none⟩ = some (.int .i64 a0_4) := (blk_cell BK190.out 4).trans rfl
              have hcz24_5 : wr.cell? ⟨gb190, 5, none⟩ = some (.int .i64 a0_5) := (blk_cell BK190.out 5).trans rfl
              have hfz24_0 := blk_frozen BK190.out 0
              have hfz24_1 := blk_frozen BK190.out 1
              have hfz24_2 := blk_frozen BK190.out 2
              have hfz24_3 := blk_frozen BK190.out 3
              have hfz24_4 := blk_frozen BK190.out 4
              have hfz24_5 := blk_frozen BK190.out 5
              have hcz25_0 : wr.cell? ⟨gb191, 0, none⟩ = some (.int .i64 a1_0) := (blk_cell BK191.out 0).trans rfl
              have hcz25_1 : wr.cell? ⟨gb191, 1, none⟩ = some (.int .i64 a1_1) := (blk_cell BK191.out 1).trans rfl
              have hcz25_2 : wr.cell? ⟨gb191, 2, none⟩ = some (.int .i64 a1_2) := (blk_cell BK191.out 2).trans rfl
              have hcz25_3 : wr.cell? ⟨gb191, 3, none⟩ = some (.int .i64 a1_3) := (blk_cell BK191.out 3).trans rfl
              have hcz25_4 : wr.cell? ⟨gb191, 4, none⟩ = some (.int .i64 a1_4) := (blk_cell BK191.out 4).trans rfl
              have hcz25_5 : wr.cell? ⟨gb191, 5, none⟩ = some (.int .i64 a1_5) := (blk_cell BK191.out 5).trans rfl
              have hfz25_0 := blk_frozen BK191.out 0
              have hfz25_1 := blk_frozen BK191.out 1
              have hfz25_2 := blk_frozen BK191.out 2
              have hfz25_3 := blk_frozen BK191.out 3
              have hfz25_4 := blk_frozen BK191.out 4
              have hfz25_5 := blk_frozen BK191.out 5
              go_wp2
              repeat (go_quiet (fail); try go_wp2)
              go_ret
              exact ⟨by first | rfl | (simp [errW_none, errW_some] <;> rfl) | (simp [*, errW_none, errW_some] <;> rfl), by repeat (first | (with_reducible first | exact HB.out | apply below_alloc | apply pw_below_drewN | apply below_drew1 | refine below_set ?_ GE190.out | refine below_set ?_ GE191.out) | exact HB.out)⟩
          · rw [if_neg c16] at H
            clear c16
            by_cases c26 : x5_1 = 2
            · rw [if_pos c26] at H
              have Ac26 : Aside0 (x5_1 = 2) := ⟨c26⟩
              clear c26
              have ar27e : x5_1 = 2 := by first | exact (show Aside0 (x5_1 = 2) by assumption).out | exact beq_iff_eq.mp (by assumption) | omega
              have ar27n : (x5_1).toNat = 2 := by rw [ar27e]; rfl
              have ar27l : decide (0 ≤ x5_1) = true := decide_eq_true (by omega)
              have ar27L := eq_true (of_decide_eq_true ar27l)
              have ar27h : decide (x5_1 < 6) = true := decide_eq_true (by omega)
              have ar27H := eq_true (of_decide_eq_true ar27h)
              clear ar27e
              have ar28e : x5_1 = 2 := by first | exact (show Aside0 (x5_1 = 2) by assumption).out | exact beq_iff_eq.mp (by assumption) | omega
              have ar28n : (x5_1).toNat = 2 := by rw [ar28e]; rfl
              have ar28l : decide (0 ≤ x5_1) = true := decide_eq_true (by omega)
              have ar28L := eq_true (of_decide_eq_true ar28l)
              have ar28h : decide (x5_1 < 6) = true := decide_eq_true (by omega)
              have ar28H := eq_true (of_decide_eq_true ar28h)
              clear ar28e
              by_cases c29 : a0_2 = a1_2
              · rw [if_pos c29] at H
                have c29b0 : (a0_2 == a1_2) = true := beq_iff_eq.mpr c29
                have c29b1 : (a0_2 != a1_2) = false := bne_eq_false_iff_eq.mpr c29
                clear c29
                have H' := Aside0.mk H
                clear H
                have hnb30 := NB190_191.out
                have hnc30 := NB191_190.out
                have hcz31_0 : wr.cell? ⟨gb190, 0, none⟩ = some (.int .i64 a0_0) := (blk_cell BK190.out 0).trans rfl
                have hcz31_1 : wr.cell? ⟨gb190, 1, none⟩ = some (.int .i64 a0_1) := (blk_cell BK190.out 1).trans rfl
                have hcz31_2 : wr.cell? ⟨gb190, 2, none⟩ = some (.int .i64 a0_2) := (blk_cell BK190.out 2).trans rfl
                have hcz31_3 : wr.cell? ⟨gb190, 3, none⟩ = some (.int .i64 a0_3) := (blk_cell BK190.out 3).trans rfl
                have hcz31_4 : wr.cell? ⟨gb190, 4, none⟩ = some (.int .i64 a0_4) := (blk_cell BK190.out 4).trans rfl
                have hcz31_5 : wr.cell? ⟨gb190, 5, none⟩ = some (.int .i64 a0_5) := (blk_cell BK190.out 5).trans rfl
                have hfz31_0 := blk_frozen BK190.out 0
                have hfz31_1 := blk_frozen BK190.out 1
                have hfz31_2 := blk_frozen BK190.out 2
                have hfz31_3 := blk_frozen BK190.out 3
                have hfz31_4 := blk_frozen BK190.out 4
                have hfz31_5 := blk_frozen BK190.out 5
                have hcz32_0 : wr.cell? ⟨gb191, 0, none⟩ = some (.int .i64 a1_0) := (blk_cell BK191.out 0).trans rfl
                have hcz32_1 : wr.cell? ⟨gb191, 1, none⟩ = some (.int .i64 a1_1) := (blk_cell BK191.out 1).trans rfl
                have hcz32_2 : wr.cell? ⟨gb191, 2, none⟩ = some (.int .i64 a1_2) := (blk_cell BK191.out 2).trans rfl
                have hcz32_3 : wr.cell? ⟨gb191, 3, none⟩ = some (.int .i64 a1_3) := (blk_cell BK191.out 3).trans rfl
                have hcz32_4 : wr.cell? ⟨gb191, 4, none⟩ = some (.int .i64 a1_4) := (blk_cell BK191.out 4).trans rfl
                have hcz32_5 : wr.cell? ⟨gb191, 5, none⟩ = some (.int .i64 a1_5) := (blk_cell BK191.out 5).trans rfl
                have hfz32_0 := blk_frozen BK191.out 0
                have hfz32_1 := blk_frozen BK191.out 1
                have hfz32_2 := blk_frozen BK191.out 2
                have hfz32_3 := blk_frozen BK191.out 3
                have hfz32_4 := blk_frozen BK191.out 4
                have hfz32_5 := blk_frozen BK191.out 5
                go_wp2
                repeat (go_quiet (fail); try go_wp2)
                go_roundg k1
                case measure => have := HK1.out; omega
                case rel => exact ⟨(wrap64 (x5_1 + 1)), (by first | rfl | (simp; done) | (simp [*]; done) | (exact congrArg (Value.int .i64) (wrap_eq (by omega)))), H', ⟨by have := HK1.out; omega⟩, ⟨by (with_reducible repeat (first | refine blk_drewN ?_ _ | refine blk_drew ?_ | refine blk_alloc ?_ _)); exact BK190.out⟩, ⟨by (with_reducible repeat (first | refine blk_drewN ?_ _ | refine blk_drew ?_ | refine blk_alloc ?_ _)); exact BK191.out⟩, ⟨by repeat (first | (with_reducible first | exact HB.out | apply below_alloc | apply pw_below_drewN | apply below_drew1 | refine below_set ?_ GE190.out | refine below_set ?_ GE191.out) | exact HB.out)⟩⟩
              · rw [if_neg c29] at H
                have c29b0 : (a0_2 == a1_2) = false := beq_eq_false_iff_ne.mpr c29
                have c29b1 : (a0_2 != a1_2) = true := bne_iff_ne.mpr c29
                obtain rfl := Option.some.inj H
                have hnb33 := NB190_191.out
                have hnc33 := NB191_190.out
                have hcz34_0 : wr.cell? ⟨gb190, 0, none⟩ = some (.int .i64 a0_0) := (blk_cell BK190.out 0).trans rfl
                have hcz34_1 : wr.cell? ⟨gb190, 1, none⟩ = some (.int .i64 a0_1) := (blk_cell BK190.out 1).trans rfl
                have hcz34_2 : wr.cell? ⟨gb190, 2, none⟩ = some (.int .i64 a0_2) := (blk_cell BK190.out 2).trans rfl
                have hcz34_3 : wr.cell? ⟨gb190, 3, none⟩ = some (.int .i64 a0_3) := (blk_cell BK190.out 3).trans rfl
                have hcz34_4 : wr.cell? ⟨gb190, 4, none⟩ = some (.int .i64 a0_4) := (blk_cell BK190.out 4).trans rfl
                have hcz34_5 : wr.cell? ⟨gb190, 5, none⟩ = some (.int .i64 a0_5) := (blk_cell BK190.out 5).trans rfl
                have hfz34_0 := blk_frozen BK190.out 0
                have hfz34_1 := blk_frozen BK190.out 1
                have hfz34_2 := blk_frozen BK190.out 2
                have hfz34_3 := blk_frozen BK190.out 3
                have hfz34_4 := blk_frozen BK190.out 4
                have hfz34_5 := blk_frozen BK190.out 5
                have hcz35_0 : wr.cell? ⟨gb191, 0, none⟩ = some (.int .i64 a1_0) := (blk_cell BK191.out 0).trans rfl
                have hcz35_1 : wr.cell? ⟨gb191, 1, none⟩ = some (.int .i64 a1_1) := (blk_cell BK191.out 1).trans rfl
                have hcz35_2 : wr.cell? ⟨gb191, 2, none⟩ = some (.int .i64 a1_2) := (blk_cell BK191.out 2).trans rfl
                have hcz35_3 : wr.cell? ⟨gb191, 3, none⟩ = some (.int .i64 a1_3) := (blk_cell BK191.out 3).trans rfl
                have hcz35_4 : wr.cell? ⟨gb191, 4, none⟩ = some (.int .i64 a1_4) := (blk_cell BK191.out 4).trans rfl
                have hcz35_5 : wr.cell? ⟨gb191, 5, none⟩ = some (.int .i64 a1_5) := (blk_cell BK191.out 5).trans rfl
                have hfz35_0 := blk_frozen BK191.out 0
                have hfz35_1 := blk_frozen BK191.out 1
                have hfz35_2 := blk_frozen BK191.out 2
                have hfz35_3 := blk_frozen BK191.out 3
                have hfz35_4 := blk_frozen BK191.out 4
                have hfz35_5 := blk_frozen BK191.out 5
                go_wp2
                repeat (go_quiet (fail); try go_wp2)
                go_ret
                exact ⟨by first | rfl | (simp [errW_none, errW_some] <;> rfl) | (simp [*, errW_none, errW_some] <;> rfl), by repeat (first | (with_reducible first | exact HB.out | apply below_alloc | apply pw_below_drewN | apply below_drew1 | refine below_set ?_ GE190.out | refine below_set ?_ GE191.out) | exact HB.out)⟩
            · rw [if_neg c26] at H
              clear c26
              by_cases c36 : x5_1 = 3
              · rw [if_pos c36] at H
                have Ac36 : Aside0 (x5_1 = 3) := ⟨c36⟩
                clear c36
                have ar37e : x5_1 = 3 := by first | exact (show Aside0 (x5_1 = 3) by assumption).out | exact beq_iff_eq.mp (by assumption) | omega
                have ar37n : (x5_1).toNat = 3 := by rw [ar37e]; rfl
                have ar37l : decide (0 ≤ x5_1) = true := decide_eq_true (by omega)
                have ar37L := eq_true (of_decide_eq_true ar37l)
                have ar37h : decide (x5_1 < 6) = true := decide_eq_true (by omega)
                have ar37H := eq_true (of_decide_eq_true ar37h)
                clear ar37e
                have ar38e : x5_1 = 3 := by first | exact (show Aside0 (x5_1 = 3) by assumption).out | exact beq_iff_eq.mp (by assumption) | omega
                have ar38n : (x5_1).toNat = 3 := by rw [ar38e]; rfl
                have ar38l : decide (0 ≤ x5_1) = true := decide_eq_true (by omega)
                have ar38L := eq_true (of_decide_eq_true ar38l)
                have ar38h : decide (x5_1 < 6) = true := decide_eq_true (by omega)
                have ar38H := eq_true (of_decide_eq_true ar38h)
                clear ar38e
                by_cases c39 : a0_3 = a1_3
                · rw [if_pos c39] at H
                  have c39b0 : (a0_3 == a1_3) = true := beq_iff_eq.mpr c39
                  have c39b1 : (a0_3 != a1_3) = false := bne_eq_false_iff_eq.mpr c39
                  clear c39
                  have H' := Aside0.mk H
                  clear H
                  have hnb40 := NB190_191.out
                  have hnc40 := NB191_190.out
                  have hcz41_0 : wr.cell? ⟨gb190, 0, none⟩ = some (.int .i64 a0_0) := (blk_cell BK190.out 0).trans rfl
                  have hcz41_1 : wr.cell? ⟨gb190, 1, none⟩ = some (.int .i64 a0_1) := (blk_cell BK190.out 1).trans rfl
                  have hcz41_2 : wr.cell? ⟨gb190, 2, none⟩ = some (.int .i64 a0_2) := (blk_cell BK190.out 2).trans rfl
                  have hcz41_3 : wr.cell? ⟨gb190, 3, none⟩ = some (.int .i64 a0_3) := (blk_cell BK190.out 3).trans rfl
                  have hcz41_4 : wr.cell? ⟨gb190, 4, none⟩ = some (.int .i64 a0_4) := (blk_cell BK190.out 4).trans rfl
                  have hcz41_5 : wr.cell? ⟨gb190, 5, none⟩ = some (.int .i64 a0_5) := (blk_cell BK190.out 5).trans rfl
                  have hfz41_0 := blk_frozen BK190.out 0
                  have hfz41_1 := blk_frozen BK190.out 1
                  have hfz41_2 := blk_frozen BK190.out 2
                  have hfz41_3 := blk_frozen BK190.out 3
                  have hfz41_4 := blk_frozen BK190.out 4
                  have hfz41_5 := blk_frozen BK190.out 5
                  have hcz42_0 : wr.cell? ⟨gb191, 0, none⟩ = some (.int .i64 a1_0) := (blk_cell BK191.out 0).trans rfl
                  have hcz42_1 : wr.cell? ⟨gb191, 1, none⟩ = some (.int .i64 a1_1) := (blk_cell BK191.out 1).trans rfl
                  have hcz42_2 : wr.cell? ⟨gb191, 2, none⟩ = some (.int .i64 a1_2) := (blk_cell BK191.out 2).trans rfl
                  have hcz42_3 : wr.cell? ⟨gb191, 3, none⟩ = some (.int .i64 a1_3) := (blk_cell BK191.out 3).trans rfl
                  have hcz42_4 : wr.cell? ⟨gb191, 4, none⟩ = some (.int .i64 a1_4) := (blk_cell BK191.out 4).trans rfl
                  have hcz42_5 : wr.cell? ⟨gb191, 5, none⟩ = some (.int .i64 a1_5) := (blk_cell BK191.out 5).trans rfl
                  have hfz42_0 := blk_frozen BK191.out 0
                  have hfz42_1 := blk_frozen BK191.out 1
                  have hfz42_2 := blk_frozen BK191.out 2
                  have hfz42_3 := blk_frozen BK191.out 3
                  have hfz42_4 := blk_frozen BK191.out 4
                  have hfz42_5 := blk_frozen BK191.out 5
                  go_wp2
                  repeat (go_quiet (fail); try go_wp2)
                  go_roundg k1
                  case measure => have := HK1.out; omega
                  case rel => exact ⟨(wrap64 (x5_1 + 1)), (by first | rfl | (simp; done) | (simp [*]; done) | (exact congrArg (Value.int .i64) (wrap_eq (by omega)))), H', ⟨by have := HK1.out; omega⟩, ⟨by (with_reducible repeat (first | refine blk_drewN ?_ _ | refine blk_drew ?_ | refine blk_alloc ?_ _)); exact BK190.out⟩, ⟨by (with_reducible repeat (first | refine blk_drewN ?_ _ | refine blk_drew ?_ | refine blk_alloc ?_ _)); exact BK191.out⟩, ⟨by repeat (first | (with_reducible first | exact HB.out | apply below_alloc | apply pw_below_drewN | apply below_drew1 | refine below_set ?_ GE190.out | refine below_set ?_ GE191.out) | exact HB.out)⟩⟩
                · rw [if_neg c39] at H
                  have c39b0 : (a0_3 == a1_3) = false := beq_eq_false_iff_ne.mpr c39
                  have c39b1 : (a0_3 != a1_3) = true := bne_iff_ne.mpr c39
                  obtain rfl := Option.some.inj H
                  have hnb43 := NB190_191.out
                  have hnc43 := NB191_190.out
                  have hcz44_0 : wr.cell? ⟨gb190, 0, none⟩ = some (.int .i64 a0_0) := (blk_cell BK190.out 0).trans rfl
                  have hcz44_1 : wr.cell? ⟨gb190, 1, none⟩ = some (.int .i64 a0_1) := (blk_cell BK190.out 1).trans rfl
                  have hcz44_2 : wr.cell? ⟨gb190, 2, none⟩ = some (.int .i64 a0_2) := (blk_cell BK190.out 2).trans rfl
                  have hcz44_3 : wr.cell? ⟨gb190, 3, none⟩ = some (.int .i64 a0_3) := (blk_cell BK190.out 3).trans rfl
                  have hcz44_4 : wr.cell? ⟨gb190, 4, none⟩ = some (.int .i64 a0_4) := (blk_cell BK190.out 4).trans rfl
                  have hcz44_5 : wr.cell? ⟨gb190, 5, none⟩ = some (.int .i64 a0_5) := (blk_cell BK190.out 5).trans rfl
                  have hfz44_0 := blk_frozen BK190.out 0
                  have hfz44_1 := blk_frozen BK190.out 1
                  have hfz44_2 := blk_frozen BK190.out 2
                  have hfz44_3 := blk_frozen BK190.out 3
                  have hfz44_4 := blk_frozen BK190.out 4
                  have hfz44_5 := blk_frozen BK190.out 5
                  have hcz45_0 : wr.cell? ⟨gb191, 0, none⟩ = some (.int .i64 a1_0) := (blk_cell BK191.out 0).trans rfl
                  have hcz45_1 : wr.cell? ⟨gb191, 1, none⟩ = some (.int .i64 a1_1) := (blk_cell BK191.out 1).trans rfl
                  have hcz45_2 : wr.cell? ⟨gb191, 2, none⟩ = some (.int .i64 a1_2) := (blk_cell BK191.out 2).trans rfl
                  have hcz45_3 : wr.cell? ⟨gb191, 3, none⟩ = some (.int .i64 a1_3) := (blk_cell BK191.out 3).trans rfl
                  have hcz45_4 : wr.cell? ⟨gb191, 4, none⟩ = some (.int .i64 a1_4) := (blk_cell BK191.out 4).trans rfl
                  have hcz45_5 : wr.cell? ⟨gb191, 5, none⟩ = some (.int .i64 a1_5) := (blk_cell BK191.out 5).trans rfl
                  have hfz45_0 := blk_frozen BK191.out 0
                  have hfz45_1 := blk_frozen BK191.out 1
                  have hfz45_2 := blk_frozen BK191.out 2
                  have hfz45_3 := blk_frozen BK191.out 3
                  have hfz45_4 := blk_frozen BK191.out 4
                  have hfz45_5 := blk_frozen BK191.out 5
                  go_wp2
                  repeat (go_quiet (fail); try go_wp2)
                  go_ret
                  exact ⟨by first | rfl | (simp [errW_none, errW_some] <;> rfl) | (simp [*, errW_none, errW_some] <;> rfl), by repeat (first | (with_reducible first | exact HB.out | apply below_alloc | apply pw_below_drewN | apply below_drew1 | refine below_set ?_ GE190.out | refine below_set ?_ GE191.out) | exact HB.out)⟩
              · rw [if_neg c36] at H
                clear c36
                by_cases c46 : x5_1 = 4
                · rw [if_pos c46] at H
                  have Ac46 : Aside0 (x5_1 = 4) := ⟨c46⟩
                  clear c46
                  have ar47e : x5_1 = 4 := by first | exact (show Aside0 (x5_1 = 4) by assumption).out | exact beq_iff_eq.mp (by assumption) | omega
                  have ar47n : (x5_1).toNat = 4 := by rw [ar47e]; rfl
                  have ar47l : decide (0 ≤ x5_1) = true := decide_eq_true (by omega)
                  have ar47L := eq_true (of_decide_eq_true ar47l)
                  have ar47h : decide (x5_1 < 6) = true := decide_eq_true (by omega)
                  have ar47H := eq_true (of_decide_eq_true ar47h)
                  clear ar47e
                  have ar48e : x5_1 = 4 := by first | exact (show Aside0 (x5_1 = 4) by assumption).out | exact beq_iff_eq.mp (by assumption) | omega
                  have ar48n : (x5_1).toNat = 4 := by rw [ar48e]; rfl
                  have ar48l : decide (0 ≤ x5_1) = true := decide_eq_true (by omega)
                  have ar48L := eq_true (of_decide_eq_true ar48l)
                  have ar48h : decide (x5_1 < 6) = true := decide_eq_true (by omega)
                  have ar48H := eq_true (of_decide_eq_true ar48h)
                  clear ar48e
                  by_cases c49 : a0_4 = a1_4
                  · rw [if_pos c49] at H
                    have c49b0 : (a0_4 == a1_4) = true := beq_iff_eq.mpr c49
                    have c49b1 : (a0_4 != a1_4) = false := bne_eq_false_iff_eq.mpr c49
                    clear c49
                    have H' := Aside0.mk H
                    clear H
                    have hnb50 := NB190_191.out
                    have hnc50 := NB191_190.out
                    have hcz51_0 : wr.cell? ⟨gb190, 0, none⟩ = some (.int .i64 a0_0) := (blk_cell BK190.out 0).trans rfl
                    have hcz51_1 : wr.cell? ⟨gb190, 1, none⟩ = some (.int .i64 a0_1) := (blk_cell BK190.out 1).trans rfl
                    have hcz51_2 : wr.cell? ⟨gb190, 2, none⟩ = some (.int .i64 a0_2) := (blk_cell BK190.out 2).trans rfl
                    have hcz51_3 : wr.cell? ⟨gb190, 3, none⟩ = some (.int .i64 a0_3) := (blk_cell BK190.out 3).trans rfl
                    have hcz51_4 : wr.cell? ⟨gb190, 4, none⟩ = some (.int .i64 a0_4) := (blk_cell BK190.out 4).trans rfl
                    have hcz51_5 : wr.cell? ⟨gb190, 5, none⟩ = some (.int .i64 a0_5) := (blk_cell BK190.out 5).trans rfl
                    have hfz51_0 := blk_frozen BK190.out 0
                    have hfz51_1 := blk_frozen BK190.out 1
                    have hfz51_2 := blk_frozen BK190.out 2
                    have hfz51_3 := blk_frozen BK190.out 3
                    have hfz51_4 := blk_frozen BK190.out 4
                    have hfz51_5 := blk_frozen BK190.out 5
                    have hcz52_0 : wr.cell? ⟨gb191, 0, none⟩ = some (.int .i64 a1_0) := (blk_cell BK191.out 0).trans rfl
                    have hcz52_1 : wr.cell? ⟨gb191, 1, none⟩ = some (.int .i64 a1_1) := (blk_cell BK191.out 1).trans rfl
                    have hcz52_2 : wr.cell? ⟨gb191, 2, none⟩ = some (.int .i64 a1_2) := (blk_cell BK191.out 2).trans rfl
                    have hcz52_3 : wr.cell? ⟨gb191, 3, none⟩ = some (.int .i64 a1_3) := (blk_cell BK191.out 3).trans rfl
                    have hcz52_4 : wr.cell? ⟨gb191, 4, none⟩ = some (.int .i64 a1_4) := (blk_cell BK191.out 4).trans rfl
                    have hcz52_5 : wr.cell? ⟨gb191, 5, none⟩ = some (.int .i64 a1_5) := (blk_cell BK191.out 5).trans rfl
                    have hfz52_0 := blk_frozen BK191.out 0
                    have hfz52_1 := blk_frozen BK191.out 1
                    have hfz52_2 := blk_frozen BK191.out 2
                    have hfz52_3 := blk_frozen BK191.out 3
                    have hfz52_4 := blk_frozen BK191.out 4
                    have hfz52_5 := blk_frozen BK191.out 5
                    go_wp2
                    repeat (go_quiet (fail); try go_wp2)
                    go_roundg k1
                    case measure => have := HK1.out; omega
                    case rel => exact ⟨(wrap64 (x5_1 + 1)), (by first | rfl | (simp; done) | (simp [*]; done) | (exact congrArg (Value.int .i64) (wrap_eq (by omega)))), H', ⟨by have := HK1.out; omega⟩, ⟨by (with_reducible repeat (first | refine blk_drewN ?_ _ | refine blk_drew ?_ | refine blk_alloc ?_ _)); exact BK190.out⟩, ⟨by (with_reducible repeat (first | refine blk_drewN ?_ _ | refine blk_drew ?_ | refine blk_alloc ?_ _)); exact BK191.out⟩, ⟨by repeat (first | (with_reducible first | exact HB.out | apply below_alloc | apply pw_below_drewN | apply below_drew1 | refine below_set ?_ GE190.out | refine below_set ?_ GE191.out) | exact HB.out)⟩⟩
                  · rw [if_neg c49] at H
                    have c49b0 : (a0_4 == a1_4) = false := beq_eq_false_iff_ne.mpr c49
                    have c49b1 : (a0_4 != a1_4) = true := bne_iff_ne.mpr c49
                    obtain rfl := Option.some.inj H
                    have hnb53 := NB190_191.out
                    have hnc53 := NB191_190.out
                    have hcz54_0 : wr.cell? ⟨gb190, 0, none⟩ = some (.int .i64 a0_0) := (blk_cell BK190.out 0).trans rfl
                    have hcz54_1 : wr.cell? ⟨gb190, 1, none⟩ = some (.int .i64 a0_1) := (blk_cell BK190.out 1).trans rfl
                    have hcz54_2 : wr.cell? ⟨gb190, 2, none⟩ = some (.int .i64 a0_2) := (blk_cell BK190.out 2).trans rfl
                    have hcz54_3 : wr.cell? ⟨gb190, 3, none⟩ = some (.int .i64 a0_3) := (blk_cell BK190.out 3).trans rfl
                    have hcz54_4 : wr.cell? ⟨gb190, 4, none⟩ = some (.int .i64 a0_4) := (blk_cell BK190.out 4).trans rfl
                    have hcz54_5 : wr.cell? ⟨gb190, 5, none⟩ = some (.int .i64 a0_5) := (blk_cell BK190.out 5).trans rfl
                    have hfz54_0 := blk_frozen BK190.out 0
                    have hfz54_1 := blk_frozen BK190.out 1
                    have hfz54_2 := blk_frozen BK190.out 2
                    have hfz54_3 := blk_frozen BK190.out 3
                    have hfz54_4 := blk_frozen BK190.out 4
                    have hfz54_5 := blk_frozen BK190.out 5
                    have hcz55_0 : wr.cell? ⟨gb191, 0, none⟩ = some (.int .i64 a1_0) := (blk_cell BK191.out 0).trans rfl
                    have hcz55_1 : wr.cell? ⟨gb191, 1, none⟩ = some (.int .i64 a1_1) := (blk_cell BK191.out 1).trans rfl
                    have hcz55_2 : wr.cell? ⟨gb191, 2, none⟩ = some (.int .i64 a1_2) := (blk_cell BK191.out 2).trans rfl
                    have hcz55_3 : wr.cell? ⟨gb191, 3, none⟩ = some (.int .i64 a1_3) := (blk_cell BK191.out 3).trans rfl
                    have hcz55_4 : wr.cell? ⟨gb191, 4, none⟩ = some (.int .i64 a1_4) := (blk_cell BK191.out 4).trans rfl
                    have hcz55_5 : wr.cell? ⟨gb191, 5, none⟩ = some (.int .i64 a1_5) := (blk_cell BK191.out 5).trans rfl
                    have hfz55_0 := blk_frozen BK191.out 0
                    have hfz55_1 := blk_frozen BK191.out 1
                    have hfz55_2 := blk_frozen BK191.out 2
                    have hfz55_3 := blk_frozen BK191.out 3
                    have hfz55_4 := blk_frozen BK191.out 4
                    have hfz55_5 := blk_frozen BK191.out 5
                    go_wp2
                    repeat (go_quiet (fail); try go_wp2)
                    go_ret
                    exact ⟨by first | rfl | (simp [errW_none, errW_some] <;> rfl) | (simp [*, errW_none, errW_some] <;> rfl), by repeat (first | (with_reducible first | exact HB.out | apply below_alloc | apply pw_below_drewN | apply below_drew1 | refine below_set ?_ GE190.out | refine below_set ?_ GE191.out) | exact HB.out)⟩
                · rw [if_neg c46] at H
                  clear c46
                  by_cases c56 : x5_1 = 5
                  · rw [if_pos c56] at H
                    have Ac56 : Aside0 (x5_1 = 5) := ⟨c56⟩
                    clear c56
                    have ar57e : x5_1 = 5 := by first | exact (show Aside0 (x5_1 = 5) by assumption).out | exact beq_iff_eq.mp (by assumption) | omega
                    have ar57n : (x5_1).toNat = 5 := by rw [ar57e]; rfl
                    have ar57l : decide (0 ≤ x5_1) = true := decide_eq_true (by omega)
                    have ar57L := eq_true (of_decide_eq_true ar57l)
                    have ar57h : decide (x5_1 < 6) = true := decide_eq_true (by omega)
                    have ar57H := eq_true (of_decide_eq_true ar57h)
                    clear ar57e
                    have ar58e : x5_1 = 5 := by first | exact (show Aside0 (x5_1 = 5) by assumption).out | exact beq_iff_eq.mp (by assumption) | omega
                    have ar58n : (x5_1).toNat = 5 := by rw [ar58e]; rfl
                    have ar58l : decide (0 ≤ x5_1) = true := decide_eq_true (by omega)
                    have ar58L := eq_true (of_decide_eq_true ar58l)
                    have ar58h : decide (x5_1 < 6) = true := decide_eq_true (by omega)
                    have ar58H := eq_true (of_decide_eq_true ar58h)
                    clear ar58e
                    by_cases c59 : a0_5 = a1_5
                    · rw [if_pos c59] at H
                      have c59b0 : (a0_5 == a1_5) = true := beq_iff_eq.mpr c59
                      have c59b1 : (a0_5 != a1_5) = false := bne_eq_false_iff_eq.mpr c59
                      clear c59
                      have H' := Aside0.mk H
                      clear H
                      have hnb60 := NB190_191.out
                      have hnc60 := NB191_190.out
                      have hcz61_0 : wr.cell? ⟨gb190, 0, none⟩ = some (.int .i64 a0_0) := (blk_cell BK190.out 0).trans rfl
                      have hcz61_1 : wr.cell? ⟨gb190, 1, none⟩ = some (.int .i64 a0_1) := (blk_cell BK190.out 1).trans rfl
                      have hcz61_2 : wr.cell? ⟨gb190, 2, none⟩ = some (.int .i64 a0_2) := (blk_cell BK190.out 2).trans rfl
                      have hcz61_3 : wr.cell? ⟨gb190, 3, none⟩ = some (.int .i64 a0_3) := (blk_cell BK190.out 3).trans rfl
                      have hcz61_4 : wr.cell? ⟨gb190, 4, none⟩ = some (.int .i64 a0_4) := (blk_cell BK190.out 4).trans rfl
                      have hcz61_5 : wr.cell? ⟨gb190, 5, none⟩ = some (.int .i64 a0_5) := (blk_cell BK190.out 5).trans rfl
                      have hfz61_0 := blk_frozen BK190.out 0
                      have hfz61_1 := blk_frozen BK190.out 1
                      have hfz61_2 := blk_frozen BK190.out 2
                      have hfz61_3 := blk_frozen BK190.out 3
                      have hfz61_4 := blk_frozen BK190.out 4
                      have hfz61_5 := blk_frozen BK190.out 5
                      have hcz62_0 : wr.cell? ⟨gb191, 0, none⟩ = some (.int .i64 a1_0) := (blk_cell BK191.out 0).trans rfl
                      have hcz62_1 : wr.cell? ⟨gb191, 1, none⟩ = some (.int .i64 a1_1) := (blk_cell BK191.out 1).trans rfl
                      have hcz62_2 : wr.cell? ⟨gb191, 2, none⟩ = some (.int .i64 a1_2) := (blk_cell BK191.out 2).trans rfl
                      have hcz62_3 : wr.cell? ⟨gb191, 3, none⟩ = some (.int .i64 a1_3) := (blk_cell BK191.out 3).trans rfl
                      have hcz62_4 : wr.cell? ⟨gb191, 4, none⟩ = some (.int .i64 a1_4) := (blk_cell BK191.out 4).trans rfl
                      have hcz62_5 : wr.cell? ⟨gb191, 5, none⟩ = some (.int .i64 a1_5) := (blk_cell BK191.out 5).trans rfl
                      have hfz62_0 := blk_frozen BK191.out 0
                      have hfz62_1 := blk_frozen BK191.out 1
                      have hfz62_2 := blk_frozen BK191.out 2
                      have hfz62_3 := blk_frozen BK191.out 3
                      have hfz62_4 := blk_frozen BK191.out 4
                      have hfz62_5 := blk_frozen BK191.out 5
                      go_wp2
                      repeat (go_quiet (fail); try go_wp2)
                      go_roundg k1
                      case measure => have := HK1.out; omega
                      case rel => exact ⟨(wrap64 (x5_1 + 1)), (by first | rfl | (simp; done) | (simp [*]; done) | (exact congrArg (Value.int .i64) (wrap_eq (by omega)))), H', ⟨by have := HK1.out; omega⟩, ⟨by (with_reducible repeat (first | refine blk_drewN ?_ _ | refine blk_drew ?_ | refine blk_alloc ?_ _)); exact BK190.out⟩, ⟨by (with_reducible repeat (first | refine blk_drewN ?_ _ | refine blk_drew ?_ | refine blk_alloc ?_ _)); exact BK191.out⟩, ⟨by repeat (first | (with_reducible first | exact HB.out | apply below_alloc | apply pw_below_drewN | apply below_drew1 | refine below_set ?_ GE190.out | refine below_set ?_ GE191.out) | exact HB.out)⟩⟩
                    · rw [if_neg c59] at H
                      have c59b0 : (a0_5 == a1_5) = false := beq_eq_false_iff_ne.mpr c59
                      have c59b1 : (a0_5 != a1_5) = true := bne_iff_ne.mpr c59
                      obtain rfl := Option.some.inj H
                      have hnb63 := NB190_191.out
                      have hnc63 := NB191_190.out
                      have hcz64_0 : wr.cell? ⟨gb190, 0, none⟩ = some (.int .i64 a0_0) := (blk_cell BK190.out 0).trans rfl
                      have hcz64_1 : wr.cell? ⟨gb190, 1, none⟩ = some (.int .i64 a0_1) := (blk_cell BK190.out 1).trans rfl
                      have hcz64_2 : wr.cell? ⟨gb190, 2, none⟩ = some (.int .i64 a0_2) := (blk_cell BK190.out 2).trans rfl
                      have hcz64_3 : wr.cell? ⟨gb190, 3, none⟩ = some (.int .i64 a0_3) := (blk_cell BK190.out 3).trans rfl
                      have hcz64_4 : wr.cell? ⟨gb190, 4, none⟩ = some (.int .i64 a0_4) := (blk_cell BK190.out 4).trans rfl
                      have hcz64_5 : wr.cell? ⟨gb190, 5, none⟩ = some (.int .i64 a0_5) := (blk_cell BK190.out 5).trans rfl
                      have hfz64_0 := blk_frozen BK190.out 0
                      have hfz64_1 := blk_frozen BK190.out 1
                      have hfz64_2 := blk_frozen BK190.out 2
                      have hfz64_3 := blk_frozen BK190.out 3
                      have hfz64_4 := blk_frozen BK190.out 4
                      have hfz64_5 := blk_frozen BK190.out 5
                      have hcz65_0 : wr.cell? ⟨gb191, 0, none⟩ = some (.int .i64 a1_0) := (blk_cell BK191.out 0).trans rfl
                      have hcz65_1 : wr.cell? ⟨gb191, 1, none⟩ = some (.int .i64 a1_1) := (blk_cell BK191.out 1).trans rfl
                      have hcz65_2 : wr.cell? ⟨gb191, 2, none⟩ = some (.int .i64 a1_2) := (blk_cell BK191.out 2).trans rfl
                      have hcz65_3 : wr.cell? ⟨gb191, 3, none⟩ = some (.int .i64 a1_3) := (blk_cell BK191.out 3).trans rfl
                      have hcz65_4 : wr.cell? ⟨gb191, 4, none⟩ = some (.int .i64 a1_4) := (blk_cell BK191.out 4).trans rfl
                      have hcz65_5 : wr.cell? ⟨gb191, 5, none⟩ = some (.int .i64 a1_5) := (blk_cell BK191.out 5).trans rfl
                      have hfz65_0 := blk_frozen BK191.out 0
                      have hfz65_1 := blk_frozen BK191.out 1
                      have hfz65_2 := blk_frozen BK191.out 2
                      have hfz65_3 := blk_frozen BK191.out 3
                      have hfz65_4 := blk_frozen BK191.out 4
                      have hfz65_5 := blk_frozen BK191.out 5
                      go_wp2
                      repeat (go_quiet (fail); try go_wp2)
                      go_ret
                      exact ⟨by first | rfl | (simp [errW_none, errW_some] <;> rfl) | (simp [*, errW_none, errW_some] <;> rfl), by repeat (first | (with_reducible first | exact HB.out | apply below_alloc | apply pw_below_drewN | apply below_drew1 | refine below_set ?_ GE190.out | refine below_set ?_ GE191.out) | exact HB.out)⟩
                  · rw [if_neg c56] at H
                    exact absurd H (by simp)
      · rw [if_neg c5] at H
        have c5b0 : decide (x5_1 < 6) = false := decide_eq_false c5
        clear c5
        obtain rfl := Option.some.inj H
        go_wp2
        repeat (go_quiet (fail); try go_wp2)
        go_ret
        exact ⟨by first | rfl | (simp [errW_none, errW_some] <;> rfl) | (simp [*, errW_none, errW_some] <;> rfl), by repeat (first | (with_reducible first | exact HB.out | apply below_alloc | apply pw_below_drewN | apply below_drew1 | refine below_set ?_ GE190.out | refine below_set ?_ GE191.out) | exact HB.out)⟩

end Go.Proofs.Ytffnfpnajkgnaaa.PFnExactCountKinds
