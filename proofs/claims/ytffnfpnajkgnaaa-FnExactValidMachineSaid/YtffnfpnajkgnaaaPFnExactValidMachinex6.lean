-- short
-- WRITTEN by xprint.py, a program of this session's. Not trusted: Lean checks it.
import Derived.Test.YtffnfpnajkgnaaaPFnExactValidMachinex0
import Derived.Test.YtffnfpnajkgnaaaPFnExactValidMachinex1
namespace Go.Proofs.Ytffnfpnajkgnaaa.PFnExactValidMachine
open Go.RowKit Go.Proofs.YtffnfpnajkgnaaaW.PrintWords Go.Proofs.YtffnfpnajkgnaaaW.PrintLast Go.Proofs.YtffnfpnajkgnaaaW.PrintMore Go.Proofs.YtffnfpnajkgnaaaX
attribute [local go_sem] max2_int min2_int max_two min_two max_three min_three max_four min_four   -- for this text's walks alone
set_option linter.unusedVariables false
set_option linter.unusedSimpArgs false

attribute [local go_sem high] eqA74
/-! ### spec_l00In: function 96 -/
def spec_l00In.f (a0 : Int) (a1 : Int) (a2 : Int) : Option (Bool) := if a0 ≥ a1 then (some (decide (a0 ≤ a2))) else (some false)
set_option maxHeartbeats 8000000 in
set_option maxRecDepth 100000 in
theorem spec_l00In.calls (a0 : Int) (a1 : Int) (a2 : Int) (r : Bool) (w : World) (h : spec_l00In.f a0 a1 a2 = some r) :
  Calls Try.prog 96 #[.int .i64 a0, .int .i64 a1, .int .i64 a2] w fun e w' => e = .returned (.bool r) ∧ Drawn0 w w' := by
 have H : (if a0 ≥ a1 then (some (decide (a0 ≤ a2))) else (some false)) = some r := h
 clear h
 by_cases c4 : a0 ≥ a1
 ·rw [if_pos c4] at H
  have c4b0 : decide (a1 ≤ a0) = true := decide_eq_true c4
  clear c4
  obtain rfl := Option.some.inj H
  go_enter Try.func96, Try.ntmps96
  go_wp2
  go_ret
  exact ⟨by first | rfl | (simp; done) | (simp [*]; done) | (exact congrArg (Value.int .i64) (wrap_eq (by omega))), by repeat (first | exact Drawn0.refl _ | apply Drawn0.step)⟩
 ·rw [if_neg c4] at H
  have c4b0 : decide (a1 ≤ a0) = false := decide_eq_false c4
  clear c4
  obtain rfl := Option.some.inj H
  go_enter Try.func96, Try.ntmps96
  go_wp2
  go_ret
  exact ⟨by first | rfl | (simp; done) | (simp [*]; done) | (exact congrArg (Value.int .i64) (wrap_eq (by omega))), by repeat (first | exact Drawn0.refl _ | apply Drawn0.step)⟩

/-! ### spec_l01Find: function 111 -/
def spec_l01Find.l0 : Nat → List (S37) → Int → Int → Int → Option (Int)
 | 0, _, _, _, _ => none
 | k + 1, x0, x5, x191000, x191001 => if 0 < (x0.length : Int) then (if x5 < (((rd_T37 x0 0).f2).length : Int) then (if 0 ≤ x5 then (if (((rd_T91 ((rd_T37 x0 0).f2) x5).f0.f0) == x191000 && (((rd_T91 ((rd_T37 x0 0).f2) x5).f0.f1) == x191001)) = true then (some x5) else (spec_l01Find.l0 k x0 (wrap64 (x5 + 1)) x191000 x191001)) else (none)) else (some (-1))) else (none)
def spec_l01Find.f (k : Nat) (l0 : List (S37)) (a1_0 : Int) (a1_1 : Int) : Option (Int) := spec_l01Find.l0 k l0 0 a1_0 a1_1
theorem spec_l01Find.mono_l : ∀ k, (∀ y0 y1 y2 y3, LeO (spec_l01Find.l0 k y0 y1 y2 y3) (spec_l01Find.l0 (k + 1) y0 y1 y2 y3))
 | 0 => fun _ _ _ _ r h => by simp [spec_l01Find.l0] at h
 | k + 1 => by
  have ih0 := spec_l01Find.mono_l k
  ·intro y0 y1 y2 y3
   unfold spec_l01Find.l0
   repeat' first
   | (with_reducible exact ih0 _ _ _ _)
   | (with_reducible exact LeO.refl _)
   | (with_reducible exact LeO.none _)
   | (with_reducible refine LeO.ite ?_ ?_)
   | (with_reducible refine LeO.bind ?_ (fun _ => ?_))
   | exact ih0 _ _ _ _
   | exact LeO.none _
   | refine LeO.ite ?_ ?_
   | refine LeO.bind ?_ (fun _ => ?_)
theorem spec_l01Find.mono : ∀ a0 a1 a2 k, LeO (spec_l01Find.f k a0 a1 a2) (spec_l01Find.f (k + 1) a0 a1 a2) := by
 intro a0 a1 a2 k
 have ih0 := spec_l01Find.mono_l k
 unfold spec_l01Find.f
 repeat' first
   | (with_reducible exact ih0 _ _ _ _)
   | (with_reducible exact LeO.refl _)
   | (with_reducible exact LeO.none _)
   | (with_reducible refine LeO.ite ?_ ?_)
   | (with_reducible refine LeO.bind ?_ (fun _ => ?_))
   | exact ih0 _ _ _ _
   | exact LeO.none _
   | refine LeO.ite ?_ ?_
   | refine LeO.bind ?_ (fun _ => ?_)
set_option maxHeartbeats 8000000 in
set_option maxRecDepth 100000 in
theorem spec_l01Find.calls (k : Nat) (adp0 : Addr) (l0 : List (S37)) (a1_0 : Int) (a1_1 : Int) (r : Int) (w : World) (hr0 : Kd.C k37 w (some adp0) l0.length l0) (h : spec_l01Find.f k l0 a1_0 a1_1 = some r) :
  Calls Try.prog 111 #[.pointer (some adp0), .agg #[.int .i8 a1_0, .int .i8 a1_1]] w fun e w' => e = .returned (.int .i64 r) ∧ Below w.heap.size w w' := by
 have hu74 := Try.underlying74
 have HR0 := zN hr0
 clear hr0
 have HB := zN (Below.refl w.heap.size w)
 have H : (spec_l01Find.l0 k l0 0 a1_0 a1_1) = some r := h
 clear h
 have H' := zN H
 clear H
 go_enter Try.func111, Try.ntmps111
 go_wp2_with (first | ((with_reducible refine gate_dst (N := 3) rfl ?_); refine box_event ?hg (N := 3) ?hd (cs := #[.int .i8 a1_0, .int .i8 a1_1]) (t := 74) ?hr ?_; (case hd => rfl); (case hg => rfl); (case hr => first | (go_simp; done) | (go_simp; rfl)); intro gb190 hg w3 hbox hb; have n0_ := zN (below_step (by repeat (first | (with_reducible first | exact HB.out | apply zA | apply zB | apply zC) | exact HB.out)) hb); have n1_ := zN (hbox); have n2_ := zN ((by rw [hg]; exact (below_size (by repeat (first | (with_reducible first | exact HB.out | apply zA | apply zB | apply zC) | exact HB.out))) : w.heap.size ≤ gb190)); have n3_ := zN ((by rw [hg]; exact (below_size (by repeat (first | (with_reducible first | exact HB.out | apply zA | apply zB | apply zC) | exact HB.out))) : w.heap.size ≤ gb190)); clear HB; have HB := n0_; have BK190 := n1_; have GW190 := n2_; have GE190 := n3_; clear n0_ n1_ n2_ n3_; clear hb hbox hg))
 repeat (go_quiet (first | ((with_reducible refine gate_dst (N := 3) rfl ?_); refine box_event ?hg (N := 3) ?hd (cs := #[.int .i8 a1_0, .int .i8 a1_1]) (t := 74) ?hr ?_; (case hd => rfl); (case hg => rfl); (case hr => first | (go_simp; done) | (go_simp; rfl)); intro gb190 hg w3 hbox hb; have n0_ := zN (below_step (by repeat (first | (with_reducible first | exact HB.out | apply zA | apply zB | apply zC) | exact HB.out)) hb); have n1_ := zN (hbox); have n2_ := zN ((by rw [hg]; exact (below_size (by repeat (first | (with_reducible first | exact HB.out | apply zA | apply zB | apply zC) | exact HB.out))) : w.heap.size ≤ gb190)); have n3_ := zN ((by rw [hg]; exact (below_size (by repeat (first | (with_reducible first | exact HB.out | apply zA | apply zB | apply zC) | exact HB.out))) : w.heap.size ≤ gb190)); clear HB; have HB := n0_; have BK190 := n1_; have GW190 := n2_; have GE190 := n3_; clear n0_ n1_ n2_ n3_; clear hb hbox hg)); try go_wp2_with (first | ((with_reducible refine gate_dst (N := 3) rfl ?_); refine box_event ?hg (N := 3) ?hd (cs := #[.int .i8 a1_0, .int .i8 a1_1]) (t := 74) ?hr ?_; (case hd => rfl); (case hg => rfl); (case hr => first | (go_simp; done) | (go_simp; rfl)); intro gb190 hg w3 hbox hb; have n0_ := zN (below_step (by repeat (first | (with_reducible first | exact HB.out | apply zA | apply zB | apply zC) | exact HB.out)) hb); have n1_ := zN (hbox); have n2_ := zN ((by rw [hg]; exact (below_size (by repeat (first | (with_reducible first | exact HB.out | apply zA | apply zB | apply zC) | exact HB.out))) : w.heap.size ≤ gb190)); have n3_ := zN ((by rw [hg]; exact (below_size (by repeat (first | (with_reducible first | exact HB.out | apply zA | apply zB | apply zC) | exact HB.out))) : w.heap.size ≤ gb190)); clear HB; have HB := n0_; have BK190 := n1_; have GW190 := n2_; have GE190 := n3_; clear n0_ n1_ n2_ n3_; clear hb hbox hg)))
 go_loopg [5] k (fun kq v5 w' => ∃ (x5_1 : Int), v5 = .int .i64 x5_1 ∧ Aside0 (spec_l01Find.l0 kq l0 x5_1 a1_0 a1_1 = some r) ∧ Aside0 (kq ≤ k) ∧ Aside0 (w'.heap[gb190]? = some (.cells #[.int .i8 a1_0, .int .i8 a1_1] 74 (0, 0))) ∧ Aside0 (Below w.heap.size w w'))
 case atStart => exact ⟨(0), (by first | rfl | (simp; done) | (simp [*]; done) | (exact congrArg (Value.int .i64) (wrap_eq (by omega)))), H', ⟨Nat.le_refl _⟩, ⟨by (with_reducible repeat (first | refine zE ?_ _ | refine zF ?_ | refine zG ?_ _)); exact BK190.out⟩, ⟨by repeat (first | (with_reducible first | exact HB.out | apply zA | apply zB | apply zC | refine zD ?_ GE190.out) | exact HB.out)⟩⟩
 case round =>
  clear H'
  try clear c1
  try clear p2
  obtain ⟨x5_1, rfl, HA, HK1, BK190, HB⟩ := hrel
  cases gk with
  | zero => exact absurd HA.out (by simp [spec_l01Find.l0])
  | succ k1 =>
   have H := HA.out
   clear HA
   simp only [spec_l01Find.l0] at H
   by_cases c4 : 0 < (l0.length : Int)
   ·rw [if_pos c4] at H
    have c4b0 : decide (0 < (l0.length : Int)) = true := decide_eq_true c4
    have c4b1 : decide (0 < l0.length) = true := decide_eq_true (by omega)
    clear c4
    by_cases c5 : x5_1 < (((rd_T37 l0 0).f2).length : Int)
    ·rw [if_pos c5] at H
     have c5b0 : decide (x5_1 < (((rd_T37 l0 0).f2).length : Int)) = true := decide_eq_true c5
     clear c5
     by_cases c6 : 0 ≤ x5_1
     ·rw [if_pos c6] at H
      have c6b0 : decide (0 ≤ x5_1) = true := decide_eq_true c6
      clear c6
      by_cases c7 : (((rd_T91 ((rd_T37 l0 0).f2) x5_1).f0.f0) == a1_0 && (((rd_T91 ((rd_T37 l0 0).f2) x5_1).f0.f1) == a1_1)) = true
      ·rw [if_pos c7] at H
       have c7b0 : (((rd_T91 ((rd_T37 l0 0).f2) x5_1).f0.f0) == a1_0 && (((rd_T91 ((rd_T37 l0 0).f2) x5_1).f0.f1) == a1_1)) = true := c7
       (try (have c7b1 : decide (((rd_T91 ((rd_T37 l0 0).f2) x5_1).f0.f0) = a1_0 && (((rd_T91 ((rd_T37 l0 0).f2) x5_1).f0.f1) == a1_1)) = true := by first | (simpa using c7) | (have h_ := c7; revert h_; cases ((rd_T91 ((rd_T37 l0 0).f2) x5_1).f0.f0) <;> cases a1_0 && (((rd_T91 ((rd_T37 l0 0).f2) x5_1).f0.f1) == a1_1) <;> decide)))
       (try (have c7b2 : (((rd_T91 ((rd_T37 l0 0).f2) x5_1).f0.f0) == a1_0 && (((rd_T91 ((rd_T37 l0 0).f2) x5_1).f0.f1) == a1_1)) = true := by first | (simpa using c7) | (have h_ := c7; revert h_; cases ((rd_T91 ((rd_T37 l0 0).f2) x5_1).f0.f0) <;> cases a1_0 && (((rd_T91 ((rd_T37 l0 0).f2) x5_1).f0.f1) == a1_1) <;> decide)))
       clear c7
       obtain rfl := Option.some.inj H
       have p191 : 0 ≤ (0 : Int) := (by omega)
       have q191 : 0 < (l0.length : Int) := zJ (by first | (with_reducible assumption) | assumption)
       obtain ⟨ad191, A191_2, c191_2, e191, hx191_0, hx191_1, hx191_2, hl191_2, hi191_2⟩ := at_T37 HR0.out 0 p191 q191
       obtain rfl : adp0 = ad191 := (by injection e191)
       have qi191 : (0 < l0.length) = True := eq_true (by omega)
       (try rw [zI] at hx191_0)
       (try rw [Nat.zero_mul] at hx191_0)
       (try rw [Addr.add_zero'] at hx191_0)
       (try rw [zI] at hx191_1)
       (try rw [Nat.zero_mul] at hx191_1)
       (try rw [Addr.add_zero'] at hx191_1)
       (try rw [zI] at hx191_2)
       (try rw [Nat.zero_mul] at hx191_2)
       (try rw [Addr.add_zero'] at hx191_2)
       replace hx191_0 := (HB.out.cell (zH w _ hx191_0)).trans hx191_0
       replace hx191_1 := (HB.out.cell (zH w _ hx191_1)).trans hx191_1
       replace hx191_2 := (HB.out.cell (zH w _ hx191_2)).trans hx191_2
       have HR191_2 := zN hi191_2
       have HC191_2 := zN hl191_2
       clear hi191_2 hl191_2
       replace p191 := eq_true p191
       replace q191 := eq_true q191
       have p192 : 0 ≤ (0 : Int) := (by omega)
       have q192 : 0 < (l0.length : Int) := zJ (by first | (with_reducible assumption) | assumption)
       obtain ⟨ad192, A192_2, c192_2, e192, hx192_0, hx192_1, hx192_2, hl192_2, hi192_2⟩ := at_T37 HR0.out 0 p192 q192
       obtain rfl : adp0 = ad192 := (by injection e192)
       have qi192 : (0 < l0.length) = True := eq_true (by omega)
       (try rw [zI] at hx192_0)
       (try rw [Nat.zero_mul] at hx192_0)
       (try rw [Addr.add_zero'] at hx192_0)
       (try rw [zI] at hx192_1)
       (try rw [Nat.zero_mul] at hx192_1)
       (try rw [Addr.add_zero'] at hx192_1)
       (try rw [zI] at hx192_2)
       (try rw [Nat.zero_mul] at hx192_2)
       (try rw [Addr.add_zero'] at hx192_2)
       replace hx192_0 := (HB.out.cell (zH w _ hx192_0)).trans hx192_0
       replace hx192_1 := (HB.out.cell (zH w _ hx192_1)).trans hx192_1
       replace hx192_2 := (HB.out.cell (zH w _ hx192_2)).trans hx192_2
       have HR192_2 := zN hi192_2
       have HC192_2 := zN hl192_2
       clear hi192_2 hl192_2
       replace p192 := eq_true p192
       replace q192 := eq_true q192
       have ea_ := Option.some.inj (hx191_2.symm.trans hx192_2)
       injection ea_ with ea_ en_ ec_
       subst ea_
       subst ec_
       clear en_
       have p193 : 0 ≤ (x5_1 : Int) := zJ (by first | (with_reducible assumption) | assumption)
       have q193 : x5_1 < (((rd_T37 l0 0).f2).length : Int) := zJ (by first | (with_reducible assumption) | assumption)
       obtain ⟨ad193, e193, hx193_0, hx193_1, hx193_2, hx193_3, hx193_4⟩ := at_T91 HR192_2.out x5_1 p193 q193
       cases e193
       replace hx193_0 := (HB.out.cell (zH w _ hx193_0)).trans hx193_0
       replace hx193_1 := (HB.out.cell (zH w _ hx193_1)).trans hx193_1
       replace hx193_2 := (HB.out.cell (zH w _ hx193_2)).trans hx193_2
       replace hx193_3 := (HB.out.cell (zH w _ hx193_3)).trans hx193_3
       replace hx193_4 := (HB.out.cell (zH w _ hx193_4)).trans hx193_4
       replace p193 := eq_true p193
       replace q193 := eq_true q193
       have hcz8_0 : wr.cell? ⟨gb190, 0, none⟩ = some (.int .i8 a1_0) := (blk_cell BK190.out 0).trans rfl
       have hcz8_1 : wr.cell? ⟨gb190, 1, none⟩ = some (.int .i8 a1_1) := (blk_cell BK190.out 1).trans rfl
       have hfz8_0 := blk_frozen BK190.out 0
       have hfz8_1 := blk_frozen BK190.out 1
       go_wp2
       repeat (go_quiet (fail); try go_wp2)
       go_ret
       exact ⟨by first | rfl | (simp [errW_none, errW_some] <;> rfl) | (simp [*, errW_none, errW_some] <;> rfl), by repeat (first | (with_reducible first | exact HB.out | apply zA | apply zB | apply zC | refine zD ?_ GE190.out) | exact HB.out)⟩
      ·rw [if_neg c7] at H
       have c7b0 : (((rd_T91 ((rd_T37 l0 0).f2) x5_1).f0.f0) == a1_0 && (((rd_T91 ((rd_T37 l0 0).f2) x5_1).f0.f1) == a1_1)) = false := by simpa using c7
       (try (have c7b1 : decide (((rd_T91 ((rd_T37 l0 0).f2) x5_1).f0.f0) = a1_0 && (((rd_T91 ((rd_T37 l0 0).f2) x5_1).f0.f1) == a1_1)) = false := by first | (simpa using c7) | (have h_ := c7; revert h_; cases ((rd_T91 ((rd_T37 l0 0).f2) x5_1).f0.f0) <;> cases a1_0 && (((rd_T91 ((rd_T37 l0 0).f2) x5_1).f0.f1) == a1_1) <;> decide)))
       (try (have c7b2 : (((rd_T91 ((rd_T37 l0 0).f2) x5_1).f0.f0) == a1_0 && (((rd_T91 ((rd_T37 l0 0).f2) x5_1).f0.f1) == a1_1)) = false := by first | (simpa using c7) | (have h_ := c7; revert h_; cases ((rd_T91 ((rd_T37 l0 0).f2) x5_1).f0.f0) <;> cases a1_0 && (((rd_T91 ((rd_T37 l0 0).f2) x5_1).f0.f1) == a1_1) <;> decide)))
       (try (have c7b3 : ¬ (((rd_T91 ((rd_T37 l0 0).f2) x5_1).f0.f0) = a1_0 && (((rd_T91 ((rd_T37 l0 0).f2) x5_1).f0.f1) == a1_1)) := by simpa using c7))
       clear c7
       have H' := zN H
       clear H
       have p191 : 0 ≤ (0 : Int) := (by omega)
       have q191 : 0 < (l0.length : Int) := zJ (by first | (with_reducible assumption) | assumption)
       obtain ⟨ad191, A191_2, c191_2, e191, hx191_0, hx191_1, hx191_2, hl191_2, hi191_2⟩ := at_T37 HR0.out 0 p191 q191
       obtain rfl : adp0 = ad191 := (by injection e191)
       have qi191 : (0 < l0.length) = True := eq_true (by omega)
       (try rw [zI] at hx191_0)
       (try rw [Nat.zero_mul] at hx191_0)
       (try rw [Addr.add_zero'] at hx191_0)
       (try rw [zI] at hx191_1)
       (try rw [Nat.zero_mul] at hx191_1)
       (try rw [Addr.add_zero'] at hx191_1)
       (try rw [zI] at hx191_2)
       (try rw [Nat.zero_mul] at hx191_2)
       (try rw [Addr.add_zero'] at hx191_2)
       replace hx191_0 := (HB.out.cell (zH w _ hx191_0)).trans hx191_0
       replace hx191_1 := (HB.out.cell (zH w _ hx191_1)).trans hx191_1
       replace hx191_2 := (HB.out.cell (zH w _ hx191_2)).trans hx191_2
       have HR191_2 := zN hi191_2
       have HC191_2 := zN hl191_2
       clear hi191_2 hl191_2
       replace p191 := eq_true p191
       replace q191 := eq_true q191
       have p192 : 0 ≤ (0 : Int) := (by omega)
       have q192 : 0 < (l0.length : Int) := zJ (by first | (with_reducible assumption) | assumption)
       obtain ⟨ad192, A192_2, c192_2, e192, hx192_0, hx192_1, hx192_2, hl192_2, hi192_2⟩ := at_T37 HR0.out 0 p192 q192
       obtain rfl : adp0 = ad192 := (by injection e192)
       have qi192 : (0 < l0.length) = True := eq_true (by omega)
       (try rw [zI] at hx192_0)
       (try rw [Nat.zero_mul] at hx192_0)
       (try rw [Addr.add_zero'] at hx192_0)
       (try rw [zI] at hx192_1)
       (try rw [Nat.zero_mul] at hx192_1)
       (try rw [Addr.add_zero'] at hx192_1)
       (try rw [zI] at hx192_2)
       (try rw [Nat.zero_mul] at hx192_2)
       (try rw [Addr.add_zero'] at hx192_2)
       replace hx192_0 := (HB.out.cell (zH w _ hx192_0)).trans hx192_0
       replace hx192_1 := (HB.out.cell (zH w _ hx192_1)).trans hx192_1
       replace hx192_2 := (HB.out.cell (zH w _ hx192_2)).trans hx192_2
       have HR192_2 := zN hi192_2
       have HC192_2 := zN hl192_2
       clear hi192_2 hl192_2
       replace p192 := eq_true p192
       replace q192 := eq_true q192
       have ea_ := Option.some.inj (hx191_2.symm.trans hx192_2)
       injection ea_ with ea_ en_ ec_
       subst ea_
       subst ec_
       clear en_
       have p193 : 0 ≤ (x5_1 : Int) := zJ (by first | (with_reducible assumption) | assumption)
       have q193 : x5_1 < (((rd_T37 l0 0).f2).length : Int) := zJ (by first | (with_reducible assumption) | assumption)
       obtain ⟨ad193, e193, hx193_0, hx193_1, hx193_2, hx193_3, hx193_4⟩ := at_T91 HR192_2.out x5_1 p193 q193
       cases e193
       replace hx193_0 := (HB.out.cell (zH w _ hx193_0)).trans hx193_0
       replace hx193_1 := (HB.out.cell (zH w _ hx193_1)).trans hx193_1
       replace hx193_2 := (HB.out.cell (zH w _ hx193_2)).trans hx193_2
       replace hx193_3 := (HB.out.cell (zH w _ hx193_3)).trans hx193_3
       replace hx193_4 := (HB.out.cell (zH w _ hx193_4)).trans hx193_4
       replace p193 := eq_true p193
       replace q193 := eq_true q193
       have hcz9_0 : wr.cell? ⟨gb190, 0, none⟩ = some (.int .i8 a1_0) := (blk_cell BK190.out 0).trans rfl
       have hcz9_1 : wr.cell? ⟨gb190, 1, none⟩ = some (.int .i8 a1_1) := (blk_cell BK190.out 1).trans rfl
       have hfz9_0 := blk_frozen BK190.out 0
       have hfz9_1 := blk_frozen BK190.out 1
       go_wp2
       repeat (go_quiet (fail); try go_wp2)
       go_roundg k1
       case measure => have := HK1.out; omega
       case rel => exact ⟨(wrap64 (x5_1 + 1)), (by first | rfl | (simp; done) | (simp [*]; done) | (exact congrArg (Value.int .i64) (wrap_eq (by omega)))), H', ⟨by have := HK1.out; omega⟩, ⟨by (with_reducible repeat (first | refine zE ?_ _ | refine zF ?_ | refine zG ?_ _)); exact BK190.out⟩, ⟨by repeat (first | (with_reducible first | exact HB.out | apply zA | apply zB | apply zC | refine zD ?_ GE190.out) | exact HB.out)⟩⟩
     ·rw [if_neg c6] at H
      exact absurd H (by simp)
    ·rw [if_neg c5] at H
     have c5b0 : decide (x5_1 < (((rd_T37 l0 0).f2).length : Int)) = false := decide_eq_false c5
     clear c5
     obtain rfl := Option.some.inj H
     have p191 : 0 ≤ (0 : Int) := (by omega)
     have q191 : 0 < (l0.length : Int) := zJ (by first | (with_reducible assumption) | assumption)
     obtain ⟨ad191, A191_2, c191_2, e191, hx191_0, hx191_1, hx191_2, hl191_2, hi191_2⟩ := at_T37 HR0.out 0 p191 q191
     obtain rfl : adp0 = ad191 := (by injection e191)
     have qi191 : (0 < l0.length) = True := eq_true (by omega)
     (try rw [zI] at hx191_0)
     (try rw [Nat.zero_mul] at hx191_0)
     (try rw [Addr.add_zero'] at hx191_0)
     (try rw [zI] at hx191_1)
     (try rw [Nat.zero_mul] at hx191_1)
     (try rw [Addr.add_zero'] at hx191_1)
     (try rw [zI] at hx191_2)
     (try rw [Nat.zero_mul] at hx191_2)
     (try rw [Addr.add_zero'] at hx191_2)
     replace hx191_0 := (HB.out.cell (zH w _ hx191_0)).trans hx191_0
     replace hx191_1 := (HB.out.cell (zH w _ hx191_1)).trans hx191_1
     replace hx191_2 := (HB.out.cell (zH w _ hx191_2)).trans hx191_2
     have HR191_2 := zN hi191_2
     have HC191_2 := zN hl191_2
     clear hi191_2 hl191_2
     replace p191 := eq_true p191
     replace q191 := eq_true q191
     go_wp2
     repeat (go_quiet (fail); try go_wp2)
     go_ret
     exact ⟨by first | rfl | (simp [errW_none, errW_some] <;> rfl) | (simp [*, errW_none, errW_some] <;> rfl), by repeat (first | (with_reducible first | exact HB.out | apply zA | apply zB | apply zC | refine zD ?_ GE190.out) | exact HB.out)⟩
   ·rw [if_neg c4] at H
    exact absurd H (by simp)

/-! ### spec_l01In: function 133 -/
def spec_l01In.f (a0_0 : Int) (a0_1 : Int) (a1 : Int) (a2 : Int) : Option (Bool) := (spec_l00In.f (wrap64 (a0_0)) 0 (wrap64 (a1 - 1))).bind fun t195 => (if t195 = true then ((spec_l00In.f (wrap64 (a0_1)) 0 (wrap64 (a2 - 1))).bind fun t196 => (some t196)) else (some false))
set_option maxHeartbeats 8000000 in
set_option maxRecDepth 100000 in
theorem spec_l01In.calls (a0_0 : Int) (a0_1 : Int) (a1 : Int) (a2 : Int) (r : Bool) (w : World) (h : spec_l01In.f a0_0 a0_1 a1 a2 = some r) :
  Calls Try.prog 133 #[.agg #[.int .i8 a0_0, .int .i8 a0_1], .int .i64 a1, .int .i64 a2] w fun e w' => e = .returned (.bool r) ∧ Below w.heap.size w w' := by
 have hu74 := Try.underlying74
 have HB := zN (Below.refl w.heap.size w)
 have H : ((spec_l00In.f (wrap64 (a0_0)) 0 (wrap64 (a1 - 1))).bind fun t195 => (if t195 = true then ((spec_l00In.f (wrap64 (a0_1)) 0 (wrap64 (a2 - 1))).bind fun t196 => (some t196)) else (some false))) = some r := h
 clear h
 replace H := Option.bind_eq_some_iff.mp H
 obtain ⟨t195, A40, H⟩ := H
 replace H : (if t195 = true then ((spec_l00In.f (wrap64 (a0_1)) 0 (wrap64 (a2 - 1))).bind fun t196 => (some t196)) else (some false)) = some r := H
 have A4 := zN A40
 clear A40
 by_cases c5 : t195 = true
 ·subst c5
  have H1 : ((spec_l00In.f (wrap64 (a0_1)) 0 (wrap64 (a2 - 1))).bind fun t196 => (some t196)) = some r := by rw [if_pos rfl] at H; exact H
  clear H
  have H := H1
  clear H1
  replace H := Option.bind_eq_some_iff.mp H
  obtain ⟨t196, A60, H⟩ := H
  replace H : (some t196) = some r := H
  have A6 := zN A60
  clear A60
  obtain rfl := Option.some.inj H
  go_enter Try.func133, Try.ntmps133
  go_wp2_with (first | ((with_reducible refine gate_dst (N := 3) rfl ?_); refine box_event ?hg (N := 3) ?hd (cs := #[.int .i8 a0_0, .int .i8 a0_1]) (t := 74) ?hr ?_; (case hd => rfl); (case hg => rfl); (case hr => first | (go_simp; done) | (go_simp; rfl)); intro gb194 hg w7 hbox hb; have n0_ := zN (below_step (by repeat (first | (with_reducible first | exact HB.out | apply zA | apply zB | apply zC) | exact HB.out)) hb); have n1_ := zN (hbox); have n2_ := zN ((by rw [hg]; exact (below_size (by repeat (first | (with_reducible first | exact HB.out | apply zA | apply zB | apply zC) | exact HB.out))) : w.heap.size ≤ gb194)); have n3_ := zN ((by rw [hg]; exact (below_size (by repeat (first | (with_reducible first | exact HB.out | apply zA | apply zB | apply zC) | exact HB.out))) : w.heap.size ≤ gb194)); clear HB; have HB := n0_; have BK194 := n1_; have GW194 := n2_; have GE194 := n3_; clear n0_ n1_ n2_ n3_; clear hb hbox hg; have hcz8_0 : w7.cell? ⟨gb194, 0, none⟩ = some (.int .i8 a0_0) := (blk_cell BK194.out 0).trans rfl; have hcz8_1 : w7.cell? ⟨gb194, 1, none⟩ = some (.int .i8 a0_1) := (blk_cell BK194.out 1).trans rfl; have hfz8_0 := blk_frozen BK194.out 0; have hfz8_1 := blk_frozen BK194.out 1) | ((with_reducible refine gate_callee (f := 96) rfl ?_); refine goesL_ (some 12) rfl rfl Try.func96 (by kernel_rfl) rfl #[.int .i64 (wrap64 (a0_0)), .int .i64 0, .int .i64 (wrap64 (a1 - 1))] rfl (by (try simp only [List.map_toArray, List.map_cons, List.map_nil]); first | done | rfl | (simp only [List.length_drop, List.length_take]; rfl)) ?_; (with_reducible refine (spec_l00In.calls (wrap64 (a0_0)) 0 (wrap64 (a1 - 1)) true _ A4.out).mono ?_); rintro e w' ⟨rfl, ⟨nd, rfl⟩⟩; refine ⟨_, rfl, ?_⟩) | (go_at_call 96; (with_reducible refine (spec_l00In.calls (wrap64 (a0_1)) 0 (wrap64 (a2 - 1)) t196 _ A6.out).mono ?_); rintro e w' ⟨rfl, ⟨nd, rfl⟩⟩))
  go_ret
  exact ⟨by first | rfl | (simp [errW_none, errW_some] <;> rfl) | (simp [*, errW_none, errW_some] <;> rfl), by repeat (first | (with_reducible first | exact HB.out | apply zA | apply zB | apply zC | refine zD ?_ GE194.out) | exact HB.out)⟩
 ·replace c5 := Bool.eq_false_iff.mpr c5
  subst c5
  have H1 : (some false) = some r := by rw [if_neg (show ¬ (false = true) by decide)] at H; exact H
  clear H
  have H := H1
  clear H1
  obtain rfl := Option.some.inj H
  go_enter Try.func133, Try.ntmps133
  go_wp2_with (first | ((with_reducible refine gate_dst (N := 3) rfl ?_); refine box_event ?hg (N := 3) ?hd (cs := #[.int .i8 a0_0, .int .i8 a0_1]) (t := 74) ?hr ?_; (case hd => rfl); (case hg => rfl); (case hr => first | (go_simp; done) | (go_simp; rfl)); intro gb194 hg w9 hbox hb; have n0_ := zN (below_step (by repeat (first | (with_reducible first | exact HB.out | apply zA | apply zB | apply zC) | exact HB.out)) hb); have n1_ := zN (hbox); have n2_ := zN ((by rw [hg]; exact (below_size (by repeat (first | (with_reducible first | exact HB.out | apply zA | apply zB | apply zC) | exact HB.out))) : w.heap.size ≤ gb194)); have n3_ := zN ((by rw [hg]; exact (below_size (by repeat (first | (with_reducible first | exact HB.out | apply zA | apply zB | apply zC) | exact HB.out))) : w.heap.size ≤ gb194)); clear HB; have HB := n0_; have BK194 := n1_; have GW194 := n2_; have GE194 := n3_; clear n0_ n1_ n2_ n3_; clear hb hbox hg; have hcz10_0 : w9.cell? ⟨gb194, 0, none⟩ = some (.int .i8 a0_0) := (blk_cell BK194.out 0).trans rfl; have hcz10_1 : w9.cell? ⟨gb194, 1, none⟩ = some (.int .i8 a0_1) := (blk_cell BK194.out 1).trans rfl; have hfz10_0 := blk_frozen BK194.out 0; have hfz10_1 := blk_frozen BK194.out 1) | ((with_reducible refine gate_callee (f := 96) rfl ?_); refine goesL_ (some 12) rfl rfl Try.func96 (by kernel_rfl) rfl #[.int .i64 (wrap64 (a0_0)), .int .i64 0, .int .i64 (wrap64 (a1 - 1))] rfl (by (try simp only [List.map_toArray, List.map_cons, List.map_nil]); first | done | rfl | (simp only [List.length_drop, List.length_take]; rfl)) ?_; (with_reducible refine (spec_l00In.calls (wrap64 (a0_0)) 0 (wrap64 (a1 - 1)) false _ A4.out).mono ?_); rintro e w' ⟨rfl, ⟨nd, rfl⟩⟩; refine ⟨_, rfl, ?_⟩))
  go_ret
  exact ⟨by first | rfl | (simp [errW_none, errW_some] <;> rfl) | (simp [*, errW_none, errW_some] <;> rfl), by repeat (first | (with_reducible first | exact HB.out | apply zA | apply zB | apply zC | refine zD ?_ GE194.out) | exact HB.out)⟩

/-! ### spec_l01Piece: function 132 -/
def spec_l01Piece.f (l0 : List (S91)) : Option (Bool) := if 0 < (l0.length : Int) then ((spec_l00In.f (wrap64 ((rd_T91 l0 0).f1)) 0 5).bind fun t198 => (if t198 = true then ((spec_l00In.f (wrap64 ((rd_T91 l0 0).f2)) 0 3).bind fun t200 => (if t200 = true then ((spec_l00In.f (wrap64 ((rd_T91 l0 0).f3)) 1 9).bind fun t202 => (if t202 = true then ((spec_l01In.f ((rd_T91 l0 0).f0.f0) ((rd_T91 l0 0).f0.f1) 24 24).bind fun t204 => (some t204)) else (some false))) else (some false))) else (some false))) else (none)
set_option maxHeartbeats 8000000 in
set_option maxRecDepth 100000 in
theorem spec_l01Piece.calls (adp0 : Addr) (l0 : List (S91)) (r : Bool) (w : World) (hr0 : Kd.C k91 w (some adp0) l0.length l0) (h : spec_l01Piece.f l0 = some r) :
  Calls Try.prog 132 #[.pointer (some adp0)] w fun e w' => e = .returned (.bool r) ∧ Below w.heap.size w w' := by
 have hu74 := Try.underlying74
 have HR0 := zN hr0
 clear hr0
 have HB := zN (Below.refl w.heap.size w)
 have H : (if 0 < (l0.length : Int) then ((spec_l00In.f (wrap64 ((rd_T91 l0 0).f1)) 0 5).bind fun t198 => (if t198 = true then ((spec_l00In.f (wrap64 ((rd_T91 l0 0).f2)) 0 3).bind fun t200 => (if t200 = true then ((spec_l00In.f (wrap64 ((rd_T91 l0 0).f3)) 1 9).bind fun t202 => (if t202 = true then ((spec_l01In.f ((rd_T91 l0 0).f0.f0) ((rd_T91 l0 0).f0.f1) 24 24).bind fun t204 => (some t204)) else (some false))) else (some false))) else (some false))) else (none)) = some r := h
 clear h
 by_cases c2 : 0 < (l0.length : Int)
 ·rw [if_pos c2] at H
  have c2b0 : decide (0 < (l0.length : Int)) = true := decide_eq_true c2
  have c2b1 : decide (0 < l0.length) = true := decide_eq_true (by omega)
  clear c2
  replace H := Option.bind_eq_some_iff.mp H
  obtain ⟨t198, A30, H⟩ := H
  replace H : (if t198 = true then ((spec_l00In.f (wrap64 ((rd_T91 l0 0).f2)) 0 3).bind fun t200 => (if t200 = true then ((spec_l00In.f (wrap64 ((rd_T91 l0 0).f3)) 1 9).bind fun t202 => (if t202 = true then ((spec_l01In.f ((rd_T91 l0 0).f0.f0) ((rd_T91 l0 0).f0.f1) 24 24).bind fun t204 => (some t204)) else (some false))) else (some false))) else (some false)) = some r := H
  have A3 := zN A30
  clear A30
  by_cases c4 : t198 = true
  ·subst c4
   have H1 : ((spec_l00In.f (wrap64 ((rd_T91 l0 0).f2)) 0 3).bind fun t200 => (if t200 = true then ((spec_l00In.f (wrap64 ((rd_T91 l0 0).f3)) 1 9).bind fun t202 => (if t202 = true then ((spec_l01In.f ((rd_T91 l0 0).f0.f0) ((rd_T91 l0 0).f0.f1) 24 24).bind fun t204 => (some t204)) else (some false))) else (some false))) = some r := by rw [if_pos rfl] at H; exact H
   clear H
   have H := H1
   clear H1
   replace H := Option.bind_eq_some_iff.mp H
   obtain ⟨t200, A50, H⟩ := H
   replace H : (if t200 = true then ((spec_l00In.f (wrap64 ((rd_T91 l0 0).f3)) 1 9).bind fun t202 => (if t202 = true then ((spec_l01In.f ((rd_T91 l0 0).f0.f0) ((rd_T91 l0 0).f0.f1) 24 24).bind fun t204 => (some t204)) else (some false))) else (some false)) = some r := H
   have A5 := zN A50
   clear A50
   by_cases c6 : t200 = true
   ·subst c6
    have H1 : ((spec_l00In.f (wrap64 ((rd_T91 l0 0).f3)) 1 9).bind fun t202 => (if t202 = true then ((spec_l01In.f ((rd_T91 l0 0).f0.f0) ((rd_T91 l0 0).f0.f1) 24 24).bind fun t204 => (some t204)) else (some false))) = some r := by rw [if_pos rfl] at H; exact H
    clear H
    have H := H1
    clear H1
    replace H := Option.bind_eq_some_iff.mp H
    obtain ⟨t202, A70, H⟩ := H
    replace H : (if t202 = true then ((spec_l01In.f ((rd_T91 l0 0).f0.f0) ((rd_T91 l0 0).f0.f1) 24 24).bind fun t204 => (some t204)) else (some false)) = some r := H
    have A7 := zN A70
    clear A70
    by_cases c8 : t202 = true
    ·subst c8
     have H1 : ((spec_l01In.f ((rd_T91 l0 0).f0.f0) ((rd_T91 l0 0).f0.f1) 24 24).bind fun t204 => (some t204)) = some r := by rw [if_pos rfl] at H; exact H
     clear H
     have H := H1
     clear H1
     replace H := Option.bind_eq_some_iff.mp H
     obtain ⟨t204, A90, H⟩ := H
     replace H : (some t204) = some r := H
     have A9 := zN A90
     clear A90
     obtain rfl := Option.some.inj H
     have p197 : 0 ≤ (0 : Int) := (by omega)
     have q197 : 0 < (l0.length : Int) := zJ (by first | (with_reducible assumption) | assumption)
     obtain ⟨ad197, e197, hx197_0, hx197_1, hx197_2, hx197_3, hx197_4⟩ := at_T91 HR0.out 0 p197 q197
     obtain rfl : adp0 = ad197 := (by injection e197)
     have qi197 : (0 < l0.length) = True := eq_true (by omega)
     (try rw [zI] at hx197_0)
     (try rw [Nat.zero_mul] at hx197_0)
     (try rw [Addr.add_zero'] at hx197_0)
     (try rw [zI] at hx197_1)
     (try rw [Nat.zero_mul] at hx197_1)
     (try rw [Addr.add_zero'] at hx197_1)
     (try rw [zI] at hx197_2)
     (try rw [Nat.zero_mul] at hx197_2)
     (try rw [Addr.add_zero'] at hx197_2)
     (try rw [zI] at hx197_3)
     (try rw [Nat.zero_mul] at hx197_3)
     (try rw [Addr.add_zero'] at hx197_3)
     (try rw [zI] at hx197_4)
     (try rw [Nat.zero_mul] at hx197_4)
     (try rw [Addr.add_zero'] at hx197_4)
     replace p197 := eq_true p197
     replace q197 := eq_true q197
     go_enter Try.func132, Try.ntmps132
     go_wp2_with (first | ((with_reducible refine gate_callee (f := 96) rfl ?_); refine goesL_ (some 8) rfl rfl Try.func96 (by kernel_rfl) rfl #[.int .i64 (wrap64 ((rd_T91 l0 0).f1)), .int .i64 0, .int .i64 5] rfl (by (try simp only [List.map_toArray, List.map_cons, List.map_nil]); first | done | rfl | (simp only [List.length_drop, List.length_take]; rfl)) ?_; (with_reducible refine (spec_l00In.calls (wrap64 ((rd_T91 l0 0).f1)) 0 5 true _ A3.out).mono ?_); rintro e w' ⟨rfl, ⟨nd, rfl⟩⟩; refine ⟨_, rfl, ?_⟩; have p199 : 0 ≤ (0 : Int) := (by omega); have q199 : 0 < (l0.length : Int) := zJ (by first | (with_reducible assumption) | assumption); obtain ⟨ad199, e199, hx199_0, hx199_1, hx199_2, hx199_3, hx199_4⟩ := at_T91 HR0.out 0 p199 q199; obtain rfl : adp0 = ad199 := (by injection e199); have qi199 : (0 < l0.length) = True := eq_true (by omega); (try rw [zI] at hx199_0); (try rw [Nat.zero_mul] at hx199_0); (try rw [Addr.add_zero'] at hx199_0); (try rw [zI] at hx199_1); (try rw [Nat.zero_mul] at hx199_1); (try rw [Addr.add_zero'] at hx199_1); (try rw [zI] at hx199_2); (try rw [Nat.zero_mul] at hx199_2); (try rw [Addr.add_zero'] at hx199_2); (try rw [zI] at hx199_3); (try rw [Nat.zero_mul] at hx199_3); (try rw [Addr.add_zero'] at hx199_3); (try rw [zI] at hx199_4); (try rw [Nat.zero_mul] at hx199_4); (try rw [Addr.add_zero'] at hx199_4); replace p199 := eq_true p199; replace q199 := eq_true q199) | (go_at_call 96; (with_reducible refine (spec_l00In.calls (wrap64 ((rd_T91 l0 0).f2)) 0 3 true _ A5.out).mono ?_); rintro e w' ⟨rfl, ⟨nd, rfl⟩⟩; have p201 : 0 ≤ (0 : Int) := (by omega); have q201 : 0 < (l0.length : Int) := zJ (by first | (with_reducible assumption) | assumption); obtain ⟨ad201, e201, hx201_0, hx201_1, hx201_2, hx201_3, hx201_4⟩ := at_T91 HR0.out 0 p201 q201; obtain rfl : adp0 = ad201 := (by injection e201); have qi201 : (0 < l0.length) = True := eq_true (by omega); (try rw [zI] at hx201_0); (try rw [Nat.zero_mul] at hx201_0); (try rw [Addr.add_zero'] at hx201_0); (try rw [zI] at hx201_1); (try rw [Nat.zero_mul] at hx201_1); (try rw [Addr.add_zero'] at hx201_1); (try rw [zI] at hx201_2); (try rw [Nat.zero_mul] at hx201_2); (try rw [Addr.add_zero'] at hx201_2); (try rw [zI] at hx201_3); (try rw [Nat.zero_mul] at hx201_3); (try rw [Addr.add_zero'] at hx201_3); (try rw [zI] at hx201_4); (try rw [Nat.zero_mul] at hx201_4); (try rw [Addr.add_zero'] at hx201_4); replace p201 := eq_true p201; replace q201 := eq_true q201) | (go_at_call 96; (with_reducible refine (spec_l00In.calls (wrap64 ((rd_T91 l0 0).f3)) 1 9 true _ A7.out).mono ?_); rintro e w' ⟨rfl, ⟨nd, rfl⟩⟩; have p203 : 0 ≤ (0 : Int) := (by omega); have q203 : 0 < (l0.length : Int) := zJ (by first | (with_reducible assumption) | assumption); obtain ⟨ad203, e203, hx203_0, hx203_1, hx203_2, hx203_3, hx203_4⟩ := at_T91 HR0.out 0 p203 q203; obtain rfl : adp0 = ad203 := (by injection e203); have qi203 : (0 < l0.length) = True := eq_true (by omega); (try rw [zI] at hx203_0); (try rw [Nat.zero_mul] at hx203_0); (try rw [Addr.add_zero'] at hx203_0); (try rw [zI] at hx203_1); (try rw [Nat.zero_mul] at hx203_1); (try rw [Addr.add_zero'] at hx203_1); (try rw [zI] at hx203_2); (try rw [Nat.zero_mul] at hx203_2); (try rw [Addr.add_zero'] at hx203_2); (try rw [zI] at hx203_3); (try rw [Nat.zero_mul] at hx203_3); (try rw [Addr.add_zero'] at hx203_3); (try rw [zI] at hx203_4); (try rw [Nat.zero_mul] at hx203_4); (try rw [Addr.add_zero'] at hx203_4); replace p203 := eq_true p203; replace q203 := eq_true q203) | (go_at_call 133; (with_reducible refine (spec_l01In.calls ((rd_T91 l0 0).f0.f0) ((rd_T91 l0 0).f0.f1) 24 24 t204 _ A9.out).mono ?_); rintro e w10 ⟨rfl, hb⟩; have n0_ := zN (below_step (by repeat (first | (with_reducible first | exact HB.out | apply zA | apply zB | apply zC) | exact HB.out)) hb); clear HB; have HB := n0_; clear n0_; (try clear hb); (try clear hb2); (try clear hk); (try clear hi)))
     go_ret
     exact ⟨by first | rfl | (simp [errW_none, errW_some] <;> rfl) | (simp [*, errW_none, errW_some] <;> rfl), by repeat (first | (with_reducible first | exact HB.out | apply zA | apply zB | apply zC) | exact HB.out)⟩
    ·replace c8 := Bool.eq_false_iff.mpr c8
     subst c8
     have H1 : (some false) = some r := by rw [if_neg (show ¬ (false = true) by decide)] at H; exact H
     clear H
     have H := H1
     clear H1
     obtain rfl := Option.some.inj H
     have p197 : 0 ≤ (0 : Int) := (by omega)
     have q197 : 0 < (l0.length : Int) := zJ (by first | (with_reducible assumption) | assumption)
     obtain ⟨ad197, e197, hx197_0, hx197_1, hx197_2, hx197_3, hx197_4⟩ := at_T91 HR0.out 0 p197 q197
     obtain rfl : adp0 = ad197 := (by injection e197)
     have qi197 : (0 < l0.length) = True := eq_true (by omega)
     (try rw [zI] at hx197_0)
     (try rw [Nat.zero_mul] at hx197_0)
     (try rw [Addr.add_zero'] at hx197_0)
     (try rw [zI] at hx197_1)
     (try rw [Nat.zero_mul] at hx197_1)
     (try rw [Addr.add_zero'] at hx197_1)
     (try rw [zI] at hx197_2)
     (try rw [Nat.zero_mul] at hx197_2)
     (try rw [Addr.add_zero'] at hx197_2)
     (try rw [zI] at hx197_3)
     (try rw [Nat.zero_mul] at hx197_3)
     (try rw [Addr.add_zero'] at hx197_3)
     (try rw [zI] at hx197_4)
     (try rw [Nat.zero_mul] at hx197_4)
     (try rw [Addr.add_zero'] at hx197_4)
     replace p197 := eq_true p197
     replace q197 := eq_true q197
     go_enter Try.func132, Try.ntmps132
     go_wp2_with (first | ((with_reducible refine gate_callee (f := 96) rfl ?_); refine goesL_ (some 8) rfl rfl Try.func96 (by kernel_rfl) rfl #[.int .i64 (wrap64 ((rd_T91 l0 0).f1)), .int .i64 0, .int .i64 5] rfl (by (try simp only [List.map_toArray, List.map_cons, List.map_nil]); first | done | rfl | (simp only [List.length_drop, List.length_take]; rfl)) ?_; (with_reducible refine (spec_l00In.calls (wrap64 ((rd_T91 l0 0).f1)) 0 5 true _ A3.out).mono ?_); rintro e w' ⟨rfl, ⟨nd, rfl⟩⟩; refine ⟨_, rfl, ?_⟩; have p199 : 0 ≤ (0 : Int) := (by omega); have q199 : 0 < (l0.length : Int) := zJ (by first | (with_reducible assumption) | assumption); obtain ⟨ad199, e199, hx199_0, hx199_1, hx199_2, hx199_3, hx199_4⟩ := at_T91 HR0.out 0 p199 q199; obtain rfl : adp0 = ad199 := (by injection e199); have qi199 : (0 < l0.length) = True := eq_true (by omega); (try rw [zI] at hx199_0); (try rw [Nat.zero_mul] at hx199_0); (try rw [Addr.add_zero'] at hx199_0); (try rw [zI] at hx199_1); (try rw [Nat.zero_mul] at hx199_1); (try rw [Addr.add_zero'] at hx199_1); (try rw [zI] at hx199_2); (try rw [Nat.zero_mul] at hx199_2); (try rw [Addr.add_zero'] at hx199_2); (try rw [zI] at hx199_3); (try rw [Nat.zero_mul] at hx199_3); (try rw [Addr.add_zero'] at hx199_3); (try rw [zI] at hx199_4); (try rw [Nat.zero_mul] at hx199_4); (try rw [Addr.add_zero'] at hx199_4); replace p199 := eq_true p199; replace q199 := eq_true q199) | (go_at_call 96; (with_reducible refine (spec_l00In.calls (wrap64 ((rd_T91 l0 0).f2)) 0 3 true _ A5.out).mono ?_); rintro e w' ⟨rfl, ⟨nd, rfl⟩⟩; have p201 : 0 ≤ (0 : Int) := (by omega); have q201 : 0 < (l0.length : Int) := zJ (by first | (with_reducible assumption) | assumption); obtain ⟨ad201, e201, hx201_0, hx201_1, hx201_2, hx201_3, hx201_4⟩ := at_T91 HR0.out 0 p201 q201; obtain rfl : adp0 = ad201 := (by injection e201); have qi201 : (0 < l0.length) = True := eq_true (by omega); (try rw [zI] at hx201_0); (try rw [Nat.zero_mul] at hx201_0); (try rw [Addr.add_zero'] at hx201_0); (try rw [zI] at hx201_1); (try rw [Nat.zero_mul] at hx201_1); (try rw [Addr.add_zero'] at hx201_1); (try rw [zI] at hx201_2); (try rw [Nat.zero_mul] at hx201_2); (try rw [Addr.add_zero'] at hx201_2); (try rw [zI] at hx201_3); (try rw [Nat.zero_mul] at hx201_3); (try rw [Addr.add_zero'] at hx201_3); (try rw [zI] at hx201_4); (try rw [Nat.zero_mul] at hx201_4); (try rw [Addr.add_zero'] at hx201_4); replace p201 := eq_true p201; replace q201 := eq_true q201) | (go_at_call 96; (with_reducible refine (spec_l00In.calls (wrap64 ((rd_T91 l0 0).f3)) 1 9 false _ A7.out).mono ?_); rintro e w' ⟨rfl, ⟨nd, rfl⟩⟩))
     go_ret
     exact ⟨by first | rfl | (simp [errW_none, errW_some] <;> rfl) | (simp [*, errW_none, errW_some] <;> rfl), by repeat (first | (with_reducible first | exact HB.out | apply zA | apply zB | apply zC) | exact HB.out)⟩
   ·replace c6 := Bool.eq_false_iff.mpr c6
    subst c6
    have H1 : (some false) = some r := by rw [if_neg (show ¬ (false = true) by decide)] at H; exact H
    clear H
    have H := H1
    clear H1
    obtain rfl := Option.some.inj H
    have p197 : 0 ≤ (0 : Int) := (by omega)
    have q197 : 0 < (l0.length : Int) := zJ (by first | (with_reducible assumption) | assumption)
    obtain ⟨ad197, e197, hx197_0, hx197_1, hx197_2, hx197_3, hx197_4⟩ := at_T91 HR0.out 0 p197 q197
    obtain rfl : adp0 = ad197 := (by injection e197)
    have qi197 : (0 < l0.length) = True := eq_true (by omega)
    (try rw [zI] at hx197_0)
    (try rw [Nat.zero_mul] at hx197_0)
    (try rw [Addr.add_zero'] at hx197_0)
    (try rw [zI] at hx197_1)
    (try rw [Nat.zero_mul] at hx197_1)
    (try rw [Addr.add_zero'] at hx197_1)
    (try rw [zI] at hx197_2)
    (try rw [Nat.zero_mul] at hx197_2)
    (try rw [Addr.add_zero'] at hx197_2)
    (try rw [zI] at hx197_3)
    (try rw [Nat.zero_mul] at hx197_3)
    (try rw [Addr.add_zero'] at hx197_3)
    (try rw [zI] at hx197_4)
    (try rw [Nat.zero_mul] at hx197_4)
    (try rw [Addr.add_zero'] at hx197_4)
    replace p197 := eq_true p197
    replace q197 := eq_true q197
    go_enter Try.func132, Try.ntmps132
    go_wp2_with (first | ((with_reducible refine gate_callee (f := 96) rfl ?_); refine goesL_ (some 8) rfl rfl Try.func96 (by kernel_rfl) rfl #[.int .i64 (wrap64 ((rd_T91 l0 0).f1)), .int .i64 0, .int .i64 5] rfl (by (try simp only [List.map_toArray, List.map_cons, List.map_nil]); first | done | rfl | (simp only [List.length_drop, List.length_take]; rfl)) ?_; (with_reducible refine (spec_l00In.calls (wrap64 ((rd_T91 l0 0).f1)) 0 5 true _ A3.out).mono ?_); rintro e w' ⟨rfl, ⟨nd, rfl⟩⟩; refine ⟨_, rfl, ?_⟩; have p199 : 0 ≤ (0 : Int) := (by omega); have q199 : 0 < (l0.length : Int) := zJ (by first | (with_reducible assumption) | assumption); obtain ⟨ad199, e199, hx199_0, hx199_1, hx199_2, hx199_3, hx199_4⟩ := at_T91 HR0.out 0 p199 q199; obtain rfl : adp0 = ad199 := (by injection e199); have qi199 : (0 < l0.length) = True := eq_true (by omega); (try rw [zI] at hx199_0); (try rw [Nat.zero_mul] at hx199_0); (try rw [Addr.add_zero'] at hx199_0); (try rw [zI] at hx199_1); (try rw [Nat.zero_mul] at hx199_1); (try rw [Addr.add_zero'] at hx199_1); (try rw [zI] at hx199_2); (try rw [Nat.zero_mul] at hx199_2); (try rw [Addr.add_zero'] at hx199_2); (try rw [zI] at hx199_3); (try rw [Nat.zero_mul] at hx199_3); (try rw [Addr.add_zero'] at hx199_3); (try rw [zI] at hx199_4); (try rw [Nat.zero_mul] at hx199_4); (try rw [Addr.add_zero'] at hx199_4); replace p199 := eq_true p199; replace q199 := eq_true q199) | (go_at_call 96; (with_reducible refine (spec_l00In.calls (wrap64 ((rd_T91 l0 0).f2)) 0 3 false _ A5.out).mono ?_); rintro e w' ⟨rfl, ⟨nd, rfl⟩⟩))
    go_ret
    exact ⟨by first | rfl | (simp [errW_none, errW_some] <;> rfl) | (simp [*, errW_none, errW_some] <;> rfl), by repeat (first | (with_reducible first | exact HB.out | apply zA | apply zB | apply zC) | exact HB.out)⟩
  ·replace c4 := Bool.eq_false_iff.mpr c4
   subst c4
   have H1 : (some false) = some r := by rw [if_neg (show ¬ (false = true) by decide)] at H; exact H
   clear H
   have H := H1
   clear H1
   obtain rfl := Option.some.inj H
   have p197 : 0 ≤ (0 : Int) := (by omega)
   have q197 : 0 < (l0.length : Int) := zJ (by first | (with_reducible assumption) | assumption)
   obtain ⟨ad197, e197, hx197_0, hx197_1, hx197_2, hx197_3, hx197_4⟩ := at_T91 HR0.out 0 p197 q197
   obtain rfl : adp0 = ad197 := (by injection e197)
   have qi197 : (0 < l0.length) = True := eq_true (by omega)
   (try rw [zI] at hx197_0)
   (try rw [Nat.zero_mul] at hx197_0)
   (try rw [Addr.add_zero'] at hx197_0)
   (try rw [zI] at hx197_1)
   (try rw [Nat.zero_mul] at hx197_1)
   (try rw [Addr.add_zero'] at hx197_1)
   (try rw [zI] at hx197_2)
   (try rw [Nat.zero_mul] at hx197_2)
   (try rw [Addr.add_zero'] at hx197_2)
   (try rw [zI] at hx197_3)
   (try rw [Nat.zero_mul] at hx197_3)
   (try rw [Addr.add_zero'] at hx197_3)
   (try rw [zI] at hx197_4)
   (try rw [Nat.zero_mul] at hx197_4)
   (try rw [Addr.add_zero'] at hx197_4)
   replace p197 := eq_true p197
   replace q197 := eq_true q197
   go_enter Try.func132, Try.ntmps132
   go_wp2_with (first | ((with_reducible refine gate_callee (f := 96) rfl ?_); refine goesL_ (some 8) rfl rfl Try.func96 (by kernel_rfl) rfl #[.int .i64 (wrap64 ((rd_T91 l0 0).f1)), .int .i64 0, .int .i64 5] rfl (by (try simp only [List.map_toArray, List.map_cons, List.map_nil]); first | done | rfl | (simp only [List.length_drop, List.length_take]; rfl)) ?_; (with_reducible refine (spec_l00In.calls (wrap64 ((rd_T91 l0 0).f1)) 0 5 false _ A3.out).mono ?_); rintro e w' ⟨rfl, ⟨nd, rfl⟩⟩; refine ⟨_, rfl, ?_⟩))
   go_ret
   exact ⟨by first | rfl | (simp [errW_none, errW_some] <;> rfl) | (simp [*, errW_none, errW_some] <;> rfl), by repeat (first | (with_reducible first | exact HB.out | apply zA | apply zB | apply zC) | exact HB.out)⟩
 ·rw [if_neg c2] at H
  exact absurd H (by simp)

end Go.Proofs.Ytffnfpnajkgnaaa.PFnExactValidMachine
