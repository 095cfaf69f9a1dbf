-- WRITTEN by xprint.py, a program of this session's. Not trusted: Lean checks it.
import Derived.Test.YtdjhcnepndflmaaPFnExactNeverHitx0
namespace Go.Proofs.Ytdjhcnepndflmaa.PFnExactNeverHit
open Go.RowKit Go.Proofs.YtdjhcnepndflmaaW.PrintWords Go.Proofs.YtdjhcnepndflmaaW.PrintLast Go.Proofs.YtdjhcnepndflmaaW.PrintMore Go.Proofs.YtdjhcnepndflmaaX
attribute [local go_sem] max2_int min2_int max_two min_two max_three min_three max_four min_four   -- for this text's walks alone
set_option linter.unusedVariables false
set_option linter.unusedSimpArgs false

/-! ### laws_szPieceS: function 24 -/
def laws_szPieceS.f (l0 : List (S78)) (a1 : Int) : Option (Int) := if (wrap64 (a1 - (l0.length : Int))) < 0 then (some (-1)) else (some (wrap64 (a1 - (l0.length : Int))))
set_option maxHeartbeats 8000000 in
set_option maxRecDepth 100000 in
theorem laws_szPieceS.calls (A0 : Option Addr) (c0 : Nat) (l0 : List (S78)) (a1 : Int) (r : Int) (w : World) (hr0 : Kd.C k78 w A0 l0.length l0) (hc0 : l0.length ≤ c0) (h : laws_szPieceS.f l0 a1 = some r) :
    Calls Try.prog 24 #[.slice A0 l0.length c0, .int .i64 a1] w fun e w' => e = .returned (.int .i64 r) ∧ Drawn0 w w' := by
  have HR0 := Aside0.mk hr0
  have HC0 := Aside0.mk hc0
  clear hr0 hc0
  have H : (if (wrap64 (a1 - (l0.length : Int))) < 0 then (some (-1)) else (some (wrap64 (a1 - (l0.length : Int))))) = some r := h
  clear h
  by_cases c3 : (wrap64 (a1 - (l0.length : Int))) < 0
  · rw [if_pos c3] at H
    have c3b0 : decide ((wrap64 (a1 - (l0.length : Int))) < 0) = true := decide_eq_true c3
    clear c3
    obtain rfl := Option.some.inj H
    go_enter Try.func24, Try.ntmps24
    go_wp2
    go_ret
    exact ⟨by first | rfl | (simp; done) | (simp [*]; done) | (exact congrArg (Value.int .i64) (wrap_eq (by omega))), by repeat (first | exact Drawn0.refl _ | apply Drawn0.step)⟩
  · rw [if_neg c3] at H
    have c3b0 : decide ((wrap64 (a1 - (l0.length : Int))) < 0) = false := decide_eq_false c3
    clear c3
    obtain rfl := Option.some.inj H
    go_enter Try.func24, Try.ntmps24
    go_wp2
    go_ret
    exact ⟨by first | rfl | (simp; done) | (simp [*]; done) | (exact congrArg (Value.int .i64) (wrap_eq (by omega))), by repeat (first | exact Drawn0.refl _ | apply Drawn0.step)⟩

/-! ### laws_szBoard: function 6 -/
def laws_szBoard.f (a0_0 : Int) (a0_1 : Int) (l0_2 : List (S78)) (a1 : Int) : Option (Int) := (laws_szPieceS.f l0_2 a1).bind fun t102 => (if t102 < 0 then (some (-1)) else (some t102))
set_option maxHeartbeats 8000000 in
set_option maxRecDepth 100000 in
theorem laws_szBoard.calls (a0_0 : Int) (a0_1 : Int) (A0_2 : Option Addr) (c0_2 : Nat) (l0_2 : List (S78)) (a1 : Int) (r : Int) (w : World) (hr0_2 : Kd.C k78 w A0_2 l0_2.length l0_2) (hc0_2 : l0_2.length ≤ c0_2) (h : laws_szBoard.f a0_0 a0_1 l0_2 a1 = some r) :
    Calls Try.prog 6 #[.agg #[.int .i8 a0_0, .int .i8 a0_1, .slice A0_2 l0_2.length c0_2], .int .i64 a1] w fun e w' => e = .returned (.int .i64 r) ∧ Below w.heap.size w w' := by
  have hu25 := Try.underlying25
  have HR0_2 := Aside0.mk hr0_2
  have HC0_2 := Aside0.mk hc0_2
  clear hr0_2 hc0_2
  have HB := Aside0.mk (Below.refl w.heap.size w)
  have H : ((laws_szPieceS.f l0_2 a1).bind fun t102 => (if t102 < 0 then (some (-1)) else (some t102))) = some r := h
  clear h
  replace H := Option.bind_eq_some_iff.mp H
  obtain ⟨t102, A30, H⟩ := H
  replace H : (if t102 < 0 then (some (-1)) else (some t102)) = some r := H
  have A3 := Aside0.mk A30
  clear A30
  by_cases c4 : t102 < 0
  · rw [if_pos c4] at H
    have c4b0 : decide (t102 < 0) = true := decide_eq_true c4
    clear c4
    obtain rfl := Option.some.inj H
    go_enter Try.func6, Try.ntmps6
    go_wp2_with (first | ((with_reducible refine gate_dst (N := 2) rfl ?_); refine box_event ?hg (N := 2) ?hd (cs := #[.int .i8 a0_0, .int .i8 a0_1, .slice A0_2 l0_2.length c0_2]) (t := 25) ?hr ?_; (case hd => rfl); (case hg => rfl); (case hr => first | (go_simp; done) | (go_simp; rfl)); intro gb101 hg w5 hbox hb; have n0_ := Aside0.mk (below_step (by repeat (first | (with_reducible first | exact HB.out | apply below_alloc | apply pw_below_drewN | apply below_drew1) | exact HB.out)) hb); have n1_ := Aside0.mk (hbox); have n2_ := Aside0.mk ((by rw [hg]; exact (below_size (by repeat (first | (with_reducible first | exact HB.out | apply below_alloc | apply pw_below_drewN | apply below_drew1) | exact HB.out))) : w.heap.size ≤ gb101)); have n3_ := Aside0.mk ((by rw [hg]; exact (below_size (by repeat (first | (with_reducible first | exact HB.out | apply below_alloc | apply pw_below_drewN | apply below_drew1) | exact HB.out))) : w.heap.size ≤ gb101)); clear HB; have HB := n0_; have BK101 := n1_; have GW101 := n2_; have GE101 := n3_; clear n0_ n1_ n2_ n3_; clear hb hbox hg; have hcz6_0 : w5.cell? ⟨gb101, 0, none⟩ = some (.int .i8 a0_0) := (blk_cell BK101.out 0).trans rfl; have hcz6_1 : w5.cell? ⟨gb101, 1, none⟩ = some (.int .i8 a0_1) := (blk_cell BK101.out 1).trans rfl; have hcz6_2 : w5.cell? ⟨gb101, 2, none⟩ = some (.slice A0_2 l0_2.length c0_2) := (blk_cell BK101.out 2).trans rfl; have hfz6_0 := blk_frozen BK101.out 0; have hfz6_1 := blk_frozen BK101.out 1; have hfz6_2 := blk_frozen BK101.out 2) | ((with_reducible refine gate_callee (f := 24) rfl ?_); refine goesL_ (some 8) rfl rfl Try.func24 (by kernel_rfl) rfl #[.slice A0_2 l0_2.length c0_2, .int .i64 a1] rfl (by (try simp only [List.map_toArray, List.map_cons, List.map_nil]); first | done | rfl | (simp only [List.length_drop, List.length_take]; rfl)) ?_; (with_reducible refine (laws_szPieceS.calls _ _ l0_2 a1 t102 _ ?side1 ?side2 A3.out).mono ?_); (case side1 => repeat (first | exact (Kd.C_below HR0_2.out HB.out) | (with_reducible refine Kd.C_alloc ?_ _) | (with_reducible refine Kd.C_drewN ?_ _) | (with_reducible refine Kd.C_drew ?_))); (case side2 => exact HC0_2.out); rintro e w' ⟨rfl, ⟨nd, rfl⟩⟩; refine ⟨_, rfl, ?_⟩))
    go_ret
    exact ⟨by first | rfl | (simp [errW_none, errW_some] <;> rfl) | (simp [*, errW_none, errW_some] <;> rfl), by repeat (first | (with_reducible first | exact HB.out | apply below_alloc | apply pw_below_drewN | apply below_drew1 | refine below_set ?_ GE101.out) | exact HB.out)⟩
  · rw [if_neg c4] at H
    have c4b0 : decide (t102 < 0) = false := decide_eq_false c4
    clear c4
    obtain rfl := Option.some.inj H
    go_enter Try.func6, Try.ntmps6
    go_wp2_with (first | ((with_reducible refine gate_dst (N := 2) rfl ?_); refine box_event ?hg (N := 2) ?hd (cs := #[.int .i8 a0_0, .int .i8 a0_1, .slice A0_2 l0_2.length c0_2]) (t := 25) ?hr ?_; (case hd => rfl); (case hg => rfl); (case hr => first | (go_simp; done) | (go_simp; rfl)); intro gb101 hg w7 hbox hb; have n0_ := Aside0.mk (below_step (by repeat (first | (with_reducible first | exact HB.out | apply below_alloc | apply pw_below_drewN | apply below_drew1) | exact HB.out)) hb); have n1_ := Aside0.mk (hbox); have n2_ := Aside0.mk ((by rw [hg]; exact (below_size (by repeat (first | (with_reducible first | exact HB.out | apply below_alloc | apply pw_below_drewN | apply below_drew1) | exact HB.out))) : w.heap.size ≤ gb101)); have n3_ := Aside0.mk ((by rw [hg]; exact (below_size (by repeat (first | (with_reducible first | exact HB.out | apply below_alloc | apply pw_below_drewN | apply below_drew1) | exact HB.out))) : w.heap.size ≤ gb101)); clear HB; have HB := n0_; have BK101 := n1_; have GW101 := n2_; have GE101 := n3_; clear n0_ n1_ n2_ n3_; clear hb hbox hg; have hcz8_0 : w7.cell? ⟨gb101, 0, none⟩ = some (.int .i8 a0_0) := (blk_cell BK101.out 0).trans rfl; have hcz8_1 : w7.cell? ⟨gb101, 1, none⟩ = some (.int .i8 a0_1) := (blk_cell BK101.out 1).trans rfl; have hcz8_2 : w7.cell? ⟨gb101, 2, none⟩ = some (.slice A0_2 l0_2.length c0_2) := (blk_cell BK101.out 2).trans rfl; have hfz8_0 := blk_frozen BK101.out 0; have hfz8_1 := blk_frozen BK101.out 1; have hfz8_2 := blk_frozen BK101.out 2) | ((with_reducible refine gate_callee (f := 24) rfl ?_); refine goesL_ (some 8) rfl rfl Try.func24 (by kernel_rfl) rfl #[.slice A0_2 l0_2.length c0_2, .int .i64 a1] rfl (by (try simp only [List.map_toArray, List.map_cons, List.map_nil]); first | done | rfl | (simp only [List.length_drop, List.length_take]; rfl)) ?_; (with_reducible refine (laws_szPieceS.calls _ _ l0_2 a1 t102 _ ?side1 ?side2 A3.out).mono ?_); (case side1 => repeat (first | exact (Kd.C_below HR0_2.out HB.out) | (with_reducible refine Kd.C_alloc ?_ _) | (with_reducible refine Kd.C_drewN ?_ _) | (with_reducible refine Kd.C_drew ?_))); (case side2 => exact HC0_2.out); rintro e w' ⟨rfl, ⟨nd, rfl⟩⟩; refine ⟨_, rfl, ?_⟩))
    go_ret
    exact ⟨by first | rfl | (simp [errW_none, errW_some] <;> rfl) | (simp [*, errW_none, errW_some] <;> rfl), by repeat (first | (with_reducible first | exact HB.out | apply below_alloc | apply pw_below_drewN | apply below_drew1 | refine below_set ?_ GE101.out) | exact HB.out)⟩

/-! ### laws_toCell: function 9 -/
def laws_toCell.l0 : Nat → Int → Int → Int → Int → Int → Option (Int × Int)
  | 0, _, _, _, _, _ => none
  | k + 1, x4, x104000, x104001, x106000, x106001 => if x4 < 2 then (if x4 = 0 then (laws_toCell.l0 k (wrap64 (x4 + 1)) x104000 x104001 x104000 x106001) else (if x4 = 1 then (laws_toCell.l0 k (wrap64 (x4 + 1)) x104000 x104001 x106000 x104001) else (none))) else (some (x106000, x106001))
def laws_toCell.f (k : Nat) (a0_0 : Int) (a0_1 : Int) : Option (Int × Int) := laws_toCell.l0 k 0 a0_0 a0_1 0 0
theorem laws_toCell.mono_l : ∀ k, (∀ y0 y1 y2 y3 y4, LeO (laws_toCell.l0 k y0 y1 y2 y3 y4) (laws_toCell.l0 (k + 1) y0 y1 y2 y3 y4))
  | 0 => fun _ _ _ _ _ r h => by simp [laws_toCell.l0] at h
  | k + 1 => by
    have ih0 := laws_toCell.mono_l k
    · intro y0 y1 y2 y3 y4
      unfold laws_toCell.l0
      repeat' first
      | (with_reducible exact ih0 _ _ _ _ _)
      | (with_reducible exact LeO.refl _)
      | (with_reducible exact LeO.none _)
      | (with_reducible refine LeO.ite ?_ ?_)
      | (with_reducible refine LeO.bind ?_ (fun _ => ?_))
      | exact ih0 _ _ _ _ _
      | exact LeO.none _
      | refine LeO.ite ?_ ?_
      | refine LeO.bind ?_ (fun _ => ?_)
theorem laws_toCell.mono : ∀ a0 a1 k, LeO (laws_toCell.f k a0 a1) (laws_toCell.f (k + 1) a0 a1) := by
  intro a0 a1 k
  have ih0 := laws_toCell.mono_l k
  unfold laws_toCell.f
  repeat' first
      | (with_reducible exact ih0 _ _ _ _ _)
      | (with_reducible exact LeO.refl _)
      | (with_reducible exact LeO.none _)
      | (with_reducible refine LeO.ite ?_ ?_)
      | (with_reducible refine LeO.bind ?_ (fun _ => ?_))
      | exact ih0 _ _ _ _ _
      | exact LeO.none _
      | refine LeO.ite ?_ ?_
      | refine LeO.bind ?_ (fun _ => ?_)
set_option maxHeartbeats 8000000 in
set_option maxRecDepth 100000 in
theorem laws_toCell.calls (k : Nat) (a0_0 : Int) (a0_1 : Int) (r1 : Int) (r2 : Int) (w : World) (h : laws_toCell.f k a0_0 a0_1 = some (r1, r2)) :
    Calls Try.prog 9 #[.agg #[.int .i8 a0_0, .int .i8 a0_1]] w fun e w' => e = .returned (.agg #[.int .i8 r1, .int .i8 r2]) ∧ Below w.heap.size w w' := by
  have hu26 := Try.underlying26
  have hu34 := Try.underlying34
  have HB := Aside0.mk (Below.refl w.heap.size w)
  have H : (laws_toCell.l0 k 0 a0_0 a0_1 0 0) = some (r1, r2) := h
  clear h
  have H' := Aside0.mk H
  clear H
  go_enter Try.func9, Try.ntmps9
  go_wp2_with (first | ((with_reducible refine gate_dst (N := 1) rfl ?_); refine box_event ?hg (N := 1) ?hd (cs := #[.int .i8 a0_0, .int .i8 a0_1]) (t := 26) ?hr ?_; (case hd => rfl); (case hg => rfl); (case hr => first | (go_simp; done) | (go_simp; rfl)); intro gb103 hg w2 hbox hb; have n0_ := Aside0.mk (below_step (by repeat (first | (with_reducible first | exact HB.out | apply below_alloc | apply pw_below_drewN | apply below_drew1) | exact HB.out)) hb); have n1_ := Aside0.mk (hbox); have n2_ := Aside0.mk ((by rw [hg]; exact (below_size (by repeat (first | (with_reducible first | exact HB.out | apply below_alloc | apply pw_below_drewN | apply below_drew1) | exact HB.out))) : w.heap.size ≤ gb103)); have n3_ := Aside0.mk ((by rw [hg]; exact (below_size (by repeat (first | (with_reducible first | exact HB.out | apply below_alloc | apply pw_below_drewN | apply below_drew1) | exact HB.out))) : w.heap.size ≤ gb103)); clear HB; have HB := n0_; have BK103 := n1_; have GW103 := n2_; have GE103 := n3_; clear n0_ n1_ n2_ n3_; clear hb hbox hg) | ((with_reducible refine gate_dst (N := 2) rfl ?_); refine box_event ?hg (N := 2) ?hd (cs := #[.int .i8 0, .int .i8 0]) (t := 34) ?hr ?_; (case hd => rfl); (case hg => rfl); (case hr => first | (go_simp; done) | (go_simp; rfl)); intro gb104 hg w3 hbox hb; have n0_ := Aside0.mk (blk_below (g := gb103) (o := .cells #[.int .i8 a0_0, .int .i8 a0_1] 26 (0, 0)) (by (with_reducible repeat (first | refine blk_drewN ?_ _ | refine blk_drew ?_ | refine blk_alloc ?_ _)); exact BK103.out) hb); have n1_ := Aside0.mk (below_step (by repeat (first | (with_reducible first | exact HB.out | apply below_alloc | apply pw_below_drewN | apply below_drew1 | refine below_set ?_ GE103.out) | exact HB.out)) hb); have n2_ := Aside0.mk (hbox); have n3_ := Aside0.mk ((by rw [hg]; exact (below_size (by repeat (first | (with_reducible first | exact HB.out | apply below_alloc | apply pw_below_drewN | apply below_drew1 | refine below_set ?_ GE103.out) | exact HB.out))) : w.heap.size ≤ gb104)); have n4_ := Aside0.mk ((by rw [hg]; exact (below_size (by repeat (first | (with_reducible first | exact HB.out | apply below_alloc | apply pw_below_drewN | apply below_drew1 | refine below_set ?_ GE103.out) | exact HB.out))) : w.heap.size ≤ gb104)); have n5_ := Aside0.mk ((by rw [hg]; exact Nat.ne_of_lt (blk_lt (g := gb103) (o := .cells #[.int .i8 a0_0, .int .i8 a0_1] 26 (0, 0)) (by (with_reducible repeat (first | refine blk_drewN ?_ _ | refine blk_drew ?_ | refine blk_alloc ?_ _)); exact BK103.out)) : gb103 ≠ gb104)); have n6_ := Aside0.mk ((by rw [hg]; exact Nat.ne_of_gt (blk_lt (g := gb103) (o := .cells #[.int .i8 a0_0, .int .i8 a0_1] 26 (0, 0)) (by (with_reducible repeat (first | refine blk_drewN ?_ _ | refine blk_drew ?_ | refine blk_alloc ?_ _)); exact BK103.out)) : gb104 ≠ gb103)); clear BK103; clear HB; have BK103 := n0_; have HB := n1_; have BK104 := n2_; have GW104 := n3_; have GE104 := n4_; have NB103_104 := n5_; have NB104_103 := n6_; clear n0_ n1_ n2_ n3_ n4_ n5_ n6_; clear hb hbox hg) | ((with_reducible refine gate_dst (N := 3) rfl ?_); refine box_event ?hg (N := 3) ?hd (cs := #[.int .i8 0, .int .i8 0]) (t := 34) ?hr ?_; (case hd => rfl); (case hg => rfl); (case hr => first | (go_simp; done) | (go_simp; rfl)); intro gb105 hg w4 hbox hb; have n0_ := Aside0.mk (blk_below (g := gb103) (o := .cells #[.int .i8 a0_0, .int .i8 a0_1] 26 (0, 0)) (by (with_reducible repeat (first | refine blk_drewN ?_ _ | refine blk_drew ?_ | refine blk_alloc ?_ _)); exact BK103.out) hb); have n1_ := Aside0.mk (blk_below (g := gb104) (o := .cells #[.int .i8 0, .int .i8 0] 34 (0, 0)) (by (with_reducible repeat (first | refine blk_drewN ?_ _ | refine blk_drew ?_ | refine blk_alloc ?_ _)); exact BK104.out) hb); have n2_ := Aside0.mk (below_step (by repeat (first | (with_reducible first | exact HB.out | apply below_alloc | apply pw_below_drewN | apply below_drew1 | refine below_set ?_ GE103.out | refine below_set ?_ GE104.out) | exact HB.out)) hb); have n3_ := Aside0.mk (hbox); have n4_ := Aside0.mk ((by rw [hg]; exact (below_size (by repeat (first | (with_reducible first | exact HB.out | apply below_alloc | apply pw_below_drewN | apply below_drew1 | refine below_set ?_ GE103.out | refine below_set ?_ GE104.out) | exact HB.out))) : w.heap.size ≤ gb105)); have n5_ := Aside0.mk ((by rw [hg]; exact (below_size (by repeat (first | (with_reducible first | exact HB.out | apply below_alloc | apply pw_below_drewN | apply below_drew1 | refine below_set ?_ GE103.out | refine below_set ?_ GE104.out) | exact HB.out))) : w.heap.size ≤ gb105)); have n6_ := Aside0.mk ((by rw [hg]; exact Nat.ne_of_lt (blk_lt (g := gb103) (o := .cells #[.int .i8 a0_0, .int .i8 a0_1] 26 (0, 0)) (by (with_reducible repeat (first | refine blk_drewN ?_ _ | refine blk_drew ?_ | refine blk_alloc ?_ _)); exact BK103.out)) : gb103 ≠ gb105)); have n7_ := Aside0.mk ((by rw [hg]; exact Nat.ne_of_gt (blk_lt (g := gb103) (o := .cells #[.int .i8 a0_0, .int .i8 a0_1] 26 (0, 0)) (by (with_reducible repeat (first | refine blk_drewN ?_ _ | refine blk_drew ?_ | refine blk_alloc ?_ _)); exact BK103.out)) : gb105 ≠ gb103)); have n8_ := Aside0.mk ((by rw [hg]; exact Nat.ne_of_lt (blk_lt (g := gb104) (o := .cells #[.int .i8 0, .int .i8 0] 34 (0, 0)) (by (with_reducible repeat (first | refine blk_drewN ?_ _ | refine blk_drew ?_ | refine blk_alloc ?_ _)); exact BK104.out)) : gb104 ≠ gb105)); have n9_ := Aside0.mk ((by rw [hg]; exact Nat.ne_of_gt (blk_lt (g := gb104) (o := .cells #[.int .i8 0, .int .i8 0] 34 (0, 0)) (by (with_reducible repeat (first | refine blk_drewN ?_ _ | refine blk_drew ?_ | refine blk_alloc ?_ _)); exact BK104.out)) : gb105 ≠ gb104)); clear BK103; clear BK104; clear HB; have BK103 := n0_; have BK104 := n1_; have HB := n2_; have BK105 := n3_; have GW105 := n4_; have GE105 := n5_; have NB103_105 := n6_; have NB105_103 := n7_; have NB104_105 := n8_; have NB105_104 := n9_; clear n0_ n1_ n2_ n3_ n4_ n5_ n6_ n7_ n8_ n9_; clear hb hbox hg))
  go_loopg [4] k (fun kq v4 w' => ∃ (x4_1 : Int) (x106000_1 : Int) (x106001_1 : Int), v4 = .int .i64 x4_1 ∧ Aside0 (laws_toCell.l0 kq x4_1 a0_0 a0_1 x106000_1 x106001_1 = some (r1, r2)) ∧ Aside0 (kq ≤ k) ∧ Aside0 (w'.heap[gb103]? = some (.cells #[.int .i8 a0_0, .int .i8 a0_1] 26 (0, 0))) ∧ Aside0 (w'.heap[gb104]? = some (.cells #[.int .i8 0, .int .i8 0] 34 (0, 0))) ∧ Aside0 (w'.heap[gb105]? = some (.cells #[.int .i8 x106000_1, .int .i8 x106001_1] 34 (0, 0))) ∧ Aside0 (Below w.heap.size w w'))
  case atStart => exact ⟨(0), (0), (0), (by first | rfl | (simp; done) | (simp [*]; done) | (exact congrArg (Value.int .i64) (wrap_eq (by omega)))), H', ⟨Nat.le_refl _⟩, ⟨by (with_reducible repeat (first | refine blk_drewN ?_ _ | refine blk_drew ?_ | refine blk_alloc ?_ _)); exact BK103.out⟩, ⟨by (with_reducible repeat (first | refine blk_drewN ?_ _ | refine blk_drew ?_ | refine blk_alloc ?_ _)); exact BK104.out⟩, ⟨by (with_reducible repeat (first | refine blk_drewN ?_ _ | refine blk_drew ?_ | refine blk_alloc ?_ _)); exact BK105.out⟩, ⟨by repeat (first | (with_reducible first | exact HB.out | apply below_alloc | apply pw_below_drewN | apply below_drew1 | refine below_set ?_ GE103.out | refine below_set ?_ GE104.out | refine below_set ?_ GE105.out) | exact HB.out)⟩⟩
  case round =>
    clear H'
    try clear p2
    obtain ⟨x4_1, x106000_1, x106001_1, rfl, HA, HK1, BK103, BK104, BK105, HB⟩ := hrel
    cases gk with
    | zero => exact absurd HA.out (by simp [laws_toCell.l0])
    | succ k1 =>
      have H := HA.out
      clear HA
      simp only [laws_toCell.l0] at H
      by_cases c5 : x4_1 < 2
      · rw [if_pos c5] at H
        have c5b0 : decide (x4_1 < 2) = true := decide_eq_true c5
        clear c5
        by_cases c6 : x4_1 = 0
        · rw [if_pos c6] at H
          have Ac6 : Aside0 (x4_1 = 0) := ⟨c6⟩
          clear c6
          have ar7e : x4_1 = 0 := by first | exact (show Aside0 (x4_1 = 0) by assumption).out | exact beq_iff_eq.mp (by assumption) | omega
          have ar7n : (x4_1).toNat = 0 := by rw [ar7e]; rfl
          have ar7l : decide (0 ≤ x4_1) = true := decide_eq_true (by omega)
          have ar7L := eq_true (of_decide_eq_true ar7l)
          have ar7h : decide (x4_1 < 2) = true := decide_eq_true (by omega)
          have ar7H := eq_true (of_decide_eq_true ar7h)
          clear ar7e
          have ar8e : x4_1 = 0 := by first | exact (show Aside0 (x4_1 = 0) by assumption).out | exact beq_iff_eq.mp (by assumption) | omega
          have ar8n : (x4_1).toNat = 0 := by rw [ar8e]; rfl
          have ar8l : decide (0 ≤ x4_1) = true := decide_eq_true (by omega)
          have ar8L := eq_true (of_decide_eq_true ar8l)
          have ar8h : decide (x4_1 < 2) = true := decide_eq_true (by omega)
          have ar8H := eq_true (of_decide_eq_true ar8h)
          clear ar8e
          have H' := Aside0.mk H
          clear H
          have hnb9 := NB103_104.out
          have hnc9 := NB104_103.out
          have hnb10 := NB103_105.out
          have hnc10 := NB105_103.out
          have hcz11_0 : wr.cell? ⟨gb103, 0, none⟩ = some (.int .i8 a0_0) := (blk_cell BK103.out 0).trans rfl
          have hcz11_1 : wr.cell? ⟨gb103, 1, none⟩ = some (.int .i8 a0_1) := (blk_cell BK103.out 1).trans rfl
          have hfz11_0 := blk_frozen BK103.out 0
          have hfz11_1 := blk_frozen BK103.out 1
          have hnb12 := NB105_104.out
          have hnc12 := NB104_105.out
          have hcz13_0 : wr.cell? ⟨gb105, 0, none⟩ = some (.int .i8 x106000_1) := (blk_cell BK105.out 0).trans rfl
          have hcz13_1 : wr.cell? ⟨gb105, 1, none⟩ = some (.int .i8 x106001_1) := (blk_cell BK105.out 1).trans rfl
          have hfz13_0 := blk_frozen BK105.out 0
          have hfz13_1 := blk_frozen BK105.out 1
          go_wp2
          go_roundg k1
          case measure => have := HK1.out; omega
          case rel => exact ⟨(wrap64 (x4_1 + 1)), (a0_0), (x106001_1), (by first | rfl | (simp; done) | (simp [*]; done) | (exact congrArg (Value.int .i64) (wrap_eq (by omega)))), H', ⟨by have := HK1.out; omega⟩, ⟨by (with_reducible repeat (first | refine blk_drewN ?_ _ | refine blk_drew ?_ | refine blk_alloc ?_ _)); refine blk_far ?_ NB103_105.out _; (with_reducible repeat (first | refine blk_drewN ?_ _ | refine blk_drew ?_ | refine blk_alloc ?_ _)); exact BK103.out⟩, ⟨by (with_reducible repeat (first | refine blk_drewN ?_ _ | refine blk_drew ?_ | refine blk_alloc ?_ _)); refine blk_far ?_ NB104_105.out _; (with_reducible repeat (first | refine blk_drewN ?_ _ | refine blk_drew ?_ | refine blk_alloc ?_ _)); exact BK104.out⟩, ⟨by (with_reducible repeat (first | refine blk_drewN ?_ _ | refine blk_drew ?_ | refine blk_alloc ?_ _)); refine blk_put (cs := #[.int .i8 x106000_1, .int .i8 x106001_1]) ?_ 0 _ rfl; (with_reducible repeat (first | refine blk_drewN ?_ _ | refine blk_drew ?_ | refine blk_alloc ?_ _)); exact BK105.out⟩, ⟨by repeat (first | (with_reducible first | exact HB.out | apply below_alloc | apply pw_below_drewN | apply below_drew1 | refine below_set ?_ GE103.out | refine below_set ?_ GE104.out | refine below_set ?_ GE105.out) | exact HB.out)⟩⟩
        · rw [if_neg c6] at H
          clear c6
          by_cases c14 : x4_1 = 1
          · rw [if_pos c14] at H
            have Ac14 : Aside0 (x4_1 = 1) := ⟨c14⟩
            clear c14
            have ar15e : x4_1 = 1 := by first | exact (show Aside0 (x4_1 = 1) by assumption).out | exact beq_iff_eq.mp (by assumption) | omega
            have ar15n : (x4_1).toNat = 1 := by rw [ar15e]; rfl
            have ar15l : decide (0 ≤ x4_1) = true := decide_eq_true (by omega)
            have ar15L := eq_true (of_decide_eq_true ar15l)
            have ar15h : decide (x4_1 < 2) = true := decide_eq_true (by omega)
            have ar15H := eq_true (of_decide_eq_true ar15h)
            clear ar15e
            have ar16e : x4_1 = 1 := by first | exact (show Aside0 (x4_1 = 1) by assumption).out | exact beq_iff_eq.mp (by assumption) | omega
            have ar16n : (x4_1).toNat = 1 := by rw [ar16e]; rfl
            have ar16l : decide (0 ≤ x4_1) = true := decide_eq_true (by omega)
            have ar16L := eq_true (of_decide_eq_true ar16l)
            have ar16h : decide (x4_1 < 2) = true := decide_eq_true (by omega)
            have ar16H := eq_true (of_decide_eq_true ar16h)
            clear ar16e
            have H' := Aside0.mk H
            clear H
            have hnb17 := NB103_104.out
            have hnc17 := NB104_103.out
            have hnb18 := NB103_105.out
            have hnc18 := NB105_103.out
            have hcz19_0 : wr.cell? ⟨gb103, 0, none⟩ = some (.int .i8 a0_0) := (blk_cell BK103.out 0).trans rfl
            have hcz19_1 : wr.cell? ⟨gb103, 1, none⟩ = some (.int .i8 a0_1) := (blk_cell BK103.out 1).trans rfl
            have hfz19_0 := blk_frozen BK103.out 0
            have hfz19_1 := blk_frozen BK103.out 1
            have hnb20 := NB105_104.out
            have hnc20 := NB104_105.out
            have hcz21_0 : wr.cell? ⟨gb105, 0, none⟩ = some (.int .i8 x106000_1) := (blk_cell BK105.out 0).trans rfl
            have hcz21_1 : wr.cell? ⟨gb105, 1, none⟩ = some (.int .i8 x106001_1) := (blk_cell BK105.out 1).trans rfl
            have hfz21_0 := blk_frozen BK105.out 0
            have hfz21_1 := blk_frozen BK105.out 1
            go_wp2
            go_roundg k1
            case measure => have := HK1.out; omega
            case rel => exact ⟨(wrap64 (x4_1 + 1)), (x106000_1), (a0_1), (by first | rfl | (simp; done) | (simp [*]; done) | (exact congrArg (Value.int .i64) (wrap_eq (by omega)))), H', ⟨by have := HK1.out; omega⟩, ⟨by (with_reducible repeat (first | refine blk_drewN ?_ _ | refine blk_drew ?_ | refine blk_alloc ?_ _)); refine blk_far ?_ NB103_105.out _; (with_reducible repeat (first | refine blk_drewN ?_ _ | refine blk_drew ?_ | refine blk_alloc ?_ _)); exact BK103.out⟩, ⟨by (with_reducible repeat (first | refine blk_drewN ?_ _ | refine blk_drew ?_ | refine blk_alloc ?_ _)); refine blk_far ?_ NB104_105.out _; (with_reducible repeat (first | refine blk_drewN ?_ _ | refine blk_drew ?_ | refine blk_alloc ?_ _)); exact BK104.out⟩, ⟨by (with_reducible repeat (first | refine blk_drewN ?_ _ | refine blk_drew ?_ | refine blk_alloc ?_ _)); refine blk_put (cs := #[.int .i8 x106000_1, .int .i8 x106001_1]) ?_ 1 _ rfl; (with_reducible repeat (first | refine blk_drewN ?_ _ | refine blk_drew ?_ | refine blk_alloc ?_ _)); exact BK105.out⟩, ⟨by repeat (first | (with_reducible first | exact HB.out | apply below_alloc | apply pw_below_drewN | apply below_drew1 | refine below_set ?_ GE103.out | refine below_set ?_ GE104.out | refine below_set ?_ GE105.out) | exact HB.out)⟩⟩
          · rw [if_neg c14] at H
            exact absurd H (by simp)
      · rw [if_neg c5] at H
        have c5b0 : decide (x4_1 < 2) = false := decide_eq_false c5
        clear c5
        simp only [Option.some.injEq, Prod.mk.injEq] at H
        obtain ⟨rfl, rfl⟩ := H
        have hnb22 := NB105_103.out
        have hnc22 := NB103_105.out
        have hnb23 := NB105_104.out
        have hnc23 := NB104_105.out
        have hcz24_0 : wr.cell? ⟨gb105, 0, none⟩ = some (.int .i8 x106000_1) := (blk_cell BK105.out 0).trans rfl
        have hcz24_1 : wr.cell? ⟨gb105, 1, none⟩ = some (.int .i8 x106001_1) := (blk_cell BK105.out 1).trans rfl
        have hfz24_0 := blk_frozen BK105.out 0
        have hfz24_1 := blk_frozen BK105.out 1
        have hnb25 := NB104_103.out
        have hnc25 := NB103_104.out
        have hcz26_0 : wr.cell? ⟨gb104, 0, none⟩ = some (.int .i8 0) := (blk_cell BK104.out 0).trans rfl
        have hcz26_1 : wr.cell? ⟨gb104, 1, none⟩ = some (.int .i8 0) := (blk_cell BK104.out 1).trans rfl
        have hfz26_0 := blk_frozen BK104.out 0
        have hfz26_1 := blk_frozen BK104.out 1
        go_wp2
        refine bodyPost_ret (results_cell_row rfl _ _ gb104 34 #[.int .i8 x106000_1, .int .i8 x106001_1] (0, 0) _ rfl (by (with_reducible repeat (first | refine blk_drewN ?_ _ | refine blk_drew ?_ | refine blk_alloc ?_ _)); refine blk_put (cs := #[.int .i8 x106000_1, .int .i8 0]) ?_ 1 _ rfl; (with_reducible repeat (first | refine blk_drewN ?_ _ | refine blk_drew ?_ | refine blk_alloc ?_ _)); refine blk_put (cs := #[.int .i8 0, .int .i8 0]) ?_ 0 _ rfl; (with_reducible repeat (first | refine blk_drewN ?_ _ | refine blk_drew ?_ | refine blk_alloc ?_ _)); exact BK104.out) Try.underlying34 rfl (by kernel_rfl)) rfl ?_
        exact ⟨by first | rfl | (simp [errW_none, errW_some] <;> rfl) | (simp [*, errW_none, errW_some] <;> rfl), by repeat (first | (with_reducible first | exact HB.out | apply below_alloc | apply pw_below_drewN | apply below_drew1 | refine below_set ?_ GE103.out | refine below_set ?_ GE104.out | refine below_set ?_ GE105.out) | exact HB.out)⟩

/-! ### laws_toPiece: function 46 -/
def laws_toPiece.f (k : Nat) (a0_0 : Int) (a0_1 : Int) (a0_2 : Int) (a0_3 : Int) (a0_4 : Int) : Option (Int × Int × Int × Int × Int) := (laws_toCell.f k a0_0 a0_1).bind fun bt109 => (some (bt109.1, bt109.2, a0_2, a0_3, a0_4))
theorem laws_toPiece.mono : ∀ a0 a1 a2 a3 a4 k, LeO (laws_toPiece.f k a0 a1 a2 a3 a4) (laws_toPiece.f (k + 1) a0 a1 a2 a3 a4) := by
  intro a0 a1 a2 a3 a4 k
  unfold laws_toPiece.f
  repeat' first
      | (with_reducible exact laws_toCell.mono _ _ _)
      | (with_reducible exact LeO.refl _)
      | (with_reducible exact LeO.none _)
      | (with_reducible refine LeO.ite ?_ ?_)
      | (with_reducible refine LeO.bind ?_ (fun _ => ?_))
      | exact laws_toCell.mono _ _ _
      | exact LeO.none _
      | refine LeO.ite ?_ ?_
      | refine LeO.bind ?_ (fun _ => ?_)
set_option maxHeartbeats 8000000 in
set_option maxRecDepth 100000 in
theorem laws_toPiece.calls (k : Nat) (a0_0 : Int) (a0_1 : Int) (a0_2 : Int) (a0_3 : Int) (a0_4 : Int) (r1 : Int) (r2 : Int) (r3 : Int) (r4 : Int) (r5 : Int) (w : World) (h : laws_toPiece.f k a0_0 a0_1 a0_2 a0_3 a0_4 = some (r1, r2, r3, r4, r5)) :
    Calls Try.prog 46 #[.agg #[.int .i8 a0_0, .int .i8 a0_1, .int .i8 a0_2, .int .i8 a0_3, .int .i8 a0_4]] w fun e w' => e = .returned (.agg #[.int .i8 r1, .int .i8 r2, .int .i8 r3, .int .i8 r4, .int .i8 r5]) ∧ Below w.heap.size w w' := by
  have hu78 := Try.underlying78
  have hu62 := Try.underlying62
  have hu26 := Try.underlying26
  have hu34 := Try.underlying34
  have HB := Aside0.mk (Below.refl w.heap.size w)
  have H : ((laws_toCell.f k a0_0 a0_1).bind fun bt109 => (some (bt109.1, bt109.2, a0_2, a0_3, a0_4))) = some (r1, r2, r3, r4, r5) := h
  clear h
  replace H := Option.bind_eq_some_iff.mp H
  obtain ⟨⟨t109, t110⟩, A20, H⟩ := H
  replace H : (some (t109, t110, a0_2, a0_3, a0_4)) = some (r1, r2, r3, r4, r5) := H
  have A2 := Aside0.mk A20
  clear A20
  simp only [Option.some.injEq, Prod.mk.injEq] at H
  obtain ⟨rfl, rfl, rfl, rfl, rfl⟩ := H
  go_enter Try.func46, Try.ntmps46
  go_wp2_with (first | ((with_reducible refine gate_dst (N := 1) rfl ?_); refine box_event ?hg (N := 1) ?hd (cs := #[.int .i8 a0_0, .int .i8 a0_1, .int .i8 a0_2, .int .i8 a0_3, .int .i8 a0_4]) (t := 78) ?hr ?_; (case hd => rfl); (case hg => rfl); (case hr => first | (go_simp; done) | (go_simp; rfl)); intro gb106 hg w3 hbox hb; have n0_ := Aside0.mk (below_step (by repeat (first | (with_reducible first | exact HB.out | apply below_alloc | apply pw_below_drewN | apply below_drew1) | exact HB.out)) hb); have n1_ := Aside0.mk (hbox); have n2_ := Aside0.mk ((by rw [hg]; exact (below_size (by repeat (first | (with_reducible first | exact HB.out | apply below_alloc | apply pw_below_drewN | apply below_drew1) | exact HB.out))) : w.heap.size ≤ gb106)); have n3_ := Aside0.mk ((by rw [hg]; exact (below_size (by repeat (first | (with_reducible first | exact HB.out | apply below_alloc | apply pw_below_drewN | apply below_drew1) | exact HB.out))) : w.heap.size ≤ gb106)); clear HB; have HB := n0_; have BK106 := n1_; have GW106 := n2_; have GE106 := n3_; clear n0_ n1_ n2_ n3_; clear hb hbox hg) | ((with_reducible refine gate_dst (N := 2) rfl ?_); refine box_event ?hg (N := 2) ?hd (cs := #[.int .i8 0, .int .i8 0, .int .i8 0, .int .i8 0, .int .i8 0]) (t := 62) ?hr ?_; (case hd => rfl); (case hg => rfl); (case hr => first | (go_simp; done) | (go_simp; rfl)); intro gb107 hg w4 hbox hb; have n0_ := Aside0.mk (blk_below (g := gb106) (o := .cells #[.int .i8 a0_0, .int .i8 a0_1, .int .i8 a0_2, .int .i8 a0_3, .int .i8 a0_4] 78 (0, 0)) (by (with_reducible repeat (first | refine blk_drewN ?_ _ | refine blk_drew ?_ | refine blk_alloc ?_ _)); exact BK106.out) hb); have n1_ := Aside0.mk (below_step (by repeat (first | (with_reducible first | exact HB.out | apply below_alloc | apply pw_below_drewN | apply below_drew1 | refine below_set ?_ GE106.out) | exact HB.out)) hb); have n2_ := Aside0.mk (hbox); have n3_ := Aside0.mk ((by rw [hg]; exact (below_size (by repeat (first | (with_reducible first | exact HB.out | apply below_alloc | apply pw_below_drewN | apply below_drew1 | refine below_set ?_ GE106.out) | exact HB.out))) : w.heap.size ≤ gb107)); have n4_ := Aside0.mk ((by rw [hg]; exact (below_size (by repeat (first | (with_reducible first | exact HB.out | apply below_alloc | apply pw_below_drewN | apply below_drew1 | refine below_set ?_ GE106.out) | exact HB.out))) : w.heap.size ≤ gb107)); have n5_ := Aside0.mk ((by rw [hg]; exact Nat.ne_of_lt (blk_lt (g := gb106) (o := .cells #[.int .i8 a0_0, .int .i8 a0_1, .int .i8 a0_2, .int .i8 a0_3, .int .i8 a0_4] 78 (0, 0)) (by (with_reducible repeat (first | refine blk_drewN ?_ _ | refine blk_drew ?_ | refine blk_alloc ?_ _)); exact BK106.out)) : gb106 ≠ gb107)); have n6_ := Aside0.mk ((by rw [hg]; exact Nat.ne_of_gt (blk_lt (g := gb106) (o := .cells #[.int .i8 a0_0, .int .i8 a0_1, .int .i8 a0_2, .int .i8 a0_3, .int .i8 a0_4] 78 (0, 0)) (by (with_reducible repeat (first | refine blk_drewN ?_ _ | refine blk_drew ?_ | refine blk_alloc ?_ _)); exact BK106.out)) : gb107 ≠ gb106)); clear BK106; clear HB; have BK106 := n0_; have HB := n1_; have BK107 := n2_; have GW107 := n3_; have GE107 := n4_; have NB106_107 := n5_; have NB107_106 := n6_; clear n0_ n1_ n2_ n3_ n4_ n5_ n6_; clear hb hbox hg) | ((with_reducible refine gate_dst (N := 3) rfl ?_); refine box_event ?hg (N := 3) ?hd (cs := #[.int .i8 0, .int .i8 0, .int .i8 0, .int .i8 0, .int .i8 0]) (t := 62) ?hr ?_; (case hd => rfl); (case hg => rfl); (case hr => first | (go_simp; done) | (go_simp; rfl)); intro gb108 hg w5 hbox hb; have n0_ := Aside0.mk (blk_below (g := gb106) (o := .cells #[.int .i8 a0_0, .int .i8 a0_1, .int .i8 a0_2, .int .i8 a0_3, .int .i8 a0_4] 78 (0, 0)) (by (with_reducible repeat (first | refine blk_drewN ?_ _ | refine blk_drew ?_ | refine blk_alloc ?_ _)); exact BK106.out) hb); have n1_ := Aside0.mk (blk_below (g := gb107) (o := .cells #[.int .i8 0, .int .i8 0, .int .i8 0, .int .i8 0, .int .i8 0] 62 (0, 0)) (by (with_reducible repeat (first | refine blk_drewN ?_ _ | refine blk_drew ?_ | refine blk_alloc ?_ _)); exact BK107.out) hb); have n2_ := Aside0.mk (below_step (by repeat (first | (with_reducible first | exact HB.out | apply below_alloc | apply pw_below_drewN | apply below_drew1 | refine below_set ?_ GE106.out | refine below_set ?_ GE107.out) | exact HB.out)) hb); have n3_ := Aside0.mk (hbox); have n4_ := Aside0.mk ((by rw [hg]; exact (below_size (by repeat (first | (with_reducible first | exact HB.out | apply below_alloc | apply pw_below_drewN | apply below_drew1 | refine below_set ?_ GE106.out | refine below_set ?_ GE107.out) | exact HB.out))) : w.heap.size ≤ gb108)); have n5_ := Aside0.mk ((by rw [hg]; exact (below_size (by repeat (first | (with_reducible first | exact HB.out | apply below_alloc | apply pw_below_drewN | apply below_drew1 | refine below_set ?_ GE106.out | refine below_set ?_ GE107.out) | exact HB.out))) : w.heap.size ≤ gb108)); have n6_ := Aside0.mk ((by rw [hg]; exact Nat.ne_of_lt (blk_lt (g := gb106) (o := .cells #[.int .i8 a0_0, .int .i8 a0_1, .int .i8 a0_2, .int .i8 a0_3, .int .i8 a0_4] 78 (0, 0)) (by (with_reducible repeat (first | refine blk_drewN ?_ _ | refine blk_drew ?_ | refine blk_alloc ?_ _)); exact BK106.out)) : gb106 ≠ gb108)); have n7_ := Aside0.mk ((by rw [hg]; exact Nat.ne_of_gt (blk_lt (g := gb106) (o := .cells #[.int .i8 a0_0, .int .i8 a0_1, .int .i8 a0_2, .int .i8 a0_3, .int .i8 a0_4] 78 (0, 0)) (by (with_reducible repeat (first | refine blk_drewN ?_ _ | refine blk_drew ?_ | refine blk_alloc ?_ _)); exact BK106.out)) : gb108 ≠ gb106)); have n8_ := Aside0.mk ((by rw [hg]; exact Nat.ne_of_lt (blk_lt (g := gb107) (o := .cells #[.int .i8 0, .int .i8 0, .int .i8 0, .int .i8 0, .int .i8 0] 62 (0, 0)) (by (with_reducible repeat (first | refine blk_drewN ?_ _ | refine blk_drew ?_ | refine blk_alloc ?_ _)); exact BK107.out)) : gb107 ≠ gb108)); have n9_ := Aside0.mk ((by rw [hg]; exact Nat.ne_of_gt (blk_lt (g := gb107) (o := .cells #[.int .i8 0, .int .i8 0, .int .i8 0, .int .i8 0, .int .i8 0] 62 (0, 0)) (by (with_reducible repeat (first | refine blk_drewN ?_ _ | refine blk_drew ?_ | refine blk_alloc ?_ _)); exact BK107.out)) : gb108 ≠ gb107)); clear BK106; clear BK107; clear HB; have BK106 := n0_; have BK107 := n1_; have HB := n2_; have BK108 := n3_; have GW108 := n4_; have GE108 := n5_; have NB106_108 := n6_; have NB108_106 := n7_; have NB107_108 := n8_; have NB108_107 := n9_; clear n0_ n1_ n2_ n3_ n4_ n5_ n6_ n7_ n8_ n9_; clear hb hbox hg; have hnb6 := NB106_107.out; have hnc6 := NB107_106.out; have hnb7 := NB106_108.out; have hnc7 := NB108_106.out; have hcz8_0 : w5.cell? ⟨gb106, 0, none⟩ = some (.int .i8 a0_0) := (blk_cell BK106.out 0).trans rfl; have hcz8_1 : w5.cell? ⟨gb106, 1, none⟩ = some (.int .i8 a0_1) := (blk_cell BK106.out 1).trans rfl; have hcz8_2 : w5.cell? ⟨gb106, 2, none⟩ = some (.int .i8 a0_2) := (blk_cell BK106.out 2).trans rfl; have hcz8_3 : w5.cell? ⟨gb106, 3, none⟩ = some (.int .i8 a0_3) := (blk_cell BK106.out 3).trans rfl; have hcz8_4 : w5.cell? ⟨gb106, 4, none⟩ = some (.int .i8 a0_4) := (blk_cell BK106.out 4).trans rfl; have hfz8_0 := blk_frozen BK106.out 0; have hfz8_1 := blk_frozen BK106.out 1; have hfz8_2 := blk_frozen BK106.out 2; have hfz8_3 := blk_frozen BK106.out 3; have hfz8_4 := blk_frozen BK106.out 4) | ((with_reducible refine gate_callee (f := 9) rfl ?_); refine goesL_ (some 6) rfl rfl Try.func9 (by kernel_rfl) rfl #[.agg #[.int .i8 a0_0, .int .i8 a0_1]] rfl (by (try simp only [List.map_toArray, List.map_cons, List.map_nil]); first | done | rfl | (simp only [List.length_drop, List.length_take]; rfl)) ?_; (with_reducible refine (laws_toCell.calls k a0_0 a0_1 t109 t110 _ A2.out).mono ?_); rintro e w9 ⟨rfl, hb⟩; refine ⟨_, rfl, ?_⟩; have n0_ := Aside0.mk (blk_below (g := gb106) (o := .cells #[.int .i8 a0_0, .int .i8 a0_1, .int .i8 a0_2, .int .i8 a0_3, .int .i8 a0_4] 78 (0, 0)) (by (with_reducible repeat (first | refine blk_drewN ?_ _ | refine blk_drew ?_ | refine blk_alloc ?_ _)); exact BK106.out) hb); have n1_ := Aside0.mk (blk_below (g := gb107) (o := .cells #[.int .i8 0, .int .i8 0, .int .i8 0, .int .i8 0, .int .i8 0] 62 (0, 0)) (by (with_reducible repeat (first | refine blk_drewN ?_ _ | refine blk_drew ?_ | refine blk_alloc ?_ _)); exact BK107.out) hb); have n2_ := Aside0.mk (blk_below (g := gb108) (o := .cells #[.int .i8 0, .int .i8 0, .int .i8 0, .int .i8 0, .int .i8 0] 62 (0, 0)) (by (with_reducible repeat (first | refine blk_drewN ?_ _ | refine blk_drew ?_ | refine blk_alloc ?_ _)); exact BK108.out) hb); have n3_ := Aside0.mk (below_step (by repeat (first | (with_reducible first | exact HB.out | apply below_alloc | apply pw_below_drewN | apply below_drew1 | refine below_set ?_ GE106.out | refine below_set ?_ GE107.out | refine below_set ?_ GE108.out) | exact HB.out)) hb); clear BK106; clear BK107; clear BK108; clear HB; have BK106 := n0_; have BK107 := n1_; have BK108 := n2_; have HB := n3_; clear n0_ n1_ n2_ n3_; (try clear hb); (try clear hb2); (try clear hk); (try clear hi); have hnb10 := NB108_107.out; have hnc10 := NB107_108.out; have hcz11_0 : w9.cell? ⟨gb108, 0, none⟩ = some (.int .i8 0) := (blk_cell BK108.out 0).trans rfl; have hcz11_1 : w9.cell? ⟨gb108, 1, none⟩ = some (.int .i8 0) := (blk_cell BK108.out 1).trans rfl; have hcz11_2 : w9.cell? ⟨gb108, 2, none⟩ = some (.int .i8 0) := (blk_cell BK108.out 2).trans rfl; have hcz11_3 : w9.cell? ⟨gb108, 3, none⟩ = some (.int .i8 0) := (blk_cell BK108.out 3).trans rfl; have hcz11_4 : w9.cell? ⟨gb108, 4, none⟩ = some (.int .i8 0) := (blk_cell BK108.out 4).trans rfl; have hfz11_0 := blk_frozen BK108.out 0; have hfz11_1 := blk_frozen BK108.out 1; have hfz11_2 := blk_frozen BK108.out 2; have hfz11_3 := blk_frozen BK108.out 3; have hfz11_4 := blk_frozen BK108.out 4; have hcz12_0 : w9.cell? ⟨gb106, 0, none⟩ = some (.int .i8 a0_0) := (blk_cell BK106.out 0).trans rfl; have hcz12_1 : w9.cell? ⟨gb106, 1, none⟩ = some (.int .i8 a0_1) := (blk_cell BK106.out 1).trans rfl; have hcz12_2 : w9.cell? ⟨gb106, 2, none⟩ = some (.int .i8 a0_2) := (blk_cell BK106.out 2).trans rfl; have hcz12_3 : w9.cell? ⟨gb106, 3, none⟩ = some (.int .i8 a0_3) := (blk_cell BK106.out 3).trans rfl; have hcz12_4 : w9.cell? ⟨gb106, 4, none⟩ = some (.int .i8 a0_4) := (blk_cell BK106.out 4).trans rfl; have hfz12_0 := blk_frozen BK106.out 0; have hfz12_1 := blk_frozen BK106.out 1; have hfz12_2 := blk_frozen BK106.out 2; have hfz12_3 := blk_frozen BK106.out 3; have hfz12_4 := blk_frozen BK106.out 4; have hcz13_0 : w9.cell? ⟨gb107, 0, none⟩ = some (.int .i8 0) := (blk_cell BK107.out 0).trans rfl; have hcz13_1 : w9.cell? ⟨gb107, 1, none⟩ = some (.int .i8 0) := (blk_cell BK107.out 1).trans rfl; have hcz13_2 : w9.cell? ⟨gb107, 2, none⟩ = some (.int .i8 0) := (blk_cell BK107.out 2).trans rfl; have hcz13_3 : w9.cell? ⟨gb107, 3, none⟩ = some (.int .i8 0) := (blk_cell BK107.out 3).trans rfl; have hcz13_4 : w9.cell? ⟨gb107, 4, none⟩ = some (.int .i8 0) := (blk_cell BK107.out 4).trans rfl; have hfz13_0 := blk_frozen BK107.out 0; have hfz13_1 := blk_frozen BK107.out 1; have hfz13_2 := blk_frozen BK107.out 2; have hfz13_3 := blk_frozen BK107.out 3; have hfz13_4 := blk_frozen BK107.out 4))
  refine bodyPost_ret (results_cell_row rfl _ _ gb107 62 #[.int .i8 t109, .int .i8 t110, .int .i8 a0_2, .int .i8 a0_3, .int .i8 a0_4] (0, 0) _ rfl (by (with_reducible repeat (first | refine blk_drewN ?_ _ | refine blk_drew ?_ | refine blk_alloc ?_ _)); refine blk_put (cs := #[.int .i8 t109, .int .i8 t110, .int .i8 a0_2, .int .i8 a0_3, .int .i8 0]) ?_ 4 _ rfl; (with_reducible repeat (first | refine blk_drewN ?_ _ | refine blk_drew ?_ | refine blk_alloc ?_ _)); refine blk_put (cs := #[.int .i8 t109, .int .i8 t110, .int .i8 a0_2, .int .i8 0, .int .i8 0]) ?_ 3 _ rfl; (with_reducible repeat (first | refine blk_drewN ?_ _ | refine blk_drew ?_ | refine blk_alloc ?_ _)); refine blk_put (cs := #[.int .i8 t109, .int .i8 t110, .int .i8 0, .int .i8 0, .int .i8 0]) ?_ 2 _ rfl; (with_reducible repeat (first | refine blk_drewN ?_ _ | refine blk_drew ?_ | refine blk_alloc ?_ _)); refine blk_put (cs := #[.int .i8 t109, .int .i8 0, .int .i8 0, .int .i8 0, .int .i8 0]) ?_ 1 _ rfl; (with_reducible repeat (first | refine blk_drewN ?_ _ | refine blk_drew ?_ | refine blk_alloc ?_ _)); refine blk_put (cs := #[.int .i8 0, .int .i8 0, .int .i8 0, .int .i8 0, .int .i8 0]) ?_ 0 _ rfl; (with_reducible repeat (first | refine blk_drewN ?_ _ | refine blk_drew ?_ | refine blk_alloc ?_ _)); refine blk_far ?_ NB107_108.out _; (with_reducible repeat (first | refine blk_drewN ?_ _ | refine blk_drew ?_ | refine blk_alloc ?_ _)); refine blk_far ?_ NB107_108.out _; (with_reducible repeat (first | refine blk_drewN ?_ _ | refine blk_drew ?_ | refine blk_alloc ?_ _)); refine blk_far ?_ NB107_108.out _; (with_reducible repeat (first | refine blk_drewN ?_ _ | refine blk_drew ?_ | refine blk_alloc ?_ _)); refine blk_far ?_ NB107_108.out _; (with_reducible repeat (first | refine blk_drewN ?_ _ | refine blk_drew ?_ | refine blk_alloc ?_ _)); refine blk_far ?_ NB107_108.out _; (with_reducible repeat (first | refine blk_drewN ?_ _ | refine blk_drew ?_ | refine blk_alloc ?_ _)); exact BK107.out) Try.underlying62 rfl (by kernel_rfl)) rfl ?_
  exact ⟨by first | rfl | (simp [errW_none, errW_some] <;> rfl) | (simp [*, errW_none, errW_some] <;> rfl), by repeat (first | (with_reducible first | exact HB.out | apply below_alloc | apply pw_below_drewN | apply below_drew1 | refine below_set ?_ GE106.out | refine below_set ?_ GE107.out | refine below_set ?_ GE108.out) | exact HB.out)⟩

/-! ### laws_toPieceS: function 28 -/
def laws_toPieceS.l0 : Nat → List (S78) → List (S62) → Int → Option ((List (S62)))
  | 0, _, _, _ => none
  | k + 1, x0, x3, x4 => if x4 < (x0.length : Int) then (if 0 ≤ x4 then ((laws_toPiece.f k ((rd_T78 x0 x4).f0.f0) ((rd_T78 x0 x4).f0.f1) ((rd_T78 x0 x4).f1) ((rd_T78 x0 x4).f2) ((rd_T78 x0 x4).f3)).bind fun bt115 => (if x4 < (x3.length : Int) then (laws_toPieceS.l0 k x0 (x3.set (x4 : Int).toNat (⟨(⟨bt115.1, bt115.2.1⟩ : S34), bt115.2.2.1, bt115.2.2.2.1, bt115.2.2.2.2⟩ : S62)) (wrap64 (x4 + 1))) else (none))) else (none)) else (some x3)
def laws_toPieceS.f (k : Nat) (l0 : List (S78)) : Option ((List (S62))) := if 0 ≤ (l0.length : Int) then (if ((l0.length : Int) : Int).toNat ≤ 56294995342131 then (laws_toPieceS.l0 k l0 (List.replicate ((l0.length : Int) : Int).toNat z62) 0) else (none)) else (none)
theorem laws_toPieceS.mono_l : ∀ k, (∀ y0 y1 y2, LeO (laws_toPieceS.l0 k y0 y1 y2) (laws_toPieceS.l0 (k + 1) y0 y1 y2))
  | 0 => fun _ _ _ r h => by simp [laws_toPieceS.l0] at h
  | k + 1 => by
    have ih0 := laws_toPieceS.mono_l k
    · intro y0 y1 y2
      unfold laws_toPieceS.l0
      repeat' first
      | (with_reducible exact ih0 _ _ _)
      | (with_reducible exact laws_toPiece.mono _ _ _ _ _ _)
      | (with_reducible exact LeO.refl _)
      | (with_reducible exact LeO.none _)
      | (with_reducible refine LeO.ite ?_ ?_)
      | (with_reducible refine LeO.bind ?_ (fun _ => ?_))
      | exact ih0 _ _ _
      | exact laws_toPiece.mono _ _ _ _ _ _
      | exact LeO.none _
      | refine LeO.ite ?_ ?_
      | refine LeO.bind ?_ (fun _ => ?_)
theorem laws_toPieceS.mono : ∀ a0 k, LeO (laws_toPieceS.f k a0) (laws_toPieceS.f (k + 1) a0) := by
  intro a0 k
  have ih0 := laws_toPieceS.mono_l k
  unfold laws_toPieceS.f
  repeat' first
      | (with_reducible exact ih0 _ _ _)
      | (with_reducible exact laws_toPiece.mono _ _ _ _ _ _)
      | (with_reducible exact LeO.refl _)
      | (with_reducible exact LeO.none _)
      | (with_reducible refine LeO.ite ?_ ?_)
      | (with_reducible refine LeO.bind ?_ (fun _ => ?_))
      | exact ih0 _ _ _
      | exact laws_toPiece.mono _ _ _ _ _ _
      | exact LeO.none _
      | refine LeO.ite ?_ ?_
      | refine LeO.bind ?_ (fun _ => ?_)
set_option maxHeartbeats 8000000 in
set_option maxRecDepth 100000 in
theorem laws_toPieceS.calls (k : Nat) (A0 : Option Addr) (c0 : Nat) (l0 : List (S78)) (r : List (S62)) (w : World) (hr0 : Kd.C k78 w A0 l0.length l0) (hc0 : l0.length ≤ c0) (h : laws_toPieceS.f k l0 = some r) :
    Calls Try.prog 28 #[.slice A0 l0.length c0] w fun e w' => ∃ v0_ : Value, e = .returned (v0_) ∧ Kd.R k62 62 w' w.heap.size (fun _ => True) v0_ r ∧ Below w.heap.size w w' := by
  have hu78 := Try.underlying78
  have hu62 := Try.underlying62
  have HR0 := Aside0.mk hr0
  have HC0 := Aside0.mk hc0
  clear hr0 hc0
  have HB := Aside0.mk (Below.refl w.heap.size w)
  have H : (if 0 ≤ (l0.length : Int) then (if ((l0.length : Int) : Int).toNat ≤ 56294995342131 then (laws_toPieceS.l0 k l0 (List.replicate ((l0.length : Int) : Int).toNat z62) 0) else (none)) else (none)) = some r := h
  clear h
  by_cases c2 : 0 ≤ (l0.length : Int)
  · rw [if_pos c2] at H
    have c2b0 := eq_true c2
    have c2b1 : decide (0 ≤ (l0.length : Int)) = true := decide_eq_true c2
    clear c2
    by_cases c3 : ((l0.length : Int) : Int).toNat ≤ 56294995342131
    · rw [if_pos c3] at H
      have c3b0 := eq_true c3
      have c3b1 : decide (((l0.length : Int) : Int).toNat ≤ 56294995342131) = true := decide_eq_true c3
      clear c3
      obtain ⟨y111, hy111⟩ : ∃ y_ : List (S62), y_ = (List.replicate ((l0.length : Int) : Int).toNat z62) := ⟨_, rfl⟩
      replace H : (laws_toPieceS.l0 k l0 y111 0) = some r := by first | (rw [hy111]; with_reducible exact H) | (have H2_ := (Option.bind_some _ _).symm.trans H; rw [hy111]; with_reducible exact H2_) | (have H2_ := (Option.bind_some _ _).symm.trans H; with_reducible exact H2_) | with_reducible exact H | (rw [hy111]; exact H) | exact H
      have Ny111 := Aside0.mk hy111
      clear hy111
      have H' := Aside0.mk H
      clear H
      go_enter Try.func28, Try.ntmps28
      go_wp2_with (first | ((with_reducible refine gate_dst (N := 7) rfl ?_); refine Kd.R_make k62 _ 62 rfl (N := 7) rfl 28 _ _ rfl (l0.length : Int) rfl rfl Try.underlying28 (.agg #[(.int .i8 0), (.int .i8 0), (.int .i8 0), (.int .i8 0), (.int .i8 0)]) 5 info62 rfl (by decide) (by omega) z62 (ok := fun _ => True) (okp := fun _ => True) (k62_mkM _ _ _ z62 ) (fun _ hk => hk) trivial (of_decide_eq_true (by first | (with_reducible assumption) | assumption)) (Nat.le_trans (Nat.mul_le_mul_right _ (of_decide_eq_true (by first | (with_reducible assumption) | assumption) : (l0.length : Int).toNat ≤ 56294995342131)) (by omega)) (Below.refl _ _) (Nat.le_refl _) ?_; intro v112 w4 ho5 hb hg_ hnew_; clear hg_ hnew_; (first | rw [← Ny111.out] at ho5 | (simp only [Int.reduceToNat] at ho5; rw [← Ny111.out] at ho5)); have n0_ := Aside0.mk (Kd.R_lower ho5 (below_size (by repeat (first | (with_reducible first | exact HB.out | apply below_alloc | apply pw_below_drewN | apply below_drew1) | exact HB.out)))); have n1_ := Aside0.mk (below_step (by repeat (first | (with_reducible first | exact HB.out | apply below_alloc | apply pw_below_drewN | apply below_drew1) | exact HB.out)) hb); clear HB; have HO113 := n0_; have HB := n1_; clear n0_ n1_; clear hb ho5))
      go_loopg [4] k (fun kq v4 w' => ∃ (x3_1 : List (S62)) (x4_1 : Int), v4 = .int .i64 x4_1 ∧ Aside0 (laws_toPieceS.l0 kq l0 x3_1 x4_1 = some r) ∧ Aside0 (kq ≤ k) ∧ Aside0 (Kd.R k62 62 w' w.heap.size (fun _ => True) v112 x3_1) ∧ Aside0 (Below w.heap.size w w'))
      case atStart => exact ⟨(y111), (0), (by first | rfl | (simp; done) | (simp [*]; done) | (exact congrArg (Value.int .i64) (wrap_eq (by omega)))), H', ⟨Nat.le_refl _⟩, ⟨by (with_reducible repeat (first | apply Kd.R_alloc | apply Kd.R_drewN | apply Kd.R_drew)); exact HO113.out⟩, ⟨by repeat (first | (with_reducible first | exact HB.out | apply below_alloc | apply pw_below_drewN | apply below_drew1) | exact HB.out)⟩⟩
      case round =>
        clear H'
        try clear c2
        try clear c2b0
        try clear c2b1
        try clear p2
        try clear c3
        try clear c3b0
        try clear c3b1
        obtain ⟨x3_1, x4_1, rfl, HA, HK1, HO_3, HB⟩ := hrel
        cases gk with
        | zero => exact absurd HA.out (by simp [laws_toPieceS.l0])
        | succ k1 =>
          have H := HA.out
          clear HA
          simp only [laws_toPieceS.l0] at H
          by_cases c6 : x4_1 < (l0.length : Int)
          · rw [if_pos c6] at H
            have c6b0 : decide (x4_1 < (l0.length : Int)) = true := decide_eq_true c6
            clear c6
            by_cases c7 : 0 ≤ x4_1
            · rw [if_pos c7] at H
              have c7b0 : decide (0 ≤ x4_1) = true := decide_eq_true c7
              clear c7
              replace H := Option.bind_eq_some_iff.mp H
              obtain ⟨⟨t115, t116, t117, t118, t119⟩, A80, H⟩ := H
              replace H : (if x4_1 < (x3_1.length : Int) then (laws_toPieceS.l0 k1 l0 (x3_1.set (x4_1 : Int).toNat (⟨(⟨t115, t116⟩ : S34), t117, t118, t119⟩ : S62)) (wrap64 (x4_1 + 1))) else (none)) = some r := H
              have A8 := Aside0.mk A80
              clear A80
              by_cases c9 : x4_1 < (x3_1.length : Int)
              · rw [if_pos c9] at H
                have c9b0 : decide (x4_1 < (x3_1.length : Int)) = true := decide_eq_true c9
                clear c9
                obtain ⟨y120, hy120⟩ : ∃ y_ : List (S62), y_ = (x3_1.set (x4_1 : Int).toNat (⟨(⟨t115, t116⟩ : S34), t117, t118, t119⟩ : S62)) := ⟨_, rfl⟩
                replace H : (laws_toPieceS.l0 k1 l0 y120 (wrap64 (x4_1 + 1))) = some r := by first | (rw [hy120]; with_reducible exact H) | (have H2_ := (Option.bind_some _ _).symm.trans H; rw [hy120]; with_reducible exact H2_) | (have H2_ := (Option.bind_some _ _).symm.trans H; with_reducible exact H2_) | with_reducible exact H | (rw [hy120]; exact H) | exact H
                have Ny120 := Aside0.mk hy120
                clear hy120
                have H' := Aside0.mk H
                clear H
                have p114 : 0 ≤ (x4_1 : Int) := of_decide_eq_true (by first | (with_reducible assumption) | assumption)
                have q114 : x4_1 < (l0.length : Int) := of_decide_eq_true (by first | (with_reducible assumption) | assumption)
                obtain ⟨ad114, e114, hx114_0, hx114_1, hx114_2, hx114_3, hx114_4⟩ := at_T78 HR0.out x4_1 p114 q114
                cases e114
                replace hx114_0 := (HB.out.cell (World.block_lt_of_cell? w _ hx114_0)).trans hx114_0
                replace hx114_1 := (HB.out.cell (World.block_lt_of_cell? w _ hx114_1)).trans hx114_1
                replace hx114_2 := (HB.out.cell (World.block_lt_of_cell? w _ hx114_2)).trans hx114_2
                replace hx114_3 := (HB.out.cell (World.block_lt_of_cell? w _ hx114_3)).trans hx114_3
                replace hx114_4 := (HB.out.cell (World.block_lt_of_cell? w _ hx114_4)).trans hx114_4
                replace p114 := eq_true p114
                replace q114 := eq_true q114
                go_wp2_with (first | ((with_reducible refine gate_callee (f := 46) rfl ?_); refine goesL_ (some 20) rfl rfl Try.func46 (by kernel_rfl) rfl #[.agg #[.int .i8 ((rd_T78 l0 x4_1).f0.f0), .int .i8 ((rd_T78 l0 x4_1).f0.f1), .int .i8 ((rd_T78 l0 x4_1).f1), .int .i8 ((rd_T78 l0 x4_1).f2), .int .i8 ((rd_T78 l0 x4_1).f3)]] rfl (by (try simp only [List.map_toArray, List.map_cons, List.map_nil]); first | done | rfl | (simp only [List.length_drop, List.length_take]; rfl)) ?_; (with_reducible refine (laws_toPiece.calls k1 ((rd_T78 l0 x4_1).f0.f0) ((rd_T78 l0 x4_1).f0.f1) ((rd_T78 l0 x4_1).f1) ((rd_T78 l0 x4_1).f2) ((rd_T78 l0 x4_1).f3) t115 t116 t117 t118 t119 _ A8.out).mono ?_); rintro e w11 ⟨rfl, hb⟩; refine ⟨_, rfl, ?_⟩; have n0_ := Aside0.mk (Kd.R_below (by (with_reducible repeat (first | apply Kd.R_alloc | apply Kd.R_drewN | apply Kd.R_drew)); exact HO_3.out) hb); have n1_ := Aside0.mk (below_step (by repeat (first | (with_reducible first | exact HB.out | apply below_alloc | apply pw_below_drewN | apply below_drew1) | exact HB.out)) hb); clear HO_3; clear HB; have HO_3 := n0_; have HB := n1_; clear n0_ n1_; (try clear hb); (try clear hb2); (try clear hk); (try clear hi); have p10 : 0 ≤ (x4_1 : Int) := of_decide_eq_true (by first | (with_reducible assumption) | assumption); have q10 : (x4_1 : Int) < ((x3_1.length : Int) : Int) := of_decide_eq_true (by first | (with_reducible assumption) | assumption); obtain ⟨go10, co10, eo10, gb10, gl10, cl10, HG10⟩ := Kd.R_form HO_3.out (by omega); (first | cases eo10 | (injection eo10 with ea_ en_ ec_; (first | subst ea_ | (injection ea_ with ea_; subst ea_)); subst ec_; clear en_)); have GB10 := Aside0.mk gb10; have GG10 := Aside0.mk HG10; clear gb10 gl10 HG10; obtain ⟨ce10, hcl10, hM10, hcc10, hfr10⟩ := Kd.R_elem HO_3.out z62 (x4_1 : Int) p10 q10; obtain rfl := k62_openM hM10; have hx10_0 : w11.cell? ⟨go10, (x4_1 : Int).toNat * 5, none⟩ = some (.int .i8 ((rd_T62 x3_1 x4_1).f0.f0)) := hcc10 0 _ rfl; have hx10_1 : w11.cell? ⟨go10, (x4_1 : Int).toNat * 5 + 1, none⟩ = some (.int .i8 ((rd_T62 x3_1 x4_1).f0.f1)) := hcc10 1 _ rfl; have hx10_2 : w11.cell? ⟨go10, (x4_1 : Int).toNat * 5 + 2, none⟩ = some (.int .i8 ((rd_T62 x3_1 x4_1).f1)) := hcc10 2 _ rfl; have hx10_3 : w11.cell? ⟨go10, (x4_1 : Int).toNat * 5 + 3, none⟩ = some (.int .i8 ((rd_T62 x3_1 x4_1).f2)) := hcc10 3 _ rfl; have hx10_4 : w11.cell? ⟨go10, (x4_1 : Int).toNat * 5 + 4, none⟩ = some (.int .i8 ((rd_T62 x3_1 x4_1).f3)) := hcc10 4 _ rfl; have hf10_0 : w11.frozen? ⟨go10, (x4_1 : Int).toNat * 5, none⟩ = false := hfr10 0; have hf10_1 : w11.frozen? ⟨go10, (x4_1 : Int).toNat * 5 + 1, none⟩ = false := hfr10 1; have hf10_2 : w11.frozen? ⟨go10, (x4_1 : Int).toNat * 5 + 2, none⟩ = false := hfr10 2; have hf10_3 : w11.frozen? ⟨go10, (x4_1 : Int).toNat * 5 + 3, none⟩ = false := hfr10 3; have hf10_4 : w11.frozen? ⟨go10, (x4_1 : Int).toNat * 5 + 4, none⟩ = false := hfr10 4; clear hcl10 hcc10 hfr10 hM10; replace p10 := eq_true p10; replace q10 := eq_true q10; have HX12 := Aside0.mk (show Kd.R k62 62 w11 w.heap.size (fun _ => True) (.slice (some ⟨go10, 0, none⟩) x3_1.length co10) x3_1 from (by (with_reducible repeat (first | apply Kd.R_alloc | apply Kd.R_drewN | apply Kd.R_drew)); exact HO_3.out)); obtain ⟨ce12, hcl12, hM12, hcc12, hfr12⟩ := Kd.R_elem HX12.out z62 (x4_1 : Int) (of_decide_eq_true (by first | (with_reducible assumption) | assumption)) (by have h_ : (x4_1 : Int) < ((x3_1.length : Int) : Int) := of_decide_eq_true (by first | (with_reducible assumption) | assumption); first | exact h_ | (have e_ := (Kd.R_reads' HO_3.out).1; omega) | simpa using h_); obtain rfl := k62_openM hM12; have HP12 := Kd.R_seg HX12.out (x4_1 : Int) (of_decide_eq_true (by first | (with_reducible assumption) | assumption)) (by have h_ : (x4_1 : Int) < ((x3_1.length : Int) : Int) := of_decide_eq_true (by first | (with_reducible assumption) | assumption); first | exact h_ | (have e_ := (Kd.R_reads' HO_3.out).1; omega) | simpa using h_) (seg := [.int .i8 t115, .int .i8 t116, .int .i8 t117, .int .i8 t118, .int .i8 t119]) (j := 0) hcl12 hcc12 (show 5 ≤ 5 from by decide) (x' := (⟨(⟨t115, t116⟩ : S34), t117, t118, t119⟩ : S62)) (k62_mkM _ _ _ (⟨(⟨t115, t116⟩ : S34), t117, t118, t119⟩ : S62) ) (fun _ hk => hk); have hx12_0 := hcc12 0 _ rfl; (try simp only [show (k62).sz = 5 from rfl, Nat.mul_one, Nat.add_zero] at hx12_0); have hf12_0 := hfr12 0; (try simp only [show (k62).sz = 5 from rfl, Nat.mul_one, Nat.add_zero] at hf12_0); have hx12_1 := hcc12 1 _ rfl; (try simp only [show (k62).sz = 5 from rfl, Nat.mul_one, Nat.add_zero] at hx12_1); have hf12_1 := hfr12 1; (try simp only [show (k62).sz = 5 from rfl, Nat.mul_one, Nat.add_zero] at hf12_1); have hx12_2 := hcc12 2 _ rfl; (try simp only [show (k62).sz = 5 from rfl, Nat.mul_one, Nat.add_zero] at hx12_2); have hf12_2 := hfr12 2; (try simp only [show (k62).sz = 5 from rfl, Nat.mul_one, Nat.add_zero] at hf12_2); have hx12_3 := hcc12 3 _ rfl; (try simp only [show (k62).sz = 5 from rfl, Nat.mul_one, Nat.add_zero] at hx12_3); have hf12_3 := hfr12 3; (try simp only [show (k62).sz = 5 from rfl, Nat.mul_one, Nat.add_zero] at hf12_3); have hx12_4 := hcc12 4 _ rfl; (try simp only [show (k62).sz = 5 from rfl, Nat.mul_one, Nat.add_zero] at hx12_4); have hf12_4 := hfr12 4; (try simp only [show (k62).sz = 5 from rfl, Nat.mul_one, Nat.add_zero] at hf12_4); clear hcl12 hcc12 hfr12 hM12) | ((with_reducible refine gate_store (t := 62) (p := 21) rfl ?_); refine store_event (t := 62) (p := 21) (v := ?vo_w13) (w1 := (((((w11.setCell ⟨go10, (x4_1 : Int).toNat * 5, none⟩ (.int .i8 t115)).setCell ⟨go10, (x4_1 : Int).toNat * 5 + 1, none⟩ (.int .i8 t116)).setCell ⟨go10, (x4_1 : Int).toNat * 5 + 2, none⟩ (.int .i8 t117)).setCell ⟨go10, (x4_1 : Int).toNat * 5 + 3, none⟩ (.int .i8 t118)).setCell ⟨go10, (x4_1 : Int).toNat * 5 + 4, none⟩ (.int .i8 t119))) ?hg ?ho ?hn ?hr ?_; (case ho => rfl); (case hg => rfl); (case hn => rfl); (case hr => first | (go_simp; done) | (go_simp; rfl)); intro w13 hw; have hg : w11.grownBy w13 (some go10) := (by rw [hw]; exact HP12.2); have hp_ : Kd.R k62 62 w13 w.heap.size (fun _ => True) (.slice (some ⟨go10, 0, none⟩) x3_1.length co10) y120 := (by rw [hw, Ny120.out]; exact HP12.1); clear HP12; have n0_ := Aside0.mk (hp_); have n1_ := Aside0.mk ((by rw [hw]; exact below_set (below_set (below_set (below_set (below_set (HB.out) GB10.out) GB10.out) GB10.out) GB10.out) GB10.out : Below w.heap.size w w13)); clear HO_3; clear HB; have HO_3 := n0_; have HB := n1_; clear n0_ n1_; clear hg hw hp_))
                go_roundg k1
                case measure => have := HK1.out; omega
                case rel => exact ⟨(y120), (wrap64 (x4_1 + 1)), (by first | rfl | (simp; done) | (simp [*]; done) | (exact congrArg (Value.int .i64) (wrap_eq (by omega)))), H', ⟨by have := HK1.out; omega⟩, ⟨by (with_reducible repeat (first | apply Kd.R_alloc | apply Kd.R_drewN | apply Kd.R_drew)); exact HO_3.out⟩, ⟨by repeat (first | (with_reducible first | exact HB.out | apply below_alloc | apply pw_below_drewN | apply below_drew1) | exact HB.out)⟩⟩
              · rw [if_neg c9] at H
                exact absurd H (by simp)
            · rw [if_neg c7] at H
              exact absurd H (by simp)
          · rw [if_neg c6] at H
            have c6b0 : decide (x4_1 < (l0.length : Int)) = false := decide_eq_false c6
            clear c6
            obtain rfl := Option.some.inj H
            go_wp2
            go_ret
            exact ⟨_, by first | rfl | (simp [errW_none, errW_some] <;> rfl) | (simp [*, errW_none, errW_some] <;> rfl), by (with_reducible repeat (first | apply Kd.R_alloc | apply Kd.R_drewN | apply Kd.R_drew)); exact HO_3.out, by repeat (first | (with_reducible first | exact HB.out | apply below_alloc | apply pw_below_drewN | apply below_drew1) | exact HB.out)⟩
    · rw [if_neg c3] at H
      exact absurd H (by simp)
  · rw [if_neg c2] at H
    exact absurd H (by simp)

/-! ### laws_toBoard: function 8 -/
def laws_toBoard.f (k : Nat) (a0_0 : Int) (a0_1 : Int) (l0_2 : List (S78)) : Option (Int × Int × (List (S62))) := (laws_toPieceS.f k l0_2).bind fun t124 => (some (a0_0, a0_1, t124))
theorem laws_toBoard.mono : ∀ a0 a1 a2 k, LeO (laws_toBoard.f k a0 a1 a2) (laws_toBoard.f (k + 1) a0 a1 a2) := by
  intro a0 a1 a2 k
  unfold laws_toBoard.f
  repeat' first
      | (with_reducible exact laws_toPieceS.mono _ _)
      | (with_reducible exact LeO.refl _)
      | (with_reducible exact LeO.none _)
      | (with_reducible refine LeO.ite ?_ ?_)
      | (with_reducible refine LeO.bind ?_ (fun _ => ?_))
      | exact laws_toPieceS.mono _ _
      | exact LeO.none _
      | refine LeO.ite ?_ ?_
      | refine LeO.bind ?_ (fun _ => ?_)
set_option maxHeartbeats 8000000 in
set_option maxRecDepth 100000 in
theorem laws_toBoard.calls (k : Nat) (a0_0 : Int) (a0_1 : Int) (A0_2 : Option Addr) (c0_2 : Nat) (l0_2 : List (S78)) (r1 : Int) (r2 : Int) (r3 : List (S62)) (w : World) (hr0_2 : Kd.C k78 w A0_2 l0_2.length l0_2) (hc0_2 : l0_2.length ≤ c0_2) (h : laws_toBoard.f k a0_0 a0_1 l0_2 = some (r1, r2, r3)) :
    Calls Try.prog 8 #[.agg #[.int .i8 a0_0, .int .i8 a0_1, .slice A0_2 l0_2.length c0_2]] w fun e w' => ∃ v2_ : Value, e = .returned (.agg #[.int .i8 r1, .int .i8 r2, v2_]) ∧ Kd.R k62 62 w' w.heap.size (fun _ => True) v2_ r3 ∧ Below w.heap.size w w' := by
  have hu25 := Try.underlying25
  have hu30 := Try.underlying30
  have HR0_2 := Aside0.mk hr0_2
  have HC0_2 := Aside0.mk hc0_2
  clear hr0_2 hc0_2
  have HB := Aside0.mk (Below.refl w.heap.size w)
  have H : ((laws_toPieceS.f k l0_2).bind fun t124 => (some (a0_0, a0_1, t124))) = some (r1, r2, r3) := h
  clear h
  replace H := Option.bind_eq_some_iff.mp H
  obtain ⟨t124, A20, H⟩ := H
  replace H : (some (a0_0, a0_1, t124)) = some (r1, r2, r3) := H
  have A2 := Aside0.mk A20
  clear A20
  simp only [Option.some.injEq, Prod.mk.injEq] at H
  obtain ⟨rfl, rfl, rfl⟩ := H
  go_enter Try.func8, Try.ntmps8
  go_wp2_with (first | ((with_reducible refine gate_dst (N := 1) rfl ?_); refine box_event ?hg (N := 1) ?hd (cs := #[.int .i8 a0_0, .int .i8 a0_1, .slice A0_2 l0_2.length c0_2]) (t := 25) ?hr ?_; (case hd => rfl); (case hg => rfl); (case hr => first | (go_simp; done) | (go_simp; rfl)); intro gb121 hg w3 hbox hb; have n0_ := Aside0.mk (below_step (by repeat (first | (with_reducible first | exact HB.out | apply below_alloc | apply pw_below_drewN | apply below_drew1) | exact HB.out)) hb); have n1_ := Aside0.mk (hbox); have n2_ := Aside0.mk ((by rw [hg]; exact (below_size (by repeat (first | (with_reducible first | exact HB.out | apply below_alloc | apply pw_below_drewN | apply below_drew1) | exact HB.out))) : w.heap.size ≤ gb121)); have n3_ := Aside0.mk ((by rw [hg]; exact (below_size (by repeat (first | (with_reducible first | exact HB.out | apply below_alloc | apply pw_below_drewN | apply below_drew1) | exact HB.out))) : w.heap.size ≤ gb121)); clear HB; have HB := n0_; have BK121 := n1_; have GW121 := n2_; have GE121 := n3_; clear n0_ n1_ n2_ n3_; clear hb hbox hg) | ((with_reducible refine gate_dst (N := 2) rfl ?_); refine box_event ?hg (N := 2) ?hd (cs := #[.int .i8 0, .int .i8 0, .slice none 0 0]) (t := 30) ?hr ?_; (case hd => rfl); (case hg => rfl); (case hr => first | (go_simp; done) | (go_simp; rfl)); intro gb122 hg w4 hbox hb; have n0_ := Aside0.mk (blk_below (g := gb121) (o := .cells #[.int .i8 a0_0, .int .i8 a0_1, .slice A0_2 l0_2.length c0_2] 25 (0, 0)) (by (with_reducible repeat (first | refine blk_drewN ?_ _ | refine blk_drew ?_ | refine blk_alloc ?_ _)); exact BK121.out) hb); have n1_ := Aside0.mk (below_step (by repeat (first | (with_reducible first | exact HB.out | apply below_alloc | apply pw_below_drewN | apply below_drew1 | refine below_set ?_ GE121.out) | exact HB.out)) hb); have n2_ := Aside0.mk (hbox); have n3_ := Aside0.mk ((by rw [hg]; exact (below_size (by repeat (first | (with_reducible first | exact HB.out | apply below_alloc | apply pw_below_drewN | apply below_drew1 | refine below_set ?_ GE121.out) | exact HB.out))) : w.heap.size ≤ gb122)); have n4_ := Aside0.mk ((by rw [hg]; exact (below_size (by repeat (first | (with_reducible first | exact HB.out | apply below_alloc | apply pw_below_drewN | apply below_drew1 | refine below_set ?_ GE121.out) | exact HB.out))) : w.heap.size ≤ gb122)); have n5_ := Aside0.mk ((by rw [hg]; exact Nat.ne_of_lt (blk_lt (g := gb121) (o := .cells #[.int .i8 a0_0, .int .i8 a0_1, .slice A0_2 l0_2.length c0_2] 25 (0, 0)) (by (with_reducible repeat (first | refine blk_drewN ?_ _ | refine blk_drew ?_ | refine blk_alloc ?_ _)); exact BK121.out)) : gb121 ≠ gb122)); have n6_ := Aside0.mk ((by rw [hg]; exact Nat.ne_of_gt (blk_lt (g := gb121) (o := .cells #[.int .i8 a0_0, .int .i8 a0_1, .slice A0_2 l0_2.length c0_2] 25 (0, 0)) (by (with_reducible repeat (first | refine blk_drewN ?_ _ | refine blk_drew ?_ | refine blk_alloc ?_ _)); exact BK121.out)) : gb122 ≠ gb121)); clear BK121; clear HB; have BK121 := n0_; have HB := n1_; have BK122 := n2_; have GW122 := n3_; have GE122 := n4_; have NB121_122 := n5_; have NB122_121 := n6_; clear n0_ n1_ n2_ n3_ n4_ n5_ n6_; clear hb hbox hg) | ((with_reducible refine gate_dst (N := 3) rfl ?_); refine box_event ?hg (N := 3) ?hd (cs := #[.int .i8 0, .int .i8 0, .slice none 0 0]) (t := 30) ?hr ?_; (case hd => rfl); (case hg => rfl); (case hr => first | (go_simp; done) | (go_simp; rfl)); intro gb123 hg w5 hbox hb; have n0_ := Aside0.mk (blk_below (g := gb121) (o := .cells #[.int .i8 a0_0, .int .i8 a0_1, .slice A0_2 l0_2.length c0_2] 25 (0, 0)) (by (with_reducible repeat (first | refine blk_drewN ?_ _ | refine blk_drew ?_ | refine blk_alloc ?_ _)); exact BK121.out) hb); have n1_ := Aside0.mk (blk_below (g := gb122) (o := .cells #[.int .i8 0, .int .i8 0, .slice none 0 0] 30 (0, 0)) (by (with_reducible repeat (first | refine blk_drewN ?_ _ | refine blk_drew ?_ | refine blk_alloc ?_ _)); exact BK122.out) hb); have n2_ := Aside0.mk (below_step (by repeat (first | (with_reducible first | exact HB.out | apply below_alloc | apply pw_below_drewN | apply below_drew1 | refine below_set ?_ GE121.out | refine below_set ?_ GE122.out) | exact HB.out)) hb); have n3_ := Aside0.mk (hbox); have n4_ := Aside0.mk ((by rw [hg]; exact (below_size (by repeat (first | (with_reducible first | exact HB.out | apply below_alloc | apply pw_below_drewN | apply below_drew1 | refine below_set ?_ GE121.out | refine below_set ?_ GE122.out) | exact HB.out))) : w.heap.size ≤ gb123)); have n5_ := Aside0.mk ((by rw [hg]; exact (below_size (by repeat (first | (with_reducible first | exact HB.out | apply below_alloc | apply pw_below_drewN | apply below_drew1 | refine below_set ?_ GE121.out | refine below_set ?_ GE122.out) | exact HB.out))) : w.heap.size ≤ gb123)); have n6_ := Aside0.mk ((by rw [hg]; exact Nat.ne_of_lt (blk_lt (g := gb121) (o := .cells #[.int .i8 a0_0, .int .i8 a0_1, .slice A0_2 l0_2.length c0_2] 25 (0, 0)) (by (with_reducible repeat (first | refine blk_drewN ?_ _ | refine blk_drew ?_ | refine blk_alloc ?_ _)); exact BK121.out)) : gb121 ≠ gb123)); have n7_ := Aside0.mk ((by rw [hg]; exact Nat.ne_of_gt (blk_lt (g := gb121) (o := .cells #[.int .i8 a0_0, .int .i8 a0_1, .slice A0_2 l0_2.length c0_2] 25 (0, 0)) (by (with_reducible repeat (first | refine blk_drewN ?_ _ | refine blk_drew ?_ | refine blk_alloc ?_ _)); exact BK121.out)) : gb123 ≠ gb121)); have n8_ := Aside0.mk ((by rw [hg]; exact Nat.ne_of_lt (blk_lt (g := gb122) (o := .cells #[.int .i8 0, .int .i8 0, .slice none 0 0] 30 (0, 0)) (by (with_reducible repeat (first | refine blk_drewN ?_ _ | refine blk_drew ?_ | refine blk_alloc ?_ _)); exact BK122.out)) : gb122 ≠ gb123)); have n9_ := Aside0.mk ((by rw [hg]; exact Nat.ne_of_gt (blk_lt (g := gb122) (o := .cells #[.int .i8 0, .int .i8 0, .slice none 0 0] 30 (0, 0)) (by (with_reducible repeat (first | refine blk_drewN ?_ _ | refine blk_drew ?_ | refine blk_alloc ?_ _)); exact BK122.out)) : gb123 ≠ gb122)); clear BK121; clear BK122; clear HB; have BK121 := n0_; have BK122 := n1_; have HB := n2_; have BK123 := n3_; have GW123 := n4_; have GE123 := n5_; have NB121_123 := n6_; have NB123_121 := n7_; have NB122_123 := n8_; have NB123_122 := n9_; clear n0_ n1_ n2_ n3_ n4_ n5_ n6_ n7_ n8_ n9_; clear hb hbox hg; have hnb6 := NB121_122.out; have hnc6 := NB122_121.out; have hnb7 := NB121_123.out; have hnc7 := NB123_121.out; have hcz8_0 : w5.cell? ⟨gb121, 0, none⟩ = some (.int .i8 a0_0) := (blk_cell BK121.out 0).trans rfl; have hcz8_1 : w5.cell? ⟨gb121, 1, none⟩ = some (.int .i8 a0_1) := (blk_cell BK121.out 1).trans rfl; have hcz8_2 : w5.cell? ⟨gb121, 2, none⟩ = some (.slice A0_2 l0_2.length c0_2) := (blk_cell BK121.out 2).trans rfl; have hfz8_0 := blk_frozen BK121.out 0; have hfz8_1 := blk_frozen BK121.out 1; have hfz8_2 := blk_frozen BK121.out 2; have hnb9 := NB123_122.out; have hnc9 := NB122_123.out; have hcz10_0 : w5.cell? ⟨gb123, 0, none⟩ = some (.int .i8 0) := (blk_cell BK123.out 0).trans rfl; have hcz10_1 : w5.cell? ⟨gb123, 1, none⟩ = some (.int .i8 0) := (blk_cell BK123.out 1).trans rfl; have hcz10_2 : w5.cell? ⟨gb123, 2, none⟩ = some (.slice none 0 0) := (blk_cell BK123.out 2).trans rfl; have hfz10_0 := blk_frozen BK123.out 0; have hfz10_1 := blk_frozen BK123.out 1; have hfz10_2 := blk_frozen BK123.out 2) | ((with_reducible refine gate_callee (f := 28) rfl ?_); refine goesL_ (some 12) rfl rfl Try.func28 (by kernel_rfl) rfl #[.slice A0_2 l0_2.length c0_2] rfl (by (try simp only [List.map_toArray, List.map_cons, List.map_nil]); first | done | rfl | (simp only [List.length_drop, List.length_take]; rfl)) ?_; (with_reducible refine (laws_toPieceS.calls k _ _ l0_2 t124 _ ?side1 ?side2 A2.out).mono ?_); (case side1 => exact Kd.C_below HR0_2.out (by repeat (first | (with_reducible first | exact HB.out | apply below_alloc | apply pw_below_drewN | apply below_drew1 | refine below_set ?_ GE121.out | refine below_set ?_ GE122.out | refine below_set ?_ GE123.out) | exact HB.out))); (case side2 => exact HC0_2.out); rintro e w11 ⟨v125, rfl, ho0, hb⟩; refine ⟨_, rfl, ?_⟩; have n0_ := Aside0.mk (Kd.R_lower ho0 (below_size (by repeat (first | (with_reducible first | exact HB.out | apply below_alloc | apply pw_below_drewN | apply below_drew1 | refine below_set ?_ GE121.out | refine below_set ?_ GE122.out | refine below_set ?_ GE123.out) | exact HB.out)))); have n1_ := Aside0.mk (blk_below (g := gb121) (o := .cells #[.int .i8 a0_0, .int .i8 a0_1, .slice A0_2 l0_2.length c0_2] 25 (0, 0)) (by (with_reducible repeat (first | refine blk_drewN ?_ _ | refine blk_drew ?_ | refine blk_alloc ?_ _)); refine blk_far ?_ NB121_123.out _; (with_reducible repeat (first | refine blk_drewN ?_ _ | refine blk_drew ?_ | refine blk_alloc ?_ _)); refine blk_far ?_ NB121_123.out _; (with_reducible repeat (first | refine blk_drewN ?_ _ | refine blk_drew ?_ | refine blk_alloc ?_ _)); exact BK121.out) hb); have n2_ := Aside0.mk (blk_below (g := gb122) (o := .cells #[.int .i8 0, .int .i8 0, .slice none 0 0] 30 (0, 0)) (by (with_reducible repeat (first | refine blk_drewN ?_ _ | refine blk_drew ?_ | refine blk_alloc ?_ _)); refine blk_far ?_ NB122_123.out _; (with_reducible repeat (first | refine blk_drewN ?_ _ | refine blk_drew ?_ | refine blk_alloc ?_ _)); refine blk_far ?_ NB122_123.out _; (with_reducible repeat (first | refine blk_drewN ?_ _ | refine blk_drew ?_ | refine blk_alloc ?_ _)); exact BK122.out) hb); have n3_ := Aside0.mk (blk_below (g := gb123) (o := .cells #[.int .i8 a0_0, .int .i8 a0_1, .slice none 0 0] 30 (0, 0)) (by (with_reducible repeat (first | refine blk_drewN ?_ _ | refine blk_drew ?_ | refine blk_alloc ?_ _)); refine blk_put (cs := #[.int .i8 a0_0, .int .i8 0, .slice none 0 0]) ?_ 1 _ rfl; (with_reducible repeat (first | refine blk_drewN ?_ _ | refine blk_drew ?_ | refine blk_alloc ?_ _)); refine blk_put (cs := #[.int .i8 0, .int .i8 0, .slice none 0 0]) ?_ 0 _ rfl; (with_reducible repeat (first | refine blk_drewN ?_ _ | refine blk_drew ?_ | refine blk_alloc ?_ _)); exact BK123.out) hb); have n4_ := Aside0.mk (below_step (by repeat (first | (with_reducible first | exact HB.out | apply below_alloc | apply pw_below_drewN | apply below_drew1 | refine below_set ?_ GE121.out | refine below_set ?_ GE122.out | refine below_set ?_ GE123.out) | exact HB.out)) hb); clear BK121; clear BK122; clear BK123; clear HB; have HO126 := n0_; have BK121 := n1_; have BK122 := n2_; have BK123 := n3_; have HB := n4_; clear n0_ n1_ n2_ n3_ n4_; (try clear hb); (try clear hb2); (try clear hk); (try clear hi); (try clear ho0); obtain ⟨Ao12, co12, eo12⟩ := Kd.R_slice HO126.out; subst eo12; have hcz13_0 : w11.cell? ⟨gb123, 0, none⟩ = some (.int .i8 a0_0) := (blk_cell BK123.out 0).trans rfl; have hcz13_1 : w11.cell? ⟨gb123, 1, none⟩ = some (.int .i8 a0_1) := (blk_cell BK123.out 1).trans rfl; have hcz13_2 : w11.cell? ⟨gb123, 2, none⟩ = some (.slice none 0 0) := (blk_cell BK123.out 2).trans rfl; have hfz13_0 := blk_frozen BK123.out 0; have hfz13_1 := blk_frozen BK123.out 1; have hfz13_2 := blk_frozen BK123.out 2; have hcz14_0 : w11.cell? ⟨gb122, 0, none⟩ = some (.int .i8 0) := (blk_cell BK122.out 0).trans rfl; have hcz14_1 : w11.cell? ⟨gb122, 1, none⟩ = some (.int .i8 0) := (blk_cell BK122.out 1).trans rfl; have hcz14_2 : w11.cell? ⟨gb122, 2, none⟩ = some (.slice none 0 0) := (blk_cell BK122.out 2).trans rfl; have hfz14_0 := blk_frozen BK122.out 0; have hfz14_1 := blk_frozen BK122.out 1; have hfz14_2 := blk_frozen BK122.out 2))
  refine bodyPost_ret (results_cell_row rfl _ _ gb122 30 #[.int .i8 a0_0, .int .i8 a0_1, .slice Ao12 t124.length co12] (0, 0) _ rfl (by (with_reducible repeat (first | refine blk_drewN ?_ _ | refine blk_drew ?_ | refine blk_alloc ?_ _)); refine blk_put (cs := #[.int .i8 a0_0, .int .i8 a0_1, .slice none 0 0]) ?_ 2 _ rfl; (with_reducible repeat (first | refine blk_drewN ?_ _ | refine blk_drew ?_ | refine blk_alloc ?_ _)); refine blk_put (cs := #[.int .i8 a0_0, .int .i8 0, .slice none 0 0]) ?_ 1 _ rfl; (with_reducible repeat (first | refine blk_drewN ?_ _ | refine blk_drew ?_ | refine blk_alloc ?_ _)); refine blk_put (cs := #[.int .i8 0, .int .i8 0, .slice none 0 0]) ?_ 0 _ rfl; (with_reducible repeat (first | refine blk_drewN ?_ _ | refine blk_drew ?_ | refine blk_alloc ?_ _)); refine blk_far ?_ NB122_123.out _; (with_reducible repeat (first | refine blk_drewN ?_ _ | refine blk_drew ?_ | refine blk_alloc ?_ _)); exact BK122.out) Try.underlying30 rfl (by kernel_rfl)) rfl ?_
  exact ⟨_, by first | rfl | (simp [errW_none, errW_some] <;> rfl) | (simp [*, errW_none, errW_some] <;> rfl), by (with_reducible repeat (first | apply Kd.R_alloc | apply Kd.R_drewN | apply Kd.R_drew)); exact Kd.R_mono (Kd.R_far (p := ⟨gb122, 2, none⟩) (Kd.R_far (p := ⟨gb122, 1, none⟩) (Kd.R_far (p := ⟨gb122, 0, none⟩) (Kd.R_far (p := ⟨gb123, 2, none⟩) (Kd.R_types (Kd.R_types HO126.out BK123.out (by decide)) BK122.out (by decide)) (fun _ hk => hk.1.2) (.slice Ao12 t124.length co12)) (fun _ hk => hk.2) (.int .i8 a0_0)) (fun _ hk => hk.2) (.int .i8 a0_1)) (fun _ hk => hk.2) (.slice Ao12 t124.length co12)) (fun _ hk => trivial), by repeat (first | (with_reducible first | exact HB.out | apply below_alloc | apply pw_below_drewN | apply below_drew1 | refine below_set ?_ GE121.out | refine below_set ?_ GE122.out | refine below_set ?_ GE123.out) | exact HB.out)⟩

/-! ### laws_eqCell: function 66 -/
def laws_eqCell.l0 : Nat → Int → Int → Int → Int → Int → Option (Bool)
  | 0, _, _, _, _, _ => none
  | k + 1, x5, x128000, x128001, x129000, x129001 => if x5 < 2 then (if x5 = 0 then (if x128000 = x129000 then (laws_eqCell.l0 k (wrap64 (x5 + 1)) x128000 x128001 x129000 x129001) else (some false)) else (if x5 = 1 then (if x128001 = x129001 then (laws_eqCell.l0 k (wrap64 (x5 + 1)) x128000 x128001 x129000 x129001) else (some false)) else (none))) else (some true)
def laws_eqCell.f (k : Nat) (a0_0 : Int) (a0_1 : Int) (a1_0 : Int) (a1_1 : Int) : Option (Bool) := laws_eqCell.l0 k 0 a0_0 a0_1 a1_0 a1_1
theorem laws_eqCell.mono_l : ∀ k, (∀ y0 y1 y2 y3 y4, LeO (laws_eqCell.l0 k y0 y1 y2 y3 y4) (laws_eqCell.l0 (k + 1) y0 y1 y2 y3 y4))
  | 0 => fun _ _ _ _ _ r h => by simp [laws_eqCell.l0] at h
  | k + 1 => by
    have ih0 := laws_eqCell.mono_l k
    · intro y0 y1 y2 y3 y4
      unfold laws_eqCell.l0
      repeat' first
      | (with_reducible exact ih0 _ _ _ _ _)
      | (with_reducible exact LeO.refl _)
      | (with_reducible exact LeO.none _)
      | (with_reducible refine LeO.ite ?_ ?_)
      | (with_reducible refine LeO.bind ?_ (fun _ => ?_))
      | exact ih0 _ _ _ _ _
      | exact LeO.none _
      | refine LeO.ite ?_ ?_
      | refine LeO.bind ?_ (fun _ => ?_)
theorem laws_eqCell.mono : ∀ a0 a1 a2 a3 k, LeO (laws_eqCell.f k a0 a1 a2 a3) (laws_eqCell.f (k + 1) a0 a1 a2 a3) := by
  intro a0 a1 a2 a3 k
  have ih0 := laws_eqCell.mono_l k
  unfold laws_eqCell.f
  repeat' first
      | (with_reducible exact ih0 _ _ _ _ _)
      | (with_reducible exact LeO.refl _)
      | (with_reducible exact LeO.none _)
      | (with_reducible refine LeO.ite ?_ ?_)
      | (with_reducible refine LeO.bind ?_ (fun _ => ?_))
      | exact ih0 _ _ _ _ _
      | exact LeO.none _
      | refine LeO.ite ?_ ?_
      | refine LeO.bind ?_ (fun _ => ?_)
set_option maxHeartbeats 8000000 in
set_option maxRecDepth 100000 in
theorem laws_eqCell.calls (k : Nat) (a0_0 : Int) (a0_1 : Int) (a1_0 : Int) (a1_1 : Int) (r : Bool) (w : World) (h : laws_eqCell.f k a0_0 a0_1 a1_0 a1_1 = some r) :
    Calls Try.prog 66 #[.agg #[.int .i8 a0_0, .int .i8 a0_1], .agg #[.int .i8 a1_0, .int .i8 a1_1]] w fun e w' => e = .returned (.bool r) ∧ Below w.heap.size w w' := by
  have hu34 := Try.underlying34
  have HB := Aside0.mk (Below.refl w.heap.size w)
  have H : (laws_eqCell.l0 k 0 a0_0 a0_1 a1_0 a1_1) = some r := h
  clear h
  have H' := Aside0.mk H
  clear H
  go_enter Try.func66, Try.ntmps66
  go_wp2_with (first | ((with_reducible refine gate_dst (N := 2) rfl ?_); refine box_event ?hg (N := 2) ?hd (cs := #[.int .i8 a0_0, .int .i8 a0_1]) (t := 34) ?hr ?_; (case hd => rfl); (case hg => rfl); (case hr => first | (go_simp; done) | (go_simp; rfl)); intro gb127 hg w3 hbox hb; have n0_ := Aside0.mk (below_step (by repeat (first | (with_reducible first | exact HB.out | apply below_alloc | apply pw_below_drewN | apply below_drew1) | exact HB.out)) hb); have n1_ := Aside0.mk (hbox); have n2_ := Aside0.mk ((by rw [hg]; exact (below_size (by repeat (first | (with_reducible first | exact HB.out | apply below_alloc | apply pw_below_drewN | apply below_drew1) | exact HB.out))) : w.heap.size ≤ gb127)); have n3_ := Aside0.mk ((by rw [hg]; exact (below_size (by repeat (first | (with_reducible first | exact HB.out | apply below_alloc | apply pw_below_drewN | apply below_drew1) | exact HB.out))) : w.heap.size ≤ gb127)); clear HB; have HB := n0_; have BK127 := n1_; have GW127 := n2_; have GE127 := n3_; clear n0_ n1_ n2_ n3_; clear hb hbox hg) | ((with_reducible refine gate_dst (N := 3) rfl ?_); refine box_event ?hg (N := 3) ?hd (cs := #[.int .i8 a1_0, .int .i8 a1_1]) (t := 34) ?hr ?_; (case hd => rfl); (case hg => rfl); (case hr => first | (go_simp; done) | (go_simp; rfl)); intro gb128 hg w4 hbox hb; have n0_ := Aside0.mk (blk_below (g := gb127) (o := .cells #[.int .i8 a0_0, .int .i8 a0_1] 34 (0, 0)) (by (with_reducible repeat (first | refine blk_drewN ?_ _ | refine blk_drew ?_ | refine blk_alloc ?_ _)); exact BK127.out) hb); have n1_ := Aside0.mk (below_step (by repeat (first | (with_reducible first | exact HB.out | apply below_alloc | apply pw_below_drewN | apply below_drew1 | refine below_set ?_ GE127.out) | exact HB.out)) hb); have n2_ := Aside0.mk (hbox); have n3_ := Aside0.mk ((by rw [hg]; exact (below_size (by repeat (first | (with_reducible first | exact HB.out | apply below_alloc | apply pw_below_drewN | apply below_drew1 | refine below_set ?_ GE127.out) | exact HB.out))) : w.heap.size ≤ gb128)); have n4_ := Aside0.mk ((by rw [hg]; exact (below_size (by repeat (first | (with_reducible first | exact HB.out | apply below_alloc | apply pw_below_drewN | apply below_drew1 | refine below_set ?_ GE127.out) | exact HB.out))) : w.heap.size ≤ gb128)); have n5_ := Aside0.mk ((by rw [hg]; exact Nat.ne_of_lt (blk_lt (g := gb127) (o := .cells #[.int .i8 a0_0, .int .i8 a0_1] 34 (0, 0)) (by (with_reducible repeat (first | refine blk_drewN ?_ _ | refine blk_drew ?_ | refine blk_alloc ?_ _)); exact BK127.out)) : gb127 ≠ gb128)); have n6_ := Aside0.mk ((by rw [hg]; exact Nat.ne_of_gt (blk_lt (g := gb127) (o := .cells #[.int .i8 a0_0, .int .i8 a0_1] 34 (0, 0)) (by (with_reducible repeat (first | refine blk_drewN ?_ _ | refine blk_drew ?_ | refine blk_alloc ?_ _)); exact BK127.out)) : gb128 ≠ gb127)); clear BK127; clear HB; have BK127 := n0_; have HB := n1_; have BK128 := n2_; have GW128 := n3_; have GE128 := n4_; have NB127_128 := n5_; have NB128_127 := n6_; clear n0_ n1_ n2_ n3_ n4_ n5_ n6_; clear hb hbox hg))
  repeat (go_quiet (first | ((with_reducible refine gate_dst (N := 2) rfl ?_); refine box_event ?hg (N := 2) ?hd (cs := #[.int .i8 a0_0, .int .i8 a0_1]) (t := 34) ?hr ?_; (case hd => rfl); (case hg => rfl); (case hr => first | (go_simp; done) | (go_simp; rfl)); intro gb127 hg w3 hbox hb; have n0_ := Aside0.mk (below_step (by repeat (first | (with_reducible first | exact HB.out | apply below_alloc | apply pw_below_drewN | apply below_drew1) | exact HB.out)) hb); have n1_ := Aside0.mk (hbox); have n2_ := Aside0.mk ((by rw [hg]; exact (below_size (by repeat (first | (with_reducible first | exact HB.out | apply below_alloc | apply pw_below_drewN | apply below_drew1) | exact HB.out))) : w.heap.size ≤ gb127)); have n3_ := Aside0.mk ((by rw [hg]; exact (below_size (by repeat (first | (with_reducible first | exact HB.out | apply below_alloc | apply pw_below_drewN | apply below_drew1) | exact HB.out))) : w.heap.size ≤ gb127)); clear HB; have HB := n0_; have BK127 := n1_; have GW127 := n2_; have GE127 := n3_; clear n0_ n1_ n2_ n3_; clear hb hbox hg) | ((with_reducible refine gate_dst (N := 3) rfl ?_); refine box_event ?hg (N := 3) ?hd (cs := #[.int .i8 a1_0, .int .i8 a1_1]) (t := 34) ?hr ?_; (case hd => rfl); (case hg => rfl); (case hr => first | (go_simp; done) | (go_simp; rfl)); intro gb128 hg w4 hbox hb; have n0_ := Aside0.mk (blk_below (g := gb127) (o := .cells #[.int .i8 a0_0, .int .i8 a0_1] 34 (0, 0)) (by (with_reducible repeat (first | refine blk_drewN ?_ _ | refine blk_drew ?_ | refine blk_alloc ?_ _)); exact BK127.out) hb); have n1_ := Aside0.mk (below_step (by repeat (first | (with_reducible first | exact HB.out | apply below_alloc | apply pw_below_drewN | apply below_drew1 | refine below_set ?_ GE127.out) | exact HB.out)) hb); have n2_ := Aside0.mk (hbox); have n3_ := Aside0.mk ((by rw [hg]; exact (below_size (by repeat (first | (with_reducible first | exact HB.out | apply below_alloc | apply pw_below_drewN | apply below_drew1 | refine below_set ?_ GE127.out) | exact HB.out))) : w.heap.size ≤ gb128)); have n4_ := Aside0.mk ((by rw [hg]; exact (below_size (by repeat (first | (with_reducible first | exact HB.out | apply below_alloc | apply pw_below_drewN | apply below_drew1 | refine below_set ?_ GE127.out) | exact HB.out))) : w.heap.size ≤ gb128)); have n5_ := Aside0.mk ((by rw [hg]; exact Nat.ne_of_lt (blk_lt (g := gb127) (o := .cells #[.int .i8 a0_0, .int .i8 a0_1] 34 (0, 0)) (by (with_reducible repeat (first | refine blk_drewN ?_ _ | refine blk_drew ?_ | refine blk_alloc ?_ _)); exact BK127.out)) : gb127 ≠ gb128)); have n6_ := Aside0.mk ((by rw [hg]; exact Nat.ne_of_gt (blk_lt (g := gb127) (o := .cells #[.int .i8 a0_0, .int .i8 a0_1] 34 (0, 0)) (by (with_reducible repeat (first | refine blk_drewN ?_ _ | refine blk_drew ?_ | refine blk_alloc ?_ _)); exact BK127.out)) : gb128 ≠ gb127)); clear BK127; clear HB; have BK127 := n0_; have HB := n1_; have BK128 := n2_; have GW128 := n3_; have GE128 := n4_; have NB127_128 := n5_; have NB128_127 := n6_; clear n0_ n1_ n2_ n3_ n4_ n5_ n6_; clear hb hbox hg)); try go_wp2_with (first | ((with_reducible refine gate_dst (N := 2) rfl ?_); refine box_event ?hg (N := 2) ?hd (cs := #[.int .i8 a0_0, .int .i8 a0_1]) (t := 34) ?hr ?_; (case hd => rfl); (case hg => rfl); (case hr => first | (go_simp; done) | (go_simp; rfl)); intro gb127 hg w3 hbox hb; have n0_ := Aside0.mk (below_step (by repeat (first | (with_reducible first | exact HB.out | apply below_alloc | apply pw_below_drewN | apply below_drew1) | exact HB.out)) hb); have n1_ := Aside0.mk (hbox); have n2_ := Aside0.mk ((by rw [hg]; exact (below_size (by repeat (first | (with_reducible first | exact HB.out | apply below_alloc | apply pw_below_drewN | apply below_drew1) | exact HB.out))) : w.heap.size ≤ gb127)); have n3_ := Aside0.mk ((by rw [hg]; exact (below_size (by repeat (first | (with_reducible first | exact HB.out | apply below_alloc | apply pw_below_drewN | apply below_drew1) | exact HB.out))) : w.heap.size ≤ gb127)); clear HB; have HB := n0_; have BK127 := n1_; have GW127 := n2_; have GE127 := n3_; clear n0_ n1_ n2_ n3_; clear hb hbox hg) | ((with_reducible refine gate_dst (N := 3) rfl ?_); refine box_event ?hg (N := 3) ?hd (cs := #[.int .i8 a1_0, .int .i8 a1_1]) (t := 34) ?hr ?_; (case hd => rfl); (case hg => rfl); (case hr => first | (go_simp; done) | (go_simp; rfl)); intro gb128 hg w4 hbox hb; have n0_ := Aside0.mk (blk_below (g := gb127) (o := .cells #[.int .i8 a0_0, .int .i8 a0_1] 34 (0, 0)) (by (with_reducible repeat (first | refine blk_drewN ?_ _ | refine blk_drew ?_ | refine blk_alloc ?_ _)); exact BK127.out) hb); have n1_ := Aside0.mk (below_step (by repeat (first | (with_reducible first | exact HB.out | apply below_alloc | apply pw_below_drewN | apply below_drew1 | refine below_set ?_ GE127.out) | exact HB.out)) hb); have n2_ := Aside0.mk (hbox); have n3_ := Aside0.mk ((by rw [hg]; exact (below_size (by repeat (first | (with_reducible first | exact HB.out | apply below_alloc | apply pw_below_drewN | apply below_drew1 | refine below_set ?_ GE127.out) | exact HB.out))) : w.heap.size ≤ gb128)); have n4_ := Aside0.mk ((by rw [hg]; exact (below_size (by repeat (first | (with_reducible first | exact HB.out | apply below_alloc | apply pw_below_drewN | apply below_drew1 | refine below_set ?_ GE127.out) | exact HB.out))) : w.heap.size ≤ gb128)); have n5_ := Aside0.mk ((by rw [hg]; exact Nat.ne_of_lt (blk_lt (g := gb127) (o := .cells #[.int .i8 a0_0, .int .i8 a0_1] 34 (0, 0)) (by (with_reducible repeat (first | refine blk_drewN ?_ _ | refine blk_drew ?_ | refine blk_alloc ?_ _)); exact BK127.out)) : gb127 ≠ gb128)); have n6_ := Aside0.mk ((by rw [hg]; exact Nat.ne_of_gt (blk_lt (g := gb127) (o := .cells #[.int .i8 a0_0, .int .i8 a0_1] 34 (0, 0)) (by (with_reducible repeat (first | refine blk_drewN ?_ _ | refine blk_drew ?_ | refine blk_alloc ?_ _)); exact BK127.out)) : gb128 ≠ gb127)); clear BK127; clear HB; have BK127 := n0_; have HB := n1_; have BK128 := n2_; have GW128 := n3_; have GE128 := n4_; have NB127_128 := n5_; have NB128_127 := n6_; clear n0_ n1_ n2_ n3_ n4_ n5_ n6_; clear hb hbox hg)))
  go_loopg [5] k (fun kq v5 w' => ∃ (x5_1 : Int), v5 = .int .i64 x5_1 ∧ Aside0 (laws_eqCell.l0 kq x5_1 a0_0 a0_1 a1_0 a1_1 = some r) ∧ Aside0 (kq ≤ k) ∧ Aside0 (w'.heap[gb127]? = some (.cells #[.int .i8 a0_0, .int .i8 a0_1] 34 (0, 0))) ∧ Aside0 (w'.heap[gb128]? = some (.cells #[.int .i8 a1_0, .int .i8 a1_1] 34 (0, 0))) ∧ Aside0 (Below w.heap.size w w'))
  case atStart => exact ⟨(0), (by first | rfl | (simp; done) | (simp [*]; done) | (exact congrArg (Value.int .i64) (wrap_eq (by omega)))), H', ⟨Nat.le_refl _⟩, ⟨by (with_reducible repeat (first | refine blk_drewN ?_ _ | refine blk_drew ?_ | refine blk_alloc ?_ _)); exact BK127.out⟩, ⟨by (with_reducible repeat (first | refine blk_drewN ?_ _ | refine blk_drew ?_ | refine blk_alloc ?_ _)); exact BK128.out⟩, ⟨by repeat (first | (with_reducible first | exact HB.out | apply below_alloc | apply pw_below_drewN | apply below_drew1 | refine below_set ?_ GE127.out | refine below_set ?_ GE128.out) | exact HB.out)⟩⟩
  case round =>
    clear H'
    try clear p2
    obtain ⟨x5_1, rfl, HA, HK1, BK127, BK128, HB⟩ := hrel
    cases gk with
    | zero => exact absurd HA.out (by simp [laws_eqCell.l0])
    | succ k1 =>
      have H := HA.out
      clear HA
      simp only [laws_eqCell.l0] at H
      by_cases c5 : x5_1 < 2
      · rw [if_pos c5] at H
        have c5b0 : decide (x5_1 < 2) = true := decide_eq_true c5
        clear c5
        by_cases c6 : x5_1 = 0
        · rw [if_pos c6] at H
          have Ac6 : Aside0 (x5_1 = 0) := ⟨c6⟩
          clear c6
          have ar7e : x5_1 = 0 := by first | exact (show Aside0 (x5_1 = 0) by assumption).out | exact beq_iff_eq.mp (by assumption) | omega
          have ar7n : (x5_1).toNat = 0 := by rw [ar7e]; rfl
          have ar7l : decide (0 ≤ x5_1) = true := decide_eq_true (by omega)
          have ar7L := eq_true (of_decide_eq_true ar7l)
          have ar7h : decide (x5_1 < 2) = true := decide_eq_true (by omega)
          have ar7H := eq_true (of_decide_eq_true ar7h)
          clear ar7e
          have ar8e : x5_1 = 0 := by first | exact (show Aside0 (x5_1 = 0) by assumption).out | exact beq_iff_eq.mp (by assumption) | omega
          have ar8n : (x5_1).toNat = 0 := by rw [ar8e]; rfl
          have ar8l : decide (0 ≤ x5_1) = true := decide_eq_true (by omega)
          have ar8L := eq_true (of_decide_eq_true ar8l)
          have ar8h : decide (x5_1 < 2) = true := decide_eq_true (by omega)
          have ar8H := eq_true (of_decide_eq_true ar8h)
          clear ar8e
          by_cases c9 : a0_0 = a1_0
          · rw [if_pos c9] at H
            have c9b0 : (a0_0 == a1_0) = true := beq_iff_eq.mpr c9
            have c9b1 : (a0_0 != a1_0) = false := bne_eq_false_iff_eq.mpr c9
            clear c9
            have H' := Aside0.mk H
            clear H
            have hnb10 := NB127_128.out
            have hnc10 := NB128_127.out
            have hcz11_0 : wr.cell? ⟨gb127, 0, none⟩ = some (.int .i8 a0_0) := (blk_cell BK127.out 0).trans rfl
            have hcz11_1 : wr.cell? ⟨gb127, 1, none⟩ = some (.int .i8 a0_1) := (blk_cell BK127.out 1).trans rfl
            have hfz11_0 := blk_frozen BK127.out 0
            have hfz11_1 := blk_frozen BK127.out 1
            have hcz12_0 : wr.cell? ⟨gb128, 0, none⟩ = some (.int .i8 a1_0) := (blk_cell BK128.out 0).trans rfl
            have hcz12_1 : wr.cell? ⟨gb128, 1, none⟩ = some (.int .i8 a1_1) := (blk_cell BK128.out 1).trans rfl
            have hfz12_0 := blk_frozen BK128.out 0
            have hfz12_1 := blk_frozen BK128.out 1
            go_wp2
            repeat (go_quiet (fail); try go_wp2)
            go_roundg k1
            case measure => have := HK1.out; omega
            case rel => exact ⟨(wrap64 (x5_1 + 1)), (by first | rfl | (simp; done) | (simp [*]; done) | (exact congrArg (Value.int .i64) (wrap_eq (by omega)))), H', ⟨by have := HK1.out; omega⟩, ⟨by (with_reducible repeat (first | refine blk_drewN ?_ _ | refine blk_drew ?_ | refine blk_alloc ?_ _)); exact BK127.out⟩, ⟨by (with_reducible repeat (first | refine blk_drewN ?_ _ | refine blk_drew ?_ | refine blk_alloc ?_ _)); exact BK128.out⟩, ⟨by repeat (first | (with_reducible first | exact HB.out | apply below_alloc | apply pw_below_drewN | apply below_drew1 | refine below_set ?_ GE127.out | refine below_set ?_ GE128.out) | exact HB.out)⟩⟩
          · rw [if_neg c9] at H
            have c9b0 : (a0_0 == a1_0) = false := beq_eq_false_iff_ne.mpr c9
            have c9b1 : (a0_0 != a1_0) = true := bne_iff_ne.mpr c9
            obtain rfl := Option.some.inj H
            have hnb13 := NB127_128.out
            have hnc13 := NB128_127.out
            have hcz14_0 : wr.cell? ⟨gb127, 0, none⟩ = some (.int .i8 a0_0) := (blk_cell BK127.out 0).trans rfl
            have hcz14_1 : wr.cell? ⟨gb127, 1, none⟩ = some (.int .i8 a0_1) := (blk_cell BK127.out 1).trans rfl
            have hfz14_0 := blk_frozen BK127.out 0
            have hfz14_1 := blk_frozen BK127.out 1
            have hcz15_0 : wr.cell? ⟨gb128, 0, none⟩ = some (.int .i8 a1_0) := (blk_cell BK128.out 0).trans rfl
            have hcz15_1 : wr.cell? ⟨gb128, 1, none⟩ = some (.int .i8 a1_1) := (blk_cell BK128.out 1).trans rfl
            have hfz15_0 := blk_frozen BK128.out 0
            have hfz15_1 := blk_frozen BK128.out 1
            go_wp2
            repeat (go_quiet (fail); try go_wp2)
            go_ret
            exact ⟨by first | rfl | (simp [errW_none, errW_some] <;> rfl) | (simp [*, errW_none, errW_some] <;> rfl), by repeat (first | (with_reducible first | exact HB.out | apply below_alloc | apply pw_below_drewN | apply below_drew1 | refine below_set ?_ GE127.out | refine below_set ?_ GE128.out) | exact HB.out)⟩
        · rw [if_neg c6] at H
          clear c6
          by_cases c16 : x5_1 = 1
          · rw [if_pos c16] at H
            have Ac16 : Aside0 (x5_1 = 1) := ⟨c16⟩
            clear c16
            have ar17e : x5_1 = 1 := by first | exact (show Aside0 (x5_1 = 1) by assumption).out | exact beq_iff_eq.mp (by assumption) | omega
            have ar17n : (x5_1).toNat = 1 := by rw [ar17e]; rfl
            have ar17l : decide (0 ≤ x5_1) = true := decide_eq_true (by omega)
            have ar17L := eq_true (of_decide_eq_true ar17l)
            have ar17h : decide (x5_1 < 2) = true := decide_eq_true (by omega)
            have ar17H := eq_true (of_decide_eq_true ar17h)
            clear ar17e
            have ar18e : x5_1 = 1 := by first | exact (show Aside0 (x5_1 = 1) by assumption).out | exact beq_iff_eq.mp (by assumption) | omega
            have ar18n : (x5_1).toNat = 1 := by rw [ar18e]; rfl
            have ar18l : decide (0 ≤ x5_1) = true := decide_eq_true (by omega)
            have ar18L := eq_true (of_decide_eq_true ar18l)
            have ar18h : decide (x5_1 < 2) = true := decide_eq_true (by omega)
            have ar18H := eq_true (of_decide_eq_true ar18h)
            clear ar18e
            by_cases c19 : a0_1 = a1_1
            · rw [if_pos c19] at H
              have c19b0 : (a0_1 == a1_1) = true := beq_iff_eq.mpr c19
              have c19b1 : (a0_1 != a1_1) = false := bne_eq_false_iff_eq.mpr c19
              clear c19
              have H' := Aside0.mk H
              clear H
              have hnb20 := NB127_128.out
              have hnc20 := NB128_127.out
              have hcz21_0 : wr.cell? ⟨gb127, 0, none⟩ = some (.int .i8 a0_0) := (blk_cell BK127.out 0).trans rfl
              have hcz21_1 : wr.cell? ⟨gb127, 1, none⟩ = some (.int .i8 a0_1) := (blk_cell BK127.out 1).trans rfl
              have hfz21_0 := blk_frozen BK127.out 0
              have hfz21_1 := blk_frozen BK127.out 1
              have hcz22_0 : wr.cell? ⟨gb128, 0, none⟩ = some (.int .i8 a1_0) := (blk_cell BK128.out 0).trans rfl
              have hcz22_1 : wr.cell? ⟨gb128, 1, none⟩ = some (.int .i8 a1_1) := (blk_cell BK128.out 1).trans rfl
              have hfz22_0 := blk_frozen BK128.out 0
              have hfz22_1 := blk_frozen BK128.out 1
              go_wp2
              repeat (go_quiet (fail); try go_wp2)
              go_roundg k1
              case measure => have := HK1.out; omega
              case rel => exact ⟨(wrap64 (x5_1 + 1)), (by first | rfl | (simp; done) | (simp [*]; done) | (exact congrArg (Value.int .i64) (wrap_eq (by omega)))), H', ⟨by have := HK1.out; omega⟩, ⟨by (with_reducible repeat (first | refine blk_drewN ?_ _ | refine blk_drew ?_ | refine blk_alloc ?_ _)); exact BK127.out⟩, ⟨by (with_reducible repeat (first | refine blk_drewN ?_ _ | refine blk_drew ?_ | refine blk_alloc ?_ _)); exact BK128.out⟩, ⟨by repeat (first | (with_reducible first | exact HB.out | apply below_alloc | apply pw_below_drewN | apply below_drew1 | refine below_set ?_ GE127.out | refine below_set ?_ GE128.out) | exact HB.out)⟩⟩
            · rw [if_neg c19] at H
              have c19b0 : (a0_1 == a1_1) = false := beq_eq_false_iff_ne.mpr c19
              have c19b1 : (a0_1 != a1_1) = true := bne_iff_ne.mpr c19
              obtain rfl := Option.some.inj H
              have hnb23 := NB127_128.out
              have hnc23 := NB128_127.out
              have hcz24_0 : wr.cell? ⟨gb127, 0, none⟩ = some (.int .i8 a0_0) := (blk_cell BK127.out 0).trans rfl
              have hcz24_1 : wr.cell? ⟨gb127, 1, none⟩ = some (.int .i8 a0_1) := (blk_cell BK127.out 1).trans rfl
              have hfz24_0 := blk_frozen BK127.out 0
              have hfz24_1 := blk_frozen BK127.out 1
              have hcz25_0 : wr.cell? ⟨gb128, 0, none⟩ = some (.int .i8 a1_0) := (blk_cell BK128.out 0).trans rfl
              have hcz25_1 : wr.cell? ⟨gb128, 1, none⟩ = some (.int .i8 a1_1) := (blk_cell BK128.out 1).trans rfl
              have hfz25_0 := blk_frozen BK128.out 0
              have hfz25_1 := blk_frozen BK128.out 1
              go_wp2
              repeat (go_quiet (fail); try go_wp2)
              go_ret
              exact ⟨by first | rfl | (simp [errW_none, errW_some] <;> rfl) | (simp [*, errW_none, errW_some] <;> rfl), by repeat (first | (with_reducible first | exact HB.out | apply below_alloc | apply pw_below_drewN | apply below_drew1 | refine below_set ?_ GE127.out | refine below_set ?_ GE128.out) | exact HB.out)⟩
          · rw [if_neg c16] at H
            exact absurd H (by simp)
      · rw [if_neg c5] at H
        have c5b0 : decide (x5_1 < 2) = false := decide_eq_false c5
        clear c5
        obtain rfl := Option.some.inj H
        go_wp2
        repeat (go_quiet (fail); try go_wp2)
        go_ret
        exact ⟨by first | rfl | (simp [errW_none, errW_some] <;> rfl) | (simp [*, errW_none, errW_some] <;> rfl), by repeat (first | (with_reducible first | exact HB.out | apply below_alloc | apply pw_below_drewN | apply below_drew1 | refine below_set ?_ GE127.out | refine below_set ?_ GE128.out) | exact HB.out)⟩

/-! ### laws_eqPiece: function 55 -/
def laws_eqPiece.f (k : Nat) (a0_0 : Int) (a0_1 : Int) (a0_2 : Int) (a0_3 : Int) (a0_4 : Int) (a1_0 : Int) (a1_1 : Int) (a1_2 : Int) (a1_3 : Int) (a1_4 : Int) : Option (Bool) := (laws_eqCell.f k a0_0 a0_1 a1_0 a1_1).bind fun t131 => (if t131 = true then (if a0_2 = a1_2 then (if a0_3 = a1_3 then (if a0_4 = a1_4 then (some true) else (some false)) else (some false)) else (some false)) else (some false))
theorem laws_eqPiece.mono : ∀ a0 a1 a2 a3 a4 a5 a6 a7 a8 a9 k, LeO (laws_eqPiece.f k a0 a1 a2 a3 a4 a5 a6 a7 a8 a9) (laws_eqPiece.f (k + 1) a0 a1 a2 a3 a4 a5 a6 a7 a8 a9) := by
  intro a0 a1 a2 a3 a4 a5 a6 a7 a8 a9 k
  unfold laws_eqPiece.f
  repeat' first
      | (with_reducible exact laws_eqCell.mono _ _ _ _ _)
      | (with_reducible exact LeO.refl _)
      | (with_reducible exact LeO.none _)
      | (with_reducible refine LeO.ite ?_ ?_)
      | (with_reducible refine LeO.bind ?_ (fun _ => ?_))
      | exact laws_eqCell.mono _ _ _ _ _
      | exact LeO.none _
      | refine LeO.ite ?_ ?_
      | refine LeO.bind ?_ (fun _ => ?_)
set_option maxHeartbeats 8000000 in
set_option maxRecDepth 100000 in
theorem laws_eqPiece.calls (k : Nat) (a0_0 : Int) (a0_1 : Int) (a0_2 : Int) (a0_3 : Int) (a0_4 : Int) (a1_0 : Int) (a1_1 : Int) (a1_2 : Int) (a1_3 : Int) (a1_4 : Int) (r : Bool) (w : World) (h : laws_eqPiece.f k a0_0 a0_1 a0_2 a0_3 a0_4 a1_0 a1_1 a1_2 a1_3 a1_4 = some r) :
    Calls Try.prog 55 #[.agg #[.int .i8 a0_0, .int .i8 a0_1, .int .i8 a0_2, .int .i8 a0_3, .int .i8 a0_4], .agg #[.int .i8 a1_0, .int .i8 a1_1, .int .i8 a1_2, .int .i8 a1_3, .int .i8 a1_4]] w fun e w' => e = .returned (.bool r) ∧ Below w.heap.size w w' := by
  have hu62 := Try.underlying62
  have hu34 := Try.underlying34
  have HB := Aside0.mk (Below.refl w.heap.size w)
  have H : ((laws_eqCell.f k a0_0 a0_1 a1_0 a1_1).bind fun t131 => (if t131 = true then (if a0_2 = a1_2 then (if a0_3 = a1_3 then (if a0_4 = a1_4 then (some true) else (some false)) else (some false)) else (some false)) else (some false))) = some r := h
  clear h
  replace H := Option.bind_eq_some_iff.mp H
  obtain ⟨t131, A30, H⟩ := H
  replace H : (if t131 = true then (if a0_2 = a1_2 then (if a0_3 = a1_3 then (if a0_4 = a1_4 then (some true) else (some false)) else (some false)) else (some false)) else (some false)) = some r := H
  have A3 := Aside0.mk A30
  clear A30
  by_cases c4 : t131 = true
  · subst c4
    have H1 : (if a0_2 = a1_2 then (if a0_3 = a1_3 then (if a0_4 = a1_4 then (some true) else (some false)) else (some false)) else (some false)) = some r := by rw [if_pos rfl] at H; exact H
    clear H
    have H := H1
    clear H1
    by_cases c5 : a0_2 = a1_2
    · rw [if_pos c5] at H
      have c5b0 : (a0_2 == a1_2) = true := beq_iff_eq.mpr c5
      have c5b1 : (a0_2 != a1_2) = false := bne_eq_false_iff_eq.mpr c5
      clear c5
      by_cases c6 : a0_3 = a1_3
      · rw [if_pos c6] at H
        have c6b0 : (a0_3 == a1_3) = true := beq_iff_eq.mpr c6
        have c6b1 : (a0_3 != a1_3) = false := bne_eq_false_iff_eq.mpr c6
        clear c6
        by_cases c7 : a0_4 = a1_4
        · rw [if_pos c7] at H
          have c7b0 : (a0_4 == a1_4) = true := beq_iff_eq.mpr c7
          have c7b1 : (a0_4 != a1_4) = false := bne_eq_false_iff_eq.mpr c7
          clear c7
          obtain rfl := Option.some.inj H
          go_enter Try.func55, Try.ntmps55
          go_wp2_with (first | ((with_reducible refine gate_dst (N := 2) rfl ?_); refine box_event ?hg (N := 2) ?hd (cs := #[.int .i8 a0_0, .int .i8 a0_1, .int .i8 a0_2, .int .i8 a0_3, .int .i8 a0_4]) (t := 62) ?hr ?_; (case hd => rfl); (case hg => rfl); (case hr => first | (go_simp; done) | (go_simp; rfl)); intro gb129 hg w8 hbox hb; have n0_ := Aside0.mk (below_step (by repeat (first | (with_reducible first | exact HB.out | apply below_alloc | apply pw_below_drewN | apply below_drew1) | exact HB.out)) hb); have n1_ := Aside0.mk (hbox); have n2_ := Aside0.mk ((by rw [hg]; exact (below_size (by repeat (first | (with_reducible first | exact HB.out | apply below_alloc | apply pw_below_drewN | apply below_drew1) | exact HB.out))) : w.heap.size ≤ gb129)); have n3_ := Aside0.mk ((by rw [hg]; exact (below_size (by repeat (first | (with_reducible first | exact HB.out | apply below_alloc | apply pw_below_drewN | apply below_drew1) | exact HB.out))) : w.heap.size ≤ gb129)); clear HB; have HB := n0_; have BK129 := n1_; have GW129 := n2_; have GE129 := n3_; clear n0_ n1_ n2_ n3_; clear hb hbox hg) | ((with_reducible refine gate_dst (N := 3) rfl ?_); refine box_event ?hg (N := 3) ?hd (cs := #[.int .i8 a1_0, .int .i8 a1_1, .int .i8 a1_2, .int .i8 a1_3, .int .i8 a1_4]) (t := 62) ?hr ?_; (case hd => rfl); (case hg => rfl); (case hr => first | (go_simp; done) | (go_simp; rfl)); intro gb130 hg w9 hbox hb; have n0_ := Aside0.mk (blk_below (g := gb129) (o := .cells #[.int .i8 a0_0, .int .i8 a0_1, .int .i8 a0_2, .int .i8 a0_3, .int .i8 a0_4] 62 (0, 0)) (by (with_reducible repeat (first | refine blk_drewN ?_ _ | refine blk_drew ?_ | refine blk_alloc ?_ _)); exact BK129.out) hb); have n1_ := Aside0.mk (below_step (by repeat (first | (with_reducible first | exact HB.out | apply below_alloc | apply pw_below_drewN | apply below_drew1 | refine below_set ?_ GE129.out) | exact HB.out)) hb); have n2_ := Aside0.mk (hbox); have n3_ := Aside0.mk ((by rw [hg]; exact (below_size (by repeat (first | (with_reducible first | exact HB.out | apply below_alloc | apply pw_below_drewN | apply below_drew1 | refine below_set ?_ GE129.out) | exact HB.out))) : w.heap.size ≤ gb130)); have n4_ := Aside0.mk ((by rw [hg]; exact (below_size (by repeat (first | (with_reducible first | exact HB.out | apply below_alloc | apply pw_below_drewN | apply below_drew1 | refine below_set ?_ GE129.out) | exact HB.out))) : w.heap.size ≤ gb130)); have n5_ := Aside0.mk ((by rw [hg]; exact Nat.ne_of_lt (blk_lt (g := gb129) (o := .cells #[.int .i8 a0_0, .int .i8 a0_1, .int .i8 a0_2, .int .i8 a0_3, .int .i8 a0_4] 62 (0, 0)) (by (with_reducible repeat (first | refine blk_drewN ?_ _ | refine blk_drew ?_ | refine blk_alloc ?_ _)); exact BK129.out)) : gb129 ≠ gb130)); have n6_ := Aside0.mk ((by rw [hg]; exact Nat.ne_of_gt (blk_lt (g := gb129) (o := .cells #[.int .i8 a0_0, .int .i8 a0_1, .int .i8 a0_2, .int .i8 a0_3, .int .i8 a0_4] 62 (0, 0)) (by (with_reducible repeat (first | refine blk_drewN ?_ _ | refine blk_drew ?_ | refine blk_alloc ?_ _)); exact BK129.out)) : gb130 ≠ gb129)); clear BK129; clear HB; have BK129 := n0_; have HB := n1_; have BK130 := n2_; have GW130 := n3_; have GE130 := n4_; have NB129_130 := n5_; have NB130_129 := n6_; clear n0_ n1_ n2_ n3_ n4_ n5_ n6_; clear hb hbox hg; have hnb10 := NB129_130.out; have hnc10 := NB130_129.out; have hcz11_0 : w9.cell? ⟨gb129, 0, none⟩ = some (.int .i8 a0_0) := (blk_cell BK129.out 0).trans rfl; have hcz11_1 : w9.cell? ⟨gb129, 1, none⟩ = some (.int .i8 a0_1) := (blk_cell BK129.out 1).trans rfl; have hcz11_2 : w9.cell? ⟨gb129, 2, none⟩ = some (.int .i8 a0_2) := (blk_cell BK129.out 2).trans rfl; have hcz11_3 : w9.cell? ⟨gb129, 3, none⟩ = some (.int .i8 a0_3) := (blk_cell BK129.out 3).trans rfl; have hcz11_4 : w9.cell? ⟨gb129, 4, none⟩ = some (.int .i8 a0_4) := (blk_cell BK129.out 4).trans rfl; have hfz11_0 := blk_frozen BK129.out 0; have hfz11_1 := blk_frozen BK129.out 1; have hfz11_2 := blk_frozen BK129.out 2; have hfz11_3 := blk_frozen BK129.out 3; have hfz11_4 := blk_frozen BK129.out 4; have hcz12_0 : w9.cell? ⟨gb130, 0, none⟩ = some (.int .i8 a1_0) := (blk_cell BK130.out 0).trans rfl; have hcz12_1 : w9.cell? ⟨gb130, 1, none⟩ = some (.int .i8 a1_1) := (blk_cell BK130.out 1).trans rfl; have hcz12_2 : w9.cell? ⟨gb130, 2, none⟩ = some (.int .i8 a1_2) := (blk_cell BK130.out 2).trans rfl; have hcz12_3 : w9.cell? ⟨gb130, 3, none⟩ = some (.int .i8 a1_3) := (blk_cell BK130.out 3).trans rfl; have hcz12_4 : w9.cell? ⟨gb130, 4, none⟩ = some (.int .i8 a1_4) := (blk_cell BK130.out 4).trans rfl; have hfz12_0 := blk_frozen BK130.out 0; have hfz12_1 := blk_frozen BK130.out 1; have hfz12_2 := blk_frozen BK130.out 2; have hfz12_3 := blk_frozen BK130.out 3; have hfz12_4 := blk_frozen BK130.out 4) | ((with_reducible refine gate_callee (f := 66) rfl ?_); refine goesL_ (some 9) rfl rfl Try.func66 (by kernel_rfl) rfl #[.agg #[.int .i8 a0_0, .int .i8 a0_1], .agg #[.int .i8 a1_0, .int .i8 a1_1]] rfl (by (try simp only [List.map_toArray, List.map_cons, List.map_nil]); first | done | rfl | (simp only [List.length_drop, List.length_take]; rfl)) ?_; (with_reducible refine (laws_eqCell.calls k a0_0 a0_1 a1_0 a1_1 true _ A3.out).mono ?_); rintro e w13 ⟨rfl, hb⟩; refine ⟨_, rfl, ?_⟩; have n0_ := Aside0.mk (blk_below (g := gb129) (o := .cells #[.int .i8 a0_0, .int .i8 a0_1, .int .i8 a0_2, .int .i8 a0_3, .int .i8 a0_4] 62 (0, 0)) (by (with_reducible repeat (first | refine blk_drewN ?_ _ | refine blk_drew ?_ | refine blk_alloc ?_ _)); exact BK129.out) hb); have n1_ := Aside0.mk (blk_below (g := gb130) (o := .cells #[.int .i8 a1_0, .int .i8 a1_1, .int .i8 a1_2, .int .i8 a1_3, .int .i8 a1_4] 62 (0, 0)) (by (with_reducible repeat (first | refine blk_drewN ?_ _ | refine blk_drew ?_ | refine blk_alloc ?_ _)); exact BK130.out) hb); have n2_ := Aside0.mk (below_step (by repeat (first | (with_reducible first | exact HB.out | apply below_alloc | apply pw_below_drewN | apply below_drew1 | refine below_set ?_ GE129.out | refine below_set ?_ GE130.out) | exact HB.out)) hb); clear BK129; clear BK130; clear HB; have BK129 := n0_; have BK130 := n1_; have HB := n2_; clear n0_ n1_ n2_; (try clear hb); (try clear hb2); (try clear hk); (try clear hi); have hcz14_0 : w13.cell? ⟨gb129, 0, none⟩ = some (.int .i8 a0_0) := (blk_cell BK129.out 0).trans rfl; have hcz14_1 : w13.cell? ⟨gb129, 1, none⟩ = some (.int .i8 a0_1) := (blk_cell BK129.out 1).trans rfl; have hcz14_2 : w13.cell? ⟨gb129, 2, none⟩ = some (.int .i8 a0_2) := (blk_cell BK129.out 2).trans rfl; have hcz14_3 : w13.cell? ⟨gb129, 3, none⟩ = some (.int .i8 a0_3) := (blk_cell BK129.out 3).trans rfl; have hcz14_4 : w13.cell? ⟨gb129, 4, none⟩ = some (.int .i8 a0_4) := (blk_cell BK129.out 4).trans rfl; have hfz14_0 := blk_frozen BK129.out 0; have hfz14_1 := blk_frozen BK129.out 1; have hfz14_2 := blk_frozen BK129.out 2; have hfz14_3 := blk_frozen BK129.out 3; have hfz14_4 := blk_frozen BK129.out 4; have hcz15_0 : w13.cell? ⟨gb130, 0, none⟩ = some (.int .i8 a1_0) := (blk_cell BK130.out 0).trans rfl; have hcz15_1 : w13.cell? ⟨gb130, 1, none⟩ = some (.int .i8 a1_1) := (blk_cell BK130.out 1).trans rfl; have hcz15_2 : w13.cell? ⟨gb130, 2, none⟩ = some (.int .i8 a1_2) := (blk_cell BK130.out 2).trans rfl; have hcz15_3 : w13.cell? ⟨gb130, 3, none⟩ = some (.int .i8 a1_3) := (blk_cell BK130.out 3).trans rfl; have hcz15_4 : w13.cell? ⟨gb130, 4, none⟩ = some (.int .i8 a1_4) := (blk_cell BK130.out 4).trans rfl; have hfz15_0 := blk_frozen BK130.out 0; have hfz15_1 := blk_frozen BK130.out 1; have hfz15_2 := blk_frozen BK130.out 2; have hfz15_3 := blk_frozen BK130.out 3; have hfz15_4 := blk_frozen BK130.out 4))
          go_ret
          exact ⟨by first | rfl | (simp [errW_none, errW_some] <;> rfl) | (simp [*, errW_none, errW_some] <;> rfl), by repeat (first | (with_reducible first | exact HB.out | apply below_alloc | apply pw_below_drewN | apply below_drew1 | refine below_set ?_ GE129.out | refine below_set ?_ GE130.out) | exact HB.out)⟩
        · rw [if_neg c7] at H
          have c7b0 : (a0_4 == a1_4) = false := beq_eq_false_iff_ne.mpr c7
          have c7b1 : (a0_4 != a1_4) = true := bne_iff_ne.mpr c7
          obtain rfl := Option.some.inj H
          go_enter Try.func55, Try.ntmps55
          go_wp2_with (first | ((with_reducible refine gate_dst (N := 2) rfl ?_); refine box_event ?hg (N := 2) ?hd (cs := #[.int .i8 a0_0, .int .i8 a0_1, .int .i8 a0_2, .int .i8 a0_3, .int .i8 a0_4]) (t := 62) ?hr ?_; (case hd => rfl); (case hg => rfl); (case hr => first | (go_simp; done) | (go_simp; rfl)); intro gb129 hg w16 hbox hb; have n0_ := Aside0.mk (below_step (by repeat (first | (with_reducible first | exact HB.out | apply below_alloc | apply pw_below_drewN | apply below_drew1) | exact HB.out)) hb); have n1_ := Aside0.mk (hbox); have n2_ := Aside0.mk ((by rw [hg]; exact (below_size (by repeat (first | (with_reducible first | exact HB.out | apply below_alloc | apply pw_below_drewN | apply below_drew1) | exact HB.out))) : w.heap.size ≤ gb129)); have n3_ := Aside0.mk ((by rw [hg]; exact (below_size (by repeat (first | (with_reducible first | exact HB.out | apply below_alloc | apply pw_below_drewN | apply below_drew1) | exact HB.out))) : w.heap.size ≤ gb129)); clear HB; have HB := n0_; have BK129 := n1_; have GW129 := n2_; have GE129 := n3_; clear n0_ n1_ n2_ n3_; clear hb hbox hg) | ((with_reducible refine gate_dst (N := 3) rfl ?_); refine box_event ?hg (N := 3) ?hd (cs := #[.int .i8 a1_0, .int .i8 a1_1, .int .i8 a1_2, .int .i8 a1_3, .int .i8 a1_4]) (t := 62) ?hr ?_; (case hd => rfl); (case hg => rfl); (case hr => first | (go_simp; done) | (go_simp; rfl)); intro gb130 hg w17 hbox hb; have n0_ := Aside0.mk (blk_below (g := gb129) (o := .cells #[.int .i8 a0_0, .int .i8 a0_1, .int .i8 a0_2, .int .i8 a0_3, .int .i8 a0_4] 62 (0, 0)) (by (with_reducible repeat (first | refine blk_drewN ?_ _ | refine blk_drew ?_ | refine blk_alloc ?_ _)); exact BK129.out) hb); have n1_ := Aside0.mk (below_step (by repeat (first | (with_reducible first | exact HB.out | apply below_alloc | apply pw_below_drewN | apply below_drew1 | refine below_set ?_ GE129.out) | exact HB.out)) hb); have n2_ := Aside0.mk (hbox); have n3_ := Aside0.mk ((by rw [hg]; exact (below_size (by repeat (first | (with_reducible first | exact HB.out | apply below_alloc | apply pw_below_drewN | apply below_drew1 | refine below_set ?_ GE129.out) | exact HB.out))) : w.heap.size ≤ gb130)); have n4_ := Aside0.mk ((by rw [hg]; exact (below_size (by repeat (first | (with_reducible first | exact HB.out | apply below_alloc | apply pw_below_drewN | apply below_drew1 | refine below_set ?_ GE129.out) | exact HB.out))) : w.heap.size ≤ gb130)); have n5_ := Aside0.mk ((by rw [hg]; exact Nat.ne_of_lt (blk_lt (g := gb129) (o := .cells #[.int .i8 a0_0, .int .i8 a0_1, .int .i8 a0_2, .int .i8 a0_3, .int .i8 a0_4] 62 (0, 0)) (by (with_reducible repeat (first | refine blk_drewN ?_ _ | refine blk_drew ?_ | refine blk_alloc ?_ _)); exact BK129.out)) : gb129 ≠ gb130)); have n6_ := Aside0.mk ((by rw [hg]; exact Nat.ne_of_gt (blk_lt (g := gb129) (o := .cells #[.int .i8 a0_0, .int .i8 a0_1, .int .i8 a0_2, .int .i8 a0_3, .int .i8 a0_4] 62 (0, 0)) (by (with_reducible repeat (first | refine blk_drewN ?_ _ | refine blk_drew ?_ | refine blk_alloc ?_ _)); exact BK129.out)) : gb130 ≠ gb129)); clear BK129; clear HB; have BK129 := n0_; have HB := n1_; have BK130 := n2_; have GW130 := n3_; have GE130 := n4_; have NB129_130 := n5_; have NB130_129 := n6_; clear n0_ n1_ n2_ n3_ n4_ n5_ n6_; clear hb hbox hg; have hnb18 := NB129_130.out; have hnc18 := NB130_129.out; have hcz19_0 : w17.cell? ⟨gb129, 0, none⟩ = some (.int .i8 a0_0) := (blk_cell BK129.out 0).trans rfl; have hcz19_1 : w17.cell? ⟨gb129, 1, none⟩ = some (.int .i8 a0_1) := (blk_cell BK129.out 1).trans rfl; have hcz19_2 : w17.cell? ⟨gb129, 2, none⟩ = some (.int .i8 a0_2) := (blk_cell BK129.out 2).trans rfl; have hcz19_3 : w17.cell? ⟨gb129, 3, none⟩ = some (.int .i8 a0_3) := (blk_cell BK129.out 3).trans rfl; have hcz19_4 : w17.cell? ⟨gb129, 4, none⟩ = some (.int .i8 a0_4) := (blk_cell BK129.out 4).trans rfl; have hfz19_0 := blk_frozen BK129.out 0; have hfz19_1 := blk_frozen BK129.out 1; have hfz19_2 := blk_frozen BK129.out 2; have hfz19_3 := blk_frozen BK129.out 3; have hfz19_4 := blk_frozen BK129.out 4; have hcz20_0 : w17.cell? ⟨gb130, 0, none⟩ = some (.int .i8 a1_0) := (blk_cell BK130.out 0).trans rfl; have hcz20_1 : w17.cell? ⟨gb130, 1, none⟩ = some (.int .i8 a1_1) := (blk_cell BK130.out 1).trans rfl; have hcz20_2 : w17.cell? ⟨gb130, 2, none⟩ = some (.int .i8 a1_2) := (blk_cell BK130.out 2).trans rfl; have hcz20_3 : w17.cell? ⟨gb130, 3, none⟩ = some (.int .i8 a1_3) := (blk_cell BK130.out 3).trans rfl; have hcz20_4 : w17.cell? ⟨gb130, 4, none⟩ = some (.int .i8 a1_4) := (blk_cell BK130.out 4).trans rfl; have hfz20_0 := blk_frozen BK130.out 0; have hfz20_1 := blk_frozen BK130.out 1; have hfz20_2 := blk_frozen BK130.out 2; have hfz20_3 := blk_frozen BK130.out 3; have hfz20_4 := blk_frozen BK130.out 4) | ((with_reducible refine gate_callee (f := 66) rfl ?_); refine goesL_ (some 9) rfl rfl Try.func66 (by kernel_rfl) rfl #[.agg #[.int .i8 a0_0, .int .i8 a0_1], .agg #[.int .i8 a1_0, .int .i8 a1_1]] rfl (by (try simp only [List.map_toArray, List.map_cons, List.map_nil]); first | done | rfl | (simp only [List.length_drop, List.length_take]; rfl)) ?_; (with_reducible refine (laws_eqCell.calls k a0_0 a0_1 a1_0 a1_1 true _ A3.out).mono ?_); rintro e w21 ⟨rfl, hb⟩; refine ⟨_, rfl, ?_⟩; have n0_ := Aside0.mk (blk_below (g := gb129) (o := .cells #[.int .i8 a0_0, .int .i8 a0_1, .int .i8 a0_2, .int .i8 a0_3, .int .i8 a0_4] 62 (0, 0)) (by (with_reducible repeat (first | refine blk_drewN ?_ _ | refine blk_drew ?_ | refine blk_alloc ?_ _)); exact BK129.out) hb); have n1_ := Aside0.mk (blk_below (g := gb130) (o := .cells #[.int .i8 a1_0, .int .i8 a1_1, .int .i8 a1_2, .int .i8 a1_3, .int .i8 a1_4] 62 (0, 0)) (by (with_reducible repeat (first | refine blk_drewN ?_ _ | refine blk_drew ?_ | refine blk_alloc ?_ _)); exact BK130.out) hb); have n2_ := Aside0.mk (below_step (by repeat (first | (with_reducible first | exact HB.out | apply below_alloc | apply pw_below_drewN | apply below_drew1 | refine below_set ?_ GE129.out | refine below_set ?_ GE130.out) | exact HB.out)) hb); clear BK129; clear BK130; clear HB; have BK129 := n0_; have BK130 := n1_; have HB := n2_; clear n0_ n1_ n2_; (try clear hb); (try clear hb2); (try clear hk); (try clear hi); have hcz22_0 : w21.cell? ⟨gb129, 0, none⟩ = some (.int .i8 a0_0) := (blk_cell BK129.out 0).trans rfl; have hcz22_1 : w21.cell? ⟨gb129, 1, none⟩ = some (.int .i8 a0_1) := (blk_cell BK129.out 1).trans rfl; have hcz22_2 : w21.cell? ⟨gb129, 2, none⟩ = some (.int .i8 a0_2) := (blk_cell BK129.out 2).trans rfl; have hcz22_3 : w21.cell? ⟨gb129, 3, none⟩ = some (.int .i8 a0_3) := (blk_cell BK129.out 3).trans rfl; have hcz22_4 : w21.cell? ⟨gb129, 4, none⟩ = some (.int .i8 a0_4) := (blk_cell BK129.out 4).trans rfl; have hfz22_0 := blk_frozen BK129.out 0; have hfz22_1 := blk_frozen BK129.out 1; have hfz22_2 := blk_frozen BK129.out 2; have hfz22_3 := blk_frozen BK129.out 3; have hfz22_4 := blk_frozen BK129.out 4; have hcz23_0 : w21.cell? ⟨gb130, 0, none⟩ = some (.int .i8 a1_0) := (blk_cell BK130.out 0).trans rfl; have hcz23_1 : w21.cell? ⟨gb130, 1, none⟩ = some (.int .i8 a1_1) := (blk_cell BK130.out 1).trans rfl; have hcz23_2 : w21.cell? ⟨gb130, 2, none⟩ = some (.int .i8 a1_2) := (blk_cell BK130.out 2).trans rfl; have hcz23_3 : w21.cell? ⟨gb130, 3, none⟩ = some (.int .i8 a1_3) := (blk_cell BK130.out 3).trans rfl; have hcz23_4 : w21.cell? ⟨gb130, 4, none⟩ = some (.int .i8 a1_4) := (blk_cell BK130.out 4).trans rfl; have hfz23_0 := blk_frozen BK130.out 0; have hfz23_1 := blk_frozen BK130.out 1; have hfz23_2 := blk_frozen BK130.out 2; have hfz23_3 := blk_frozen BK130.out 3; have hfz23_4 := blk_frozen BK130.out 4))
          go_ret
          exact ⟨by first | rfl | (simp [errW_none, errW_some] <;> rfl) | (simp [*, errW_none, errW_some] <;> rfl), by repeat (first | (with_reducible first | exact HB.out | apply below_alloc | apply pw_below_drewN | apply below_drew1 | refine below_set ?_ GE129.out | refine below_set ?_ GE130.out) | exact HB.out)⟩
      · rw [if_neg c6] at H
        have c6b0 : (a0_3 == a1_3) = false := beq_eq_false_iff_ne.mpr c6
        have c6b1 : (a0_3 != a1_3) = true := bne_iff_ne.mpr c6
        obtain rfl := Option.some.inj H
        go_enter Try.func55, Try.ntmps55
        go_wp2_with (first | ((with_reducible refine gate_dst (N := 2) rfl ?_); refine box_event ?hg (N := 2) ?hd (cs := #[.int .i8 a0_0, .int .i8 a0_1, .int .i8 a0_2, .int .i8 a0_3, .int .i8 a0_4]) (t := 62) ?hr ?_; (case hd => rfl); (case hg => rfl); (case hr => first | (go_simp; done) | (go_simp; rfl)); intro gb129 hg w24 hbox hb; have n0_ := Aside0.mk (below_step (by repeat (first | (with_reducible first | exact HB.out | apply below_alloc | apply pw_below_drewN | apply below_drew1) | exact HB.out)) hb); have n1_ := Aside0.mk (hbox); have n2_ := Aside0.mk ((by rw [hg]; exact (below_size (by repeat (first | (with_reducible first | exact HB.out | apply below_alloc | apply pw_below_drewN | apply below_drew1) | exact HB.out))) : w.heap.size ≤ gb129)); have n3_ := Aside0.mk ((by rw [hg]; exact (below_size (by repeat (first | (with_reducible first | exact HB.out | apply below_alloc | apply pw_below_drewN | apply below_drew1) | exact HB.out))) : w.heap.size ≤ gb129)); clear HB; have HB := n0_; have BK129 := n1_; have GW129 := n2_; have GE129 := n3_; clear n0_ n1_ n2_ n3_; clear hb hbox hg) | ((with_reducible refine gate_dst (N := 3) rfl ?_); refine box_event ?hg (N := 3) ?hd (cs := #[.int .i8 a1_0, .int .i8 a1_1, .int .i8 a1_2, .int .i8 a1_3, .int .i8 a1_4]) (t := 62) ?hr ?_; (case hd => rfl); (case hg => rfl); (case hr => first | (go_simp; done) | (go_simp; rfl)); intro gb130 hg w25 hbox hb; have n0_ := Aside0.mk (blk_below (g := gb129) (o := .cells #[.int .i8 a0_0, .int .i8 a0_1, .int .i8 a0_2, .int .i8 a0_3, .int .i8 a0_4] 62 (0, 0)) (by (with_reducible repeat (first | refine blk_drewN ?_ _ | refine blk_drew ?_ | refine blk_alloc ?_ _)); exact BK129.out) hb); have n1_ := Aside0.mk (below_step (by repeat (first | (with_reducible first | exact HB.out | apply below_alloc | apply pw_below_drewN | apply below_drew1 | refine below_set ?_ GE129.out) | exact HB.out)) hb); have n2_ := Aside0.mk (hbox); have n3_ := Aside0.mk ((by rw [hg]; exact (below_size (by repeat (first | (with_reducible first | exact HB.out | apply below_alloc | apply pw_below_drewN | apply below_drew1 | refine below_set ?_ GE129.out) | exact HB.out))) : w.heap.size ≤ gb130)); have n4_ := Aside0.mk ((by rw [hg]; exact (below_size (by repeat (first | (with_reducible first | exact HB.out | apply below_alloc | apply pw_below_drewN | apply below_drew1 | refine below_set ?_ GE129.out) | exact HB.out))) : w.heap.size ≤ gb130)); have n5_ := Aside0.mk ((by rw [hg]; exact Nat.ne_of_lt (blk_lt (g := gb129) (o := .cells #[.int .i8 a0_0, .int .i8 a0_1, .int .i8 a0_2, .int .i8 a0_3, .int .i8 a0_4] 62 (0, 0)) (by (with_reducible repeat (first | refine blk_drewN ?_ _ | refine blk_drew ?_ | refine blk_alloc ?_ _)); exact BK129.out)) : gb129 ≠ gb130)); have n6_ := Aside0.mk ((by rw [hg]; exact Nat.ne_of_gt (blk_lt (g := gb129) (o := .cells #[.int .i8 a0_0, .int .i8 a0_1, .int .i8 a0_2, .int .i8 a0_3, .int .i8 a0_4] 62 (0, 0)) (by (with_reducible repeat (first | refine blk_drewN ?_ _ | refine blk_drew ?_ | refine blk_alloc ?_ _)); exact BK129.out)) : gb130 ≠ gb129)); clear BK129; clear HB; have BK129 := n0_; have HB := n1_; have BK130 := n2_; have GW130 := n3_; have GE130 := n4_; have NB129_130 := n5_; have NB130_129 := n6_; clear n0_ n1_ n2_ n3_ n4_ n5_ n6_; clear hb hbox hg; have hnb26 := NB129_130.out; have hnc26 := NB130_129.out; have hcz27_0 : w25.cell? ⟨gb129, 0, none⟩ = some (.int .i8 a0_0) := (blk_cell BK129.out 0).trans rfl; have hcz27_1 : w25.cell? ⟨gb129, 1, none⟩ = some (.int .i8 a0_1) := (blk_cell BK129.out 1).trans rfl; have hcz27_2 : w25.cell? ⟨gb129, 2, none⟩ = some (.int .i8 a0_2) := (blk_cell BK129.out 2).trans rfl; have hcz27_3 : w25.cell? ⟨gb129, 3, none⟩ = some (.int .i8 a0_3) := (blk_cell BK129.out 3).trans rfl; have hcz27_4 : w25.cell? ⟨gb129, 4, none⟩ = some (.int .i8 a0_4) := (blk_cell BK129.out 4).trans rfl; have hfz27_0 := blk_frozen BK129.out 0; have hfz27_1 := blk_frozen BK129.out 1; have hfz27_2 := blk_frozen BK129.out 2; have hfz27_3 := blk_frozen BK129.out 3; have hfz27_4 := blk_frozen BK129.out 4; have hcz28_0 : w25.cell? ⟨gb130, 0, none⟩ = some (.int .i8 a1_0) := (blk_cell BK130.out 0).trans rfl; have hcz28_1 : w25.cell? ⟨gb130, 1, none⟩ = some (.int .i8 a1_1) := (blk_cell BK130.out 1).trans rfl; have hcz28_2 : w25.cell? ⟨gb130, 2, none⟩ = some (.int .i8 a1_2) := (blk_cell BK130.out 2).trans rfl; have hcz28_3 : w25.cell? ⟨gb130, 3, none⟩ = some (.int .i8 a1_3) := (blk_cell BK130.out 3).trans rfl; have hcz28_4 : w25.cell? ⟨gb130, 4, none⟩ = some (.int .i8 a1_4) := (blk_cell BK130.out 4).trans rfl; have hfz28_0 := blk_frozen BK130.out 0; have hfz28_1 := blk_frozen BK130.out 1; have hfz28_2 := blk_frozen BK130.out 2; have hfz28_3 := blk_frozen BK130.out 3; have hfz28_4 := blk_frozen BK130.out 4) | ((with_reducible refine gate_callee (f := 66) rfl ?_); refine goesL_ (some 9) rfl rfl Try.func66 (by kernel_rfl) rfl #[.agg #[.int .i8 a0_0, .int .i8 a0_1], .agg #[.int .i8 a1_0, .int .i8 a1_1]] rfl (by (try simp only [List.map_toArray, List.map_cons, List.map_nil]); first | done | rfl | (simp only [List.length_drop, List.length_take]; rfl)) ?_; (with_reducible refine (laws_eqCell.calls k a0_0 a0_1 a1_0 a1_1 true _ A3.out).mono ?_); rintro e w29 ⟨rfl, hb⟩; refine ⟨_, rfl, ?_⟩; have n0_ := Aside0.mk (blk_below (g := gb129) (o := .cells #[.int .i8 a0_0, .int .i8 a0_1, .int .i8 a0_2, .int .i8 a0_3, .int .i8 a0_4] 62 (0, 0)) (by (with_reducible repeat (first | refine blk_drewN ?_ _ | refine blk_drew ?_ | refine blk_alloc ?_ _)); exact BK129.out) hb); have n1_ := Aside0.mk (blk_below (g := gb130) (o := .cells #[.int .i8 a1_0, .int .i8 a1_1, .int .i8 a1_2, .int .i8 a1_3, .int .i8 a1_4] 62 (0, 0)) (by (with_reducible repeat (first | refine blk_drewN ?_ _ | refine blk_drew ?_ | refine blk_alloc ?_ _)); exact BK130.out) hb); have n2_ := Aside0.mk (below_step (by repeat (first | (with_reducible first | exact HB.out | apply below_alloc | apply pw_below_drewN | apply below_drew1 | refine below_set ?_ GE129.out | refine below_set ?_ GE130.out) | exact HB.out)) hb); clear BK129; clear BK130; clear HB; have BK129 := n0_; have BK130 := n1_; have HB := n2_; clear n0_ n1_ n2_; (try clear hb); (try clear hb2); (try clear hk); (try clear hi); have hcz30_0 : w29.cell? ⟨gb129, 0, none⟩ = some (.int .i8 a0_0) := (blk_cell BK129.out 0).trans rfl; have hcz30_1 : w29.cell? ⟨gb129, 1, none⟩ = some (.int .i8 a0_1) := (blk_cell BK129.out 1).trans rfl; have hcz30_2 : w29.cell? ⟨gb129, 2, none⟩ = some (.int .i8 a0_2) := (blk_cell BK129.out 2).trans rfl; have hcz30_3 : w29.cell? ⟨gb129, 3, none⟩ = some (.int .i8 a0_3) := (blk_cell BK129.out 3).trans rfl; have hcz30_4 : w29.cell? ⟨gb129, 4, none⟩ = some (.int .i8 a0_4) := (blk_cell BK129.out 4).trans rfl; have hfz30_0 := blk_frozen BK129.out 0; have hfz30_1 := blk_frozen BK129.out 1; have hfz30_2 := blk_frozen BK129.out 2; have hfz30_3 := blk_frozen BK129.out 3; have hfz30_4 := blk_frozen BK129.out 4; have hcz31_0 : w29.cell? ⟨gb130, 0, none⟩ = some (.int .i8 a1_0) := (blk_cell BK130.out 0).trans rfl; have hcz31_1 : w29.cell? ⟨gb130, 1, none⟩ = some (.int .i8 a1_1) := (blk_cell BK130.out 1).trans rfl; have hcz31_2 : w29.cell? ⟨gb130, 2, none⟩ = some (.int .i8 a1_2) := (blk_cell BK130.out 2).trans rfl; have hcz31_3 : w29.cell? ⟨gb130, 3, none⟩ = some (.int .i8 a1_3) := (blk_cell BK130.out 3).trans rfl; have hcz31_4 : w29.cell? ⟨gb130, 4, none⟩ = some (.int .i8 a1_4) := (blk_cell BK130.out 4).trans rfl; have hfz31_0 := blk_frozen BK130.out 0; have hfz31_1 := blk_frozen BK130.out 1; have hfz31_2 := blk_frozen BK130.out 2; have hfz31_3 := blk_frozen BK130.out 3; have hfz31_4 := blk_frozen BK130.out 4))
        go_ret
        exact ⟨by first | rfl | (simp [errW_none, errW_some] <;> rfl) | (simp [*, errW_none, errW_some] <;> rfl), by repeat (first | (with_reducible first | exact HB.out | apply below_alloc | apply pw_below_drewN | apply below_drew1 | refine below_set ?_ GE129.out | refine below_set ?_ GE130.out) | exact HB.out)⟩
    · rw [if_neg c5] at H
      have c5b0 : (a0_2 == a1_2) = false := beq_eq_false_iff_ne.mpr c5
      have c5b1 : (a0_2 != a1_2) = true := bne_iff_ne.mpr c5
      obtain rfl := Option.some.inj H
      go_enter Try.func55, Try.ntmps55
      go_wp2_with (first | ((with_reducible refine gate_dst (N := 2) rfl ?_); refine box_event ?hg (N := 2) ?hd (cs := #[.int .i8 a0_0, .int .i8 a0_1, .int .i8 a0_2, .int .i8 a0_3, .int .i8 a0_4]) (t := 62) ?hr ?_; (case hd => rfl); (case hg => rfl); (case hr => first | (go_simp; done) | (go_simp; rfl)); intro gb129 hg w32 hbox hb; have n0_ := Aside0.mk (below_step (by repeat (first | (with_reducible first | exact HB.out | apply below_alloc | apply pw_below_drewN | apply below_drew1) | exact HB.out)) hb); have n1_ := Aside0.mk (hbox); have n2_ := Aside0.mk ((by rw [hg]; exact (below_size (by repeat (first | (with_reducible first | exact HB.out | apply below_alloc | apply pw_below_drewN | apply below_drew1) | exact HB.out))) : w.heap.size ≤ gb129)); have n3_ := Aside0.mk ((by rw [hg]; exact (below_size (by repeat (first | (with_reducible first | exact HB.out | apply below_alloc | apply pw_below_drewN | apply below_drew1) | exact HB.out))) : w.heap.size ≤ gb129)); clear HB; have HB := n0_; have BK129 := n1_; have GW129 := n2_; have GE129 := n3_; clear n0_ n1_ n2_ n3_; clear hb hbox hg) | ((with_reducible refine gate_dst (N := 3) rfl ?_); refine box_event ?hg (N := 3) ?hd (cs := #[.int .i8 a1_0, .int .i8 a1_1, .int .i8 a1_2, .int .i8 a1_3, .int .i8 a1_4]) (t := 62) ?hr ?_; (case hd => rfl); (case hg => rfl); (case hr => first | (go_simp; done) | (go_simp; rfl)); intro gb130 hg w33 hbox hb; have n0_ := Aside0.mk (blk_below (g := gb129) (o := .cells #[.int .i8 a0_0, .int .i8 a0_1, .int .i8 a0_2, .int .i8 a0_3, .int .i8 a0_4] 62 (0, 0)) (by (with_reducible repeat (first | refine blk_drewN ?_ _ | refine blk_drew ?_ | refine blk_alloc ?_ _)); exact BK129.out) hb); have n1_ := Aside0.mk (below_step (by repeat (first | (with_reducible first | exact HB.out | apply below_alloc | apply pw_below_drewN | apply below_drew1 | refine below_set ?_ GE129.out) | exact HB.out)) hb); have n2_ := Aside0.mk (hbox); have n3_ := Aside0.mk ((by rw [hg]; exact (below_size (by repeat (first | (with_reducible first | exact HB.out | apply below_alloc | apply pw_below_drewN | apply below_drew1 | refine below_set ?_ GE129.out) | exact HB.out))) : w.heap.size ≤ gb130)); have n4_ := Aside0.mk ((by rw [hg]; exact (below_size (by repeat (first | (with_reducible first | exact HB.out | apply below_alloc | apply pw_below_drewN | apply below_drew1 | refine below_set ?_ GE129.out) | exact HB.out))) : w.heap.size ≤ gb130)); have n5_ := Aside0.mk ((by rw [hg]; exact Nat.ne_of_lt (blk_lt (g := gb129) (o := .cells #[.int .i8 a0_0, .int .i8 a0_1, .int .i8 a0_2, .int .i8 a0_3, .int .i8 a0_4] 62 (0, 0)) (by (with_reducible repeat (first | refine blk_drewN ?_ _ | refine blk_drew ?_ | refine blk_alloc ?_ _)); exact BK129.out)) : gb129 ≠ gb130)); have n6_ := Aside0.mk ((by rw [hg]; exact Nat.ne_of_gt (blk_lt (g := gb129) (o := .cells #[.int .i8 a0_0, .int .i8 a0_1, .int .i8 a0_2, .int .i8 a0_3, .int .i8 a0_4] 62 (0, 0)) (by (with_reducible repeat (first | refine blk_drewN ?_ _ | refine blk_drew ?_ | refine blk_alloc ?_ _)); exact BK129.out)) : gb130 ≠ gb129)); clear BK129; clear HB; have BK129 := n0_; have HB := n1_; have BK130 := n2_; have GW130 := n3_; have GE130 := n4_; have NB129_130 := n5_; have NB130_129 := n6_; clear n0_ n1_ n2_ n3_ n4_ n5_ n6_; clear hb hbox hg; have hnb34 := NB129_130.out; have hnc34 := NB130_129.out; have hcz35_0 : w33.cell? ⟨gb129, 0, none⟩ = some (.int .i8 a0_0) := (blk_cell BK129.out 0).trans rfl; have hcz35_1 : w33.cell? ⟨gb129, 1, none⟩ = some (.int .i8 a0_1) := (blk_cell BK129.out 1).trans rfl; have hcz35_2 : w33.cell? ⟨gb129, 2, none⟩ = some (.int .i8 a0_2) := (blk_cell BK129.out 2).trans rfl; have hcz35_3 : w33.cell? ⟨gb129, 3, none⟩ = some (.int .i8 a0_3) := (blk_cell BK129.out 3).trans rfl; have hcz35_4 : w33.cell? ⟨gb129, 4, none⟩ = some (.int .i8 a0_4) := (blk_cell BK129.out 4).trans rfl; have hfz35_0 := blk_frozen BK129.out 0; have hfz35_1 := blk_frozen BK129.out 1; have hfz35_2 := blk_frozen BK129.out 2; have hfz35_3 := blk_frozen BK129.out 3; have hfz35_4 := blk_frozen BK129.out 4; have hcz36_0 : w33.cell? ⟨gb130, 0, none⟩ = some (.int .i8 a1_0) := (blk_cell BK130.out 0).trans rfl; have hcz36_1 : w33.cell? ⟨gb130, 1, none⟩ = some (.int .i8 a1_1) := (blk_cell BK130.out 1).trans rfl; have hcz36_2 : w33.cell? ⟨gb130, 2, none⟩ = some (.int .i8 a1_2) := (blk_cell BK130.out 2).trans rfl; have hcz36_3 : w33.cell? ⟨gb130, 3, none⟩ = some (.int .i8 a1_3) := (blk_cell BK130.out 3).trans rfl; have hcz36_4 : w33.cell? ⟨gb130, 4, none⟩ = some (.int .i8 a1_4) := (blk_cell BK130.out 4).trans rfl; have hfz36_0 := blk_frozen BK130.out 0; have hfz36_1 := blk_frozen BK130.out 1; have hfz36_2 := blk_frozen BK130.out 2; have hfz36_3 := blk_frozen BK130.out 3; have hfz36_4 := blk_frozen BK130.out 4) | ((with_reducible refine gate_callee (f := 66) rfl ?_); refine goesL_ (some 9) rfl rfl Try.func66 (by kernel_rfl) rfl #[.agg #[.int .i8 a0_0, .int .i8 a0_1], .agg #[.int .i8 a1_0, .int .i8 a1_1]] rfl (by (try simp only [List.map_toArray, List.map_cons, List.map_nil]); first | done | rfl | (simp only [List.length_drop, List.length_take]; rfl)) ?_; (with_reducible refine (laws_eqCell.calls k a0_0 a0_1 a1_0 a1_1 true _ A3.out).mono ?_); rintro e w37 ⟨rfl, hb⟩; refine ⟨_, rfl, ?_⟩; have n0_ := Aside0.mk (blk_below (g := gb129) (o := .cells #[.int .i8 a0_0, .int .i8 a0_1, .int .i8 a0_2, .int .i8 a0_3, .int .i8 a0_4] 62 (0, 0)) (by (with_reducible repeat (first | refine blk_drewN ?_ _ | refine blk_drew ?_ | refine blk_alloc ?_ _)); exact BK129.out) hb); have n1_ := Aside0.mk (blk_below (g := gb130) (o := .cells #[.int .i8 a1_0, .int .i8 a1_1, .int .i8 a1_2, .int .i8 a1_3, .int .i8 a1_4] 62 (0, 0)) (by (with_reducible repeat (first | refine blk_drewN ?_ _ | refine blk_drew ?_ | refine blk_alloc ?_ _)); exact BK130.out) hb); have n2_ := Aside0.mk (below_step (by repeat (first | (with_reducible first | exact HB.out | apply below_alloc | apply pw_below_drewN | apply below_drew1 | refine below_set ?_ GE129.out | refine below_set ?_ GE130.out) | exact HB.out)) hb); clear BK129; clear BK130; clear HB; have BK129 := n0_; have BK130 := n1_; have HB := n2_; clear n0_ n1_ n2_; (try clear hb); (try clear hb2); (try clear hk); (try clear hi); have hcz38_0 : w37.cell? ⟨gb129, 0, none⟩ = some (.int .i8 a0_0) := (blk_cell BK129.out 0).trans rfl; have hcz38_1 : w37.cell? ⟨gb129, 1, none⟩ = some (.int .i8 a0_1) := (blk_cell BK129.out 1).trans rfl; have hcz38_2 : w37.cell? ⟨gb129, 2, none⟩ = some (.int .i8 a0_2) := (blk_cell BK129.out 2).trans rfl; have hcz38_3 : w37.cell? ⟨gb129, 3, none⟩ = some (.int .i8 a0_3) := (blk_cell BK129.out 3).trans rfl; have hcz38_4 : w37.cell? ⟨gb129, 4, none⟩ = some (.int .i8 a0_4) := (blk_cell BK129.out 4).trans rfl; have hfz38_0 := blk_frozen BK129.out 0; have hfz38_1 := blk_frozen BK129.out 1; have hfz38_2 := blk_frozen BK129.out 2; have hfz38_3 := blk_frozen BK129.out 3; have hfz38_4 := blk_frozen BK129.out 4; have hcz39_0 : w37.cell? ⟨gb130, 0, none⟩ = some (.int .i8 a1_0) := (blk_cell BK130.out 0).trans rfl; have hcz39_1 : w37.cell? ⟨gb130, 1, none⟩ = some (.int .i8 a1_1) := (blk_cell BK130.out 1).trans rfl; have hcz39_2 : w37.cell? ⟨gb130, 2, none⟩ = some (.int .i8 a1_2) := (blk_cell BK130.out 2).trans rfl; have hcz39_3 : w37.cell? ⟨gb130, 3, none⟩ = some (.int .i8 a1_3) := (blk_cell BK130.out 3).trans rfl; have hcz39_4 : w37.cell? ⟨gb130, 4, none⟩ = some (.int .i8 a1_4) := (blk_cell BK130.out 4).trans rfl; have hfz39_0 := blk_frozen BK130.out 0; have hfz39_1 := blk_frozen BK130.out 1; have hfz39_2 := blk_frozen BK130.out 2; have hfz39_3 := blk_frozen BK130.out 3; have hfz39_4 := blk_frozen BK130.out 4))
      go_ret
      exact ⟨by first | rfl | (simp [errW_none, errW_some] <;> rfl) | (simp [*, errW_none, errW_some] <;> rfl), by repeat (first | (with_reducible first | exact HB.out | apply below_alloc | apply pw_below_drewN | apply below_drew1 | refine below_set ?_ GE129.out | refine below_set ?_ GE130.out) | exact HB.out)⟩
  · replace c4 := Bool.eq_false_iff.mpr c4
    subst c4
    have H1 : (some false) = some r := by rw [if_neg (show ¬ (false = true) by decide)] at H; exact H
    clear H
    have H := H1
    clear H1
    obtain rfl := Option.some.inj H
    go_enter Try.func55, Try.ntmps55
    go_wp2_with (first | ((with_reducible refine gate_dst (N := 2) rfl ?_); refine box_event ?hg (N := 2) ?hd (cs := #[.int .i8 a0_0, .int .i8 a0_1, .int .i8 a0_2, .int .i8 a0_3, .int .i8 a0_4]) (t := 62) ?hr ?_; (case hd => rfl); (case hg => rfl); (case hr => first | (go_simp; done) | (go_simp; rfl)); intro gb129 hg w40 hbox hb; have n0_ := Aside0.mk (below_step (by repeat (first | (with_reducible first | exact HB.out | apply below_alloc | apply pw_below_drewN | apply below_drew1) | exact HB.out)) hb); have n1_ := Aside0.mk (hbox); have n2_ := Aside0.mk ((by rw [hg]; exact (below_size (by repeat (first | (with_reducible first | exact HB.out | apply below_alloc | apply pw_below_drewN | apply below_drew1) | exact HB.out))) : w.heap.size ≤ gb129)); have n3_ := Aside0.mk ((by rw [hg]; exact (below_size (by repeat (first | (with_reducible first | exact HB.out | apply below_alloc | apply pw_below_drewN | apply below_drew1) | exact HB.out))) : w.heap.size ≤ gb129)); clear HB; have HB := n0_; have BK129 := n1_; have GW129 := n2_; have GE129 := n3_; clear n0_ n1_ n2_ n3_; clear hb hbox hg) | ((with_reducible refine gate_dst (N := 3) rfl ?_); refine box_event ?hg (N := 3) ?hd (cs := #[.int .i8 a1_0, .int .i8 a1_1, .int .i8 a1_2, .int .i8 a1_3, .int .i8 a1_4]) (t := 62) ?hr ?_; (case hd => rfl); (case hg => rfl); (case hr => first | (go_simp; done) | (go_simp; rfl)); intro gb130 hg w41 hbox hb; have n0_ := Aside0.mk (blk_below (g := gb129) (o := .cells #[.int .i8 a0_0, .int .i8 a0_1, .int .i8 a0_2, .int .i8 a0_3, .int .i8 a0_4] 62 (0, 0)) (by (with_reducible repeat (first | refine blk_drewN ?_ _ | refine blk_drew ?_ | refine blk_alloc ?_ _)); exact BK129.out) hb); have n1_ := Aside0.mk (below_step (by repeat (first | (with_reducible first | exact HB.out | apply below_alloc | apply pw_below_drewN | apply below_drew1 | refine below_set ?_ GE129.out) | exact HB.out)) hb); have n2_ := Aside0.mk (hbox); have n3_ := Aside0.mk ((by rw [hg]; exact (below_size (by repeat (first | (with_reducible first | exact HB.out | apply below_alloc | apply pw_below_drewN | apply below_drew1 | refine below_set ?_ GE129.out) | exact HB.out))) : w.heap.size ≤ gb130)); have n4_ := Aside0.mk ((by rw [hg]; exact (below_size (by repeat (first | (with_reducible first | exact HB.out | apply below_alloc | apply pw_below_drewN | apply below_drew1 | refine below_set ?_ GE129.out) | exact HB.out))) : w.heap.size ≤ gb130)); have n5_ := Aside0.mk ((by rw [hg]; exact Nat.ne_of_lt (blk_lt (g := gb129) (o := .cells #[.int .i8 a0_0, .int .i8 a0_1, .int .i8 a0_2, .int .i8 a0_3, .int .i8 a0_4] 62 (0, 0)) (by (with_reducible repeat (first | refine blk_drewN ?_ _ | refine blk_drew ?_ | refine blk_alloc ?_ _)); exact BK129.out)) : gb129 ≠ gb130)); have n6_ := Aside0.mk ((by rw [hg]; exact Nat.ne_of_gt (blk_lt (g := gb129) (o := .cells #[.int .i8 a0_0, .int .i8 a0_1, .int .i8 a0_2, .int .i8 a0_3, .int .i8 a0_4] 62 (0, 0)) (by (with_reducible repeat (first | refine blk_drewN ?_ _ | refine blk_drew ?_ | refine blk_alloc ?_ _)); exact BK129.out)) : gb130 ≠ gb129)); clear BK129; clear HB; have BK129 := n0_; have HB := n1_; have BK130 := n2_; have GW130 := n3_; have GE130 := n4_; have NB129_130 := n5_; have NB130_129 := n6_; clear n0_ n1_ n2_ n3_ n4_ n5_ n6_; clear hb hbox hg; have hnb42 := NB129_130.out; have hnc42 := NB130_129.out; have hcz43_0 : w41.cell? ⟨gb129, 0, none⟩ = some (.int .i8 a0_0) := (blk_cell BK129.out 0).trans rfl; have hcz43_1 : w41.cell? ⟨gb129, 1, none⟩ = some (.int .i8 a0_1) := (blk_cell BK129.out 1).trans rfl; have hcz43_2 : w41.cell? ⟨gb129, 2, none⟩ = some (.int .i8 a0_2) := (blk_cell BK129.out 2).trans rfl; have hcz43_3 : w41.cell? ⟨gb129, 3, none⟩ = some (.int .i8 a0_3) := (blk_cell BK129.out 3).trans rfl; have hcz43_4 : w41.cell? ⟨gb129, 4, none⟩ = some (.int .i8 a0_4) := (blk_cell BK129.out 4).trans rfl; have hfz43_0 := blk_frozen BK129.out 0; have hfz43_1 := blk_frozen BK129.out 1; have hfz43_2 := blk_frozen BK129.out 2; have hfz43_3 := blk_frozen BK129.out 3; have hfz43_4 := blk_frozen BK129.out 4; have hcz44_0 : w41.cell? ⟨gb130, 0, none⟩ = some (.int .i8 a1_0) := (blk_cell BK130.out 0).trans rfl; have hcz44_1 : w41.cell? ⟨gb130, 1, none⟩ = some (.int .i8 a1_1) := (blk_cell BK130.out 1).trans rfl; have hcz44_2 : w41.cell? ⟨gb130, 2, none⟩ = some (.int .i8 a1_2) := (blk_cell BK130.out 2).trans rfl; have hcz44_3 : w41.cell? ⟨gb130, 3, none⟩ = some (.int .i8 a1_3) := (blk_cell BK130.out 3).trans rfl; have hcz44_4 : w41.cell? ⟨gb130, 4, none⟩ = some (.int .i8 a1_4) := (blk_cell BK130.out 4).trans rfl; have hfz44_0 := blk_frozen BK130.out 0; have hfz44_1 := blk_frozen BK130.out 1; have hfz44_2 := blk_frozen BK130.out 2; have hfz44_3 := blk_frozen BK130.out 3; have hfz44_4 := blk_frozen BK130.out 4) | ((with_reducible refine gate_callee (f := 66) rfl ?_); refine goesL_ (some 9) rfl rfl Try.func66 (by kernel_rfl) rfl #[.agg #[.int .i8 a0_0, .int .i8 a0_1], .agg #[.int .i8 a1_0, .int .i8 a1_1]] rfl (by (try simp only [List.map_toArray, List.map_cons, List.map_nil]); first | done | rfl | (simp only [List.length_drop, List.length_take]; rfl)) ?_; (with_reducible refine (laws_eqCell.calls k a0_0 a0_1 a1_0 a1_1 false _ A3.out).mono ?_); rintro e w45 ⟨rfl, hb⟩; refine ⟨_, rfl, ?_⟩; have n0_ := Aside0.mk (blk_below (g := gb129) (o := .cells #[.int .i8 a0_0, .int .i8 a0_1, .int .i8 a0_2, .int .i8 a0_3, .int .i8 a0_4] 62 (0, 0)) (by (with_reducible repeat (first | refine blk_drewN ?_ _ | refine blk_drew ?_ | refine blk_alloc ?_ _)); exact BK129.out) hb); have n1_ := Aside0.mk (blk_below (g := gb130) (o := .cells #[.int .i8 a1_0, .int .i8 a1_1, .int .i8 a1_2, .int .i8 a1_3, .int .i8 a1_4] 62 (0, 0)) (by (with_reducible repeat (first | refine blk_drewN ?_ _ | refine blk_drew ?_ | refine blk_alloc ?_ _)); exact BK130.out) hb); have n2_ := Aside0.mk (below_step (by repeat (first | (with_reducible first | exact HB.out | apply below_alloc | apply pw_below_drewN | apply below_drew1 | refine below_set ?_ GE129.out | refine below_set ?_ GE130.out) | exact HB.out)) hb); clear BK129; clear BK130; clear HB; have BK129 := n0_; have BK130 := n1_; have HB := n2_; clear n0_ n1_ n2_; (try clear hb); (try clear hb2); (try clear hk); (try clear hi)))
    go_ret
    exact ⟨by first | rfl | (simp [errW_none, errW_some] <;> rfl) | (simp [*, errW_none, errW_some] <;> rfl), by repeat (first | (with_reducible first | exact HB.out | apply below_alloc | apply pw_below_drewN | apply below_drew1 | refine below_set ?_ GE129.out | refine below_set ?_ GE130.out) | exact HB.out)⟩

end Go.Proofs.Ytdjhcnepndflmaa.PFnExactNeverHit
