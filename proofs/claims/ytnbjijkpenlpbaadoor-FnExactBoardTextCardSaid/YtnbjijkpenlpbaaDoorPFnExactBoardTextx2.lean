-- WRITTEN by xprint.py, a program of this session's. Not trusted: Lean checks it.
import Derived.Test.YtnbjijkpenlpbaaDoorPFnExactBoardTextx0
import Derived.Test.YtnbjijkpenlpbaaDoorPFnExactBoardTextx1
namespace Go.Proofs.YtnbjijkpenlpbaaDoor.PFnExactBoardText
open Go.RowKit Go.Proofs.YtnbjijkpenlpbaaDoorW.PrintWords Go.Proofs.YtnbjijkpenlpbaaDoorW.PrintLast Go.Proofs.YtnbjijkpenlpbaaDoorW.PrintMore Go.Proofs.YtnbjijkpenlpbaaDoorX
attribute [local go_sem] max2_int min2_int max_two min_two max_three min_three max_four min_four   -- for this text's walks alone
set_option linter.unusedVariables false
set_option linter.unusedSimpArgs false

attribute [local go_sem high] eqA43
/-! ### laws_szPieceS: function 28 -/
def laws_szPieceS.f (l0 : List (S91)) (a1 : Int) : Option (Int) := if (wrap64 (a1 - (l0.length : Int))) < 0 then (some (-1)) else (some (wrap64 (a1 - (l0.length : Int))))
set_option maxHeartbeats 8000000 in
set_option maxRecDepth 100000 in
theorem laws_szPieceS.calls (A0 : Option Addr) (c0 : Nat) (l0 : List (S91)) (a1 : Int) (r : Int) (w : World) (hr0 : Kd.C k91 w A0 l0.length l0) (hc0 : l0.length ≤ c0) (h : laws_szPieceS.f l0 a1 = some r) :
    Calls Tryd.prog 28 #[.slice A0 l0.length c0, .int .i64 a1] w fun e w' => e = .returned (.int .i64 r) ∧ Drawn0 w w' := by
  have HR0 := Aside0.mk hr0
  have HC0 := Aside0.mk hc0
  clear hr0 hc0
  have H : (if (wrap64 (a1 - (l0.length : Int))) < 0 then (some (-1)) else (some (wrap64 (a1 - (l0.length : Int))))) = some r := h
  clear h
  by_cases c3 : (wrap64 (a1 - (l0.length : Int))) < 0
  · rw [if_pos c3] at H
    have c3b0 : decide ((wrap64 (a1 - (l0.length : Int))) < 0) = true := decide_eq_true c3
    clear c3
    obtain rfl := Option.some.inj H
    go_enter Tryd.func28, Tryd.ntmps28
    go_wp2
    go_ret
    exact ⟨by first | rfl | (simp; done) | (simp [*]; done) | (exact congrArg (Value.int .i64) (wrap_eq (by omega))), by repeat (first | exact Drawn0.refl _ | apply Drawn0.step)⟩
  · rw [if_neg c3] at H
    have c3b0 : decide ((wrap64 (a1 - (l0.length : Int))) < 0) = false := decide_eq_false c3
    clear c3
    obtain rfl := Option.some.inj H
    go_enter Tryd.func28, Tryd.ntmps28
    go_wp2
    go_ret
    exact ⟨by first | rfl | (simp; done) | (simp [*]; done) | (exact congrArg (Value.int .i64) (wrap_eq (by omega))), by repeat (first | exact Drawn0.refl _ | apply Drawn0.step)⟩

/-! ### laws_szBoard: function 10 -/
def laws_szBoard.f (a0_0 : Int) (a0_1 : Int) (l0_2 : List (S91)) (a1 : Int) : Option (Int) := (laws_szPieceS.f l0_2 a1).bind fun t102 => (if t102 < 0 then (some (-1)) else (some t102))
set_option maxHeartbeats 8000000 in
set_option maxRecDepth 100000 in
theorem laws_szBoard.calls (a0_0 : Int) (a0_1 : Int) (A0_2 : Option Addr) (c0_2 : Nat) (l0_2 : List (S91)) (a1 : Int) (r : Int) (w : World) (hr0_2 : Kd.C k91 w A0_2 l0_2.length l0_2) (hc0_2 : l0_2.length ≤ c0_2) (h : laws_szBoard.f a0_0 a0_1 l0_2 a1 = some r) :
    Calls Tryd.prog 10 #[.agg #[.int .i8 a0_0, .int .i8 a0_1, .slice A0_2 l0_2.length c0_2], .int .i64 a1] w fun e w' => e = .returned (.int .i64 r) ∧ Below w.heap.size w w' := by
  have hu32 := Tryd.underlying32
  have HR0_2 := Aside0.mk hr0_2
  have HC0_2 := Aside0.mk hc0_2
  clear hr0_2 hc0_2
  have HB := Aside0.mk (Below.refl w.heap.size w)
  have H : ((laws_szPieceS.f l0_2 a1).bind fun t102 => (if t102 < 0 then (some (-1)) else (some t102))) = some r := h
  clear h
  replace H := Option.bind_eq_some_iff.mp H
  obtain ⟨t102, A30, H⟩ := H
  replace H : (if t102 < 0 then (some (-1)) else (some t102)) = some r := H
  have A3 := Aside0.mk A30
  clear A30
  by_cases c4 : t102 < 0
  · rw [if_pos c4] at H
    have c4b0 : decide (t102 < 0) = true := decide_eq_true c4
    clear c4
    obtain rfl := Option.some.inj H
    go_enter Tryd.func10, Tryd.ntmps10
    go_wp2_with (first | ((with_reducible refine gate_dst (N := 2) rfl ?_); refine box_event ?hg (N := 2) ?hd (cs := #[.int .i8 a0_0, .int .i8 a0_1, .slice A0_2 l0_2.length c0_2]) (t := 32) ?hr ?_; (case hd => rfl); (case hg => rfl); (case hr => first | (go_simp; done) | (go_simp; rfl)); intro gb101 hg w5 hbox hb; have n0_ := Aside0.mk (below_step (by repeat (first | (with_reducible first | exact HB.out | apply below_alloc | apply pw_below_drewN | apply below_drew1) | exact HB.out)) hb); have n1_ := Aside0.mk (hbox); have n2_ := Aside0.mk ((by rw [hg]; exact (below_size (by repeat (first | (with_reducible first | exact HB.out | apply below_alloc | apply pw_below_drewN | apply below_drew1) | exact HB.out))) : w.heap.size ≤ gb101)); have n3_ := Aside0.mk ((by rw [hg]; exact (below_size (by repeat (first | (with_reducible first | exact HB.out | apply below_alloc | apply pw_below_drewN | apply below_drew1) | exact HB.out))) : w.heap.size ≤ gb101)); clear HB; have HB := n0_; have BK101 := n1_; have GW101 := n2_; have GE101 := n3_; clear n0_ n1_ n2_ n3_; clear hb hbox hg; have hcz6_0 : w5.cell? ⟨gb101, 0, none⟩ = some (.int .i8 a0_0) := (blk_cell BK101.out 0).trans rfl; have hcz6_1 : w5.cell? ⟨gb101, 1, none⟩ = some (.int .i8 a0_1) := (blk_cell BK101.out 1).trans rfl; have hcz6_2 : w5.cell? ⟨gb101, 2, none⟩ = some (.slice A0_2 l0_2.length c0_2) := (blk_cell BK101.out 2).trans rfl; have hfz6_0 := blk_frozen BK101.out 0; have hfz6_1 := blk_frozen BK101.out 1; have hfz6_2 := blk_frozen BK101.out 2) | ((with_reducible refine gate_callee (f := 28) rfl ?_); refine goesL_ (some 8) rfl rfl Tryd.func28 (by kernel_rfl) rfl #[.slice A0_2 l0_2.length c0_2, .int .i64 a1] rfl (by (try simp only [List.map_toArray, List.map_cons, List.map_nil]); first | done | rfl | (simp only [List.length_drop, List.length_take]; rfl)) ?_; (with_reducible refine (laws_szPieceS.calls _ _ l0_2 a1 t102 _ ?side1 ?side2 A3.out).mono ?_); (case side1 => repeat (first | exact (Kd.C_below HR0_2.out HB.out) | (with_reducible refine Kd.C_alloc ?_ _) | (with_reducible refine Kd.C_drewN ?_ _) | (with_reducible refine Kd.C_drew ?_))); (case side2 => exact HC0_2.out); rintro e w' ⟨rfl, ⟨nd, rfl⟩⟩; refine ⟨_, rfl, ?_⟩))
    go_ret
    exact ⟨by first | rfl | (simp [errW_none, errW_some] <;> rfl) | (simp [*, errW_none, errW_some] <;> rfl), by repeat (first | (with_reducible first | exact HB.out | apply below_alloc | apply pw_below_drewN | apply below_drew1 | refine below_set ?_ GE101.out) | exact HB.out)⟩
  · rw [if_neg c4] at H
    have c4b0 : decide (t102 < 0) = false := decide_eq_false c4
    clear c4
    obtain rfl := Option.some.inj H
    go_enter Tryd.func10, Tryd.ntmps10
    go_wp2_with (first | ((with_reducible refine gate_dst (N := 2) rfl ?_); refine box_event ?hg (N := 2) ?hd (cs := #[.int .i8 a0_0, .int .i8 a0_1, .slice A0_2 l0_2.length c0_2]) (t := 32) ?hr ?_; (case hd => rfl); (case hg => rfl); (case hr => first | (go_simp; done) | (go_simp; rfl)); intro gb101 hg w7 hbox hb; have n0_ := Aside0.mk (below_step (by repeat (first | (with_reducible first | exact HB.out | apply below_alloc | apply pw_below_drewN | apply below_drew1) | exact HB.out)) hb); have n1_ := Aside0.mk (hbox); have n2_ := Aside0.mk ((by rw [hg]; exact (below_size (by repeat (first | (with_reducible first | exact HB.out | apply below_alloc | apply pw_below_drewN | apply below_drew1) | exact HB.out))) : w.heap.size ≤ gb101)); have n3_ := Aside0.mk ((by rw [hg]; exact (below_size (by repeat (first | (with_reducible first | exact HB.out | apply below_alloc | apply pw_below_drewN | apply below_drew1) | exact HB.out))) : w.heap.size ≤ gb101)); clear HB; have HB := n0_; have BK101 := n1_; have GW101 := n2_; have GE101 := n3_; clear n0_ n1_ n2_ n3_; clear hb hbox hg; have hcz8_0 : w7.cell? ⟨gb101, 0, none⟩ = some (.int .i8 a0_0) := (blk_cell BK101.out 0).trans rfl; have hcz8_1 : w7.cell? ⟨gb101, 1, none⟩ = some (.int .i8 a0_1) := (blk_cell BK101.out 1).trans rfl; have hcz8_2 : w7.cell? ⟨gb101, 2, none⟩ = some (.slice A0_2 l0_2.length c0_2) := (blk_cell BK101.out 2).trans rfl; have hfz8_0 := blk_frozen BK101.out 0; have hfz8_1 := blk_frozen BK101.out 1; have hfz8_2 := blk_frozen BK101.out 2) | ((with_reducible refine gate_callee (f := 28) rfl ?_); refine goesL_ (some 8) rfl rfl Tryd.func28 (by kernel_rfl) rfl #[.slice A0_2 l0_2.length c0_2, .int .i64 a1] rfl (by (try simp only [List.map_toArray, List.map_cons, List.map_nil]); first | done | rfl | (simp only [List.length_drop, List.length_take]; rfl)) ?_; (with_reducible refine (laws_szPieceS.calls _ _ l0_2 a1 t102 _ ?side1 ?side2 A3.out).mono ?_); (case side1 => repeat (first | exact (Kd.C_below HR0_2.out HB.out) | (with_reducible refine Kd.C_alloc ?_ _) | (with_reducible refine Kd.C_drewN ?_ _) | (with_reducible refine Kd.C_drew ?_))); (case side2 => exact HC0_2.out); rintro e w' ⟨rfl, ⟨nd, rfl⟩⟩; refine ⟨_, rfl, ?_⟩))
    go_ret
    exact ⟨by first | rfl | (simp [errW_none, errW_some] <;> rfl) | (simp [*, errW_none, errW_some] <;> rfl), by repeat (first | (with_reducible first | exact HB.out | apply below_alloc | apply pw_below_drewN | apply below_drew1 | refine below_set ?_ GE101.out) | exact HB.out)⟩

/-! ### spec_l00In: function 46 -/
def spec_l00In.f (a0 : Int) (a1 : Int) (a2 : Int) : Option (Bool) := if a0 ≥ a1 then (some (decide (a0 ≤ a2))) else (some false)
set_option maxHeartbeats 8000000 in
set_option maxRecDepth 100000 in
theorem spec_l00In.calls (a0 : Int) (a1 : Int) (a2 : Int) (r : Bool) (w : World) (h : spec_l00In.f a0 a1 a2 = some r) :
    Calls Tryd.prog 46 #[.int .i64 a0, .int .i64 a1, .int .i64 a2] w fun e w' => e = .returned (.bool r) ∧ Drawn0 w w' := by
  have H : (if a0 ≥ a1 then (some (decide (a0 ≤ a2))) else (some false)) = some r := h
  clear h
  by_cases c4 : a0 ≥ a1
  · rw [if_pos c4] at H
    have c4b0 : decide (a1 ≤ a0) = true := decide_eq_true c4
    clear c4
    obtain rfl := Option.some.inj H
    go_enter Tryd.func46, Tryd.ntmps46
    go_wp2
    go_ret
    exact ⟨by first | rfl | (simp; done) | (simp [*]; done) | (exact congrArg (Value.int .i64) (wrap_eq (by omega))), by repeat (first | exact Drawn0.refl _ | apply Drawn0.step)⟩
  · rw [if_neg c4] at H
    have c4b0 : decide (a1 ≤ a0) = false := decide_eq_false c4
    clear c4
    obtain rfl := Option.some.inj H
    go_enter Tryd.func46, Tryd.ntmps46
    go_wp2
    go_ret
    exact ⟨by first | rfl | (simp; done) | (simp [*]; done) | (exact congrArg (Value.int .i64) (wrap_eq (by omega))), by repeat (first | exact Drawn0.refl _ | apply Drawn0.step)⟩

/-! ### spec_l01In: function 48 -/
def spec_l01In.f (a0_0 : Int) (a0_1 : Int) (a1 : Int) (a2 : Int) : Option (Bool) := (spec_l00In.f (wrap64 (a0_0)) 0 (wrap64 (a1 - 1))).bind fun t104 => (if t104 = true then ((spec_l00In.f (wrap64 (a0_1)) 0 (wrap64 (a2 - 1))).bind fun t105 => (some t105)) else (some false))
set_option maxHeartbeats 8000000 in
set_option maxRecDepth 100000 in
theorem spec_l01In.calls (a0_0 : Int) (a0_1 : Int) (a1 : Int) (a2 : Int) (r : Bool) (w : World) (h : spec_l01In.f a0_0 a0_1 a1 a2 = some r) :
    Calls Tryd.prog 48 #[.agg #[.int .i8 a0_0, .int .i8 a0_1], .int .i64 a1, .int .i64 a2] w fun e w' => e = .returned (.bool r) ∧ Below w.heap.size w w' := by
  have hu43 := Tryd.underlying43
  have HB := Aside0.mk (Below.refl w.heap.size w)
  have H : ((spec_l00In.f (wrap64 (a0_0)) 0 (wrap64 (a1 - 1))).bind fun t104 => (if t104 = true then ((spec_l00In.f (wrap64 (a0_1)) 0 (wrap64 (a2 - 1))).bind fun t105 => (some t105)) else (some false))) = some r := h
  clear h
  replace H := Option.bind_eq_some_iff.mp H
  obtain ⟨t104, A40, H⟩ := H
  replace H : (if t104 = true then ((spec_l00In.f (wrap64 (a0_1)) 0 (wrap64 (a2 - 1))).bind fun t105 => (some t105)) else (some false)) = some r := H
  have A4 := Aside0.mk A40
  clear A40
  by_cases c5 : t104 = true
  · subst c5
    have H1 : ((spec_l00In.f (wrap64 (a0_1)) 0 (wrap64 (a2 - 1))).bind fun t105 => (some t105)) = some r := by rw [if_pos rfl] at H; exact H
    clear H
    have H := H1
    clear H1
    replace H := Option.bind_eq_some_iff.mp H
    obtain ⟨t105, A60, H⟩ := H
    replace H : (some t105) = some r := H
    have A6 := Aside0.mk A60
    clear A60
    obtain rfl := Option.some.inj H
    go_enter Tryd.func48, Tryd.ntmps48
    go_wp2_with (first | ((with_reducible refine gate_dst (N := 3) rfl ?_); refine box_event ?hg (N := 3) ?hd (cs := #[.int .i8 a0_0, .int .i8 a0_1]) (t := 43) ?hr ?_; (case hd => rfl); (case hg => rfl); (case hr => first | (go_simp; done) | (go_simp; rfl)); intro gb103 hg w7 hbox hb; have n0_ := Aside0.mk (below_step (by repeat (first | (with_reducible first | exact HB.out | apply below_alloc | apply pw_below_drewN | apply below_drew1) | exact HB.out)) hb); have n1_ := Aside0.mk (hbox); have n2_ := Aside0.mk ((by rw [hg]; exact (below_size (by repeat (first | (with_reducible first | exact HB.out | apply below_alloc | apply pw_below_drewN | apply below_drew1) | exact HB.out))) : w.heap.size ≤ gb103)); have n3_ := Aside0.mk ((by rw [hg]; exact (below_size (by repeat (first | (with_reducible first | exact HB.out | apply below_alloc | apply pw_below_drewN | apply below_drew1) | exact HB.out))) : w.heap.size ≤ gb103)); clear HB; have HB := n0_; have BK103 := n1_; have GW103 := n2_; have GE103 := n3_; clear n0_ n1_ n2_ n3_; clear hb hbox hg; have hcz8_0 : w7.cell? ⟨gb103, 0, none⟩ = some (.int .i8 a0_0) := (blk_cell BK103.out 0).trans rfl; have hcz8_1 : w7.cell? ⟨gb103, 1, none⟩ = some (.int .i8 a0_1) := (blk_cell BK103.out 1).trans rfl; have hfz8_0 := blk_frozen BK103.out 0; have hfz8_1 := blk_frozen BK103.out 1) | ((with_reducible refine gate_callee (f := 46) rfl ?_); refine goesL_ (some 12) rfl rfl Tryd.func46 (by kernel_rfl) rfl #[.int .i64 (wrap64 (a0_0)), .int .i64 0, .int .i64 (wrap64 (a1 - 1))] rfl (by (try simp only [List.map_toArray, List.map_cons, List.map_nil]); first | done | rfl | (simp only [List.length_drop, List.length_take]; rfl)) ?_; (with_reducible refine (spec_l00In.calls (wrap64 (a0_0)) 0 (wrap64 (a1 - 1)) true _ A4.out).mono ?_); rintro e w' ⟨rfl, ⟨nd, rfl⟩⟩; refine ⟨_, rfl, ?_⟩) | (go_at_call 46; (with_reducible refine (spec_l00In.calls (wrap64 (a0_1)) 0 (wrap64 (a2 - 1)) t105 _ A6.out).mono ?_); rintro e w' ⟨rfl, ⟨nd, rfl⟩⟩))
    go_ret
    exact ⟨by first | rfl | (simp [errW_none, errW_some] <;> rfl) | (simp [*, errW_none, errW_some] <;> rfl), by repeat (first | (with_reducible first | exact HB.out | apply below_alloc | apply pw_below_drewN | apply below_drew1 | refine below_set ?_ GE103.out) | exact HB.out)⟩
  · replace c5 := Bool.eq_false_iff.mpr c5
    subst c5
    have H1 : (some false) = some r := by rw [if_neg (show ¬ (false = true) by decide)] at H; exact H
    clear H
    have H := H1
    clear H1
    obtain rfl := Option.some.inj H
    go_enter Tryd.func48, Tryd.ntmps48
    go_wp2_with (first | ((with_reducible refine gate_dst (N := 3) rfl ?_); refine box_event ?hg (N := 3) ?hd (cs := #[.int .i8 a0_0, .int .i8 a0_1]) (t := 43) ?hr ?_; (case hd => rfl); (case hg => rfl); (case hr => first | (go_simp; done) | (go_simp; rfl)); intro gb103 hg w9 hbox hb; have n0_ := Aside0.mk (below_step (by repeat (first | (with_reducible first | exact HB.out | apply below_alloc | apply pw_below_drewN | apply below_drew1) | exact HB.out)) hb); have n1_ := Aside0.mk (hbox); have n2_ := Aside0.mk ((by rw [hg]; exact (below_size (by repeat (first | (with_reducible first | exact HB.out | apply below_alloc | apply pw_below_drewN | apply below_drew1) | exact HB.out))) : w.heap.size ≤ gb103)); have n3_ := Aside0.mk ((by rw [hg]; exact (below_size (by repeat (first | (with_reducible first | exact HB.out | apply below_alloc | apply pw_below_drewN | apply below_drew1) | exact HB.out))) : w.heap.size ≤ gb103)); clear HB; have HB := n0_; have BK103 := n1_; have GW103 := n2_; have GE103 := n3_; clear n0_ n1_ n2_ n3_; clear hb hbox hg; have hcz10_0 : w9.cell? ⟨gb103, 0, none⟩ = some (.int .i8 a0_0) := (blk_cell BK103.out 0).trans rfl; have hcz10_1 : w9.cell? ⟨gb103, 1, none⟩ = some (.int .i8 a0_1) := (blk_cell BK103.out 1).trans rfl; have hfz10_0 := blk_frozen BK103.out 0; have hfz10_1 := blk_frozen BK103.out 1) | ((with_reducible refine gate_callee (f := 46) rfl ?_); refine goesL_ (some 12) rfl rfl Tryd.func46 (by kernel_rfl) rfl #[.int .i64 (wrap64 (a0_0)), .int .i64 0, .int .i64 (wrap64 (a1 - 1))] rfl (by (try simp only [List.map_toArray, List.map_cons, List.map_nil]); first | done | rfl | (simp only [List.length_drop, List.length_take]; rfl)) ?_; (with_reducible refine (spec_l00In.calls (wrap64 (a0_0)) 0 (wrap64 (a1 - 1)) false _ A4.out).mono ?_); rintro e w' ⟨rfl, ⟨nd, rfl⟩⟩; refine ⟨_, rfl, ?_⟩))
    go_ret
    exact ⟨by first | rfl | (simp [errW_none, errW_some] <;> rfl) | (simp [*, errW_none, errW_some] <;> rfl), by repeat (first | (with_reducible first | exact HB.out | apply below_alloc | apply pw_below_drewN | apply below_drew1 | refine below_set ?_ GE103.out) | exact HB.out)⟩

/-! ### spec_l01Piece: function 47 -/
def spec_l01Piece.f (l0 : List (S85)) : Option (Bool) := if 0 < (l0.length : Int) then ((spec_l00In.f (wrap64 ((rd_T85 l0 0).f1)) 0 5).bind fun t107 => (if t107 = true then ((spec_l00In.f (wrap64 ((rd_T85 l0 0).f2)) 0 3).bind fun t109 => (if t109 = true then ((spec_l00In.f (wrap64 ((rd_T85 l0 0).f3)) 1 9).bind fun t111 => (if t111 = true then ((spec_l01In.f ((rd_T85 l0 0).f0.f0) ((rd_T85 l0 0).f0.f1) 24 24).bind fun t113 => (some t113)) else (some false))) else (some false))) else (some false))) else (none)
set_option maxHeartbeats 8000000 in
set_option maxRecDepth 100000 in
theorem spec_l01Piece.calls (adp0 : Addr) (l0 : List (S85)) (r : Bool) (w : World) (hr0 : Kd.C k85 w (some adp0) l0.length l0) (h : spec_l01Piece.f l0 = some r) :
    Calls Tryd.prog 47 #[.pointer (some adp0)] w fun e w' => e = .returned (.bool r) ∧ Below w.heap.size w w' := by
  have hu43 := Tryd.underlying43
  have HR0 := Aside0.mk hr0
  clear hr0
  have HB := Aside0.mk (Below.refl w.heap.size w)
  have H : (if 0 < (l0.length : Int) then ((spec_l00In.f (wrap64 ((rd_T85 l0 0).f1)) 0 5).bind fun t107 => (if t107 = true then ((spec_l00In.f (wrap64 ((rd_T85 l0 0).f2)) 0 3).bind fun t109 => (if t109 = true then ((spec_l00In.f (wrap64 ((rd_T85 l0 0).f3)) 1 9).bind fun t111 => (if t111 = true then ((spec_l01In.f ((rd_T85 l0 0).f0.f0) ((rd_T85 l0 0).f0.f1) 24 24).bind fun t113 => (some t113)) else (some false))) else (some false))) else (some false))) else (none)) = some r := h
  clear h
  by_cases c2 : 0 < (l0.length : Int)
  · rw [if_pos c2] at H
    have c2b0 : decide (0 < (l0.length : Int)) = true := decide_eq_true c2
    have c2b1 : decide (0 < l0.length) = true := decide_eq_true (by omega)
    clear c2
    replace H := Option.bind_eq_some_iff.mp H
    obtain ⟨t107, A30, H⟩ := H
    replace H : (if t107 = true then ((spec_l00In.f (wrap64 ((rd_T85 l0 0).f2)) 0 3).bind fun t109 => (if t109 = true then ((spec_l00In.f (wrap64 ((rd_T85 l0 0).f3)) 1 9).bind fun t111 => (if t111 = true then ((spec_l01In.f ((rd_T85 l0 0).f0.f0) ((rd_T85 l0 0).f0.f1) 24 24).bind fun t113 => (some t113)) else (some false))) else (some false))) else (some false)) = some r := H
    have A3 := Aside0.mk A30
    clear A30
    by_cases c4 : t107 = true
    · subst c4
      have H1 : ((spec_l00In.f (wrap64 ((rd_T85 l0 0).f2)) 0 3).bind fun t109 => (if t109 = true then ((spec_l00In.f (wrap64 ((rd_T85 l0 0).f3)) 1 9).bind fun t111 => (if t111 = true then ((spec_l01In.f ((rd_T85 l0 0).f0.f0) ((rd_T85 l0 0).f0.f1) 24 24).bind fun t113 => (some t113)) else (some false))) else (some false))) = some r := by rw [if_pos rfl] at H; exact H
      clear H
      have H := H1
      clear H1
      replace H := Option.bind_eq_some_iff.mp H
      obtain ⟨t109, A50, H⟩ := H
      replace H : (if t109 = true then ((spec_l00In.f (wrap64 ((rd_T85 l0 0).f3)) 1 9).bind fun t111 => (if t111 = true then ((spec_l01In.f ((rd_T85 l0 0).f0.f0) ((rd_T85 l0 0).f0.f1) 24 24).bind fun t113 => (some t113)) else (some false))) else (some false)) = some r := H
      have A5 := Aside0.mk A50
      clear A50
      by_cases c6 : t109 = true
      · subst c6
        have H1 : ((spec_l00In.f (wrap64 ((rd_T85 l0 0).f3)) 1 9).bind fun t111 => (if t111 = true then ((spec_l01In.f ((rd_T85 l0 0).f0.f0) ((rd_T85 l0 0).f0.f1) 24 24).bind fun t113 => (some t113)) else (some false))) = some r := by rw [if_pos rfl] at H; exact H
        clear H
        have H := H1
        clear H1
        replace H := Option.bind_eq_some_iff.mp H
        obtain ⟨t111, A70, H⟩ := H
        replace H : (if t111 = true then ((spec_l01In.f ((rd_T85 l0 0).f0.f0) ((rd_T85 l0 0).f0.f1) 24 24).bind fun t113 => (some t113)) else (some false)) = some r := H
        have A7 := Aside0.mk A70
        clear A70
        by_cases c8 : t111 = true
        · subst c8
          have H1 : ((spec_l01In.f ((rd_T85 l0 0).f0.f0) ((rd_T85 l0 0).f0.f1) 24 24).bind fun t113 => (some t113)) = some r := by rw [if_pos rfl] at H; exact H
          clear H
          have H := H1
          clear H1
          replace H := Option.bind_eq_some_iff.mp H
          obtain ⟨t113, A90, H⟩ := H
          replace H : (some t113) = some r := H
          have A9 := Aside0.mk A90
          clear A90
          obtain rfl := Option.some.inj H
          have p106 : 0 ≤ (0 : Int) := (by omega)
          have q106 : 0 < (l0.length : Int) := of_decide_eq_true (by first | (with_reducible assumption) | assumption)
          obtain ⟨ad106, e106, hx106_0, hx106_1, hx106_2, hx106_3, hx106_4⟩ := at_T85 HR0.out 0 p106 q106
          obtain rfl : adp0 = ad106 := (by injection e106)
          have qi106 : (0 < l0.length) = True := eq_true (by omega)
          (try rw [show ((0 : Int)).toNat = 0 from rfl] at hx106_0)
          (try rw [show 0 * 5 = 0 from rfl] at hx106_0)
          (try rw [Addr.add_zero'] at hx106_0)
          (try rw [show ((0 : Int)).toNat = 0 from rfl] at hx106_1)
          (try rw [show 0 * 5 = 0 from rfl] at hx106_1)
          (try rw [Addr.add_zero'] at hx106_1)
          (try rw [show ((0 : Int)).toNat = 0 from rfl] at hx106_2)
          (try rw [show 0 * 5 = 0 from rfl] at hx106_2)
          (try rw [Addr.add_zero'] at hx106_2)
          (try rw [show ((0 : Int)).toNat = 0 from rfl] at hx106_3)
          (try rw [show 0 * 5 = 0 from rfl] at hx106_3)
          (try rw [Addr.add_zero'] at hx106_3)
          (try rw [show ((0 : Int)).toNat = 0 from rfl] at hx106_4)
          (try rw [show 0 * 5 = 0 from rfl] at hx106_4)
          (try rw [Addr.add_zero'] at hx106_4)
          replace p106 := eq_true p106
          replace q106 := eq_true q106
          go_enter Tryd.func47, Tryd.ntmps47
          go_wp2_with (first | ((with_reducible refine gate_callee (f := 46) rfl ?_); refine goesL_ (some 8) rfl rfl Tryd.func46 (by kernel_rfl) rfl #[.int .i64 (wrap64 ((rd_T85 l0 0).f1)), .int .i64 0, .int .i64 5] rfl (by (try simp only [List.map_toArray, List.map_cons, List.map_nil]); first | done | rfl | (simp only [List.length_drop, List.length_take]; rfl)) ?_; (with_reducible refine (spec_l00In.calls (wrap64 ((rd_T85 l0 0).f1)) 0 5 true _ A3.out).mono ?_); rintro e w' ⟨rfl, ⟨nd, rfl⟩⟩; refine ⟨_, rfl, ?_⟩; have p108 : 0 ≤ (0 : Int) := (by omega); have q108 : 0 < (l0.length : Int) := of_decide_eq_true (by first | (with_reducible assumption) | assumption); obtain ⟨ad108, e108, hx108_0, hx108_1, hx108_2, hx108_3, hx108_4⟩ := at_T85 HR0.out 0 p108 q108; obtain rfl : adp0 = ad108 := (by injection e108); have qi108 : (0 < l0.length) = True := eq_true (by omega); (try rw [show ((0 : Int)).toNat = 0 from rfl] at hx108_0); (try rw [show 0 * 5 = 0 from rfl] at hx108_0); (try rw [Addr.add_zero'] at hx108_0); (try rw [show ((0 : Int)).toNat = 0 from rfl] at hx108_1); (try rw [show 0 * 5 = 0 from rfl] at hx108_1); (try rw [Addr.add_zero'] at hx108_1); (try rw [show ((0 : Int)).toNat = 0 from rfl] at hx108_2); (try rw [show 0 * 5 = 0 from rfl] at hx108_2); (try rw [Addr.add_zero'] at hx108_2); (try rw [show ((0 : Int)).toNat = 0 from rfl] at hx108_3); (try rw [show 0 * 5 = 0 from rfl] at hx108_3); (try rw [Addr.add_zero'] at hx108_3); (try rw [show ((0 : Int)).toNat = 0 from rfl] at hx108_4); (try rw [show 0 * 5 = 0 from rfl] at hx108_4); (try rw [Addr.add_zero'] at hx108_4); replace p108 := eq_true p108; replace q108 := eq_true q108) | (go_at_call 46; (with_reducible refine (spec_l00In.calls (wrap64 ((rd_T85 l0 0).f2)) 0 3 true _ A5.out).mono ?_); rintro e w' ⟨rfl, ⟨nd, rfl⟩⟩; have p110 : 0 ≤ (0 : Int) := (by omega); have q110 : 0 < (l0.length : Int) := of_decide_eq_true (by first | (with_reducible assumption) | assumption); obtain ⟨ad110, e110, hx110_0, hx110_1, hx110_2, hx110_3, hx110_4⟩ := at_T85 HR0.out 0 p110 q110; obtain rfl : adp0 = ad110 := (by injection e110); have qi110 : (0 < l0.length) = True := eq_true (by omega); (try rw [show ((0 : Int)).toNat = 0 from rfl] at hx110_0); (try rw [show 0 * 5 = 0 from rfl] at hx110_0); (try rw [Addr.add_zero'] at hx110_0); (try rw [show ((0 : Int)).toNat = 0 from rfl] at hx110_1); (try rw [show 0 * 5 = 0 from rfl] at hx110_1); (try rw [Addr.add_zero'] at hx110_1); (try rw [show ((0 : Int)).toNat = 0 from rfl] at hx110_2); (try rw [show 0 * 5 = 0 from rfl] at hx110_2); (try rw [Addr.add_zero'] at hx110_2); (try rw [show ((0 : Int)).toNat = 0 from rfl] at hx110_3); (try rw [show 0 * 5 = 0 from rfl] at hx110_3); (try rw [Addr.add_zero'] at hx110_3); (try rw [show ((0 : Int)).toNat = 0 from rfl] at hx110_4); (try rw [show 0 * 5 = 0 from rfl] at hx110_4); (try rw [Addr.add_zero'] at hx110_4); replace p110 := eq_true p110; replace q110 := eq_true q110) | (go_at_call 46; (with_reducible refine (spec_l00In.calls (wrap64 ((rd_T85 l0 0).f3)) 1 9 true _ A7.out).mono ?_); rintro e w' ⟨rfl, ⟨nd, rfl⟩⟩; have p112 : 0 ≤ (0 : Int) := (by omega); have q112 : 0 < (l0.length : Int) := of_decide_eq_true (by first | (with_reducible assumption) | assumption); obtain ⟨ad112, e112, hx112_0, hx112_1, hx112_2, hx112_3, hx112_4⟩ := at_T85 HR0.out 0 p112 q112; obtain rfl : adp0 = ad112 := (by injection e112); have qi112 : (0 < l0.length) = True := eq_true (by omega); (try rw [show ((0 : Int)).toNat = 0 from rfl] at hx112_0); (try rw [show 0 * 5 = 0 from rfl] at hx112_0); (try rw [Addr.add_zero'] at hx112_0); (try rw [show ((0 : Int)).toNat = 0 from rfl] at hx112_1); (try rw [show 0 * 5 = 0 from rfl] at hx112_1); (try rw [Addr.add_zero'] at hx112_1); (try rw [show ((0 : Int)).toNat = 0 from rfl] at hx112_2); (try rw [show 0 * 5 = 0 from rfl] at hx112_2); (try rw [Addr.add_zero'] at hx112_2); (try rw [show ((0 : Int)).toNat = 0 from rfl] at hx112_3); (try rw [show 0 * 5 = 0 from rfl] at hx112_3); (try rw [Addr.add_zero'] at hx112_3); (try rw [show ((0 : Int)).toNat = 0 from rfl] at hx112_4); (try rw [show 0 * 5 = 0 from rfl] at hx112_4); (try rw [Addr.add_zero'] at hx112_4); replace p112 := eq_true p112; replace q112 := eq_true q112) | (go_at_call 48; (with_reducible refine (spec_l01In.calls ((rd_T85 l0 0).f0.f0) ((rd_T85 l0 0).f0.f1) 24 24 t113 _ A9.out).mono ?_); rintro e w10 ⟨rfl, hb⟩; have n0_ := Aside0.mk (below_step (by repeat (first | (with_reducible first | exact HB.out | apply below_alloc | apply pw_below_drewN | apply below_drew1) | exact HB.out)) hb); clear HB; have HB := n0_; clear n0_; (try clear hb); (try clear hb2); (try clear hk); (try clear hi)))
          go_ret
          exact ⟨by first | rfl | (simp [errW_none, errW_some] <;> rfl) | (simp [*, errW_none, errW_some] <;> rfl), by repeat (first | (with_reducible first | exact HB.out | apply below_alloc | apply pw_below_drewN | apply below_drew1) | exact HB.out)⟩
        · replace c8 := Bool.eq_false_iff.mpr c8
          subst c8
          have H1 : (some false) = some r := by rw [if_neg (show ¬ (false = true) by decide)] at H; exact H
          clear H
          have H := H1
          clear H1
          obtain rfl := Option.some.inj H
          have p106 : 0 ≤ (0 : Int) := (by omega)
          have q106 : 0 < (l0.length : Int) := of_decide_eq_true (by first | (with_reducible assumption) | assumption)
          obtain ⟨ad106, e106, hx106_0, hx106_1, hx106_2, hx106_3, hx106_4⟩ := at_T85 HR0.out 0 p106 q106
          obtain rfl : adp0 = ad106 := (by injection e106)
          have qi106 : (0 < l0.length) = True := eq_true (by omega)
          (try rw [show ((0 : Int)).toNat = 0 from rfl] at hx106_0)
          (try rw [show 0 * 5 = 0 from rfl] at hx106_0)
          (try rw [Addr.add_zero'] at hx106_0)
          (try rw [show ((0 : Int)).toNat = 0 from rfl] at hx106_1)
          (try rw [show 0 * 5 = 0 from rfl] at hx106_1)
          (try rw [Addr.add_zero'] at hx106_1)
          (try rw [show ((0 : Int)).toNat = 0 from rfl] at hx106_2)
          (try rw [show 0 * 5 = 0 from rfl] at hx106_2)
          (try rw [Addr.add_zero'] at hx106_2)
          (try rw [show ((0 : Int)).toNat = 0 from rfl] at hx106_3)
          (try rw [show 0 * 5 = 0 from rfl] at hx106_3)
          (try rw [Addr.add_zero'] at hx106_3)
          (try rw [show ((0 : Int)).toNat = 0 from rfl] at hx106_4)
          (try rw [show 0 * 5 = 0 from rfl] at hx106_4)
          (try rw [Addr.add_zero'] at hx106_4)
          replace p106 := eq_true p106
          replace q106 := eq_true q106
          go_enter Tryd.func47, Tryd.ntmps47
          go_wp2_with (first | ((with_reducible refine gate_callee (f := 46) rfl ?_); refine goesL_ (some 8) rfl rfl Tryd.func46 (by kernel_rfl) rfl #[.int .i64 (wrap64 ((rd_T85 l0 0).f1)), .int .i64 0, .int .i64 5] rfl (by (try simp only [List.map_toArray, List.map_cons, List.map_nil]); first | done | rfl | (simp only [List.length_drop, List.length_take]; rfl)) ?_; (with_reducible refine (spec_l00In.calls (wrap64 ((rd_T85 l0 0).f1)) 0 5 true _ A3.out).mono ?_); rintro e w' ⟨rfl, ⟨nd, rfl⟩⟩; refine ⟨_, rfl, ?_⟩; have p108 : 0 ≤ (0 : Int) := (by omega); have q108 : 0 < (l0.length : Int) := of_decide_eq_true (by first | (with_reducible assumption) | assumption); obtain ⟨ad108, e108, hx108_0, hx108_1, hx108_2, hx108_3, hx108_4⟩ := at_T85 HR0.out 0 p108 q108; obtain rfl : adp0 = ad108 := (by injection e108); have qi108 : (0 < l0.length) = True := eq_true (by omega); (try rw [show ((0 : Int)).toNat = 0 from rfl] at hx108_0); (try rw [show 0 * 5 = 0 from rfl] at hx108_0); (try rw [Addr.add_zero'] at hx108_0); (try rw [show ((0 : Int)).toNat = 0 from rfl] at hx108_1); (try rw [show 0 * 5 = 0 from rfl] at hx108_1); (try rw [Addr.add_zero'] at hx108_1); (try rw [show ((0 : Int)).toNat = 0 from rfl] at hx108_2); (try rw [show 0 * 5 = 0 from rfl] at hx108_2); (try rw [Addr.add_zero'] at hx108_2); (try rw [show ((0 : Int)).toNat = 0 from rfl] at hx108_3); (try rw [show 0 * 5 = 0 from rfl] at hx108_3); (try rw [Addr.add_zero'] at hx108_3); (try rw [show ((0 : Int)).toNat = 0 from rfl] at hx108_4); (try rw [show 0 * 5 = 0 from rfl] at hx108_4); (try rw [Addr.add_zero'] at hx108_4); replace p108 := eq_true p108; replace q108 := eq_true q108) | (go_at_call 46; (with_reducible refine (spec_l00In.calls (wrap64 ((rd_T85 l0 0).f2)) 0 3 true _ A5.out).mono ?_); rintro e w' ⟨rfl, ⟨nd, rfl⟩⟩; have p110 : 0 ≤ (0 : Int) := (by omega); have q110 : 0 < (l0.length : Int) := of_decide_eq_true (by first | (with_reducible assumption) | assumption); obtain ⟨ad110, e110, hx110_0, hx110_1, hx110_2, hx110_3, hx110_4⟩ := at_T85 HR0.out 0 p110 q110; obtain rfl : adp0 = ad110 := (by injection e110); have qi110 : (0 < l0.length) = True := eq_true (by omega); (try rw [show ((0 : Int)).toNat = 0 from rfl] at hx110_0); (try rw [show 0 * 5 = 0 from rfl] at hx110_0); (try rw [Addr.add_zero'] at hx110_0); (try rw [show ((0 : Int)).toNat = 0 from rfl] at hx110_1); (try rw [show 0 * 5 = 0 from rfl] at hx110_1); (try rw [Addr.add_zero'] at hx110_1); (try rw [show ((0 : Int)).toNat = 0 from rfl] at hx110_2); (try rw [show 0 * 5 = 0 from rfl] at hx110_2); (try rw [Addr.add_zero'] at hx110_2); (try rw [show ((0 : Int)).toNat = 0 from rfl] at hx110_3); (try rw [show 0 * 5 = 0 from rfl] at hx110_3); (try rw [Addr.add_zero'] at hx110_3); (try rw [show ((0 : Int)).toNat = 0 from rfl] at hx110_4); (try rw [show 0 * 5 = 0 from rfl] at hx110_4); (try rw [Addr.add_zero'] at hx110_4); replace p110 := eq_true p110; replace q110 := eq_true q110) | (go_at_call 46; (with_reducible refine (spec_l00In.calls (wrap64 ((rd_T85 l0 0).f3)) 1 9 false _ A7.out).mono ?_); rintro e w' ⟨rfl, ⟨nd, rfl⟩⟩))
          go_ret
          exact ⟨by first | rfl | (simp [errW_none, errW_some] <;> rfl) | (simp [*, errW_none, errW_some] <;> rfl), by repeat (first | (with_reducible first | exact HB.out | apply below_alloc | apply pw_below_drewN | apply below_drew1) | exact HB.out)⟩
      · replace c6 := Bool.eq_false_iff.mpr c6
        subst c6
        have H1 : (some false) = some r := by rw [if_neg (show ¬ (false = true) by decide)] at H; exact H
        clear H
        have H := H1
        clear H1
        obtain rfl := Option.some.inj H
        have p106 : 0 ≤ (0 : Int) := (by omega)
        have q106 : 0 < (l0.length : Int) := of_decide_eq_true (by first | (with_reducible assumption) | assumption)
        obtain ⟨ad106, e106, hx106_0, hx106_1, hx106_2, hx106_3, hx106_4⟩ := at_T85 HR0.out 0 p106 q106
        obtain rfl : adp0 = ad106 := (by injection e106)
        have qi106 : (0 < l0.length) = True := eq_true (by omega)
        (try rw [show ((0 : Int)).toNat = 0 from rfl] at hx106_0)
        (try rw [show 0 * 5 = 0 from rfl] at hx106_0)
        (try rw [Addr.add_zero'] at hx106_0)
        (try rw [show ((0 : Int)).toNat = 0 from rfl] at hx106_1)
        (try rw [show 0 * 5 = 0 from rfl] at hx106_1)
        (try rw [Addr.add_zero'] at hx106_1)
        (try rw [show ((0 : Int)).toNat = 0 from rfl] at hx106_2)
        (try rw [show 0 * 5 = 0 from rfl] at hx106_2)
        (try rw [Addr.add_zero'] at hx106_2)
        (try rw [show ((0 : Int)).toNat = 0 from rfl] at hx106_3)
        (try rw [show 0 * 5 = 0 from rfl] at hx106_3)
        (try rw [Addr.add_zero'] at hx106_3)
        (try rw [show ((0 : Int)).toNat = 0 from rfl] at hx106_4)
        (try rw [show 0 * 5 = 0 from rfl] at hx106_4)
        (try rw [Addr.add_zero'] at hx106_4)
        replace p106 := eq_true p106
        replace q106 := eq_true q106
        go_enter Tryd.func47, Tryd.ntmps47
        go_wp2_with (first | ((with_reducible refine gate_callee (f := 46) rfl ?_); refine goesL_ (some 8) rfl rfl Tryd.func46 (by kernel_rfl) rfl #[.int .i64 (wrap64 ((rd_T85 l0 0).f1)), .int .i64 0, .int .i64 5] rfl (by (try simp only [List.map_toArray, List.map_cons, List.map_nil]); first | done | rfl | (simp only [List.length_drop, List.length_take]; rfl)) ?_; (with_reducible refine (spec_l00In.calls (wrap64 ((rd_T85 l0 0).f1)) 0 5 true _ A3.out).mono ?_); rintro e w' ⟨rfl, ⟨nd, rfl⟩⟩; refine ⟨_, rfl, ?_⟩; have p108 : 0 ≤ (0 : Int) := (by omega); have q108 : 0 < (l0.length : Int) := of_decide_eq_true (by first | (with_reducible assumption) | assumption); obtain ⟨ad108, e108, hx108_0, hx108_1, hx108_2, hx108_3, hx108_4⟩ := at_T85 HR0.out 0 p108 q108; obtain rfl : adp0 = ad108 := (by injection e108); have qi108 : (0 < l0.length) = True := eq_true (by omega); (try rw [show ((0 : Int)).toNat = 0 from rfl] at hx108_0); (try rw [show 0 * 5 = 0 from rfl] at hx108_0); (try rw [Addr.add_zero'] at hx108_0); (try rw [show ((0 : Int)).toNat = 0 from rfl] at hx108_1); (try rw [show 0 * 5 = 0 from rfl] at hx108_1); (try rw [Addr.add_zero'] at hx108_1); (try rw [show ((0 : Int)).toNat = 0 from rfl] at hx108_2); (try rw [show 0 * 5 = 0 from rfl] at hx108_2); (try rw [Addr.add_zero'] at hx108_2); (try rw [show ((0 : Int)).toNat = 0 from rfl] at hx108_3); (try rw [show 0 * 5 = 0 from rfl] at hx108_3); (try rw [Addr.add_zero'] at hx108_3); (try rw [show ((0 : Int)).toNat = 0 from rfl] at hx108_4); (try rw [show 0 * 5 = 0 from rfl] at hx108_4); (try rw [Addr.add_zero'] at hx108_4); replace p108 := eq_true p108; replace q108 := eq_true q108) | (go_at_call 46; (with_reducible refine (spec_l00In.calls (wrap64 ((rd_T85 l0 0).f2)) 0 3 false _ A5.out).mono ?_); rintro e w' ⟨rfl, ⟨nd, rfl⟩⟩))
        go_ret
        exact ⟨by first | rfl | (simp [errW_none, errW_some] <;> rfl) | (simp [*, errW_none, errW_some] <;> rfl), by repeat (first | (with_reducible first | exact HB.out | apply below_alloc | apply pw_below_drewN | apply below_drew1) | exact HB.out)⟩
    · replace c4 := Bool.eq_false_iff.mpr c4
      subst c4
      have H1 : (some false) = some r := by rw [if_neg (show ¬ (false = true) by decide)] at H; exact H
      clear H
      have H := H1
      clear H1
      obtain rfl := Option.some.inj H
      have p106 : 0 ≤ (0 : Int) := (by omega)
      have q106 : 0 < (l0.length : Int) := of_decide_eq_true (by first | (with_reducible assumption) | assumption)
      obtain ⟨ad106, e106, hx106_0, hx106_1, hx106_2, hx106_3, hx106_4⟩ := at_T85 HR0.out 0 p106 q106
      obtain rfl : adp0 = ad106 := (by injection e106)
      have qi106 : (0 < l0.length) = True := eq_true (by omega)
      (try rw [show ((0 : Int)).toNat = 0 from rfl] at hx106_0)
      (try rw [show 0 * 5 = 0 from rfl] at hx106_0)
      (try rw [Addr.add_zero'] at hx106_0)
      (try rw [show ((0 : Int)).toNat = 0 from rfl] at hx106_1)
      (try rw [show 0 * 5 = 0 from rfl] at hx106_1)
      (try rw [Addr.add_zero'] at hx106_1)
      (try rw [show ((0 : Int)).toNat = 0 from rfl] at hx106_2)
      (try rw [show 0 * 5 = 0 from rfl] at hx106_2)
      (try rw [Addr.add_zero'] at hx106_2)
      (try rw [show ((0 : Int)).toNat = 0 from rfl] at hx106_3)
      (try rw [show 0 * 5 = 0 from rfl] at hx106_3)
      (try rw [Addr.add_zero'] at hx106_3)
      (try rw [show ((0 : Int)).toNat = 0 from rfl] at hx106_4)
      (try rw [show 0 * 5 = 0 from rfl] at hx106_4)
      (try rw [Addr.add_zero'] at hx106_4)
      replace p106 := eq_true p106
      replace q106 := eq_true q106
      go_enter Tryd.func47, Tryd.ntmps47
      go_wp2_with (first | ((with_reducible refine gate_callee (f := 46) rfl ?_); refine goesL_ (some 8) rfl rfl Tryd.func46 (by kernel_rfl) rfl #[.int .i64 (wrap64 ((rd_T85 l0 0).f1)), .int .i64 0, .int .i64 5] rfl (by (try simp only [List.map_toArray, List.map_cons, List.map_nil]); first | done | rfl | (simp only [List.length_drop, List.length_take]; rfl)) ?_; (with_reducible refine (spec_l00In.calls (wrap64 ((rd_T85 l0 0).f1)) 0 5 false _ A3.out).mono ?_); rintro e w' ⟨rfl, ⟨nd, rfl⟩⟩; refine ⟨_, rfl, ?_⟩))
      go_ret
      exact ⟨by first | rfl | (simp [errW_none, errW_some] <;> rfl) | (simp [*, errW_none, errW_some] <;> rfl), by repeat (first | (with_reducible first | exact HB.out | apply below_alloc | apply pw_below_drewN | apply below_drew1) | exact HB.out)⟩
  · rw [if_neg c2] at H
    exact absurd H (by simp)

/-! ### spec_l01Find: function 49 -/
def spec_l01Find.l0 : Nat → List (S37) → Int → Int → Int → Option (Int)
  | 0, _, _, _, _ => none
  | k + 1, x0, x5, x115000, x115001 => if 0 < (x0.length : Int) then (if x5 < (((rd_T37 x0 0).f2).length : Int) then (if 0 ≤ x5 then (if (((rd_T85 ((rd_T37 x0 0).f2) x5).f0.f0) == x115000 && (((rd_T85 ((rd_T37 x0 0).f2) x5).f0.f1) == x115001)) = true then (some x5) else (spec_l01Find.l0 k x0 (wrap64 (x5 + 1)) x115000 x115001)) else (none)) else (some (-1))) else (none)
def spec_l01Find.f (k : Nat) (l0 : List (S37)) (a1_0 : Int) (a1_1 : Int) : Option (Int) := spec_l01Find.l0 k l0 0 a1_0 a1_1
theorem spec_l01Find.mono_l : ∀ k, (∀ y0 y1 y2 y3, LeO (spec_l01Find.l0 k y0 y1 y2 y3) (spec_l01Find.l0 (k + 1) y0 y1 y2 y3))
  | 0 => fun _ _ _ _ r h => by simp [spec_l01Find.l0] at h
  | k + 1 => by
    have ih0 := spec_l01Find.mono_l k
    · intro y0 y1 y2 y3
      unfold spec_l01Find.l0
      repeat' first
      | (with_reducible exact ih0 _ _ _ _)
      | (with_reducible exact LeO.refl _)
      | (with_reducible exact LeO.none _)
      | (with_reducible refine LeO.ite ?_ ?_)
      | (with_reducible refine LeO.bind ?_ (fun _ => ?_))
      | exact ih0 _ _ _ _
      | exact LeO.none _
      | refine LeO.ite ?_ ?_
      | refine LeO.bind ?_ (fun _ => ?_)
theorem spec_l01Find.mono : ∀ a0 a1 a2 k, LeO (spec_l01Find.f k a0 a1 a2) (spec_l01Find.f (k + 1) a0 a1 a2) := by
  intro a0 a1 a2 k
  have ih0 := spec_l01Find.mono_l k
  unfold spec_l01Find.f
  repeat' first
      | (with_reducible exact ih0 _ _ _ _)
      | (with_reducible exact LeO.refl _)
      | (with_reducible exact LeO.none _)
      | (with_reducible refine LeO.ite ?_ ?_)
      | (with_reducible refine LeO.bind ?_ (fun _ => ?_))
      | exact ih0 _ _ _ _
      | exact LeO.none _
      | refine LeO.ite ?_ ?_
      | refine LeO.bind ?_ (fun _ => ?_)
set_option maxHeartbeats 8000000 in
set_option maxRecDepth 100000 in
theorem spec_l01Find.calls (k : Nat) (adp0 : Addr) (l0 : List (S37)) (a1_0 : Int) (a1_1 : Int) (r : Int) (w : World) (hr0 : Kd.C k37 w (some adp0) l0.length l0) (h : spec_l01Find.f k l0 a1_0 a1_1 = some r) :
    Calls Tryd.prog 49 #[.pointer (some adp0), .agg #[.int .i8 a1_0, .int .i8 a1_1]] w fun e w' => e = .returned (.int .i64 r) ∧ Below w.heap.size w w' := by
  have hu43 := Tryd.underlying43
  have HR0 := Aside0.mk hr0
  clear hr0
  have HB := Aside0.mk (Below.refl w.heap.size w)
  have H : (spec_l01Find.l0 k l0 0 a1_0 a1_1) = some r := h
  clear h
  have H' := Aside0.mk H
  clear H
  go_enter Tryd.func49, Tryd.ntmps49
  go_wp2_with (first | ((with_reducible refine gate_dst (N := 3) rfl ?_); refine box_event ?hg (N := 3) ?hd (cs := #[.int .i8 a1_0, .int .i8 a1_1]) (t := 43) ?hr ?_; (case hd => rfl); (case hg => rfl); (case hr => first | (go_simp; done) | (go_simp; rfl)); intro gb114 hg w3 hbox hb; have n0_ := Aside0.mk (below_step (by repeat (first | (with_reducible first | exact HB.out | apply below_alloc | apply pw_below_drewN | apply below_drew1) | exact HB.out)) hb); have n1_ := Aside0.mk (hbox); have n2_ := Aside0.mk ((by rw [hg]; exact (below_size (by repeat (first | (with_reducible first | exact HB.out | apply below_alloc | apply pw_below_drewN | apply below_drew1) | exact HB.out))) : w.heap.size ≤ gb114)); have n3_ := Aside0.mk ((by rw [hg]; exact (below_size (by repeat (first | (with_reducible first | exact HB.out | apply below_alloc | apply pw_below_drewN | apply below_drew1) | exact HB.out))) : w.heap.size ≤ gb114)); clear HB; have HB := n0_; have BK114 := n1_; have GW114 := n2_; have GE114 := n3_; clear n0_ n1_ n2_ n3_; clear hb hbox hg))
  repeat (go_quiet (first | ((with_reducible refine gate_dst (N := 3) rfl ?_); refine box_event ?hg (N := 3) ?hd (cs := #[.int .i8 a1_0, .int .i8 a1_1]) (t := 43) ?hr ?_; (case hd => rfl); (case hg => rfl); (case hr => first | (go_simp; done) | (go_simp; rfl)); intro gb114 hg w3 hbox hb; have n0_ := Aside0.mk (below_step (by repeat (first | (with_reducible first | exact HB.out | apply below_alloc | apply pw_below_drewN | apply below_drew1) | exact HB.out)) hb); have n1_ := Aside0.mk (hbox); have n2_ := Aside0.mk ((by rw [hg]; exact (below_size (by repeat (first | (with_reducible first | exact HB.out | apply below_alloc | apply pw_below_drewN | apply below_drew1) | exact HB.out))) : w.heap.size ≤ gb114)); have n3_ := Aside0.mk ((by rw [hg]; exact (below_size (by repeat (first | (with_reducible first | exact HB.out | apply below_alloc | apply pw_below_drewN | apply below_drew1) | exact HB.out))) : w.heap.size ≤ gb114)); clear HB; have HB := n0_; have BK114 := n1_; have GW114 := n2_; have GE114 := n3_; clear n0_ n1_ n2_ n3_; clear hb hbox hg)); try go_wp2_with (first | ((with_reducible refine gate_dst (N := 3) rfl ?_); refine box_event ?hg (N := 3) ?hd (cs := #[.int .i8 a1_0, .int .i8 a1_1]) (t := 43) ?hr ?_; (case hd => rfl); (case hg => rfl); (case hr => first | (go_simp; done) | (go_simp; rfl)); intro gb114 hg w3 hbox hb; have n0_ := Aside0.mk (below_step (by repeat (first | (with_reducible first | exact HB.out | apply below_alloc | apply pw_below_drewN | apply below_drew1) | exact HB.out)) hb); have n1_ := Aside0.mk (hbox); have n2_ := Aside0.mk ((by rw [hg]; exact (below_size (by repeat (first | (with_reducible first | exact HB.out | apply below_alloc | apply pw_below_drewN | apply below_drew1) | exact HB.out))) : w.heap.size ≤ gb114)); have n3_ := Aside0.mk ((by rw [hg]; exact (below_size (by repeat (first | (with_reducible first | exact HB.out | apply below_alloc | apply pw_below_drewN | apply below_drew1) | exact HB.out))) : w.heap.size ≤ gb114)); clear HB; have HB := n0_; have BK114 := n1_; have GW114 := n2_; have GE114 := n3_; clear n0_ n1_ n2_ n3_; clear hb hbox hg)))
  go_loopg [5] k (fun kq v5 w' => ∃ (x5_1 : Int), v5 = .int .i64 x5_1 ∧ Aside0 (spec_l01Find.l0 kq l0 x5_1 a1_0 a1_1 = some r) ∧ Aside0 (kq ≤ k) ∧ Aside0 (w'.heap[gb114]? = some (.cells #[.int .i8 a1_0, .int .i8 a1_1] 43 (0, 0))) ∧ Aside0 (Below w.heap.size w w'))
  case atStart => exact ⟨(0), (by first | rfl | (simp; done) | (simp [*]; done) | (exact congrArg (Value.int .i64) (wrap_eq (by omega)))), H', ⟨Nat.le_refl _⟩, ⟨by (with_reducible repeat (first | refine blk_drewN ?_ _ | refine blk_drew ?_ | refine blk_alloc ?_ _)); exact BK114.out⟩, ⟨by repeat (first | (with_reducible first | exact HB.out | apply below_alloc | apply pw_below_drewN | apply below_drew1 | refine below_set ?_ GE114.out) | exact HB.out)⟩⟩
  case round =>
    clear H'
    try clear p2
    obtain ⟨x5_1, rfl, HA, HK1, BK114, HB⟩ := hrel
    cases gk with
    | zero => exact absurd HA.out (by simp [spec_l01Find.l0])
    | succ k1 =>
      have H := HA.out
      clear HA
      simp only [spec_l01Find.l0] at H
      by_cases c4 : 0 < (l0.length : Int)
      · rw [if_pos c4] at H
        have c4b0 : decide (0 < (l0.length : Int)) = true := decide_eq_true c4
        have c4b1 : decide (0 < l0.length) = true := decide_eq_true (by omega)
        clear c4
        by_cases c5 : x5_1 < (((rd_T37 l0 0).f2).length : Int)
        · rw [if_pos c5] at H
          have c5b0 : decide (x5_1 < (((rd_T37 l0 0).f2).length : Int)) = true := decide_eq_true c5
          clear c5
          by_cases c6 : 0 ≤ x5_1
          · rw [if_pos c6] at H
            have c6b0 : decide (0 ≤ x5_1) = true := decide_eq_true c6
            clear c6
            by_cases c7 : (((rd_T85 ((rd_T37 l0 0).f2) x5_1).f0.f0) == a1_0 && (((rd_T85 ((rd_T37 l0 0).f2) x5_1).f0.f1) == a1_1)) = true
            · rw [if_pos c7] at H
              have c7b0 : (((rd_T85 ((rd_T37 l0 0).f2) x5_1).f0.f0) == a1_0 && (((rd_T85 ((rd_T37 l0 0).f2) x5_1).f0.f1) == a1_1)) = true := c7
              (try (have c7b1 : decide (((rd_T85 ((rd_T37 l0 0).f2) x5_1).f0.f0) = a1_0 && (((rd_T85 ((rd_T37 l0 0).f2) x5_1).f0.f1) == a1_1)) = true := by first | (simpa using c7) | (have h_ := c7; revert h_; cases ((rd_T85 ((rd_T37 l0 0).f2) x5_1).f0.f0) <;> cases a1_0 && (((rd_T85 ((rd_T37 l0 0).f2) x5_1).f0.f1) == a1_1) <;> decide)))
              (try (have c7b2 : (((rd_T85 ((rd_T37 l0 0).f2) x5_1).f0.f0) == a1_0 && (((rd_T85 ((rd_T37 l0 0).f2) x5_1).f0.f1) == a1_1)) = true := by first | (simpa using c7) | (have h_ := c7; revert h_; cases ((rd_T85 ((rd_T37 l0 0).f2) x5_1).f0.f0) <;> cases a1_0 && (((rd_T85 ((rd_T37 l0 0).f2) x5_1).f0.f1) == a1_1) <;> decide)))
              clear c7
              obtain rfl := Option.some.inj H
              have p115 : 0 ≤ (0 : Int) := (by omega)
              have q115 : 0 < (l0.length : Int) := of_decide_eq_true (by first | (with_reducible assumption) | assumption)
              obtain ⟨ad115, A115_2, c115_2, e115, hx115_0, hx115_1, hx115_2, hl115_2, hi115_2⟩ := at_T37 HR0.out 0 p115 q115
              obtain rfl : adp0 = ad115 := (by injection e115)
              have qi115 : (0 < l0.length) = True := eq_true (by omega)
              (try rw [show ((0 : Int)).toNat = 0 from rfl] at hx115_0)
              (try rw [show 0 * 3 = 0 from rfl] at hx115_0)
              (try rw [Addr.add_zero'] at hx115_0)
              (try rw [show ((0 : Int)).toNat = 0 from rfl] at hx115_1)
              (try rw [show 0 * 3 = 0 from rfl] at hx115_1)
              (try rw [Addr.add_zero'] at hx115_1)
              (try rw [show ((0 : Int)).toNat = 0 from rfl] at hx115_2)
              (try rw [show 0 * 3 = 0 from rfl] at hx115_2)
              (try rw [Addr.add_zero'] at hx115_2)
              replace hx115_0 := (HB.out.cell (World.block_lt_of_cell? w _ hx115_0)).trans hx115_0
              replace hx115_1 := (HB.out.cell (World.block_lt_of_cell? w _ hx115_1)).trans hx115_1
              replace hx115_2 := (HB.out.cell (World.block_lt_of_cell? w _ hx115_2)).trans hx115_2
              have HR115_2 := Aside0.mk hi115_2
              have HC115_2 := Aside0.mk hl115_2
              clear hi115_2 hl115_2
              replace p115 := eq_true p115
              replace q115 := eq_true q115
              have p116 : 0 ≤ (0 : Int) := (by omega)
              have q116 : 0 < (l0.length : Int) := of_decide_eq_true (by first | (with_reducible assumption) | assumption)
              obtain ⟨ad116, A116_2, c116_2, e116, hx116_0, hx116_1, hx116_2, hl116_2, hi116_2⟩ := at_T37 HR0.out 0 p116 q116
              obtain rfl : adp0 = ad116 := (by injection e116)
              have qi116 : (0 < l0.length) = True := eq_true (by omega)
              (try rw [show ((0 : Int)).toNat = 0 from rfl] at hx116_0)
              (try rw [show 0 * 3 = 0 from rfl] at hx116_0)
              (try rw [Addr.add_zero'] at hx116_0)
              (try rw [show ((0 : Int)).toNat = 0 from rfl] at hx116_1)
              (try rw [show 0 * 3 = 0 from rfl] at hx116_1)
              (try rw [Addr.add_zero'] at hx116_1)
              (try rw [show ((0 : Int)).toNat = 0 from rfl] at hx116_2)
              (try rw [show 0 * 3 = 0 from rfl] at hx116_2)
              (try rw [Addr.add_zero'] at hx116_2)
              replace hx116_0 := (HB.out.cell (World.block_lt_of_cell? w _ hx116_0)).trans hx116_0
              replace hx116_1 := (HB.out.cell (World.block_lt_of_cell? w _ hx116_1)).trans hx116_1
              replace hx116_2 := (HB.out.cell (World.block_lt_of_cell? w _ hx116_2)).trans hx116_2
              have HR116_2 := Aside0.mk hi116_2
              have HC116_2 := Aside0.mk hl116_2
              clear hi116_2 hl116_2
              replace p116 := eq_true p116
              replace q116 := eq_true q116
              have ea_ := Option.some.inj (hx115_2.symm.trans hx116_2)
              injection ea_ with ea_ en_ ec_
              subst ea_
              subst ec_
              clear en_
              have p117 : 0 ≤ (x5_1 : Int) := of_decide_eq_true (by first | (with_reducible assumption) | assumption)
              have q117 : x5_1 < (((rd_T37 l0 0).f2).length : Int) := of_decide_eq_true (by first | (with_reducible assumption) | assumption)
              obtain ⟨ad117, e117, hx117_0, hx117_1, hx117_2, hx117_3, hx117_4⟩ := at_T85 HR116_2.out x5_1 p117 q117
              cases e117
              replace hx117_0 := (HB.out.cell (World.block_lt_of_cell? w _ hx117_0)).trans hx117_0
              replace hx117_1 := (HB.out.cell (World.block_lt_of_cell? w _ hx117_1)).trans hx117_1
              replace hx117_2 := (HB.out.cell (World.block_lt_of_cell? w _ hx117_2)).trans hx117_2
              replace hx117_3 := (HB.out.cell (World.block_lt_of_cell? w _ hx117_3)).trans hx117_3
              replace hx117_4 := (HB.out.cell (World.block_lt_of_cell? w _ hx117_4)).trans hx117_4
              replace p117 := eq_true p117
              replace q117 := eq_true q117
              have hcz8_0 : wr.cell? ⟨gb114, 0, none⟩ = some (.int .i8 a1_0) := (blk_cell BK114.out 0).trans rfl
              have hcz8_1 : wr.cell? ⟨gb114, 1, none⟩ = some (.int .i8 a1_1) := (blk_cell BK114.out 1).trans rfl
              have hfz8_0 := blk_frozen BK114.out 0
              have hfz8_1 := blk_frozen BK114.out 1
              go_wp2
              repeat (go_quiet (fail); try go_wp2)
              go_ret
              exact ⟨by first | rfl | (simp [errW_none, errW_some] <;> rfl) | (simp [*, errW_none, errW_some] <;> rfl), by repeat (first | (with_reducible first | exact HB.out | apply below_alloc | apply pw_below_drewN | apply below_drew1 | refine below_set ?_ GE114.out) | exact HB.out)⟩
            · rw [if_neg c7] at H
              have c7b0 : (((rd_T85 ((rd_T37 l0 0).f2) x5_1).f0.f0) == a1_0 && (((rd_T85 ((rd_T37 l0 0).f2) x5_1).f0.f1) == a1_1)) = false := by simpa using c7
              (try (have c7b1 : decide (((rd_T85 ((rd_T37 l0 0).f2) x5_1).f0.f0) = a1_0 && (((rd_T85 ((rd_T37 l0 0).f2) x5_1).f0.f1) == a1_1)) = false := by first | (simpa using c7) | (have h_ := c7; revert h_; cases ((rd_T85 ((rd_T37 l0 0).f2) x5_1).f0.f0) <;> cases a1_0 && (((rd_T85 ((rd_T37 l0 0).f2) x5_1).f0.f1) == a1_1) <;> decide)))
              (try (have c7b2 : (((rd_T85 ((rd_T37 l0 0).f2) x5_1).f0.f0) == a1_0 && (((rd_T85 ((rd_T37 l0 0).f2) x5_1).f0.f1) == a1_1)) = false := by first | (simpa using c7) | (have h_ := c7; revert h_; cases ((rd_T85 ((rd_T37 l0 0).f2) x5_1).f0.f0) <;> cases a1_0 && (((rd_T85 ((rd_T37 l0 0).f2) x5_1).f0.f1) == a1_1) <;> decide)))
              (try (have c7b3 : ¬ (((rd_T85 ((rd_T37 l0 0).f2) x5_1).f0.f0) = a1_0 && (((rd_T85 ((rd_T37 l0 0).f2) x5_1).f0.f1) == a1_1)) := by simpa using c7))
              clear c7
              have H' := Aside0.mk H
              clear H
              have p115 : 0 ≤ (0 : Int) := (by omega)
              have q115 : 0 < (l0.length : Int) := of_decide_eq_true (by first | (with_reducible assumption) | assumption)
              obtain ⟨ad115, A115_2, c115_2, e115, hx115_0, hx115_1, hx115_2, hl115_2, hi115_2⟩ := at_T37 HR0.out 0 p115 q115
              obtain rfl : adp0 = ad115 := (by injection e115)
              have qi115 : (0 < l0.length) = True := eq_true (by omega)
              (try rw [show ((0 : Int)).toNat = 0 from rfl] at hx115_0)
              (try rw [show 0 * 3 = 0 from rfl] at hx115_0)
              (try rw [Addr.add_zero'] at hx115_0)
              (try rw [show ((0 : Int)).toNat = 0 from rfl] at hx115_1)
              (try rw [show 0 * 3 = 0 from rfl] at hx115_1)
              (try rw [Addr.add_zero'] at hx115_1)
              (try rw [show ((0 : Int)).toNat = 0 from rfl] at hx115_2)
              (try rw [show 0 * 3 = 0 from rfl] at hx115_2)
              (try rw [Addr.add_zero'] at hx115_2)
              replace hx115_0 := (HB.out.cell (World.block_lt_of_cell? w _ hx115_0)).trans hx115_0
              replace hx115_1 := (HB.out.cell (World.block_lt_of_cell? w _ hx115_1)).trans hx115_1
              replace hx115_2 := (HB.out.cell (World.block_lt_of_cell? w _ hx115_2)).trans hx115_2
              have HR115_2 := Aside0.mk hi115_2
              have HC115_2 := Aside0.mk hl115_2
              clear hi115_2 hl115_2
              replace p115 := eq_true p115
              replace q115 := eq_true q115
              have p116 : 0 ≤ (0 : Int) := (by omega)
              have q116 : 0 < (l0.length : Int) := of_decide_eq_true (by first | (with_reducible assumption) | assumption)
              obtain ⟨ad116, A116_2, c116_2, e116, hx116_0, hx116_1, hx116_2, hl116_2, hi116_2⟩ := at_T37 HR0.out 0 p116 q116
              obtain rfl : adp0 = ad116 := (by injection e116)
              have qi116 : (0 < l0.length) = True := eq_true (by omega)
              (try rw [show ((0 : Int)).toNat = 0 from rfl] at hx116_0)
              (try rw [show 0 * 3 = 0 from rfl] at hx116_0)
              (try rw [Addr.add_zero'] at hx116_0)
              (try rw [show ((0 : Int)).toNat = 0 from rfl] at hx116_1)
              (try rw [show 0 * 3 = 0 from rfl] at hx116_1)
              (try rw [Addr.add_zero'] at hx116_1)
              (try rw [show ((0 : Int)).toNat = 0 from rfl] at hx116_2)
              (try rw [show 0 * 3 = 0 from rfl] at hx116_2)
              (try rw [Addr.add_zero'] at hx116_2)
              replace hx116_0 := (HB.out.cell (World.block_lt_of_cell? w _ hx116_0)).trans hx116_0
              replace hx116_1 := (HB.out.cell (World.block_lt_of_cell? w _ hx116_1)).trans hx116_1
              replace hx116_2 := (HB.out.cell (World.block_lt_of_cell? w _ hx116_2)).trans hx116_2
              have HR116_2 := Aside0.mk hi116_2
              have HC116_2 := Aside0.mk hl116_2
              clear hi116_2 hl116_2
              replace p116 := eq_true p116
              replace q116 := eq_true q116
              have ea_ := Option.some.inj (hx115_2.symm.trans hx116_2)
              injection ea_ with ea_ en_ ec_
              subst ea_
              subst ec_
              clear en_
              have p117 : 0 ≤ (x5_1 : Int) := of_decide_eq_true (by first | (with_reducible assumption) | assumption)
              have q117 : x5_1 < (((rd_T37 l0 0).f2).length : Int) := of_decide_eq_true (by first | (with_reducible assumption) | assumption)
              obtain ⟨ad117, e117, hx117_0, hx117_1, hx117_2, hx117_3, hx117_4⟩ := at_T85 HR116_2.out x5_1 p117 q117
              cases e117
              replace hx117_0 := (HB.out.cell (World.block_lt_of_cell? w _ hx117_0)).trans hx117_0
              replace hx117_1 := (HB.out.cell (World.block_lt_of_cell? w _ hx117_1)).trans hx117_1
              replace hx117_2 := (HB.out.cell (World.block_lt_of_cell? w _ hx117_2)).trans hx117_2
              replace hx117_3 := (HB.out.cell (World.block_lt_of_cell? w _ hx117_3)).trans hx117_3
              replace hx117_4 := (HB.out.cell (World.block_lt_of_cell? w _ hx117_4)).trans hx117_4
              replace p117 := eq_true p117
              replace q117 := eq_true q117
              have hcz9_0 : wr.cell? ⟨gb114, 0, none⟩ = some (.int .i8 a1_0) := (blk_cell BK114.out 0).trans rfl
              have hcz9_1 : wr.cell? ⟨gb114, 1, none⟩ = some (.int .i8 a1_1) := (blk_cell BK114.out 1).trans rfl
              have hfz9_0 := blk_frozen BK114.out 0
              have hfz9_1 := blk_frozen BK114.out 1
              go_wp2
              repeat (go_quiet (fail); try go_wp2)
              go_roundg k1
              case measure => have := HK1.out; omega
              case rel => exact ⟨(wrap64 (x5_1 + 1)), (by first | rfl | (simp; done) | (simp [*]; done) | (exact congrArg (Value.int .i64) (wrap_eq (by omega)))), H', ⟨by have := HK1.out; omega⟩, ⟨by (with_reducible repeat (first | refine blk_drewN ?_ _ | refine blk_drew ?_ | refine blk_alloc ?_ _)); exact BK114.out⟩, ⟨by repeat (first | (with_reducible first | exact HB.out | apply below_alloc | apply pw_below_drewN | apply below_drew1 | refine below_set ?_ GE114.out) | exact HB.out)⟩⟩
          · rw [if_neg c6] at H
            exact absurd H (by simp)
        · rw [if_neg c5] at H
          have c5b0 : decide (x5_1 < (((rd_T37 l0 0).f2).length : Int)) = false := decide_eq_false c5
          clear c5
          obtain rfl := Option.some.inj H
          have p115 : 0 ≤ (0 : Int) := (by omega)
          have q115 : 0 < (l0.length : Int) := of_decide_eq_true (by first | (with_reducible assumption) | assumption)
          obtain ⟨ad115, A115_2, c115_2, e115, hx115_0, hx115_1, hx115_2, hl115_2, hi115_2⟩ := at_T37 HR0.out 0 p115 q115
          obtain rfl : adp0 = ad115 := (by injection e115)
          have qi115 : (0 < l0.length) = True := eq_true (by omega)
          (try rw [show ((0 : Int)).toNat = 0 from rfl] at hx115_0)
          (try rw [show 0 * 3 = 0 from rfl] at hx115_0)
          (try rw [Addr.add_zero'] at hx115_0)
          (try rw [show ((0 : Int)).toNat = 0 from rfl] at hx115_1)
          (try rw [show 0 * 3 = 0 from rfl] at hx115_1)
          (try rw [Addr.add_zero'] at hx115_1)
          (try rw [show ((0 : Int)).toNat = 0 from rfl] at hx115_2)
          (try rw [show 0 * 3 = 0 from rfl] at hx115_2)
          (try rw [Addr.add_zero'] at hx115_2)
          replace hx115_0 := (HB.out.cell (World.block_lt_of_cell? w _ hx115_0)).trans hx115_0
          replace hx115_1 := (HB.out.cell (World.block_lt_of_cell? w _ hx115_1)).trans hx115_1
          replace hx115_2 := (HB.out.cell (World.block_lt_of_cell? w _ hx115_2)).trans hx115_2
          have HR115_2 := Aside0.mk hi115_2
          have HC115_2 := Aside0.mk hl115_2
          clear hi115_2 hl115_2
          replace p115 := eq_true p115
          replace q115 := eq_true q115
          go_wp2
          repeat (go_quiet (fail); try go_wp2)
          go_ret
          exact ⟨by first | rfl | (simp [errW_none, errW_some] <;> rfl) | (simp [*, errW_none, errW_some] <;> rfl), by repeat (first | (with_reducible first | exact HB.out | apply below_alloc | apply pw_below_drewN | apply below_drew1 | refine below_set ?_ GE114.out) | exact HB.out)⟩
      · rw [if_neg c4] at H
        exact absurd H (by simp)

end Go.Proofs.YtnbjijkpenlpbaaDoor.PFnExactBoardText
