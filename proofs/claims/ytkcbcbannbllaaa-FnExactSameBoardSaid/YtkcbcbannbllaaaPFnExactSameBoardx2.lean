-- WRITTEN by xprint.py, a program of this session's. Not trusted: Lean checks it.
import Derived.Test.YtkcbcbannbllaaaPFnExactSameBoardx0
import Derived.Test.YtkcbcbannbllaaaPFnExactSameBoardx1
namespace Go.Proofs.Ytkcbcbannbllaaa.PFnExactSameBoard
open Go.RowKit Go.Proofs.YtkcbcbannbllaaaW.PrintWords Go.Proofs.YtkcbcbannbllaaaW.PrintLast Go.Proofs.YtkcbcbannbllaaaW.PrintMore Go.Proofs.YtkcbcbannbllaaaX
attribute [local go_sem] max2_int min2_int max_two min_two max_three min_three max_four min_four   -- for this text's walks alone
set_option linter.unusedVariables false
set_option linter.unusedSimpArgs false

attribute [local go_sem high] eqA34
/-! ### laws_szPieceS: function 66 -/
def laws_szPieceS.f (l0 : List (S30)) (a1 : Int) : Option (Int) := if (wrap64 (a1 - (l0.length : Int))) < 0 then (some (-1)) else (some (wrap64 (a1 - (l0.length : Int))))
set_option maxHeartbeats 8000000 in
set_option maxRecDepth 100000 in
theorem laws_szPieceS.calls (A0 : Option Addr) (c0 : Nat) (l0 : List (S30)) (a1 : Int) (r : Int) (w : World) (hr0 : Kd.C k30 w A0 l0.length l0) (hc0 : l0.length ≤ c0) (h : laws_szPieceS.f l0 a1 = some r) :
    Calls Try.prog 66 #[.slice A0 l0.length c0, .int .i64 a1] w fun e w' => e = .returned (.int .i64 r) ∧ Drawn0 w w' := by
  have HR0 := Aside0.mk hr0
  have HC0 := Aside0.mk hc0
  clear hr0 hc0
  have H : (if (wrap64 (a1 - (l0.length : Int))) < 0 then (some (-1)) else (some (wrap64 (a1 - (l0.length : Int))))) = some r := h
  clear h
  by_cases c3 : (wrap64 (a1 - (l0.length : Int))) < 0
  · rw [if_pos c3] at H
    have c3b0 : decide ((wrap64 (a1 - (l0.length : Int))) < 0) = true := decide_eq_true c3
    clear c3
    obtain rfl := Option.some.inj H
    go_enter Try.func66, Try.ntmps66
    go_wp2
    go_ret
    exact ⟨by first | rfl | (simp; done) | (simp [*]; done) | (exact congrArg (Value.int .i64) (wrap_eq (by omega))), by repeat (first | exact Drawn0.refl _ | apply Drawn0.step)⟩
  · rw [if_neg c3] at H
    have c3b0 : decide ((wrap64 (a1 - (l0.length : Int))) < 0) = false := decide_eq_false c3
    clear c3
    obtain rfl := Option.some.inj H
    go_enter Try.func66, Try.ntmps66
    go_wp2
    go_ret
    exact ⟨by first | rfl | (simp; done) | (simp [*]; done) | (exact congrArg (Value.int .i64) (wrap_eq (by omega))), by repeat (first | exact Drawn0.refl _ | apply Drawn0.step)⟩

/-! ### laws_szBoard: function 34 -/
def laws_szBoard.f (a0_0 : Int) (a0_1 : Int) (l0_2 : List (S30)) (a1 : Int) : Option (Int) := (laws_szPieceS.f l0_2 a1).bind fun t102 => (if t102 < 0 then (some (-1)) else (some t102))
set_option maxHeartbeats 8000000 in
set_option maxRecDepth 100000 in
theorem laws_szBoard.calls (a0_0 : Int) (a0_1 : Int) (A0_2 : Option Addr) (c0_2 : Nat) (l0_2 : List (S30)) (a1 : Int) (r : Int) (w : World) (hr0_2 : Kd.C k30 w A0_2 l0_2.length l0_2) (hc0_2 : l0_2.length ≤ c0_2) (h : laws_szBoard.f a0_0 a0_1 l0_2 a1 = some r) :
    Calls Try.prog 34 #[.agg #[.int .i8 a0_0, .int .i8 a0_1, .slice A0_2 l0_2.length c0_2], .int .i64 a1] w fun e w' => e = .returned (.int .i64 r) ∧ Below w.heap.size w w' := by
  have hu54 := Try.underlying54
  have HR0_2 := Aside0.mk hr0_2
  have HC0_2 := Aside0.mk hc0_2
  clear hr0_2 hc0_2
  have HB := Aside0.mk (Below.refl w.heap.size w)
  have H : ((laws_szPieceS.f l0_2 a1).bind fun t102 => (if t102 < 0 then (some (-1)) else (some t102))) = some r := h
  clear h
  replace H := Option.bind_eq_some_iff.mp H
  obtain ⟨t102, A30, H⟩ := H
  replace H : (if t102 < 0 then (some (-1)) else (some t102)) = some r := H
  have A3 := Aside0.mk A30
  clear A30
  by_cases c4 : t102 < 0
  · rw [if_pos c4] at H
    have c4b0 : decide (t102 < 0) = true := decide_eq_true c4
    clear c4
    obtain rfl := Option.some.inj H
    go_enter Try.func34, Try.ntmps34
    go_wp2_with (first | ((with_reducible refine gate_dst (N := 2) rfl ?_); refine box_event ?hg (N := 2) ?hd (cs := #[.int .i8 a0_0, .int .i8 a0_1, .slice A0_2 l0_2.length c0_2]) (t := 54) ?hr ?_; (case hd => rfl); (case hg => rfl); (case hr => first | (go_simp; done) | (go_simp; rfl)); intro gb101 hg w5 hbox hb; have n0_ := Aside0.mk (below_step (by repeat (first | (with_reducible first | exact HB.out | apply below_alloc | apply pw_below_drewN | apply below_drew1) | exact HB.out)) hb); have n1_ := Aside0.mk (hbox); have n2_ := Aside0.mk ((by rw [hg]; exact (below_size (by repeat (first | (with_reducible first | exact HB.out | apply below_alloc | apply pw_below_drewN | apply below_drew1) | exact HB.out))) : w.heap.size ≤ gb101)); have n3_ := Aside0.mk ((by rw [hg]; exact (below_size (by repeat (first | (with_reducible first | exact HB.out | apply below_alloc | apply pw_below_drewN | apply below_drew1) | exact HB.out))) : w.heap.size ≤ gb101)); clear HB; have HB := n0_; have BK101 := n1_; have GW101 := n2_; have GE101 := n3_; clear n0_ n1_ n2_ n3_; clear hb hbox hg; have hcz6_0 : w5.cell? ⟨gb101, 0, none⟩ = some (.int .i8 a0_0) := (blk_cell BK101.out 0).trans rfl; have hcz6_1 : w5.cell? ⟨gb101, 1, none⟩ = some (.int .i8 a0_1) := (blk_cell BK101.out 1).trans rfl; have hcz6_2 : w5.cell? ⟨gb101, 2, none⟩ = some (.slice A0_2 l0_2.length c0_2) := (blk_cell BK101.out 2).trans rfl; have hfz6_0 := blk_frozen BK101.out 0; have hfz6_1 := blk_frozen BK101.out 1; have hfz6_2 := blk_frozen BK101.out 2) | ((with_reducible refine gate_callee (f := 66) rfl ?_); refine goesL_ (some 8) rfl rfl Try.func66 (by kernel_rfl) rfl #[.slice A0_2 l0_2.length c0_2, .int .i64 a1] rfl (by (try simp only [List.map_toArray, List.map_cons, List.map_nil]); first | done | rfl | (simp only [List.length_drop, List.length_take]; rfl)) ?_; (with_reducible refine (laws_szPieceS.calls _ _ l0_2 a1 t102 _ ?side1 ?side2 A3.out).mono ?_); (case side1 => repeat (first | exact (Kd.C_below HR0_2.out HB.out) | (with_reducible refine Kd.C_alloc ?_ _) | (with_reducible refine Kd.C_drewN ?_ _) | (with_reducible refine Kd.C_drew ?_))); (case side2 => exact HC0_2.out); rintro e w' ⟨rfl, ⟨nd, rfl⟩⟩; refine ⟨_, rfl, ?_⟩))
    go_ret
    exact ⟨by first | rfl | (simp [errW_none, errW_some] <;> rfl) | (simp [*, errW_none, errW_some] <;> rfl), by repeat (first | (with_reducible first | exact HB.out | apply below_alloc | apply pw_below_drewN | apply below_drew1 | refine below_set ?_ GE101.out) | exact HB.out)⟩
  · rw [if_neg c4] at H
    have c4b0 : decide (t102 < 0) = false := decide_eq_false c4
    clear c4
    obtain rfl := Option.some.inj H
    go_enter Try.func34, Try.ntmps34
    go_wp2_with (first | ((with_reducible refine gate_dst (N := 2) rfl ?_); refine box_event ?hg (N := 2) ?hd (cs := #[.int .i8 a0_0, .int .i8 a0_1, .slice A0_2 l0_2.length c0_2]) (t := 54) ?hr ?_; (case hd => rfl); (case hg => rfl); (case hr => first | (go_simp; done) | (go_simp; rfl)); intro gb101 hg w7 hbox hb; have n0_ := Aside0.mk (below_step (by repeat (first | (with_reducible first | exact HB.out | apply below_alloc | apply pw_below_drewN | apply below_drew1) | exact HB.out)) hb); have n1_ := Aside0.mk (hbox); have n2_ := Aside0.mk ((by rw [hg]; exact (below_size (by repeat (first | (with_reducible first | exact HB.out | apply below_alloc | apply pw_below_drewN | apply below_drew1) | exact HB.out))) : w.heap.size ≤ gb101)); have n3_ := Aside0.mk ((by rw [hg]; exact (below_size (by repeat (first | (with_reducible first | exact HB.out | apply below_alloc | apply pw_below_drewN | apply below_drew1) | exact HB.out))) : w.heap.size ≤ gb101)); clear HB; have HB := n0_; have BK101 := n1_; have GW101 := n2_; have GE101 := n3_; clear n0_ n1_ n2_ n3_; clear hb hbox hg; have hcz8_0 : w7.cell? ⟨gb101, 0, none⟩ = some (.int .i8 a0_0) := (blk_cell BK101.out 0).trans rfl; have hcz8_1 : w7.cell? ⟨gb101, 1, none⟩ = some (.int .i8 a0_1) := (blk_cell BK101.out 1).trans rfl; have hcz8_2 : w7.cell? ⟨gb101, 2, none⟩ = some (.slice A0_2 l0_2.length c0_2) := (blk_cell BK101.out 2).trans rfl; have hfz8_0 := blk_frozen BK101.out 0; have hfz8_1 := blk_frozen BK101.out 1; have hfz8_2 := blk_frozen BK101.out 2) | ((with_reducible refine gate_callee (f := 66) rfl ?_); refine goesL_ (some 8) rfl rfl Try.func66 (by kernel_rfl) rfl #[.slice A0_2 l0_2.length c0_2, .int .i64 a1] rfl (by (try simp only [List.map_toArray, List.map_cons, List.map_nil]); first | done | rfl | (simp only [List.length_drop, List.length_take]; rfl)) ?_; (with_reducible refine (laws_szPieceS.calls _ _ l0_2 a1 t102 _ ?side1 ?side2 A3.out).mono ?_); (case side1 => repeat (first | exact (Kd.C_below HR0_2.out HB.out) | (with_reducible refine Kd.C_alloc ?_ _) | (with_reducible refine Kd.C_drewN ?_ _) | (with_reducible refine Kd.C_drew ?_))); (case side2 => exact HC0_2.out); rintro e w' ⟨rfl, ⟨nd, rfl⟩⟩; refine ⟨_, rfl, ?_⟩))
    go_ret
    exact ⟨by first | rfl | (simp [errW_none, errW_some] <;> rfl) | (simp [*, errW_none, errW_some] <;> rfl), by repeat (first | (with_reducible first | exact HB.out | apply below_alloc | apply pw_below_drewN | apply below_drew1 | refine below_set ?_ GE101.out) | exact HB.out)⟩

/-! ### spec_l01Same: function 67 -/
mutual
def spec_l01Same.j0 : Nat → List (S59) → List (S59) → Bool → Option (Bool)
  | 0, _, _, _ => none
  | k + 1, x0, x1, x38 => if x38 = true then (some false) else (spec_l01Same.l0 k x0 x1 0)
def spec_l01Same.l0 : Nat → List (S59) → List (S59) → Int → Option (Bool)
  | 0, _, _, _ => none
  | k + 1, x0, x1, x5 => if 0 < (x0.length : Int) then (if x5 < (((rd_T59 x0 0).f2).length : Int) then (if 0 ≤ x5 then (if 0 < (x1.length : Int) then (if x5 < (((rd_T59 x1 0).f2).length : Int) then (if ((!(((rd_T34 ((rd_T59 x0 0).f2) x5).f0.f0) == ((rd_T34 ((rd_T59 x1 0).f2) x5).f0.f0)) || (!(((rd_T34 ((rd_T59 x0 0).f2) x5).f0.f1) == ((rd_T34 ((rd_T59 x1 0).f2) x5).f0.f1)))) || (!(((rd_T34 ((rd_T59 x0 0).f2) x5).f1) == ((rd_T34 ((rd_T59 x1 0).f2) x5).f1)) || (!(((rd_T34 ((rd_T59 x0 0).f2) x5).f2) == ((rd_T34 ((rd_T59 x1 0).f2) x5).f2)) || (!(((rd_T34 ((rd_T59 x0 0).f2) x5).f3) == ((rd_T34 ((rd_T59 x1 0).f2) x5).f3)))))) = true then (some false) else (spec_l01Same.l0 k x0 x1 (wrap64 (x5 + 1)))) else (none)) else (none)) else (none)) else (some true)) else (none)
end
def spec_l01Same.f (k : Nat) (l0 : List (S59)) (l1 : List (S59)) : Option (Bool) := if 0 < (l0.length : Int) then (if 0 < (l1.length : Int) then (if ((rd_T59 l0 0).f0) = ((rd_T59 l1 0).f0) then (if ((rd_T59 l0 0).f1) = ((rd_T59 l1 0).f1) then (spec_l01Same.j0 k l0 l1 ((((rd_T59 l0 0).f2).length : Int) != (((rd_T59 l1 0).f2).length : Int))) else (spec_l01Same.j0 k l0 l1 true)) else (spec_l01Same.j0 k l0 l1 true)) else (none)) else (none)
theorem spec_l01Same.mono_l : ∀ k, (∀ y0 y1 y2, LeO (spec_l01Same.j0 k y0 y1 y2) (spec_l01Same.j0 (k + 1) y0 y1 y2)) ∧ (∀ y0 y1 y2, LeO (spec_l01Same.l0 k y0 y1 y2) (spec_l01Same.l0 (k + 1) y0 y1 y2))
  | 0 => ⟨fun _ _ _ r h => by simp [spec_l01Same.j0] at h, fun _ _ _ r h => by simp [spec_l01Same.l0] at h⟩
  | k + 1 => by
    obtain ⟨ih0, ih1⟩ := spec_l01Same.mono_l k
    refine ⟨?_, ?_⟩
    · intro y0 y1 y2
      unfold spec_l01Same.j0
      repeat' first
      | (with_reducible exact ih0 _ _ _)
      | (with_reducible exact ih1 _ _ _)
      | (with_reducible exact LeO.refl _)
      | (with_reducible exact LeO.none _)
      | (with_reducible refine LeO.ite ?_ ?_)
      | (with_reducible refine LeO.bind ?_ (fun _ => ?_))
      | exact ih0 _ _ _
      | exact ih1 _ _ _
      | exact LeO.none _
      | refine LeO.ite ?_ ?_
      | refine LeO.bind ?_ (fun _ => ?_)
    · intro y0 y1 y2
      unfold spec_l01Same.l0
      repeat' first
      | (with_reducible exact ih0 _ _ _)
      | (with_reducible exact ih1 _ _ _)
      | (with_reducible exact LeO.refl _)
      | (with_reducible exact LeO.none _)
      | (with_reducible refine LeO.ite ?_ ?_)
      | (with_reducible refine LeO.bind ?_ (fun _ => ?_))
      | exact ih0 _ _ _
      | exact ih1 _ _ _
      | exact LeO.none _
      | refine LeO.ite ?_ ?_
      | refine LeO.bind ?_ (fun _ => ?_)
theorem spec_l01Same.mono : ∀ a0 a1 k, LeO (spec_l01Same.f k a0 a1) (spec_l01Same.f (k + 1) a0 a1) := by
  intro a0 a1 k
  obtain ⟨ih0, ih1⟩ := spec_l01Same.mono_l k
  unfold spec_l01Same.f
  repeat' first
      | (with_reducible exact ih0 _ _ _)
      | (with_reducible exact ih1 _ _ _)
      | (with_reducible exact LeO.refl _)
      | (with_reducible exact LeO.none _)
      | (with_reducible refine LeO.ite ?_ ?_)
      | (with_reducible refine LeO.bind ?_ (fun _ => ?_))
      | exact ih0 _ _ _
      | exact ih1 _ _ _
      | exact LeO.none _
      | refine LeO.ite ?_ ?_
      | refine LeO.bind ?_ (fun _ => ?_)
set_option maxHeartbeats 8000000 in
set_option maxRecDepth 100000 in
theorem spec_l01Same.calls (k : Nat) (adp0 : Addr) (l0 : List (S59)) (adp1 : Addr) (l1 : List (S59)) (r : Bool) (w : World) (hr0 : Kd.C k59 w (some adp0) l0.length l0) (hr1 : Kd.C k59 w (some adp1) l1.length l1) (h : spec_l01Same.f k l0 l1 = some r) :
    Calls Try.prog 67 #[.pointer (some adp0), .pointer (some adp1)] w fun e w' => e = .returned (.bool r) ∧ Drawn0 w w' := by
  have hu34 := Try.underlying34
  have HR0 := Aside0.mk hr0
  clear hr0
  have HR1 := Aside0.mk hr1
  clear hr1
  have H : (if 0 < (l0.length : Int) then (if 0 < (l1.length : Int) then (if ((rd_T59 l0 0).f0) = ((rd_T59 l1 0).f0) then (if ((rd_T59 l0 0).f1) = ((rd_T59 l1 0).f1) then (spec_l01Same.j0 k l0 l1 ((((rd_T59 l0 0).f2).length : Int) != (((rd_T59 l1 0).f2).length : Int))) else (spec_l01Same.j0 k l0 l1 true)) else (spec_l01Same.j0 k l0 l1 true)) else (none)) else (none)) = some r := h
  clear h
  have HC3 := Aside0.mk H
  clear H
  go_enter Try.func67, Try.ntmps67
  go_upto_region 1 with (fail)
  repeat (go_quiet (fail); go_upto_region 1 with (fail))
  go_cut [38] (fun v38 wc => ∃ (kq : Nat) (x38_2 : Bool), v38 = .bool x38_2 ∧ Aside0 (spec_l01Same.j0 kq l0 l1 x38_2 = some r) ∧ Aside0 (kq ≤ k) ∧ Drawn0 w wc)
  case first =>
    have H := HC3.out
    clear HC3
    by_cases c4 : 0 < (l0.length : Int)
    · rw [if_pos c4] at H
      have c4b0 : decide (0 < (l0.length : Int)) = true := decide_eq_true c4
      have c4b1 : decide (0 < l0.length) = true := decide_eq_true (by omega)
      clear c4
      (first | rw [c4b0] | (simp only [i64_w, i32_w]; rw [c4b0]) | (have h_ := c4b0; simp only [bne] at h_; rw [h_]) | skip)
      by_cases c5 : 0 < (l1.length : Int)
      · rw [if_pos c5] at H
        have c5b0 : decide (0 < (l1.length : Int)) = true := decide_eq_true c5
        have c5b1 : decide (0 < l1.length) = true := decide_eq_true (by omega)
        clear c5
        by_cases c6 : ((rd_T59 l0 0).f0) = ((rd_T59 l1 0).f0)
        · rw [if_pos c6] at H
          have c6b0 : (((rd_T59 l0 0).f0) == ((rd_T59 l1 0).f0)) = true := beq_iff_eq.mpr c6
          have c6b1 : (((rd_T59 l0 0).f0) != ((rd_T59 l1 0).f0)) = false := bne_eq_false_iff_eq.mpr c6
          clear c6
          by_cases c7 : ((rd_T59 l0 0).f1) = ((rd_T59 l1 0).f1)
          · rw [if_pos c7] at H
            have c7b0 : (((rd_T59 l0 0).f1) == ((rd_T59 l1 0).f1)) = true := beq_iff_eq.mpr c7
            have c7b1 : (((rd_T59 l0 0).f1) != ((rd_T59 l1 0).f1)) = false := bne_eq_false_iff_eq.mpr c7
            clear c7
            have H' := Aside0.mk H
            clear H
            have p103 : 0 ≤ (0 : Int) := (by omega)
            have q103 : 0 < (l0.length : Int) := of_decide_eq_true (by first | (with_reducible assumption) | assumption)
            obtain ⟨ad103, A103_2, c103_2, e103, hx103_0, hx103_1, hx103_2, hl103_2, hi103_2⟩ := at_T59 HR0.out 0 p103 q103
            obtain rfl : adp0 = ad103 := (by injection e103)
            have qi103 : (0 < l0.length) = True := eq_true (by omega)
            (try rw [show ((0 : Int)).toNat = 0 from rfl] at hx103_0)
            (try rw [show 0 * 3 = 0 from rfl] at hx103_0)
            (try rw [Addr.add_zero'] at hx103_0)
            (try rw [show ((0 : Int)).toNat = 0 from rfl] at hx103_1)
            (try rw [show 0 * 3 = 0 from rfl] at hx103_1)
            (try rw [Addr.add_zero'] at hx103_1)
            (try rw [show ((0 : Int)).toNat = 0 from rfl] at hx103_2)
            (try rw [show 0 * 3 = 0 from rfl] at hx103_2)
            (try rw [Addr.add_zero'] at hx103_2)
            have HR103_2 := Aside0.mk hi103_2
            have HC103_2 := Aside0.mk hl103_2
            clear hi103_2 hl103_2
            replace p103 := eq_true p103
            replace q103 := eq_true q103
            have p104 : 0 ≤ (0 : Int) := (by omega)
            have q104 : 0 < (l1.length : Int) := of_decide_eq_true (by first | (with_reducible assumption) | assumption)
            obtain ⟨ad104, A104_2, c104_2, e104, hx104_0, hx104_1, hx104_2, hl104_2, hi104_2⟩ := at_T59 HR1.out 0 p104 q104
            obtain rfl : adp1 = ad104 := (by injection e104)
            have qi104 : (0 < l1.length) = True := eq_true (by omega)
            (try rw [show ((0 : Int)).toNat = 0 from rfl] at hx104_0)
            (try rw [show 0 * 3 = 0 from rfl] at hx104_0)
            (try rw [Addr.add_zero'] at hx104_0)
            (try rw [show ((0 : Int)).toNat = 0 from rfl] at hx104_1)
            (try rw [show 0 * 3 = 0 from rfl] at hx104_1)
            (try rw [Addr.add_zero'] at hx104_1)
            (try rw [show ((0 : Int)).toNat = 0 from rfl] at hx104_2)
            (try rw [show 0 * 3 = 0 from rfl] at hx104_2)
            (try rw [Addr.add_zero'] at hx104_2)
            have HR104_2 := Aside0.mk hi104_2
            have HC104_2 := Aside0.mk hl104_2
            clear hi104_2 hl104_2
            replace p104 := eq_true p104
            replace q104 := eq_true q104
            have p105 : 0 ≤ (0 : Int) := (by omega)
            have q105 : 0 < (l0.length : Int) := of_decide_eq_true (by first | (with_reducible assumption) | assumption)
            obtain ⟨ad105, A105_2, c105_2, e105, hx105_0, hx105_1, hx105_2, hl105_2, hi105_2⟩ := at_T59 HR0.out 0 p105 q105
            obtain rfl : adp0 = ad105 := (by injection e105)
            have qi105 : (0 < l0.length) = True := eq_true (by omega)
            (try rw [show ((0 : Int)).toNat = 0 from rfl] at hx105_0)
            (try rw [show 0 * 3 = 0 from rfl] at hx105_0)
            (try rw [Addr.add_zero'] at hx105_0)
            (try rw [show ((0 : Int)).toNat = 0 from rfl] at hx105_1)
            (try rw [show 0 * 3 = 0 from rfl] at hx105_1)
            (try rw [Addr.add_zero'] at hx105_1)
            (try rw [show ((0 : Int)).toNat = 0 from rfl] at hx105_2)
            (try rw [show 0 * 3 = 0 from rfl] at hx105_2)
            (try rw [Addr.add_zero'] at hx105_2)
            have HR105_2 := Aside0.mk hi105_2
            have HC105_2 := Aside0.mk hl105_2
            clear hi105_2 hl105_2
            replace p105 := eq_true p105
            replace q105 := eq_true q105
            have ea_ := Option.some.inj (hx103_2.symm.trans hx105_2)
            injection ea_ with ea_ en_ ec_
            subst ea_
            subst ec_
            clear en_
            have p106 : 0 ≤ (0 : Int) := (by omega)
            have q106 : 0 < (l1.length : Int) := of_decide_eq_true (by first | (with_reducible assumption) | assumption)
            obtain ⟨ad106, A106_2, c106_2, e106, hx106_0, hx106_1, hx106_2, hl106_2, hi106_2⟩ := at_T59 HR1.out 0 p106 q106
            obtain rfl : adp1 = ad106 := (by injection e106)
            have qi106 : (0 < l1.length) = True := eq_true (by omega)
            (try rw [show ((0 : Int)).toNat = 0 from rfl] at hx106_0)
            (try rw [show 0 * 3 = 0 from rfl] at hx106_0)
            (try rw [Addr.add_zero'] at hx106_0)
            (try rw [show ((0 : Int)).toNat = 0 from rfl] at hx106_1)
            (try rw [show 0 * 3 = 0 from rfl] at hx106_1)
            (try rw [Addr.add_zero'] at hx106_1)
            (try rw [show ((0 : Int)).toNat = 0 from rfl] at hx106_2)
            (try rw [show 0 * 3 = 0 from rfl] at hx106_2)
            (try rw [Addr.add_zero'] at hx106_2)
            have HR106_2 := Aside0.mk hi106_2
            have HC106_2 := Aside0.mk hl106_2
            clear hi106_2 hl106_2
            replace p106 := eq_true p106
            replace q106 := eq_true q106
            have ea_ := Option.some.inj (hx104_2.symm.trans hx106_2)
            injection ea_ with ea_ en_ ec_
            subst ea_
            subst ec_
            clear en_
            have p107 : 0 ≤ (0 : Int) := (by omega)
            have q107 : 0 < (l0.length : Int) := of_decide_eq_true (by first | (with_reducible assumption) | assumption)
            obtain ⟨ad107, A107_2, c107_2, e107, hx107_0, hx107_1, hx107_2, hl107_2, hi107_2⟩ := at_T59 HR0.out 0 p107 q107
            obtain rfl : adp0 = ad107 := (by injection e107)
            have qi107 : (0 < l0.length) = True := eq_true (by omega)
            (try rw [show ((0 : Int)).toNat = 0 from rfl] at hx107_0)
            (try rw [show 0 * 3 = 0 from rfl] at hx107_0)
            (try rw [Addr.add_zero'] at hx107_0)
            (try rw [show ((0 : Int)).toNat = 0 from rfl] at hx107_1)
            (try rw [show 0 * 3 = 0 from rfl] at hx107_1)
            (try rw [Addr.add_zero'] at hx107_1)
            (try rw [show ((0 : Int)).toNat = 0 from rfl] at hx107_2)
            (try rw [show 0 * 3 = 0 from rfl] at hx107_2)
            (try rw [Addr.add_zero'] at hx107_2)
            have HR107_2 := Aside0.mk hi107_2
            have HC107_2 := Aside0.mk hl107_2
            clear hi107_2 hl107_2
            replace p107 := eq_true p107
            replace q107 := eq_true q107
            have ea_ := Option.some.inj (hx103_2.symm.trans hx107_2)
            injection ea_ with ea_ en_ ec_
            subst ea_
            subst ec_
            clear en_
            have p108 : 0 ≤ (0 : Int) := (by omega)
            have q108 : 0 < (l1.length : Int) := of_decide_eq_true (by first | (with_reducible assumption) | assumption)
            obtain ⟨ad108, A108_2, c108_2, e108, hx108_0, hx108_1, hx108_2, hl108_2, hi108_2⟩ := at_T59 HR1.out 0 p108 q108
            obtain rfl : adp1 = ad108 := (by injection e108)
            have qi108 : (0 < l1.length) = True := eq_true (by omega)
            (try rw [show ((0 : Int)).toNat = 0 from rfl] at hx108_0)
            (try rw [show 0 * 3 = 0 from rfl] at hx108_0)
            (try rw [Addr.add_zero'] at hx108_0)
            (try rw [show ((0 : Int)).toNat = 0 from rfl] at hx108_1)
            (try rw [show 0 * 3 = 0 from rfl] at hx108_1)
            (try rw [Addr.add_zero'] at hx108_1)
            (try rw [show ((0 : Int)).toNat = 0 from rfl] at hx108_2)
            (try rw [show 0 * 3 = 0 from rfl] at hx108_2)
            (try rw [Addr.add_zero'] at hx108_2)
            have HR108_2 := Aside0.mk hi108_2
            have HC108_2 := Aside0.mk hl108_2
            clear hi108_2 hl108_2
            replace p108 := eq_true p108
            replace q108 := eq_true q108
            have ea_ := Option.some.inj (hx104_2.symm.trans hx108_2)
            injection ea_ with ea_ en_ ec_
            subst ea_
            subst ec_
            clear en_
            go_wp2
            repeat (go_quiet (fail); try go_wp2)
            go_meet
            case rel => exact ⟨_, (((((rd_T59 l0 0).f2).length : Int) != (((rd_T59 l1 0).f2).length : Int))), (by first | rfl | (simp; done) | (simp [*]; done) | (exact congrArg (Value.int .i64) (wrap_eq (by omega)))), H', ⟨by first | omega | exact Nat.le_refl _⟩, by repeat (first | exact Drawn0.refl _ | apply Drawn0.step)⟩
          · rw [if_neg c7] at H
            have c7b0 : (((rd_T59 l0 0).f1) == ((rd_T59 l1 0).f1)) = false := beq_eq_false_iff_ne.mpr c7
            have c7b1 : (((rd_T59 l0 0).f1) != ((rd_T59 l1 0).f1)) = true := bne_iff_ne.mpr c7
            have H' := Aside0.mk H
            clear H
            have p103 : 0 ≤ (0 : Int) := (by omega)
            have q103 : 0 < (l0.length : Int) := of_decide_eq_true (by first | (with_reducible assumption) | assumption)
            obtain ⟨ad103, A103_2, c103_2, e103, hx103_0, hx103_1, hx103_2, hl103_2, hi103_2⟩ := at_T59 HR0.out 0 p103 q103
            obtain rfl : adp0 = ad103 := (by injection e103)
            have qi103 : (0 < l0.length) = True := eq_true (by omega)
            (try rw [show ((0 : Int)).toNat = 0 from rfl] at hx103_0)
            (try rw [show 0 * 3 = 0 from rfl] at hx103_0)
            (try rw [Addr.add_zero'] at hx103_0)
            (try rw [show ((0 : Int)).toNat = 0 from rfl] at hx103_1)
            (try rw [show 0 * 3 = 0 from rfl] at hx103_1)
            (try rw [Addr.add_zero'] at hx103_1)
            (try rw [show ((0 : Int)).toNat = 0 from rfl] at hx103_2)
            (try rw [show 0 * 3 = 0 from rfl] at hx103_2)
            (try rw [Addr.add_zero'] at hx103_2)
            have HR103_2 := Aside0.mk hi103_2
            have HC103_2 := Aside0.mk hl103_2
            clear hi103_2 hl103_2
            replace p103 := eq_true p103
            replace q103 := eq_true q103
            have p104 : 0 ≤ (0 : Int) := (by omega)
            have q104 : 0 < (l1.length : Int) := of_decide_eq_true (by first | (with_reducible assumption) | assumption)
            obtain ⟨ad104, A104_2, c104_2, e104, hx104_0, hx104_1, hx104_2, hl104_2, hi104_2⟩ := at_T59 HR1.out 0 p104 q104
            obtain rfl : adp1 = ad104 := (by injection e104)
            have qi104 : (0 < l1.length) = True := eq_true (by omega)
            (try rw [show ((0 : Int)).toNat = 0 from rfl] at hx104_0)
            (try rw [show 0 * 3 = 0 from rfl] at hx104_0)
            (try rw [Addr.add_zero'] at hx104_0)
            (try rw [show ((0 : Int)).toNat = 0 from rfl] at hx104_1)
            (try rw [show 0 * 3 = 0 from rfl] at hx104_1)
            (try rw [Addr.add_zero'] at hx104_1)
            (try rw [show ((0 : Int)).toNat = 0 from rfl] at hx104_2)
            (try rw [show 0 * 3 = 0 from rfl] at hx104_2)
            (try rw [Addr.add_zero'] at hx104_2)
            have HR104_2 := Aside0.mk hi104_2
            have HC104_2 := Aside0.mk hl104_2
            clear hi104_2 hl104_2
            replace p104 := eq_true p104
            replace q104 := eq_true q104
            have p105 : 0 ≤ (0 : Int) := (by omega)
            have q105 : 0 < (l0.length : Int) := of_decide_eq_true (by first | (with_reducible assumption) | assumption)
            obtain ⟨ad105, A105_2, c105_2, e105, hx105_0, hx105_1, hx105_2, hl105_2, hi105_2⟩ := at_T59 HR0.out 0 p105 q105
            obtain rfl : adp0 = ad105 := (by injection e105)
            have qi105 : (0 < l0.length) = True := eq_true (by omega)
            (try rw [show ((0 : Int)).toNat = 0 from rfl] at hx105_0)
            (try rw [show 0 * 3 = 0 from rfl] at hx105_0)
            (try rw [Addr.add_zero'] at hx105_0)
            (try rw [show ((0 : Int)).toNat = 0 from rfl] at hx105_1)
            (try rw [show 0 * 3 = 0 from rfl] at hx105_1)
            (try rw [Addr.add_zero'] at hx105_1)
            (try rw [show ((0 : Int)).toNat = 0 from rfl] at hx105_2)
            (try rw [show 0 * 3 = 0 from rfl] at hx105_2)
            (try rw [Addr.add_zero'] at hx105_2)
            have HR105_2 := Aside0.mk hi105_2
            have HC105_2 := Aside0.mk hl105_2
            clear hi105_2 hl105_2
            replace p105 := eq_true p105
            replace q105 := eq_true q105
            have ea_ := Option.some.inj (hx103_2.symm.trans hx105_2)
            injection ea_ with ea_ en_ ec_
            subst ea_
            subst ec_
            clear en_
            have p106 : 0 ≤ (0 : Int) := (by omega)
            have q106 : 0 < (l1.length : Int) := of_decide_eq_true (by first | (with_reducible assumption) | assumption)
            obtain ⟨ad106, A106_2, c106_2, e106, hx106_0, hx106_1, hx106_2, hl106_2, hi106_2⟩ := at_T59 HR1.out 0 p106 q106
            obtain rfl : adp1 = ad106 := (by injection e106)
            have qi106 : (0 < l1.length) = True := eq_true (by omega)
            (try rw [show ((0 : Int)).toNat = 0 from rfl] at hx106_0)
            (try rw [show 0 * 3 = 0 from rfl] at hx106_0)
            (try rw [Addr.add_zero'] at hx106_0)
            (try rw [show ((0 : Int)).toNat = 0 from rfl] at hx106_1)
            (try rw [show 0 * 3 = 0 from rfl] at hx106_1)
            (try rw [Addr.add_zero'] at hx106_1)
            (try rw [show ((0 : Int)).toNat = 0 from rfl] at hx106_2)
            (try rw [show 0 * 3 = 0 from rfl] at hx106_2)
            (try rw [Addr.add_zero'] at hx106_2)
            have HR106_2 := Aside0.mk hi106_2
            have HC106_2 := Aside0.mk hl106_2
            clear hi106_2 hl106_2
            replace p106 := eq_true p106
            replace q106 := eq_true q106
            have ea_ := Option.some.inj (hx104_2.symm.trans hx106_2)
            injection ea_ with ea_ en_ ec_
            subst ea_
            subst ec_
            clear en_
            go_wp2
            repeat (go_quiet (fail); try go_wp2)
            go_meet
            case rel => exact ⟨_, (true), (by first | rfl | (simp; done) | (simp [*]; done) | (exact congrArg (Value.int .i64) (wrap_eq (by omega)))), H', ⟨by first | omega | exact Nat.le_refl _⟩, by repeat (first | exact Drawn0.refl _ | apply Drawn0.step)⟩
        · rw [if_neg c6] at H
          have c6b0 : (((rd_T59 l0 0).f0) == ((rd_T59 l1 0).f0)) = false := beq_eq_false_iff_ne.mpr c6
          have c6b1 : (((rd_T59 l0 0).f0) != ((rd_T59 l1 0).f0)) = true := bne_iff_ne.mpr c6
          have H' := Aside0.mk H
          clear H
          have p103 : 0 ≤ (0 : Int) := (by omega)
          have q103 : 0 < (l0.length : Int) := of_decide_eq_true (by first | (with_reducible assumption) | assumption)
          obtain ⟨ad103, A103_2, c103_2, e103, hx103_0, hx103_1, hx103_2, hl103_2, hi103_2⟩ := at_T59 HR0.out 0 p103 q103
          obtain rfl : adp0 = ad103 := (by injection e103)
          have qi103 : (0 < l0.length) = True := eq_true (by omega)
          (try rw [show ((0 : Int)).toNat = 0 from rfl] at hx103_0)
          (try rw [show 0 * 3 = 0 from rfl] at hx103_0)
          (try rw [Addr.add_zero'] at hx103_0)
          (try rw [show ((0 : Int)).toNat = 0 from rfl] at hx103_1)
          (try rw [show 0 * 3 = 0 from rfl] at hx103_1)
          (try rw [Addr.add_zero'] at hx103_1)
          (try rw [show ((0 : Int)).toNat = 0 from rfl] at hx103_2)
          (try rw [show 0 * 3 = 0 from rfl] at hx103_2)
          (try rw [Addr.add_zero'] at hx103_2)
          have HR103_2 := Aside0.mk hi103_2
          have HC103_2 := Aside0.mk hl103_2
          clear hi103_2 hl103_2
          replace p103 := eq_true p103
          replace q103 := eq_true q103
          have p104 : 0 ≤ (0 : Int) := (by omega)
          have q104 : 0 < (l1.length : Int) := of_decide_eq_true (by first | (with_reducible assumption) | assumption)
          obtain ⟨ad104, A104_2, c104_2, e104, hx104_0, hx104_1, hx104_2, hl104_2, hi104_2⟩ := at_T59 HR1.out 0 p104 q104
          obtain rfl : adp1 = ad104 := (by injection e104)
          have qi104 : (0 < l1.length) = True := eq_true (by omega)
          (try rw [show ((0 : Int)).toNat = 0 from rfl] at hx104_0)
          (try rw [show 0 * 3 = 0 from rfl] at hx104_0)
          (try rw [Addr.add_zero'] at hx104_0)
          (try rw [show ((0 : Int)).toNat = 0 from rfl] at hx104_1)
          (try rw [show 0 * 3 = 0 from rfl] at hx104_1)
          (try rw [Addr.add_zero'] at hx104_1)
          (try rw [show ((0 : Int)).toNat = 0 from rfl] at hx104_2)
          (try rw [show 0 * 3 = 0 from rfl] at hx104_2)
          (try rw [Addr.add_zero'] at hx104_2)
          have HR104_2 := Aside0.mk hi104_2
          have HC104_2 := Aside0.mk hl104_2
          clear hi104_2 hl104_2
          replace p104 := eq_true p104
          replace q104 := eq_true q104
          go_wp2
          repeat (go_quiet (fail); try go_wp2)
          go_meet
          case rel => exact ⟨_, (true), (by first | rfl | (simp; done) | (simp [*]; done) | (exact congrArg (Value.int .i64) (wrap_eq (by omega)))), H', ⟨by first | omega | exact Nat.le_refl _⟩, by repeat (first | exact Drawn0.refl _ | apply Drawn0.step)⟩
      · rw [if_neg c5] at H
        exact absurd H (by simp)
    · rw [if_neg c4] at H
      exact absurd H (by simp)
  case rest =>
    clear HC3
    try clear c1
    try clear p1
    try clear q1
    try clear hx1
    try clear qi1
    try clear p2
    try clear c4
    try clear c4b0
    try clear c4b1
    try clear c5
    try clear c5b0
    try clear c5b1
    try clear c6
    try clear c6b0
    try clear c6b1
    try clear c7
    try clear c7b0
    try clear c7b1
    try clear hx103_0
    try clear hx103_1
    try clear hx103_2
    try clear hx104_0
    try clear hx104_1
    try clear hx104_2
    try clear hx105_0
    try clear hx105_1
    try clear hx105_2
    try clear hx106_0
    try clear hx106_1
    try clear hx106_2
    try clear hx107_0
    try clear hx107_1
    try clear hx107_2
    try clear hx108_0
    try clear hx108_1
    try clear hx108_2
    try clear p103
    try clear p104
    try clear p105
    try clear p106
    try clear p107
    try clear p108
    try clear q103
    try clear q104
    try clear q105
    try clear q106
    try clear q107
    try clear q108
    obtain ⟨kq, x38_2, rfl, HA, HJ2, ⟨mc2, rfl⟩⟩ := hcut
    cases kq with
    | zero => exact absurd HA.out (by simp [spec_l01Same.j0])
    | succ kj2 =>
      have H := HA.out
      clear HA
      simp only [spec_l01Same.j0] at H
      by_cases c8 : x38_2 = true
      · subst c8
        have H1 : (some false) = some r := by rw [if_pos rfl] at H; exact H
        clear H
        have H := H1
        clear H1
        obtain rfl := Option.some.inj H
        go_wp2
        repeat (go_quiet (fail); try go_wp2)
        go_ret
        exact ⟨by first | rfl | (simp; done) | (simp [*]; done) | (exact congrArg (Value.int .i64) (wrap_eq (by omega))), by repeat (first | exact Drawn0.refl _ | apply Drawn0.step)⟩
      · replace c8 := Bool.eq_false_iff.mpr c8
        subst c8
        have H1 : (spec_l01Same.l0 kj2 l0 l1 0) = some r := by rw [if_neg (show ¬ (false = true) by decide)] at H; exact H
        clear H
        have H := H1
        clear H1
        have H' := Aside0.mk H
        clear H
        go_wp2
        repeat (go_quiet (fail); try go_wp2)
        go_loopg [5] kj2 (fun kq v5 w' => ∃ (x5_2 : Int), v5 = .int .i64 x5_2 ∧ Aside0 (spec_l01Same.l0 kq l0 l1 x5_2 = some r) ∧ Aside0 (kq ≤ kj2) ∧ Drawn0 w w')
        case atStart => exact ⟨(0), (by first | rfl | (simp; done) | (simp [*]; done) | (exact congrArg (Value.int .i64) (wrap_eq (by omega)))), H', ⟨Nat.le_refl _⟩, by repeat (first | exact Drawn0.refl _ | apply Drawn0.step)⟩
        case round =>
          clear H'
          try clear c1
          try clear p1
          try clear q1
          try clear hx1
          try clear qi1
          try clear c2
          try clear p2
          try clear c4
          try clear c4b0
          try clear c4b1
          try clear c5
          try clear c5b0
          try clear c5b1
          try clear c6
          try clear c6b0
          try clear c6b1
          try clear c7
          try clear c7b0
          try clear c7b1
          try clear c8
          try clear hx103_0
          try clear hx103_1
          try clear hx103_2
          try clear hx104_0
          try clear hx104_1
          try clear hx104_2
          try clear hx105_0
          try clear hx105_1
          try clear hx105_2
          try clear hx106_0
          try clear hx106_1
          try clear hx106_2
          try clear hx107_0
          try clear hx107_1
          try clear hx107_2
          try clear hx108_0
          try clear hx108_1
          try clear hx108_2
          try clear p1
          try clear p103
          try clear p104
          try clear p105
          try clear p106
          try clear p107
          try clear p108
          try clear p2
          try clear q1
          try clear q103
          try clear q104
          try clear q105
          try clear q106
          try clear q107
          try clear q108
          obtain ⟨x5_2, rfl, HA, HK2, ⟨m2, rfl⟩⟩ := hrel
          cases gk with
          | zero => exact absurd HA.out (by simp [spec_l01Same.l0])
          | succ k2 =>
            have H := HA.out
            clear HA
            simp only [spec_l01Same.l0] at H
            by_cases c9 : 0 < (l0.length : Int)
            · rw [if_pos c9] at H
              have c9b0 : decide (0 < (l0.length : Int)) = true := decide_eq_true c9
              have c9b1 : decide (0 < l0.length) = true := decide_eq_true (by omega)
              clear c9
              by_cases c10 : x5_2 < (((rd_T59 l0 0).f2).length : Int)
              · rw [if_pos c10] at H
                have c10b0 : decide (x5_2 < (((rd_T59 l0 0).f2).length : Int)) = true := decide_eq_true c10
                clear c10
                by_cases c11 : 0 ≤ x5_2
                · rw [if_pos c11] at H
                  have c11b0 : decide (0 ≤ x5_2) = true := decide_eq_true c11
                  clear c11
                  by_cases c12 : 0 < (l1.length : Int)
                  · rw [if_pos c12] at H
                    have c12b0 : decide (0 < (l1.length : Int)) = true := decide_eq_true c12
                    have c12b1 : decide (0 < l1.length) = true := decide_eq_true (by omega)
                    clear c12
                    by_cases c13 : x5_2 < (((rd_T59 l1 0).f2).length : Int)
                    · rw [if_pos c13] at H
                      have c13b0 : decide (x5_2 < (((rd_T59 l1 0).f2).length : Int)) = true := decide_eq_true c13
                      clear c13
                      by_cases c14 : ((!(((rd_T34 ((rd_T59 l0 0).f2) x5_2).f0.f0) == ((rd_T34 ((rd_T59 l1 0).f2) x5_2).f0.f0)) || (!(((rd_T34 ((rd_T59 l0 0).f2) x5_2).f0.f1) == ((rd_T34 ((rd_T59 l1 0).f2) x5_2).f0.f1)))) || (!(((rd_T34 ((rd_T59 l0 0).f2) x5_2).f1) == ((rd_T34 ((rd_T59 l1 0).f2) x5_2).f1)) || (!(((rd_T34 ((rd_T59 l0 0).f2) x5_2).f2) == ((rd_T34 ((rd_T59 l1 0).f2) x5_2).f2)) || (!(((rd_T34 ((rd_T59 l0 0).f2) x5_2).f3) == ((rd_T34 ((rd_T59 l1 0).f2) x5_2).f3)))))) = true
                      · rw [if_pos c14] at H
                        have c14b0 : ((!(((rd_T34 ((rd_T59 l0 0).f2) x5_2).f0.f0) == ((rd_T34 ((rd_T59 l1 0).f2) x5_2).f0.f0)) || (!(((rd_T34 ((rd_T59 l0 0).f2) x5_2).f0.f1) == ((rd_T34 ((rd_T59 l1 0).f2) x5_2).f0.f1)))) || (!(((rd_T34 ((rd_T59 l0 0).f2) x5_2).f1) == ((rd_T34 ((rd_T59 l1 0).f2) x5_2).f1)) || (!(((rd_T34 ((rd_T59 l0 0).f2) x5_2).f2) == ((rd_T34 ((rd_T59 l1 0).f2) x5_2).f2)) || (!(((rd_T34 ((rd_T59 l0 0).f2) x5_2).f3) == ((rd_T34 ((rd_T59 l1 0).f2) x5_2).f3)))))) = true := c14
                        clear c14
                        obtain rfl := Option.some.inj H
                        have p109 : 0 ≤ (0 : Int) := (by omega)
                        have q109 : 0 < (l0.length : Int) := of_decide_eq_true (by first | (with_reducible assumption) | assumption)
                        obtain ⟨ad109, A109_2, c109_2, e109, hx109_0, hx109_1, hx109_2, hl109_2, hi109_2⟩ := at_T59 HR0.out 0 p109 q109
                        obtain rfl : adp0 = ad109 := (by injection e109)
                        have qi109 : (0 < l0.length) = True := eq_true (by omega)
                        (try rw [show ((0 : Int)).toNat = 0 from rfl] at hx109_0)
                        (try rw [show 0 * 3 = 0 from rfl] at hx109_0)
                        (try rw [Addr.add_zero'] at hx109_0)
                        (try rw [show ((0 : Int)).toNat = 0 from rfl] at hx109_1)
                        (try rw [show 0 * 3 = 0 from rfl] at hx109_1)
                        (try rw [Addr.add_zero'] at hx109_1)
                        (try rw [show ((0 : Int)).toNat = 0 from rfl] at hx109_2)
                        (try rw [show 0 * 3 = 0 from rfl] at hx109_2)
                        (try rw [Addr.add_zero'] at hx109_2)
                        have HR109_2 := Aside0.mk hi109_2
                        have HC109_2 := Aside0.mk hl109_2
                        clear hi109_2 hl109_2
                        replace p109 := eq_true p109
                        replace q109 := eq_true q109
                        have p110 : 0 ≤ (0 : Int) := (by omega)
                        have q110 : 0 < (l0.length : Int) := of_decide_eq_true (by first | (with_reducible assumption) | assumption)
                        obtain ⟨ad110, A110_2, c110_2, e110, hx110_0, hx110_1, hx110_2, hl110_2, hi110_2⟩ := at_T59 HR0.out 0 p110 q110
                        obtain rfl : adp0 = ad110 := (by injection e110)
                        have qi110 : (0 < l0.length) = True := eq_true (by omega)
                        (try rw [show ((0 : Int)).toNat = 0 from rfl] at hx110_0)
                        (try rw [show 0 * 3 = 0 from rfl] at hx110_0)
                        (try rw [Addr.add_zero'] at hx110_0)
                        (try rw [show ((0 : Int)).toNat = 0 from rfl] at hx110_1)
                        (try rw [show 0 * 3 = 0 from rfl] at hx110_1)
                        (try rw [Addr.add_zero'] at hx110_1)
                        (try rw [show ((0 : Int)).toNat = 0 from rfl] at hx110_2)
                        (try rw [show 0 * 3 = 0 from rfl] at hx110_2)
                        (try rw [Addr.add_zero'] at hx110_2)
                        have HR110_2 := Aside0.mk hi110_2
                        have HC110_2 := Aside0.mk hl110_2
                        clear hi110_2 hl110_2
                        replace p110 := eq_true p110
                        replace q110 := eq_true q110
                        have ea_ := Option.some.inj (hx109_2.symm.trans hx110_2)
                        injection ea_ with ea_ en_ ec_
                        subst ea_
                        subst ec_
                        clear en_
                        have p111 : 0 ≤ (x5_2 : Int) := of_decide_eq_true (by first | (with_reducible assumption) | assumption)
                        have q111 : x5_2 < (((rd_T59 l0 0).f2).length : Int) := of_decide_eq_true (by first | (with_reducible assumption) | assumption)
                        obtain ⟨ad111, e111, hx111_0, hx111_1, hx111_2, hx111_3, hx111_4⟩ := at_T34 HR110_2.out x5_2 p111 q111
                        cases e111
                        replace p111 := eq_true p111
                        replace q111 := eq_true q111
                        have p112 : 0 ≤ (0 : Int) := (by omega)
                        have q112 : 0 < (l1.length : Int) := of_decide_eq_true (by first | (with_reducible assumption) | assumption)
                        obtain ⟨ad112, A112_2, c112_2, e112, hx112_0, hx112_1, hx112_2, hl112_2, hi112_2⟩ := at_T59 HR1.out 0 p112 q112
                        obtain rfl : adp1 = ad112 := (by injection e112)
                        have qi112 : (0 < l1.length) = True := eq_true (by omega)
                        (try rw [show ((0 : Int)).toNat = 0 from rfl] at hx112_0)
                        (try rw [show 0 * 3 = 0 from rfl] at hx112_0)
                        (try rw [Addr.add_zero'] at hx112_0)
                        (try rw [show ((0 : Int)).toNat = 0 from rfl] at hx112_1)
                        (try rw [show 0 * 3 = 0 from rfl] at hx112_1)
                        (try rw [Addr.add_zero'] at hx112_1)
                        (try rw [show ((0 : Int)).toNat = 0 from rfl] at hx112_2)
                        (try rw [show 0 * 3 = 0 from rfl] at hx112_2)
                        (try rw [Addr.add_zero'] at hx112_2)
                        have HR112_2 := Aside0.mk hi112_2
                        have HC112_2 := Aside0.mk hl112_2
                        clear hi112_2 hl112_2
                        replace p112 := eq_true p112
                        replace q112 := eq_true q112
                        have p113 : 0 ≤ (x5_2 : Int) := of_decide_eq_true (by first | (with_reducible assumption) | assumption)
                        have q113 : x5_2 < (((rd_T59 l1 0).f2).length : Int) := of_decide_eq_true (by first | (with_reducible assumption) | assumption)
                        obtain ⟨ad113, e113, hx113_0, hx113_1, hx113_2, hx113_3, hx113_4⟩ := at_T34 HR112_2.out x5_2 p113 q113
                        cases e113
                        replace p113 := eq_true p113
                        replace q113 := eq_true q113
                        go_wp2
                        repeat (go_quiet (fail); try go_wp2)
                        go_ret
                        exact ⟨by first | rfl | (simp; done) | (simp [*]; done) | (exact congrArg (Value.int .i64) (wrap_eq (by omega))), by repeat (first | exact Drawn0.refl _ | apply Drawn0.step)⟩
                      · rw [if_neg c14] at H
                        have c14b0 : ((!(((rd_T34 ((rd_T59 l0 0).f2) x5_2).f0.f0) == ((rd_T34 ((rd_T59 l1 0).f2) x5_2).f0.f0)) || (!(((rd_T34 ((rd_T59 l0 0).f2) x5_2).f0.f1) == ((rd_T34 ((rd_T59 l1 0).f2) x5_2).f0.f1)))) || (!(((rd_T34 ((rd_T59 l0 0).f2) x5_2).f1) == ((rd_T34 ((rd_T59 l1 0).f2) x5_2).f1)) || (!(((rd_T34 ((rd_T59 l0 0).f2) x5_2).f2) == ((rd_T34 ((rd_T59 l1 0).f2) x5_2).f2)) || (!(((rd_T34 ((rd_T59 l0 0).f2) x5_2).f3) == ((rd_T34 ((rd_T59 l1 0).f2) x5_2).f3)))))) = false := by simpa using c14
                        clear c14
                        have H' := Aside0.mk H
                        clear H
                        have p109 : 0 ≤ (0 : Int) := (by omega)
                        have q109 : 0 < (l0.length : Int) := of_decide_eq_true (by first | (with_reducible assumption) | assumption)
                        obtain ⟨ad109, A109_2, c109_2, e109, hx109_0, hx109_1, hx109_2, hl109_2, hi109_2⟩ := at_T59 HR0.out 0 p109 q109
                        obtain rfl : adp0 = ad109 := (by injection e109)
                        have qi109 : (0 < l0.length) = True := eq_true (by omega)
                        (try rw [show ((0 : Int)).toNat = 0 from rfl] at hx109_0)
                        (try rw [show 0 * 3 = 0 from rfl] at hx109_0)
                        (try rw [Addr.add_zero'] at hx109_0)
                        (try rw [show ((0 : Int)).toNat = 0 from rfl] at hx109_1)
                        (try rw [show 0 * 3 = 0 from rfl] at hx109_1)
                        (try rw [Addr.add_zero'] at hx109_1)
                        (try rw [show ((0 : Int)).toNat = 0 from rfl] at hx109_2)
                        (try rw [show 0 * 3 = 0 from rfl] at hx109_2)
                        (try rw [Addr.add_zero'] at hx109_2)
                        have HR109_2 := Aside0.mk hi109_2
                        have HC109_2 := Aside0.mk hl109_2
                        clear hi109_2 hl109_2
                        replace p109 := eq_true p109
                        replace q109 := eq_true q109
                        have p110 : 0 ≤ (0 : Int) := (by omega)
                        have q110 : 0 < (l0.length : Int) := of_decide_eq_true (by first | (with_reducible assumption) | assumption)
                        obtain ⟨ad110, A110_2, c110_2, e110, hx110_0, hx110_1, hx110_2, hl110_2, hi110_2⟩ := at_T59 HR0.out 0 p110 q110
                        obtain rfl : adp0 = ad110 := (by injection e110)
                        have qi110 : (0 < l0.length) = True := eq_true (by omega)
                        (try rw [show ((0 : Int)).toNat = 0 from rfl] at hx110_0)
                        (try rw [show 0 * 3 = 0 from rfl] at hx110_0)
                        (try rw [Addr.add_zero'] at hx110_0)
                        (try rw [show ((0 : Int)).toNat = 0 from rfl] at hx110_1)
                        (try rw [show 0 * 3 = 0 from rfl] at hx110_1)
                        (try rw [Addr.add_zero'] at hx110_1)
                        (try rw [show ((0 : Int)).toNat = 0 from rfl] at hx110_2)
                        (try rw [show 0 * 3 = 0 from rfl] at hx110_2)
                        (try rw [Addr.add_zero'] at hx110_2)
                        have HR110_2 := Aside0.mk hi110_2
                        have HC110_2 := Aside0.mk hl110_2
                        clear hi110_2 hl110_2
                        replace p110 := eq_true p110
                        replace q110 := eq_true q110
                        have ea_ := Option.some.inj (hx109_2.symm.trans hx110_2)
                        injection ea_ with ea_ en_ ec_
                        subst ea_
                        subst ec_
                        clear en_
                        have p111 : 0 ≤ (x5_2 : Int) := of_decide_eq_true (by first | (with_reducible assumption) | assumption)
                        have q111 : x5_2 < (((rd_T59 l0 0).f2).length : Int) := of_decide_eq_true (by first | (with_reducible assumption) | assumption)
                        obtain ⟨ad111, e111, hx111_0, hx111_1, hx111_2, hx111_3, hx111_4⟩ := at_T34 HR110_2.out x5_2 p111 q111
                        cases e111
                        replace p111 := eq_true p111
                        replace q111 := eq_true q111
                        have p112 : 0 ≤ (0 : Int) := (by omega)
                        have q112 : 0 < (l1.length : Int) := of_decide_eq_true (by first | (with_reducible assumption) | assumption)
                        obtain ⟨ad112, A112_2, c112_2, e112, hx112_0, hx112_1, hx112_2, hl112_2, hi112_2⟩ := at_T59 HR1.out 0 p112 q112
                        obtain rfl : adp1 = ad112 := (by injection e112)
                        have qi112 : (0 < l1.length) = True := eq_true (by omega)
                        (try rw [show ((0 : Int)).toNat = 0 from rfl] at hx112_0)
                        (try rw [show 0 * 3 = 0 from rfl] at hx112_0)
                        (try rw [Addr.add_zero'] at hx112_0)
                        (try rw [show ((0 : Int)).toNat = 0 from rfl] at hx112_1)
                        (try rw [show 0 * 3 = 0 from rfl] at hx112_1)
                        (try rw [Addr.add_zero'] at hx112_1)
                        (try rw [show ((0 : Int)).toNat = 0 from rfl] at hx112_2)
                        (try rw [show 0 * 3 = 0 from rfl] at hx112_2)
                        (try rw [Addr.add_zero'] at hx112_2)
                        have HR112_2 := Aside0.mk hi112_2
                        have HC112_2 := Aside0.mk hl112_2
                        clear hi112_2 hl112_2
                        replace p112 := eq_true p112
                        replace q112 := eq_true q112
                        have p113 : 0 ≤ (x5_2 : Int) := of_decide_eq_true (by first | (with_reducible assumption) | assumption)
                        have q113 : x5_2 < (((rd_T59 l1 0).f2).length : Int) := of_decide_eq_true (by first | (with_reducible assumption) | assumption)
                        obtain ⟨ad113, e113, hx113_0, hx113_1, hx113_2, hx113_3, hx113_4⟩ := at_T34 HR112_2.out x5_2 p113 q113
                        cases e113
                        replace p113 := eq_true p113
                        replace q113 := eq_true q113
                        go_wp2
                        repeat (go_quiet (fail); try go_wp2)
                        go_roundg k2
                        case measure => have := HJ2.out; have := HK2.out; omega
                        case rel => exact ⟨(wrap64 (x5_2 + 1)), (by first | rfl | (simp; done) | (simp [*]; done) | (exact congrArg (Value.int .i64) (wrap_eq (by omega)))), H', ⟨by have := HJ2.out; have := HK2.out; omega⟩, by repeat (first | exact Drawn0.refl _ | apply Drawn0.step)⟩
                    · rw [if_neg c13] at H
                      exact absurd H (by simp)
                  · rw [if_neg c12] at H
                    exact absurd H (by simp)
                · rw [if_neg c11] at H
                  exact absurd H (by simp)
              · rw [if_neg c10] at H
                have c10b0 : decide (x5_2 < (((rd_T59 l0 0).f2).length : Int)) = false := decide_eq_false c10
                clear c10
                obtain rfl := Option.some.inj H
                have p109 : 0 ≤ (0 : Int) := (by omega)
                have q109 : 0 < (l0.length : Int) := of_decide_eq_true (by first | (with_reducible assumption) | assumption)
                obtain ⟨ad109, A109_2, c109_2, e109, hx109_0, hx109_1, hx109_2, hl109_2, hi109_2⟩ := at_T59 HR0.out 0 p109 q109
                obtain rfl : adp0 = ad109 := (by injection e109)
                have qi109 : (0 < l0.length) = True := eq_true (by omega)
                (try rw [show ((0 : Int)).toNat = 0 from rfl] at hx109_0)
                (try rw [show 0 * 3 = 0 from rfl] at hx109_0)
                (try rw [Addr.add_zero'] at hx109_0)
                (try rw [show ((0 : Int)).toNat = 0 from rfl] at hx109_1)
                (try rw [show 0 * 3 = 0 from rfl] at hx109_1)
                (try rw [Addr.add_zero'] at hx109_1)
                (try rw [show ((0 : Int)).toNat = 0 from rfl] at hx109_2)
                (try rw [show 0 * 3 = 0 from rfl] at hx109_2)
                (try rw [Addr.add_zero'] at hx109_2)
                have HR109_2 := Aside0.mk hi109_2
                have HC109_2 := Aside0.mk hl109_2
                clear hi109_2 hl109_2
                replace p109 := eq_true p109
                replace q109 := eq_true q109
                go_wp2
                repeat (go_quiet (fail); try go_wp2)
                go_ret
                exact ⟨by first | rfl | (simp; done) | (simp [*]; done) | (exact congrArg (Value.int .i64) (wrap_eq (by omega))), by repeat (first | exact Drawn0.refl _ | apply Drawn0.step)⟩
            · rw [if_neg c9] at H
              exact absurd H (by simp)

/-! ### spec_SameBoard: function 35 -/
def spec_SameBoard.f (k : Nat) (a0_0 : Int) (a0_1 : Int) (l0_2 : List (S34)) (a1_0 : Int) (a1_1 : Int) (l1_2 : List (S34)) : Option (Bool) := (spec_l01Same.f k [(⟨a0_0, a0_1, l0_2⟩ : S59)] [(⟨a1_0, a1_1, l1_2⟩ : S59)]).bind fun t116 => (some t116)
theorem spec_SameBoard.mono : ∀ a0 a1 a2 a3 a4 a5 k, LeO (spec_SameBoard.f k a0 a1 a2 a3 a4 a5) (spec_SameBoard.f (k + 1) a0 a1 a2 a3 a4 a5) := by
  intro a0 a1 a2 a3 a4 a5 k
  unfold spec_SameBoard.f
  repeat' first
      | (with_reducible exact spec_l01Same.mono _ _ _)
      | (with_reducible exact LeO.refl _)
      | (with_reducible exact LeO.none _)
      | (with_reducible refine LeO.ite ?_ ?_)
      | (with_reducible refine LeO.bind ?_ (fun _ => ?_))
      | exact spec_l01Same.mono _ _ _
      | exact LeO.none _
      | refine LeO.ite ?_ ?_
      | refine LeO.bind ?_ (fun _ => ?_)
set_option maxHeartbeats 8000000 in
set_option maxRecDepth 100000 in
theorem spec_SameBoard.calls (k : Nat) (a0_0 : Int) (a0_1 : Int) (A0_2 : Option Addr) (c0_2 : Nat) (l0_2 : List (S34)) (a1_0 : Int) (a1_1 : Int) (A1_2 : Option Addr) (c1_2 : Nat) (l1_2 : List (S34)) (r : Bool) (w : World) (hr0_2 : Kd.C k34 w A0_2 l0_2.length l0_2) (hc0_2 : l0_2.length ≤ c0_2) (hr1_2 : Kd.C k34 w A1_2 l1_2.length l1_2) (hc1_2 : l1_2.length ≤ c1_2) (h : spec_SameBoard.f k a0_0 a0_1 l0_2 a1_0 a1_1 l1_2 = some r) :
    Calls Try.prog 35 #[.agg #[.int .i8 a0_0, .int .i8 a0_1, .slice A0_2 l0_2.length c0_2], .agg #[.int .i8 a1_0, .int .i8 a1_1, .slice A1_2 l1_2.length c1_2]] w fun e w' => e = .returned (.bool r) ∧ Below w.heap.size w w' := by
  have hu59 := Try.underlying59
  have HR0_2 := Aside0.mk hr0_2
  have HC0_2 := Aside0.mk hc0_2
  clear hr0_2 hc0_2
  have HR1_2 := Aside0.mk hr1_2
  have HC1_2 := Aside0.mk hc1_2
  clear hr1_2 hc1_2
  have HB := Aside0.mk (Below.refl w.heap.size w)
  have H : ((spec_l01Same.f k [(⟨a0_0, a0_1, l0_2⟩ : S59)] [(⟨a1_0, a1_1, l1_2⟩ : S59)]).bind fun t116 => (some t116)) = some r := h
  clear h
  replace H := Option.bind_eq_some_iff.mp H
  obtain ⟨t116, A30, H⟩ := H
  replace H : (some t116) = some r := H
  have A3 := Aside0.mk A30
  clear A30
  obtain rfl := Option.some.inj H
  go_enter Try.func35, Try.ntmps35
  go_wp2_with (first | ((with_reducible refine gate_dst (N := 2) rfl ?_); refine box_event ?hg (N := 2) ?hd (cs := #[.int .i8 a0_0, .int .i8 a0_1, .slice A0_2 l0_2.length c0_2]) (t := 59) ?hr ?_; (case hd => rfl); (case hg => rfl); (case hr => first | (go_simp; done) | (go_simp; rfl)); intro gb114 hg w4 hbox hb; have n0_ := Aside0.mk (below_step (by repeat (first | (with_reducible first | exact HB.out | apply below_alloc | apply pw_below_drewN | apply below_drew1) | exact HB.out)) hb); have n1_ := Aside0.mk (hbox); have n2_ := Aside0.mk ((by rw [hg]; exact (below_size (by repeat (first | (with_reducible first | exact HB.out | apply below_alloc | apply pw_below_drewN | apply below_drew1) | exact HB.out))) : w.heap.size ≤ gb114)); have n3_ := Aside0.mk ((by rw [hg]; exact (below_size (by repeat (first | (with_reducible first | exact HB.out | apply below_alloc | apply pw_below_drewN | apply below_drew1) | exact HB.out))) : w.heap.size ≤ gb114)); clear HB; have HB := n0_; have BK114 := n1_; have GW114 := n2_; have GE114 := n3_; clear n0_ n1_ n2_ n3_; clear hb hbox hg) | ((with_reducible refine gate_dst (N := 3) rfl ?_); refine box_event ?hg (N := 3) ?hd (cs := #[.int .i8 a1_0, .int .i8 a1_1, .slice A1_2 l1_2.length c1_2]) (t := 59) ?hr ?_; (case hd => rfl); (case hg => rfl); (case hr => first | (go_simp; done) | (go_simp; rfl)); intro gb115 hg w5 hbox hb; have n0_ := Aside0.mk (blk_below (g := gb114) (o := .cells #[.int .i8 a0_0, .int .i8 a0_1, .slice A0_2 l0_2.length c0_2] 59 (0, 0)) (by (with_reducible repeat (first | refine blk_drewN ?_ _ | refine blk_drew ?_ | refine blk_alloc ?_ _)); exact BK114.out) hb); have n1_ := Aside0.mk (below_step (by repeat (first | (with_reducible first | exact HB.out | apply below_alloc | apply pw_below_drewN | apply below_drew1 | refine below_set ?_ GE114.out) | exact HB.out)) hb); have n2_ := Aside0.mk (hbox); have n3_ := Aside0.mk ((by rw [hg]; exact (below_size (by repeat (first | (with_reducible first | exact HB.out | apply below_alloc | apply pw_below_drewN | apply below_drew1 | refine below_set ?_ GE114.out) | exact HB.out))) : w.heap.size ≤ gb115)); have n4_ := Aside0.mk ((by rw [hg]; exact (below_size (by repeat (first | (with_reducible first | exact HB.out | apply below_alloc | apply pw_below_drewN | apply below_drew1 | refine below_set ?_ GE114.out) | exact HB.out))) : w.heap.size ≤ gb115)); have n5_ := Aside0.mk ((by rw [hg]; exact Nat.ne_of_lt (blk_lt (g := gb114) (o := .cells #[.int .i8 a0_0, .int .i8 a0_1, .slice A0_2 l0_2.length c0_2] 59 (0, 0)) (by (with_reducible repeat (first | refine blk_drewN ?_ _ | refine blk_drew ?_ | refine blk_alloc ?_ _)); exact BK114.out)) : gb114 ≠ gb115)); have n6_ := Aside0.mk ((by rw [hg]; exact Nat.ne_of_gt (blk_lt (g := gb114) (o := .cells #[.int .i8 a0_0, .int .i8 a0_1, .slice A0_2 l0_2.length c0_2] 59 (0, 0)) (by (with_reducible repeat (first | refine blk_drewN ?_ _ | refine blk_drew ?_ | refine blk_alloc ?_ _)); exact BK114.out)) : gb115 ≠ gb114)); clear BK114; clear HB; have BK114 := n0_; have HB := n1_; have BK115 := n2_; have GW115 := n3_; have GE115 := n4_; have NB114_115 := n5_; have NB115_114 := n6_; clear n0_ n1_ n2_ n3_ n4_ n5_ n6_; clear hb hbox hg) | ((with_reducible refine gate_callee (f := 67) rfl ?_); refine goesL_ (some 5) rfl rfl Try.func67 (by kernel_rfl) rfl #[.pointer (some ⟨gb114, 0, none⟩), .pointer (some ⟨gb115, 0, none⟩)] rfl (by (try simp only [List.map_toArray, List.map_cons, List.map_nil]); first | done | rfl | (simp only [List.length_drop, List.length_take]; rfl)) ?_; (with_reducible refine (spec_l01Same.calls k _ [(⟨a0_0, a0_1, l0_2⟩ : S59)] _ [(⟨a1_0, a1_1, l1_2⟩ : S59)] t116 _ ?side1 ?side2 A3.out).mono ?_); (case side1 => refine ro_of_blk (cs := #[.int .i8 a0_0, .int .i8 a0_1, .slice A0_2 l0_2.length c0_2]) (by (with_reducible repeat (first | refine blk_drewN ?_ _ | refine blk_drew ?_ | refine blk_alloc ?_ _)); exact BK114.out) ?_; exact k59_mk _ (⟨a0_0, a0_1, l0_2⟩ : S59) (by exact HC0_2.out) (by repeat (first | exact (Kd.C_below HR0_2.out HB.out) | (with_reducible refine Kd.C_alloc ?_ _) | (with_reducible refine Kd.C_drewN ?_ _) | (with_reducible refine Kd.C_drew ?_)))); (case side2 => refine ro_of_blk (cs := #[.int .i8 a1_0, .int .i8 a1_1, .slice A1_2 l1_2.length c1_2]) (by (with_reducible repeat (first | refine blk_drewN ?_ _ | refine blk_drew ?_ | refine blk_alloc ?_ _)); exact BK115.out) ?_; exact k59_mk _ (⟨a1_0, a1_1, l1_2⟩ : S59) (by exact HC1_2.out) (by repeat (first | exact (Kd.C_below HR1_2.out HB.out) | (with_reducible refine Kd.C_alloc ?_ _) | (with_reducible refine Kd.C_drewN ?_ _) | (with_reducible refine Kd.C_drew ?_)))); rintro e w' ⟨rfl, ⟨nd, rfl⟩⟩; refine ⟨_, rfl, ?_⟩))
  go_ret
  exact ⟨by first | rfl | (simp [errW_none, errW_some] <;> rfl) | (simp [*, errW_none, errW_some] <;> rfl), by repeat (first | (with_reducible first | exact HB.out | apply below_alloc | apply pw_below_drewN | apply below_drew1 | refine below_set ?_ GE114.out | refine below_set ?_ GE115.out) | exact HB.out)⟩

end Go.Proofs.Ytkcbcbannbllaaa.PFnExactSameBoard
