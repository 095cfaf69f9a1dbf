-- WRITTEN by xprint.py, a program of this session's. Not trusted: Lean checks it.
import Derived.Test.YtmpmanfoiocfgaaPFnExactTablesOfx0
import Derived.Test.YtmpmanfoiocfgaaPFnExactTablesOfx6
namespace Go.Proofs.Ytmpmanfoiocfgaa.PFnExactTablesOf
open Go.RowKit Go.Proofs.YtmpmanfoiocfgaaW.PrintWords Go.Proofs.YtmpmanfoiocfgaaW.PrintLast Go.Proofs.YtmpmanfoiocfgaaW.PrintMore Go.Proofs.YtmpmanfoiocfgaaX
attribute [local go_sem] max2_int min2_int max_two min_two max_three min_three max_four min_four   -- for this text's walks alone
set_option linter.unusedVariables false
set_option linter.unusedSimpArgs false

/-! ### impl_Network_tables: function 97 -/
def impl_Network_tables.l0 : Nat → List (S31) → List Int → List (S81) → Int → Int → Option (List Int)
  | 0, _, _, _, _, _ => none
  | k + 1, x0, x3, x10, x11, x12 => if x12 < x11 then (if 0 ≤ x12 then (if x12 < (x10.length : Int) then (if ((rd_T81 x10 x12).f0) = 0 then (if 0 < (x0.length : Int) then ((impl_inputTable.f k (wrap64 ((rd_T31 x0 0).f0)) (wrap64 ((rd_T81 x10 x12).f1))).bind fun t222 => (if x3.length < 17592186044416 then (impl_Network_tables.l0 k x0 (x3 ++ [t222]) x10 x11 (wrap64 (x12 + 1))) else (none))) else (none)) else (if ((rd_T81 x10 x12).f0) = 1 then (if 0 < (x0.length : Int) then ((impl_full.f (wrap64 ((rd_T31 x0 0).f0))).bind fun t227 => (if x3.length < 17592186044416 then (impl_Network_tables.l0 k x0 (x3 ++ [t227]) x10 x11 (wrap64 (x12 + 1))) else (none))) else (none)) else (if ((rd_T81 x10 x12).f0) = 2 then (if 0 ≤ ((rd_T81 x10 x12).f1) then (if ((rd_T81 x10 x12).f1) < (x3.length : Int) then (if 0 ≤ ((rd_T81 x10 x12).f2) then (if ((rd_T81 x10 x12).f2) < (x3.length : Int) then (if x3.length < 17592186044416 then (impl_Network_tables.l0 k x0 (x3 ++ [Go.bits .or .u64 (rd x3 ((rd_T81 x10 x12).f1)) (rd x3 ((rd_T81 x10 x12).f2))]) x10 x11 (wrap64 (x12 + 1))) else (none)) else (none)) else (none)) else (none)) else (none)) else (if 0 ≤ ((rd_T81 x10 x12).f1) then (if ((rd_T81 x10 x12).f1) < (x3.length : Int) then (if 0 ≤ ((rd_T81 x10 x12).f2) then (if ((rd_T81 x10 x12).f2) < (x3.length : Int) then (if x3.length < 17592186044416 then (impl_Network_tables.l0 k x0 (x3 ++ [Go.bits .andNot .u64 (rd x3 ((rd_T81 x10 x12).f1)) (rd x3 ((rd_T81 x10 x12).f2))]) x10 x11 (wrap64 (x12 + 1))) else (none)) else (none)) else (none)) else (none)) else (none))))) else (none)) else (none)) else (some x3)
def impl_Network_tables.f (k : Nat) (l0 : List (S31)) : Option (List Int) := if 0 < (l0.length : Int) then (impl_Network_tables.l0 k l0 (([] : List Int)) ((rd_T31 l0 0).f1) (((rd_T31 l0 0).f1).length : Int) 0) else (none)
theorem impl_Network_tables.mono_l : ∀ k, (∀ y0 y1 y2 y3 y4, LeO (impl_Network_tables.l0 k y0 y1 y2 y3 y4) (impl_Network_tables.l0 (k + 1) y0 y1 y2 y3 y4))
  | 0 => fun _ _ _ _ _ r h => by simp [impl_Network_tables.l0] at h
  | k + 1 => by
    have ih0 := impl_Network_tables.mono_l k
    · intro y0 y1 y2 y3 y4
      unfold impl_Network_tables.l0
      repeat' first
      | (with_reducible exact ih0 _ _ _ _ _)
      | (with_reducible exact impl_inputTable.mono _ _ _)
      | (with_reducible exact LeO.refl _)
      | (with_reducible exact LeO.none _)
      | (with_reducible refine LeO.ite ?_ ?_)
      | (with_reducible refine LeO.bind ?_ (fun _ => ?_))
      | exact ih0 _ _ _ _ _
      | exact impl_inputTable.mono _ _ _
      | exact LeO.none _
      | refine LeO.ite ?_ ?_
      | refine LeO.bind ?_ (fun _ => ?_)
theorem impl_Network_tables.mono : ∀ a0 k, LeO (impl_Network_tables.f k a0) (impl_Network_tables.f (k + 1) a0) := by
  intro a0 k
  have ih0 := impl_Network_tables.mono_l k
  unfold impl_Network_tables.f
  repeat' first
      | (with_reducible exact ih0 _ _ _ _ _)
      | (with_reducible exact impl_inputTable.mono _ _ _)
      | (with_reducible exact LeO.refl _)
      | (with_reducible exact LeO.none _)
      | (with_reducible refine LeO.ite ?_ ?_)
      | (with_reducible refine LeO.bind ?_ (fun _ => ?_))
      | exact ih0 _ _ _ _ _
      | exact impl_inputTable.mono _ _ _
      | exact LeO.none _
      | refine LeO.ite ?_ ?_
      | refine LeO.bind ?_ (fun _ => ?_)
def impl_Network_tables.T6 : Bool × List (List Nat × List Nat) := (true, [([], []), ([], []), ([], []), ([2], [2]), ([1, 3], [1, 3]), ([4], [4]), ([], []), ([], []), ([7], [7]), ([6, 8], [6, 8]), ([9], [9]), ([5, 10], [5, 10]), ([11], [11]), ([0, 12], [0, 12]), ([13, 13, 0, 1, 2, 3, 4, 5, 6, 7, 8, 9, 10, 11, 12, 13], [0, 1, 6, 13])])
def impl_Network_tables.B6 : List Nat := [0, 0, 0, 4, 14, 30, 0, 0, 128, 448, 960, 2046, 4094, 8191, 16383]
theorem impl_Network_tables.tab6 : rtab .any (opsOf Try.f97 6) = impl_Network_tables.T6 := by kernel_rfl
theorem impl_Network_tables.bits6 : waitsOk impl_Network_tables.T6.2 impl_Network_tables.B6 = true := by kernel_rfl
def impl_Network_tables.T8 : Bool × List (List Nat × List Nat) := (true, [([], []), ([], []), ([1], [1]), ([2], [2]), ([3], [3]), ([4], [4]), ([], []), ([6], [6]), ([7], [7]), ([5, 8], [5, 8]), ([9], [9]), ([0, 10, 9], [0, 10]), ([11, 11, 0, 1, 2, 3, 4, 5, 6, 7, 8, 9, 10, 11], [0, 11])])
def impl_Network_tables.B8 : List Nat := [0, 0, 2, 6, 14, 30, 0, 64, 192, 510, 1022, 2047, 4095]
theorem impl_Network_tables.tab8 : rtab .any (opsOf Try.f97 8) = impl_Network_tables.T8 := by kernel_rfl
theorem impl_Network_tables.bits8 : waitsOk impl_Network_tables.T8.2 impl_Network_tables.B8 = true := by kernel_rfl
def impl_Network_tables.T12 : Bool × List (List Nat × List Nat) := (true, [([], []), ([], []), ([], []), ([2], [2]), ([1, 3], [1, 3]), ([4], [4]), ([], []), ([], []), ([7], [7]), ([6, 8], [6, 8]), ([9], [9]), ([5, 10], [5, 10]), ([11], [11]), ([0, 12], [0, 12]), ([13, 13, 0, 1, 2, 3, 4, 5, 6, 7, 8, 9, 10, 11, 12, 13], [0, 1, 6, 13])])
def impl_Network_tables.B12 : List Nat := [0, 0, 0, 4, 14, 30, 0, 0, 128, 448, 960, 2046, 4094, 8191, 16383]
theorem impl_Network_tables.tab12 : rtab .any (opsOf Try.f97 12) = impl_Network_tables.T12 := by kernel_rfl
theorem impl_Network_tables.bits12 : waitsOk impl_Network_tables.T12.2 impl_Network_tables.B12 = true := by kernel_rfl
set_option maxHeartbeats 8000000 in
set_option maxRecDepth 100000 in
theorem impl_Network_tables.calls (k : Nat) (adp0 : Addr) (l0 : List (S31)) (r : List Int) (w : World) (hr0 : Kd.C k31 w (some adp0) l0.length l0) (h : impl_Network_tables.f k l0 = some r) :
    Calls Try.prog 97 #[.pointer (some adp0)] w fun e w' => ∃ v0_ : Value, e = .returned (v0_) ∧ Kd.R (Kd.int .u64) 98 w' w.heap.size (fun _ => True) v0_ r ∧ Below w.heap.size w w' := by
  have hu81 := Try.underlying81
  have HR0 := Aside0.mk hr0
  clear hr0
  have HB := Aside0.mk (Below.refl w.heap.size w)
  have H : (if 0 < (l0.length : Int) then (impl_Network_tables.l0 k l0 (([] : List Int)) ((rd_T31 l0 0).f1) (((rd_T31 l0 0).f1).length : Int) 0) else (none)) = some r := h
  clear h
  obtain ⟨y215, hy215⟩ : ∃ y_ : List Int, y_ = (([] : List Int)) := ⟨_, rfl⟩
  replace H : (if 0 < (l0.length : Int) then (impl_Network_tables.l0 k l0 y215 ((rd_T31 l0 0).f1) (((rd_T31 l0 0).f1).length : Int) 0) else (none)) = some r := by first | (rw [hy215]; with_reducible exact H) | (have H2_ := (Option.bind_some _ _).symm.trans H; rw [hy215]; with_reducible exact H2_) | (have H2_ := (Option.bind_some _ _).symm.trans H; with_reducible exact H2_) | with_reducible exact H | (rw [hy215]; exact H) | exact H
  have Ny215 := Aside0.mk hy215
  clear hy215
  by_cases c2 : 0 < (l0.length : Int)
  · rw [if_pos c2] at H
    have c2b0 : decide (0 < (l0.length : Int)) = true := decide_eq_true c2
    have c2b1 : decide (0 < l0.length) = true := decide_eq_true (by omega)
    clear c2
    have H' := Aside0.mk H
    clear H
    go_enter Try.func97, Try.ntmps97
    go_wp2_with (first | ((with_reducible refine gate_dst (N := 6) rfl ?_); refine Kd.R_lit (Kd.int .u64) _ 98 ?hg (N := 6) ?hd (xs := ([] : List Int)) (inner := []) (ok := fun _ => True) (okp := fun _ => True) ?hr ?hp (fun _ hk => hk) trivial (Below.refl _ _) (Nat.le_refl _) (by simp) ?_; (case hd => rfl); (case hg => rfl); (case hr => first | (go_simp; done) | (go_simp; rfl)); (case hp => exact (Reps.none _ _)); intro v216 w3 ho4 hb hg_ hnew_; clear hg_ hnew_; (first | rw [← Ny215.out] at ho4 | (simp only [Int.reduceToNat] at ho4; rw [← Ny215.out] at ho4)); have n0_ := Aside0.mk (Kd.R_lower ho4 (below_size (by repeat (first | (with_reducible first | exact HB.out | apply below_alloc | apply pw_below_drewN | apply below_drew1) | exact HB.out)))); have n1_ := Aside0.mk (below_step (by repeat (first | (with_reducible first | exact HB.out | apply below_alloc | apply pw_below_drewN | apply below_drew1) | exact HB.out)) hb); clear HB; have HO217 := n0_; have HB := n1_; clear n0_ n1_; clear hb ho4; have p218 : 0 ≤ (0 : Int) := (by omega); have q218 : 0 < (l0.length : Int) := of_decide_eq_true (by first | (with_reducible assumption) | assumption); obtain ⟨ad218, A218_1, c218_1, A218_2, c218_2, e218, hx218_0, hx218_1, hx218_2, hl218_1, hi218_1, hl218_2, hi218_2⟩ := at_T31 HR0.out 0 p218 q218; obtain rfl : adp0 = ad218 := (by injection e218); have qi218 : (0 < l0.length) = True := eq_true (by omega); (try rw [show ((0 : Int)).toNat = 0 from rfl] at hx218_0); (try rw [show 0 * 3 = 0 from rfl] at hx218_0); (try rw [Addr.add_zero'] at hx218_0); (try rw [show ((0 : Int)).toNat = 0 from rfl] at hx218_1); (try rw [show 0 * 3 = 0 from rfl] at hx218_1); (try rw [Addr.add_zero'] at hx218_1); (try rw [show ((0 : Int)).toNat = 0 from rfl] at hx218_2); (try rw [show 0 * 3 = 0 from rfl] at hx218_2); (try rw [Addr.add_zero'] at hx218_2); replace hx218_0 := (HB.out.cell (World.block_lt_of_cell? w _ hx218_0)).trans hx218_0; replace hx218_1 := (HB.out.cell (World.block_lt_of_cell? w _ hx218_1)).trans hx218_1; replace hx218_2 := (HB.out.cell (World.block_lt_of_cell? w _ hx218_2)).trans hx218_2; have HR218_1 := Aside0.mk hi218_1; have HC218_1 := Aside0.mk hl218_1; clear hi218_1 hl218_1; have HR218_2 := Aside0.mk hi218_2; have HC218_2 := Aside0.mk hl218_2; clear hi218_2 hl218_2; replace p218 := eq_true p218; replace q218 := eq_true q218))
    go_loopg [3, 12] k (fun kq v3 v12 w' => ∃ (x3_1 : List Int) (x12_1 : Int), v12 = .int .i64 x12_1 ∧ Aside0 (impl_Network_tables.l0 kq l0 x3_1 ((rd_T31 l0 0).f1) (((rd_T31 l0 0).f1).length : Int) x12_1 = some r) ∧ Aside0 (kq ≤ k) ∧ Aside0 (Kd.R (Kd.int .u64) 98 w' w.heap.size (fun _ => True) v3 x3_1) ∧ Aside0 (Below w.heap.size w w'))
    case atStart => exact ⟨(y215), (0), (by first | rfl | (simp; done) | (simp [*]; done) | (exact congrArg (Value.int .i64) (wrap_eq (by omega)))), H', ⟨Nat.le_refl _⟩, ⟨by (with_reducible repeat (first | apply Kd.R_alloc | apply Kd.R_drewN | apply Kd.R_drew)); exact HO217.out⟩, ⟨by repeat (first | (with_reducible first | exact HB.out | apply below_alloc | apply pw_below_drewN | apply below_drew1) | exact HB.out)⟩⟩
    case round =>
      clear H'
      try clear c2
      try clear c2b0
      try clear c2b1
      try clear p2
      try clear q2
      try clear hx2
      try clear qi2
      try clear hx218_0
      try clear hx218_1
      try clear hx218_2
      try clear p218
      try clear q218
      obtain ⟨x3_1, x12_1, rfl, HA, HK1, HO_3, HB⟩ := hrel
      cases gk with
      | zero => exact absurd HA.out (by simp [impl_Network_tables.l0])
      | succ k1 =>
        have H := HA.out
        clear HA
        simp only [impl_Network_tables.l0] at H
        by_cases c5 : x12_1 < (((rd_T31 l0 0).f1).length : Int)
        · rw [if_pos c5] at H
          have c5b0 : decide (x12_1 < (((rd_T31 l0 0).f1).length : Int)) = true := decide_eq_true c5
          clear c5
          by_cases c6 : 0 ≤ x12_1
          · rw [if_pos c6] at H
            have c6b0 : decide (0 ≤ x12_1) = true := decide_eq_true c6
            clear c6
            by_cases c7 : x12_1 < (((rd_T31 l0 0).f1).length : Int)
            · rw [if_pos c7] at H
              have c7b0 : decide (x12_1 < (((rd_T31 l0 0).f1).length : Int)) = true := decide_eq_true c7
              clear c7
              by_cases c8 : ((rd_T81 ((rd_T31 l0 0).f1) x12_1).f0) = 0
              · rw [if_pos c8] at H
                have c8b0 : (((rd_T81 ((rd_T31 l0 0).f1) x12_1).f0) == 0) = true := beq_iff_eq.mpr c8
                have c8b1 : (((rd_T81 ((rd_T31 l0 0).f1) x12_1).f0) != 0) = false := bne_eq_false_iff_eq.mpr c8
                clear c8
                by_cases c9 : 0 < (l0.length : Int)
                · rw [if_pos c9] at H
                  have c9b0 : decide (0 < (l0.length : Int)) = true := decide_eq_true c9
                  have c9b1 : decide (0 < l0.length) = true := decide_eq_true (by omega)
                  clear c9
                  replace H := Option.bind_eq_some_iff.mp H
                  obtain ⟨t222, A100, H⟩ := H
                  replace H : (if x3_1.length < 17592186044416 then (impl_Network_tables.l0 k1 l0 (x3_1 ++ [t222]) ((rd_T31 l0 0).f1) (((rd_T31 l0 0).f1).length : Int) (wrap64 (x12_1 + 1))) else (none)) = some r := H
                  have A10 := Aside0.mk A100
                  clear A100
                  by_cases c11 : x3_1.length < 17592186044416
                  · rw [if_pos c11] at H
                    have LMc11 := Aside0.mk c11
                    clear c11
                    obtain ⟨y223, hy223⟩ : ∃ y_ : List Int, y_ = (x3_1 ++ [t222]) := ⟨_, rfl⟩
                    replace H : (impl_Network_tables.l0 k1 l0 y223 ((rd_T31 l0 0).f1) (((rd_T31 l0 0).f1).length : Int) (wrap64 (x12_1 + 1))) = some r := by first | (rw [hy223]; with_reducible exact H) | (have H2_ := (Option.bind_some _ _).symm.trans H; rw [hy223]; with_reducible exact H2_) | (have H2_ := (Option.bind_some _ _).symm.trans H; with_reducible exact H2_) | with_reducible exact H | (rw [hy223]; exact H) | exact H
                    have Ny223 := Aside0.mk hy223
                    clear hy223
                    have H' := Aside0.mk H
                    clear H
                    have p219 : 0 ≤ (x12_1 : Int) := of_decide_eq_true (by first | (with_reducible assumption) | assumption)
                    have q219 : x12_1 < (((rd_T31 l0 0).f1).length : Int) := of_decide_eq_true (by first | (with_reducible assumption) | assumption)
                    obtain ⟨ad219, e219, hx219_0, hx219_1, hx219_2⟩ := at_T81 HR218_1.out x12_1 p219 q219
                    cases e219
                    replace hx219_0 := (HB.out.cell (World.block_lt_of_cell? w _ hx219_0)).trans hx219_0
                    replace hx219_1 := (HB.out.cell (World.block_lt_of_cell? w _ hx219_1)).trans hx219_1
                    replace hx219_2 := (HB.out.cell (World.block_lt_of_cell? w _ hx219_2)).trans hx219_2
                    replace p219 := eq_true p219
                    replace q219 := eq_true q219
                    try go_wp2_with (first | ((with_reducible refine gate_dst (N := 5) rfl ?_); refine box_event ?hg (N := 5) ?hd (cs := #[.int .i8 0, .int .i16 0, .int .i16 0]) (t := 81) ?hr ?_; (case hd => rfl); (case hg => rfl); (case hr => first | (go_simp; done) | (go_simp; rfl)); intro gb220 hg w12 hbox hb; have n0_ := Aside0.mk (Kd.R_below (by (with_reducible repeat (first | apply Kd.R_alloc | apply Kd.R_drewN | apply Kd.R_drew)); exact HO_3.out) hb); have n1_ := Aside0.mk (below_step (by repeat (first | (with_reducible first | exact HB.out | apply below_alloc | apply pw_below_drewN | apply below_drew1) | exact HB.out)) hb); have n2_ := Aside0.mk (hbox); have n3_ := Aside0.mk ((by rw [hg]; exact (below_size (by repeat (first | (with_reducible first | exact HB.out | apply below_alloc | apply pw_below_drewN | apply below_drew1) | exact HB.out))) : w.heap.size ≤ gb220)); have n4_ := Aside0.mk ((by rw [hg]; exact (below_size (by repeat (first | (with_reducible first | exact HB.out | apply below_alloc | apply pw_below_drewN | apply below_drew1) | exact HB.out))) : w.heap.size ≤ gb220)); clear HO_3; clear HB; have HO_3 := n0_; have HB := n1_; have BK220 := n2_; have GW220 := n3_; have GE220 := n4_; clear n0_ n1_ n2_ n3_ n4_; clear hb hbox hg; have hcz13_0 : w12.cell? ⟨gb220, 0, none⟩ = some (.int .i8 0) := (blk_cell BK220.out 0).trans rfl; have hcz13_1 : w12.cell? ⟨gb220, 1, none⟩ = some (.int .i16 0) := (blk_cell BK220.out 1).trans rfl; have hcz13_2 : w12.cell? ⟨gb220, 2, none⟩ = some (.int .i16 0) := (blk_cell BK220.out 2).trans rfl; have hfz13_0 := blk_frozen BK220.out 0; have hfz13_1 := blk_frozen BK220.out 1; have hfz13_2 := blk_frozen BK220.out 2))
                    have n0_ : Aside0 (Kd.R (Kd.int .u64) 98 (((w12.setCell ⟨gb220, 0, none⟩ (.int .i8 ((rd_T81 ((rd_T31 l0 0).f1) x12_1).f0))).setCell ⟨gb220, 1, none⟩ (.int .i16 ((rd_T81 ((rd_T31 l0 0).f1) x12_1).f1))).setCell ⟨gb220, 2, none⟩ (.int .i16 ((rd_T81 ((rd_T31 l0 0).f1) x12_1).f2))) w.heap.size (fun _ => True) u3 x3_1) := ⟨by (with_reducible repeat (first | apply Kd.R_alloc | apply Kd.R_drewN | apply Kd.R_drew)); exact Kd.R_mono (Kd.R_far (p := ⟨gb220, 2, none⟩) (Kd.R_far (p := ⟨gb220, 1, none⟩) (Kd.R_far (p := ⟨gb220, 0, none⟩) (Kd.R_types HO_3.out BK220.out (by decide)) (fun _ hk => hk.2) (.int .i8 ((rd_T81 ((rd_T31 l0 0).f1) x12_1).f0))) (fun _ hk => hk.2) (.int .i16 ((rd_T81 ((rd_T31 l0 0).f1) x12_1).f1))) (fun _ hk => hk.2) (.int .i16 ((rd_T81 ((rd_T31 l0 0).f1) x12_1).f2))) (fun _ hk => trivial)⟩
                    have n1_ : Aside0 ((((w12.setCell ⟨gb220, 0, none⟩ (.int .i8 ((rd_T81 ((rd_T31 l0 0).f1) x12_1).f0))).setCell ⟨gb220, 1, none⟩ (.int .i16 ((rd_T81 ((rd_T31 l0 0).f1) x12_1).f1))).setCell ⟨gb220, 2, none⟩ (.int .i16 ((rd_T81 ((rd_T31 l0 0).f1) x12_1).f2))).heap[gb220]? = some (.cells #[.int .i8 ((rd_T81 ((rd_T31 l0 0).f1) x12_1).f0), .int .i16 ((rd_T81 ((rd_T31 l0 0).f1) x12_1).f1), .int .i16 ((rd_T81 ((rd_T31 l0 0).f1) x12_1).f2)] 81 (0, 0))) := ⟨by (with_reducible repeat (first | refine blk_drewN ?_ _ | refine blk_drew ?_ | refine blk_alloc ?_ _)); refine blk_put (cs := #[.int .i8 ((rd_T81 ((rd_T31 l0 0).f1) x12_1).f0), .int .i16 ((rd_T81 ((rd_T31 l0 0).f1) x12_1).f1), .int .i16 0]) ?_ 2 _ rfl; (with_reducible repeat (first | refine blk_drewN ?_ _ | refine blk_drew ?_ | refine blk_alloc ?_ _)); refine blk_put (cs := #[.int .i8 ((rd_T81 ((rd_T31 l0 0).f1) x12_1).f0), .int .i16 0, .int .i16 0]) ?_ 1 _ rfl; (with_reducible repeat (first | refine blk_drewN ?_ _ | refine blk_drew ?_ | refine blk_alloc ?_ _)); refine blk_put (cs := #[.int .i8 0, .int .i16 0, .int .i16 0]) ?_ 0 _ rfl; (with_reducible repeat (first | refine blk_drewN ?_ _ | refine blk_drew ?_ | refine blk_alloc ?_ _)); exact BK220.out⟩
                    have n2_ : Aside0 (Below w.heap.size w (((w12.setCell ⟨gb220, 0, none⟩ (.int .i8 ((rd_T81 ((rd_T31 l0 0).f1) x12_1).f0))).setCell ⟨gb220, 1, none⟩ (.int .i16 ((rd_T81 ((rd_T31 l0 0).f1) x12_1).f1))).setCell ⟨gb220, 2, none⟩ (.int .i16 ((rd_T81 ((rd_T31 l0 0).f1) x12_1).f2)))) := ⟨by repeat (first | (with_reducible first | exact HB.out | apply below_alloc | apply pw_below_drewN | apply below_drew1 | refine below_set ?_ GE220.out) | exact HB.out)⟩
                    (try clear HO_3)
                    (try clear BK220)
                    (try clear HB)
                    generalize (((w12.setCell ⟨gb220, 0, none⟩ (.int .i8 ((rd_T81 ((rd_T31 l0 0).f1) x12_1).f0))).setCell ⟨gb220, 1, none⟩ (.int .i16 ((rd_T81 ((rd_T31 l0 0).f1) x12_1).f1))).setCell ⟨gb220, 2, none⟩ (.int .i16 ((rd_T81 ((rd_T31 l0 0).f1) x12_1).f2))) = w14 at n0_ n1_ n2_ ⊢
                    have HO_3 := n0_
                    have BK220 := n1_
                    have HB := n2_
                    clear n0_ n1_ n2_
                    have n0_ := Aside0.mk (Kd.R_drew HO_3.out)
                    have n1_ := Aside0.mk (blk_drew BK220.out)
                    have n2_ := Aside0.mk (below_drew1 HB.out)
                    clear HO_3
                    clear BK220
                    clear HB
                    have HO_3 := n0_
                    have BK220 := n1_
                    have HB := n2_
                    clear n0_ n1_ n2_
                    have p221 : 0 ≤ (0 : Int) := (by omega)
                    have q221 : 0 < (l0.length : Int) := of_decide_eq_true (by first | (with_reducible assumption) | assumption)
                    obtain ⟨ad221, A221_1, c221_1, A221_2, c221_2, e221, hx221_0, hx221_1, hx221_2, hl221_1, hi221_1, hl221_2, hi221_2⟩ := at_T31 HR0.out 0 p221 q221
                    have hw221_2 := hx221_2
                    (try rw [show ((0 : Int)).toNat = 0 from rfl] at hw221_2)
                    (try rw [show 0 * 3 = 0 from rfl] at hw221_2)
                    (try rw [Addr.add_zero'] at hw221_2)
                    have hw221_1 := hx221_1
                    (try rw [show ((0 : Int)).toNat = 0 from rfl] at hw221_1)
                    (try rw [show 0 * 3 = 0 from rfl] at hw221_1)
                    (try rw [Addr.add_zero'] at hw221_1)
                    have hw221_0 := hx221_0
                    (try rw [show ((0 : Int)).toNat = 0 from rfl] at hw221_0)
                    (try rw [show 0 * 3 = 0 from rfl] at hw221_0)
                    (try rw [Addr.add_zero'] at hw221_0)
                    obtain rfl : adp0 = ad221 := (by injection e221)
                    have qi221 : (0 < l0.length) = True := eq_true (by omega)
                    (try rw [show ((0 : Int)).toNat = 0 from rfl] at hx221_0)
                    (try rw [show 0 * 3 = 0 from rfl] at hx221_0)
                    (try rw [Addr.add_zero'] at hx221_0)
                    (try rw [show ((0 : Int)).toNat = 0 from rfl] at hx221_1)
                    (try rw [show 0 * 3 = 0 from rfl] at hx221_1)
                    (try rw [Addr.add_zero'] at hx221_1)
                    (try rw [show ((0 : Int)).toNat = 0 from rfl] at hx221_2)
                    (try rw [show 0 * 3 = 0 from rfl] at hx221_2)
                    (try rw [Addr.add_zero'] at hx221_2)
                    replace hx221_0 := (HB.out.cell (World.block_lt_of_cell? w _ hx221_0)).trans hx221_0
                    replace hx221_1 := (HB.out.cell (World.block_lt_of_cell? w _ hx221_1)).trans hx221_1
                    replace hx221_2 := (HB.out.cell (World.block_lt_of_cell? w _ hx221_2)).trans hx221_2
                    have HR221_1 := Aside0.mk hi221_1
                    have HC221_1 := Aside0.mk hl221_1
                    clear hi221_1 hl221_1
                    have HR221_2 := Aside0.mk hi221_2
                    have HC221_2 := Aside0.mk hl221_2
                    clear hi221_2 hl221_2
                    replace p221 := eq_true p221
                    replace q221 := eq_true q221
                    refine start_ (n := 13) (S := fun w' => w'.cell? ⟨gb220, 0, none⟩ = some (.int .i8 ((rd_T81 ((rd_T31 l0 0).f1) x12_1).f0)) ∧ w'.cell? ⟨gb220, 1, none⟩ = some (.int .i16 ((rd_T81 ((rd_T31 l0 0).f1) x12_1).f1)) ∧ w'.cell? ⟨gb220, 2, none⟩ = some (.int .i16 ((rd_T81 ((rd_T31 l0 0).f1) x12_1).f2)) ∧ w'.cell? adp0 = some (.int .i8 ((rd_T31 l0 0).f0)) ∧ w'.cell? ⟨adp0.block, adp0.off + 1, none⟩ = some (.slice A221_1 ((rd_T31 l0 0).f1).length c221_1) ∧ w'.cell? ⟨adp0.block, adp0.off + 2, none⟩ = some (.slice A221_2 ((rd_T31 l0 0).f2).length c221_2)) (ds := []) #[false, false, false, false, false, false, false, false, false, false, false, false, false] (by kernel_rfl) rfl rfl ⟨(blk_cell BK220.out 0).trans rfl, (blk_cell BK220.out 1).trans rfl, (blk_cell BK220.out 2).trans rfl, ((HB.out.cell (World.block_lt_of_cell? w _ hw221_0)).trans hw221_0), ((HB.out.cell (World.block_lt_of_cell? w _ hw221_1)).trans hw221_1), ((HB.out.cell (World.block_lt_of_cell? w _ hw221_2)).trans hw221_2)⟩ (fun hHeld => ?_); refine with_tabW impl_Network_tables.tab8 impl_Network_tables.bits8 (fun HT_ HW_ => ?_)
                    generalize w14.drew = w15 at HO_3 BK220 HB HR221_1 HR221_2 hx221_0 hx221_1 hx221_2 hHeld ⊢
                    refine pure_ (i := 0) (N := some 34) (v := ?_) (a' := ?_) #[true, false, false, false, false, false, false, false, false, false, false, false, false] rfl rfl (any_of HT_.out (by kernel_rfl)) (fun _ _ _ h => h) (Or.inl ⟨by rfl, ?_⟩) ?_ ?_
                    rotate_left
                    · intro w'
                      go_simp
                      with_reducible rfl
                    rotate_left
                    · simp only [Act.put, List.setIfInBounds_toArray, List.set_cons_zero, List.set_cons_succ, i64_w, i32_w]
                      rfl
                    refine pure_ (i := 1) (N := some 35) (v := ?_) (a' := ?_) #[true, true, false, false, false, false, false, false, false, false, false, false, false] rfl rfl (any_of HT_.out (by kernel_rfl)) (fun _ _ _ h => h) (Or.inl ⟨by rfl, ?_⟩) ?_ ?_
                    rotate_left
                    · intro w'
                      go_simp
                      with_reducible rfl
                    rotate_left
                    · simp only [Act.put, List.setIfInBounds_toArray, List.set_cons_zero, List.set_cons_succ, i64_w, i32_w]
                      rfl
                    refine pure_ (i := 2) (N := some 36) (v := ?_) (a' := ?_) #[true, true, true, false, false, false, false, false, false, false, false, false, false] rfl rfl (any_of HT_.out (by kernel_rfl)) (fun _ _ _ h => h) (Or.inl ⟨by rfl, ?_⟩) ?_ ?_
                    rotate_left
                    · intro w'
                      go_simp
                      with_reducible rfl
                    rotate_left
                    · simp only [Act.put, List.setIfInBounds_toArray, List.set_cons_zero, List.set_cons_succ, i64_w, i32_w]
                      rfl
                    refine pure_ (i := 3) (N := some 37) (v := ?_) (a' := ?_) #[true, true, true, true, false, false, false, false, false, false, false, false, false] rfl rfl (any_of HT_.out (by kernel_rfl)) (fun _ _ _ h => h) (Or.inl ⟨by rfl, ?_⟩) ?_ ?_
                    rotate_left
                    · intro w'
                      go_simp
                      with_reducible rfl
                    rotate_left
                    · simp only [Act.put, List.setIfInBounds_toArray, List.set_cons_zero, List.set_cons_succ, i64_w, i32_w]
                      rfl
                    refine pure_ (i := 6) (N := some 40) (v := ?_) (a' := ?_) #[true, true, true, true, false, false, true, false, false, false, false, false, false] rfl rfl (any_of HT_.out (by kernel_rfl)) (fun _ _ _ h => h) (Or.inl ⟨by rfl, ?_⟩) ?_ ?_
                    rotate_left
                    · intro w'
                      go_simp
                      with_reducible rfl
                    rotate_left
                    · simp only [Act.put, List.setIfInBounds_toArray, List.set_cons_zero, List.set_cons_succ, i64_w, i32_w]
                      rfl
                    refine take_ (i := 4) (N := some 38) (v := ?_) (a' := ?_) #[true, true, true, true, true, false, true, false, false, false, false, false, false] rfl rfl (take_ofW HT_.out HW_.out (by kernel_rfl)) (fun _ _ _ h => h) (Or.inl ⟨by rfl, ?_⟩) hHeld ?_ ?_
                    rotate_left
                    · rintro w' ⟨s0, s1, s2, s3, s4, s5⟩
                      go_simp
                      with_reducible rfl
                    rotate_left
                    · simp only [Act.put, List.setIfInBounds_toArray, List.set_cons_zero, List.set_cons_succ, i64_w, i32_w]
                      rfl
                    refine pure_ (i := 5) (N := some 39) (v := ?_) (a' := ?_) #[true, true, true, true, true, true, true, false, false, false, false, false, false] rfl rfl (any_of HT_.out (by kernel_rfl)) (fun _ _ _ h => h) (Or.inl ⟨by rfl, ?_⟩) ?_ ?_
                    rotate_left
                    · intro w'
                      go_simp
                      with_reducible rfl
                    rotate_left
                    · simp only [Act.put, List.setIfInBounds_toArray, List.set_cons_zero, List.set_cons_succ, i64_w, i32_w]
                      rfl
                    refine take_ (i := 7) (N := some 41) (v := ?_) (a' := ?_) #[true, true, true, true, true, true, true, true, false, false, false, false, false] rfl rfl (take_ofW HT_.out HW_.out (by kernel_rfl)) (fun _ _ _ h => h) (Or.inl ⟨by rfl, ?_⟩) hHeld ?_ ?_
                    rotate_left
                    · rintro w' ⟨s0, s1, s2, s3, s4, s5⟩
                      go_simp
                      with_reducible rfl
                    rotate_left
                    · simp only [Act.put, List.setIfInBounds_toArray, List.set_cons_zero, List.set_cons_succ, i64_w, i32_w]
                      rfl
                    refine pure_ (i := 8) (N := some 42) (v := ?_) (a' := ?_) #[true, true, true, true, true, true, true, true, true, false, false, false, false] rfl rfl (any_of HT_.out (by kernel_rfl)) (fun _ _ _ h => h) (Or.inl ⟨by rfl, ?_⟩) ?_ ?_
                    rotate_left
                    · intro w'
                      go_simp
                      with_reducible rfl
                    rotate_left
                    · simp only [Act.put, List.setIfInBounds_toArray, List.set_cons_zero, List.set_cons_succ, i64_w, i32_w]
                      rfl
                    refine one_ (i := 9) (N := some 43) #[true, true, true, true, true, true, true, true, true, true, false, false, false] rfl rfl (one_of HT_.out (by kernel_rfl)) (by decide) (fun K hK => ?_)
                    refine goes_ Try.func130 (by kernel_rfl) rfl #[.int .i64 (wrap64 ((rd_T31 l0 0).f0)), .int .i64 (wrap64 ((rd_T81 ((rd_T31 l0 0).f1) x12_1).f1))] (by rfl) rfl rfl (by (try simp only [List.map_toArray, List.map_cons, List.map_nil]); first | done | rfl | (simp only [List.length_drop, List.length_take]; rfl)) ?_
                    with_reducible refine (impl_inputTable.calls k1 (wrap64 ((rd_T31 l0 0).f0)) (wrap64 ((rd_T81 ((rd_T31 l0 0).f1) x12_1).f1)) t222 _ A10.out).mono ?_
                    rintro e w' ⟨rfl, ⟨nd, rfl⟩⟩
                    refine ⟨_, rfl, ?_⟩
                    refine hK.out _ _ ⟨(blk_cell BK220.out 0).trans rfl, (blk_cell BK220.out 1).trans rfl, (blk_cell BK220.out 2).trans rfl, ((HB.out.cell (World.block_lt_of_cell? w _ hw221_0)).trans hw221_0), ((HB.out.cell (World.block_lt_of_cell? w _ hw221_1)).trans hw221_1), ((HB.out.cell (World.block_lt_of_cell? w _ hw221_2)).trans hw221_2)⟩ (fun hHeld => ?_)
                    clear hK K
                    refine norm_ (a' := ?_) ?_ ?_
                    rotate_left
                    · show Act.put _ (some 43) _ = _
                      simp only [Act.put, List.setIfInBounds_toArray, List.set_cons_zero, List.set_cons_succ, i64_w, i32_w]
                      rfl
                    refine one_ (i := 10) (N := some 44) #[true, true, true, true, true, true, true, true, true, true, true, false, false] rfl rfl (one_of HT_.out (by kernel_rfl)) (by decide) (fun K hK => ?_)
                    refine value_ (w1 := ?_) (v := ?_) (by rfl) rfl ?_ ?_
                    rotate_left 2
                    · go_simp
                      constructor
                      · rfl
                      · rfl
                    refine hK.out _ _ ⟨(blk_cell (blk_alloc BK220.out _) 0).trans rfl, (blk_cell (blk_alloc BK220.out _) 1).trans rfl, (blk_cell (blk_alloc BK220.out _) 2).trans rfl, (World.cell?_alloc_lt _ _ _ (World.block_lt_of_cell? _ _ (((HB.out.cell (World.block_lt_of_cell? w _ hw221_0)).trans hw221_0)))).trans (((HB.out.cell (World.block_lt_of_cell? w _ hw221_0)).trans hw221_0)), (World.cell?_alloc_lt _ _ _ (World.block_lt_of_cell? _ _ (((HB.out.cell (World.block_lt_of_cell? w _ hw221_1)).trans hw221_1)))).trans (((HB.out.cell (World.block_lt_of_cell? w _ hw221_1)).trans hw221_1)), (World.cell?_alloc_lt _ _ _ (World.block_lt_of_cell? _ _ (((HB.out.cell (World.block_lt_of_cell? w _ hw221_2)).trans hw221_2)))).trans (((HB.out.cell (World.block_lt_of_cell? w _ hw221_2)).trans hw221_2))⟩ (fun hHeld => ?_)
                    clear hK K
                    refine norm_ (a' := ?_) ?_ ?_
                    rotate_left
                    · show Act.put _ (some 44) _ = _
                      simp only [Act.put, List.setIfInBounds_toArray, List.set_cons_zero, List.set_cons_succ, i64_w, i32_w]
                      rfl
                    refine one_ (i := 11) (N := some 45) #[true, true, true, true, true, true, true, true, true, true, true, true, false] rfl rfl (one_of HT_.out (by kernel_rfl)) (by decide) (fun K hK => ?_)
                    refine Kd.R_append_step (Kd.int .u64) (w0 := w) w.heap.size (by rfl) (.tmp 34) (.tmp 44) 53 98 (.int .u64 0) 8 rfl Try.underlying53 info98 rfl (by decide) (by omega) u3 x3_1 t222 [.int .u64 t222] (fun _ => True) (fun _ => False) rfl rfl ?aP (fun _ hk => hk.elim) ?aF ?aO ?aB ?aS ?aL ?_
                    (case aP => exact rfl)
                    (case aB => exact (by repeat (first | (with_reducible first | exact HB.out | apply below_alloc | apply pw_below_drewN | apply below_drew1 | refine below_set ?_ GE220.out) | exact HB.out)))
                    (case aF => exact (fun _ _ => trivial))
                    (case aO => exact (by (with_reducible repeat (first | apply Kd.R_alloc | apply Kd.R_drewN | apply Kd.R_drew)); exact HO_3.out))
                    (case aS => exact (below_size (by repeat (first | (with_reducible first | exact HB.out | apply below_alloc | apply pw_below_drewN | apply below_drew1 | refine below_set ?_ GE220.out) | exact HB.out))))
                    (case aL => have := LMc11.out; omega)
                    intro v224 w16 ho hb hg hat
                    rw [← Ny223.out] at ho
                    have n0_ := Aside0.mk (blk_grown (g := gb220) (o := .cells #[.int .i8 ((rd_T81 ((rd_T31 l0 0).f1) x12_1).f0), .int .i16 ((rd_T81 ((rd_T31 l0 0).f1) x12_1).f1), .int .i16 ((rd_T81 ((rd_T31 l0 0).f1) x12_1).f2)] 81 (0, 0)) (by (with_reducible repeat (first | refine blk_drewN ?_ _ | refine blk_drew ?_ | refine blk_alloc ?_ _)); exact BK220.out) hg (Kd.R_ne HO_3.out BK220.out (by decide)))
                    have n1_ := Aside0.mk (hb)
                    have n2_ := Aside0.mk (ho)
                    clear BK220
                    clear HB
                    clear HO_3
                    have BK220 := n0_
                    have HB := n1_
                    have HO225 := n2_
                    clear n0_ n1_ n2_
                    clear ho hb hg hat
                    refine hK.out _ _ ⟨(blk_cell BK220.out 0).trans rfl, (blk_cell BK220.out 1).trans rfl, (blk_cell BK220.out 2).trans rfl, ((HB.out.cell (World.block_lt_of_cell? w _ hw221_0)).trans hw221_0), ((HB.out.cell (World.block_lt_of_cell? w _ hw221_1)).trans hw221_1), ((HB.out.cell (World.block_lt_of_cell? w _ hw221_2)).trans hw221_2)⟩ (fun hHeld => ?_)
                    clear hK K
                    refine norm_ (a' := ?_) ?_ ?_
                    rotate_left
                    · show Act.put _ (some 45) _ = _
                      simp only [Act.put, List.setIfInBounds_toArray, List.set_cons_zero, List.set_cons_succ, i64_w, i32_w]
                      rfl
                    refine pure_ (i := 12) (N := some 3) (v := ?_) (a' := ?_) #[true, true, true, true, true, true, true, true, true, true, true, true, true] rfl rfl (any_of HT_.out (by kernel_rfl)) (fun _ _ _ h => h) (Or.inl ⟨by rfl, ?_⟩) ?_ ?_
                    rotate_left
                    · intro w'
                      go_simp
                      with_reducible rfl
                    rotate_left
                    · simp only [Act.put, List.setIfInBounds_toArray, List.set_cons_zero, List.set_cons_succ, i64_w, i32_w]
                      rfl
                    refine done_ (done_of HT_.out (by kernel_rfl)) ?_
                    try go_wp2
                    go_roundg k1
                    case measure => have := HK1.out; omega
                    case rel => exact ⟨(y223), (wrap64 (x12_1 + 1)), (by first | rfl | (simp; done) | (simp [*]; done) | (exact congrArg (Value.int .i64) (wrap_eq (by omega)))), H', ⟨by have := HK1.out; omega⟩, ⟨by (with_reducible repeat (first | apply Kd.R_alloc | apply Kd.R_drewN | apply Kd.R_drew)); exact HO225.out⟩, ⟨by repeat (first | (with_reducible first | exact HB.out | apply below_alloc | apply pw_below_drewN | apply below_drew1 | refine below_set ?_ GE220.out) | exact HB.out)⟩⟩
                  · rw [if_neg c11] at H
                    exact absurd H (by simp)
                · rw [if_neg c9] at H
                  exact absurd H (by simp)
              · rw [if_neg c8] at H
                have c8b0 : (((rd_T81 ((rd_T31 l0 0).f1) x12_1).f0) == 0) = false := beq_eq_false_iff_ne.mpr c8
                have c8b1 : (((rd_T81 ((rd_T31 l0 0).f1) x12_1).f0) != 0) = true := bne_iff_ne.mpr c8
                by_cases c17 : ((rd_T81 ((rd_T31 l0 0).f1) x12_1).f0) = 1
                · rw [if_pos c17] at H
                  have c17b0 : (((rd_T81 ((rd_T31 l0 0).f1) x12_1).f0) == 1) = true := beq_iff_eq.mpr c17
                  have c17b1 : (((rd_T81 ((rd_T31 l0 0).f1) x12_1).f0) != 1) = false := bne_eq_false_iff_eq.mpr c17
                  clear c17
                  by_cases c18 : 0 < (l0.length : Int)
                  · rw [if_pos c18] at H
                    have c18b0 : decide (0 < (l0.length : Int)) = true := decide_eq_true c18
                    have c18b1 : decide (0 < l0.length) = true := decide_eq_true (by omega)
                    clear c18
                    replace H := Option.bind_eq_some_iff.mp H
                    obtain ⟨t227, A190, H⟩ := H
                    replace H : (if x3_1.length < 17592186044416 then (impl_Network_tables.l0 k1 l0 (x3_1 ++ [t227]) ((rd_T31 l0 0).f1) (((rd_T31 l0 0).f1).length : Int) (wrap64 (x12_1 + 1))) else (none)) = some r := H
                    have A19 := Aside0.mk A190
                    clear A190
                    by_cases c20 : x3_1.length < 17592186044416
                    · rw [if_pos c20] at H
                      have LMc20 := Aside0.mk c20
                      clear c20
                      obtain ⟨y228, hy228⟩ : ∃ y_ : List Int, y_ = (x3_1 ++ [t227]) := ⟨_, rfl⟩
                      replace H : (impl_Network_tables.l0 k1 l0 y228 ((rd_T31 l0 0).f1) (((rd_T31 l0 0).f1).length : Int) (wrap64 (x12_1 + 1))) = some r := by first | (rw [hy228]; with_reducible exact H) | (have H2_ := (Option.bind_some _ _).symm.trans H; rw [hy228]; with_reducible exact H2_) | (have H2_ := (Option.bind_some _ _).symm.trans H; with_reducible exact H2_) | with_reducible exact H | (rw [hy228]; exact H) | exact H
                      have Ny228 := Aside0.mk hy228
                      clear hy228
                      have H' := Aside0.mk H
                      clear H
                      have p219 : 0 ≤ (x12_1 : Int) := of_decide_eq_true (by first | (with_reducible assumption) | assumption)
                      have q219 : x12_1 < (((rd_T31 l0 0).f1).length : Int) := of_decide_eq_true (by first | (with_reducible assumption) | assumption)
                      obtain ⟨ad219, e219, hx219_0, hx219_1, hx219_2⟩ := at_T81 HR218_1.out x12_1 p219 q219
                      cases e219
                      replace hx219_0 := (HB.out.cell (World.block_lt_of_cell? w _ hx219_0)).trans hx219_0
                      replace hx219_1 := (HB.out.cell (World.block_lt_of_cell? w _ hx219_1)).trans hx219_1
                      replace hx219_2 := (HB.out.cell (World.block_lt_of_cell? w _ hx219_2)).trans hx219_2
                      replace p219 := eq_true p219
                      replace q219 := eq_true q219
                      go_wp2_with (first | ((with_reducible refine gate_dst (N := 5) rfl ?_); refine box_event ?hg (N := 5) ?hd (cs := #[.int .i8 0, .int .i16 0, .int .i16 0]) (t := 81) ?hr ?_; (case hd => rfl); (case hg => rfl); (case hr => first | (go_simp; done) | (go_simp; rfl)); intro gb220 hg w21 hbox hb; have n0_ := Aside0.mk (Kd.R_below (by (with_reducible repeat (first | apply Kd.R_alloc | apply Kd.R_drewN | apply Kd.R_drew)); exact HO_3.out) hb); have n1_ := Aside0.mk (below_step (by repeat (first | (with_reducible first | exact HB.out | apply below_alloc | apply pw_below_drewN | apply below_drew1) | exact HB.out)) hb); have n2_ := Aside0.mk (hbox); have n3_ := Aside0.mk ((by rw [hg]; exact (below_size (by repeat (first | (with_reducible first | exact HB.out | apply below_alloc | apply pw_below_drewN | apply below_drew1) | exact HB.out))) : w.heap.size ≤ gb220)); have n4_ := Aside0.mk ((by rw [hg]; exact (below_size (by repeat (first | (with_reducible first | exact HB.out | apply below_alloc | apply pw_below_drewN | apply below_drew1) | exact HB.out))) : w.heap.size ≤ gb220)); clear HO_3; clear HB; have HO_3 := n0_; have HB := n1_; have BK220 := n2_; have GW220 := n3_; have GE220 := n4_; clear n0_ n1_ n2_ n3_ n4_; clear hb hbox hg; have hcz22_0 : w21.cell? ⟨gb220, 0, none⟩ = some (.int .i8 0) := (blk_cell BK220.out 0).trans rfl; have hcz22_1 : w21.cell? ⟨gb220, 1, none⟩ = some (.int .i16 0) := (blk_cell BK220.out 1).trans rfl; have hcz22_2 : w21.cell? ⟨gb220, 2, none⟩ = some (.int .i16 0) := (blk_cell BK220.out 2).trans rfl; have hfz22_0 := blk_frozen BK220.out 0; have hfz22_1 := blk_frozen BK220.out 1; have hfz22_2 := blk_frozen BK220.out 2; have p226 : 0 ≤ (0 : Int) := (by omega); have q226 : 0 < (l0.length : Int) := of_decide_eq_true (by first | (with_reducible assumption) | assumption); obtain ⟨ad226, A226_1, c226_1, A226_2, c226_2, e226, hx226_0, hx226_1, hx226_2, hl226_1, hi226_1, hl226_2, hi226_2⟩ := at_T31 HR0.out 0 p226 q226; obtain rfl : adp0 = ad226 := (by injection e226); have qi226 : (0 < l0.length) = True := eq_true (by omega); (try rw [show ((0 : Int)).toNat = 0 from rfl] at hx226_0); (try rw [show 0 * 3 = 0 from rfl] at hx226_0); (try rw [Addr.add_zero'] at hx226_0); (try rw [show ((0 : Int)).toNat = 0 from rfl] at hx226_1); (try rw [show 0 * 3 = 0 from rfl] at hx226_1); (try rw [Addr.add_zero'] at hx226_1); (try rw [show ((0 : Int)).toNat = 0 from rfl] at hx226_2); (try rw [show 0 * 3 = 0 from rfl] at hx226_2); (try rw [Addr.add_zero'] at hx226_2); have hn226_0 : adp0.block ≠ gb220 := Nat.ne_of_lt (Nat.lt_of_lt_of_le (by have := World.block_lt_of_cell? _ _ hx226_0; first | rwa [add_block] at this | exact this) GW220.out); have hn226_1 : adp0.block ≠ gb220 := Nat.ne_of_lt (Nat.lt_of_lt_of_le (by have := World.block_lt_of_cell? _ _ hx226_0; first | rwa [add_block] at this | exact this) GW220.out); have hn226_2 : adp0.block ≠ gb220 := Nat.ne_of_lt (Nat.lt_of_lt_of_le (by have := World.block_lt_of_cell? _ _ hx226_0; first | rwa [add_block] at this | exact this) GW220.out); replace hx226_0 := (HB.out.cell (World.block_lt_of_cell? w _ hx226_0)).trans hx226_0; replace hx226_1 := (HB.out.cell (World.block_lt_of_cell? w _ hx226_1)).trans hx226_1; replace hx226_2 := (HB.out.cell (World.block_lt_of_cell? w _ hx226_2)).trans hx226_2; have HR226_1 := Aside0.mk hi226_1; have HC226_1 := Aside0.mk hl226_1; clear hi226_1 hl226_1; have HR226_2 := Aside0.mk hi226_2; have HC226_2 := Aside0.mk hl226_2; clear hi226_2 hl226_2; replace hx226_0 := (cell_far (p := ⟨gb220, 0, none⟩) (by first | (rw [add_block]; exact hn226_0) | (show (Addr.add _ _).block ≠ _; rw [add_block]; exact hn226_0) | exact hn226_0) (.int .i8 ((rd_T81 ((rd_T31 l0 0).f1) x12_1).f0))).trans hx226_0; replace hx226_1 := (cell_far (p := ⟨gb220, 0, none⟩) (by first | (rw [add_block]; exact hn226_0) | (show (Addr.add _ _).block ≠ _; rw [add_block]; exact hn226_0) | exact hn226_0) (.int .i8 ((rd_T81 ((rd_T31 l0 0).f1) x12_1).f0))).trans hx226_1; replace hx226_2 := (cell_far (p := ⟨gb220, 0, none⟩) (by first | (rw [add_block]; exact hn226_0) | (show (Addr.add _ _).block ≠ _; rw [add_block]; exact hn226_0) | exact hn226_0) (.int .i8 ((rd_T81 ((rd_T31 l0 0).f1) x12_1).f0))).trans hx226_2; replace hx226_0 := (cell_far (p := ⟨gb220, 1, none⟩) (by first | (rw [add_block]; exact hn226_1) | (show (Addr.add _ _).block ≠ _; rw [add_block]; exact hn226_1) | exact hn226_1) (.int .i16 ((rd_T81 ((rd_T31 l0 0).f1) x12_1).f1))).trans hx226_0; replace hx226_1 := (cell_far (p := ⟨gb220, 1, none⟩) (by first | (rw [add_block]; exact hn226_1) | (show (Addr.add _ _).block ≠ _; rw [add_block]; exact hn226_1) | exact hn226_1) (.int .i16 ((rd_T81 ((rd_T31 l0 0).f1) x12_1).f1))).trans hx226_1; replace hx226_2 := (cell_far (p := ⟨gb220, 1, none⟩) (by first | (rw [add_block]; exact hn226_1) | (show (Addr.add _ _).block ≠ _; rw [add_block]; exact hn226_1) | exact hn226_1) (.int .i16 ((rd_T81 ((rd_T31 l0 0).f1) x12_1).f1))).trans hx226_2; replace hx226_0 := (cell_far (p := ⟨gb220, 2, none⟩) (by first | (rw [add_block]; exact hn226_2) | (show (Addr.add _ _).block ≠ _; rw [add_block]; exact hn226_2) | exact hn226_2) (.int .i16 ((rd_T81 ((rd_T31 l0 0).f1) x12_1).f2))).trans hx226_0; replace hx226_1 := (cell_far (p := ⟨gb220, 2, none⟩) (by first | (rw [add_block]; exact hn226_2) | (show (Addr.add _ _).block ≠ _; rw [add_block]; exact hn226_2) | exact hn226_2) (.int .i16 ((rd_T81 ((rd_T31 l0 0).f1) x12_1).f2))).trans hx226_1; replace hx226_2 := (cell_far (p := ⟨gb220, 2, none⟩) (by first | (rw [add_block]; exact hn226_2) | (show (Addr.add _ _).block ≠ _; rw [add_block]; exact hn226_2) | exact hn226_2) (.int .i16 ((rd_T81 ((rd_T31 l0 0).f1) x12_1).f2))).trans hx226_2; clear hn226_0; clear hn226_1; clear hn226_2; replace p226 := eq_true p226; replace q226 := eq_true q226) | ((with_reducible refine gate_callee (f := 131) rfl ?_); refine goesL_ (some 54) rfl rfl Try.func131 (by kernel_rfl) rfl #[.int .i64 (wrap64 ((rd_T31 l0 0).f0))] rfl (by (try simp only [List.map_toArray, List.map_cons, List.map_nil]); first | done | rfl | (simp only [List.length_drop, List.length_take]; rfl)) ?_; (with_reducible refine (impl_full.calls (wrap64 ((rd_T31 l0 0).f0)) t227 _ A19.out).mono ?_); rintro e w' ⟨rfl, ⟨nd, rfl⟩⟩; refine ⟨_, rfl, ?_⟩) | ((with_reducible refine gate_builtin (b := .append) (xs := #[.tmp 48, .tmp 55]) rfl ?_); at_builtin; refine Kd.R_append (Kd.int .u64) (w0 := w) w.heap.size rfl (.tmp 48) (.tmp 55) 53 98 (.int .u64 0) 8 rfl Try.underlying53 info98 rfl (by decide) (by omega) u3 x3_1 t227 [.int .u64 t227] (fun _ => True) (fun _ => False) rfl (by first | (go_simp; done) | (go_simp; rfl)) ?aP (fun _ hk => hk.elim) ?aF ?aO ?aB ?aS ?aL ?_; (case aP => exact rfl); (case aB => exact (by repeat (first | (with_reducible first | exact HB.out | apply below_alloc | apply pw_below_drewN | apply below_drew1 | refine below_set ?_ GE220.out) | exact HB.out))); (case aF => exact (fun _ _ => trivial)); (case aO => exact (by (with_reducible repeat (first | apply Kd.R_alloc | apply Kd.R_drewN | apply Kd.R_drew)); exact Kd.R_mono (Kd.R_far (p := ⟨gb220, 2, none⟩) (Kd.R_far (p := ⟨gb220, 1, none⟩) (Kd.R_far (p := ⟨gb220, 0, none⟩) (Kd.R_types HO_3.out BK220.out (by decide)) (fun _ hk => hk.2) (.int .i8 ((rd_T81 ((rd_T31 l0 0).f1) x12_1).f0))) (fun _ hk => hk.2) (.int .i16 ((rd_T81 ((rd_T31 l0 0).f1) x12_1).f1))) (fun _ hk => hk.2) (.int .i16 ((rd_T81 ((rd_T31 l0 0).f1) x12_1).f2))) (fun _ hk => trivial))); (case aS => exact (below_size (by repeat (first | (with_reducible first | exact HB.out | apply below_alloc | apply pw_below_drewN | apply below_drew1 | refine below_set ?_ GE220.out) | exact HB.out)))); (case aL => have := LMc20.out; omega); intro v229 w23 ho hb hg hat; rw [← Ny228.out] at ho; have n0_ := Aside0.mk (blk_grown (g := gb220) (o := .cells #[.int .i8 ((rd_T81 ((rd_T31 l0 0).f1) x12_1).f0), .int .i16 ((rd_T81 ((rd_T31 l0 0).f1) x12_1).f1), .int .i16 ((rd_T81 ((rd_T31 l0 0).f1) x12_1).f2)] 81 (0, 0)) (by (with_reducible repeat (first | refine blk_drewN ?_ _ | refine blk_drew ?_ | refine blk_alloc ?_ _)); refine blk_put (cs := #[.int .i8 ((rd_T81 ((rd_T31 l0 0).f1) x12_1).f0), .int .i16 ((rd_T81 ((rd_T31 l0 0).f1) x12_1).f1), .int .i16 0]) ?_ 2 _ rfl; (with_reducible repeat (first | refine blk_drewN ?_ _ | refine blk_drew ?_ | refine blk_alloc ?_ _)); refine blk_put (cs := #[.int .i8 ((rd_T81 ((rd_T31 l0 0).f1) x12_1).f0), .int .i16 0, .int .i16 0]) ?_ 1 _ rfl; (with_reducible repeat (first | refine blk_drewN ?_ _ | refine blk_drew ?_ | refine blk_alloc ?_ _)); refine blk_put (cs := #[.int .i8 0, .int .i16 0, .int .i16 0]) ?_ 0 _ rfl; (with_reducible repeat (first | refine blk_drewN ?_ _ | refine blk_drew ?_ | refine blk_alloc ?_ _)); exact BK220.out) hg (Kd.R_ne HO_3.out BK220.out (by decide))); have n1_ := Aside0.mk (hb); have n2_ := Aside0.mk (ho); clear BK220; clear HB; clear HO_3; have BK220 := n0_; have HB := n1_; have HO230 := n2_; clear n0_ n1_ n2_; clear ho hb hg hat))
                      go_roundg k1
                      case measure => have := HK1.out; omega
                      case rel => exact ⟨(y228), (wrap64 (x12_1 + 1)), (by first | rfl | (simp; done) | (simp [*]; done) | (exact congrArg (Value.int .i64) (wrap_eq (by omega)))), H', ⟨by have := HK1.out; omega⟩, ⟨by (with_reducible repeat (first | apply Kd.R_alloc | apply Kd.R_drewN | apply Kd.R_drew)); exact HO230.out⟩, ⟨by repeat (first | (with_reducible first | exact HB.out | apply below_alloc | apply pw_below_drewN | apply below_drew1 | refine below_set ?_ GE220.out) | exact HB.out)⟩⟩
                    · rw [if_neg c20] at H
                      exact absurd H (by simp)
                  · rw [if_neg c18] at H
                    exact absurd H (by simp)
                · rw [if_neg c17] at H
                  have c17b0 : (((rd_T81 ((rd_T31 l0 0).f1) x12_1).f0) == 1) = false := beq_eq_false_iff_ne.mpr c17
                  have c17b1 : (((rd_T81 ((rd_T31 l0 0).f1) x12_1).f0) != 1) = true := bne_iff_ne.mpr c17
                  by_cases c24 : ((rd_T81 ((rd_T31 l0 0).f1) x12_1).f0) = 2
                  · rw [if_pos c24] at H
                    have c24b0 : (((rd_T81 ((rd_T31 l0 0).f1) x12_1).f0) == 2) = true := beq_iff_eq.mpr c24
                    have c24b1 : (((rd_T81 ((rd_T31 l0 0).f1) x12_1).f0) != 2) = false := bne_eq_false_iff_eq.mpr c24
                    clear c24
                    by_cases c25 : 0 ≤ ((rd_T81 ((rd_T31 l0 0).f1) x12_1).f1)
                    · rw [if_pos c25] at H
                      have c25b0 : decide (0 ≤ ((rd_T81 ((rd_T31 l0 0).f1) x12_1).f1)) = true := decide_eq_true c25
                      clear c25
                      by_cases c26 : ((rd_T81 ((rd_T31 l0 0).f1) x12_1).f1) < (x3_1.length : Int)
                      · rw [if_pos c26] at H
                        have c26b0 : decide (((rd_T81 ((rd_T31 l0 0).f1) x12_1).f1) < (x3_1.length : Int)) = true := decide_eq_true c26
                        clear c26
                        by_cases c27 : 0 ≤ ((rd_T81 ((rd_T31 l0 0).f1) x12_1).f2)
                        · rw [if_pos c27] at H
                          have c27b0 : decide (0 ≤ ((rd_T81 ((rd_T31 l0 0).f1) x12_1).f2)) = true := decide_eq_true c27
                          clear c27
                          by_cases c28 : ((rd_T81 ((rd_T31 l0 0).f1) x12_1).f2) < (x3_1.length : Int)
                          · rw [if_pos c28] at H
                            have c28b0 : decide (((rd_T81 ((rd_T31 l0 0).f1) x12_1).f2) < (x3_1.length : Int)) = true := decide_eq_true c28
                            clear c28
                            by_cases c29 : x3_1.length < 17592186044416
                            · rw [if_pos c29] at H
                              have LMc29 := Aside0.mk c29
                              clear c29
                              obtain ⟨y233, hy233⟩ : ∃ y_ : List Int, y_ = (x3_1 ++ [Go.bits .or .u64 (rd x3_1 ((rd_T81 ((rd_T31 l0 0).f1) x12_1).f1)) (rd x3_1 ((rd_T81 ((rd_T31 l0 0).f1) x12_1).f2))]) := ⟨_, rfl⟩
                              replace H : (impl_Network_tables.l0 k1 l0 y233 ((rd_T31 l0 0).f1) (((rd_T31 l0 0).f1).length : Int) (wrap64 (x12_1 + 1))) = some r := by first | (rw [hy233]; with_reducible exact H) | (have H2_ := (Option.bind_some _ _).symm.trans H; rw [hy233]; with_reducible exact H2_) | (have H2_ := (Option.bind_some _ _).symm.trans H; with_reducible exact H2_) | with_reducible exact H | (rw [hy233]; exact H) | exact H
                              have Ny233 := Aside0.mk hy233
                              clear hy233
                              have H' := Aside0.mk H
                              clear H
                              have p219 : 0 ≤ (x12_1 : Int) := of_decide_eq_true (by first | (with_reducible assumption) | assumption)
                              have q219 : x12_1 < (((rd_T31 l0 0).f1).length : Int) := of_decide_eq_true (by first | (with_reducible assumption) | assumption)
                              obtain ⟨ad219, e219, hx219_0, hx219_1, hx219_2⟩ := at_T81 HR218_1.out x12_1 p219 q219
                              cases e219
                              replace hx219_0 := (HB.out.cell (World.block_lt_of_cell? w _ hx219_0)).trans hx219_0
                              replace hx219_1 := (HB.out.cell (World.block_lt_of_cell? w _ hx219_1)).trans hx219_1
                              replace hx219_2 := (HB.out.cell (World.block_lt_of_cell? w _ hx219_2)).trans hx219_2
                              replace p219 := eq_true p219
                              replace q219 := eq_true q219
                              try go_wp2_with (first | ((with_reducible refine gate_dst (N := 5) rfl ?_); refine box_event ?hg (N := 5) ?hd (cs := #[.int .i8 0, .int .i16 0, .int .i16 0]) (t := 81) ?hr ?_; (case hd => rfl); (case hg => rfl); (case hr => first | (go_simp; done) | (go_simp; rfl)); intro gb220 hg w30 hbox hb; have n0_ := Aside0.mk (Kd.R_below (by (with_reducible repeat (first | apply Kd.R_alloc | apply Kd.R_drewN | apply Kd.R_drew)); exact HO_3.out) hb); have n1_ := Aside0.mk (below_step (by repeat (first | (with_reducible first | exact HB.out | apply below_alloc | apply pw_below_drewN | apply below_drew1) | exact HB.out)) hb); have n2_ := Aside0.mk (hbox); have n3_ := Aside0.mk ((by rw [hg]; exact (below_size (by repeat (first | (with_reducible first | exact HB.out | apply below_alloc | apply pw_below_drewN | apply below_drew1) | exact HB.out))) : w.heap.size ≤ gb220)); have n4_ := Aside0.mk ((by rw [hg]; exact (below_size (by repeat (first | (with_reducible first | exact HB.out | apply below_alloc | apply pw_below_drewN | apply below_drew1) | exact HB.out))) : w.heap.size ≤ gb220)); clear HO_3; clear HB; have HO_3 := n0_; have HB := n1_; have BK220 := n2_; have GW220 := n3_; have GE220 := n4_; clear n0_ n1_ n2_ n3_ n4_; clear hb hbox hg; have hcz31_0 : w30.cell? ⟨gb220, 0, none⟩ = some (.int .i8 0) := (blk_cell BK220.out 0).trans rfl; have hcz31_1 : w30.cell? ⟨gb220, 1, none⟩ = some (.int .i16 0) := (blk_cell BK220.out 1).trans rfl; have hcz31_2 : w30.cell? ⟨gb220, 2, none⟩ = some (.int .i16 0) := (blk_cell BK220.out 2).trans rfl; have hfz31_0 := blk_frozen BK220.out 0; have hfz31_1 := blk_frozen BK220.out 1; have hfz31_2 := blk_frozen BK220.out 2))
                              have n0_ : Aside0 (Kd.R (Kd.int .u64) 98 (((w30.setCell ⟨gb220, 0, none⟩ (.int .i8 ((rd_T81 ((rd_T31 l0 0).f1) x12_1).f0))).setCell ⟨gb220, 1, none⟩ (.int .i16 ((rd_T81 ((rd_T31 l0 0).f1) x12_1).f1))).setCell ⟨gb220, 2, none⟩ (.int .i16 ((rd_T81 ((rd_T31 l0 0).f1) x12_1).f2))) w.heap.size (fun _ => True) u3 x3_1) := ⟨by (with_reducible repeat (first | apply Kd.R_alloc | apply Kd.R_drewN | apply Kd.R_drew)); exact Kd.R_mono (Kd.R_far (p := ⟨gb220, 2, none⟩) (Kd.R_far (p := ⟨gb220, 1, none⟩) (Kd.R_far (p := ⟨gb220, 0, none⟩) (Kd.R_types HO_3.out BK220.out (by decide)) (fun _ hk => hk.2) (.int .i8 ((rd_T81 ((rd_T31 l0 0).f1) x12_1).f0))) (fun _ hk => hk.2) (.int .i16 ((rd_T81 ((rd_T31 l0 0).f1) x12_1).f1))) (fun _ hk => hk.2) (.int .i16 ((rd_T81 ((rd_T31 l0 0).f1) x12_1).f2))) (fun _ hk => trivial)⟩
                              have n1_ : Aside0 ((((w30.setCell ⟨gb220, 0, none⟩ (.int .i8 ((rd_T81 ((rd_T31 l0 0).f1) x12_1).f0))).setCell ⟨gb220, 1, none⟩ (.int .i16 ((rd_T81 ((rd_T31 l0 0).f1) x12_1).f1))).setCell ⟨gb220, 2, none⟩ (.int .i16 ((rd_T81 ((rd_T31 l0 0).f1) x12_1).f2))).heap[gb220]? = some (.cells #[.int .i8 ((rd_T81 ((rd_T31 l0 0).f1) x12_1).f0), .int .i16 ((rd_T81 ((rd_T31 l0 0).f1) x12_1).f1), .int .i16 ((rd_T81 ((rd_T31 l0 0).f1) x12_1).f2)] 81 (0, 0))) := ⟨by (with_reducible repeat (first | refine blk_drewN ?_ _ | refine blk_drew ?_ | refine blk_alloc ?_ _)); refine blk_put (cs := #[.int .i8 ((rd_T81 ((rd_T31 l0 0).f1) x12_1).f0), .int .i16 ((rd_T81 ((rd_T31 l0 0).f1) x12_1).f1), .int .i16 0]) ?_ 2 _ rfl; (with_reducible repeat (first | refine blk_drewN ?_ _ | refine blk_drew ?_ | refine blk_alloc ?_ _)); refine blk_put (cs := #[.int .i8 ((rd_T81 ((rd_T31 l0 0).f1) x12_1).f0), .int .i16 0, .int .i16 0]) ?_ 1 _ rfl; (with_reducible repeat (first | refine blk_drewN ?_ _ | refine blk_drew ?_ | refine blk_alloc ?_ _)); refine blk_put (cs := #[.int .i8 0, .int .i16 0, .int .i16 0]) ?_ 0 _ rfl; (with_reducible repeat (first | refine blk_drewN ?_ _ | refine blk_drew ?_ | refine blk_alloc ?_ _)); exact BK220.out⟩
                              have n2_ : Aside0 (Below w.heap.size w (((w30.setCell ⟨gb220, 0, none⟩ (.int .i8 ((rd_T81 ((rd_T31 l0 0).f1) x12_1).f0))).setCell ⟨gb220, 1, none⟩ (.int .i16 ((rd_T81 ((rd_T31 l0 0).f1) x12_1).f1))).setCell ⟨gb220, 2, none⟩ (.int .i16 ((rd_T81 ((rd_T31 l0 0).f1) x12_1).f2)))) := ⟨by repeat (first | (with_reducible first | exact HB.out | apply below_alloc | apply pw_below_drewN | apply below_drew1 | refine below_set ?_ GE220.out) | exact HB.out)⟩
                              (try clear HO_3)
                              (try clear BK220)
                              (try clear HB)
                              generalize (((w30.setCell ⟨gb220, 0, none⟩ (.int .i8 ((rd_T81 ((rd_T31 l0 0).f1) x12_1).f0))).setCell ⟨gb220, 1, none⟩ (.int .i16 ((rd_T81 ((rd_T31 l0 0).f1) x12_1).f1))).setCell ⟨gb220, 2, none⟩ (.int .i16 ((rd_T81 ((rd_T31 l0 0).f1) x12_1).f2))) = w32 at n0_ n1_ n2_ ⊢
                              have HO_3 := n0_
                              have BK220 := n1_
                              have HB := n2_
                              clear n0_ n1_ n2_
                              have n0_ := Aside0.mk (Kd.R_drew HO_3.out)
                              have n1_ := Aside0.mk (blk_drew BK220.out)
                              have n2_ := Aside0.mk (below_drew1 HB.out)
                              clear HO_3
                              clear BK220
                              clear HB
                              have HO_3 := n0_
                              have BK220 := n1_
                              have HB := n2_
                              clear n0_ n1_ n2_
                              obtain ⟨Ao34, co34, eo34⟩ := Kd.R_slice HO_3.out
                              (first | subst eo34 | (injection eo34 with f1_ f2_ f3_; have f4_ := f1_.symm; have f5_ := f3_.symm; clear f1_ f2_ f3_; subst f4_; subst f5_))
                              have p231 : 0 ≤ (((rd_T81 ((rd_T31 l0 0).f1) x12_1).f1) : Int) := of_decide_eq_true (by first | (with_reducible assumption) | assumption)
                              have q231 : ((rd_T81 ((rd_T31 l0 0).f1) x12_1).f1) < (x3_1.length : Int) := of_decide_eq_true (by first | (with_reducible assumption) | assumption)
                              obtain ⟨ad231, e231, hx231_0⟩ := Kd.at_int (Kd.R_reads' HO_3.out).2.2 ((rd_T81 ((rd_T31 l0 0).f1) x12_1).f1) p231 q231
                              cases e231
                              replace p231 := eq_true p231
                              replace q231 := eq_true q231
                              have p232 : 0 ≤ (((rd_T81 ((rd_T31 l0 0).f1) x12_1).f2) : Int) := of_decide_eq_true (by first | (with_reducible assumption) | assumption)
                              have q232 : ((rd_T81 ((rd_T31 l0 0).f1) x12_1).f2) < (x3_1.length : Int) := of_decide_eq_true (by first | (with_reducible assumption) | assumption)
                              obtain ⟨ad232, e232, hx232_0⟩ := Kd.at_int (Kd.R_reads' HO_3.out).2.2 ((rd_T81 ((rd_T31 l0 0).f1) x12_1).f2) p232 q232
                              obtain rfl : ad231 = ad232 := (by injection e232)
                              replace p232 := eq_true p232
                              replace q232 := eq_true q232
                              refine start_ (n := 15) (S := fun w' => w'.cell? ⟨gb220, 0, none⟩ = some (.int .i8 ((rd_T81 ((rd_T31 l0 0).f1) x12_1).f0)) ∧ w'.cell? ⟨gb220, 1, none⟩ = some (.int .i16 ((rd_T81 ((rd_T31 l0 0).f1) x12_1).f1)) ∧ w'.cell? ⟨gb220, 2, none⟩ = some (.int .i16 ((rd_T81 ((rd_T31 l0 0).f1) x12_1).f2)) ∧ w'.cell? (ad231.add (((rd_T81 ((rd_T31 l0 0).f1) x12_1).f1)).toNat) = some (.int .u64 (rd x3_1 ((rd_T81 ((rd_T31 l0 0).f1) x12_1).f1))) ∧ w'.cell? (ad231.add (((rd_T81 ((rd_T31 l0 0).f1) x12_1).f2)).toNat) = some (.int .u64 (rd x3_1 ((rd_T81 ((rd_T31 l0 0).f1) x12_1).f2)))) (ds := [12, 13]) #[false, false, false, false, false, false, false, false, false, false, false, false, false, false, false] (by kernel_rfl) rfl rfl ⟨(blk_cell BK220.out 0).trans rfl, (blk_cell BK220.out 1).trans rfl, (blk_cell BK220.out 2).trans rfl, hx231_0, hx232_0⟩ (fun hHeld => ?_); refine with_tabW impl_Network_tables.tab12 impl_Network_tables.bits12 (fun HT_ HW_ => ?_)
                              generalize w32.drew = w33 at HO_3 BK220 HB hx231_0 hx232_0 hHeld ⊢
                              refine pure_ (i := 0) (N := some 59) (v := ?_) (a' := ?_) #[true, false, false, false, false, false, false, false, false, false, false, false, false, false, false] rfl rfl (any_of HT_.out (by kernel_rfl)) (fun _ _ _ h => h) (Or.inl ⟨by rfl, ?_⟩) ?_ ?_
                              rotate_left
                              · intro w'
                                go_simp
                                with_reducible rfl
                              rotate_left
                              · simp only [Act.put, List.setIfInBounds_toArray, List.set_cons_zero, List.set_cons_succ, i64_w, i32_w]
                                rfl
                              refine pure_ (i := 1) (N := some 60) (v := ?_) (a' := ?_) #[true, true, false, false, false, false, false, false, false, false, false, false, false, false, false] rfl rfl (any_of HT_.out (by kernel_rfl)) (fun _ _ _ h => h) (Or.inl ⟨by rfl, ?_⟩) ?_ ?_
                              rotate_left
                              · intro w'
                                go_simp
                                with_reducible rfl
                              rotate_left
                              · simp only [Act.put, List.setIfInBounds_toArray, List.set_cons_zero, List.set_cons_succ, i64_w, i32_w]
                                rfl
                              refine pure_ (i := 2) (N := some 61) (v := ?_) (a' := ?_) #[true, true, true, false, false, false, false, false, false, false, false, false, false, false, false] rfl rfl (any_of HT_.out (by kernel_rfl)) (fun _ _ _ h => h) (Or.inl ⟨by rfl, ?_⟩) ?_ ?_
                              rotate_left
                              · intro w'
                                go_simp
                                with_reducible rfl
                              rotate_left
                              · simp only [Act.put, List.setIfInBounds_toArray, List.set_cons_zero, List.set_cons_succ, i64_w, i32_w]
                                rfl
                              refine pure_ (i := 6) (N := some 65) (v := ?_) (a' := ?_) #[true, true, true, false, false, false, true, false, false, false, false, false, false, false, false] rfl rfl (any_of HT_.out (by kernel_rfl)) (fun _ _ _ h => h) (Or.inl ⟨by rfl, ?_⟩) ?_ ?_
                              rotate_left
                              · intro w'
                                go_simp
                                with_reducible rfl
                              rotate_left
                              · simp only [Act.put, List.setIfInBounds_toArray, List.set_cons_zero, List.set_cons_succ, i64_w, i32_w]
                                rfl
                              refine pure_ (i := 7) (N := some 66) (v := ?_) (a' := ?_) #[true, true, true, false, false, false, true, true, false, false, false, false, false, false, false] rfl rfl (any_of HT_.out (by kernel_rfl)) (fun _ _ _ h => h) (Or.inl ⟨by rfl, ?_⟩) ?_ ?_
                              rotate_left
                              · intro w'
                                go_simp
                                with_reducible rfl
                              rotate_left
                              · simp only [Act.put, List.setIfInBounds_toArray, List.set_cons_zero, List.set_cons_succ, i64_w, i32_w]
                                rfl
                              refine take_ (i := 3) (N := some 62) (v := ?_) (a' := ?_) #[true, true, true, true, false, false, true, true, false, false, false, false, false, false, false] rfl rfl (take_ofW HT_.out HW_.out (by kernel_rfl)) (fun _ _ _ h => h) (Or.inl ⟨by rfl, ?_⟩) hHeld ?_ ?_
                              rotate_left
                              · rintro w' ⟨s0, s1, s2, s3, s4⟩
                                go_simp
                                with_reducible rfl
                              rotate_left
                              · simp only [Act.put, List.setIfInBounds_toArray, List.set_cons_zero, List.set_cons_succ, i64_w, i32_w]
                                rfl
                              refine pure_ (i := 4) (N := some 63) (v := ?_) (a' := ?_) #[true, true, true, true, true, false, true, true, false, false, false, false, false, false, false] rfl rfl (any_of HT_.out (by kernel_rfl)) (fun _ _ _ h => h) (Or.inl ⟨by rfl, ?_⟩) ?_ ?_
                              rotate_left
                              · intro w'
                                go_simp
                                with_reducible rfl
                              rotate_left
                              · simp only [Act.put, List.setIfInBounds_toArray, List.set_cons_zero, List.set_cons_succ, i64_w, i32_w]
                                rfl
                              refine take_ (i := 5) (N := some 64) (v := ?_) (a' := ?_) #[true, true, true, true, true, true, true, true, false, false, false, false, false, false, false] rfl rfl (take_ofW HT_.out HW_.out (by kernel_rfl)) (fun _ _ _ h => h) (Or.inl ⟨by rfl, ?_⟩) hHeld ?_ ?_
                              rotate_left
                              · rintro w' ⟨s0, s1, s2, s3, s4⟩
                                go_simp
                                with_reducible rfl
                              rotate_left
                              · simp only [Act.put, List.setIfInBounds_toArray, List.set_cons_zero, List.set_cons_succ, i64_w, i32_w]
                                rfl
                              refine take_ (i := 8) (N := some 67) (v := ?_) (a' := ?_) #[true, true, true, true, true, true, true, true, true, false, false, false, false, false, false] rfl rfl (take_ofW HT_.out HW_.out (by kernel_rfl)) (fun _ _ _ h => h) (Or.inl ⟨by rfl, ?_⟩) hHeld ?_ ?_
                              rotate_left
                              · rintro w' ⟨s0, s1, s2, s3, s4⟩
                                go_simp
                                with_reducible rfl
                              rotate_left
                              · simp only [Act.put, List.setIfInBounds_toArray, List.set_cons_zero, List.set_cons_succ, i64_w, i32_w]
                                rfl
                              refine pure_ (i := 9) (N := some 68) (v := ?_) (a' := ?_) #[true, true, true, true, true, true, true, true, true, true, false, false, false, false, false] rfl rfl (any_of HT_.out (by kernel_rfl)) (fun _ _ _ h => h) (Or.inl ⟨by rfl, ?_⟩) ?_ ?_
                              rotate_left
                              · intro w'
                                go_simp
                                with_reducible rfl
                              rotate_left
                              · simp only [Act.put, List.setIfInBounds_toArray, List.set_cons_zero, List.set_cons_succ, i64_w, i32_w]
                                rfl
                              refine take_ (i := 10) (N := some 69) (v := ?_) (a' := ?_) #[true, true, true, true, true, true, true, true, true, true, true, false, false, false, false] rfl rfl (take_ofW HT_.out HW_.out (by kernel_rfl)) (fun _ _ _ h => h) (Or.inl ⟨by rfl, ?_⟩) hHeld ?_ ?_
                              rotate_left
                              · rintro w' ⟨s0, s1, s2, s3, s4⟩
                                go_simp
                                with_reducible rfl
                              rotate_left
                              · simp only [Act.put, List.setIfInBounds_toArray, List.set_cons_zero, List.set_cons_succ, i64_w, i32_w]
                                rfl
                              refine pure_ (i := 11) (N := some 70) (v := ?_) (a' := ?_) #[true, true, true, true, true, true, true, true, true, true, true, true, false, false, false] rfl rfl (any_of HT_.out (by kernel_rfl)) (fun _ _ _ h => h) (Or.inl ⟨by rfl, ?_⟩) ?_ ?_
                              rotate_left
                              · intro w'
                                go_simp
                                with_reducible rfl
                              rotate_left
                              · simp only [Act.put, List.setIfInBounds_toArray, List.set_cons_zero, List.set_cons_succ, i64_w, i32_w]
                                rfl
                              refine last_ (i := 12) (N := some 71) #[true, true, true, true, true, true, true, true, true, true, true, true, true, false, false] rfl rfl (one_of HT_.out (by kernel_rfl)) (by decide) (fun K hK => ?_)
                              refine value_ (w1 := ?_) (v := ?_) (by rfl) rfl ?_ ?_
                              rotate_left 2
                              · go_simp
                                constructor
                                · rfl
                                · rfl
                              refine hK.out _ _ ?_
                              clear hK K
                              refine norm_ (a' := ?_) ?_ ?_
                              rotate_left
                              · show Act.put _ (some 71) _ = _
                                simp only [Act.put, List.setIfInBounds_toArray, List.set_cons_zero, List.set_cons_succ, i64_w, i32_w]
                                rfl
                              refine last_ (i := 13) (N := some 72) #[true, true, true, true, true, true, true, true, true, true, true, true, true, true, false] rfl rfl (one_of HT_.out (by kernel_rfl)) (by decide) (fun K hK => ?_)
                              refine Kd.R_append_step (Kd.int .u64) (w0 := w) w.heap.size (by rfl) (.tmp 59) (.tmp 71) 53 98 (.int .u64 0) 8 rfl Try.underlying53 info98 rfl (by decide) (by omega) (.slice (some ad231) x3_1.length co34) x3_1 (Go.bits .or .u64 (rd x3_1 ((rd_T81 ((rd_T31 l0 0).f1) x12_1).f1)) (rd x3_1 ((rd_T81 ((rd_T31 l0 0).f1) x12_1).f2))) [.int .u64 (Go.bits .or .u64 (rd x3_1 ((rd_T81 ((rd_T31 l0 0).f1) x12_1).f1)) (rd x3_1 ((rd_T81 ((rd_T31 l0 0).f1) x12_1).f2)))] (fun _ => True) (fun _ => False) rfl rfl ?aP (fun _ hk => hk.elim) ?aF ?aO ?aB ?aS ?aL ?_
                              (case aP => exact rfl)
                              (case aB => exact (by repeat (first | (with_reducible first | exact HB.out | apply below_alloc | apply pw_below_drewN | apply below_drew1 | refine below_set ?_ GE220.out) | exact HB.out)))
                              (case aF => exact (fun _ _ => trivial))
                              (case aO => exact (by (with_reducible repeat (first | apply Kd.R_alloc | apply Kd.R_drewN | apply Kd.R_drew)); exact HO_3.out))
                              (case aS => exact (below_size (by repeat (first | (with_reducible first | exact HB.out | apply below_alloc | apply pw_below_drewN | apply below_drew1 | refine below_set ?_ GE220.out) | exact HB.out))))
                              (case aL => have := LMc29.out; omega)
                              intro v234 w35 ho hb hg hat
                              rw [← Ny233.out] at ho
                              have n0_ := Aside0.mk (blk_grown (g := gb220) (o := .cells #[.int .i8 ((rd_T81 ((rd_T31 l0 0).f1) x12_1).f0), .int .i16 ((rd_T81 ((rd_T31 l0 0).f1) x12_1).f1), .int .i16 ((rd_T81 ((rd_T31 l0 0).f1) x12_1).f2)] 81 (0, 0)) (by (with_reducible repeat (first | refine blk_drewN ?_ _ | refine blk_drew ?_ | refine blk_alloc ?_ _)); exact BK220.out) hg (Kd.R_ne HO_3.out BK220.out (by decide)))
                              have n1_ := Aside0.mk (hb)
                              have n2_ := Aside0.mk (ho)
                              clear BK220
                              clear HB
                              clear HO_3
                              have BK220 := n0_
                              have HB := n1_
                              have HO235 := n2_
                              clear n0_ n1_ n2_
                              clear ho hb hg hat
                              refine hK.out _ _ ?_
                              clear hK K
                              refine norm_ (a' := ?_) ?_ ?_
                              rotate_left
                              · show Act.put _ (some 72) _ = _
                                simp only [Act.put, List.setIfInBounds_toArray, List.set_cons_zero, List.set_cons_succ, i64_w, i32_w]
                                rfl
                              refine pure_ (i := 14) (N := some 3) (v := ?_) (a' := ?_) #[true, true, true, true, true, true, true, true, true, true, true, true, true, true, true] rfl rfl (any_of HT_.out (by kernel_rfl)) (fun _ _ _ h => h) (Or.inl ⟨by rfl, ?_⟩) ?_ ?_
                              rotate_left
                              · intro w'
                                go_simp
                                with_reducible rfl
                              rotate_left
                              · simp only [Act.put, List.setIfInBounds_toArray, List.set_cons_zero, List.set_cons_succ, i64_w, i32_w]
                                rfl
                              refine done_ (done_of HT_.out (by kernel_rfl)) ?_
                              try go_wp2
                              go_roundg k1
                              case measure => have := HK1.out; omega
                              case rel => exact ⟨(y233), (wrap64 (x12_1 + 1)), (by first | rfl | (simp; done) | (simp [*]; done) | (exact congrArg (Value.int .i64) (wrap_eq (by omega)))), H', ⟨by have := HK1.out; omega⟩, ⟨by (with_reducible repeat (first | apply Kd.R_alloc | apply Kd.R_drewN | apply Kd.R_drew)); exact HO235.out⟩, ⟨by repeat (first | (with_reducible first | exact HB.out | apply below_alloc | apply pw_below_drewN | apply below_drew1 | refine below_set ?_ GE220.out) | exact HB.out)⟩⟩
                            · rw [if_neg c29] at H
                              exact absurd H (by simp)
                          · rw [if_neg c28] at H
                            exact absurd H (by simp)
                        · rw [if_neg c27] at H
                          exact absurd H (by simp)
                      · rw [if_neg c26] at H
                        exact absurd H (by simp)
                    · rw [if_neg c25] at H
                      exact absurd H (by simp)
                  · rw [if_neg c24] at H
                    have c24b0 : (((rd_T81 ((rd_T31 l0 0).f1) x12_1).f0) == 2) = false := beq_eq_false_iff_ne.mpr c24
                    have c24b1 : (((rd_T81 ((rd_T31 l0 0).f1) x12_1).f0) != 2) = true := bne_iff_ne.mpr c24
                    by_cases c36 : 0 ≤ ((rd_T81 ((rd_T31 l0 0).f1) x12_1).f1)
                    · rw [if_pos c36] at H
                      have c36b0 : decide (0 ≤ ((rd_T81 ((rd_T31 l0 0).f1) x12_1).f1)) = true := decide_eq_true c36
                      clear c36
                      by_cases c37 : ((rd_T81 ((rd_T31 l0 0).f1) x12_1).f1) < (x3_1.length : Int)
                      · rw [if_pos c37] at H
                        have c37b0 : decide (((rd_T81 ((rd_T31 l0 0).f1) x12_1).f1) < (x3_1.length : Int)) = true := decide_eq_true c37
                        clear c37
                        by_cases c38 : 0 ≤ ((rd_T81 ((rd_T31 l0 0).f1) x12_1).f2)
                        · rw [if_pos c38] at H
                          have c38b0 : decide (0 ≤ ((rd_T81 ((rd_T31 l0 0).f1) x12_1).f2)) = true := decide_eq_true c38
                          clear c38
                          by_cases c39 : ((rd_T81 ((rd_T31 l0 0).f1) x12_1).f2) < (x3_1.length : Int)
                          · rw [if_pos c39] at H
                            have c39b0 : decide (((rd_T81 ((rd_T31 l0 0).f1) x12_1).f2) < (x3_1.length : Int)) = true := decide_eq_true c39
                            clear c39
                            by_cases c40 : x3_1.length < 17592186044416
                            · rw [if_pos c40] at H
                              have LMc40 := Aside0.mk c40
                              clear c40
                              obtain ⟨y238, hy238⟩ : ∃ y_ : List Int, y_ = (x3_1 ++ [Go.bits .andNot .u64 (rd x3_1 ((rd_T81 ((rd_T31 l0 0).f1) x12_1).f1)) (rd x3_1 ((rd_T81 ((rd_T31 l0 0).f1) x12_1).f2))]) := ⟨_, rfl⟩
                              replace H : (impl_Network_tables.l0 k1 l0 y238 ((rd_T31 l0 0).f1) (((rd_T31 l0 0).f1).length : Int) (wrap64 (x12_1 + 1))) = some r := by first | (rw [hy238]; with_reducible exact H) | (have H2_ := (Option.bind_some _ _).symm.trans H; rw [hy238]; with_reducible exact H2_) | (have H2_ := (Option.bind_some _ _).symm.trans H; with_reducible exact H2_) | with_reducible exact H | (rw [hy238]; exact H) | exact H
                              have Ny238 := Aside0.mk hy238
                              clear hy238
                              have H' := Aside0.mk H
                              clear H
                              have p219 : 0 ≤ (x12_1 : Int) := of_decide_eq_true (by first | (with_reducible assumption) | assumption)
                              have q219 : x12_1 < (((rd_T31 l0 0).f1).length : Int) := of_decide_eq_true (by first | (with_reducible assumption) | assumption)
                              obtain ⟨ad219, e219, hx219_0, hx219_1, hx219_2⟩ := at_T81 HR218_1.out x12_1 p219 q219
                              cases e219
                              replace hx219_0 := (HB.out.cell (World.block_lt_of_cell? w _ hx219_0)).trans hx219_0
                              replace hx219_1 := (HB.out.cell (World.block_lt_of_cell? w _ hx219_1)).trans hx219_1
                              replace hx219_2 := (HB.out.cell (World.block_lt_of_cell? w _ hx219_2)).trans hx219_2
                              replace p219 := eq_true p219
                              replace q219 := eq_true q219
                              try go_wp2_with (first | ((with_reducible refine gate_dst (N := 5) rfl ?_); refine box_event ?hg (N := 5) ?hd (cs := #[.int .i8 0, .int .i16 0, .int .i16 0]) (t := 81) ?hr ?_; (case hd => rfl); (case hg => rfl); (case hr => first | (go_simp; done) | (go_simp; rfl)); intro gb220 hg w41 hbox hb; have n0_ := Aside0.mk (Kd.R_below (by (with_reducible repeat (first | apply Kd.R_alloc | apply Kd.R_drewN | apply Kd.R_drew)); exact HO_3.out) hb); have n1_ := Aside0.mk (below_step (by repeat (first | (with_reducible first | exact HB.out | apply below_alloc | apply pw_below_drewN | apply below_drew1) | exact HB.out)) hb); have n2_ := Aside0.mk (hbox); have n3_ := Aside0.mk ((by rw [hg]; exact (below_size (by repeat (first | (with_reducible first | exact HB.out | apply below_alloc | apply pw_below_drewN | apply below_drew1) | exact HB.out))) : w.heap.size ≤ gb220)); have n4_ := Aside0.mk ((by rw [hg]; exact (below_size (by repeat (first | (with_reducible first | exact HB.out | apply below_alloc | apply pw_below_drewN | apply below_drew1) | exact HB.out))) : w.heap.size ≤ gb220)); clear HO_3; clear HB; have HO_3 := n0_; have HB := n1_; have BK220 := n2_; have GW220 := n3_; have GE220 := n4_; clear n0_ n1_ n2_ n3_ n4_; clear hb hbox hg; have hcz42_0 : w41.cell? ⟨gb220, 0, none⟩ = some (.int .i8 0) := (blk_cell BK220.out 0).trans rfl; have hcz42_1 : w41.cell? ⟨gb220, 1, none⟩ = some (.int .i16 0) := (blk_cell BK220.out 1).trans rfl; have hcz42_2 : w41.cell? ⟨gb220, 2, none⟩ = some (.int .i16 0) := (blk_cell BK220.out 2).trans rfl; have hfz42_0 := blk_frozen BK220.out 0; have hfz42_1 := blk_frozen BK220.out 1; have hfz42_2 := blk_frozen BK220.out 2))
                              have n0_ : Aside0 (Kd.R (Kd.int .u64) 98 (((w41.setCell ⟨gb220, 0, none⟩ (.int .i8 ((rd_T81 ((rd_T31 l0 0).f1) x12_1).f0))).setCell ⟨gb220, 1, none⟩ (.int .i16 ((rd_T81 ((rd_T31 l0 0).f1) x12_1).f1))).setCell ⟨gb220, 2, none⟩ (.int .i16 ((rd_T81 ((rd_T31 l0 0).f1) x12_1).f2))) w.heap.size (fun _ => True) u3 x3_1) := ⟨by (with_reducible repeat (first | apply Kd.R_alloc | apply Kd.R_drewN | apply Kd.R_drew)); exact Kd.R_mono (Kd.R_far (p := ⟨gb220, 2, none⟩) (Kd.R_far (p := ⟨gb220, 1, none⟩) (Kd.R_far (p := ⟨gb220, 0, none⟩) (Kd.R_types HO_3.out BK220.out (by decide)) (fun _ hk => hk.2) (.int .i8 ((rd_T81 ((rd_T31 l0 0).f1) x12_1).f0))) (fun _ hk => hk.2) (.int .i16 ((rd_T81 ((rd_T31 l0 0).f1) x12_1).f1))) (fun _ hk => hk.2) (.int .i16 ((rd_T81 ((rd_T31 l0 0).f1) x12_1).f2))) (fun _ hk => trivial)⟩
                              have n1_ : Aside0 ((((w41.setCell ⟨gb220, 0, none⟩ (.int .i8 ((rd_T81 ((rd_T31 l0 0).f1) x12_1).f0))).setCell ⟨gb220, 1, none⟩ (.int .i16 ((rd_T81 ((rd_T31 l0 0).f1) x12_1).f1))).setCell ⟨gb220, 2, none⟩ (.int .i16 ((rd_T81 ((rd_T31 l0 0).f1) x12_1).f2))).heap[gb220]? = some (.cells #[.int .i8 ((rd_T81 ((rd_T31 l0 0).f1) x12_1).f0), .int .i16 ((rd_T81 ((rd_T31 l0 0).f1) x12_1).f1), .int .i16 ((rd_T81 ((rd_T31 l0 0).f1) x12_1).f2)] 81 (0, 0))) := ⟨by (with_reducible repeat (first | refine blk_drewN ?_ _ | refine blk_drew ?_ | refine blk_alloc ?_ _)); refine blk_put (cs := #[.int .i8 ((rd_T81 ((rd_T31 l0 0).f1) x12_1).f0), .int .i16 ((rd_T81 ((rd_T31 l0 0).f1) x12_1).f1), .int .i16 0]) ?_ 2 _ rfl; (with_reducible repeat (first | refine blk_drewN ?_ _ | refine blk_drew ?_ | refine blk_alloc ?_ _)); refine blk_put (cs := #[.int .i8 ((rd_T81 ((rd_T31 l0 0).f1) x12_1).f0), .int .i16 0, .int .i16 0]) ?_ 1 _ rfl; (with_reducible repeat (first | refine blk_drewN ?_ _ | refine blk_drew ?_ | refine blk_alloc ?_ _)); refine blk_put (cs := #[.int .i8 0, .int .i16 0, .int .i16 0]) ?_ 0 _ rfl; (with_reducible repeat (first | refine blk_drewN ?_ _ | refine blk_drew ?_ | refine blk_alloc ?_ _)); exact BK220.out⟩
                              have n2_ : Aside0 (Below w.heap.size w (((w41.setCell ⟨gb220, 0, none⟩ (.int .i8 ((rd_T81 ((rd_T31 l0 0).f1) x12_1).f0))).setCell ⟨gb220, 1, none⟩ (.int .i16 ((rd_T81 ((rd_T31 l0 0).f1) x12_1).f1))).setCell ⟨gb220, 2, none⟩ (.int .i16 ((rd_T81 ((rd_T31 l0 0).f1) x12_1).f2)))) := ⟨by repeat (first | (with_reducible first | exact HB.out | apply below_alloc | apply pw_below_drewN | apply below_drew1 | refine below_set ?_ GE220.out) | exact HB.out)⟩
                              (try clear HO_3)
                              (try clear BK220)
                              (try clear HB)
                              generalize (((w41.setCell ⟨gb220, 0, none⟩ (.int .i8 ((rd_T81 ((rd_T31 l0 0).f1) x12_1).f0))).setCell ⟨gb220, 1, none⟩ (.int .i16 ((rd_T81 ((rd_T31 l0 0).f1) x12_1).f1))).setCell ⟨gb220, 2, none⟩ (.int .i16 ((rd_T81 ((rd_T31 l0 0).f1) x12_1).f2))) = w43 at n0_ n1_ n2_ ⊢
                              have HO_3 := n0_
                              have BK220 := n1_
                              have HB := n2_
                              clear n0_ n1_ n2_
                              have n0_ := Aside0.mk (Kd.R_drew HO_3.out)
                              have n1_ := Aside0.mk (blk_drew BK220.out)
                              have n2_ := Aside0.mk (below_drew1 HB.out)
                              clear HO_3
                              clear BK220
                              clear HB
                              have HO_3 := n0_
                              have BK220 := n1_
                              have HB := n2_
                              clear n0_ n1_ n2_
                              obtain ⟨Ao45, co45, eo45⟩ := Kd.R_slice HO_3.out
                              (first | subst eo45 | (injection eo45 with f1_ f2_ f3_; have f4_ := f1_.symm; have f5_ := f3_.symm; clear f1_ f2_ f3_; subst f4_; subst f5_))
                              have p236 : 0 ≤ (((rd_T81 ((rd_T31 l0 0).f1) x12_1).f1) : Int) := of_decide_eq_true (by first | (with_reducible assumption) | assumption)
                              have q236 : ((rd_T81 ((rd_T31 l0 0).f1) x12_1).f1) < (x3_1.length : Int) := of_decide_eq_true (by first | (with_reducible assumption) | assumption)
                              obtain ⟨ad236, e236, hx236_0⟩ := Kd.at_int (Kd.R_reads' HO_3.out).2.2 ((rd_T81 ((rd_T31 l0 0).f1) x12_1).f1) p236 q236
                              cases e236
                              replace p236 := eq_true p236
                              replace q236 := eq_true q236
                              have p237 : 0 ≤ (((rd_T81 ((rd_T31 l0 0).f1) x12_1).f2) : Int) := of_decide_eq_true (by first | (with_reducible assumption) | assumption)
                              have q237 : ((rd_T81 ((rd_T31 l0 0).f1) x12_1).f2) < (x3_1.length : Int) := of_decide_eq_true (by first | (with_reducible assumption) | assumption)
                              obtain ⟨ad237, e237, hx237_0⟩ := Kd.at_int (Kd.R_reads' HO_3.out).2.2 ((rd_T81 ((rd_T31 l0 0).f1) x12_1).f2) p237 q237
                              obtain rfl : ad236 = ad237 := (by injection e237)
                              replace p237 := eq_true p237
                              replace q237 := eq_true q237
                              refine start_ (n := 15) (S := fun w' => w'.cell? ⟨gb220, 0, none⟩ = some (.int .i8 ((rd_T81 ((rd_T31 l0 0).f1) x12_1).f0)) ∧ w'.cell? ⟨gb220, 1, none⟩ = some (.int .i16 ((rd_T81 ((rd_T31 l0 0).f1) x12_1).f1)) ∧ w'.cell? ⟨gb220, 2, none⟩ = some (.int .i16 ((rd_T81 ((rd_T31 l0 0).f1) x12_1).f2)) ∧ w'.cell? (ad236.add (((rd_T81 ((rd_T31 l0 0).f1) x12_1).f1)).toNat) = some (.int .u64 (rd x3_1 ((rd_T81 ((rd_T31 l0 0).f1) x12_1).f1))) ∧ w'.cell? (ad236.add (((rd_T81 ((rd_T31 l0 0).f1) x12_1).f2)).toNat) = some (.int .u64 (rd x3_1 ((rd_T81 ((rd_T31 l0 0).f1) x12_1).f2)))) (ds := [12, 13]) #[false, false, false, false, false, false, false, false, false, false, false, false, false, false, false] (by kernel_rfl) rfl rfl ⟨(blk_cell BK220.out 0).trans rfl, (blk_cell BK220.out 1).trans rfl, (blk_cell BK220.out 2).trans rfl, hx236_0, hx237_0⟩ (fun hHeld => ?_); refine with_tabW impl_Network_tables.tab6 impl_Network_tables.bits6 (fun HT_ HW_ => ?_)
                              generalize w43.drew = w44 at HO_3 BK220 HB hx236_0 hx237_0 hHeld ⊢
                              refine pure_ (i := 0) (N := some 18) (v := ?_) (a' := ?_) #[true, false, false, false, false, false, false, false, false, false, false, false, false, false, false] rfl rfl (any_of HT_.out (by kernel_rfl)) (fun _ _ _ h => h) (Or.inl ⟨by rfl, ?_⟩) ?_ ?_
                              rotate_left
                              · intro w'
                                go_simp
                                with_reducible rfl
                              rotate_left
                              · simp only [Act.put, List.setIfInBounds_toArray, List.set_cons_zero, List.set_cons_succ, i64_w, i32_w]
                                rfl
                              refine pure_ (i := 1) (N := some 19) (v := ?_) (a' := ?_) #[true, true, false, false, false, false, false, false, false, false, false, false, false, false, false] rfl rfl (any_of HT_.out (by kernel_rfl)) (fun _ _ _ h => h) (Or.inl ⟨by rfl, ?_⟩) ?_ ?_
                              rotate_left
                              · intro w'
                                go_simp
                                with_reducible rfl
                              rotate_left
                              · simp only [Act.put, List.setIfInBounds_toArray, List.set_cons_zero, List.set_cons_succ, i64_w, i32_w]
                                rfl
                              refine pure_ (i := 2) (N := some 20) (v := ?_) (a' := ?_) #[true, true, true, false, false, false, false, false, false, false, false, false, false, false, false] rfl rfl (any_of HT_.out (by kernel_rfl)) (fun _ _ _ h => h) (Or.inl ⟨by rfl, ?_⟩) ?_ ?_
                              rotate_left
                              · intro w'
                                go_simp
                                with_reducible rfl
                              rotate_left
                              · simp only [Act.put, List.setIfInBounds_toArray, List.set_cons_zero, List.set_cons_succ, i64_w, i32_w]
                                rfl
                              refine pure_ (i := 6) (N := some 24) (v := ?_) (a' := ?_) #[true, true, true, false, false, false, true, false, false, false, false, false, false, false, false] rfl rfl (any_of HT_.out (by kernel_rfl)) (fun _ _ _ h => h) (Or.inl ⟨by rfl, ?_⟩) ?_ ?_
                              rotate_left
                              · intro w'
                                go_simp
                                with_reducible rfl
                              rotate_left
                              · simp only [Act.put, List.setIfInBounds_toArray, List.set_cons_zero, List.set_cons_succ, i64_w, i32_w]
                                rfl
                              refine pure_ (i := 7) (N := some 25) (v := ?_) (a' := ?_) #[true, true, true, false, false, false, true, true, false, false, false, false, false, false, false] rfl rfl (any_of HT_.out (by kernel_rfl)) (fun _ _ _ h => h) (Or.inl ⟨by rfl, ?_⟩) ?_ ?_
                              rotate_left
                              · intro w'
                                go_simp
                                with_reducible rfl
                              rotate_left
                              · simp only [Act.put, List.setIfInBounds_toArray, List.set_cons_zero, List.set_cons_succ, i64_w, i32_w]
                                rfl
                              refine take_ (i := 3) (N := some 21) (v := ?_) (a' := ?_) #[true, true, true, true, false, false, true, true, false, false, false, false, false, false, false] rfl rfl (take_ofW HT_.out HW_.out (by kernel_rfl)) (fun _ _ _ h => h) (Or.inl ⟨by rfl, ?_⟩) hHeld ?_ ?_
                              rotate_left
                              · rintro w' ⟨s0, s1, s2, s3, s4⟩
                                go_simp
                                with_reducible rfl
                              rotate_left
                              · simp only [Act.put, List.setIfInBounds_toArray, List.set_cons_zero, List.set_cons_succ, i64_w, i32_w]
                                rfl
                              refine pure_ (i := 4) (N := some 22) (v := ?_) (a' := ?_) #[true, true, true, true, true, false, true, true, false, false, false, false, false, false, false] rfl rfl (any_of HT_.out (by kernel_rfl)) (fun _ _ _ h => h) (Or.inl ⟨by rfl, ?_⟩) ?_ ?_
                              rotate_left
                              · intro w'
                                go_simp
                                with_reducible rfl
                              rotate_left
                              · simp only [Act.put, List.setIfInBounds_toArray, List.set_cons_zero, List.set_cons_succ, i64_w, i32_w]
                                rfl
                              refine take_ (i := 5) (N := some 23) (v := ?_) (a' := ?_) #[true, true, true, true, true, true, true, true, false, false, false, false, false, false, false] rfl rfl (take_ofW HT_.out HW_.out (by kernel_rfl)) (fun _ _ _ h => h) (Or.inl ⟨by rfl, ?_⟩) hHeld ?_ ?_
                              rotate_left
                              · rintro w' ⟨s0, s1, s2, s3, s4⟩
                                go_simp
                                with_reducible rfl
                              rotate_left
                              · simp only [Act.put, List.setIfInBounds_toArray, List.set_cons_zero, List.set_cons_succ, i64_w, i32_w]
                                rfl
                              refine take_ (i := 8) (N := some 26) (v := ?_) (a' := ?_) #[true, true, true, true, true, true, true, true, true, false, false, false, false, false, false] rfl rfl (take_ofW HT_.out HW_.out (by kernel_rfl)) (fun _ _ _ h => h) (Or.inl ⟨by rfl, ?_⟩) hHeld ?_ ?_
                              rotate_left
                              · rintro w' ⟨s0, s1, s2, s3, s4⟩
                                go_simp
                                with_reducible rfl
                              rotate_left
                              · simp only [Act.put, List.setIfInBounds_toArray, List.set_cons_zero, List.set_cons_succ, i64_w, i32_w]
                                rfl
                              refine pure_ (i := 9) (N := some 27) (v := ?_) (a' := ?_) #[true, true, true, true, true, true, true, true, true, true, false, false, false, false, false] rfl rfl (any_of HT_.out (by kernel_rfl)) (fun _ _ _ h => h) (Or.inl ⟨by rfl, ?_⟩) ?_ ?_
                              rotate_left
                              · intro w'
                                go_simp
                                with_reducible rfl
                              rotate_left
                              · simp only [Act.put, List.setIfInBounds_toArray, List.set_cons_zero, List.set_cons_succ, i64_w, i32_w]
                                rfl
                              refine take_ (i := 10) (N := some 28) (v := ?_) (a' := ?_) #[true, true, true, true, true, true, true, true, true, true, true, false, false, false, false] rfl rfl (take_ofW HT_.out HW_.out (by kernel_rfl)) (fun _ _ _ h => h) (Or.inl ⟨by rfl, ?_⟩) hHeld ?_ ?_
                              rotate_left
                              · rintro w' ⟨s0, s1, s2, s3, s4⟩
                                go_simp
                                with_reducible rfl
                              rotate_left
                              · simp only [Act.put, List.setIfInBounds_toArray, List.set_cons_zero, List.set_cons_succ, i64_w, i32_w]
                                rfl
                              refine pure_ (i := 11) (N := some 29) (v := ?_) (a' := ?_) #[true, true, true, true, true, true, true, true, true, true, true, true, false, false, false] rfl rfl (any_of HT_.out (by kernel_rfl)) (fun _ _ _ h => h) (Or.inl ⟨by rfl, ?_⟩) ?_ ?_
                              rotate_left
                              · intro w'
                                go_simp
                                with_reducible rfl
                              rotate_left
                              · simp only [Act.put, List.setIfInBounds_toArray, List.set_cons_zero, List.set_cons_succ, i64_w, i32_w]
                                rfl
                              refine last_ (i := 12) (N := some 30) #[true, true, true, true, true, true, true, true, true, true, true, true, true, false, false] rfl rfl (one_of HT_.out (by kernel_rfl)) (by decide) (fun K hK => ?_)
                              refine value_ (w1 := ?_) (v := ?_) (by rfl) rfl ?_ ?_
                              rotate_left 2
                              · go_simp
                                constructor
                                · rfl
                                · rfl
                              refine hK.out _ _ ?_
                              clear hK K
                              refine norm_ (a' := ?_) ?_ ?_
                              rotate_left
                              · show Act.put _ (some 30) _ = _
                                simp only [Act.put, List.setIfInBounds_toArray, List.set_cons_zero, List.set_cons_succ, i64_w, i32_w]
                                rfl
                              refine last_ (i := 13) (N := some 31) #[true, true, true, true, true, true, true, true, true, true, true, true, true, true, false] rfl rfl (one_of HT_.out (by kernel_rfl)) (by decide) (fun K hK => ?_)
                              refine Kd.R_append_step (Kd.int .u64) (w0 := w) w.heap.size (by rfl) (.tmp 18) (.tmp 30) 53 98 (.int .u64 0) 8 rfl Try.underlying53 info98 rfl (by decide) (by omega) (.slice (some ad236) x3_1.length co45) x3_1 (Go.bits .andNot .u64 (rd x3_1 ((rd_T81 ((rd_T31 l0 0).f1) x12_1).f1)) (rd x3_1 ((rd_T81 ((rd_T31 l0 0).f1) x12_1).f2))) [.int .u64 (Go.bits .andNot .u64 (rd x3_1 ((rd_T81 ((rd_T31 l0 0).f1) x12_1).f1)) (rd x3_1 ((rd_T81 ((rd_T31 l0 0).f1) x12_1).f2)))] (fun _ => True) (fun _ => False) rfl rfl ?aP (fun _ hk => hk.elim) ?aF ?aO ?aB ?aS ?aL ?_
                              (case aP => exact rfl)
                              (case aB => exact (by repeat (first | (with_reducible first | exact HB.out | apply below_alloc | apply pw_below_drewN | apply below_drew1 | refine below_set ?_ GE220.out) | exact HB.out)))
                              (case aF => exact (fun _ _ => trivial))
                              (case aO => exact (by (with_reducible repeat (first | apply Kd.R_alloc | apply Kd.R_drewN | apply Kd.R_drew)); exact HO_3.out))
                              (case aS => exact (below_size (by repeat (first | (with_reducible first | exact HB.out | apply below_alloc | apply pw_below_drewN | apply below_drew1 | refine below_set ?_ GE220.out) | exact HB.out))))
                              (case aL => have := LMc40.out; omega)
                              intro v239 w46 ho hb hg hat
                              rw [← Ny238.out] at ho
                              have n0_ := Aside0.mk (blk_grown (g := gb220) (o := .cells #[.int .i8 ((rd_T81 ((rd_T31 l0 0).f1) x12_1).f0), .int .i16 ((rd_T81 ((rd_T31 l0 0).f1) x12_1).f1), .int .i16 ((rd_T81 ((rd_T31 l0 0).f1) x12_1).f2)] 81 (0, 0)) (by (with_reducible repeat (first | refine blk_drewN ?_ _ | refine blk_drew ?_ | refine blk_alloc ?_ _)); exact BK220.out) hg (Kd.R_ne HO_3.out BK220.out (by decide)))
                              have n1_ := Aside0.mk (hb)
                              have n2_ := Aside0.mk (ho)
                              clear BK220
                              clear HB
                              clear HO_3
                              have BK220 := n0_
                              have HB := n1_
                              have HO240 := n2_
                              clear n0_ n1_ n2_
                              clear ho hb hg hat
                              refine hK.out _ _ ?_
                              clear hK K
                              refine norm_ (a' := ?_) ?_ ?_
                              rotate_left
                              · show Act.put _ (some 31) _ = _
                                simp only [Act.put, List.setIfInBounds_toArray, List.set_cons_zero, List.set_cons_succ, i64_w, i32_w]
                                rfl
                              refine pure_ (i := 14) (N := some 3) (v := ?_) (a' := ?_) #[true, true, true, true, true, true, true, true, true, true, true, true, true, true, true] rfl rfl (any_of HT_.out (by kernel_rfl)) (fun _ _ _ h => h) (Or.inl ⟨by rfl, ?_⟩) ?_ ?_
                              rotate_left
                              · intro w'
                                go_simp
                                with_reducible rfl
                              rotate_left
                              · simp only [Act.put, List.setIfInBounds_toArray, List.set_cons_zero, List.set_cons_succ, i64_w, i32_w]
                                rfl
                              refine done_ (done_of HT_.out (by kernel_rfl)) ?_
                              try go_wp2
                              go_roundg k1
                              case measure => have := HK1.out; omega
                              case rel => exact ⟨(y238), (wrap64 (x12_1 + 1)), (by first | rfl | (simp; done) | (simp [*]; done) | (exact congrArg (Value.int .i64) (wrap_eq (by omega)))), H', ⟨by have := HK1.out; omega⟩, ⟨by (with_reducible repeat (first | apply Kd.R_alloc | apply Kd.R_drewN | apply Kd.R_drew)); exact HO240.out⟩, ⟨by repeat (first | (with_reducible first | exact HB.out | apply below_alloc | apply pw_below_drewN | apply below_drew1 | refine below_set ?_ GE220.out) | exact HB.out)⟩⟩
                            · rw [if_neg c40] at H
                              exact absurd H (by simp)
                          · rw [if_neg c39] at H
                            exact absurd H (by simp)
                        · rw [if_neg c38] at H
                          exact absurd H (by simp)
                      · rw [if_neg c37] at H
                        exact absurd H (by simp)
                    · rw [if_neg c36] at H
                      exact absurd H (by simp)
            · rw [if_neg c7] at H
              exact absurd H (by simp)
          · rw [if_neg c6] at H
            exact absurd H (by simp)
        · rw [if_neg c5] at H
          have c5b0 : decide (x12_1 < (((rd_T31 l0 0).f1).length : Int)) = false := decide_eq_false c5
          clear c5
          obtain rfl := Option.some.inj H
          go_wp2
          go_ret
          exact ⟨_, by first | rfl | (simp [errW_none, errW_some] <;> rfl) | (simp [*, errW_none, errW_some] <;> rfl), by (with_reducible repeat (first | apply Kd.R_alloc | apply Kd.R_drewN | apply Kd.R_drew)); exact HO_3.out, by repeat (first | (with_reducible first | exact HB.out | apply below_alloc | apply pw_below_drewN | apply below_drew1) | exact HB.out)⟩
  · rw [if_neg c2] at H
    exact absurd H (by simp)

end Go.Proofs.Ytmpmanfoiocfgaa.PFnExactTablesOf
