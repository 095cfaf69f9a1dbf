-- WRITTEN by xprint.py, a program of this session's. Not trusted: Lean checks it.
import Derived.Test.YtmpmanfoiocfgaaPFnExactCheckMergex0
import Derived.Test.YtmpmanfoiocfgaaPFnExactCheckMergex7
namespace Go.Proofs.Ytmpmanfoiocfgaa.PFnExactCheckMerge
open Go.RowKit Go.Proofs.YtmpmanfoiocfgaaW.PrintWords Go.Proofs.YtmpmanfoiocfgaaW.PrintLast Go.Proofs.YtmpmanfoiocfgaaW.PrintMore Go.Proofs.YtmpmanfoiocfgaaX
attribute [local go_sem] max2_int min2_int max_two min_two max_three min_three max_four min_four   -- for this text's walks alone
set_option linter.unusedVariables false
set_option linter.unusedSimpArgs false

/-! ### impl_Network_tables: function 97 -/
def impl_Network_tables.l0 : Nat → List (S31) → List Int → List (S81) → Int → Int → Option (List Int)
  | 0, _, _, _, _, _ => none
  | k + 1, x0, x3, x10, x11, x12 => if x12 < x11 then (if 0 ≤ x12 then (if x12 < (x10.length : Int) then (if ((rd_T81 x10 x12).f0) = 0 then (if 0 < (x0.length : Int) then ((impl_inputTable.f k (wrap64 ((rd_T31 x0 0).f0)) (wrap64 ((rd_T81 x10 x12).f1))).bind fun t237 => (if x3.length < 17592186044416 then (impl_Network_tables.l0 k x0 (x3 ++ [t237]) x10 x11 (wrap64 (x12 + 1))) else (none))) else (none)) else (if ((rd_T81 x10 x12).f0) = 1 then (if 0 < (x0.length : Int) then ((impl_full.f (wrap64 ((rd_T31 x0 0).f0))).bind fun t242 => (if x3.length < 17592186044416 then (impl_Network_tables.l0 k x0 (x3 ++ [t242]) x10 x11 (wrap64 (x12 + 1))) else (none))) else (none)) else (if ((rd_T81 x10 x12).f0) = 2 then (if 0 ≤ ((rd_T81 x10 x12).f1) then (if ((rd_T81 x10 x12).f1) < (x3.length : Int) then (if 0 ≤ ((rd_T81 x10 x12).f2) then (if ((rd_T81 x10 x12).f2) < (x3.length : Int) then (if x3.length < 17592186044416 then (impl_Network_tables.l0 k x0 (x3 ++ [Go.bits .or .u64 (rd x3 ((rd_T81 x10 x12).f1)) (rd x3 ((rd_T81 x10 x12).f2))]) x10 x11 (wrap64 (x12 + 1))) else (none)) else (none)) else (none)) else (none)) else (none)) else (if 0 ≤ ((rd_T81 x10 x12).f1) then (if ((rd_T81 x10 x12).f1) < (x3.length : Int) then (if 0 ≤ ((rd_T81 x10 x12).f2) then (if ((rd_T81 x10 x12).f2) < (x3.length : Int) then (if x3.length < 17592186044416 then (impl_Network_tables.l0 k x0 (x3 ++ [Go.bits .andNot .u64 (rd x3 ((rd_T81 x10 x12).f1)) (rd x3 ((rd_T81 x10 x12).f2))]) x10 x11 (wrap64 (x12 + 1))) else (none)) else (none)) else (none)) else (none)) else (none))))) else (none)) else (none)) else (some x3)
def impl_Network_tables.f (k : Nat) (l0 : List (S31)) : Option (List Int) := if 0 < (l0.length : Int) then (impl_Network_tables.l0 k l0 (([] : List Int)) ((rd_T31 l0 0).f1) (((rd_T31 l0 0).f1).length : Int) 0) else (none)
theorem impl_Network_tables.mono_l : ∀ k, (∀ y0 y1 y2 y3 y4, LeO (impl_Network_tables.l0 k y0 y1 y2 y3 y4) (impl_Network_tables.l0 (k + 1) y0 y1 y2 y3 y4))
  | 0 => fun _ _ _ _ _ r h => by simp [impl_Network_tables.l0] at h
  | k + 1 => by
    have ih0 := impl_Network_tables.mono_l k
    · intro y0 y1 y2 y3 y4
      unfold impl_Network_tables.l0
      repeat' first
      | (with_reducible exact ih0 _ _ _ _ _)
      | (with_reducible exact impl_inputTable.mono _ _ _)
      | (with_reducible exact LeO.refl _)
      | (with_reducible exact LeO.none _)
      | (with_reducible refine LeO.ite ?_ ?_)
      | (with_reducible refine LeO.bind ?_ (fun _ => ?_))
      | exact ih0 _ _ _ _ _
      | exact impl_inputTable.mono _ _ _
      | exact LeO.none _
      | refine LeO.ite ?_ ?_
      | refine LeO.bind ?_ (fun _ => ?_)
theorem impl_Network_tables.mono : ∀ a0 k, LeO (impl_Network_tables.f k a0) (impl_Network_tables.f (k + 1) a0) := by
  intro a0 k
  have ih0 := impl_Network_tables.mono_l k
  unfold impl_Network_tables.f
  repeat' first
      | (with_reducible exact ih0 _ _ _ _ _)
      | (with_reducible exact impl_inputTable.mono _ _ _)
      | (with_reducible exact LeO.refl _)
      | (with_reducible exact LeO.none _)
      | (with_reducible refine LeO.ite ?_ ?_)
      | (with_reducible refine LeO.bind ?_ (fun _ => ?_))
      | exact ih0 _ _ _ _ _
      | exact impl_inputTable.mono _ _ _
      | exact LeO.none _
      | refine LeO.ite ?_ ?_
      | refine LeO.bind ?_ (fun _ => ?_)
def impl_Network_tables.T6 : Bool × List (List Nat × List Nat) := (true, [([], []), ([], []), ([], []), ([2], [2]), ([1, 3], [1, 3]), ([4], [4]), ([], []), ([], []), ([7], [7]), ([6, 8], [6, 8]), ([9], [9]), ([5, 10], [5, 10]), ([11], [11]), ([0, 12], [0, 12]), ([13, 13, 0, 1, 2, 3, 4, 5, 6, 7, 8, 9, 10, 11, 12, 13], [0, 1, 6, 13])])
def impl_Network_tables.B6 : List Nat := [0, 0, 0, 4, 14, 30, 0, 0, 128, 448, 960, 2046, 4094, 8191, 16383]
theorem impl_Network_tables.tab6 : rtab .any (opsOf Try.f97 6) = impl_Network_tables.T6 := by kernel_rfl
theorem impl_Network_tables.bits6 : waitsOk impl_Network_tables.T6.2 impl_Network_tables.B6 = true := by kernel_rfl
def impl_Network_tables.T8 : Bool × List (List Nat × List Nat) := (true, [([], []), ([], []), ([1], [1]), ([2], [2]), ([3], [3]), ([4], [4]), ([], []), ([6], [6]), ([7], [7]), ([5, 8], [5, 8]), ([9], [9]), ([0, 10, 9], [0, 10]), ([11, 11, 0, 1, 2, 3, 4, 5, 6, 7, 8, 9, 10, 11], [0, 11])])
def impl_Network_tables.B8 : List Nat := [0, 0, 2, 6, 14, 30, 0, 64, 192, 510, 1022, 2047, 4095]
theorem impl_Network_tables.tab8 : rtab .any (opsOf Try.f97 8) = impl_Network_tables.T8 := by kernel_rfl
theorem impl_Network_tables.bits8 : waitsOk impl_Network_tables.T8.2 impl_Network_tables.B8 = true := by kernel_rfl
def impl_Network_tables.T12 : Bool × List (List Nat × List Nat) := (true, [([], []), ([], []), ([], []), ([2], [2]), ([1, 3], [1, 3]), ([4], [4]), ([], []), ([], []), ([7], [7]), ([6, 8], [6, 8]), ([9], [9]), ([5, 10], [5, 10]), ([11], [11]), ([0, 12], [0, 12]), ([13, 13, 0, 1, 2, 3, 4, 5, 6, 7, 8, 9, 10, 11, 12, 13], [0, 1, 6, 13])])
def impl_Network_tables.B12 : List Nat := [0, 0, 0, 4, 14, 30, 0, 0, 128, 448, 960, 2046, 4094, 8191, 16383]
theorem impl_Network_tables.tab12 : rtab .any (opsOf Try.f97 12) = impl_Network_tables.T12 := by kernel_rfl
theorem impl_Network_tables.bits12 : waitsOk impl_Network_tables.T12.2 impl_Network_tables.B12 = true := by kernel_rfl
set_option maxHeartbeats 8000000 in
set_option maxRecDepth 100000 in
theorem impl_Network_tables.calls (k : Nat) (adp0 : Addr) (l0 : List (S31)) (r : List Int) (w : World) (hr0 : Kd.C k31 w (some adp0) l0.length l0) (h : impl_Network_tables.f k l0 = some r) :
    Calls Try.prog 97 #[.pointer (some adp0)] w fun e w' => ∃ v0_ : Value, e = .returned (v0_) ∧ Kd.R (Kd.int .u64) 98 w' w.heap.size (fun _ => True) v0_ r ∧ Below w.heap.size w w' := by
  have hu81 := Try.underlying81
  have HR0 := Aside0.mk hr0
  clear hr0
  have HB := Aside0.mk (Below.refl w.heap.size w)
  have H : (if 0 < (l0.length : Int) then (impl_Network_tables.l0 k l0 (([] : List Int)) ((rd_T31 l0 0).f1) (((rd_T31 l0 0).f1).length : Int) 0) else (none)) = some r := h
  clear h
  obtain ⟨y230, hy230⟩ : ∃ y_ : List Int, y_ = (([] : List Int)) := ⟨_, rfl⟩
  replace H : (if 0 < (l0.length : Int) then (impl_Network_tables.l0 k l0 y230 ((rd_T31 l0 0).f1) (((rd_T31 l0 0).f1).length : Int) 0) else (none)) = some r := by first | (rw [hy230]; with_reducible exact H) | (have H2_ := (Option.bind_some _ _).symm.trans H; rw [hy230]; with_reducible exact H2_) | (have H2_ := (Option.bind_some _ _).symm.trans H; with_reducible exact H2_) | with_reducible exact H | (rw [hy230]; exact H) | exact H
  have Ny230 := Aside0.mk hy230
  clear hy230
  by_cases c2 : 0 < (l0.length : Int)
  · rw [if_pos c2] at H
    have c2b0 : decide (0 < (l0.length : Int)) = true := decide_eq_true c2
    have c2b1 : decide (0 < l0.length) = true := decide_eq_true (by omega)
    clear c2
    have H' := Aside0.mk H
    clear H
    go_enter Try.func97, Try.ntmps97
    go_wp2_with (first | ((with_reducible refine gate_dst (N := 6) rfl ?_); refine Kd.R_lit (Kd.int .u64) _ 98 ?hg (N := 6) ?hd (xs := ([] : List Int)) (inner := []) (ok := fun _ => True) (okp := fun _ => True) ?hr ?hp (fun _ hk => hk) trivial (Below.refl _ _) (Nat.le_refl _) (by simp) ?_; (case hd => rfl); (case hg => rfl); (case hr => first | (go_simp; done) | (go_simp; rfl)); (case hp => exact (Reps.none _ _)); intro v231 w3 ho4 hb hg_ hnew_; clear hg_ hnew_; (first | rw [← Ny230.out] at ho4 | (simp only [Int.reduceToNat] at ho4; rw [← Ny230.out] at ho4)); have n0_ := Aside0.mk (Kd.R_lower ho4 (below_size (by repeat (first | (with_reducible first | exact HB.out | apply below_alloc | apply pw_below_drewN | apply below_drew1) | exact HB.out)))); have n1_ := Aside0.mk (below_step (by repeat (first | (with_reducible first | exact HB.out | apply below_alloc | apply pw_below_drewN | apply below_drew1) | exact HB.out)) hb); clear HB; have HO232 := n0_; have HB := n1_; clear n0_ n1_; clear hb ho4; have p233 : 0 ≤ (0 : Int) := (by omega); have q233 : 0 < (l0.length : Int) := of_decide_eq_true (by first | (with_reducible assumption) | assumption); obtain ⟨ad233, A233_1, c233_1, A233_2, c233_2, e233, hx233_0, hx233_1, hx233_2, hl233_1, hi233_1, hl233_2, hi233_2⟩ := at_T31 HR0.out 0 p233 q233; obtain rfl : adp0 = ad233 := (by injection e233); have qi233 : (0 < l0.length) = True := eq_true (by omega); (try rw [show ((0 : Int)).toNat = 0 from rfl] at hx233_0); (try rw [show 0 * 3 = 0 from rfl] at hx233_0); (try rw [Addr.add_zero'] at hx233_0); (try rw [show ((0 : Int)).toNat = 0 from rfl] at hx233_1); (try rw [show 0 * 3 = 0 from rfl] at hx233_1); (try rw [Addr.add_zero'] at hx233_1); (try rw [show ((0 : Int)).toNat = 0 from rfl] at hx233_2); (try rw [show 0 * 3 = 0 from rfl] at hx233_2); (try rw [Addr.add_zero'] at hx233_2); replace hx233_0 := (HB.out.cell (World.block_lt_of_cell? w _ hx233_0)).trans hx233_0; replace hx233_1 := (HB.out.cell (World.block_lt_of_cell? w _ hx233_1)).trans hx233_1; replace hx233_2 := (HB.out.cell (World.block_lt_of_cell? w _ hx233_2)).trans hx233_2; have HR233_1 := Aside0.mk hi233_1; have HC233_1 := Aside0.mk hl233_1; clear hi233_1 hl233_1; have HR233_2 := Aside0.mk hi233_2; have HC233_2 := Aside0.mk hl233_2; clear hi233_2 hl233_2; replace p233 := eq_true p233; replace q233 := eq_true q233))
    go_loopg [3, 12] k (fun kq v3 v12 w' => ∃ (x3_1 : List Int) (x12_1 : Int), v12 = .int .i64 x12_1 ∧ Aside0 (impl_Network_tables.l0 kq l0 x3_1 ((rd_T31 l0 0).f1) (((rd_T31 l0 0).f1).length : Int) x12_1 = some r) ∧ Aside0 (kq ≤ k) ∧ Aside0 (Kd.R (Kd.int .u64) 98 w' w.heap.size (fun _ => True) v3 x3_1) ∧ Aside0 (Below w.heap.size w w'))
    case atStart => exact ⟨(y230), (0), (by first | rfl | (simp; done) | (simp [*]; done) | (exact congrArg (Value.int .i64) (wrap_eq (by omega)))), H', ⟨Nat.le_refl _⟩, ⟨by (with_reducible repeat (first | apply Kd.R_alloc | apply Kd.R_drewN | apply Kd.R_drew)); exact HO232.out⟩, ⟨by repeat (first | (with_reducible first | exact HB.out | apply below_alloc | apply pw_below_drewN | apply below_drew1) | exact HB.out)⟩⟩
    case round =>
      clear H'
      try clear c2
      try clear c2b0
      try clear c2b1
      try clear p2
      try clear q2
      try clear hx2
      try clear qi2
      try clear hx233_0
      try clear hx233_1
      try clear hx233_2
      try clear p233
      try clear q233
      obtain ⟨x3_1, x12_1, rfl, HA, HK1, HO_3, HB⟩ := hrel
      cases gk with
      | zero => exact absurd HA.out (by simp [impl_Network_tables.l0])
      | succ k1 =>
        have H := HA.out
        clear HA
        simp only [impl_Network_tables.l0] at H
        by_cases c5 : x12_1 < (((rd_T31 l0 0).f1).length : Int)
        · rw [if_pos c5] at H
          have c5b0 : decide (x12_1 < (((rd_T31 l0 0).f1).length : Int)) = true := decide_eq_true c5
          clear c5
          by_cases c6 : 0 ≤ x12_1
          · rw [if_pos c6] at H
            have c6b0 : decide (0 ≤ x12_1) = true := decide_eq_true c6
            clear c6
            by_cases c7 : x12_1 < (((rd_T31 l0 0).f1).length : Int)
            · rw [if_pos c7] at H
              have c7b0 : decide (x12_1 < (((rd_T31 l0 0).f1).length : Int)) = true := decide_eq_true c7
              clear c7
              by_cases c8 : ((rd_T81 ((rd_T31 l0 0).f1) x12_1).f0) = 0
              · rw [if_pos c8] at H
                have c8b0 : (((rd_T81 ((rd_T31 l0 0).f1) x12_1).f0) == 0) = true := beq_iff_eq.mpr c8
                have c8b1 : (((rd_T81 ((rd_T31 l0 0).f1) x12_1).f0) != 0) = false := bne_eq_false_iff_eq.mpr c8
                clear c8
                by_cases c9 : 0 < (l0.length : Int)
                · rw [if_pos c9] at H
                  have c9b0 : decide (0 < (l0.length : Int)) = true := decide_eq_true c9
                  have c9b1 : decide (0 < l0.length) = true := decide_eq_true (by omega)
                  clear c9
                  replace H := Option.bind_eq_some_iff.mp H
                  obtain ⟨t237, A100, H⟩ := H
                  replace H : (if x3_1.length < 17592186044416 then (impl_Network_tables.l0 k1 l0 (x3_1 ++ [t237]) ((rd_T31 l0 0).f1) (((rd_T31 l0 0).f1).length : Int) (wrap64 (x12_1 + 1))) else (none)) = some r := H
                  have A10 := Aside0.mk A100
                  clear A100
                  by_cases c11 : x3_1.length < 17592186044416
                  · rw [if_pos c11] at H
                    have LMc11 := Aside0.mk c11
                    clear c11
                    obtain ⟨y238, hy238⟩ : ∃ y_ : List Int, y_ = (x3_1 ++ [t237]) := ⟨_, rfl⟩
                    replace H : (impl_Network_tables.l0 k1 l0 y238 ((rd_T31 l0 0).f1) (((rd_T31 l0 0).f1).length : Int) (wrap64 (x12_1 + 1))) = some r := by first | (rw [hy238]; with_reducible exact H) | (have H2_ := (Option.bind_some _ _).symm.trans H; rw [hy238]; with_reducible exact H2_) | (have H2_ := (Option.bind_some _ _).symm.trans H; with_reducible exact H2_) | with_reducible exact H | (rw [hy238]; exact H) | exact H
                    have Ny238 := Aside0.mk hy238
                    clear hy238
                    have H' := Aside0.mk H
                    clear H
                    have p234 : 0 ≤ (x12_1 : Int) := of_decide_eq_true (by first | (with_reducible assumption) | assumption)
                    have q234 : x12_1 < (((rd_T31 l0 0).f1).length : Int) := of_decide_eq_true (by first | (with_reducible assumption) | assumption)
                    obtain ⟨ad234, e234, hx234_0, hx234_1, hx234_2⟩ := at_T81 HR233_1.out x12_1 p234 q234
                    cases e234
                    replace hx234_0 := (HB.out.cell (World.block_lt_of_cell? w _ hx234_0)).trans hx234_0
                    replace hx234_1 := (HB.out.cell (World.block_lt_of_cell? w _ hx234_1)).trans hx234_1
                    replace hx234_2 := (HB.out.cell (World.block_lt_of_cell? w _ hx234_2)).trans hx234_2
                    replace p234 := eq_true p234
                    replace q234 := eq_true q234
                    try go_wp2_with (first | ((with_reducible refine gate_dst (N := 5) rfl ?_); refine box_event ?hg (N := 5) ?hd (cs := #[.int .i8 0, .int .i16 0, .int .i16 0]) (t := 81) ?hr ?_; (case hd => rfl); (case hg => rfl); (case hr => first | (go_simp; done) | (go_simp; rfl)); intro gb235 hg w12 hbox hb; have n0_ := Aside0.mk (Kd.R_below (by (with_reducible repeat (first | apply Kd.R_alloc | apply Kd.R_drewN | apply Kd.R_drew)); exact HO_3.out) hb); have n1_ := Aside0.mk (below_step (by repeat (first | (with_reducible first | exact HB.out | apply below_alloc | apply pw_below_drewN | apply below_drew1) | exact HB.out)) hb); have n2_ := Aside0.mk (hbox); have n3_ := Aside0.mk ((by rw [hg]; exact (below_size (by repeat (first | (with_reducible first | exact HB.out | apply below_alloc | apply pw_below_drewN | apply below_drew1) | exact HB.out))) : w.heap.size ≤ gb235)); have n4_ := Aside0.mk ((by rw [hg]; exact (below_size (by repeat (first | (with_reducible first | exact HB.out | apply below_alloc | apply pw_below_drewN | apply below_drew1) | exact HB.out))) : w.heap.size ≤ gb235)); clear HO_3; clear HB; have HO_3 := n0_; have HB := n1_; have BK235 := n2_; have GW235 := n3_; have GE235 := n4_; clear n0_ n1_ n2_ n3_ n4_; clear hb hbox hg; have hcz13_0 : w12.cell? ⟨gb235, 0, none⟩ = some (.int .i8 0) := (blk_cell BK235.out 0).trans rfl; have hcz13_1 : w12.cell? ⟨gb235, 1, none⟩ = some (.int .i16 0) := (blk_cell BK235.out 1).trans rfl; have hcz13_2 : w12.cell? ⟨gb235, 2, none⟩ = some (.int .i16 0) := (blk_cell BK235.out 2).trans rfl; have hfz13_0 := blk_frozen BK235.out 0; have hfz13_1 := blk_frozen BK235.out 1; have hfz13_2 := blk_frozen BK235.out 2))
                    have n0_ : Aside0 (Kd.R (Kd.int .u64) 98 (((w12.setCell ⟨gb235, 0, none⟩ (.int .i8 ((rd_T81 ((rd_T31 l0 0).f1) x12_1).f0))).setCell ⟨gb235, 1, none⟩ (.int .i16 ((rd_T81 ((rd_T31 l0 0).f1) x12_1).f1))).setCell ⟨gb235, 2, none⟩ (.int .i16 ((rd_T81 ((rd_T31 l0 0).f1) x12_1).f2))) w.heap.size (fun _ => True) u3 x3_1) := ⟨by (with_reducible repeat (first | apply Kd.R_alloc | apply Kd.R_drewN | apply Kd.R_drew)); exact Kd.R_mono (Kd.R_far (p := ⟨gb235, 2, none⟩) (Kd.R_far (p := ⟨gb235, 1, none⟩) (Kd.R_far (p := ⟨gb235, 0, none⟩) (Kd.R_types HO_3.out BK235.out (by decide)) (fun _ hk => hk.2) (.int .i8 ((rd_T81 ((rd_T31 l0 0).f1) x12_1).f0))) (fun _ hk => hk.2) (.int .i16 ((rd_T81 ((rd_T31 l0 0).f1) x12_1).f1))) (fun _ hk => hk.2) (.int .i16 ((rd_T81 ((rd_T31 l0 0).f1) x12_1).f2))) (fun _ hk => trivial)⟩
                    have n1_ : Aside0 ((((w12.setCell ⟨gb235, 0, none⟩ (.int .i8 ((rd_T81 ((rd_T31 l0 0).f1) x12_1).f0))).setCell ⟨gb235, 1, none⟩ (.int .i16 ((rd_T81 ((rd_T31 l0 0).f1) x12_1).f1))).setCell ⟨gb235, 2, none⟩ (.int .i16 ((rd_T81 ((rd_T31 l0 0).f1) x12_1).f2))).heap[gb235]? = some (.cells #[.int .i8 ((rd_T81 ((rd_T31 l0 0).f1) x12_1).f0), .int .i16 ((rd_T81 ((rd_T31 l0 0).f1) x12_1).f1), .int .i16 ((rd_T81 ((rd_T31 l0 0).f1) x12_1).f2)] 81 (0, 0))) := ⟨by (with_reducible repeat (first | refine blk_drewN ?_ _ | refine blk_drew ?_ | refine blk_alloc ?_ _)); refine blk_put (cs := #[.int .i8 ((rd_T81 ((rd_T31 l0 0).f1) x12_1).f0), .int .i16 ((rd_T81 ((rd_T31 l0 0).f1) x12_1).f1), .int .i16 0]) ?_ 2 _ rfl; (with_reducible repeat (first | refine blk_drewN ?_ _ | refine blk_drew ?_ | refine blk_alloc ?_ _)); refine blk_put (cs := #[.int .i8 ((rd_T81 ((rd_T31 l0 0).f1) x12_1).f0), .int .i16 0, .int .i16 0]) ?_ 1 _ rfl; (with_reducible repeat (first | refine blk_drewN ?_ _ | refine blk_drew ?_ | refine blk_alloc ?_ _)); refine blk_put (cs := #[.int .i8 0, .int .i16 0, .int .i16 0]) ?_ 0 _ rfl; (with_reducible repeat (first | refine blk_drewN ?_ _ | refine blk_drew ?_ | refine blk_alloc ?_ _)); exact BK235.out⟩
                    have n2_ : Aside0 (Below w.heap.size w (((w12.setCell ⟨gb235, 0, none⟩ (.int .i8 ((rd_T81 ((rd_T31 l0 0).f1) x12_1).f0))).setCell ⟨gb235, 1, none⟩ (.int .i16 ((rd_T81 ((rd_T31 l0 0).f1) x12_1).f1))).setCell ⟨gb235, 2, none⟩ (.int .i16 ((rd_T81 ((rd_T31 l0 0).f1) x12_1).f2)))) := ⟨by repeat (first | (with_reducible first | exact HB.out | apply below_alloc | apply pw_below_drewN | apply below_drew1 | refine below_set ?_ GE235.out) | exact HB.out)⟩
                    (try clear HO_3)
                    (try clear BK235)
                    (try clear HB)
                    generalize (((w12.setCell ⟨gb235, 0, none⟩ (.int .i8 ((rd_T81 ((rd_T31 l0 0).f1) x12_1).f0))).setCell ⟨gb235, 1, none⟩ (.int .i16 ((rd_T81 ((rd_T31 l0 0).f1) x12_1).f1))).setCell ⟨gb235, 2, none⟩ (.int .i16 ((rd_T81 ((rd_T31 l0 0).f1) x12_1).f2))) = w14 at n0_ n1_ n2_ ⊢
                    have HO_3 := n0_
                    have BK235 := n1_
                    have HB := n2_
                    clear n0_ n1_ n2_
                    have n0_ := Aside0.mk (Kd.R_drew HO_3.out)
                    have n1_ := Aside0.mk (blk_drew BK235.out)
                    have n2_ := Aside0.mk (below_drew1 HB.out)
                    clear HO_3
                    clear BK235
                    clear HB
                    have HO_3 := n0_
                    have BK235 := n1_
                    have HB := n2_
                    clear n0_ n1_ n2_
                    have p236 : 0 ≤ (0 : Int) := (by omega)
                    have q236 : 0 < (l0.length : Int) := of_decide_eq_true (by first | (with_reducible assumption) | assumption)
                    obtain ⟨ad236, A236_1, c236_1, A236_2, c236_2, e236, hx236_0, hx236_1, hx236_2, hl236_1, hi236_1, hl236_2, hi236_2⟩ := at_T31 HR0.out 0 p236 q236
                    have hw236_2 := hx236_2
                    (try rw [show ((0 : Int)).toNat = 0 from rfl] at hw236_2)
                    (try rw [show 0 * 3 = 0 from rfl] at hw236_2)
                    (try rw [Addr.add_zero'] at hw236_2)
                    have hw236_1 := hx236_1
                    (try rw [show ((0 : Int)).toNat = 0 from rfl] at hw236_1)
                    (try rw [show 0 * 3 = 0 from rfl] at hw236_1)
                    (try rw [Addr.add_zero'] at hw236_1)
                    have hw236_0 := hx236_0
                    (try rw [show ((0 : Int)).toNat = 0 from rfl] at hw236_0)
                    (try rw [show 0 * 3 = 0 from rfl] at hw236_0)
                    (try rw [Addr.add_zero'] at hw236_0)
                    obtain rfl : adp0 = ad236 := (by injection e236)
                    have qi236 : (0 < l0.length) = True := eq_true (by omega)
                    (try rw [show ((0 : Int)).toNat = 0 from rfl] at hx236_0)
                    (try rw [show 0 * 3 = 0 from rfl] at hx236_0)
                    (try rw [Addr.add_zero'] at hx236_0)
                    (try rw [show ((0 : Int)).toNat = 0 from rfl] at hx236_1)
                    (try rw [show 0 * 3 = 0 from rfl] at hx236_1)
                    (try rw [Addr.add_zero'] at hx236_1)
                    (try rw [show ((0 : Int)).toNat = 0 from rfl] at hx236_2)
                    (try rw [show 0 * 3 = 0 from rfl] at hx236_2)
                    (try rw [Addr.add_zero'] at hx236_2)
                    replace hx236_0 := (HB.out.cell (World.block_lt_of_cell? w _ hx236_0)).trans hx236_0
                    replace hx236_1 := (HB.out.cell (World.block_lt_of_cell? w _ hx236_1)).trans hx236_1
                    replace hx236_2 := (HB.out.cell (World.block_lt_of_cell? w _ hx236_2)).trans hx236_2
                    have HR236_1 := Aside0.mk hi236_1
                    have HC236_1 := Aside0.mk hl236_1
                    clear hi236_1 hl236_1
                    have HR236_2 := Aside0.mk hi236_2
                    have HC236_2 := Aside0.mk hl236_2
                    clear hi236_2 hl236_2
                    replace p236 := eq_true p236
                    replace q236 := eq_true q236
                    refine start_ (n := 13) (S := fun w' => w'.cell? ⟨gb235, 0, none⟩ = some (.int .i8 ((rd_T81 ((rd_T31 l0 0).f1) x12_1).f0)) ∧ w'.cell? ⟨gb235, 1, none⟩ = some (.int .i16 ((rd_T81 ((rd_T31 l0 0).f1) x12_1).f1)) ∧ w'.cell? ⟨gb235, 2, none⟩ = some (.int .i16 ((rd_T81 ((rd_T31 l0 0).f1) x12_1).f2)) ∧ w'.cell? adp0 = some (.int .i8 ((rd_T31 l0 0).f0)) ∧ w'.cell? ⟨adp0.block, adp0.off + 1, none⟩ = some (.slice A236_1 ((rd_T31 l0 0).f1).length c236_1) ∧ w'.cell? ⟨adp0.block, adp0.off + 2, none⟩ = some (.slice A236_2 ((rd_T31 l0 0).f2).length c236_2)) (ds := []) #[false, false, false, false, false, false, false, false, false, false, false, false, false] (by kernel_rfl) rfl rfl ⟨(blk_cell BK235.out 0).trans rfl, (blk_cell BK235.out 1).trans rfl, (blk_cell BK235.out 2).trans rfl, ((HB.out.cell (World.block_lt_of_cell? w _ hw236_0)).trans hw236_0), ((HB.out.cell (World.block_lt_of_cell? w _ hw236_1)).trans hw236_1), ((HB.out.cell (World.block_lt_of_cell? w _ hw236_2)).trans hw236_2)⟩ (fun hHeld => ?_); refine with_tabW impl_Network_tables.tab8 impl_Network_tables.bits8 (fun HT_ HW_ => ?_)
                    generalize w14.drew = w15 at HO_3 BK235 HB HR236_1 HR236_2 hx236_0 hx236_1 hx236_2 hHeld ⊢
                    refine pure_ (i := 0) (N := some 34) (v := ?_) (a' := ?_) #[true, false, false, false, false, false, false, false, false, false, false, false, false] rfl rfl (any_of HT_.out (by kernel_rfl)) (fun _ _ _ h => h) (Or.inl ⟨by rfl, ?_⟩) ?_ ?_
                    rotate_left
                    · intro w'
                      go_simp
                      with_reducible rfl
                    rotate_left
                    · simp only [Act.put, List.setIfInBounds_toArray, List.set_cons_zero, List.set_cons_succ, i64_w, i32_w]
                      rfl
                    refine pure_ (i := 1) (N := some 35) (v := ?_) (a' := ?_) #[true, true, false, false, false, false, false, false, false, false, false, false, false] rfl rfl (any_of HT_.out (by kernel_rfl)) (fun _ _ _ h => h) (Or.inl ⟨by rfl, ?_⟩) ?_ ?_
                    rotate_left
                    · intro w'
                      go_simp
                      with_reducible rfl
                    rotate_left
                    · simp only [Act.put, List.setIfInBounds_toArray, List.set_cons_zero, List.set_cons_succ, i64_w, i32_w]
                      rfl
                    refine pure_ (i := 2) (N := some 36) (v := ?_) (a' := ?_) #[true, true, true, false, false, false, false, false, false, false, false, false, false] rfl rfl (any_of HT_.out (by kernel_rfl)) (fun _ _ _ h => h) (Or.inl ⟨by rfl, ?_⟩) ?_ ?_
                    rotate_left
                    · intro w'
                      go_simp
                      with_reducible rfl
                    rotate_left
                    · simp only [Act.put, List.setIfInBounds_toArray, List.set_cons_zero, List.set_cons_succ, i64_w, i32_w]
                      rfl
                    refine pure_ (i := 3) (N := some 37) (v := ?_) (a' := ?_) #[true, true, true, true, false, false, false, false, false, false, false, false, false] rfl rfl (any_of HT_.out (by kernel_rfl)) (fun _ _ _ h => h) (Or.inl ⟨by rfl, ?_⟩) ?_ ?_
                    rotate_left
                    · intro w'
                      go_simp
                      with_reducible rfl
                    rotate_left
                    · simp only [Act.put, List.setIfInBounds_toArray, List.set_cons_zero, List.set_cons_succ, i64_w, i32_w]
                      rfl
                    refine pure_ (i := 6) (N := some 40) (v := ?_) (a' := ?_) #[true, true, true, true, false, false, true, false, false, false, false, false, false] rfl rfl (any_of HT_.out (by kernel_rfl)) (fun _ _ _ h => h) (Or.inl ⟨by rfl, ?_⟩) ?_ ?_
                    rotate_left
                    · intro w'
                      go_simp
                      with_reducible rfl
                    rotate_left
                    · simp only [Act.put, List.setIfInBounds_toArray, List.set_cons_zero, List.set_cons_succ, i64_w, i32_w]
                      rfl
                    refine take_ (i := 4) (N := some 38) (v := ?_) (a' := ?_) #[true, true, true, true, true, false, true, false, false, false, false, false, false] rfl rfl (take_ofW HT_.out HW_.out (by kernel_rfl)) (fun _ _ _ h => h) (Or.inl ⟨by rfl, ?_⟩) hHeld ?_ ?_
                    rotate_left
                    · rintro w' ⟨s0, s1, s2, s3, s4, s5⟩
                      go_simp
                      with_reducible rfl
                    rotate_left
                    · simp only [Act.put, List.setIfInBounds_toArray, List.set_cons_zero, List.set_cons_succ, i64_w, i32_w]
                      rfl
                    refine pure_ (i := 5) (N := some 39) (v := ?_) (a' := ?_) #[true, true, true, true, true, true, true, false, false, false, false, false, false] rfl rfl (any_of HT_.out (by kernel_rfl)) (fun _ _ _ h => h) (Or.inl ⟨by rfl, ?_⟩) ?_ ?_
                    rotate_left
                    · intro w'
                      go_simp
                      with_reducible rfl
                    rotate_left
                    · simp only [Act.put, List.setIfInBounds_toArray, List.set_cons_zero, List.set_cons_succ, i64_w, i32_w]
                      rfl
                    refine take_ (i := 7) (N := some 41) (v := ?_) (a' := ?_) #[true, true, true, true, true, true, true, true, false, false, false, false, false] rfl rfl (take_ofW HT_.out HW_.out (by kernel_rfl)) (fun _ _ _ h => h) (Or.inl ⟨by rfl, ?_⟩) hHeld ?_ ?_
                    rotate_left
                    · rintro w' ⟨s0, s1, s2, s3, s4, s5⟩
                      go_simp
                      with_reducible rfl
                    rotate_left
                    · simp only [Act.put, List.setIfInBounds_toArray, List.set_cons_zero, List.set_cons_succ, i64_w, i32_w]
                      rfl
                    refine pure_ (i := 8) (N := some 42) (v := ?_) (a' := ?_) #[true, true, true, true, true, true, true, true, true, false, false, false, false] rfl rfl (any_of HT_.out (by kernel_rfl)) (fun _ _ _ h => h) (Or.inl ⟨by rfl, ?_⟩) ?_ ?_
                    rotate_left
                    · intro w'
                      go_simp
                      with_reducible rfl
                    rotate_left
                    · simp only [Act.put, List.setIfInBounds_toArray, List.set_cons_zero, List.set_cons_succ, i64_w, i32_w]
                      rfl
                    refine one_ (i := 9) (N := some 43) #[true, true, true, true, true, true, true, true, true, true, false, false, false] rfl rfl (one_of HT_.out (by kernel_rfl)) (by decide) (fun K hK => ?_)
                    refine goes_ Try.func130 (by kernel_rfl) rfl #[.int .i64 (wrap64 ((rd_T31 l0 0).f0)), .int .i64 (wrap64 ((rd_T81 ((rd_T31 l0 0).f1) x12_1).f1))] (by rfl) rfl rfl (by (try simp only [List.map_toArray, List.map_cons, List.map_nil]); first | done | rfl | (simp only [List.length_drop, List.length_take]; rfl)) ?_
                    with_reducible refine (impl_inputTable.calls k1 (wrap64 ((rd_T31 l0 0).f0)) (wrap64 ((rd_T81 ((rd_T31 l0 0).f1) x12_1).f1)) t237 _ A10.out).mono ?_
                    rintro e w' ⟨rfl, ⟨nd, rfl⟩⟩
                    refine ⟨_, rfl, ?_⟩
                    refine hK.out _ _ ⟨(blk_cell BK235.out 0).trans rfl, (blk_cell BK235.out 1).trans rfl, (blk_cell BK235.out 2).trans rfl, ((HB.out.cell (World.block_lt_of_cell? w _ hw236_0)).trans hw236_0), ((HB.out.cell (World.block_lt_of_cell? w _ hw236_1)).trans hw236_1), ((HB.out.cell (World.block_lt_of_cell? w _ hw236_2)).trans hw236_2)⟩ (fun hHeld => ?_)
                    clear hK K
                    refine norm_ (a' := ?_) ?_ ?_
                    rotate_left
                    · show Act.put _ (some 43) _ = _
                      simp only [Act.put, List.setIfInBounds_toArray, List.set_cons_zero, List.set_cons_succ, i64_w, i32_w]
                      rfl
                    refine one_ (i := 10) (N := some 44) #[true, true, true, true, true, true, true, true, true, true, true, false, false] rfl rfl (one_of HT_.out (by kernel_rfl)) (by decide) (fun K hK => ?_)
                    refine value_ (w1 := ?_) (v := ?_) (by rfl) rfl ?_ ?_
                    rotate_left 2
                    · go_simp
                      constructor
                      · rfl
                      · rfl
                    refine hK.out _ _ ⟨(blk_cell (blk_alloc BK235.out _) 0).trans rfl, (blk_cell (blk_alloc BK235.out _) 1).trans rfl, (blk_cell (blk_alloc BK235.out _) 2).trans rfl, (World.cell?_alloc_lt _ _ _ (World.block_lt_of_cell? _ _ (((HB.out.cell (World.block_lt_of_cell? w _ hw236_0)).trans hw236_0)))).trans (((HB.out.cell (World.block_lt_of_cell? w _ hw236_0)).trans hw236_0)), (World.cell?_alloc_lt _ _ _ (World.block_lt_of_cell? _ _ (((HB.out.cell (World.block_lt_of_cell? w _ hw236_1)).trans hw236_1)))).trans (((HB.out.cell (World.block_lt_of_cell? w _ hw236_1)).trans hw236_1)), (World.cell?_alloc_lt _ _ _ (World.block_lt_of_cell? _ _ (((HB.out.cell (World.block_lt_of_cell? w _ hw236_2)).trans hw236_2)))).trans (((HB.out.cell (World.block_lt_of_cell? w _ hw236_2)).trans hw236_2))⟩ (fun hHeld => ?_)
                    clear hK K
                    refine norm_ (a' := ?_) ?_ ?_
                    rotate_left
                    · show Act.put _ (some 44) _ = _
                      simp only [Act.put, List.setIfInBounds_toArray, List.set_cons_zero, List.set_cons_succ, i64_w, i32_w]
                      rfl
                    refine one_ (i := 11) (N := some 45) #[true, true, true, true, true, true, true, true, true, true, true, true, false] rfl rfl (one_of HT_.out (by kernel_rfl)) (by decide) (fun K hK => ?_)
                    refine Kd.R_append_step (Kd.int .u64) (w0 := w) w.heap.size (by rfl) (.tmp 34) (.tmp 44) 53 98 (.int .u64 0) 8 rfl Try.underlying53 info98 rfl (by decide) (by omega) u3 x3_1 t237 [.int .u64 t237] (fun _ => True) (fun _ => False) rfl rfl ?aP (fun _ hk => hk.elim) ?aF ?aO ?aB ?aS ?aL ?_
                    (case aP => exact rfl)
                    (case aB => exact (by repeat (first | (with_reducible first | exact HB.out | apply below_alloc | apply pw_below_drewN | apply below_drew1 | refine below_set ?_ GE235.out) | exact HB.out)))
                    (case aF => exact (fun _ _ => trivial))
                    (case aO => exact (by (with_reducible repeat (first | apply Kd.R_alloc | apply Kd.R_drewN | apply Kd.R_drew)); exact HO_3.out))
                    (case aS => exact (below_size (by repeat (first | (with_reducible first | exact HB.out | apply below_alloc | apply pw_below_drewN | apply below_drew1 | refine below_set ?_ GE235.out) | exact HB.out))))
                    (case aL => have := LMc11.out; omega)
                    intro v239 w16 ho hb hg hat
                    rw [← Ny238.out] at ho
                    have n0_ := Aside0.mk (blk_grown (g := gb235) (o := .cells #[.int .i8 ((rd_T81 ((rd_T31 l0 0).f1) x12_1).f0), .int .i16 ((rd_T81 ((rd_T31 l0 0).f1) x12_1).f1), .int .i16 ((rd_T81 ((rd_T31 l0 0).f1) x12_1).f2)] 81 (0, 0)) (by (with_reducible repeat (first | refine blk_drewN ?_ _ | refine blk_drew ?_ | refine blk_alloc ?_ _)); exact BK235.out) hg (Kd.R_ne HO_3.out BK235.out (by decide)))
                    have n1_ := Aside0.mk (hb)
                    have n2_ := Aside0.mk (ho)
                    clear BK235
                    clear HB
                    clear HO_3
                    have BK235 := n0_
                    have HB := n1_
                    have HO240 := n2_
                    clear n0_ n1_ n2_
                    clear ho hb hg hat
                    refine hK.out _ _ ⟨(blk_cell BK235.out 0).trans rfl, (blk_cell BK235.out 1).trans rfl, (blk_cell BK235.out 2).trans rfl, ((HB.out.cell (World.block_lt_of_cell? w _ hw236_0)).trans hw236_0), ((HB.out.cell (World.block_lt_of_cell? w _ hw236_1)).trans hw236_1), ((HB.out.cell (World.block_lt_of_cell? w _ hw236_2)).trans hw236_2)⟩ (fun hHeld => ?_)
                    clear hK K
                    refine norm_ (a' := ?_) ?_ ?_
                    rotate_left
                    · show Act.put _ (some 45) _ = _
                      simp only [Act.put, List.setIfInBounds_toArray, List.set_cons_zero, List.set_cons_succ, i64_w, i32_w]
                      rfl
                    refine pure_ (i := 12) (N := some 3) (v := ?_) (a' := ?_) #[true, true, true, true, true, true, true, true, true, true, true, true, true] rfl rfl (any_of HT_.out (by kernel_rfl)) (fun _ _ _ h => h) (Or.inl ⟨by rfl, ?_⟩) ?_ ?_
                    rotate_left
                    · intro w'
                      go_simp
                      with_reducible rfl
                    rotate_left
                    · simp only [Act.put, List.setIfInBounds_toArray, List.set_cons_zero, List.set_cons_succ, i64_w, i32_w]
                      rfl
                    refine done_ (done_of HT_.out (by kernel_rfl)) ?_
                    try go_wp2
                    go_roundg k1
                    case measure => have := HK1.out; omega
                    case rel => exact ⟨(y238), (wrap64 (x12_1 + 1)), (by first | rfl | (simp; done) | (simp [*]; done) | (exact congrArg (Value.int .i64) (wrap_eq (by omega)))), H', ⟨by have := HK1.out; omega⟩, ⟨by (with_reducible repeat (first | apply Kd.R_alloc | apply Kd.R_drewN | apply Kd.R_drew)); exact HO240.out⟩, ⟨by repeat (first | (with_reducible first | exact HB.out | apply below_alloc | apply pw_below_drewN | apply below_drew1 | refine below_set ?_ GE235.out) | exact HB.out)⟩⟩
                  · rw [if_neg c11] at H
                    exact absurd H (by simp)
                · rw [if_neg c9] at H
                  exact absurd H (by simp)
              · rw [if_neg c8] at H
                have c8b0 : (((rd_T81 ((rd_T31 l0 0).f1) x12_1).f0) == 0) = false := beq_eq_false_iff_ne.mpr c8
                have c8b1 : (((rd_T81 ((rd_T31 l0 0).f1) x12_1).f0) != 0) = true := bne_iff_ne.mpr c8
                by_cases c17 : ((rd_T81 ((rd_T31 l0 0).f1) x12_1).f0) = 1
                · rw [if_pos c17] at H
                  have c17b0 : (((rd_T81 ((rd_T31 l0 0).f1) x12_1).f0) == 1) = true := beq_iff_eq.mpr c17
                  have c17b1 : (((rd_T81 ((rd_T31 l0 0).f1) x12_1).f0) != 1) = false := bne_eq_false_iff_eq.mpr c17
                  clear c17
                  by_cases c18 : 0 < (l0.length : Int)
                  · rw [if_pos c18] at H
                    have c18b0 : decide (0 < (l0.length : Int)) = true := decide_eq_true c18
                    have c18b1 : decide (0 < l0.length) = true := decide_eq_true (by omega)
                    clear c18
                    replace H := Option.bind_eq_some_iff.mp H
                    obtain ⟨t242, A190, H⟩ := H
                    replace H : (if x3_1.length < 17592186044416 then (impl_Network_tables.l0 k1 l0 (x3_1 ++ [t242]) ((rd_T31 l0 0).f1) (((rd_T31 l0 0).f1).length : Int) (wrap64 (x12_1 + 1))) else (none)) = some r := H
                    have A19 := Aside0.mk A190
                    clear A190
                    by_cases c20 : x3_1.length < 17592186044416
                    · rw [if_pos c20] at H
                      have LMc20 := Aside0.mk c20
                      clear c20
                      obtain ⟨y243, hy243⟩ : ∃ y_ : List Int, y_ = (x3_1 ++ [t242]) := ⟨_, rfl⟩
                      replace H : (impl_Network_tables.l0 k1 l0 y243 ((rd_T31 l0 0).f1) (((rd_T31 l0 0).f1).length : Int) (wrap64 (x12_1 + 1))) = some r := by first | (rw [hy243]; with_reducible exact H) | (have H2_ := (Option.bind_some _ _).symm.trans H; rw [hy243]; with_reducible exact H2_) | (have H2_ := (Option.bind_some _ _).symm.trans H; with_reducible exact H2_) | with_reducible exact H | (rw [hy243]; exact H) | exact H
                      have Ny243 := Aside0.mk hy243
                      clear hy243
                      have H' := Aside0.mk H
                      clear H
                      have p234 : 0 ≤ (x12_1 : Int) := of_decide_eq_true (by first | (with_reducible assumption) | assumption)
                      have q234 : x12_1 < (((rd_T31 l0 0).f1).length : Int) := of_decide_eq_true (by first | (with_reducible assumption) | assumption)
                      obtain ⟨ad234, e234, hx234_0, hx234_1, hx234_2⟩ := at_T81 HR233_1.out x12_1 p234 q234
                      cases e234
                      replace hx234_0 := (HB.out.cell (World.block_lt_of_cell? w _ hx234_0)).trans hx234_0
                      replace hx234_1 := (HB.out.cell (World.block_lt_of_cell? w _ hx234_1)).trans hx234_1
                      replace hx234_2 := (HB.out.cell (World.block_lt_of_cell? w _ hx234_2)).trans hx234_2
                      replace p234 := eq_true p234
                      replace q234 := eq_true q234
                      go_wp2_with (first | ((with_reducible refine gate_dst (N := 5) rfl ?_); refine box_event ?hg (N := 5) ?hd (cs := #[.int .i8 0, .int .i16 0, .int .i16 0]) (t := 81) ?hr ?_; (case hd => rfl); (case hg => rfl); (case hr => first | (go_simp; done) | (go_simp; rfl)); intro gb235 hg w21 hbox hb; have n0_ := Aside0.mk (Kd.R_below (by (with_reducible repeat (first | apply Kd.R_alloc | apply Kd.R_drewN | apply Kd.R_drew)); exact HO_3.out) hb); have n1_ := Aside0.mk (below_step (by repeat (first | (with_reducible first | exact HB.out | apply below_alloc | apply pw_below_drewN | apply below_drew1) | exact HB.out)) hb); have n2_ := Aside0.mk (hbox); have n3_ := Aside0.mk ((by rw [hg]; exact (below_size (by repeat (first | (with_reducible first | exact HB.out | apply below_alloc | apply pw_below_drewN | apply below_drew1) | exact HB.out))) : w.heap.size ≤ gb235)); have n4_ := Aside0.mk ((by rw [hg]; exact (below_size (by repeat (first | (with_reducible first | exact HB.out | apply below_alloc | apply pw_below_drewN | apply below_drew1) | exact HB.out))) : w.heap.size ≤ gb235)); clear HO_3; clear HB; have HO_3 := n0_; have HB := n1_; have BK235 := n2_; have GW235 := n3_; have GE235 := n4_; clear n0_ n1_ n2_ n3_ n4_; clear hb hbox hg; have hcz22_0 : w21.cell? ⟨gb235, 0, none⟩ = some (.int .i8 0) := (blk_cell BK235.out 0).trans rfl; have hcz22_1 : w21.cell? ⟨gb235, 1, none⟩ = some (.int .i16 0) := (blk_cell BK235.out 1).trans rfl; have hcz22_2 : w21.cell? ⟨gb235, 2, none⟩ = some (.int .i16 0) := (blk_cell BK235.out 2).trans rfl; have hfz22_0 := blk_frozen BK235.out 0; have hfz22_1 := blk_frozen BK235.out 1; have hfz22_2 := blk_frozen BK235.out 2; have p241 : 0 ≤ (0 : Int) := (by omega); have q241 : 0 < (l0.length : Int) := of_decide_eq_true (by first | (with_reducible assumption) | assumption); obtain ⟨ad241, A241_1, c241_1, A241_2, c241_2, e241, hx241_0, hx241_1, hx241_2, hl241_1, hi241_1, hl241_2, hi241_2⟩ := at_T31 HR0.out 0 p241 q241; obtain rfl : adp0 = ad241 := (by injection e241); have qi241 : (0 < l0.length) = True := eq_true (by omega); (try rw [show ((0 : Int)).toNat = 0 from rfl] at hx241_0); (try rw [show 0 * 3 = 0 from rfl] at hx241_0); (try rw [Addr.add_zero'] at hx241_0); (try rw [show ((0 : Int)).toNat = 0 from rfl] at hx241_1); (try rw [show 0 * 3 = 0 from rfl] at hx241_1); (try rw [Addr.add_zero'] at hx241_1); (try rw [show ((0 : Int)).toNat = 0 from rfl] at hx241_2); (try rw [show 0 * 3 = 0 from rfl] at hx241_2); (try rw [Addr.add_zero'] at hx241_2); have hn241_0 : adp0.block ≠ gb235 := Nat.ne_of_lt (Nat.lt_of_lt_of_le (by have := World.block_lt_of_cell? _ _ hx241_0; first | rwa [add_block] at this | exact this) GW235.out); have hn241_1 : adp0.block ≠ gb235 := Nat.ne_of_lt (Nat.lt_of_lt_of_le (by have := World.block_lt_of_cell? _ _ hx241_0; first | rwa [add_block] at this | exact this) GW235.out); have hn241_2 : adp0.block ≠ gb235 := Nat.ne_of_lt (Nat.lt_of_lt_of_le (by have := World.block_lt_of_cell? _ _ hx241_0; first | rwa [add_block] at this | exact this) GW235.out); replace hx241_0 := (HB.out.cell (World.block_lt_of_cell? w _ hx241_0)).trans hx241_0; replace hx241_1 := (HB.out.cell (World.block_lt_of_cell? w _ hx241_1)).trans hx241_1; replace hx241_2 := (HB.out.cell (World.block_lt_of_cell? w _ hx241_2)).trans hx241_2; have HR241_1 := Aside0.mk hi241_1; have HC241_1 := Aside0.mk hl241_1; clear hi241_1 hl241_1; have HR241_2 := Aside0.mk hi241_2; have HC241_2 := Aside0.mk hl241_2; clear hi241_2 hl241_2; replace hx241_0 := (cell_far (p := ⟨gb235, 0, none⟩) (by first | (rw [add_block]; exact hn241_0) | (show (Addr.add _ _).block ≠ _; rw [add_block]; exact hn241_0) | exact hn241_0) (.int .i8 ((rd_T81 ((rd_T31 l0 0).f1) x12_1).f0))).trans hx241_0; replace hx241_1 := (cell_far (p := ⟨gb235, 0, none⟩) (by first | (rw [add_block]; exact hn241_0) | (show (Addr.add _ _).block ≠ _; rw [add_block]; exact hn241_0) | exact hn241_0) (.int .i8 ((rd_T81 ((rd_T31 l0 0).f1) x12_1).f0))).trans hx241_1; replace hx241_2 := (cell_far (p := ⟨gb235, 0, none⟩) (by first | (rw [add_block]; exact hn241_0) | (show (Addr.add _ _).block ≠ _; rw [add_block]; exact hn241_0) | exact hn241_0) (.int .i8 ((rd_T81 ((rd_T31 l0 0).f1) x12_1).f0))).trans hx241_2; replace hx241_0 := (cell_far (p := ⟨gb235, 1, none⟩) (by first | (rw [add_block]; exact hn241_1) | (show (Addr.add _ _).block ≠ _; rw [add_block]; exact hn241_1) | exact hn241_1) (.int .i16 ((rd_T81 ((rd_T31 l0 0).f1) x12_1).f1))).trans hx241_0; replace hx241_1 := (cell_far (p := ⟨gb235, 1, none⟩) (by first | (rw [add_block]; exact hn241_1) | (show (Addr.add _ _).block ≠ _; rw [add_block]; exact hn241_1) | exact hn241_1) (.int .i16 ((rd_T81 ((rd_T31 l0 0).f1) x12_1).f1))).trans hx241_1; replace hx241_2 := (cell_far (p := ⟨gb235, 1, none⟩) (by first | (rw [add_block]; exact hn241_1) | (show (Addr.add _ _).block ≠ _; rw [add_block]; exact hn241_1) | exact hn241_1) (.int .i16 ((rd_T81 ((rd_T31 l0 0).f1) x12_1).f1))).trans hx241_2; replace hx241_0 := (cell_far (p := ⟨gb235, 2, none⟩) (by first | (rw [add_block]; exact hn241_2) | (show (Addr.add _ _).block ≠ _; rw [add_block]; exact hn241_2) | exact hn241_2) (.int .i16 ((rd_T81 ((rd_T31 l0 0).f1) x12_1).f2))).trans hx241_0; replace hx241_1 := (cell_far (p := ⟨gb235, 2, none⟩) (by first | (rw [add_block]; exact hn241_2) | (show (Addr.add _ _).block ≠ _; rw [add_block]; exact hn241_2) | exact hn241_2) (.int .i16 ((rd_T81 ((rd_T31 l0 0).f1) x12_1).f2))).trans hx241_1; replace hx241_2 := (cell_far (p := ⟨gb235, 2, none⟩) (by first | (rw [add_block]; exact hn241_2) | (show (Addr.add _ _).block ≠ _; rw [add_block]; exact hn241_2) | exact hn241_2) (.int .i16 ((rd_T81 ((rd_T31 l0 0).f1) x12_1).f2))).trans hx241_2; clear hn241_0; clear hn241_1; clear hn241_2; replace p241 := eq_true p241; replace q241 := eq_true q241) | ((with_reducible refine gate_callee (f := 131) rfl ?_); refine goesL_ (some 54) rfl rfl Try.func131 (by kernel_rfl) rfl #[.int .i64 (wrap64 ((rd_T31 l0 0).f0))] rfl (by (try simp only [List.map_toArray, List.map_cons, List.map_nil]); first | done | rfl | (simp only [List.length_drop, List.length_take]; rfl)) ?_; (with_reducible refine (impl_full.calls (wrap64 ((rd_T31 l0 0).f0)) t242 _ A19.out).mono ?_); rintro e w' ⟨rfl, ⟨nd, rfl⟩⟩; refine ⟨_, rfl, ?_⟩) | ((with_reducible refine gate_builtin (b := .append) (xs := #[.tmp 48, .tmp 55]) rfl ?_); at_builtin; refine Kd.R_append (Kd.int .u64) (w0 := w) w.heap.size rfl (.tmp 48) (.tmp 55) 53 98 (.int .u64 0) 8 rfl Try.underlying53 info98 rfl (by decide) (by omega) u3 x3_1 t242 [.int .u64 t242] (fun _ => True) (fun _ => False) rfl (by first | (go_simp; done) | (go_simp; rfl)) ?aP (fun _ hk => hk.elim) ?aF ?aO ?aB ?aS ?aL ?_; (case aP => exact rfl); (case aB => exact (by repeat (first | (with_reducible first | exact HB.out | apply below_alloc | apply pw_below_drewN | apply below_drew1 | refine below_set ?_ GE235.out) | exact HB.out))); (case aF => exact (fun _ _ => trivial)); (case aO => exact (by (with_reducible repeat (first | apply Kd.R_alloc | apply Kd.R_drewN | apply Kd.R_drew)); exact Kd.R_mono (Kd.R_far (p := ⟨gb235, 2, none⟩) (Kd.R_far (p := ⟨gb235, 1, none⟩) (Kd.R_far (p := ⟨gb235, 0, none⟩) (Kd.R_types HO_3.out BK235.out (by decide)) (fun _ hk => hk.2) (.int .i8 ((rd_T81 ((rd_T31 l0 0).f1) x12_1).f0))) (fun _ hk => hk.2) (.int .i16 ((rd_T81 ((rd_T31 l0 0).f1) x12_1).f1))) (fun _ hk => hk.2) (.int .i16 ((rd_T81 ((rd_T31 l0 0).f1) x12_1).f2))) (fun _ hk => trivial))); (case aS => exact (below_size (by repeat (first | (with_reducible first | exact HB.out | apply below_alloc | apply pw_below_drewN | apply below_drew1 | refine below_set ?_ GE235.out) | exact HB.out)))); (case aL => have := LMc20.out; omega); intro v244 w23 ho hb hg hat; rw [← Ny243.out] at ho; have n0_ := Aside0.mk (blk_grown (g := gb235) (o := .cells #[.int .i8 ((rd_T81 ((rd_T31 l0 0).f1) x12_1).f0), .int .i16 ((rd_T81 ((rd_T31 l0 0).f1) x12_1).f1), .int .i16 ((rd_T81 ((rd_T31 l0 0).f1) x12_1).f2)] 81 (0, 0)) (by (with_reducible repeat (first | refine blk_drewN ?_ _ | refine blk_drew ?_ | refine blk_alloc ?_ _)); refine blk_put (cs := #[.int .i8 ((rd_T81 ((rd_T31 l0 0).f1) x12_1).f0), .int .i16 ((rd_T81 ((rd_T31 l0 0).f1) x12_1).f1), .int .i16 0]) ?_ 2 _ rfl; (with_reducible repeat (first | refine blk_drewN ?_ _ | refine blk_drew ?_ | refine blk_alloc ?_ _)); refine blk_put (cs := #[.int .i8 ((rd_T81 ((rd_T31 l0 0).f1) x12_1).f0), .int .i16 0, .int .i16 0]) ?_ 1 _ rfl; (with_reducible repeat (first | refine blk_drewN ?_ _ | refine blk_drew ?_ | refine blk_alloc ?_ _)); refine blk_put (cs := #[.int .i8 0, .int .i16 0, .int .i16 0]) ?_ 0 _ rfl; (with_reducible repeat (first | refine blk_drewN ?_ _ | refine blk_drew ?_ | refine blk_alloc ?_ _)); exact BK235.out) hg (Kd.R_ne HO_3.out BK235.out (by decide))); have n1_ := Aside0.mk (hb); have n2_ := Aside0.mk (ho); clear BK235; clear HB; clear HO_3; have BK235 := n0_; have HB := n1_; have HO245 := n2_; clear n0_ n1_ n2_; clear ho hb hg hat))
                      go_roundg k1
                      case measure => have := HK1.out; omega
                      case rel => exact ⟨(y243), (wrap64 (x12_1 + 1)), (by first | rfl | (simp; done) | (simp [*]; done) | (exact congrArg (Value.int .i64) (wrap_eq (by omega)))), H', ⟨by have := HK1.out; omega⟩, ⟨by (with_reducible repeat (first | apply Kd.R_alloc | apply Kd.R_drewN | apply Kd.R_drew)); exact HO245.out⟩, ⟨by repeat (first | (with_reducible first | exact HB.out | apply below_alloc | apply pw_below_drewN | apply below_drew1 | refine below_set ?_ GE235.out) | exact HB.out)⟩⟩
                    · rw [if_neg c20] at H
                      exact absurd H (by simp)
                  · rw [if_neg c18] at H
                    exact absurd H (by simp)
                · rw [if_neg c17] at H
                  have c17b0 : (((rd_T81 ((rd_T31 l0 0).f1) x12_1).f0) == 1) = false := beq_eq_false_iff_ne.mpr c17
                  have c17b1 : (((rd_T81 ((rd_T31 l0 0).f1) x12_1).f0) != 1) = true := bne_iff_ne.mpr c17
                  by_cases c24 : ((rd_T81 ((rd_T31 l0 0).f1) x12_1).f0) = 2
                  · rw [if_pos c24] at H
                    have c24b0 : (((rd_T81 ((rd_T31 l0 0).f1) x12_1).f0) == 2) = true := beq_iff_eq.mpr c24
                    have c24b1 : (((rd_T81 ((rd_T31 l0 0).f1) x12_1).f0) != 2) = false := bne_eq_false_iff_eq.mpr c24
                    clear c24
                    by_cases c25 : 0 ≤ ((rd_T81 ((rd_T31 l0 0).f1) x12_1).f1)
                    · rw [if_pos c25] at H
                      have c25b0 : decide (0 ≤ ((rd_T81 ((rd_T31 l0 0).f1) x12_1).f1)) = true := decide_eq_true c25
                      clear c25
                      by_cases c26 : ((rd_T81 ((rd_T31 l0 0).f1) x12_1).f1) < (x3_1.length : Int)
                      · rw [if_pos c26] at H
                        have c26b0 : decide (((rd_T81 ((rd_T31 l0 0).f1) x12_1).f1) < (x3_1.length : Int)) = true := decide_eq_true c26
                        clear c26
                        by_cases c27 : 0 ≤ ((rd_T81 ((rd_T31 l0 0).f1) x12_1).f2)
                        · rw [if_pos c27] at H
                          have c27b0 : decide (0 ≤ ((rd_T81 ((rd_T31 l0 0).f1) x12_1).f2)) = true := decide_eq_true c27
                          clear c27
                          by_cases c28 : ((rd_T81 ((rd_T31 l0 0).f1) x12_1).f2) < (x3_1.length : Int)
                          · rw [if_pos c28] at H
                            have c28b0 : decide (((rd_T81 ((rd_T31 l0 0).f1) x12_1).f2) < (x3_1.length : Int)) = true := decide_eq_true c28
                            clear c28
                            by_cases c29 : x3_1.length < 17592186044416
                            · rw [if_pos c29] at H
                              have LMc29 := Aside0.mk c29
                              clear c29
                              obtain ⟨y248, hy248⟩ : ∃ y_ : List Int, y_ = (x3_1 ++ [Go.bits .or .u64 (rd x3_1 ((rd_T81 ((rd_T31 l0 0).f1) x12_1).f1)) (rd x3_1 ((rd_T81 ((rd_T31 l0 0).f1) x12_1).f2))]) := ⟨_, rfl⟩
                              replace H : (impl_Network_tables.l0 k1 l0 y248 ((rd_T31 l0 0).f1) (((rd_T31 l0 0).f1).length : Int) (wrap64 (x12_1 + 1))) = some r := by first | (rw [hy248]; with_reducible exact H) | (have H2_ := (Option.bind_some _ _).symm.trans H; rw [hy248]; with_reducible exact H2_) | (have H2_ := (Option.bind_some _ _).symm.trans H; with_reducible exact H2_) | with_reducible exact H | (rw [hy248]; exact H) | exact H
                              have Ny248 := Aside0.mk hy248
                              clear hy248
                              have H' := Aside0.mk H
                              clear H
                              have p234 : 0 ≤ (x12_1 : Int) := of_decide_eq_true (by first | (with_reducible assumption) | assumption)
                              have q234 : x12_1 < (((rd_T31 l0 0).f1).length : Int) := of_decide_eq_true (by first | (with_reducible assumption) | assumption)
                              obtain ⟨ad234, e234, hx234_0, hx234_1, hx234_2⟩ := at_T81 HR233_1.out x12_1 p234 q234
                              cases e234
                              replace hx234_0 := (HB.out.cell (World.block_lt_of_cell? w _ hx234_0)).trans hx234_0
                              replace hx234_1 := (HB.out.cell (World.block_lt_of_cell? w _ hx234_1)).trans hx234_1
                              replace hx234_2 := (HB.out.cell (World.block_lt_of_cell? w _ hx234_2)).trans hx234_2
                              replace p234 := eq_true p234
                              replace q234 := eq_true q234
                              try go_wp2_with (first | ((with_reducible refine gate_dst (N := 5) rfl ?_); refine box_event ?hg (N := 5) ?hd (cs := #[.int .i8 0, .int .i16 0, .int .i16 0]) (t := 81) ?hr ?_; (case hd => rfl); (case hg => rfl); (case hr => first | (go_simp; done) | (go_simp; rfl)); intro gb235 hg w30 hbox hb; have n0_ := Aside0.mk (Kd.R_below (by (with_reducible repeat (first | apply Kd.R_alloc | apply Kd.R_drewN | apply Kd.R_drew)); exact HO_3.out) hb); have n1_ := Aside0.mk (below_step (by repeat (first | (with_reducible first | exact HB.out | apply below_alloc | apply pw_below_drewN | apply below_drew1) | exact HB.out)) hb); have n2_ := Aside0.mk (hbox); have n3_ := Aside0.mk ((by rw [hg]; exact (below_size (by repeat (first | (with_reducible first | exact HB.out | apply below_alloc | apply pw_below_drewN | apply below_drew1) | exact HB.out))) : w.heap.size ≤ gb235)); have n4_ := Aside0.mk ((by rw [hg]; exact (below_size (by repeat (first | (with_reducible first | exact HB.out | apply below_alloc | apply pw_below_drewN | apply below_drew1) | exact HB.out))) : w.heap.size ≤ gb235)); clear HO_3; clear HB; have HO_3 := n0_; have HB := n1_; have BK235 := n2_; have GW235 := n3_; have GE235 := n4_; clear n0_ n1_ n2_ n3_ n4_; clear hb hbox hg; have hcz31_0 : w30.cell? ⟨gb235, 0, none⟩ = some (.int .i8 0) := (blk_cell BK235.out 0).trans rfl; have hcz31_1 : w30.cell? ⟨gb235, 1, none⟩ = some (.int .i16 0) := (blk_cell BK235.out 1).trans rfl; have hcz31_2 : w30.cell? ⟨gb235, 2, none⟩ = some (.int .i16 0) := (blk_cell BK235.out 2).trans rfl; have hfz31_0 := blk_frozen BK235.out 0; have hfz31_1 := blk_frozen BK235.out 1; have hfz31_2 := blk_frozen BK235.out 2))
                              have n0_ : Aside0 (Kd.R (Kd.int .u64) 98 (((w30.setCell ⟨gb235, 0, none⟩ (.int .i8 ((rd_T81 ((rd_T31 l0 0).f1) x12_1).f0))).setCell ⟨gb235, 1, none⟩ (.int .i16 ((rd_T81 ((rd_T31 l0 0).f1) x12_1).f1))).setCell ⟨gb235, 2, none⟩ (.int .i16 ((rd_T81 ((rd_T31 l0 0).f1) x12_1).f2))) w.heap.size (fun _ => True) u3 x3_1) := ⟨by (with_reducible repeat (first | apply Kd.R_alloc | apply Kd.R_drewN | apply Kd.R_drew)); exact Kd.R_mono (Kd.R_far (p := ⟨gb235, 2, none⟩) (Kd.R_far (p := ⟨gb235, 1, none⟩) (Kd.R_far (p := ⟨gb235, 0, none⟩) (Kd.R_types HO_3.out BK235.out (by decide)) (fun _ hk => hk.2) (.int .i8 ((rd_T81 ((rd_T31 l0 0).f1) x12_1).f0))) (fun _ hk => hk.2) (.int .i16 ((rd_T81 ((rd_T31 l0 0).f1) x12_1).f1))) (fun _ hk => hk.2) (.int .i16 ((rd_T81 ((rd_T31 l0 0).f1) x12_1).f2))) (fun _ hk => trivial)⟩
                              have n1_ : Aside0 ((((w30.setCell ⟨gb235, 0, none⟩ (.int .i8 ((rd_T81 ((rd_T31 l0 0).f1) x12_1).f0))).setCell ⟨gb235, 1, none⟩ (.int .i16 ((rd_T81 ((rd_T31 l0 0).f1) x12_1).f1))).setCell ⟨gb235, 2, none⟩ (.int .i16 ((rd_T81 ((rd_T31 l0 0).f1) x12_1).f2))).heap[gb235]? = some (.cells #[.int .i8 ((rd_T81 ((rd_T31 l0 0).f1) x12_1).f0), .int .i16 ((rd_T81 ((rd_T31 l0 0).f1) x12_1).f1), .int .i16 ((rd_T81 ((rd_T31 l0 0).f1) x12_1).f2)] 81 (0, 0))) := ⟨by (with_reducible repeat (first | refine blk_drewN ?_ _ | refine blk_drew ?_ | refine blk_alloc ?_ _)); refine blk_put (cs := #[.int .i8 ((rd_T81 ((rd_T31 l0 0).f1) x12_1).f0), .int .i16 ((rd_T81 ((rd_T31 l0 0).f1) x12_1).f1), .int .i16 0]) ?_ 2 _ rfl; (with_reducible repeat (first | refine blk_drewN ?_ _ | refine blk_drew ?_ | refine blk_alloc ?_ _)); refine blk_put (cs := #[.int .i8 ((rd_T81 ((rd_T31 l0 0).f1) x12_1).f0), .int .i16 0, .int .i16 0]) ?_ 1 _ rfl; (with_reducible repeat (first | refine blk_drewN ?_ _ | refine blk_drew ?_ | refine blk_alloc ?_ _)); refine blk_put (cs := #[.int .i8 0, .int .i16 0, .int .i16 0]) ?_ 0 _ rfl; (with_reducible repeat (first | refine blk_drewN ?_ _ | refine blk_drew ?_ | refine blk_alloc ?_ _)); exact BK235.out⟩
                              have n2_ : Aside0 (Below w.heap.size w (((w30.setCell ⟨gb235, 0, none⟩ (.int .i8 ((rd_T81 ((rd_T31 l0 0).f1) x12_1).f0))).setCell ⟨gb235, 1, none⟩ (.int .i16 ((rd_T81 ((rd_T31 l0 0).f1) x12_1).f1))).setCell ⟨gb235, 2, none⟩ (.int .i16 ((rd_T81 ((rd_T31 l0 0).f1) x12_1).f2)))) := ⟨by repeat (first | (with_reducible first | exact HB.out | apply below_alloc | apply pw_below_drewN | apply below_drew1 | refine below_set ?_ GE235.out) | exact HB.out)⟩
                              (try clear HO_3)
                              (try clear BK235)
                              (try clear HB)
                              generalize (((w30.setCell ⟨gb235, 0, none⟩ (.int .i8 ((rd_T81 ((rd_T31 l0 0).f1) x12_1).f0))).setCell ⟨gb235, 1, none⟩ (.int .i16 ((rd_T81 ((rd_T31 l0 0).f1) x12_1).f1))).setCell ⟨gb235, 2, none⟩ (.int .i16 ((rd_T81 ((rd_T31 l0 0).f1) x12_1).f2))) = w32 at n0_ n1_ n2_ ⊢
                              have HO_3 := n0_
                              have BK235 := n1_
                              have HB := n2_
                              clear n0_ n1_ n2_
                              have n0_ := Aside0.mk (Kd.R_drew HO_3.out)
                              have n1_ := Aside0.mk (blk_drew BK235.out)
                              have n2_ := Aside0.mk (below_drew1 HB.out)
                              clear HO_3
                              clear BK235
                              clear HB
                              have HO_3 := n0_
                              have BK235 := n1_
                              have HB := n2_
                              clear n0_ n1_ n2_
                              obtain ⟨Ao34, co34, eo34⟩ := Kd.R_slice HO_3.out
                              (first | subst eo34 | (injection eo34 with f1_ f2_ f3_; have f4_ := f1_.symm; have f5_ := f3_.symm; clear f1_ f2_ f3_; subst f4_; subst f5_))
                              have p246 : 0 ≤ (((rd_T81 ((rd_T31 l0 0).f1) x12_1).f1) : Int) := of_decide_eq_true (by first | (with_reducible assumption) | assumption)
                              have q246 : ((rd_T81 ((rd_T31 l0 0).f1) x12_1).f1) < (x3_1.length : Int) := of_decide_eq_true (by first | (with_reducible assumption) | assumption)
                              obtain ⟨ad246, e246, hx246_0⟩ := Kd.at_int (Kd.R_reads' HO_3.out).2.2 ((rd_T81 ((rd_T31 l0 0).f1) x12_1).f1) p246 q246
                              cases e246
                              replace p246 := eq_true p246
                              replace q246 := eq_true q246
                              have p247 : 0 ≤ (((rd_T81 ((rd_T31 l0 0).f1) x12_1).f2) : Int) := of_decide_eq_true (by first | (with_reducible assumption) | assumption)
                              have q247 : ((rd_T81 ((rd_T31 l0 0).f1) x12_1).f2) < (x3_1.length : Int) := of_decide_eq_true (by first | (with_reducible assumption) | assumption)
                              obtain ⟨ad247, e247, hx247_0⟩ := Kd.at_int (Kd.R_reads' HO_3.out).2.2 ((rd_T81 ((rd_T31 l0 0).f1) x12_1).f2) p247 q247
                              obtain rfl : ad246 = ad247 := (by injection e247)
                              replace p247 := eq_true p247
                              replace q247 := eq_true q247
                              refine start_ (n := 15) (S := fun w' => w'.cell? ⟨gb235, 0, none⟩ = some (.int .i8 ((rd_T81 ((rd_T31 l0 0).f1) x12_1).f0)) ∧ w'.cell? ⟨gb235, 1, none⟩ = some (.int .i16 ((rd_T81 ((rd_T31 l0 0).f1) x12_1).f1)) ∧ w'.cell? ⟨gb235, 2, none⟩ = some (.int .i16 ((rd_T81 ((rd_T31 l0 0).f1) x12_1).f2)) ∧ w'.cell? (ad246.add (((rd_T81 ((rd_T31 l0 0).f1) x12_1).f1)).toNat) = some (.int .u64 (rd x3_1 ((rd_T81 ((rd_T31 l0 0).f1) x12_1).f1))) ∧ w'.cell? (ad246.add (((rd_T81 ((rd_T31 l0 0).f1) x12_1).f2)).toNat) = some (.int .u64 (rd x3_1 ((rd_T81 ((rd_T31 l0 0).f1) x12_1).f2)))) (ds := [12, 13]) #[false, false, false, false, false, false, false, false, false, false, false, false, false, false, false] (by kernel_rfl) rfl rfl ⟨(blk_cell BK235.out 0).trans rfl, (blk_cell BK235.out 1).trans rfl, (blk_cell BK235.out 2).trans rfl, hx246_0, hx247_0⟩ (fun hHeld => ?_); refine with_tabW impl_Network_tables.tab12 impl_Network_tables.bits12 (fun HT_ HW_ => ?_)
                              generalize w32.drew = w33 at HO_3 BK235 HB hx246_0 hx247_0 hHeld ⊢
                              refine pure_ (i := 0) (N := some 59) (v := ?_) (a' := ?_) #[true, false, false, false, false, false, false, false, false, false, false, false, false, false, false] rfl rfl (any_of HT_.out (by kernel_rfl)) (fun _ _ _ h => h) (Or.inl ⟨by rfl, ?_⟩) ?_ ?_
                              rotate_left
                              · intro w'
                                go_simp
                                with_reducible rfl
                              rotate_left
                              · simp only [Act.put, List.setIfInBounds_toArray, List.set_cons_zero, List.set_cons_succ, i64_w, i32_w]
                                rfl
                              refine pure_ (i := 1) (N := some 60) (v := ?_) (a' := ?_) #[true, true, false, false, false, false, false, false, false, false, false, false, false, false, false] rfl rfl (any_of HT_.out (by kernel_rfl)) (fun _ _ _ h => h) (Or.inl ⟨by rfl, ?_⟩) ?_ ?_
                              rotate_left
                              · intro w'
                                go_simp
                                with_reducible rfl
                              rotate_left
                              · simp only [Act.put, List.setIfInBounds_toArray, List.set_cons_zero, List.set_cons_succ, i64_w, i32_w]
                                rfl
                              refine pure_ (i := 2) (N := some 61) (v := ?_) (a' := ?_) #[true, true, true, false, false, false, false, false, false, false, false, false, false, false, false] rfl rfl (any_of HT_.out (by kernel_rfl)) (fun _ _ _ h => h) (Or.inl ⟨by rfl, ?_⟩) ?_ ?_
                              rotate_left
                              · intro w'
                                go_simp
                                with_reducible rfl
                              rotate_left
                              · simp only [Act.put, List.setIfInBounds_toArray, List.set_cons_zero, List.set_cons_succ, i64_w, i32_w]
                                rfl
                              refine pure_ (i := 6) (N := some 65) (v := ?_) (a' := ?_) #[true, true, true, false, false, false, true, false, false, false, false, false, false, false, false] rfl rfl (any_of HT_.out (by kernel_rfl)) (fun _ _ _ h => h) (Or.inl ⟨by rfl, ?_⟩) ?_ ?_
                              rotate_left
                              · intro w'
                                go_simp
                                with_reducible rfl
                              rotate_left
                              · simp only [Act.put, List.setIfInBounds_toArray, List.set_cons_zero, List.set_cons_succ, i64_w, i32_w]
                                rfl
                              refine pure_ (i := 7) (N := some 66) (v := ?_) (a' := ?_) #[true, true, true, false, false, false, true, true, false, false, false, false, false, false, false] rfl rfl (any_of HT_.out (by kernel_rfl)) (fun _ _ _ h => h) (Or.inl ⟨by rfl, ?_⟩) ?_ ?_
                              rotate_left
                              · intro w'
                                go_simp
                                with_reducible rfl
                              rotate_left
                              · simp only [Act.put, List.setIfInBounds_toArray, List.set_cons_zero, List.set_cons_succ, i64_w, i32_w]
                                rfl
                              refine take_ (i := 3) (N := some 62) (v := ?_) (a' := ?_) #[true, true, true, true, false, false, true, true, false, false, false, false, false, false, false] rfl rfl (take_ofW HT_.out HW_.out (by kernel_rfl)) (fun _ _ _ h => h) (Or.inl ⟨by rfl, ?_⟩) hHeld ?_ ?_
                              rotate_left
                              · rintro w' ⟨s0, s1, s2, s3, s4⟩
                                go_simp
                                with_reducible rfl
                              rotate_left
                              · simp only [Act.put, List.setIfInBounds_toArray, List.set_cons_zero, List.set_cons_succ, i64_w, i32_w]
                                rfl
                              refine pure_ (i := 4) (N := some 63) (v := ?_) (a' := ?_) #[true, true, true, true, true, false, true, true, false, false, false, false, false, false, false] rfl rfl (any_of HT_.out (by kernel_rfl)) (fun _ _ _ h => h) (Or.inl ⟨by rfl, ?_⟩) ?_ ?_
                              rotate_left
                              · intro w'
                                go_simp
                                with_reducible rfl
                              rotate_left
                              · simp only [Act.put, List.setIfInBounds_toArray, List.set_cons_zero, List.set_cons_succ, i64_w, i32_w]
                                rfl
                              refine take_ (i := 5) (N := some 64) (v := ?_) (a' := ?_) #[true, true, true, true, true, true, true, true, false, false, false, false, false, false, false] rfl rfl (take_ofW HT_.out HW_.out (by kernel_rfl)) (fun _ _ _ h => h) (Or.inl ⟨by rfl, ?_⟩) hHeld ?_ ?_
                              rotate_left
                              · rintro w' ⟨s0, s1, s2, s3, s4⟩
                                go_simp
                                with_reducible rfl
                              rotate_left
                              · simp only [Act.put, List.setIfInBounds_toArray, List.set_cons_zero, List.set_cons_succ, i64_w, i32_w]
                                rfl
                              refine take_ (i := 8) (N := some 67) (v := ?_) (a' := ?_) #[true, true, true, true, true, true, true, true, true, false, false, false, false, false, false] rfl rfl (take_ofW HT_.out HW_.out (by kernel_rfl)) (fun _ _ _ h => h) (Or.inl ⟨by rfl, ?_⟩) hHeld ?_ ?_
                              rotate_left
                              · rintro w' ⟨s0, s1, s2, s3, s4⟩
                                go_simp
                                with_reducible rfl
                              rotate_left
                              · simp only [Act.put, List.setIfInBounds_toArray, List.set_cons_zero, List.set_cons_succ, i64_w, i32_w]
                                rfl
                              refine pure_ (i := 9) (N := some 68) (v := ?_) (a' := ?_) #[true, true, true, true, true, true, true, true, true, true, false, false, false, false, false] rfl rfl (any_of HT_.out (by kernel_rfl)) (fun _ _ _ h => h) (Or.inl ⟨by rfl, ?_⟩) ?_ ?_
                              rotate_left
                              · intro w'
                                go_simp
                                with_reducible rfl
                              rotate_left
                              · simp only [Act.put, List.setIfInBounds_toArray, List.set_cons_zero, List.set_cons_succ, i64_w, i32_w]
                                rfl
                              refine take_ (i := 10) (N := some 69) (v := ?_) (a' := ?_) #[true, true, true, true, true, true, true, true, true, true, true, false, false, false, false] rfl rfl (take_ofW HT_.out HW_.out (by kernel_rfl)) (fun _ _ _ h => h) (Or.inl ⟨by rfl, ?_⟩) hHeld ?_ ?_
                              rotate_left
                              · rintro w' ⟨s0, s1, s2, s3, s4⟩
                                go_simp
                                with_reducible rfl
                              rotate_left
                              · simp only [Act.put, List.setIfInBounds_toArray, List.set_cons_zero, List.set_cons_succ, i64_w, i32_w]
                                rfl
                              refine pure_ (i := 11) (N := some 70) (v := ?_) (a' := ?_) #[true, true, true, true, true, true, true, true, true, true, true, true, false, false, false] rfl rfl (any_of HT_.out (by kernel_rfl)) (fun _ _ _ h => h) (Or.inl ⟨by rfl, ?_⟩) ?_ ?_
                              rotate_left
                              · intro w'
                                go_simp
                                with_reducible rfl
                              rotate_left
                              · simp only [Act.put, List.setIfInBounds_toArray, List.set_cons_zero, List.set_cons_succ, i64_w, i32_w]
                                rfl
                              refine last_ (i := 12) (N := some 71) #[true, true, true, true, true, true, true, true, true, true, true, true, true, false, false] rfl rfl (one_of HT_.out (by kernel_rfl)) (by decide) (fun K hK => ?_)
                              refine value_ (w1 := ?_) (v := ?_) (by rfl) rfl ?_ ?_
                              rotate_left 2
                              · go_simp
                                constructor
                                · rfl
                                · rfl
                              refine hK.out _ _ ?_
                              clear hK K
                              refine norm_ (a' := ?_) ?_ ?_
                              rotate_left
                              · show Act.put _ (some 71) _ = _
                                simp only [Act.put, List.setIfInBounds_toArray, List.set_cons_zero, List.set_cons_succ, i64_w, i32_w]
                                rfl
                              refine last_ (i := 13) (N := some 72) #[true, true, true, true, true, true, true, true, true, true, true, true, true, true, false] rfl rfl (one_of HT_.out (by kernel_rfl)) (by decide) (fun K hK => ?_)
                              refine Kd.R_append_step (Kd.int .u64) (w0 := w) w.heap.size (by rfl) (.tmp 59) (.tmp 71) 53 98 (.int .u64 0) 8 rfl Try.underlying53 info98 rfl (by decide) (by omega) (.slice (some ad246) x3_1.length co34) x3_1 (Go.bits .or .u64 (rd x3_1 ((rd_T81 ((rd_T31 l0 0).f1) x12_1).f1)) (rd x3_1 ((rd_T81 ((rd_T31 l0 0).f1) x12_1).f2))) [.int .u64 (Go.bits .or .u64 (rd x3_1 ((rd_T81 ((rd_T31 l0 0).f1) x12_1).f1)) (rd x3_1 ((rd_T81 ((rd_T31 l0 0).f1) x12_1).f2)))] (fun _ => True) (fun _ => False) rfl rfl ?aP (fun _ hk => hk.elim) ?aF ?aO ?aB ?aS ?aL ?_
                              (case aP => exact rfl)
                              (case aB => exact (by repeat (first | (with_reducible first | exact HB.out | apply below_alloc | apply pw_below_drewN | apply below_drew1 | refine below_set ?_ GE235.out) | exact HB.out)))
                              (case aF => exact (fun _ _ => trivial))
                              (case aO => exact (by (with_reducible repeat (first | apply Kd.R_alloc | apply Kd.R_drewN | apply Kd.R_drew)); exact HO_3.out))
                              (case aS => exact (below_size (by repeat (first | (with_reducible first | exact HB.out | apply below_alloc | apply pw_below_drewN | apply below_drew1 | refine below_set ?_ GE235.out) | exact HB.out))))
                              (case aL => have := LMc29.out; omega)
                              intro v249 w35 ho hb hg hat
                              rw [← Ny248.out] at ho
                              have n0_ := Aside0.mk (blk_grown (g := gb235) (o := .cells #[.int .i8 ((rd_T81 ((rd_T31 l0 0).f1) x12_1).f0), .int .i16 ((rd_T81 ((rd_T31 l0 0).f1) x12_1).f1), .int .i16 ((rd_T81 ((rd_T31 l0 0).f1) x12_1).f2)] 81 (0, 0)) (by (with_reducible repeat (first | refine blk_drewN ?_ _ | refine blk_drew ?_ | refine blk_alloc ?_ _)); exact BK235.out) hg (Kd.R_ne HO_3.out BK235.out (by decide)))
                              have n1_ := Aside0.mk (hb)
                              have n2_ := Aside0.mk (ho)
                              clear BK235
                              clear HB
                              clear HO_3
                              have BK235 := n0_
                              have HB := n1_
                              have HO250 := n2_
                              clear n0_ n1_ n2_
                              clear ho hb hg hat
                              refine hK.out _ _ ?_
                              clear hK K
                              refine norm_ (a' := ?_) ?_ ?_
                              rotate_left
                              · show Act.put _ (some 72) _ = _
                                simp only [Act.put, List.setIfInBounds_toArray, List.set_cons_zero, List.set_cons_succ, i64_w, i32_w]
                                rfl
                              refine pure_ (i := 14) (N := some 3) (v := ?_) (a' := ?_) #[true, true, true, true, true, true, true, true, true, true, true, true, true, true, true] rfl rfl (any_of HT_.out (by kernel_rfl)) (fun _ _ _ h => h) (Or.inl ⟨by rfl, ?_⟩) ?_ ?_
                              rotate_left
                              · intro w'
                                go_simp
                                with_reducible rfl
                              rotate_left
                              · simp only [Act.put, List.setIfInBounds_toArray, List.set_cons_zero, List.set_cons_succ, i64_w, i32_w]
                                rfl
                              refine done_ (done_of HT_.out (by kernel_rfl)) ?_
                              try go_wp2
                              go_roundg k1
                              case measure => have := HK1.out; omega
                              case rel => exact ⟨(y248), (wrap64 (x12_1 + 1)), (by first | rfl | (simp; done) | (simp [*]; done) | (exact congrArg (Value.int .i64) (wrap_eq (by omega)))), H', ⟨by have := HK1.out; omega⟩, ⟨by (with_reducible repeat (first | apply Kd.R_alloc | apply Kd.R_drewN | apply Kd.R_drew)); exact HO250.out⟩, ⟨by repeat (first | (with_reducible first | exact HB.out | apply below_alloc | apply pw_below_drewN | apply below_drew1 | refine below_set ?_ GE235.out) | exact HB.out)⟩⟩
                            · rw [if_neg c29] at H
                              exact absurd H (by simp)
                          · rw [if_neg c28] at H
                            exact absurd H (by simp)
                        · rw [if_neg c27] at H
                          exact absurd H (by simp)
                      · rw [if_neg c26] at H
                        exact absurd H (by simp)
                    · rw [if_neg c25] at H
                      exact absurd H (by simp)
                  · rw [if_neg c24] at H
                    have c24b0 : (((rd_T81 ((rd_T31 l0 0).f1) x12_1).f0) == 2) = false := beq_eq_false_iff_ne.mpr c24
                    have c24b1 : (((rd_T81 ((rd_T31 l0 0).f1) x12_1).f0) != 2) = true := bne_iff_ne.mpr c24
                    by_cases c36 : 0 ≤ ((rd_T81 ((rd_T31 l0 0).f1) x12_1).f1)
                    · rw [if_pos c36] at H
                      have c36b0 : decide (0 ≤ ((rd_T81 ((rd_T31 l0 0).f1) x12_1).f1)) = true := decide_eq_true c36
                      clear c36
                      by_cases c37 : ((rd_T81 ((rd_T31 l0 0).f1) x12_1).f1) < (x3_1.length : Int)
                      · rw [if_pos c37] at H
                        have c37b0 : decide (((rd_T81 ((rd_T31 l0 0).f1) x12_1).f1) < (x3_1.length : Int)) = true := decide_eq_true c37
                        clear c37
                        by_cases c38 : 0 ≤ ((rd_T81 ((rd_T31 l0 0).f1) x12_1).f2)
                        · rw [if_pos c38] at H
                          have c38b0 : decide (0 ≤ ((rd_T81 ((rd_T31 l0 0).f1) x12_1).f2)) = true := decide_eq_true c38
                          clear c38
                          by_cases c39 : ((rd_T81 ((rd_T31 l0 0).f1) x12_1).f2) < (x3_1.length : Int)
                          · rw [if_pos c39] at H
                            have c39b0 : decide (((rd_T81 ((rd_T31 l0 0).f1) x12_1).f2) < (x3_1.length : Int)) = true := decide_eq_true c39
                            clear c39
                            by_cases c40 : x3_1.length < 17592186044416
                            · rw [if_pos c40] at H
                              have LMc40 := Aside0.mk c40
                              clear c40
                              obtain ⟨y253, hy253⟩ : ∃ y_ : List Int, y_ = (x3_1 ++ [Go.bits .andNot .u64 (rd x3_1 ((rd_T81 ((rd_T31 l0 0).f1) x12_1).f1)) (rd x3_1 ((rd_T81 ((rd_T31 l0 0).f1) x12_1).f2))]) := ⟨_, rfl⟩
                              replace H : (impl_Network_tables.l0 k1 l0 y253 ((rd_T31 l0 0).f1) (((rd_T31 l0 0).f1).length : Int) (wrap64 (x12_1 + 1))) = some r := by first | (rw [hy253]; with_reducible exact H) | (have H2_ := (Option.bind_some _ _).symm.trans H; rw [hy253]; with_reducible exact H2_) | (have H2_ := (Option.bind_some _ _).symm.trans H; with_reducible exact H2_) | with_reducible exact H | (rw [hy253]; exact H) | exact H
                              have Ny253 := Aside0.mk hy253
                              clear hy253
                              have H' := Aside0.mk H
                              clear H
                              have p234 : 0 ≤ (x12_1 : Int) := of_decide_eq_true (by first | (with_reducible assumption) | assumption)
                              have q234 : x12_1 < (((rd_T31 l0 0).f1).length : Int) := of_decide_eq_true (by first | (with_reducible assumption) | assumption)
                              obtain ⟨ad234, e234, hx234_0, hx234_1, hx234_2⟩ := at_T81 HR233_1.out x12_1 p234 q234
                              cases e234
                              replace hx234_0 := (HB.out.cell (World.block_lt_of_cell? w _ hx234_0)).trans hx234_0
                              replace hx234_1 := (HB.out.cell (World.block_lt_of_cell? w _ hx234_1)).trans hx234_1
                              replace hx234_2 := (HB.out.cell (World.block_lt_of_cell? w _ hx234_2)).trans hx234_2
                              replace p234 := eq_true p234
                              replace q234 := eq_true q234
                              try go_wp2_with (first | ((with_reducible refine gate_dst (N := 5) rfl ?_); refine box_event ?hg (N := 5) ?hd (cs := #[.int .i8 0, .int .i16 0, .int .i16 0]) (t := 81) ?hr ?_; (case hd => rfl); (case hg => rfl); (case hr => first | (go_simp; done) | (go_simp; rfl)); intro gb235 hg w41 hbox hb; have n0_ := Aside0.mk (Kd.R_below (by (with_reducible repeat (first | apply Kd.R_alloc | apply Kd.R_drewN | apply Kd.R_drew)); exact HO_3.out) hb); have n1_ := Aside0.mk (below_step (by repeat (first | (with_reducible first | exact HB.out | apply below_alloc | apply pw_below_drewN | apply below_drew1) | exact HB.out)) hb); have n2_ := Aside0.mk (hbox); have n3_ := Aside0.mk ((by rw [hg]; exact (below_size (by repeat (first | (with_reducible first | exact HB.out | apply below_alloc | apply pw_below_drewN | apply below_drew1) | exact HB.out))) : w.heap.size ≤ gb235)); have n4_ := Aside0.mk ((by rw [hg]; exact (below_size (by repeat (first | (with_reducible first | exact HB.out | apply below_alloc | apply pw_below_drewN | apply below_drew1) | exact HB.out))) : w.heap.size ≤ gb235)); clear HO_3; clear HB; have HO_3 := n0_; have HB := n1_; have BK235 := n2_; have GW235 := n3_; have GE235 := n4_; clear n0_ n1_ n2_ n3_ n4_; clear hb hbox hg; have hcz42_0 : w41.cell? ⟨gb235, 0, none⟩ = some (.int .i8 0) := (blk_cell BK235.out 0).trans rfl; have hcz42_1 : w41.cell? ⟨gb235, 1, none⟩ = some (.int .i16 0) := (blk_cell BK235.out 1).trans rfl; have hcz42_2 : w41.cell? ⟨gb235, 2, none⟩ = some (.int .i16 0) := (blk_cell BK235.out 2).trans rfl; have hfz42_0 := blk_frozen BK235.out 0; have hfz42_1 := blk_frozen BK235.out 1; have hfz42_2 := blk_frozen BK235.out 2))
                              have n0_ : Aside0 (Kd.R (Kd.int .u64) 98 (((w41.setCell ⟨gb235, 0, none⟩ (.int .i8 ((rd_T81 ((rd_T31 l0 0).f1) x12_1).f0))).setCell ⟨gb235, 1, none⟩ (.int .i16 ((rd_T81 ((rd_T31 l0 0).f1) x12_1).f1))).setCell ⟨gb235, 2, none⟩ (.int .i16 ((rd_T81 ((rd_T31 l0 0).f1) x12_1).f2))) w.heap.size (fun _ => True) u3 x3_1) := ⟨by (with_reducible repeat (first | apply Kd.R_alloc | apply Kd.R_drewN | apply Kd.R_drew)); exact Kd.R_mono (Kd.R_far (p := ⟨gb235, 2, none⟩) (Kd.R_far (p := ⟨gb235, 1, none⟩) (Kd.R_far (p := ⟨gb235, 0, none⟩) (Kd.R_types HO_3.out BK235.out (by decide)) (fun _ hk => hk.2) (.int .i8 ((rd_T81 ((rd_T31 l0 0).f1) x12_1).f0))) (fun _ hk => hk.2) (.int .i16 ((rd_T81 ((rd_T31 l0 0).f1) x12_1).f1))) (fun _ hk => hk.2) (.int .i16 ((rd_T81 ((rd_T31 l0 0).f1) x12_1).f2))) (fun _ hk => trivial)⟩
                              have n1_ : Aside0 ((((w41.setCell ⟨gb235, 0, none⟩ (.int .i8 ((rd_T81 ((rd_T31 l0 0).f1) x12_1).f0))).setCell ⟨gb235, 1, none⟩ (.int .i16 ((rd_T81 ((rd_T31 l0 0).f1) x12_1).f1))).setCell ⟨gb235, 2, none⟩ (.int .i16 ((rd_T81 ((rd_T31 l0 0).f1) x12_1).f2))).heap[gb235]? = some (.cells #[.int .i8 ((rd_T81 ((rd_T31 l0 0).f1) x12_1).f0), .int .i16 ((rd_T81 ((rd_T31 l0 0).f1) x12_1).f1), .int .i16 ((rd_T81 ((rd_T31 l0 0).f1) x12_1).f2)] 81 (0, 0))) := ⟨by (with_reducible repeat (first | refine blk_drewN ?_ _ | refine blk_drew ?_ | refine blk_alloc ?_ _)); refine blk_put (cs := #[.int .i8 ((rd_T81 ((rd_T31 l0 0).f1) x12_1).f0), .int .i16 ((rd_T81 ((rd_T31 l0 0).f1) x12_1).f1), .int .i16 0]) ?_ 2 _ rfl; (with_reducible repeat (first | refine blk_drewN ?_ _ | refine blk_drew ?_ | refine blk_alloc ?_ _)); refine blk_put (cs := #[.int .i8 ((rd_T81 ((rd_T31 l0 0).f1) x12_1).f0), .int .i16 0, .int .i16 0]) ?_ 1 _ rfl; (with_reducible repeat (first | refine blk_drewN ?_ _ | refine blk_drew ?_ | refine blk_alloc ?_ _)); refine blk_put (cs := #[.int .i8 0, .int .i16 0, .int .i16 0]) ?_ 0 _ rfl; (with_reducible repeat (first | refine blk_drewN ?_ _ | refine blk_drew ?_ | refine blk_alloc ?_ _)); exact BK235.out⟩
                              have n2_ : Aside0 (Below w.heap.size w (((w41.setCell ⟨gb235, 0, none⟩ (.int .i8 ((rd_T81 ((rd_T31 l0 0).f1) x12_1).f0))).setCell ⟨gb235, 1, none⟩ (.int .i16 ((rd_T81 ((rd_T31 l0 0).f1) x12_1).f1))).setCell ⟨gb235, 2, none⟩ (.int .i16 ((rd_T81 ((rd_T31 l0 0).f1) x12_1).f2)))) := ⟨by repeat (first | (with_reducible first | exact HB.out | apply below_alloc | apply pw_below_drewN | apply below_drew1 | refine below_set ?_ GE235.out) | exact HB.out)⟩
                              (try clear HO_3)
                              (try clear BK235)
                              (try clear HB)
                              generalize (((w41.setCell ⟨gb235, 0, none⟩ (.int .i8 ((rd_T81 ((rd_T31 l0 0).f1) x12_1).f0))).setCell ⟨gb235, 1, none⟩ (.int .i16 ((rd_T81 ((rd_T31 l0 0).f1) x12_1).f1))).setCell ⟨gb235, 2, none⟩ (.int .i16 ((rd_T81 ((rd_T31 l0 0).f1) x12_1).f2))) = w43 at n0_ n1_ n2_ ⊢
                              have HO_3 := n0_
                              have BK235 := n1_
                              have HB := n2_
                              clear n0_ n1_ n2_
                              have n0_ := Aside0.mk (Kd.R_drew HO_3.out)
                              have n1_ := Aside0.mk (blk_drew BK235.out)
                              have n2_ := Aside0.mk (below_drew1 HB.out)
                              clear HO_3
                              clear BK235
                              clear HB
                              have HO_3 := n0_
                              have BK235 := n1_
                              have HB := n2_
                              clear n0_ n1_ n2_
                              obtain ⟨Ao45, co45, eo45⟩ := Kd.R_slice HO_3.out
                              (first | subst eo45 | (injection eo45 with f1_ f2_ f3_; have f4_ := f1_.symm; have f5_ := f3_.symm; clear f1_ f2_ f3_; subst f4_; subst f5_))
                              have p251 : 0 ≤ (((rd_T81 ((rd_T31 l0 0).f1) x12_1).f1) : Int) := of_decide_eq_true (by first | (with_reducible assumption) | assumption)
                              have q251 : ((rd_T81 ((rd_T31 l0 0).f1) x12_1).f1) < (x3_1.length : Int) := of_decide_eq_true (by first | (with_reducible assumption) | assumption)
                              obtain ⟨ad251, e251, hx251_0⟩ := Kd.at_int (Kd.R_reads' HO_3.out).2.2 ((rd_T81 ((rd_T31 l0 0).f1) x12_1).f1) p251 q251
                              cases e251
                              replace p251 := eq_true p251
                              replace q251 := eq_true q251
                              have p252 : 0 ≤ (((rd_T81 ((rd_T31 l0 0).f1) x12_1).f2) : Int) := of_decide_eq_true (by first | (with_reducible assumption) | assumption)
                              have q252 : ((rd_T81 ((rd_T31 l0 0).f1) x12_1).f2) < (x3_1.length : Int) := of_decide_eq_true (by first | (with_reducible assumption) | assumption)
                              obtain ⟨ad252, e252, hx252_0⟩ := Kd.at_int (Kd.R_reads' HO_3.out).2.2 ((rd_T81 ((rd_T31 l0 0).f1) x12_1).f2) p252 q252
                              obtain rfl : ad251 = ad252 := (by injection e252)
                              replace p252 := eq_true p252
                              replace q252 := eq_true q252
                              refine start_ (n := 15) (S := fun w' => w'.cell? ⟨gb235, 0, none⟩ = some (.int .i8 ((rd_T81 ((rd_T31 l0 0).f1) x12_1).f0)) ∧ w'.cell? ⟨gb235, 1, none⟩ = some (.int .i16 ((rd_T81 ((rd_T31 l0 0).f1) x12_1).f1)) ∧ w'.cell? ⟨gb235, 2, none⟩ = some (.int .i16 ((rd_T81 ((rd_T31 l0 0).f1) x12_1).f2)) ∧ w'.cell? (ad251.add (((rd_T81 ((rd_T31 l0 0).f1) x12_1).f1)).toNat) = some (.int .u64 (rd x3_1 ((rd_T81 ((rd_T31 l0 0).f1) x12_1).f1))) ∧ w'.cell? (ad251.add (((rd_T81 ((rd_T31 l0 0).f1) x12_1).f2)).toNat) = some (.int .u64 (rd x3_1 ((rd_T81 ((rd_T31 l0 0).f1) x12_1).f2)))) (ds := [12, 13]) #[false, false, false, false, false, false, false, false, false, false, false, false, false, false, false] (by kernel_rfl) rfl rfl ⟨(blk_cell BK235.out 0).trans rfl, (blk_cell BK235.out 1).trans rfl, (blk_cell BK235.out 2).trans rfl, hx251_0, hx252_0⟩ (fun hHeld => ?_); refine with_tabW impl_Network_tables.tab6 impl_Network_tables.bits6 (fun HT_ HW_ => ?_)
                              generalize w43.drew = w44 at HO_3 BK235 HB hx251_0 hx252_0 hHeld ⊢
                              refine pure_ (i := 0) (N := some 18) (v := ?_) (a' := ?_) #[true, false, false, false, false, false, false, false, false, false, false, false, false, false, false] rfl rfl (any_of HT_.out (by kernel_rfl)) (fun _ _ _ h => h) (Or.inl ⟨by rfl, ?_⟩) ?_ ?_
                              rotate_left
                              · intro w'
                                go_simp
                                with_reducible rfl
                              rotate_left
                              · simp only [Act.put, List.setIfInBounds_toArray, List.set_cons_zero, List.set_cons_succ, i64_w, i32_w]
                                rfl
                              refine pure_ (i := 1) (N := some 19) (v := ?_) (a' := ?_) #[true, true, false, false, false, false, false, false, false, false, false, false, false, false, false] rfl rfl (any_of HT_.out (by kernel_rfl)) (fun _ _ _ h => h) (Or.inl ⟨by rfl, ?_⟩) ?_ ?_
                              rotate_left
                              · intro w'
                                go_simp
                                with_reducible rfl
                              rotate_left
                              · simp only [Act.put, List.setIfInBounds_toArray, List.set_cons_zero, List.set_cons_succ, i64_w, i32_w]
                                rfl
                              refine pure_ (i := 2) (N := some 20) (v := ?_) (a' := ?_) #[true, true, true, false, false, false, false, false, false, false, false, false, false, false, false] rfl rfl (any_of HT_.out (by kernel_rfl)) (fun _ _ _ h => h) (Or.inl ⟨by rfl, ?_⟩) ?_ ?_
                              rotate_left
                              · intro w'
                                go_simp
                                with_reducible rfl
                              rotate_left
                              · simp only [Act.put, List.setIfInBounds_toArray, List.set_cons_zero, List.set_cons_succ, i64_w, i32_w]
                                rfl
                              refine pure_ (i := 6) (N := some 24) (v := ?_) (a' := ?_) #[true, true, true, false, false, false, true, false, false, false, false, false, false, false, false] rfl rfl (any_of HT_.out (by kernel_rfl)) (fun _ _ _ h => h) (Or.inl ⟨by rfl, ?_⟩) ?_ ?_
                              rotate_left
                              · intro w'
                                go_simp
                                with_reducible rfl
                              rotate_left
                              · simp only [Act.put, List.setIfInBounds_toArray, List.set_cons_zero, List.set_cons_succ, i64_w, i32_w]
                                rfl
                              refine pure_ (i := 7) (N := some 25) (v := ?_) (a' := ?_) #[true, true, true, false, false, false, true, true, false, false, false, false, false, false, false] rfl rfl (any_of HT_.out (by kernel_rfl)) (fun _ _ _ h => h) (Or.inl ⟨by rfl, ?_⟩) ?_ ?_
                              rotate_left
                              · intro w'
                                go_simp
                                with_reducible rfl
                              rotate_left
                              · simp only [Act.put, List.setIfInBounds_toArray, List.set_cons_zero, List.set_cons_succ, i64_w, i32_w]
                                rfl
                              refine take_ (i := 3) (N := some 21) (v := ?_) (a' := ?_) #[true, true, true, true, false, false, true, true, false, false, false, false, false, false, false] rfl rfl (take_ofW HT_.out HW_.out (by kernel_rfl)) (fun _ _ _ h => h) (Or.inl ⟨by rfl, ?_⟩) hHeld ?_ ?_
                              rotate_left
                              · rintro w' ⟨s0, s1, s2, s3, s4⟩
                                go_simp
                                with_reducible rfl
                              rotate_left
                              · simp only [Act.put, List.setIfInBounds_toArray, List.set_cons_zero, List.set_cons_succ, i64_w, i32_w]
                                rfl
                              refine pure_ (i := 4) (N := some 22) (v := ?_) (a' := ?_) #[true, true, true, true, true, false, true, true, false, false, false, false, false, false, false] rfl rfl (any_of HT_.out (by kernel_rfl)) (fun _ _ _ h => h) (Or.inl ⟨by rfl, ?_⟩) ?_ ?_
                              rotate_left
                              · intro w'
                                go_simp
                                with_reducible rfl
                              rotate_left
                              · simp only [Act.put, List.setIfInBounds_toArray, List.set_cons_zero, List.set_cons_succ, i64_w, i32_w]
                                rfl
                              refine take_ (i := 5) (N := some 23) (v := ?_) (a' := ?_) #[true, true, true, true, true, true, true, true, false, false, false, false, false, false, false] rfl rfl (take_ofW HT_.out HW_.out (by kernel_rfl)) (fun _ _ _ h => h) (Or.inl ⟨by rfl, ?_⟩) hHeld ?_ ?_
                              rotate_left
                              · rintro w' ⟨s0, s1, s2, s3, s4⟩
                                go_simp
                                with_reducible rfl
                              rotate_left
                              · simp only [Act.put, List.setIfInBounds_toArray, List.set_cons_zero, List.set_cons_succ, i64_w, i32_w]
                                rfl
                              refine take_ (i := 8) (N := some 26) (v := ?_) (a' := ?_) #[true, true, true, true, true, true, true, true, true, false, false, false, false, false, false] rfl rfl (take_ofW HT_.out HW_.out (by kernel_rfl)) (fun _ _ _ h => h) (Or.inl ⟨by rfl, ?_⟩) hHeld ?_ ?_
                              rotate_left
                              · rintro w' ⟨s0, s1, s2, s3, s4⟩
                                go_simp
                                with_reducible rfl
                              rotate_left
                              · simp only [Act.put, List.setIfInBounds_toArray, List.set_cons_zero, List.set_cons_succ, i64_w, i32_w]
                                rfl
                              refine pure_ (i := 9) (N := some 27) (v := ?_) (a' := ?_) #[true, true, true, true, true, true, true, true, true, true, false, false, false, false, false] rfl rfl (any_of HT_.out (by kernel_rfl)) (fun _ _ _ h => h) (Or.inl ⟨by rfl, ?_⟩) ?_ ?_
                              rotate_left
                              · intro w'
                                go_simp
                                with_reducible rfl
                              rotate_left
                              · simp only [Act.put, List.setIfInBounds_toArray, List.set_cons_zero, List.set_cons_succ, i64_w, i32_w]
                                rfl
                              refine take_ (i := 10) (N := some 28) (v := ?_) (a' := ?_) #[true, true, true, true, true, true, true, true, true, true, true, false, false, false, false] rfl rfl (take_ofW HT_.out HW_.out (by kernel_rfl)) (fun _ _ _ h => h) (Or.inl ⟨by rfl, ?_⟩) hHeld ?_ ?_
                              rotate_left
                              · rintro w' ⟨s0, s1, s2, s3, s4⟩
                                go_simp
                                with_reducible rfl
                              rotate_left
                              · simp only [Act.put, List.setIfInBounds_toArray, List.set_cons_zero, List.set_cons_succ, i64_w, i32_w]
                                rfl
                              refine pure_ (i := 11) (N := some 29) (v := ?_) (a' := ?_) #[true, true, true, true, true, true, true, true, true, true, true, true, false, false, false] rfl rfl (any_of HT_.out (by kernel_rfl)) (fun _ _ _ h => h) (Or.inl ⟨by rfl, ?_⟩) ?_ ?_
                              rotate_left
                              · intro w'
                                go_simp
                                with_reducible rfl
                              rotate_left
                              · simp only [Act.put, List.setIfInBounds_toArray, List.set_cons_zero, List.set_cons_succ, i64_w, i32_w]
                                rfl
                              refine last_ (i := 12) (N := some 30) #[true, true, true, true, true, true, true, true, true, true, true, true, true, false, false] rfl rfl (one_of HT_.out (by kernel_rfl)) (by decide) (fun K hK => ?_)
                              refine value_ (w1 := ?_) (v := ?_) (by rfl) rfl ?_ ?_
                              rotate_left 2
                              · go_simp
                                constructor
                                · rfl
                                · rfl
                              refine hK.out _ _ ?_
                              clear hK K
                              refine norm_ (a' := ?_) ?_ ?_
                              rotate_left
                              · show Act.put _ (some 30) _ = _
                                simp only [Act.put, List.setIfInBounds_toArray, List.set_cons_zero, List.set_cons_succ, i64_w, i32_w]
                                rfl
                              refine last_ (i := 13) (N := some 31) #[true, true, true, true, true, true, true, true, true, true, true, true, true, true, false] rfl rfl (one_of HT_.out (by kernel_rfl)) (by decide) (fun K hK => ?_)
                              refine Kd.R_append_step (Kd.int .u64) (w0 := w) w.heap.size (by rfl) (.tmp 18) (.tmp 30) 53 98 (.int .u64 0) 8 rfl Try.underlying53 info98 rfl (by decide) (by omega) (.slice (some ad251) x3_1.length co45) x3_1 (Go.bits .andNot .u64 (rd x3_1 ((rd_T81 ((rd_T31 l0 0).f1) x12_1).f1)) (rd x3_1 ((rd_T81 ((rd_T31 l0 0).f1) x12_1).f2))) [.int .u64 (Go.bits .andNot .u64 (rd x3_1 ((rd_T81 ((rd_T31 l0 0).f1) x12_1).f1)) (rd x3_1 ((rd_T81 ((rd_T31 l0 0).f1) x12_1).f2)))] (fun _ => True) (fun _ => False) rfl rfl ?aP (fun _ hk => hk.elim) ?aF ?aO ?aB ?aS ?aL ?_
                              (case aP => exact rfl)
                              (case aB => exact (by repeat (first | (with_reducible first | exact HB.out | apply below_alloc | apply pw_below_drewN | apply below_drew1 | refine below_set ?_ GE235.out) | exact HB.out)))
                              (case aF => exact (fun _ _ => trivial))
                              (case aO => exact (by (with_reducible repeat (first | apply Kd.R_alloc | apply Kd.R_drewN | apply Kd.R_drew)); exact HO_3.out))
                              (case aS => exact (below_size (by repeat (first | (with_reducible first | exact HB.out | apply below_alloc | apply pw_below_drewN | apply below_drew1 | refine below_set ?_ GE235.out) | exact HB.out))))
                              (case aL => have := LMc40.out; omega)
                              intro v254 w46 ho hb hg hat
                              rw [← Ny253.out] at ho
                              have n0_ := Aside0.mk (blk_grown (g := gb235) (o := .cells #[.int .i8 ((rd_T81 ((rd_T31 l0 0).f1) x12_1).f0), .int .i16 ((rd_T81 ((rd_T31 l0 0).f1) x12_1).f1), .int .i16 ((rd_T81 ((rd_T31 l0 0).f1) x12_1).f2)] 81 (0, 0)) (by (with_reducible repeat (first | refine blk_drewN ?_ _ | refine blk_drew ?_ | refine blk_alloc ?_ _)); exact BK235.out) hg (Kd.R_ne HO_3.out BK235.out (by decide)))
                              have n1_ := Aside0.mk (hb)
                              have n2_ := Aside0.mk (ho)
                              clear BK235
                              clear HB
                              clear HO_3
                              have BK235 := n0_
                              have HB := n1_
                              have HO255 := n2_
                              clear n0_ n1_ n2_
                              clear ho hb hg hat
                              refine hK.out _ _ ?_
                              clear hK K
                              refine norm_ (a' := ?_) ?_ ?_
                              rotate_left
                              · show Act.put _ (some 31) _ = _
                                simp only [Act.put, List.setIfInBounds_toArray, List.set_cons_zero, List.set_cons_succ, i64_w, i32_w]
                                rfl
                              refine pure_ (i := 14) (N := some 3) (v := ?_) (a' := ?_) #[true, true, true, true, true, true, true, true, true, true, true, true, true, true, true] rfl rfl (any_of HT_.out (by kernel_rfl)) (fun _ _ _ h => h) (Or.inl ⟨by rfl, ?_⟩) ?_ ?_
                              rotate_left
                              · intro w'
                                go_simp
                                with_reducible rfl
                              rotate_left
                              · simp only [Act.put, List.setIfInBounds_toArray, List.set_cons_zero, List.set_cons_succ, i64_w, i32_w]
                                rfl
                              refine done_ (done_of HT_.out (by kernel_rfl)) ?_
                              try go_wp2
                              go_roundg k1
                              case measure => have := HK1.out; omega
                              case rel => exact ⟨(y253), (wrap64 (x12_1 + 1)), (by first | rfl | (simp; done) | (simp [*]; done) | (exact congrArg (Value.int .i64) (wrap_eq (by omega)))), H', ⟨by have := HK1.out; omega⟩, ⟨by (with_reducible repeat (first | apply Kd.R_alloc | apply Kd.R_drewN | apply Kd.R_drew)); exact HO255.out⟩, ⟨by repeat (first | (with_reducible first | exact HB.out | apply below_alloc | apply pw_below_drewN | apply below_drew1 | refine below_set ?_ GE235.out) | exact HB.out)⟩⟩
                            · rw [if_neg c40] at H
                              exact absurd H (by simp)
                          · rw [if_neg c39] at H
                            exact absurd H (by simp)
                        · rw [if_neg c38] at H
                          exact absurd H (by simp)
                      · rw [if_neg c37] at H
                        exact absurd H (by simp)
                    · rw [if_neg c36] at H
                      exact absurd H (by simp)
            · rw [if_neg c7] at H
              exact absurd H (by simp)
          · rw [if_neg c6] at H
            exact absurd H (by simp)
        · rw [if_neg c5] at H
          have c5b0 : decide (x12_1 < (((rd_T31 l0 0).f1).length : Int)) = false := decide_eq_false c5
          clear c5
          obtain rfl := Option.some.inj H
          go_wp2
          go_ret
          exact ⟨_, by first | rfl | (simp [errW_none, errW_some] <;> rfl) | (simp [*, errW_none, errW_some] <;> rfl), by (with_reducible repeat (first | apply Kd.R_alloc | apply Kd.R_drewN | apply Kd.R_drew)); exact HO_3.out, by repeat (first | (with_reducible first | exact HB.out | apply below_alloc | apply pw_below_drewN | apply below_drew1) | exact HB.out)⟩
  · rw [if_neg c2] at H
    exact absurd H (by simp)

end Go.Proofs.Ytmpmanfoiocfgaa.PFnExactCheckMerge
