-- squeezed
-- WRITTEN by xprint.py, a program of this session's. Not trusted: Lean checks it.
import Derived.Test.YtmpmanfoiocfgaaPFnExactNeedsOfx0
import Derived.Test.YtmpmanfoiocfgaaPFnExactNeedsOfx8
namespace Go.Proofs.Ytmpmanfoiocfgaa.PFnExactNeedsOf
open Go.RowKit Go.Proofs.YtmpmanfoiocfgaaW.PrintWords Go.Proofs.YtmpmanfoiocfgaaW.PrintLast Go.Proofs.YtmpmanfoiocfgaaW.PrintMore Go.Proofs.YtmpmanfoiocfgaaX
attribute [local go_sem] max2_int min2_int max_two min_two max_three min_three max_four min_four   -- for this text's walks alone
set_option linter.unusedVariables false
set_option linter.unusedSimpArgs false

/-! ### impl_Network_tables: function 97 -/
def impl_Network_tables.l0 : Nat → List (S31) → List Int → List (S81) → Int → Int → Option (List Int)
 | 0, _, _, _, _, _ => none
 | k + 1, x0, x3, x10, x11, x12 => if x12 < x11 then (if 0 ≤ x12 then (if x12 < (x10.length : Int) then (if ((rd_T81 x10 x12).f0) = 0 then (if 0 < (x0.length : Int) then ((impl_inputTable.f k (wrap64 ((rd_T31 x0 0).f0)) (wrap64 ((rd_T81 x10 x12).f1))).bind fun t251 => (if x3.length < 17592186044416 then (impl_Network_tables.l0 k x0 (x3 ++ [t251]) x10 x11 (wrap64 (x12 + 1))) else (none))) else (none)) else (if ((rd_T81 x10 x12).f0) = 1 then (if 0 < (x0.length : Int) then ((impl_full.f (wrap64 ((rd_T31 x0 0).f0))).bind fun t256 => (if x3.length < 17592186044416 then (impl_Network_tables.l0 k x0 (x3 ++ [t256]) x10 x11 (wrap64 (x12 + 1))) else (none))) else (none)) else (if ((rd_T81 x10 x12).f0) = 2 then (if 0 ≤ ((rd_T81 x10 x12).f1) then (if ((rd_T81 x10 x12).f1) < (x3.length : Int) then (if 0 ≤ ((rd_T81 x10 x12).f2) then (if ((rd_T81 x10 x12).f2) < (x3.length : Int) then (if x3.length < 17592186044416 then (impl_Network_tables.l0 k x0 (x3 ++ [Go.bits .or .u64 (rd x3 ((rd_T81 x10 x12).f1)) (rd x3 ((rd_T81 x10 x12).f2))]) x10 x11 (wrap64 (x12 + 1))) else (none)) else (none)) else (none)) else (none)) else (none)) else (if 0 ≤ ((rd_T81 x10 x12).f1) then (if ((rd_T81 x10 x12).f1) < (x3.length : Int) then (if 0 ≤ ((rd_T81 x10 x12).f2) then (if ((rd_T81 x10 x12).f2) < (x3.length : Int) then (if x3.length < 17592186044416 then (impl_Network_tables.l0 k x0 (x3 ++ [Go.bits .andNot .u64 (rd x3 ((rd_T81 x10 x12).f1)) (rd x3 ((rd_T81 x10 x12).f2))]) x10 x11 (wrap64 (x12 + 1))) else (none)) else (none)) else (none)) else (none)) else (none))))) else (none)) else (none)) else (some x3)
def impl_Network_tables.f (k : Nat) (l0 : List (S31)) : Option (List Int) := if 0 < (l0.length : Int) then (impl_Network_tables.l0 k l0 (([] : List Int)) ((rd_T31 l0 0).f1) (((rd_T31 l0 0).f1).length : Int) 0) else (none)
theorem impl_Network_tables.mono_l : ∀ k, (∀ y0 y1 y2 y3 y4, LeO (impl_Network_tables.l0 k y0 y1 y2 y3 y4) (impl_Network_tables.l0 (k + 1) y0 y1 y2 y3 y4))
 | 0 => fun _ _ _ _ _ r h => by simp [impl_Network_tables.l0] at h
 | k + 1 => by
  have ih0 := impl_Network_tables.mono_l k
  ·intro y0 y1 y2 y3 y4
   unfold impl_Network_tables.l0
   repeat' first
   | (with_reducible exact ih0 _ _ _ _ _)
   | (with_reducible exact impl_inputTable.mono _ _ _)
   | (with_reducible exact LeO.refl _)
   | (with_reducible exact LeO.none _)
   | (with_reducible refine LeO.ite ?_ ?_)
   | (with_reducible refine LeO.bind ?_ (fun _ => ?_))
   | exact ih0 _ _ _ _ _
   | exact impl_inputTable.mono _ _ _
   | exact LeO.none _
   | refine LeO.ite ?_ ?_
   | refine LeO.bind ?_ (fun _ => ?_)
theorem impl_Network_tables.mono : ∀ a0 k, LeO (impl_Network_tables.f k a0) (impl_Network_tables.f (k + 1) a0) := by
 intro a0 k
 have ih0 := impl_Network_tables.mono_l k
 unfold impl_Network_tables.f
 repeat' first
   | (with_reducible exact ih0 _ _ _ _ _)
   | (with_reducible exact impl_inputTable.mono _ _ _)
   | (with_reducible exact LeO.refl _)
   | (with_reducible exact LeO.none _)
   | (with_reducible refine LeO.ite ?_ ?_)
   | (with_reducible refine LeO.bind ?_ (fun _ => ?_))
   | exact ih0 _ _ _ _ _
   | exact impl_inputTable.mono _ _ _
   | exact LeO.none _
   | refine LeO.ite ?_ ?_
   | refine LeO.bind ?_ (fun _ => ?_)
def impl_Network_tables.T6 : Bool × List (List Nat × List Nat) := (true, [([], []), ([], []), ([], []), ([2], [2]), ([1, 3], [1, 3]), ([4], [4]), ([], []), ([], []), ([7], [7]), ([6, 8], [6, 8]), ([9], [9]), ([5, 10], [5, 10]), ([11], [11]), ([0, 12], [0, 12]), ([13, 13, 0, 1, 2, 3, 4, 5, 6, 7, 8, 9, 10, 11, 12, 13], [0, 1, 6, 13])])
def impl_Network_tables.B6 : List Nat := [0, 0, 0, 4, 14, 30, 0, 0, 128, 448, 960, 2046, 4094, 8191, 16383]
theorem impl_Network_tables.tab6 : rtab .any (opsOf Try.f97 6) = impl_Network_tables.T6 := by kernel_rfl
theorem impl_Network_tables.bits6 : waitsOk impl_Network_tables.T6.2 impl_Network_tables.B6 = true := by kernel_rfl
def impl_Network_tables.T8 : Bool × List (List Nat × List Nat) := (true, [([], []), ([], []), ([1], [1]), ([2], [2]), ([3], [3]), ([4], [4]), ([], []), ([6], [6]), ([7], [7]), ([5, 8], [5, 8]), ([9], [9]), ([0, 10, 9], [0, 10]), ([11, 11, 0, 1, 2, 3, 4, 5, 6, 7, 8, 9, 10, 11], [0, 11])])
def impl_Network_tables.B8 : List Nat := [0, 0, 2, 6, 14, 30, 0, 64, 192, 510, 1022, 2047, 4095]
theorem impl_Network_tables.tab8 : rtab .any (opsOf Try.f97 8) = impl_Network_tables.T8 := by kernel_rfl
theorem impl_Network_tables.bits8 : waitsOk impl_Network_tables.T8.2 impl_Network_tables.B8 = true := by kernel_rfl
def impl_Network_tables.T12 : Bool × List (List Nat × List Nat) := (true, [([], []), ([], []), ([], []), ([2], [2]), ([1, 3], [1, 3]), ([4], [4]), ([], []), ([], []), ([7], [7]), ([6, 8], [6, 8]), ([9], [9]), ([5, 10], [5, 10]), ([11], [11]), ([0, 12], [0, 12]), ([13, 13, 0, 1, 2, 3, 4, 5, 6, 7, 8, 9, 10, 11, 12, 13], [0, 1, 6, 13])])
def impl_Network_tables.B12 : List Nat := [0, 0, 0, 4, 14, 30, 0, 0, 128, 448, 960, 2046, 4094, 8191, 16383]
theorem impl_Network_tables.tab12 : rtab .any (opsOf Try.f97 12) = impl_Network_tables.T12 := by kernel_rfl
theorem impl_Network_tables.bits12 : waitsOk impl_Network_tables.T12.2 impl_Network_tables.B12 = true := by kernel_rfl
set_option maxHeartbeats 8000000 in
set_option maxRecDepth 100000 in
theorem impl_Network_tables.calls (k : Nat) (adp0 : Addr) (l0 : List (S31)) (r : List Int) (w : World) (hr0 : Kd.C k31 w (some adp0) l0.length l0) (h : impl_Network_tables.f k l0 = some r) :
  Calls Try.prog 97 #[.pointer (some adp0)] w fun e w' => ∃ v0_ : Value, e = .returned (v0_) ∧ Kd.R (Kd.int .u64) 98 w' w.heap.size (fun _ => True) v0_ r ∧ Below w.heap.size w w' := by
 have hu81 := Try.underlying81
 have HR0 := Aside0.mk hr0
 clear hr0
 have HB := Aside0.mk (Below.refl w.heap.size w)
 have H : (if 0 < (l0.length : Int) then (impl_Network_tables.l0 k l0 (([] : List Int)) ((rd_T31 l0 0).f1) (((rd_T31 l0 0).f1).length : Int) 0) else (none)) = some r := h
 clear h
 obtain ⟨y244, hy244⟩ : ∃ y_ : List Int, y_ = (([] : List Int)) := ⟨_, rfl⟩
 replace H : (if 0 < (l0.length : Int) then (impl_Network_tables.l0 k l0 y244 ((rd_T31 l0 0).f1) (((rd_T31 l0 0).f1).length : Int) 0) else (none)) = some r := by first | (rw [hy244]; with_reducible exact H) | (have H2_ := (Option.bind_some _ _).symm.trans H; rw [hy244]; with_reducible exact H2_) | (have H2_ := (Option.bind_some _ _).symm.trans H; with_reducible exact H2_) | with_reducible exact H | (rw [hy244]; exact H) | exact H
 have Ny244 := Aside0.mk hy244
 clear hy244
 by_cases c2 : 0 < (l0.length : Int)
 ·rw [if_pos c2] at H
  have c2b0 : decide (0 < (l0.length : Int)) = true := decide_eq_true c2
  have c2b1 : decide (0 < l0.length) = true := decide_eq_true (by omega)
  clear c2
  have H' := Aside0.mk H
  clear H
  go_enter Try.func97, Try.ntmps97
  go_wp2_with (first | ((with_reducible refine gate_dst (N := 6) rfl ?_); refine Kd.R_lit (Kd.int .u64) _ 98 ?hg (N := 6) ?hd (xs := ([] : List Int)) (inner := []) (ok := fun _ => True) (okp := fun _ => True) ?hr ?hp (fun _ hk => hk) trivial (Below.refl _ _) (Nat.le_refl _) (by simp) ?_; (case hd => rfl); (case hg => rfl); (case hr => first | (go_simp; done) | (go_simp; rfl)); (case hp => exact (Reps.none _ _)); intro v245 w3 ho4 hb hg_ hnew_; clear hg_ hnew_; (first | rw [← Ny244.out] at ho4 | (simp only [Int.reduceToNat] at ho4; rw [← Ny244.out] at ho4)); have n0_ := Aside0.mk (Kd.R_lower ho4 (below_size (by repeat (first | (with_reducible first | exact HB.out | apply below_alloc | apply pw_below_drewN | apply below_drew1) | exact HB.out)))); have n1_ := Aside0.mk (below_step (by repeat (first | (with_reducible first | exact HB.out | apply below_alloc | apply pw_below_drewN | apply below_drew1) | exact HB.out)) hb); clear HB; have HO246 := n0_; have HB := n1_; clear n0_ n1_; clear hb ho4; have p247 : 0 ≤ (0 : Int) := (by omega); have q247 : 0 < (l0.length : Int) := of_decide_eq_true (by first | (with_reducible assumption) | assumption); obtain ⟨ad247, A247_1, c247_1, A247_2, c247_2, e247, hx247_0, hx247_1, hx247_2, hl247_1, hi247_1, hl247_2, hi247_2⟩ := at_T31 HR0.out 0 p247 q247; obtain rfl : adp0 = ad247 := (by injection e247); have qi247 : (0 < l0.length) = True := eq_true (by omega); (try rw [show ((0 : Int)).toNat = 0 from rfl] at hx247_0); (try rw [show 0 * 3 = 0 from rfl] at hx247_0); (try rw [Addr.add_zero'] at hx247_0); (try rw [show ((0 : Int)).toNat = 0 from rfl] at hx247_1); (try rw [show 0 * 3 = 0 from rfl] at hx247_1); (try rw [Addr.add_zero'] at hx247_1); (try rw [show ((0 : Int)).toNat = 0 from rfl] at hx247_2); (try rw [show 0 * 3 = 0 from rfl] at hx247_2); (try rw [Addr.add_zero'] at hx247_2); replace hx247_0 := (HB.out.cell (World.block_lt_of_cell? w _ hx247_0)).trans hx247_0; replace hx247_1 := (HB.out.cell (World.block_lt_of_cell? w _ hx247_1)).trans hx247_1; replace hx247_2 := (HB.out.cell (World.block_lt_of_cell? w _ hx247_2)).trans hx247_2; have HR247_1 := Aside0.mk hi247_1; have HC247_1 := Aside0.mk hl247_1; clear hi247_1 hl247_1; have HR247_2 := Aside0.mk hi247_2; have HC247_2 := Aside0.mk hl247_2; clear hi247_2 hl247_2; replace p247 := eq_true p247; replace q247 := eq_true q247))
  go_loopg [3, 12] k (fun kq v3 v12 w' => ∃ (x3_1 : List Int) (x12_1 : Int), v12 = .int .i64 x12_1 ∧ Aside0 (impl_Network_tables.l0 kq l0 x3_1 ((rd_T31 l0 0).f1) (((rd_T31 l0 0).f1).length : Int) x12_1 = some r) ∧ Aside0 (kq ≤ k) ∧ Aside0 (Kd.R (Kd.int .u64) 98 w' w.heap.size (fun _ => True) v3 x3_1) ∧ Aside0 (Below w.heap.size w w'))
  case atStart => exact ⟨(y244), (0), (by first | rfl | (simp; done) | (simp [*]; done) | (exact congrArg (Value.int .i64) (wrap_eq (by omega)))), H', ⟨Nat.le_refl _⟩, ⟨by (with_reducible repeat (first | apply Kd.R_alloc | apply Kd.R_drewN | apply Kd.R_drew)); exact HO246.out⟩, ⟨by repeat (first | (with_reducible first | exact HB.out | apply below_alloc | apply pw_below_drewN | apply below_drew1) | exact HB.out)⟩⟩
  case round =>
   clear H'
   try clear c2
   try clear c2b0
   try clear c2b1
   try clear p2
   try clear q2
   try clear hx2
   try clear qi2
   try clear hx247_0
   try clear hx247_1
   try clear hx247_2
   try clear p247
   try clear q247
   obtain ⟨x3_1, x12_1, rfl, HA, HK1, HO_3, HB⟩ := hrel
   cases gk with
   | zero => exact absurd HA.out (by simp [impl_Network_tables.l0])
   | succ k1 =>
    have H := HA.out
    clear HA
    simp only [impl_Network_tables.l0] at H
    by_cases c5 : x12_1 < (((rd_T31 l0 0).f1).length : Int)
    ·rw [if_pos c5] at H
     have c5b0 : decide (x12_1 < (((rd_T31 l0 0).f1).length : Int)) = true := decide_eq_true c5
     clear c5
     by_cases c6 : 0 ≤ x12_1
     ·rw [if_pos c6] at H
      have c6b0 : decide (0 ≤ x12_1) = true := decide_eq_true c6
      clear c6
      by_cases c7 : x12_1 < (((rd_T31 l0 0).f1).length : Int)
      ·rw [if_pos c7] at H
       have c7b0 : decide (x12_1 < (((rd_T31 l0 0).f1).length : Int)) = true := decide_eq_true c7
       clear c7
       by_cases c8 : ((rd_T81 ((rd_T31 l0 0).f1) x12_1).f0) = 0
       ·rw [if_pos c8] at H
        have c8b0 : (((rd_T81 ((rd_T31 l0 0).f1) x12_1).f0) == 0) = true := beq_iff_eq.mpr c8
        have c8b1 : (((rd_T81 ((rd_T31 l0 0).f1) x12_1).f0) != 0) = false := bne_eq_false_iff_eq.mpr c8
        clear c8
        by_cases c9 : 0 < (l0.length : Int)
        ·rw [if_pos c9] at H
         have c9b0 : decide (0 < (l0.length : Int)) = true := decide_eq_true c9
         have c9b1 : decide (0 < l0.length) = true := decide_eq_true (by omega)
         clear c9
         replace H := Option.bind_eq_some_iff.mp H
         obtain ⟨t251, A100, H⟩ := H
         replace H : (if x3_1.length < 17592186044416 then (impl_Network_tables.l0 k1 l0 (x3_1 ++ [t251]) ((rd_T31 l0 0).f1) (((rd_T31 l0 0).f1).length : Int) (wrap64 (x12_1 + 1))) else (none)) = some r := H
         have A10 := Aside0.mk A100
         clear A100
         by_cases c11 : x3_1.length < 17592186044416
         ·rw [if_pos c11] at H
          have LMc11 := Aside0.mk c11
          clear c11
          obtain ⟨y252, hy252⟩ : ∃ y_ : List Int, y_ = (x3_1 ++ [t251]) := ⟨_, rfl⟩
          replace H : (impl_Network_tables.l0 k1 l0 y252 ((rd_T31 l0 0).f1) (((rd_T31 l0 0).f1).length : Int) (wrap64 (x12_1 + 1))) = some r := by first | (rw [hy252]; with_reducible exact H) | (have H2_ := (Option.bind_some _ _).symm.trans H; rw [hy252]; with_reducible exact H2_) | (have H2_ := (Option.bind_some _ _).symm.trans H; with_reducible exact H2_) | with_reducible exact H | (rw [hy252]; exact H) | exact H
          have Ny252 := Aside0.mk hy252
          clear hy252
          have H' := Aside0.mk H
          clear H
          have p248 : 0 ≤ (x12_1 : Int) := of_decide_eq_true (by first | (with_reducible assumption) | assumption)
          have q248 : x12_1 < (((rd_T31 l0 0).f1).length : Int) := of_decide_eq_true (by first | (with_reducible assumption) | assumption)
          obtain ⟨ad248, e248, hx248_0, hx248_1, hx248_2⟩ := at_T81 HR247_1.out x12_1 p248 q248
          cases e248
          replace hx248_0 := (HB.out.cell (World.block_lt_of_cell? w _ hx248_0)).trans hx248_0
          replace hx248_1 := (HB.out.cell (World.block_lt_of_cell? w _ hx248_1)).trans hx248_1
          replace hx248_2 := (HB.out.cell (World.block_lt_of_cell? w _ hx248_2)).trans hx248_2
          replace p248 := eq_true p248
          replace q248 := eq_true q248
          try go_wp2_with (first | ((with_reducible refine gate_dst (N := 5) rfl ?_); refine box_event ?hg (N := 5) ?hd (cs := #[.int .i8 0, .int .i16 0, .int .i16 0]) (t := 81) ?hr ?_; (case hd => rfl); (case hg => rfl); (case hr => first | (go_simp; done) | (go_simp; rfl)); intro gb249 hg w12 hbox hb; have n0_ := Aside0.mk (Kd.R_below (by (with_reducible repeat (first | apply Kd.R_alloc | apply Kd.R_drewN | apply Kd.R_drew)); exact HO_3.out) hb); have n1_ := Aside0.mk (below_step (by repeat (first | (with_reducible first | exact HB.out | apply below_alloc | apply pw_below_drewN | apply below_drew1) | exact HB.out)) hb); have n2_ := Aside0.mk (hbox); have n3_ := Aside0.mk ((by rw [hg]; exact (below_size (by repeat (first | (with_reducible first | exact HB.out | apply below_alloc | apply pw_below_drewN | apply below_drew1) | exact HB.out))) : w.heap.size ≤ gb249)); have n4_ := Aside0.mk ((by rw [hg]; exact (below_size (by repeat (first | (with_reducible first | exact HB.out | apply below_alloc | apply pw_below_drewN | apply below_drew1) | exact HB.out))) : w.heap.size ≤ gb249)); clear HO_3; clear HB; have HO_3 := n0_; have HB := n1_; have BK249 := n2_; have GW249 := n3_; have GE249 := n4_; clear n0_ n1_ n2_ n3_ n4_; clear hb hbox hg; have hcz13_0 : w12.cell? ⟨gb249, 0, none⟩ = some (.int .i8 0) := (blk_cell BK249.out 0).trans rfl; have hcz13_1 : w12.cell? ⟨gb249, 1, none⟩ = some (.int .i16 0) := (blk_cell BK249.out 1).trans rfl; have hcz13_2 : w12.cell? ⟨gb249, 2, none⟩ = some (.int .i16 0) := (blk_cell BK249.out 2).trans rfl; have hfz13_0 := blk_frozen BK249.out 0; have hfz13_1 := blk_frozen BK249.out 1; have hfz13_2 := blk_frozen BK249.out 2))
          have n0_ : Aside0 (Kd.R (Kd.int .u64) 98 (((w12.setCell ⟨gb249, 0, none⟩ (.int .i8 ((rd_T81 ((rd_T31 l0 0).f1) x12_1).f0))).setCell ⟨gb249, 1, none⟩ (.int .i16 ((rd_T81 ((rd_T31 l0 0).f1) x12_1).f1))).setCell ⟨gb249, 2, none⟩ (.int .i16 ((rd_T81 ((rd_T31 l0 0).f1) x12_1).f2))) w.heap.size (fun _ => True) u3 x3_1) := ⟨by (with_reducible repeat (first | apply Kd.R_alloc | apply Kd.R_drewN | apply Kd.R_drew)); exact Kd.R_mono (Kd.R_far (p := ⟨gb249, 2, none⟩) (Kd.R_far (p := ⟨gb249, 1, none⟩) (Kd.R_far (p := ⟨gb249, 0, none⟩) (Kd.R_types HO_3.out BK249.out (by decide)) (fun _ hk => hk.2) (.int .i8 ((rd_T81 ((rd_T31 l0 0).f1) x12_1).f0))) (fun _ hk => hk.2) (.int .i16 ((rd_T81 ((rd_T31 l0 0).f1) x12_1).f1))) (fun _ hk => hk.2) (.int .i16 ((rd_T81 ((rd_T31 l0 0).f1) x12_1).f2))) (fun _ hk => trivial)⟩
          have n1_ : Aside0 ((((w12.setCell ⟨gb249, 0, none⟩ (.int .i8 ((rd_T81 ((rd_T31 l0 0).f1) x12_1).f0))).setCell ⟨gb249, 1, none⟩ (.int .i16 ((rd_T81 ((rd_T31 l0 0).f1) x12_1).f1))).setCell ⟨gb249, 2, none⟩ (.int .i16 ((rd_T81 ((rd_T31 l0 0).f1) x12_1).f2))).heap[gb249]? = some (.cells #[.int .i8 ((rd_T81 ((rd_T31 l0 0).f1) x12_1).f0), .int .i16 ((rd_T81 ((rd_T31 l0 0).f1) x12_1).f1), .int .i16 ((rd_T81 ((rd_T31 l0 0).f1) x12_1).f2)] 81 (0, 0))) := ⟨by (with_reducible repeat (first | refine blk_drewN ?_ _ | refine blk_drew ?_ | refine blk_alloc ?_ _)); refine blk_put (cs := #[.int .i8 ((rd_T81 ((rd_T31 l0 0).f1) x12_1).f0), .int .i16 ((rd_T81 ((rd_T31 l0 0).f1) x12_1).f1), .int .i16 0]) ?_ 2 _ rfl; (with_reducible repeat (first | refine blk_drewN ?_ _ | refine blk_drew ?_ | refine blk_alloc ?_ _)); refine blk_put (cs := #[.int .i8 ((rd_T81 ((rd_T31 l0 0).f1) x12_1).f0), .int .i16 0, .int .i16 0]) ?_ 1 _ rfl; (with_reducible repeat (first | refine blk_drewN ?_ _ | refine blk_drew ?_ | refine blk_alloc ?_ _)); refine blk_put (cs := #[.int .i8 0, .int .i16 0, .int .i16 0]) ?_ 0 _ rfl; (with_reducible repeat (first | refine blk_drewN ?_ _ | refine blk_drew ?_ | refine blk_alloc ?_ _)); exact BK249.out⟩
          have n2_ : Aside0 (Below w.heap.size w (((w12.setCell ⟨gb249, 0, none⟩ (.int .i8 ((rd_T81 ((rd_T31 l0 0).f1) x12_1).f0))).setCell ⟨gb249, 1, none⟩ (.int .i16 ((rd_T81 ((rd_T31 l0 0).f1) x12_1).f1))).setCell ⟨gb249, 2, none⟩ (.int .i16 ((rd_T81 ((rd_T31 l0 0).f1) x12_1).f2)))) := ⟨by repeat (first | (with_reducible first | exact HB.out | apply below_alloc | apply pw_below_drewN | apply below_drew1 | refine below_set ?_ GE249.out) | exact HB.out)⟩
          (try clear HO_3)
          (try clear BK249)
          (try clear HB)
          generalize (((w12.setCell ⟨gb249, 0, none⟩ (.int .i8 ((rd_T81 ((rd_T31 l0 0).f1) x12_1).f0))).setCell ⟨gb249, 1, none⟩ (.int .i16 ((rd_T81 ((rd_T31 l0 0).f1) x12_1).f1))).setCell ⟨gb249, 2, none⟩ (.int .i16 ((rd_T81 ((rd_T31 l0 0).f1) x12_1).f2))) = w14 at n0_ n1_ n2_ ⊢
          have HO_3 := n0_
          have BK249 := n1_
          have HB := n2_
          clear n0_ n1_ n2_
          have n0_ := Aside0.mk (Kd.R_drew HO_3.out)
          have n1_ := Aside0.mk (blk_drew BK249.out)
          have n2_ := Aside0.mk (below_drew1 HB.out)
          clear HO_3
          clear BK249
          clear HB
          have HO_3 := n0_
          have BK249 := n1_
          have HB := n2_
          clear n0_ n1_ n2_
          have p250 : 0 ≤ (0 : Int) := (by omega)
          have q250 : 0 < (l0.length : Int) := of_decide_eq_true (by first | (with_reducible assumption) | assumption)
          obtain ⟨ad250, A250_1, c250_1, A250_2, c250_2, e250, hx250_0, hx250_1, hx250_2, hl250_1, hi250_1, hl250_2, hi250_2⟩ := at_T31 HR0.out 0 p250 q250
          have hw250_2 := hx250_2
          (try rw [show ((0 : Int)).toNat = 0 from rfl] at hw250_2)
          (try rw [show 0 * 3 = 0 from rfl] at hw250_2)
          (try rw [Addr.add_zero'] at hw250_2)
          have hw250_1 := hx250_1
          (try rw [show ((0 : Int)).toNat = 0 from rfl] at hw250_1)
          (try rw [show 0 * 3 = 0 from rfl] at hw250_1)
          (try rw [Addr.add_zero'] at hw250_1)
          have hw250_0 := hx250_0
          (try rw [show ((0 : Int)).toNat = 0 from rfl] at hw250_0)
          (try rw [show 0 * 3 = 0 from rfl] at hw250_0)
          (try rw [Addr.add_zero'] at hw250_0)
          obtain rfl : adp0 = ad250 := (by injection e250)
          have qi250 : (0 < l0.length) = True := eq_true (by omega)
          (try rw [show ((0 : Int)).toNat = 0 from rfl] at hx250_0)
          (try rw [show 0 * 3 = 0 from rfl] at hx250_0)
          (try rw [Addr.add_zero'] at hx250_0)
          (try rw [show ((0 : Int)).toNat = 0 from rfl] at hx250_1)
          (try rw [show 0 * 3 = 0 from rfl] at hx250_1)
          (try rw [Addr.add_zero'] at hx250_1)
          (try rw [show ((0 : Int)).toNat = 0 from rfl] at hx250_2)
          (try rw [show 0 * 3 = 0 from rfl] at hx250_2)
          (try rw [Addr.add_zero'] at hx250_2)
          replace hx250_0 := (HB.out.cell (World.block_lt_of_cell? w _ hx250_0)).trans hx250_0
          replace hx250_1 := (HB.out.cell (World.block_lt_of_cell? w _ hx250_1)).trans hx250_1
          replace hx250_2 := (HB.out.cell (World.block_lt_of_cell? w _ hx250_2)).trans hx250_2
          have HR250_1 := Aside0.mk hi250_1
          have HC250_1 := Aside0.mk hl250_1
          clear hi250_1 hl250_1
          have HR250_2 := Aside0.mk hi250_2
          have HC250_2 := Aside0.mk hl250_2
          clear hi250_2 hl250_2
          replace p250 := eq_true p250
          replace q250 := eq_true q250
          refine start_ (n := 13) (S := fun w' => w'.cell? ⟨gb249, 0, none⟩ = some (.int .i8 ((rd_T81 ((rd_T31 l0 0).f1) x12_1).f0)) ∧ w'.cell? ⟨gb249, 1, none⟩ = some (.int .i16 ((rd_T81 ((rd_T31 l0 0).f1) x12_1).f1)) ∧ w'.cell? ⟨gb249, 2, none⟩ = some (.int .i16 ((rd_T81 ((rd_T31 l0 0).f1) x12_1).f2)) ∧ w'.cell? adp0 = some (.int .i8 ((rd_T31 l0 0).f0)) ∧ w'.cell? ⟨adp0.block, adp0.off + 1, none⟩ = some (.slice A250_1 ((rd_T31 l0 0).f1).length c250_1) ∧ w'.cell? ⟨adp0.block, adp0.off + 2, none⟩ = some (.slice A250_2 ((rd_T31 l0 0).f2).length c250_2)) (ds := []) #[false, false, false, false, false, false, false, false, false, false, false, false, false] (by kernel_rfl) rfl rfl ⟨(blk_cell BK249.out 0).trans rfl, (blk_cell BK249.out 1).trans rfl, (blk_cell BK249.out 2).trans rfl, ((HB.out.cell (World.block_lt_of_cell? w _ hw250_0)).trans hw250_0), ((HB.out.cell (World.block_lt_of_cell? w _ hw250_1)).trans hw250_1), ((HB.out.cell (World.block_lt_of_cell? w _ hw250_2)).trans hw250_2)⟩ (fun hHeld => ?_); refine with_tabW impl_Network_tables.tab8 impl_Network_tables.bits8 (fun HT_ HW_ => ?_)
          generalize w14.drew = w15 at HO_3 BK249 HB HR250_1 HR250_2 hx250_0 hx250_1 hx250_2 hHeld ⊢
          refine pure_ (i := 0) (N := some 34) (v := ?_) (a' := ?_) #[true, false, false, false, false, false, false, false, false, false, false, false, false] rfl rfl (any_of HT_.out (by kernel_rfl)) (fun _ _ _ h => h) (Or.inl ⟨by rfl, ?_⟩) ?_ ?_
          rotate_left
          ·intro w'
           go_simp
           with_reducible rfl
          rotate_left
          ·simp only [Act.put, List.setIfInBounds_toArray, List.set_cons_zero, List.set_cons_succ, i64_w, i32_w]
           rfl
          refine pure_ (i := 1) (N := some 35) (v := ?_) (a' := ?_) #[true, true, false, false, false, false, false, false, false, false, false, false, false] rfl rfl (any_of HT_.out (by kernel_rfl)) (fun _ _ _ h => h) (Or.inl ⟨by rfl, ?_⟩) ?_ ?_
          rotate_left
          ·intro w'
           go_simp
           with_reducible rfl
          rotate_left
          ·simp only [Act.put, List.setIfInBounds_toArray, List.set_cons_zero, List.set_cons_succ, i64_w, i32_w]
           rfl
          refine pure_ (i := 2) (N := some 36) (v := ?_) (a' := ?_) #[true, true, true, false, false, false, false, false, false, false, false, false, false] rfl rfl (any_of HT_.out (by kernel_rfl)) (fun _ _ _ h => h) (Or.inl ⟨by rfl, ?_⟩) ?_ ?_
          rotate_left
          ·intro w'
           go_simp
           with_reducible rfl
          rotate_left
          ·simp only [Act.put, List.setIfInBounds_toArray, List.set_cons_zero, List.set_cons_succ, i64_w, i32_w]
           rfl
          refine pure_ (i := 3) (N := some 37) (v := ?_) (a' := ?_) #[true, true, true, true, false, false, false, false, false, false, false, false, false] rfl rfl (any_of HT_.out (by kernel_rfl)) (fun _ _ _ h => h) (Or.inl ⟨by rfl, ?_⟩) ?_ ?_
          rotate_left
          ·intro w'
           go_simp
           with_reducible rfl
          rotate_left
          ·simp only [Act.put, List.setIfInBounds_toArray, List.set_cons_zero, List.set_cons_succ, i64_w, i32_w]
           rfl
          refine pure_ (i := 6) (N := some 40) (v := ?_) (a' := ?_) #[true, true, true, true, false, false, true, false, false, false, false, false, false] rfl rfl (any_of HT_.out (by kernel_rfl)) (fun _ _ _ h => h) (Or.inl ⟨by rfl, ?_⟩) ?_ ?_
          rotate_left
          ·intro w'
           go_simp
           with_reducible rfl
          rotate_left
          ·simp only [Act.put, List.setIfInBounds_toArray, List.set_cons_zero, List.set_cons_succ, i64_w, i32_w]
           rfl
          refine take_ (i := 4) (N := some 38) (v := ?_) (a' := ?_) #[true, true, true, true, true, false, true, false, false, false, false, false, false] rfl rfl (take_ofW HT_.out HW_.out (by kernel_rfl)) (fun _ _ _ h => h) (Or.inl ⟨by rfl, ?_⟩) hHeld ?_ ?_
          rotate_left
          ·rintro w' ⟨s0, s1, s2, s3, s4, s5⟩
           go_simp
           with_reducible rfl
          rotate_left
          ·simp only [Act.put, List.setIfInBounds_toArray, List.set_cons_zero, List.set_cons_succ, i64_w, i32_w]
           rfl
          refine pure_ (i := 5) (N := some 39) (v := ?_) (a' := ?_) #[true, true, true, true, true, true, true, false, false, false, false, false, false] rfl rfl (any_of HT_.out (by kernel_rfl)) (fun _ _ _ h => h) (Or.inl ⟨by rfl, ?_⟩) ?_ ?_
          rotate_left
          ·intro w'
           go_simp
           with_reducible rfl
          rotate_left
          ·simp only [Act.put, List.setIfInBounds_toArray, List.set_cons_zero, List.set_cons_succ, i64_w, i32_w]
           rfl
          refine take_ (i := 7) (N := some 41) (v := ?_) (a' := ?_) #[true, true, true, true, true, true, true, true, false, false, false, false, false] rfl rfl (take_ofW HT_.out HW_.out (by kernel_rfl)) (fun _ _ _ h => h) (Or.inl ⟨by rfl, ?_⟩) hHeld ?_ ?_
          rotate_left
          ·rintro w' ⟨s0, s1, s2, s3, s4, s5⟩
           go_simp
           with_reducible rfl
          rotate_left
          ·simp only [Act.put, List.setIfInBounds_toArray, List.set_cons_zero, List.set_cons_succ, i64_w, i32_w]
           rfl
          refine pure_ (i := 8) (N := some 42) (v := ?_) (a' := ?_) #[true, true, true, true, true, true, true, true, true, false, false, false, false] rfl rfl (any_of HT_.out (by kernel_rfl)) (fun _ _ _ h => h) (Or.inl ⟨by rfl, ?_⟩) ?_ ?_
          rotate_left
          ·intro w'
           go_simp
           with_reducible rfl
          rotate_left
          ·simp only [Act.put, List.setIfInBounds_toArray, List.set_cons_zero, List.set_cons_succ, i64_w, i32_w]
           rfl
          refine one_ (i := 9) (N := some 43) #[true, true, true, true, true, true, true, true, true, true, false, false, false] rfl rfl (one_of HT_.out (by kernel_rfl)) (by decide) (fun K hK => ?_)
          refine goes_ Try.func130 (by kernel_rfl) rfl #[.int .i64 (wrap64 ((rd_T31 l0 0).f0)), .int .i64 (wrap64 ((rd_T81 ((rd_T31 l0 0).f1) x12_1).f1))] (by rfl) rfl rfl (by (try simp only [List.map_toArray, List.map_cons, List.map_nil]); first | done | rfl | (simp only [List.length_drop, List.length_take]; rfl)) ?_
          with_reducible refine (impl_inputTable.calls k1 (wrap64 ((rd_T31 l0 0).f0)) (wrap64 ((rd_T81 ((rd_T31 l0 0).f1) x12_1).f1)) t251 _ A10.out).mono ?_
          rintro e w' ⟨rfl, ⟨nd, rfl⟩⟩
          refine ⟨_, rfl, ?_⟩
          refine hK.out _ _ ⟨(blk_cell BK249.out 0).trans rfl, (blk_cell BK249.out 1).trans rfl, (blk_cell BK249.out 2).trans rfl, ((HB.out.cell (World.block_lt_of_cell? w _ hw250_0)).trans hw250_0), ((HB.out.cell (World.block_lt_of_cell? w _ hw250_1)).trans hw250_1), ((HB.out.cell (World.block_lt_of_cell? w _ hw250_2)).trans hw250_2)⟩ (fun hHeld => ?_)
          clear hK K
          refine norm_ (a' := ?_) ?_ ?_
          rotate_left
          ·show Act.put _ (some 43) _ = _
           simp only [Act.put, List.setIfInBounds_toArray, List.set_cons_zero, List.set_cons_succ, i64_w, i32_w]
           rfl
          refine one_ (i := 10) (N := some 44) #[true, true, true, true, true, true, true, true, true, true, true, false, false] rfl rfl (one_of HT_.out (by kernel_rfl)) (by decide) (fun K hK => ?_)
          refine value_ (w1 := ?_) (v := ?_) (by rfl) rfl ?_ ?_
          rotate_left 2
          ·go_simp
           constructor
           ·rfl
           ·rfl
          refine hK.out _ _ ⟨(blk_cell (blk_alloc BK249.out _) 0).trans rfl, (blk_cell (blk_alloc BK249.out _) 1).trans rfl, (blk_cell (blk_alloc BK249.out _) 2).trans rfl, (World.cell?_alloc_lt _ _ _ (World.block_lt_of_cell? _ _ (((HB.out.cell (World.block_lt_of_cell? w _ hw250_0)).trans hw250_0)))).trans (((HB.out.cell (World.block_lt_of_cell? w _ hw250_0)).trans hw250_0)), (World.cell?_alloc_lt _ _ _ (World.block_lt_of_cell? _ _ (((HB.out.cell (World.block_lt_of_cell? w _ hw250_1)).trans hw250_1)))).trans (((HB.out.cell (World.block_lt_of_cell? w _ hw250_1)).trans hw250_1)), (World.cell?_alloc_lt _ _ _ (World.block_lt_of_cell? _ _ (((HB.out.cell (World.block_lt_of_cell? w _ hw250_2)).trans hw250_2)))).trans (((HB.out.cell (World.block_lt_of_cell? w _ hw250_2)).trans hw250_2))⟩ (fun hHeld => ?_)
          clear hK K
          refine norm_ (a' := ?_) ?_ ?_
          rotate_left
          ·show Act.put _ (some 44) _ = _
           simp only [Act.put, List.setIfInBounds_toArray, List.set_cons_zero, List.set_cons_succ, i64_w, i32_w]
           rfl
          refine one_ (i := 11) (N := some 45) #[true, true, true, true, true, true, true, true, true, true, true, true, false] rfl rfl (one_of HT_.out (by kernel_rfl)) (by decide) (fun K hK => ?_)
          refine Kd.R_append_step (Kd.int .u64) (w0 := w) w.heap.size (by rfl) (.tmp 34) (.tmp 44) 53 98 (.int .u64 0) 8 rfl Try.underlying53 info98 rfl (by decide) (by omega) u3 x3_1 t251 [.int .u64 t251] (fun _ => True) (fun _ => False) rfl rfl ?aP (fun _ hk => hk.elim) ?aF ?aO ?aB ?aS ?aL ?_
          (case aP => exact rfl)
          (case aB => exact (by repeat (first | (with_reducible first | exact HB.out | apply below_alloc | apply pw_below_drewN | apply below_drew1 | refine below_set ?_ GE249.out) | exact HB.out)))
          (case aF => exact (fun _ _ => trivial))
          (case aO => exact (by (with_reducible repeat (first | apply Kd.R_alloc | apply Kd.R_drewN | apply Kd.R_drew)); exact HO_3.out))
          (case aS => exact (below_size (by repeat (first | (with_reducible first | exact HB.out | apply below_alloc | apply pw_below_drewN | apply below_drew1 | refine below_set ?_ GE249.out) | exact HB.out))))
          (case aL => have := LMc11.out; omega)
          intro v253 w16 ho hb hg hat
          rw [← Ny252.out] at ho
          have n0_ := Aside0.mk (blk_grown (g := gb249) (o := .cells #[.int .i8 ((rd_T81 ((rd_T31 l0 0).f1) x12_1).f0), .int .i16 ((rd_T81 ((rd_T31 l0 0).f1) x12_1).f1), .int .i16 ((rd_T81 ((rd_T31 l0 0).f1) x12_1).f2)] 81 (0, 0)) (by (with_reducible repeat (first | refine blk_drewN ?_ _ | refine blk_drew ?_ | refine blk_alloc ?_ _)); exact BK249.out) hg (Kd.R_ne HO_3.out BK249.out (by decide)))
          have n1_ := Aside0.mk (hb)
          have n2_ := Aside0.mk (ho)
          clear BK249
          clear HB
          clear HO_3
          have BK249 := n0_
          have HB := n1_
          have HO254 := n2_
          clear n0_ n1_ n2_
          clear ho hb hg hat
          refine hK.out _ _ ⟨(blk_cell BK249.out 0).trans rfl, (blk_cell BK249.out 1).trans rfl, (blk_cell BK249.out 2).trans rfl, ((HB.out.cell (World.block_lt_of_cell? w _ hw250_0)).trans hw250_0), ((HB.out.cell (World.block_lt_of_cell? w _ hw250_1)).trans hw250_1), ((HB.out.cell (World.block_lt_of_cell? w _ hw250_2)).trans hw250_2)⟩ (fun hHeld => ?_)
          clear hK K
          refine norm_ (a' := ?_) ?_ ?_
          rotate_left
          ·show Act.put _ (some 45) _ = _
           simp only [Act.put, List.setIfInBounds_toArray, List.set_cons_zero, List.set_cons_succ, i64_w, i32_w]
           rfl
          refine pure_ (i := 12) (N := some 3) (v := ?_) (a' := ?_) #[true, true, true, true, true, true, true, true, true, true, true, true, true] rfl rfl (any_of HT_.out (by kernel_rfl)) (fun _ _ _ h => h) (Or.inl ⟨by rfl, ?_⟩) ?_ ?_
          rotate_left
          ·intro w'
           go_simp
           with_reducible rfl
          rotate_left
          ·simp only [Act.put, List.setIfInBounds_toArray, List.set_cons_zero, List.set_cons_succ, i64_w, i32_w]
           rfl
          refine done_ (done_of HT_.out (by kernel_rfl)) ?_
          try go_wp2
          go_roundg k1
          case measure => have := HK1.out; omega
          case rel => exact ⟨(y252), (wrap64 (x12_1 + 1)), (by first | rfl | (simp; done) | (simp [*]; done) | (exact congrArg (Value.int .i64) (wrap_eq (by omega)))), H', ⟨by have := HK1.out; omega⟩, ⟨by (with_reducible repeat (first | apply Kd.R_alloc | apply Kd.R_drewN | apply Kd.R_drew)); exact HO254.out⟩, ⟨by repeat (first | (with_reducible first | exact HB.out | apply below_alloc | apply pw_below_drewN | apply below_drew1 | refine below_set ?_ GE249.out) | exact HB.out)⟩⟩
         ·rw [if_neg c11] at H
          exact absurd H (by simp)
        ·rw [if_neg c9] at H
         exact absurd H (by simp)
       ·rw [if_neg c8] at H
        have c8b0 : (((rd_T81 ((rd_T31 l0 0).f1) x12_1).f0) == 0) = false := beq_eq_false_iff_ne.mpr c8
        have c8b1 : (((rd_T81 ((rd_T31 l0 0).f1) x12_1).f0) != 0) = true := bne_iff_ne.mpr c8
        by_cases c17 : ((rd_T81 ((rd_T31 l0 0).f1) x12_1).f0) = 1
        ·rw [if_pos c17] at H
         have c17b0 : (((rd_T81 ((rd_T31 l0 0).f1) x12_1).f0) == 1) = true := beq_iff_eq.mpr c17
         have c17b1 : (((rd_T81 ((rd_T31 l0 0).f1) x12_1).f0) != 1) = false := bne_eq_false_iff_eq.mpr c17
         clear c17
         by_cases c18 : 0 < (l0.length : Int)
         ·rw [if_pos c18] at H
          have c18b0 : decide (0 < (l0.length : Int)) = true := decide_eq_true c18
          have c18b1 : decide (0 < l0.length) = true := decide_eq_true (by omega)
          clear c18
          replace H := Option.bind_eq_some_iff.mp H
          obtain ⟨t256, A190, H⟩ := H
          replace H : (if x3_1.length < 17592186044416 then (impl_Network_tables.l0 k1 l0 (x3_1 ++ [t256]) ((rd_T31 l0 0).f1) (((rd_T31 l0 0).f1).length : Int) (wrap64 (x12_1 + 1))) else (none)) = some r := H
          have A19 := Aside0.mk A190
          clear A190
          by_cases c20 : x3_1.length < 17592186044416
          ·rw [if_pos c20] at H
           have LMc20 := Aside0.mk c20
           clear c20
           obtain ⟨y257, hy257⟩ : ∃ y_ : List Int, y_ = (x3_1 ++ [t256]) := ⟨_, rfl⟩
           replace H : (impl_Network_tables.l0 k1 l0 y257 ((rd_T31 l0 0).f1) (((rd_T31 l0 0).f1).length : Int) (wrap64 (x12_1 + 1))) = some r := by first | (rw [hy257]; with_reducible exact H) | (have H2_ := (Option.bind_some _ _).symm.trans H; rw [hy257]; with_reducible exact H2_) | (have H2_ := (Option.bind_some _ _).symm.trans H; with_reducible exact H2_) | with_reducible exact H | (rw [hy257]; exact H) | exact H
           have Ny257 := Aside0.mk hy257
           clear hy257
           have H' := Aside0.mk H
           clear H
           have p248 : 0 ≤ (x12_1 : Int) := of_decide_eq_true (by first | (with_reducible assumption) | assumption)
           have q248 : x12_1 < (((rd_T31 l0 0).f1).length : Int) := of_decide_eq_true (by first | (with_reducible assumption) | assumption)
           obtain ⟨ad248, e248, hx248_0, hx248_1, hx248_2⟩ := at_T81 HR247_1.out x12_1 p248 q248
           cases e248
           replace hx248_0 := (HB.out.cell (World.block_lt_of_cell? w _ hx248_0)).trans hx248_0
           replace hx248_1 := (HB.out.cell (World.block_lt_of_cell? w _ hx248_1)).trans hx248_1
           replace hx248_2 := (HB.out.cell (World.block_lt_of_cell? w _ hx248_2)).trans hx248_2
           replace p248 := eq_true p248
           replace q248 := eq_true q248
           go_wp2_with (first | ((with_reducible refine gate_dst (N := 5) rfl ?_); refine box_event ?hg (N := 5) ?hd (cs := #[.int .i8 0, .int .i16 0, .int .i16 0]) (t := 81) ?hr ?_; (case hd => rfl); (case hg => rfl); (case hr => first | (go_simp; done) | (go_simp; rfl)); intro gb249 hg w21 hbox hb; have n0_ := Aside0.mk (Kd.R_below (by (with_reducible repeat (first | apply Kd.R_alloc | apply Kd.R_drewN | apply Kd.R_drew)); exact HO_3.out) hb); have n1_ := Aside0.mk (below_step (by repeat (first | (with_reducible first | exact HB.out | apply below_alloc | apply pw_below_drewN | apply below_drew1) | exact HB.out)) hb); have n2_ := Aside0.mk (hbox); have n3_ := Aside0.mk ((by rw [hg]; exact (below_size (by repeat (first | (with_reducible first | exact HB.out | apply below_alloc | apply pw_below_drewN | apply below_drew1) | exact HB.out))) : w.heap.size ≤ gb249)); have n4_ := Aside0.mk ((by rw [hg]; exact (below_size (by repeat (first | (with_reducible first | exact HB.out | apply below_alloc | apply pw_below_drewN | apply below_drew1) | exact HB.out))) : w.heap.size ≤ gb249)); clear HO_3; clear HB; have HO_3 := n0_; have HB := n1_; have BK249 := n2_; have GW249 := n3_; have GE249 := n4_; clear n0_ n1_ n2_ n3_ n4_; clear hb hbox hg; have hcz22_0 : w21.cell? ⟨gb249, 0, none⟩ = some (.int .i8 0) := (blk_cell BK249.out 0).trans rfl; have hcz22_1 : w21.cell? ⟨gb249, 1, none⟩ = some (.int .i16 0) := (blk_cell BK249.out 1).trans rfl; have hcz22_2 : w21.cell? ⟨gb249, 2, none⟩ = some (.int .i16 0) := (blk_cell BK249.out 2).trans rfl; have hfz22_0 := blk_frozen BK249.out 0; have hfz22_1 := blk_frozen BK249.out 1; have hfz22_2 := blk_frozen BK249.out 2; have p255 : 0 ≤ (0 : Int) := (by omega); have q255 : 0 < (l0.length : Int) := of_decide_eq_true (by first | (with_reducible assumption) | assumption); obtain ⟨ad255, A255_1, c255_1, A255_2, c255_2, e255, hx255_0, hx255_1, hx255_2, hl255_1, hi255_1, hl255_2, hi255_2⟩ := at_T31 HR0.out 0 p255 q255; obtain rfl : adp0 = ad255 := (by injection e255); have qi255 : (0 < l0.length) = True := eq_true (by omega); (try rw [show ((0 : Int)).toNat = 0 from rfl] at hx255_0); (try rw [show 0 * 3 = 0 from rfl] at hx255_0); (try rw [Addr.add_zero'] at hx255_0); (try rw [show ((0 : Int)).toNat = 0 from rfl] at hx255_1); (try rw [show 0 * 3 = 0 from rfl] at hx255_1); (try rw [Addr.add_zero'] at hx255_1); (try rw [show ((0 : Int)).toNat = 0 from rfl] at hx255_2); (try rw [show 0 * 3 = 0 from rfl] at hx255_2); (try rw [Addr.add_zero'] at hx255_2); have hn255_0 : adp0.block ≠ gb249 := Nat.ne_of_lt (Nat.lt_of_lt_of_le (by have := World.block_lt_of_cell? _ _ hx255_0; first | rwa [add_block] at this | exact this) GW249.out); have hn255_1 : adp0.block ≠ gb249 := Nat.ne_of_lt (Nat.lt_of_lt_of_le (by have := World.block_lt_of_cell? _ _ hx255_0; first | rwa [add_block] at this | exact this) GW249.out); have hn255_2 : adp0.block ≠ gb249 := Nat.ne_of_lt (Nat.lt_of_lt_of_le (by have := World.block_lt_of_cell? _ _ hx255_0; first | rwa [add_block] at this | exact this) GW249.out); replace hx255_0 := (HB.out.cell (World.block_lt_of_cell? w _ hx255_0)).trans hx255_0; replace hx255_1 := (HB.out.cell (World.block_lt_of_cell? w _ hx255_1)).trans hx255_1; replace hx255_2 := (HB.out.cell (World.block_lt_of_cell? w _ hx255_2)).trans hx255_2; have HR255_1 := Aside0.mk hi255_1; have HC255_1 := Aside0.mk hl255_1; clear hi255_1 hl255_1; have HR255_2 := Aside0.mk hi255_2; have HC255_2 := Aside0.mk hl255_2; clear hi255_2 hl255_2; replace hx255_0 := (cell_far (p := ⟨gb249, 0, none⟩) (by first | (rw [add_block]; exact hn255_0) | (show (Addr.add _ _).block ≠ _; rw [add_block]; exact hn255_0) | exact hn255_0) (.int .i8 ((rd_T81 ((rd_T31 l0 0).f1) x12_1).f0))).trans hx255_0; replace hx255_1 := (cell_far (p := ⟨gb249, 0, none⟩) (by first | (rw [add_block]; exact hn255_0) | (show (Addr.add _ _).block ≠ _; rw [add_block]; exact hn255_0) | exact hn255_0) (.int .i8 ((rd_T81 ((rd_T31 l0 0).f1) x12_1).f0))).trans hx255_1; replace hx255_2 := (cell_far (p := ⟨gb249, 0, none⟩) (by first | (rw [add_block]; exact hn255_0) | (show (Addr.add _ _).block ≠ _; rw [add_block]; exact hn255_0) | exact hn255_0) (.int .i8 ((rd_T81 ((rd_T31 l0 0).f1) x12_1).f0))).trans hx255_2; replace hx255_0 := (cell_far (p := ⟨gb249, 1, none⟩) (by first | (rw [add_block]; exact hn255_1) | (show (Addr.add _ _).block ≠ _; rw [add_block]; exact hn255_1) | exact hn255_1) (.int .i16 ((rd_T81 ((rd_T31 l0 0).f1) x12_1).f1))).trans hx255_0; replace hx255_1 := (cell_far (p := ⟨gb249, 1, none⟩) (by first | (rw [add_block]; exact hn255_1) | (show (Addr.add _ _).block ≠ _; rw [add_block]; exact hn255_1) | exact hn255_1) (.int .i16 ((rd_T81 ((rd_T31 l0 0).f1) x12_1).f1))).trans hx255_1; replace hx255_2 := (cell_far (p := ⟨gb249, 1, none⟩) (by first | (rw [add_block]; exact hn255_1) | (show (Addr.add _ _).block ≠ _; rw [add_block]; exact hn255_1) | exact hn255_1) (.int .i16 ((rd_T81 ((rd_T31 l0 0).f1) x12_1).f1))).trans hx255_2; replace hx255_0 := (cell_far (p := ⟨gb249, 2, none⟩) (by first | (rw [add_block]; exact hn255_2) | (show (Addr.add _ _).block ≠ _; rw [add_block]; exact hn255_2) | exact hn255_2) (.int .i16 ((rd_T81 ((rd_T31 l0 0).f1) x12_1).f2))).trans hx255_0; replace hx255_1 := (cell_far (p := ⟨gb249, 2, none⟩) (by first | (rw [add_block]; exact hn255_2) | (show (Addr.add _ _).block ≠ _; rw [add_block]; exact hn255_2) | exact hn255_2) (.int .i16 ((rd_T81 ((rd_T31 l0 0).f1) x12_1).f2))).trans hx255_1; replace hx255_2 := (cell_far (p := ⟨gb249, 2, none⟩) (by first | (rw [add_block]; exact hn255_2) | (show (Addr.add _ _).block ≠ _; rw [add_block]; exact hn255_2) | exact hn255_2) (.int .i16 ((rd_T81 ((rd_T31 l0 0).f1) x12_1).f2))).trans hx255_2; clear hn255_0; clear hn255_1; clear hn255_2; replace p255 := eq_true p255; replace q255 := eq_true q255) | ((with_reducible refine gate_callee (f := 131) rfl ?_); refine goesL_ (some 54) rfl rfl Try.func131 (by kernel_rfl) rfl #[.int .i64 (wrap64 ((rd_T31 l0 0).f0))] rfl (by (try simp only [List.map_toArray, List.map_cons, List.map_nil]); first | done | rfl | (simp only [List.length_drop, List.length_take]; rfl)) ?_; (with_reducible refine (impl_full.calls (wrap64 ((rd_T31 l0 0).f0)) t256 _ A19.out).mono ?_); rintro e w' ⟨rfl, ⟨nd, rfl⟩⟩; refine ⟨_, rfl, ?_⟩) | ((with_reducible refine gate_builtin (b := .append) (xs := #[.tmp 48, .tmp 55]) rfl ?_); at_builtin; refine Kd.R_append (Kd.int .u64) (w0 := w) w.heap.size rfl (.tmp 48) (.tmp 55) 53 98 (.int .u64 0) 8 rfl Try.underlying53 info98 rfl (by decide) (by omega) u3 x3_1 t256 [.int .u64 t256] (fun _ => True) (fun _ => False) rfl (by first | (go_simp; done) | (go_simp; rfl)) ?aP (fun _ hk => hk.elim) ?aF ?aO ?aB ?aS ?aL ?_; (case aP => exact rfl); (case aB => exact (by repeat (first | (with_reducible first | exact HB.out | apply below_alloc | apply pw_below_drewN | apply below_drew1 | refine below_set ?_ GE249.out) | exact HB.out))); (case aF => exact (fun _ _ => trivial)); (case aO => exact (by (with_reducible repeat (first | apply Kd.R_alloc | apply Kd.R_drewN | apply Kd.R_drew)); exact Kd.R_mono (Kd.R_far (p := ⟨gb249, 2, none⟩) (Kd.R_far (p := ⟨gb249, 1, none⟩) (Kd.R_far (p := ⟨gb249, 0, none⟩) (Kd.R_types HO_3.out BK249.out (by decide)) (fun _ hk => hk.2) (.int .i8 ((rd_T81 ((rd_T31 l0 0).f1) x12_1).f0))) (fun _ hk => hk.2) (.int .i16 ((rd_T81 ((rd_T31 l0 0).f1) x12_1).f1))) (fun _ hk => hk.2) (.int .i16 ((rd_T81 ((rd_T31 l0 0).f1) x12_1).f2))) (fun _ hk => trivial))); (case aS => exact (below_size (by repeat (first | (with_reducible first | exact HB.out | apply below_alloc | apply pw_below_drewN | apply below_drew1 | refine below_set ?_ GE249.out) | exact HB.out)))); (case aL => have := LMc20.out; omega); intro v258 w23 ho hb hg hat; rw [← Ny257.out] at ho; have n0_ := Aside0.mk (blk_grown (g := gb249) (o := .cells #[.int .i8 ((rd_T81 ((rd_T31 l0 0).f1) x12_1).f0), .int .i16 ((rd_T81 ((rd_T31 l0 0).f1) x12_1).f1), .int .i16 ((rd_T81 ((rd_T31 l0 0).f1) x12_1).f2)] 81 (0, 0)) (by (with_reducible repeat (first | refine blk_drewN ?_ _ | refine blk_drew ?_ | refine blk_alloc ?_ _)); refine blk_put (cs := #[.int .i8 ((rd_T81 ((rd_T31 l0 0).f1) x12_1).f0), .int .i16 ((rd_T81 ((rd_T31 l0 0).f1) x12_1).f1), .int .i16 0]) ?_ 2 _ rfl; (with_reducible repeat (first | refine blk_drewN ?_ _ | refine blk_drew ?_ | refine blk_alloc ?_ _)); refine blk_put (cs := #[.int .i8 ((rd_T81 ((rd_T31 l0 0).f1) x12_1).f0), .int .i16 0, .int .i16 0]) ?_ 1 _ rfl; (with_reducible repeat (first | refine blk_drewN ?_ _ | refine blk_drew ?_ | refine blk_alloc ?_ _)); refine blk_put (cs := #[.int .i8 0, .int .i16 0, .int .i16 0]) ?_ 0 _ rfl; (with_reducible repeat (first | refine blk_drewN ?_ _ | refine blk_drew ?_ | refine blk_alloc ?_ _)); exact BK249.out) hg (Kd.R_ne HO_3.out BK249.out (by decide))); have n1_ := Aside0.mk (hb); have n2_ := Aside0.mk (ho); clear BK249; clear HB; clear HO_3; have BK249 := n0_; have HB := n1_; have HO259 := n2_; clear n0_ n1_ n2_; clear ho hb hg hat))
           go_roundg k1
           case measure => have := HK1.out; omega
           case rel => exact ⟨(y257), (wrap64 (x12_1 + 1)), (by first | rfl | (simp; done) | (simp [*]; done) | (exact congrArg (Value.int .i64) (wrap_eq (by omega)))), H', ⟨by have := HK1.out; omega⟩, ⟨by (with_reducible repeat (first | apply Kd.R_alloc | apply Kd.R_drewN | apply Kd.R_drew)); exact HO259.out⟩, ⟨by repeat (first | (with_reducible first | exact HB.out | apply below_alloc | apply pw_below_drewN | apply below_drew1 | refine below_set ?_ GE249.out) | exact HB.out)⟩⟩
          ·rw [if_neg c20] at H
           exact absurd H (by simp)
         ·rw [if_neg c18] at H
          exact absurd H (by simp)
        ·rw [if_neg c17] at H
         have c17b0 : (((rd_T81 ((rd_T31 l0 0).f1) x12_1).f0) == 1) = false := beq_eq_false_iff_ne.mpr c17
         have c17b1 : (((rd_T81 ((rd_T31 l0 0).f1) x12_1).f0) != 1) = true := bne_iff_ne.mpr c17
         by_cases c24 : ((rd_T81 ((rd_T31 l0 0).f1) x12_1).f0) = 2
         ·rw [if_pos c24] at H
          have c24b0 : (((rd_T81 ((rd_T31 l0 0).f1) x12_1).f0) == 2) = true := beq_iff_eq.mpr c24
          have c24b1 : (((rd_T81 ((rd_T31 l0 0).f1) x12_1).f0) != 2) = false := bne_eq_false_iff_eq.mpr c24
          clear c24
          by_cases c25 : 0 ≤ ((rd_T81 ((rd_T31 l0 0).f1) x12_1).f1)
          ·rw [if_pos c25] at H
           have c25b0 : decide (0 ≤ ((rd_T81 ((rd_T31 l0 0).f1) x12_1).f1)) = true := decide_eq_true c25
           clear c25
           by_cases c26 : ((rd_T81 ((rd_T31 l0 0).f1) x12_1).f1) < (x3_1.length : Int)
           ·rw [if_pos c26] at H
            have c26b0 : decide (((rd_T81 ((rd_T31 l0 0).f1) x12_1).f1) < (x3_1.length : Int)) = true := decide_eq_true c26
            clear c26
            by_cases c27 : 0 ≤ ((rd_T81 ((rd_T31 l0 0).f1) x12_1).f2)
            ·rw [if_pos c27] at H
             have c27b0 : decide (0 ≤ ((rd_T81 ((rd_T31 l0 0).f1) x12_1).f2)) = true := decide_eq_true c27
             clear c27
             by_cases c28 : ((rd_T81 ((rd_T31 l0 0).f1) x12_1).f2) < (x3_1.length : Int)
             ·rw [if_pos c28] at H
              have c28b0 : decide (((rd_T81 ((rd_T31 l0 0).f1) x12_1).f2) < (x3_1.length : Int)) = true := decide_eq_true c28
              clear c28
              by_cases c29 : x3_1.length < 17592186044416
              ·rw [if_pos c29] at H
               have LMc29 := Aside0.mk c29
               clear c29
               obtain ⟨y262, hy262⟩ : ∃ y_ : List Int, y_ = (x3_1 ++ [Go.bits .or .u64 (rd x3_1 ((rd_T81 ((rd_T31 l0 0).f1) x12_1).f1)) (rd x3_1 ((rd_T81 ((rd_T31 l0 0).f1) x12_1).f2))]) := ⟨_, rfl⟩
               replace H : (impl_Network_tables.l0 k1 l0 y262 ((rd_T31 l0 0).f1) (((rd_T31 l0 0).f1).length : Int) (wrap64 (x12_1 + 1))) = some r := by first | (rw [hy262]; with_reducible exact H) | (have H2_ := (Option.bind_some _ _).symm.trans H; rw [hy262]; with_reducible exact H2_) | (have H2_ := (Option.bind_some _ _).symm.trans H; with_reducible exact H2_) | with_reducible exact H | (rw [hy262]; exact H) | exact H
               have Ny262 := Aside0.mk hy262
               clear hy262
               have H' := Aside0.mk H
               clear H
               have p248 : 0 ≤ (x12_1 : Int) := of_decide_eq_true (by first | (with_reducible assumption) | assumption)
               have q248 : x12_1 < (((rd_T31 l0 0).f1).length : Int) := of_decide_eq_true (by first | (with_reducible assumption) | assumption)
               obtain ⟨ad248, e248, hx248_0, hx248_1, hx248_2⟩ := at_T81 HR247_1.out x12_1 p248 q248
               cases e248
               replace hx248_0 := (HB.out.cell (World.block_lt_of_cell? w _ hx248_0)).trans hx248_0
               replace hx248_1 := (HB.out.cell (World.block_lt_of_cell? w _ hx248_1)).trans hx248_1
               replace hx248_2 := (HB.out.cell (World.block_lt_of_cell? w _ hx248_2)).trans hx248_2
               replace p248 := eq_true p248
               replace q248 := eq_true q248
               try go_wp2_with (first | ((with_reducible refine gate_dst (N := 5) rfl ?_); refine box_event ?hg (N := 5) ?hd (cs := #[.int .i8 0, .int .i16 0, .int .i16 0]) (t := 81) ?hr ?_; (case hd => rfl); (case hg => rfl); (case hr => first | (go_simp; done) | (go_simp; rfl)); intro gb249 hg w30 hbox hb; have n0_ := Aside0.mk (Kd.R_below (by (with_reducible repeat (first | apply Kd.R_alloc | apply Kd.R_drewN | apply Kd.R_drew)); exact HO_3.out) hb); have n1_ := Aside0.mk (below_step (by repeat (first | (with_reducible first | exact HB.out | apply below_alloc | apply pw_below_drewN | apply below_drew1) | exact HB.out)) hb); have n2_ := Aside0.mk (hbox); have n3_ := Aside0.mk ((by rw [hg]; exact (below_size (by repeat (first | (with_reducible first | exact HB.out | apply below_alloc | apply pw_below_drewN | apply below_drew1) | exact HB.out))) : w.heap.size ≤ gb249)); have n4_ := Aside0.mk ((by rw [hg]; exact (below_size (by repeat (first | (with_reducible first | exact HB.out | apply below_alloc | apply pw_below_drewN | apply below_drew1) | exact HB.out))) : w.heap.size ≤ gb249)); clear HO_3; clear HB; have HO_3 := n0_; have HB := n1_; have BK249 := n2_; have GW249 := n3_; have GE249 := n4_; clear n0_ n1_ n2_ n3_ n4_; clear hb hbox hg; have hcz31_0 : w30.cell? ⟨gb249, 0, none⟩ = some (.int .i8 0) := (blk_cell BK249.out 0).trans rfl; have hcz31_1 : w30.cell? ⟨gb249, 1, none⟩ = some (.int .i16 0) := (blk_cell BK249.out 1).trans rfl; have hcz31_2 : w30.cell? ⟨gb249, 2, none⟩ = some (.int .i16 0) := (blk_cell BK249.out 2).trans rfl; have hfz31_0 := blk_frozen BK249.out 0; have hfz31_1 := blk_frozen BK249.out 1; have hfz31_2 := blk_frozen BK249.out 2))
               have n0_ : Aside0 (Kd.R (Kd.int .u64) 98 (((w30.setCell ⟨gb249, 0, none⟩ (.int .i8 ((rd_T81 ((rd_T31 l0 0).f1) x12_1).f0))).setCell ⟨gb249, 1, none⟩ (.int .i16 ((rd_T81 ((rd_T31 l0 0).f1) x12_1).f1))).setCell ⟨gb249, 2, none⟩ (.int .i16 ((rd_T81 ((rd_T31 l0 0).f1) x12_1).f2))) w.heap.size (fun _ => True) u3 x3_1) := ⟨by (with_reducible repeat (first | apply Kd.R_alloc | apply Kd.R_drewN | apply Kd.R_drew)); exact Kd.R_mono (Kd.R_far (p := ⟨gb249, 2, none⟩) (Kd.R_far (p := ⟨gb249, 1, none⟩) (Kd.R_far (p := ⟨gb249, 0, none⟩) (Kd.R_types HO_3.out BK249.out (by decide)) (fun _ hk => hk.2) (.int .i8 ((rd_T81 ((rd_T31 l0 0).f1) x12_1).f0))) (fun _ hk => hk.2) (.int .i16 ((rd_T81 ((rd_T31 l0 0).f1) x12_1).f1))) (fun _ hk => hk.2) (.int .i16 ((rd_T81 ((rd_T31 l0 0).f1) x12_1).f2))) (fun _ hk => trivial)⟩
               have n1_ : Aside0 ((((w30.setCell ⟨gb249, 0, none⟩ (.int .i8 ((rd_T81 ((rd_T31 l0 0).f1) x12_1).f0))).setCell ⟨gb249, 1, none⟩ (.int .i16 ((rd_T81 ((rd_T31 l0 0).f1) x12_1).f1))).setCell ⟨gb249, 2, none⟩ (.int .i16 ((rd_T81 ((rd_T31 l0 0).f1) x12_1).f2))).heap[gb249]? = some (.cells #[.int .i8 ((rd_T81 ((rd_T31 l0 0).f1) x12_1).f0), .int .i16 ((rd_T81 ((rd_T31 l0 0).f1) x12_1).f1), .int .i16 ((rd_T81 ((rd_T31 l0 0).f1) x12_1).f2)] 81 (0, 0))) := ⟨by (with_reducible repeat (first | refine blk_drewN ?_ _ | refine blk_drew ?_ | refine blk_alloc ?_ _)); refine blk_put (cs := #[.int .i8 ((rd_T81 ((rd_T31 l0 0).f1) x12_1).f0), .int .i16 ((rd_T81 ((rd_T31 l0 0).f1) x12_1).f1), .int .i16 0]) ?_ 2 _ rfl; (with_reducible repeat (first | refine blk_drewN ?_ _ | refine blk_drew ?_ | refine blk_alloc ?_ _)); refine blk_put (cs := #[.int .i8 ((rd_T81 ((rd_T31 l0 0).f1) x12_1).f0), .int .i16 0, .int .i16 0]) ?_ 1 _ rfl; (with_reducible repeat (first | refine blk_drewN ?_ _ | refine blk_drew ?_ | refine blk_alloc ?_ _)); refine blk_put (cs := #[.int .i8 0, .int .i16 0, .int .i16 0]) ?_ 0 _ rfl; (with_reducible repeat (first | refine blk_drewN ?_ _ | refine blk_drew ?_ | refine blk_alloc ?_ _)); exact BK249.out⟩
               have n2_ : Aside0 (Below w.heap.size w (((w30.setCell ⟨gb249, 0, none⟩ (.int .i8 ((rd_T81 ((rd_T31 l0 0).f1) x12_1).f0))).setCell ⟨gb249, 1, none⟩ (.int .i16 ((rd_T81 ((rd_T31 l0 0).f1) x12_1).f1))).setCell ⟨gb249, 2, none⟩ (.int .i16 ((rd_T81 ((rd_T31 l0 0).f1) x12_1).f2)))) := ⟨by repeat (first | (with_reducible first | exact HB.out | apply below_alloc | apply pw_below_drewN | apply below_drew1 | refine below_set ?_ GE249.out) | exact HB.out)⟩
               (try clear HO_3)
               (try clear BK249)
               (try clear HB)
               generalize (((w30.setCell ⟨gb249, 0, none⟩ (.int .i8 ((rd_T81 ((rd_T31 l0 0).f1) x12_1).f0))).setCell ⟨gb249, 1, none⟩ (.int .i16 ((rd_T81 ((rd_T31 l0 0).f1) x12_1).f1))).setCell ⟨gb249, 2, none⟩ (.int .i16 ((rd_T81 ((rd_T31 l0 0).f1) x12_1).f2))) = w32 at n0_ n1_ n2_ ⊢
               have HO_3 := n0_
               have BK249 := n1_
               have HB := n2_
               clear n0_ n1_ n2_
               have n0_ := Aside0.mk (Kd.R_drew HO_3.out)
               have n1_ := Aside0.mk (blk_drew BK249.out)
               have n2_ := Aside0.mk (below_drew1 HB.out)
               clear HO_3
               clear BK249
               clear HB
               have HO_3 := n0_
               have BK249 := n1_
               have HB := n2_
               clear n0_ n1_ n2_
               obtain ⟨Ao34, co34, eo34⟩ := Kd.R_slice HO_3.out
               (first | subst eo34 | (injection eo34 with f1_ f2_ f3_; have f4_ := f1_.symm; have f5_ := f3_.symm; clear f1_ f2_ f3_; subst f4_; subst f5_))
               have p260 : 0 ≤ (((rd_T81 ((rd_T31 l0 0).f1) x12_1).f1) : Int) := of_decide_eq_true (by first | (with_reducible assumption) | assumption)
               have q260 : ((rd_T81 ((rd_T31 l0 0).f1) x12_1).f1) < (x3_1.length : Int) := of_decide_eq_true (by first | (with_reducible assumption) | assumption)
               obtain ⟨ad260, e260, hx260_0⟩ := Kd.at_int (Kd.R_reads' HO_3.out).2.2 ((rd_T81 ((rd_T31 l0 0).f1) x12_1).f1) p260 q260
               cases e260
               replace p260 := eq_true p260
               replace q260 := eq_true q260
               have p261 : 0 ≤ (((rd_T81 ((rd_T31 l0 0).f1) x12_1).f2) : Int) := of_decide_eq_true (by first | (with_reducible assumption) | assumption)
               have q261 : ((rd_T81 ((rd_T31 l0 0).f1) x12_1).f2) < (x3_1.length : Int) := of_decide_eq_true (by first | (with_reducible assumption) | assumption)
               obtain ⟨ad261, e261, hx261_0⟩ := Kd.at_int (Kd.R_reads' HO_3.out).2.2 ((rd_T81 ((rd_T31 l0 0).f1) x12_1).f2) p261 q261
               obtain rfl : ad260 = ad261 := (by injection e261)
               replace p261 := eq_true p261
               replace q261 := eq_true q261
               refine start_ (n := 15) (S := fun w' => w'.cell? ⟨gb249, 0, none⟩ = some (.int .i8 ((rd_T81 ((rd_T31 l0 0).f1) x12_1).f0)) ∧ w'.cell? ⟨gb249, 1, none⟩ = some (.int .i16 ((rd_T81 ((rd_T31 l0 0).f1) x12_1).f1)) ∧ w'.cell? ⟨gb249, 2, none⟩ = some (.int .i16 ((rd_T81 ((rd_T31 l0 0).f1) x12_1).f2)) ∧ w'.cell? (ad260.add (((rd_T81 ((rd_T31 l0 0).f1) x12_1).f1)).toNat) = some (.int .u64 (rd x3_1 ((rd_T81 ((rd_T31 l0 0).f1) x12_1).f1))) ∧ w'.cell? (ad260.add (((rd_T81 ((rd_T31 l0 0).f1) x12_1).f2)).toNat) = some (.int .u64 (rd x3_1 ((rd_T81 ((rd_T31 l0 0).f1) x12_1).f2)))) (ds := [12, 13]) #[false, false, false, false, false, false, false, false, false, false, false, false, false, false, false] (by kernel_rfl) rfl rfl ⟨(blk_cell BK249.out 0).trans rfl, (blk_cell BK249.out 1).trans rfl, (blk_cell BK249.out 2).trans rfl, hx260_0, hx261_0⟩ (fun hHeld => ?_); refine with_tabW impl_Network_tables.tab12 impl_Network_tables.bits12 (fun HT_ HW_ => ?_)
               generalize w32.drew = w33 at HO_3 BK249 HB hx260_0 hx261_0 hHeld ⊢
               refine pure_ (i := 0) (N := some 59) (v := ?_) (a' := ?_) #[true, false, false, false, false, false, false, false, false, false, false, false, false, false, false] rfl rfl (any_of HT_.out (by kernel_rfl)) (fun _ _ _ h => h) (Or.inl ⟨by rfl, ?_⟩) ?_ ?_
               rotate_left
               ·intro w'
                go_simp
                with_reducible rfl
               rotate_left
               ·simp only [Act.put, List.setIfInBounds_toArray, List.set_cons_zero, List.set_cons_succ, i64_w, i32_w]
                rfl
               refine pure_ (i := 1) (N := some 60) (v := ?_) (a' := ?_) #[true, true, false, false, false, false, false, false, false, false, false, false, false, false, false] rfl rfl (any_of HT_.out (by kernel_rfl)) (fun _ _ _ h => h) (Or.inl ⟨by rfl, ?_⟩) ?_ ?_
               rotate_left
               ·intro w'
                go_simp
                with_reducible rfl
               rotate_left
               ·simp only [Act.put, List.setIfInBounds_toArray, List.set_cons_zero, List.set_cons_succ, i64_w, i32_w]
                rfl
               refine pure_ (i := 2) (N := some 61) (v := ?_) (a' := ?_) #[true, true, true, false, false, false, false, false, false, false, false, false, false, false, false] rfl rfl (any_of HT_.out (by kernel_rfl)) (fun _ _ _ h => h) (Or.inl ⟨by rfl, ?_⟩) ?_ ?_
               rotate_left
               ·intro w'
                go_simp
                with_reducible rfl
               rotate_left
               ·simp only [Act.put, List.setIfInBounds_toArray, List.set_cons_zero, List.set_cons_succ, i64_w, i32_w]
                rfl
               refine pure_ (i := 6) (N := some 65) (v := ?_) (a' := ?_) #[true, true, true, false, false, false, true, false, false, false, false, false, false, false, false] rfl rfl (any_of HT_.out (by kernel_rfl)) (fun _ _ _ h => h) (Or.inl ⟨by rfl, ?_⟩) ?_ ?_
               rotate_left
               ·intro w'
                go_simp
                with_reducible rfl
               rotate_left
               ·simp only [Act.put, List.setIfInBounds_toArray, List.set_cons_zero, List.set_cons_succ, i64_w, i32_w]
                rfl
               refine pure_ (i := 7) (N := some 66) (v := ?_) (a' := ?_) #[true, true, true, false, false, false, true, true, false, false, false, false, false, false, false] rfl rfl (any_of HT_.out (by kernel_rfl)) (fun _ _ _ h => h) (Or.inl ⟨by rfl, ?_⟩) ?_ ?_
               rotate_left
               ·intro w'
                go_simp
                with_reducible rfl
               rotate_left
               ·simp only [Act.put, List.setIfInBounds_toArray, List.set_cons_zero, List.set_cons_succ, i64_w, i32_w]
                rfl
               refine take_ (i := 3) (N := some 62) (v := ?_) (a' := ?_) #[true, true, true, true, false, false, true, true, false, false, false, false, false, false, false] rfl rfl (take_ofW HT_.out HW_.out (by kernel_rfl)) (fun _ _ _ h => h) (Or.inl ⟨by rfl, ?_⟩) hHeld ?_ ?_
               rotate_left
               ·rintro w' ⟨s0, s1, s2, s3, s4⟩
                go_simp
                with_reducible rfl
               rotate_left
               ·simp only [Act.put, List.setIfInBounds_toArray, List.set_cons_zero, List.set_cons_succ, i64_w, i32_w]
                rfl
               refine pure_ (i := 4) (N := some 63) (v := ?_) (a' := ?_) #[true, true, true, true, true, false, true, true, false, false, false, false, false, false, false] rfl rfl (any_of HT_.out (by kernel_rfl)) (fun _ _ _ h => h) (Or.inl ⟨by rfl, ?_⟩) ?_ ?_
               rotate_left
               ·intro w'
                go_simp
                with_reducible rfl
               rotate_left
               ·simp only [Act.put, List.setIfInBounds_toArray, List.set_cons_zero, List.set_cons_succ, i64_w, i32_w]
                rfl
               refine take_ (i := 5) (N := some 64) (v := ?_) (a' := ?_) #[true, true, true, true, true, true, true, true, false, false, false, false, false, false, false] rfl rfl (take_ofW HT_.out HW_.out (by kernel_rfl)) (fun _ _ _ h => h) (Or.inl ⟨by rfl, ?_⟩) hHeld ?_ ?_
               rotate_left
               ·rintro w' ⟨s0, s1, s2, s3, s4⟩
                go_simp
                with_reducible rfl
               rotate_left
               ·simp only [Act.put, List.setIfInBounds_toArray, List.set_cons_zero, List.set_cons_succ, i64_w, i32_w]
                rfl
               refine take_ (i := 8) (N := some 67) (v := ?_) (a' := ?_) #[true, true, true, true, true, true, true, true, true, false, false, false, false, false, false] rfl rfl (take_ofW HT_.out HW_.out (by kernel_rfl)) (fun _ _ _ h => h) (Or.inl ⟨by rfl, ?_⟩) hHeld ?_ ?_
               rotate_left
               ·rintro w' ⟨s0, s1, s2, s3, s4⟩
                go_simp
                with_reducible rfl
               rotate_left
               ·simp only [Act.put, List.setIfInBounds_toArray, List.set_cons_zero, List.set_cons_succ, i64_w, i32_w]
                rfl
               refine pure_ (i := 9) (N := some 68) (v := ?_) (a' := ?_) #[true, true, true, true, true, true, true, true, true, true, false, false, false, false, false] rfl rfl (any_of HT_.out (by kernel_rfl)) (fun _ _ _ h => h) (Or.inl ⟨by rfl, ?_⟩) ?_ ?_
               rotate_left
               ·intro w'
                go_simp
                with_reducible rfl
               rotate_left
               ·simp only [Act.put, List.setIfInBounds_toArray, List.set_cons_zero, List.set_cons_succ, i64_w, i32_w]
                rfl
               refine take_ (i := 10) (N := some 69) (v := ?_) (a' := ?_) #[true, true, true, true, true, true, true, true, true, true, true, false, false, false, false] rfl rfl (take_ofW HT_.out HW_.out (by kernel_rfl)) (fun _ _ _ h => h) (Or.inl ⟨by rfl, ?_⟩) hHeld ?_ ?_
               rotate_left
               ·rintro w' ⟨s0, s1, s2, s3, s4⟩
                go_simp
                with_reducible rfl
               rotate_left
               ·simp only [Act.put, List.setIfInBounds_toArray, List.set_cons_zero, List.set_cons_succ, i64_w, i32_w]
                rfl
               refine pure_ (i := 11) (N := some 70) (v := ?_) (a' := ?_) #[true, true, true, true, true, true, true, true, true, true, true, true, false, false, false] rfl rfl (any_of HT_.out (by kernel_rfl)) (fun _ _ _ h => h) (Or.inl ⟨by rfl, ?_⟩) ?_ ?_
               rotate_left
               ·intro w'
                go_simp
                with_reducible rfl
               rotate_left
               ·simp only [Act.put, List.setIfInBounds_toArray, List.set_cons_zero, List.set_cons_succ, i64_w, i32_w]
                rfl
               refine last_ (i := 12) (N := some 71) #[true, true, true, true, true, true, true, true, true, true, true, true, true, false, false] rfl rfl (one_of HT_.out (by kernel_rfl)) (by decide) (fun K hK => ?_)
               refine value_ (w1 := ?_) (v := ?_) (by rfl) rfl ?_ ?_
               rotate_left 2
               ·go_simp
                constructor
                ·rfl
                ·rfl
               refine hK.out _ _ ?_
               clear hK K
               refine norm_ (a' := ?_) ?_ ?_
               rotate_left
               ·show Act.put _ (some 71) _ = _
                simp only [Act.put, List.setIfInBounds_toArray, List.set_cons_zero, List.set_cons_succ, i64_w, i32_w]
                rfl
               refine last_ (i := 13) (N := some 72) #[true, true, true, true, true, true, true, true, true, true, true, true, true, true, false] rfl rfl (one_of HT_.out (by kernel_rfl)) (by decide) (fun K hK => ?_)
               refine Kd.R_append_step (Kd.int .u64) (w0 := w) w.heap.size (by rfl) (.tmp 59) (.tmp 71) 53 98 (.int .u64 0) 8 rfl Try.underlying53 info98 rfl (by decide) (by omega) (.slice (some ad260) x3_1.length co34) x3_1 (Go.bits .or .u64 (rd x3_1 ((rd_T81 ((rd_T31 l0 0).f1) x12_1).f1)) (rd x3_1 ((rd_T81 ((rd_T31 l0 0).f1) x12_1).f2))) [.int .u64 (Go.bits .or .u64 (rd x3_1 ((rd_T81 ((rd_T31 l0 0).f1) x12_1).f1)) (rd x3_1 ((rd_T81 ((rd_T31 l0 0).f1) x12_1).f2)))] (fun _ => True) (fun _ => False) rfl rfl ?aP (fun _ hk => hk.elim) ?aF ?aO ?aB ?aS ?aL ?_
               (case aP => exact rfl)
               (case aB => exact (by repeat (first | (with_reducible first | exact HB.out | apply below_alloc | apply pw_below_drewN | apply below_drew1 | refine below_set ?_ GE249.out) | exact HB.out)))
               (case aF => exact (fun _ _ => trivial))
               (case aO => exact (by (with_reducible repeat (first | apply Kd.R_alloc | apply Kd.R_drewN | apply Kd.R_drew)); exact HO_3.out))
               (case aS => exact (below_size (by repeat (first | (with_reducible first | exact HB.out | apply below_alloc | apply pw_below_drewN | apply below_drew1 | refine below_set ?_ GE249.out) | exact HB.out))))
               (case aL => have := LMc29.out; omega)
               intro v263 w35 ho hb hg hat
               rw [← Ny262.out] at ho
               have n0_ := Aside0.mk (blk_grown (g := gb249) (o := .cells #[.int .i8 ((rd_T81 ((rd_T31 l0 0).f1) x12_1).f0), .int .i16 ((rd_T81 ((rd_T31 l0 0).f1) x12_1).f1), .int .i16 ((rd_T81 ((rd_T31 l0 0).f1) x12_1).f2)] 81 (0, 0)) (by (with_reducible repeat (first | refine blk_drewN ?_ _ | refine blk_drew ?_ | refine blk_alloc ?_ _)); exact BK249.out) hg (Kd.R_ne HO_3.out BK249.out (by decide)))
               have n1_ := Aside0.mk (hb)
               have n2_ := Aside0.mk (ho)
               clear BK249
               clear HB
               clear HO_3
               have BK249 := n0_
               have HB := n1_
               have HO264 := n2_
               clear n0_ n1_ n2_
               clear ho hb hg hat
               refine hK.out _ _ ?_
               clear hK K
               refine norm_ (a' := ?_) ?_ ?_
               rotate_left
               ·show Act.put _ (some 72) _ = _
                simp only [Act.put, List.setIfInBounds_toArray, List.set_cons_zero, List.set_cons_succ, i64_w, i32_w]
                rfl
               refine pure_ (i := 14) (N := some 3) (v := ?_) (a' := ?_) #[true, true, true, true, true, true, true, true, true, true, true, true, true, true, true] rfl rfl (any_of HT_.out (by kernel_rfl)) (fun _ _ _ h => h) (Or.inl ⟨by rfl, ?_⟩) ?_ ?_
               rotate_left
               ·intro w'
                go_simp
                with_reducible rfl
               rotate_left
               ·simp only [Act.put, List.setIfInBounds_toArray, List.set_cons_zero, List.set_cons_succ, i64_w, i32_w]
                rfl
               refine done_ (done_of HT_.out (by kernel_rfl)) ?_
               try go_wp2
               go_roundg k1
               case measure => have := HK1.out; omega
               case rel => exact ⟨(y262), (wrap64 (x12_1 + 1)), (by first | rfl | (simp; done) | (simp [*]; done) | (exact congrArg (Value.int .i64) (wrap_eq (by omega)))), H', ⟨by have := HK1.out; omega⟩, ⟨by (with_reducible repeat (first | apply Kd.R_alloc | apply Kd.R_drewN | apply Kd.R_drew)); exact HO264.out⟩, ⟨by repeat (first | (with_reducible first | exact HB.out | apply below_alloc | apply pw_below_drewN | apply below_drew1 | refine below_set ?_ GE249.out) | exact HB.out)⟩⟩
              ·rw [if_neg c29] at H
               exact absurd H (by simp)
             ·rw [if_neg c28] at H
              exact absurd H (by simp)
            ·rw [if_neg c27] at H
             exact absurd H (by simp)
           ·rw [if_neg c26] at H
            exact absurd H (by simp)
          ·rw [if_neg c25] at H
           exact absurd H (by simp)
         ·rw [if_neg c24] at H
          have c24b0 : (((rd_T81 ((rd_T31 l0 0).f1) x12_1).f0) == 2) = false := beq_eq_false_iff_ne.mpr c24
          have c24b1 : (((rd_T81 ((rd_T31 l0 0).f1) x12_1).f0) != 2) = true := bne_iff_ne.mpr c24
          by_cases c36 : 0 ≤ ((rd_T81 ((rd_T31 l0 0).f1) x12_1).f1)
          ·rw [if_pos c36] at H
           have c36b0 : decide (0 ≤ ((rd_T81 ((rd_T31 l0 0).f1) x12_1).f1)) = true := decide_eq_true c36
           clear c36
           by_cases c37 : ((rd_T81 ((rd_T31 l0 0).f1) x12_1).f1) < (x3_1.length : Int)
           ·rw [if_pos c37] at H
            have c37b0 : decide (((rd_T81 ((rd_T31 l0 0).f1) x12_1).f1) < (x3_1.length : Int)) = true := decide_eq_true c37
            clear c37
            by_cases c38 : 0 ≤ ((rd_T81 ((rd_T31 l0 0).f1) x12_1).f2)
            ·rw [if_pos c38] at H
             have c38b0 : decide (0 ≤ ((rd_T81 ((rd_T31 l0 0).f1) x12_1).f2)) = true := decide_eq_true c38
             clear c38
             by_cases c39 : ((rd_T81 ((rd_T31 l0 0).f1) x12_1).f2) < (x3_1.length : Int)
             ·rw [if_pos c39] at H
              have c39b0 : decide (((rd_T81 ((rd_T31 l0 0).f1) x12_1).f2) < (x3_1.length : Int)) = true := decide_eq_true c39
              clear c39
              by_cases c40 : x3_1.length < 17592186044416
              ·rw [if_pos c40] at H
               have LMc40 := Aside0.mk c40
               clear c40
               obtain ⟨y267, hy267⟩ : ∃ y_ : List Int, y_ = (x3_1 ++ [Go.bits .andNot .u64 (rd x3_1 ((rd_T81 ((rd_T31 l0 0).f1) x12_1).f1)) (rd x3_1 ((rd_T81 ((rd_T31 l0 0).f1) x12_1).f2))]) := ⟨_, rfl⟩
               replace H : (impl_Network_tables.l0 k1 l0 y267 ((rd_T31 l0 0).f1) (((rd_T31 l0 0).f1).length : Int) (wrap64 (x12_1 + 1))) = some r := by first | (rw [hy267]; with_reducible exact H) | (have H2_ := (Option.bind_some _ _).symm.trans H; rw [hy267]; with_reducible exact H2_) | (have H2_ := (Option.bind_some _ _).symm.trans H; with_reducible exact H2_) | with_reducible exact H | (rw [hy267]; exact H) | exact H
               have Ny267 := Aside0.mk hy267
               clear hy267
               have H' := Aside0.mk H
               clear H
               have p248 : 0 ≤ (x12_1 : Int) := of_decide_eq_true (by first | (with_reducible assumption) | assumption)
               have q248 : x12_1 < (((rd_T31 l0 0).f1).length : Int) := of_decide_eq_true (by first | (with_reducible assumption) | assumption)
               obtain ⟨ad248, e248, hx248_0, hx248_1, hx248_2⟩ := at_T81 HR247_1.out x12_1 p248 q248
               cases e248
               replace hx248_0 := (HB.out.cell (World.block_lt_of_cell? w _ hx248_0)).trans hx248_0
               replace hx248_1 := (HB.out.cell (World.block_lt_of_cell? w _ hx248_1)).trans hx248_1
               replace hx248_2 := (HB.out.cell (World.block_lt_of_cell? w _ hx248_2)).trans hx248_2
               replace p248 := eq_true p248
               replace q248 := eq_true q248
               try go_wp2_with (first | ((with_reducible refine gate_dst (N := 5) rfl ?_); refine box_event ?hg (N := 5) ?hd (cs := #[.int .i8 0, .int .i16 0, .int .i16 0]) (t := 81) ?hr ?_; (case hd => rfl); (case hg => rfl); (case hr => first | (go_simp; done) | (go_simp; rfl)); intro gb249 hg w41 hbox hb; have n0_ := Aside0.mk (Kd.R_below (by (with_reducible repeat (first | apply Kd.R_alloc | apply Kd.R_drewN | apply Kd.R_drew)); exact HO_3.out) hb); have n1_ := Aside0.mk (below_step (by repeat (first | (with_reducible first | exact HB.out | apply below_alloc | apply pw_below_drewN | apply below_drew1) | exact HB.out)) hb); have n2_ := Aside0.mk (hbox); have n3_ := Aside0.mk ((by rw [hg]; exact (below_size (by repeat (first | (with_reducible first | exact HB.out | apply below_alloc | apply pw_below_drewN | apply below_drew1) | exact HB.out))) : w.heap.size ≤ gb249)); have n4_ := Aside0.mk ((by rw [hg]; exact (below_size (by repeat (first | (with_reducible first | exact HB.out | apply below_alloc | apply pw_below_drewN | apply below_drew1) | exact HB.out))) : w.heap.size ≤ gb249)); clear HO_3; clear HB; have HO_3 := n0_; have HB := n1_; have BK249 := n2_; have GW249 := n3_; have GE249 := n4_; clear n0_ n1_ n2_ n3_ n4_; clear hb hbox hg; have hcz42_0 : w41.cell? ⟨gb249, 0, none⟩ = some (.int .i8 0) := (blk_cell BK249.out 0).trans rfl; have hcz42_1 : w41.cell? ⟨gb249, 1, none⟩ = some (.int .i16 0) := (blk_cell BK249.out 1).trans rfl; have hcz42_2 : w41.cell? ⟨gb249, 2, none⟩ = some (.int .i16 0) := (blk_cell BK249.out 2).trans rfl; have hfz42_0 := blk_frozen BK249.out 0; have hfz42_1 := blk_frozen BK249.out 1; have hfz42_2 := blk_frozen BK249.out 2))
               have n0_ : Aside0 (Kd.R (Kd.int .u64) 98 (((w41.setCell ⟨gb249, 0, none⟩ (.int .i8 ((rd_T81 ((rd_T31 l0 0).f1) x12_1).f0))).setCell ⟨gb249, 1, none⟩ (.int .i16 ((rd_T81 ((rd_T31 l0 0).f1) x12_1).f1))).setCell ⟨gb249, 2, none⟩ (.int .i16 ((rd_T81 ((rd_T31 l0 0).f1) x12_1).f2))) w.heap.size (fun _ => True) u3 x3_1) := ⟨by (with_reducible repeat (first | apply Kd.R_alloc | apply Kd.R_drewN | apply Kd.R_drew)); exact Kd.R_mono (Kd.R_far (p := ⟨gb249, 2, none⟩) (Kd.R_far (p := ⟨gb249, 1, none⟩) (Kd.R_far (p := ⟨gb249, 0, none⟩) (Kd.R_types HO_3.out BK249.out (by decide)) (fun _ hk => hk.2) (.int .i8 ((rd_T81 ((rd_T31 l0 0).f1) x12_1).f0))) (fun _ hk => hk.2) (.int .i16 ((rd_T81 ((rd_T31 l0 0).f1) x12_1).f1))) (fun _ hk => hk.2) (.int .i16 ((rd_T81 ((rd_T31 l0 0).f1) x12_1).f2))) (fun _ hk => trivial)⟩
               have n1_ : Aside0 ((((w41.setCell ⟨gb249, 0, none⟩ (.int .i8 ((rd_T81 ((rd_T31 l0 0).f1) x12_1).f0))).setCell ⟨gb249, 1, none⟩ (.int .i16 ((rd_T81 ((rd_T31 l0 0).f1) x12_1).f1))).setCell ⟨gb249, 2, none⟩ (.int .i16 ((rd_T81 ((rd_T31 l0 0).f1) x12_1).f2))).heap[gb249]? = some (.cells #[.int .i8 ((rd_T81 ((rd_T31 l0 0).f1) x12_1).f0), .int .i16 ((rd_T81 ((rd_T31 l0 0).f1) x12_1).f1), .int .i16 ((rd_T81 ((rd_T31 l0 0).f1) x12_1).f2)] 81 (0, 0))) := ⟨by (with_reducible repeat (first | refine blk_drewN ?_ _ | refine blk_drew ?_ | refine blk_alloc ?_ _)); refine blk_put (cs := #[.int .i8 ((rd_T81 ((rd_T31 l0 0).f1) x12_1).f0), .int .i16 ((rd_T81 ((rd_T31 l0 0).f1) x12_1).f1), .int .i16 0]) ?_ 2 _ rfl; (with_reducible repeat (first | refine blk_drewN ?_ _ | refine blk_drew ?_ | refine blk_alloc ?_ _)); refine blk_put (cs := #[.int .i8 ((rd_T81 ((rd_T31 l0 0).f1) x12_1).f0), .int .i16 0, .int .i16 0]) ?_ 1 _ rfl; (with_reducible repeat (first | refine blk_drewN ?_ _ | refine blk_drew ?_ | refine blk_alloc ?_ _)); refine blk_put (cs := #[.int .i8 0, .int .i16 0, .int .i16 0]) ?_ 0 _ rfl; (with_reducible repeat (first | refine blk_drewN ?_ _ | refine blk_drew ?_ | refine blk_alloc ?_ _)); exact BK249.out⟩
               have n2_ : Aside0 (Below w.heap.size w (((w41.setCell ⟨gb249, 0, none⟩ (.int .i8 ((rd_T81 ((rd_T31 l0 0).f1) x12_1).f0))).setCell ⟨gb249, 1, none⟩ (.int .i16 ((rd_T81 ((rd_T31 l0 0).f1) x12_1).f1))).setCell ⟨gb249, 2, none⟩ (.int .i16 ((rd_T81 ((rd_T31 l0 0).f1) x12_1).f2)))) := ⟨by repeat (first | (with_reducible first | exact HB.out | apply below_alloc | apply pw_below_drewN | apply below_drew1 | refine below_set ?_ GE249.out) | exact HB.out)⟩
               (try clear HO_3)
               (try clear BK249)
               (try clear HB)
               generalize (((w41.setCell ⟨gb249, 0, none⟩ (.int .i8 ((rd_T81 ((rd_T31 l0 0).f1) x12_1).f0))).setCell ⟨gb249, 1, none⟩ (.int .i16 ((rd_T81 ((rd_T31 l0 0).f1) x12_1).f1))).setCell ⟨gb249, 2, none⟩ (.int .i16 ((rd_T81 ((rd_T31 l0 0).f1) x12_1).f2))) = w43 at n0_ n1_ n2_ ⊢
               have HO_3 := n0_
               have BK249 := n1_
               have HB := n2_
               clear n0_ n1_ n2_
               have n0_ := Aside0.mk (Kd.R_drew HO_3.out)
               have n1_ := Aside0.mk (blk_drew BK249.out)
               have n2_ := Aside0.mk (below_drew1 HB.out)
               clear HO_3
               clear BK249
               clear HB
               have HO_3 := n0_
               have BK249 := n1_
               have HB := n2_
               clear n0_ n1_ n2_
               obtain ⟨Ao45, co45, eo45⟩ := Kd.R_slice HO_3.out
               (first | subst eo45 | (injection eo45 with f1_ f2_ f3_; have f4_ := f1_.symm; have f5_ := f3_.symm; clear f1_ f2_ f3_; subst f4_; subst f5_))
               have p265 : 0 ≤ (((rd_T81 ((rd_T31 l0 0).f1) x12_1).f1) : Int) := of_decide_eq_true (by first | (with_reducible assumption) | assumption)
               have q265 : ((rd_T81 ((rd_T31 l0 0).f1) x12_1).f1) < (x3_1.length : Int) := of_decide_eq_true (by first | (with_reducible assumption) | assumption)
               obtain ⟨ad265, e265, hx265_0⟩ := Kd.at_int (Kd.R_reads' HO_3.out).2.2 ((rd_T81 ((rd_T31 l0 0).f1) x12_1).f1) p265 q265
               cases e265
               replace p265 := eq_true p265
               replace q265 := eq_true q265
               have p266 : 0 ≤ (((rd_T81 ((rd_T31 l0 0).f1) x12_1).f2) : Int) := of_decide_eq_true (by first | (with_reducible assumption) | assumption)
               have q266 : ((rd_T81 ((rd_T31 l0 0).f1) x12_1).f2) < (x3_1.length : Int) := of_decide_eq_true (by first | (with_reducible assumption) | assumption)
               obtain ⟨ad266, e266, hx266_0⟩ := Kd.at_int (Kd.R_reads' HO_3.out).2.2 ((rd_T81 ((rd_T31 l0 0).f1) x12_1).f2) p266 q266
               obtain rfl : ad265 = ad266 := (by injection e266)
               replace p266 := eq_true p266
               replace q266 := eq_true q266
               refine start_ (n := 15) (S := fun w' => w'.cell? ⟨gb249, 0, none⟩ = some (.int .i8 ((rd_T81 ((rd_T31 l0 0).f1) x12_1).f0)) ∧ w'.cell? ⟨gb249, 1, none⟩ = some (.int .i16 ((rd_T81 ((rd_T31 l0 0).f1) x12_1).f1)) ∧ w'.cell? ⟨gb249, 2, none⟩ = some (.int .i16 ((rd_T81 ((rd_T31 l0 0).f1) x12_1).f2)) ∧ w'.cell? (ad265.add (((rd_T81 ((rd_T31 l0 0).f1) x12_1).f1)).toNat) = some (.int .u64 (rd x3_1 ((rd_T81 ((rd_T31 l0 0).f1) x12_1).f1))) ∧ w'.cell? (ad265.add (((rd_T81 ((rd_T31 l0 0).f1) x12_1).f2)).toNat) = some (.int .u64 (rd x3_1 ((rd_T81 ((rd_T31 l0 0).f1) x12_1).f2)))) (ds := [12, 13]) #[false, false, false, false, false, false, false, false, false, false, false, false, false, false, false] (by kernel_rfl) rfl rfl ⟨(blk_cell BK249.out 0).trans rfl, (blk_cell BK249.out 1).trans rfl, (blk_cell BK249.out 2).trans rfl, hx265_0, hx266_0⟩ (fun hHeld => ?_); refine with_tabW impl_Network_tables.tab6 impl_Network_tables.bits6 (fun HT_ HW_ => ?_)
               generalize w43.drew = w44 at HO_3 BK249 HB hx265_0 hx266_0 hHeld ⊢
               refine pure_ (i := 0) (N := some 18) (v := ?_) (a' := ?_) #[true, false, false, false, false, false, false, false, false, false, false, false, false, false, false] rfl rfl (any_of HT_.out (by kernel_rfl)) (fun _ _ _ h => h) (Or.inl ⟨by rfl, ?_⟩) ?_ ?_
               rotate_left
               ·intro w'
                go_simp
                with_reducible rfl
               rotate_left
               ·simp only [Act.put, List.setIfInBounds_toArray, List.set_cons_zero, List.set_cons_succ, i64_w, i32_w]
                rfl
               refine pure_ (i := 1) (N := some 19) (v := ?_) (a' := ?_) #[true, true, false, false, false, false, false, false, false, false, false, false, false, false, false] rfl rfl (any_of HT_.out (by kernel_rfl)) (fun _ _ _ h => h) (Or.inl ⟨by rfl, ?_⟩) ?_ ?_
               rotate_left
               ·intro w'
                go_simp
                with_reducible rfl
               rotate_left
               ·simp only [Act.put, List.setIfInBounds_toArray, List.set_cons_zero, List.set_cons_succ, i64_w, i32_w]
                rfl
               refine pure_ (i := 2) (N := some 20) (v := ?_) (a' := ?_) #[true, true, true, false, false, false, false, false, false, false, false, false, false, false, false] rfl rfl (any_of HT_.out (by kernel_rfl)) (fun _ _ _ h => h) (Or.inl ⟨by rfl, ?_⟩) ?_ ?_
               rotate_left
               ·intro w'
                go_simp
                with_reducible rfl
               rotate_left
               ·simp only [Act.put, List.setIfInBounds_toArray, List.set_cons_zero, List.set_cons_succ, i64_w, i32_w]
                rfl
               refine pure_ (i := 6) (N := some 24) (v := ?_) (a' := ?_) #[true, true, true, false, false, false, true, false, false, false, false, false, false, false, false] rfl rfl (any_of HT_.out (by kernel_rfl)) (fun _ _ _ h => h) (Or.inl ⟨by rfl, ?_⟩) ?_ ?_
               rotate_left
               ·intro w'
                go_simp
                with_reducible rfl
               rotate_left
               ·simp only [Act.put, List.setIfInBounds_toArray, List.set_cons_zero, List.set_cons_succ, i64_w, i32_w]
                rfl
               refine pure_ (i := 7) (N := some 25) (v := ?_) (a' := ?_) #[true, true, true, false, false, false, true, true, false, false, false, false, false, false, false] rfl rfl (any_of HT_.out (by kernel_rfl)) (fun _ _ _ h => h) (Or.inl ⟨by rfl, ?_⟩) ?_ ?_
               rotate_left
               ·intro w'
                go_simp
                with_reducible rfl
               rotate_left
               ·simp only [Act.put, List.setIfInBounds_toArray, List.set_cons_zero, List.set_cons_succ, i64_w, i32_w]
                rfl
               refine take_ (i := 3) (N := some 21) (v := ?_) (a' := ?_) #[true, true, true, true, false, false, true, true, false, false, false, false, false, false, false] rfl rfl (take_ofW HT_.out HW_.out (by kernel_rfl)) (fun _ _ _ h => h) (Or.inl ⟨by rfl, ?_⟩) hHeld ?_ ?_
               rotate_left
               ·rintro w' ⟨s0, s1, s2, s3, s4⟩
                go_simp
                with_reducible rfl
               rotate_left
               ·simp only [Act.put, List.setIfInBounds_toArray, List.set_cons_zero, List.set_cons_succ, i64_w, i32_w]
                rfl
               refine pure_ (i := 4) (N := some 22) (v := ?_) (a' := ?_) #[true, true, true, true, true, false, true, true, false, false, false, false, false, false, false] rfl rfl (any_of HT_.out (by kernel_rfl)) (fun _ _ _ h => h) (Or.inl ⟨by rfl, ?_⟩) ?_ ?_
               rotate_left
               ·intro w'
                go_simp
                with_reducible rfl
               rotate_left
               ·simp only [Act.put, List.setIfInBounds_toArray, List.set_cons_zero, List.set_cons_succ, i64_w, i32_w]
                rfl
               refine take_ (i := 5) (N := some 23) (v := ?_) (a' := ?_) #[true, true, true, true, true, true, true, true, false, false, false, false, false, false, false] rfl rfl (take_ofW HT_.out HW_.out (by kernel_rfl)) (fun _ _ _ h => h) (Or.inl ⟨by rfl, ?_⟩) hHeld ?_ ?_
               rotate_left
               ·rintro w' ⟨s0, s1, s2, s3, s4⟩
                go_simp
                with_reducible rfl
               rotate_left
               ·simp only [Act.put, List.setIfInBounds_toArray, List.set_cons_zero, List.set_cons_succ, i64_w, i32_w]
                rfl
               refine take_ (i := 8) (N := some 26) (v := ?_) (a' := ?_) #[true, true, true, true, true, true, true, true, true, false, false, false, false, false, false] rfl rfl (take_ofW HT_.out HW_.out (by kernel_rfl)) (fun _ _ _ h => h) (Or.inl ⟨by rfl, ?_⟩) hHeld ?_ ?_
               rotate_left
               ·rintro w' ⟨s0, s1, s2, s3, s4⟩
                go_simp
                with_reducible rfl
               rotate_left
               ·simp only [Act.put, List.setIfInBounds_toArray, List.set_cons_zero, List.set_cons_succ, i64_w, i32_w]
                rfl
               refine pure_ (i := 9) (N := some 27) (v := ?_) (a' := ?_) #[true, true, true, true, true, true, true, true, true, true, false, false, false, false, false] rfl rfl (any_of HT_.out (by kernel_rfl)) (fun _ _ _ h => h) (Or.inl ⟨by rfl, ?_⟩) ?_ ?_
               rotate_left
               ·intro w'
                go_simp
                with_reducible rfl
               rotate_left
               ·simp only [Act.put, List.setIfInBounds_toArray, List.set_cons_zero, List.set_cons_succ, i64_w, i32_w]
                rfl
               refine take_ (i := 10) (N := some 28) (v := ?_) (a' := ?_) #[true, true, true, true, true, true, true, true, true, true, true, false, false, false, false] rfl rfl (take_ofW HT_.out HW_.out (by kernel_rfl)) (fun _ _ _ h => h) (Or.inl ⟨by rfl, ?_⟩) hHeld ?_ ?_
               rotate_left
               ·rintro w' ⟨s0, s1, s2, s3, s4⟩
                go_simp
                with_reducible rfl
               rotate_left
               ·simp only [Act.put, List.setIfInBounds_toArray, List.set_cons_zero, List.set_cons_succ, i64_w, i32_w]
                rfl
               refine pure_ (i := 11) (N := some 29) (v := ?_) (a' := ?_) #[true, true, true, true, true, true, true, true, true, true, true, true, false, false, false] rfl rfl (any_of HT_.out (by kernel_rfl)) (fun _ _ _ h => h) (Or.inl ⟨by rfl, ?_⟩) ?_ ?_
               rotate_left
               ·intro w'
                go_simp
                with_reducible rfl
               rotate_left
               ·simp only [Act.put, List.setIfInBounds_toArray, List.set_cons_zero, List.set_cons_succ, i64_w, i32_w]
                rfl
               refine last_ (i := 12) (N := some 30) #[true, true, true, true, true, true, true, true, true, true, true, true, true, false, false] rfl rfl (one_of HT_.out (by kernel_rfl)) (by decide) (fun K hK => ?_)
               refine value_ (w1 := ?_) (v := ?_) (by rfl) rfl ?_ ?_
               rotate_left 2
               ·go_simp
                constructor
                ·rfl
                ·rfl
               refine hK.out _ _ ?_
               clear hK K
               refine norm_ (a' := ?_) ?_ ?_
               rotate_left
               ·show Act.put _ (some 30) _ = _
                simp only [Act.put, List.setIfInBounds_toArray, List.set_cons_zero, List.set_cons_succ, i64_w, i32_w]
                rfl
               refine last_ (i := 13) (N := some 31) #[true, true, true, true, true, true, true, true, true, true, true, true, true, true, false] rfl rfl (one_of HT_.out (by kernel_rfl)) (by decide) (fun K hK => ?_)
               refine Kd.R_append_step (Kd.int .u64) (w0 := w) w.heap.size (by rfl) (.tmp 18) (.tmp 30) 53 98 (.int .u64 0) 8 rfl Try.underlying53 info98 rfl (by decide) (by omega) (.slice (some ad265) x3_1.length co45) x3_1 (Go.bits .andNot .u64 (rd x3_1 ((rd_T81 ((rd_T31 l0 0).f1) x12_1).f1)) (rd x3_1 ((rd_T81 ((rd_T31 l0 0).f1) x12_1).f2))) [.int .u64 (Go.bits .andNot .u64 (rd x3_1 ((rd_T81 ((rd_T31 l0 0).f1) x12_1).f1)) (rd x3_1 ((rd_T81 ((rd_T31 l0 0).f1) x12_1).f2)))] (fun _ => True) (fun _ => False) rfl rfl ?aP (fun _ hk => hk.elim) ?aF ?aO ?aB ?aS ?aL ?_
               (case aP => exact rfl)
               (case aB => exact (by repeat (first | (with_reducible first | exact HB.out | apply below_alloc | apply pw_below_drewN | apply below_drew1 | refine below_set ?_ GE249.out) | exact HB.out)))
               (case aF => exact (fun _ _ => trivial))
               (case aO => exact (by (with_reducible repeat (first | apply Kd.R_alloc | apply Kd.R_drewN | apply Kd.R_drew)); exact HO_3.out))
               (case aS => exact (below_size (by repeat (first | (with_reducible first | exact HB.out | apply below_alloc | apply pw_below_drewN | apply below_drew1 | refine below_set ?_ GE249.out) | exact HB.out))))
               (case aL => have := LMc40.out; omega)
               intro v268 w46 ho hb hg hat
               rw [← Ny267.out] at ho
               have n0_ := Aside0.mk (blk_grown (g := gb249) (o := .cells #[.int .i8 ((rd_T81 ((rd_T31 l0 0).f1) x12_1).f0), .int .i16 ((rd_T81 ((rd_T31 l0 0).f1) x12_1).f1), .int .i16 ((rd_T81 ((rd_T31 l0 0).f1) x12_1).f2)] 81 (0, 0)) (by (with_reducible repeat (first | refine blk_drewN ?_ _ | refine blk_drew ?_ | refine blk_alloc ?_ _)); exact BK249.out) hg (Kd.R_ne HO_3.out BK249.out (by decide)))
               have n1_ := Aside0.mk (hb)
               have n2_ := Aside0.mk (ho)
               clear BK249
               clear HB
               clear HO_3
               have BK249 := n0_
               have HB := n1_
               have HO269 := n2_
               clear n0_ n1_ n2_
               clear ho hb hg hat
               refine hK.out _ _ ?_
               clear hK K
               refine norm_ (a' := ?_) ?_ ?_
               rotate_left
               ·show Act.put _ (some 31) _ = _
                simp only [Act.put, List.setIfInBounds_toArray, List.set_cons_zero, List.set_cons_succ, i64_w, i32_w]
                rfl
               refine pure_ (i := 14) (N := some 3) (v := ?_) (a' := ?_) #[true, true, true, true, true, true, true, true, true, true, true, true, true, true, true] rfl rfl (any_of HT_.out (by kernel_rfl)) (fun _ _ _ h => h) (Or.inl ⟨by rfl, ?_⟩) ?_ ?_
               rotate_left
               ·intro w'
                go_simp
                with_reducible rfl
               rotate_left
               ·simp only [Act.put, List.setIfInBounds_toArray, List.set_cons_zero, List.set_cons_succ, i64_w, i32_w]
                rfl
               refine done_ (done_of HT_.out (by kernel_rfl)) ?_
               try go_wp2
               go_roundg k1
               case measure => have := HK1.out; omega
               case rel => exact ⟨(y267), (wrap64 (x12_1 + 1)), (by first | rfl | (simp; done) | (simp [*]; done) | (exact congrArg (Value.int .i64) (wrap_eq (by omega)))), H', ⟨by have := HK1.out; omega⟩, ⟨by (with_reducible repeat (first | apply Kd.R_alloc | apply Kd.R_drewN | apply Kd.R_drew)); exact HO269.out⟩, ⟨by repeat (first | (with_reducible first | exact HB.out | apply below_alloc | apply pw_below_drewN | apply below_drew1 | refine below_set ?_ GE249.out) | exact HB.out)⟩⟩
              ·rw [if_neg c40] at H
               exact absurd H (by simp)
             ·rw [if_neg c39] at H
              exact absurd H (by simp)
            ·rw [if_neg c38] at H
             exact absurd H (by simp)
           ·rw [if_neg c37] at H
            exact absurd H (by simp)
          ·rw [if_neg c36] at H
           exact absurd H (by simp)
      ·rw [if_neg c7] at H
       exact absurd H (by simp)
     ·rw [if_neg c6] at H
      exact absurd H (by simp)
    ·rw [if_neg c5] at H
     have c5b0 : decide (x12_1 < (((rd_T31 l0 0).f1).length : Int)) = false := decide_eq_false c5
     clear c5
     obtain rfl := Option.some.inj H
     go_wp2
     go_ret
     exact ⟨_, by first | rfl | (simp [errW_none, errW_some] <;> rfl) | (simp [*, errW_none, errW_some] <;> rfl), by (with_reducible repeat (first | apply Kd.R_alloc | apply Kd.R_drewN | apply Kd.R_drew)); exact HO_3.out, by repeat (first | (with_reducible first | exact HB.out | apply below_alloc | apply pw_below_drewN | apply below_drew1) | exact HB.out)⟩
 ·rw [if_neg c2] at H
  exact absurd H (by simp)

end Go.Proofs.Ytmpmanfoiocfgaa.PFnExactNeedsOf
