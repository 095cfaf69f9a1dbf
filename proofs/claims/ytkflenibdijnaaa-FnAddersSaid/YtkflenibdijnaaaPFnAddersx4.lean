-- WRITTEN by xprint.py, a program of this session's. Not trusted: Lean checks it.
-- packed by pack.py
import Derived.Test.YtkflenibdijnaaaPFnAddersx0
import Derived.Test.YtkflenibdijnaaaPFnAddersx3
import Derived.Test.YtkflenibdijnaaaTFnAddersa
namespace Go.Proofs.Ytkflenibdijnaaa.PFnAdders
open Go.RowKit Go.Proofs.YtkflenibdijnaaaW.PrintWords Go.Proofs.YtkflenibdijnaaaW.PrintLast Go.Proofs.YtkflenibdijnaaaW.PrintMore Go.Proofs.YtkflenibdijnaaaX
attribute [local go_sem] max2_int min2_int max_two min_two max_three min_three max_four min_four   -- for this text's walks alone
set_option maxHeartbeats 8000000
set_option maxRecDepth 100000
set_option linter.unusedVariables false
set_option linter.unusedSimpArgs false

def impl_Network_tables.l0 : Nat → List (S29) → List Int → List (S61) → Int → Int → Option (List Int)
  | 0, _, _, _, _, _ => none
  | k + 1, x0, x3, x10, x11, x12 => if x12 < x11 then (if 0 ≤ x12 then (if x12 < (x10.length : Int) then (if ((rd_T61 x10 x12).f0) = 0 then (if 0 < (x0.length : Int) then ((impl_inputTable.f k (wrap64 ((rd_T29 x0 0).f0)) (wrap64 ((rd_T61 x10 x12).f1))).bind fun t151 => (if x3.length < 17592186044416 then (impl_Network_tables.l0 k x0 (x3 ++ [t151]) x10 x11 (wrap64 (x12 + 1))) else (none))) else (none)) else (if ((rd_T61 x10 x12).f0) = 1 then (if 0 < (x0.length : Int) then ((impl_full.f (wrap64 ((rd_T29 x0 0).f0))).bind fun t156 => (if x3.length < 17592186044416 then (impl_Network_tables.l0 k x0 (x3 ++ [t156]) x10 x11 (wrap64 (x12 + 1))) else (none))) else (none)) else (if ((rd_T61 x10 x12).f0) = 2 then (if 0 ≤ ((rd_T61 x10 x12).f1) then (if ((rd_T61 x10 x12).f1) < (x3.length : Int) then (if 0 ≤ ((rd_T61 x10 x12).f2) then (if ((rd_T61 x10 x12).f2) < (x3.length : Int) then (if x3.length < 17592186044416 then (impl_Network_tables.l0 k x0 (x3 ++ [Go.bits .or .u64 (rd x3 ((rd_T61 x10 x12).f1)) (rd x3 ((rd_T61 x10 x12).f2))]) x10 x11 (wrap64 (x12 + 1))) else (none)) else (none)) else (none)) else (none)) else (none)) else (if 0 ≤ ((rd_T61 x10 x12).f1) then (if ((rd_T61 x10 x12).f1) < (x3.length : Int) then (if 0 ≤ ((rd_T61 x10 x12).f2) then (if ((rd_T61 x10 x12).f2) < (x3.length : Int) then (if x3.length < 17592186044416 then (impl_Network_tables.l0 k x0 (x3 ++ [Go.bits .andNot .u64 (rd x3 ((rd_T61 x10 x12).f1)) (rd x3 ((rd_T61 x10 x12).f2))]) x10 x11 (wrap64 (x12 + 1))) else (none)) else (none)) else (none)) else (none)) else (none))))) else (none)) else (none)) else (some x3)
def impl_Network_tables.f (k : Nat) (l0 : List (S29)) : Option (List Int) := if 0 < (l0.length : Int) then (impl_Network_tables.l0 k l0 (([] : List Int)) ((rd_T29 l0 0).f1) (((rd_T29 l0 0).f1).length : Int) 0) else (none)
theorem impl_Network_tables.mono_l : ∀ k, (∀ y0 y1 y2 y3 y4, LeO (impl_Network_tables.l0 k y0 y1 y2 y3 y4) (impl_Network_tables.l0 (k + 1) y0 y1 y2 y3 y4))
  | 0 => fun _ _ _ _ _ r h => by simp [impl_Network_tables.l0] at h
  | k + 1 => by
    have ih0 := impl_Network_tables.mono_l k
    · intro y0 y1 y2 y3 y4
      unfold impl_Network_tables.l0
      repeat' first | (with_reducible first | apply ih0 | apply impl_inputTable.mono | exact LeO.refl _ | exact LeO.none _ | refine LeO.ite ?_ ?_ | refine LeO.bind ?_ (fun _ => ?_)) | apply ih0 | apply impl_inputTable.mono | exact LeO.none _ | refine LeO.ite ?_ ?_ | refine LeO.bind ?_ (fun _ => ?_)
theorem impl_Network_tables.mono : ∀ a0 k, LeO (impl_Network_tables.f k a0) (impl_Network_tables.f (k + 1) a0) := by
 intro a0 k
 have ih0 := impl_Network_tables.mono_l k
 unfold impl_Network_tables.f
 repeat' first | (with_reducible first | apply ih0 | apply impl_inputTable.mono | exact LeO.refl _ | exact LeO.none _ | refine LeO.ite ?_ ?_ | refine LeO.bind ?_ (fun _ => ?_)) | apply ih0 | apply impl_inputTable.mono | exact LeO.none _ | refine LeO.ite ?_ ?_ | refine LeO.bind ?_ (fun _ => ?_)
def impl_Network_tables.T6 : Bool × List (List Nat × List Nat) := (true, [([], []), ([], []), ([], []), ([2], [2]), ([1, 3], [1, 3]), ([4], [4]), ([], []), ([], []), ([7], [7]), ([6, 8], [6, 8]), ([9], [9]), ([5, 10], [5, 10]), ([11], [11]), ([0, 12], [0, 12]), ([13, 13, 0, 1, 2, 3, 4, 5, 6, 7, 8, 9, 10, 11, 12, 13], [0, 1, 6, 13])])
def impl_Network_tables.B6 : List Nat := [0, 0, 0, 4, 14, 30, 0, 0, 128, 448, 960, 2046, 4094, 8191, 16383]
theorem impl_Network_tables.tab6 : rtab .any (opsOf Try.f49 6) = impl_Network_tables.T6 := by kernel_rfl
theorem impl_Network_tables.bits6 : waitsOk impl_Network_tables.T6.2 impl_Network_tables.B6 = true := by kernel_rfl
def impl_Network_tables.T8 : Bool × List (List Nat × List Nat) := (true, [([], []), ([], []), ([1], [1]), ([2], [2]), ([3], [3]), ([4], [4]), ([], []), ([6], [6]), ([7], [7]), ([5, 8], [5, 8]), ([9], [9]), ([0, 10, 9], [0, 10]), ([11, 11, 0, 1, 2, 3, 4, 5, 6, 7, 8, 9, 10, 11], [0, 11])])
def impl_Network_tables.B8 : List Nat := [0, 0, 2, 6, 14, 30, 0, 64, 192, 510, 1022, 2047, 4095]
theorem impl_Network_tables.tab8 : rtab .any (opsOf Try.f49 8) = impl_Network_tables.T8 := by kernel_rfl
theorem impl_Network_tables.bits8 : waitsOk impl_Network_tables.T8.2 impl_Network_tables.B8 = true := by kernel_rfl
def impl_Network_tables.T12 : Bool × List (List Nat × List Nat) := (true, [([], []), ([], []), ([], []), ([2], [2]), ([1, 3], [1, 3]), ([4], [4]), ([], []), ([], []), ([7], [7]), ([6, 8], [6, 8]), ([9], [9]), ([5, 10], [5, 10]), ([11], [11]), ([0, 12], [0, 12]), ([13, 13, 0, 1, 2, 3, 4, 5, 6, 7, 8, 9, 10, 11, 12, 13], [0, 1, 6, 13])])
def impl_Network_tables.B12 : List Nat := [0, 0, 0, 4, 14, 30, 0, 0, 128, 448, 960, 2046, 4094, 8191, 16383]
theorem impl_Network_tables.tab12 : rtab .any (opsOf Try.f49 12) = impl_Network_tables.T12 := by kernel_rfl
theorem impl_Network_tables.bits12 : waitsOk impl_Network_tables.T12.2 impl_Network_tables.B12 = true := by kernel_rfl
theorem impl_Network_tables.calls (k : Nat) (adp0 : Addr) (l0 : List (S29)) (r : List Int) (w : World) (hr0 : Kd.C k29 w (some adp0) l0.length l0) (h : impl_Network_tables.f k l0 = some r) :
    Calls Try.prog 49 #[.pointer (some adp0)] w fun e w' => ∃ v0_ : Value, e = .returned (v0_) ∧ Kd.R (Kd.int .u64) 66 w' w.heap.size (fun _ => True) v0_ r ∧ Below w.heap.size w w' := by
 have hu61 := Try.underlying61
 have HR0 := Aside0.mk hr0
 clear hr0
 have HB := Aside0.mk (Below.refl w.heap.size w)
 have H : (if 0 < (l0.length : Int) then (impl_Network_tables.l0 k l0 (([] : List Int)) ((rd_T29 l0 0).f1) (((rd_T29 l0 0).f1).length : Int) 0) else (none)) = some r := h
 clear h
 obtain ⟨y144, hy144⟩ : ∃ y_ : List Int, y_ = (([] : List Int)) := ⟨_, rfl⟩
 replace H : (if 0 < (l0.length : Int) then (impl_Network_tables.l0 k l0 y144 ((rd_T29 l0 0).f1) (((rd_T29 l0 0).f1).length : Int) 0) else (none)) = some r := by first | (rw [hy144]; with_reducible exact H) | (have H2_ := (Option.bind_some _ _).symm.trans H; rw [hy144]; with_reducible exact H2_) | (have H2_ := (Option.bind_some _ _).symm.trans H; with_reducible exact H2_) | with_reducible exact H | (rw [hy144]; exact H) | exact H
 have Ny144 := Aside0.mk hy144
 clear hy144
 by_cases c2 : 0 < (l0.length : Int)
 rotate_left
 ·rw [if_neg c2] at H
  exact absurd H (by simp)
 rw [if_pos c2] at H
 have c2b0 : decide (0 < (l0.length : Int)) = true := decide_eq_true c2
 have c2b1 : decide (0 < l0.length) = true := decide_eq_true (by omega)
 clear c2
 have H' := Aside0.mk H
 clear H
 go_enter Try.func49, Try.ntmps49
 go_wp2_with (first | ((with_reducible refine gate_dst (N := 6) rfl ?_); refine Kd.R_lit (Kd.int .u64) _ 66 ?hg (N := 6) ?hd (xs := ([] : List Int)) (inner := []) (ok := fun _ => True) (okp := fun _ => True) ?hr ?hp (fun _ hk => hk) trivial (Below.refl _ _) (Nat.le_refl _) (by simp) ?_; (case hd => rfl); (case hg => rfl); (case hr => exact zgs); (case hp => exact (Reps.none _ _)); intro v145 w3 ho4 hb hg_ hnew_; clear hg_ hnew_; (first | rw [← Ny144.out] at ho4 | (simp only [Int.reduceToNat] at ho4; rw [← Ny144.out] at ho4)); have n_ : _ ∧ _ := ⟨Aside0.mk (Kd.R_lower ho4 (zz HB)), zb HB hb⟩; clear HB; obtain ⟨HO146, HB⟩ := n_; clear hb ho4; have p147 : 0 ≤ (0 : Int) := (by omega); have q147 : 0 < (l0.length : Int) := of_decide_eq_true zA; obtain ⟨ad147, A147_1, c147_1, A147_2, c147_2, e147, hx147_0, hx147_1, hx147_2, hl147_1, hi147_1, hl147_2, hi147_2⟩ := at_T29 HR0.out 0 p147 q147; obtain rfl : adp0 = ad147 := (by injection e147); have qi147 : (0 < l0.length) = True := eq_true (by omega); (try simp only [z00, Nat.zero_mul, Addr.add_zero'] at hx147_0 hx147_1 hx147_2); replace hx147_0 := zc HB hx147_0; replace hx147_1 := zc HB hx147_1; replace hx147_2 := zc HB hx147_2; have HR147_1 := Aside0.mk hi147_1; have HC147_1 := Aside0.mk hl147_1; clear hi147_1 hl147_1; have HR147_2 := Aside0.mk hi147_2; have HC147_2 := Aside0.mk hl147_2; clear hi147_2 hl147_2; replace p147 := eq_true p147; replace q147 := eq_true q147))
 go_loopg [3, 12] k (fun kq v3 v12 w' => ∃ (x3_1 : List Int) (x12_1 : Int), v12 = .int .i64 x12_1 ∧ Aside0 (impl_Network_tables.l0 kq l0 x3_1 ((rd_T29 l0 0).f1) (((rd_T29 l0 0).f1).length : Int) x12_1 = some r) ∧ Aside0 (kq ≤ k) ∧ Aside0 (Kd.R (Kd.int .u64) 66 w' w.heap.size (fun _ => True) v3 x3_1) ∧ Aside0 (Below w.heap.size w w'))
 case atStart => exact ⟨(y144), (0), zi, H', ⟨Nat.le_refl _⟩, ze HO146, zl HB⟩
 clear H'
 try clear c1
 try clear p1
 try clear q1
 try clear hx1
 try clear qi1
 try clear c2
 try clear c2b0
 try clear c2b1
 try clear p2
 try clear c4
 try clear hx147_0
 try clear hx147_1
 try clear hx147_2
 try clear p147
 try clear q147
 obtain ⟨x3_1, x12_1, rfl, HA, HK1, HO_3, HB⟩ := hrel
 cases gk with
 | zero => exact absurd HA.out (by simp [impl_Network_tables.l0])
 | succ k1 => ?_
 have H := HA.out
 clear HA
 simp only [impl_Network_tables.l0] at H
 by_cases c5 : x12_1 < (((rd_T29 l0 0).f1).length : Int)
 rotate_left
 ·rw [if_neg c5] at H
  have c5b0 : decide (x12_1 < (((rd_T29 l0 0).f1).length : Int)) = false := decide_eq_false c5
  clear c5
  obtain rfl := Option.some.inj H
  go_wp2
  go_ret
  exact ⟨_, zv, by (with_reducible repeat (first | apply Kd.R_alloc | apply Kd.R_drewN | apply Kd.R_drew)); exact HO_3.out, zbo⟩
 rw [if_pos c5] at H
 have c5b0 : decide (x12_1 < (((rd_T29 l0 0).f1).length : Int)) = true := decide_eq_true c5
 clear c5
 by_cases c6 : 0 ≤ x12_1
 rotate_left
 ·rw [if_neg c6] at H
  exact absurd H (by simp)
 rw [if_pos c6] at H
 have c6b0 : decide (0 ≤ x12_1) = true := decide_eq_true c6
 clear c6
 by_cases c7 : x12_1 < (((rd_T29 l0 0).f1).length : Int)
 rotate_left
 ·rw [if_neg c7] at H
  exact absurd H (by simp)
 rw [if_pos c7] at H
 have c7b0 : decide (x12_1 < (((rd_T29 l0 0).f1).length : Int)) = true := decide_eq_true c7
 clear c7
 by_cases c8 : ((rd_T61 ((rd_T29 l0 0).f1) x12_1).f0) = 0
 ·rw [if_pos c8] at H
  have c8b0 : (((rd_T61 ((rd_T29 l0 0).f1) x12_1).f0) == 0) = true := beq_iff_eq.mpr c8
  have c8b1 : (((rd_T61 ((rd_T29 l0 0).f1) x12_1).f0) != 0) = false := bne_eq_false_iff_eq.mpr c8
  clear c8
  by_cases c9 : 0 < (l0.length : Int)
  rotate_left
  ·rw [if_neg c9] at H
   exact absurd H (by simp)
  rw [if_pos c9] at H
  have c9b0 : decide (0 < (l0.length : Int)) = true := decide_eq_true c9
  have c9b1 : decide (0 < l0.length) = true := decide_eq_true (by omega)
  clear c9
  replace H := zob H
  obtain ⟨t151, A100, H⟩ := H
  replace H : (if x3_1.length < 17592186044416 then (impl_Network_tables.l0 k1 l0 (x3_1 ++ [t151]) ((rd_T29 l0 0).f1) (((rd_T29 l0 0).f1).length : Int) (wrap64 (x12_1 + 1))) else (none)) = some r := H
  have A10 := Aside0.mk A100
  clear A100
  by_cases c11 : x3_1.length < 17592186044416
  rotate_left
  ·rw [if_neg c11] at H
   exact absurd H (by simp)
  rw [if_pos c11] at H
  have LMc11 := Aside0.mk c11
  clear c11
  obtain ⟨y152, hy152⟩ : ∃ y_ : List Int, y_ = (x3_1 ++ [t151]) := ⟨_, rfl⟩
  replace H : (impl_Network_tables.l0 k1 l0 y152 ((rd_T29 l0 0).f1) (((rd_T29 l0 0).f1).length : Int) (wrap64 (x12_1 + 1))) = some r := by first | (rw [hy152]; with_reducible exact H) | (have H2_ := (Option.bind_some _ _).symm.trans H; rw [hy152]; with_reducible exact H2_) | (have H2_ := (Option.bind_some _ _).symm.trans H; with_reducible exact H2_) | with_reducible exact H | (rw [hy152]; exact H) | exact H
  have Ny152 := Aside0.mk hy152
  clear hy152
  have H' := Aside0.mk H
  clear H
  have p148 : 0 ≤ (x12_1 : Int) := of_decide_eq_true zA
  have q148 : x12_1 < (((rd_T29 l0 0).f1).length : Int) := of_decide_eq_true zA
  obtain ⟨ad148, e148, hx148_0, hx148_1, hx148_2⟩ := at_T61 HR147_1.out x12_1 p148 q148
  cases e148
  replace hx148_0 := zc HB hx148_0
  replace hx148_1 := zc HB hx148_1
  replace hx148_2 := zc HB hx148_2
  replace p148 := eq_true p148
  replace q148 := eq_true q148
  try go_wp2_with (first | ((with_reducible refine gate_dst (N := 5) rfl ?_); refine zbx 5 #[.int .i8 0, .int .i16 0, .int .i16 0] 61 ?_; intro gb149 hg w12 hbox hb; have n_ : _ ∧ _ ∧ _ ∧ _ ∧ _ := ⟨zr HO_3 hb, zb HB hb, Aside0.mk (hbox), zg HB hg, zg HB hg⟩; clear HO_3 HB; obtain ⟨HO_3, HB, BK149, GW149, GE149⟩ := n_; clear hb hbox hg; obtain ⟨z13_0, z13_1, z13_2, y13_0, y13_1, y13_2⟩ := zB3 BK149))
  have n0_ : Aside0 (Kd.R (Kd.int .u64) 66 (((w12.setCell ⟨gb149, 0, none⟩ (.int .i8 ((rd_T61 ((rd_T29 l0 0).f1) x12_1).f0))).setCell ⟨gb149, 1, none⟩ (.int .i16 ((rd_T61 ((rd_T29 l0 0).f1) x12_1).f1))).setCell ⟨gb149, 2, none⟩ (.int .i16 ((rd_T61 ((rd_T29 l0 0).f1) x12_1).f2))) w.heap.size (fun _ => True) u3 x3_1) := ⟨Kd.R_mono (zs HO_3 BK149).out (fun _ hk => trivial)⟩
  have n1_ : Aside0 ((((w12.setCell ⟨gb149, 0, none⟩ (.int .i8 ((rd_T61 ((rd_T29 l0 0).f1) x12_1).f0))).setCell ⟨gb149, 1, none⟩ (.int .i16 ((rd_T61 ((rd_T29 l0 0).f1) x12_1).f1))).setCell ⟨gb149, 2, none⟩ (.int .i16 ((rd_T61 ((rd_T29 l0 0).f1) x12_1).f2))).heap[gb149]? = some (.cells #[.int .i8 ((rd_T61 ((rd_T29 l0 0).f1) x12_1).f0), .int .i16 ((rd_T61 ((rd_T29 l0 0).f1) x12_1).f1), .int .i16 ((rd_T61 ((rd_T29 l0 0).f1) x12_1).f2)] 61 (0, 0))) := ⟨zp BK149⟩
  have n2_ : Aside0 (Below w.heap.size w (((w12.setCell ⟨gb149, 0, none⟩ (.int .i8 ((rd_T61 ((rd_T29 l0 0).f1) x12_1).f0))).setCell ⟨gb149, 1, none⟩ (.int .i16 ((rd_T61 ((rd_T29 l0 0).f1) x12_1).f1))).setCell ⟨gb149, 2, none⟩ (.int .i16 ((rd_T61 ((rd_T29 l0 0).f1) x12_1).f2)))) := zba
  (try clear HO_3)
  (try clear BK149)
  (try clear HB)
  generalize (((w12.setCell ⟨gb149, 0, none⟩ (.int .i8 ((rd_T61 ((rd_T29 l0 0).f1) x12_1).f0))).setCell ⟨gb149, 1, none⟩ (.int .i16 ((rd_T61 ((rd_T29 l0 0).f1) x12_1).f1))).setCell ⟨gb149, 2, none⟩ (.int .i16 ((rd_T61 ((rd_T29 l0 0).f1) x12_1).f2))) = w14 at n0_ n1_ n2_ ⊢
  have HO_3 := n0_
  have BK149 := n1_
  have HB := n2_
  clear n0_ n1_ n2_
  have n_ : _ ∧ _ ∧ _ := ⟨Aside0.mk (Kd.R_drew HO_3.out), Aside0.mk (blk_drew BK149.out), Aside0.mk (below_drew1 HB.out)⟩
  clear HO_3 BK149 HB
  obtain ⟨HO_3, BK149, HB⟩ := n_
  have p150 : 0 ≤ (0 : Int) := (by omega)
  have q150 : 0 < (l0.length : Int) := of_decide_eq_true zA
  obtain ⟨ad150, A150_1, c150_1, A150_2, c150_2, e150, hx150_0, hx150_1, hx150_2, hl150_1, hi150_1, hl150_2, hi150_2⟩ := at_T29 HR0.out 0 p150 q150
  have hw150_2 := hx150_2
  try simp only [z00, Nat.zero_mul, Addr.add_zero'] at hw150_2
  have hw150_1 := hx150_1
  try simp only [z00, Nat.zero_mul, Addr.add_zero'] at hw150_1
  have hw150_0 := hx150_0
  try simp only [z00, Nat.zero_mul, Addr.add_zero'] at hw150_0
  obtain rfl : adp0 = ad150 := (by injection e150)
  have qi150 : (0 < l0.length) = True := eq_true (by omega)
  try simp only [z00, Nat.zero_mul, Addr.add_zero'] at hx150_0 hx150_1 hx150_2
  replace hx150_0 := zc HB hx150_0
  replace hx150_1 := zc HB hx150_1
  replace hx150_2 := zc HB hx150_2
  have HR150_1 := Aside0.mk hi150_1
  have HC150_1 := Aside0.mk hl150_1
  clear hi150_1 hl150_1
  have HR150_2 := Aside0.mk hi150_2
  have HC150_2 := Aside0.mk hl150_2
  clear hi150_2 hl150_2
  replace p150 := eq_true p150
  replace q150 := eq_true q150
  refine start_ (n := 13) (S := fun w' => w'.cell? ⟨gb149, 0, none⟩ = some (.int .i8 ((rd_T61 ((rd_T29 l0 0).f1) x12_1).f0)) ∧ w'.cell? ⟨gb149, 1, none⟩ = some (.int .i16 ((rd_T61 ((rd_T29 l0 0).f1) x12_1).f1)) ∧ w'.cell? ⟨gb149, 2, none⟩ = some (.int .i16 ((rd_T61 ((rd_T29 l0 0).f1) x12_1).f2)) ∧ w'.cell? adp0 = some (.int .i8 ((rd_T29 l0 0).f0)) ∧ w'.cell? ⟨adp0.block, adp0.off + 1, none⟩ = some (.slice A150_1 ((rd_T29 l0 0).f1).length c150_1) ∧ w'.cell? ⟨adp0.block, adp0.off + 2, none⟩ = some (.slice A150_2 ((rd_T29 l0 0).f2).length c150_2)) (ds := []) (zq 13 0) (by kernel_rfl) rfl rfl ⟨(blk_cell BK149.out 0).trans rfl, (blk_cell BK149.out 1).trans rfl, (blk_cell BK149.out 2).trans rfl, (zc HB hw150_0), (zc HB hw150_1), (zc HB hw150_2)⟩ (fun hHeld => ?_); refine with_tabW impl_Network_tables.tab8 impl_Network_tables.bits8 (fun HT_ HW_ => ?_)
  generalize w14.drew = w15 at HO_3 BK149 HB HR150_1 HR150_2 hx150_0 hx150_1 hx150_2 hHeld ⊢
  refine zpu 0 (some 34) (zq 13 1) HT_ ?_
  refine zpu 1 (some 35) (zq 13 3) HT_ ?_
  refine zpu 2 (some 36) (zq 13 7) HT_ ?_
  refine zpu 3 (some 37) (zq 13 15) HT_ ?_
  refine zpu 6 (some 40) (zq 13 79) HT_ ?_
  refine ztk 4 (some 38) (zq 13 95) HT_ HW_ rfl hHeld (Or.inl ⟨by rfl, by (rintro w' ⟨s0, s1, s2, s3, s4, s5⟩; go_simp; with_reducible rfl)⟩) ?_
  refine zpu 5 (some 39) (zq 13 127) HT_ ?_
  refine ztk 7 (some 41) (zq 13 255) HT_ HW_ rfl hHeld (Or.inl ⟨by rfl, by (rintro w' ⟨s0, s1, s2, s3, s4, s5⟩; go_simp; with_reducible rfl)⟩) ?_
  refine zpu 8 (some 42) (zq 13 511) HT_ ?_
  refine one_ (i := 9) (N := some 43) (zq 13 1023) rfl rfl (one_of HT_.out (by kernel_rfl)) (by decide) (fun K hK => ?_)
  refine goes_ Try.func58 (by kernel_rfl) rfl #[.int .i64 (wrap64 ((rd_T29 l0 0).f0)), .int .i64 (wrap64 ((rd_T61 ((rd_T29 l0 0).f1) x12_1).f1))] (by rfl) rfl rfl zm ?_
  with_reducible refine (impl_inputTable.calls k1 (wrap64 ((rd_T29 l0 0).f0)) (wrap64 ((rd_T61 ((rd_T29 l0 0).f1) x12_1).f1)) t151 _ A10.out).mono ?_
  rintro e w' ⟨rfl, ⟨nd, rfl⟩⟩
  refine ⟨_, rfl, ?_⟩
  refine hK.out _ _ ⟨(blk_cell BK149.out 0).trans rfl, (blk_cell BK149.out 1).trans rfl, (blk_cell BK149.out 2).trans rfl, (zc HB hw150_0), (zc HB hw150_1), (zc HB hw150_2)⟩ (fun hHeld => ?_)
  clear hK K
  refine norm_ (a' := ?_) ?_ ?_
  rotate_left
  ·show Act.put _ (some 43) _ = _
   exact zap
  refine one_ (i := 10) (N := some 44) (zq 13 2047) rfl rfl (one_of HT_.out (by kernel_rfl)) (by decide) (fun K hK => ?_)
  refine value_ (w1 := ?_) (v := ?_) (by rfl) rfl ?_ ?_
  rotate_left 2
  ·go_simp
   constructor
   rotate_left
   ·rfl
   rfl
  refine hK.out _ _ ⟨(blk_cell (blk_alloc BK149.out _) 0).trans rfl, (blk_cell (blk_alloc BK149.out _) 1).trans rfl, (blk_cell (blk_alloc BK149.out _) 2).trans rfl, (World.cell?_alloc_lt _ _ _ (World.block_lt_of_cell? _ _ ((zc HB hw150_0)))).trans ((zc HB hw150_0)), (World.cell?_alloc_lt _ _ _ (World.block_lt_of_cell? _ _ ((zc HB hw150_1)))).trans ((zc HB hw150_1)), (World.cell?_alloc_lt _ _ _ (World.block_lt_of_cell? _ _ ((zc HB hw150_2)))).trans ((zc HB hw150_2))⟩ (fun hHeld => ?_)
  clear hK K
  refine norm_ (a' := ?_) ?_ ?_
  rotate_left
  ·show Act.put _ (some 44) _ = _
   exact zap
  refine one_ (i := 11) (N := some 45) (zq 13 4095) rfl rfl (one_of HT_.out (by kernel_rfl)) (by decide) (fun K hK => ?_)
  refine Kd.R_append_step (Kd.int .u64) (w0 := w) w.heap.size (by rfl) (.tmp 34) (.tmp 44) 64 66 (.int .u64 0) 8 rfl Try.underlying64 info66 rfl (by decide) (by omega) u3 x3_1 t151 [.int .u64 t151] (fun _ => True) (fun _ => False) rfl rfl ?aP (fun _ hk => hk.elim) ?aF ?aO ?aB ?aS ?aL ?_
  (case aP => exact rfl)
  (case aB => exact zbo)
  (case aF => exact (fun _ _ => trivial))
  (case aO => exact (ze HO_3).out)
  (case aS => exact (zz HB))
  (case aL => have := LMc11.out; omega)
  intro v153 w16 ho hb hg hat
  rw [← Ny152.out] at ho
  have n_ : _ ∧ _ ∧ _ := ⟨Aside0.mk (blk_grown (g := gb149) (o := .cells #[.int .i8 ((rd_T61 ((rd_T29 l0 0).f1) x12_1).f0), .int .i16 ((rd_T61 ((rd_T29 l0 0).f1) x12_1).f1), .int .i16 ((rd_T61 ((rd_T29 l0 0).f1) x12_1).f2)] 61 (0, 0)) (zh BK149).out hg (Kd.R_ne HO_3.out BK149.out (by decide))), Aside0.mk (hb), Aside0.mk (ho)⟩
  clear BK149 HB HO_3
  obtain ⟨BK149, HB, HO154⟩ := n_
  clear ho hb hg hat
  refine hK.out _ _ ⟨(blk_cell BK149.out 0).trans rfl, (blk_cell BK149.out 1).trans rfl, (blk_cell BK149.out 2).trans rfl, (zc HB hw150_0), (zc HB hw150_1), (zc HB hw150_2)⟩ (fun hHeld => ?_)
  clear hK K
  refine norm_ (a' := ?_) ?_ ?_
  rotate_left
  ·show Act.put _ (some 45) _ = _
   exact zap
  refine zpu 12 (some 3) (zq 13 8191) HT_ ?_
  refine done_ (done_of HT_.out (by kernel_rfl)) ?_
  try go_wp2
  go_roundg k1
  case measure => have := HK1.out; omega
  case rel => exact ⟨(y152), (wrap64 (x12_1 + 1)), zi, H', ⟨by have := HK1.out; omega⟩, ze HO154, zba⟩
 rw [if_neg c8] at H
 have c8b0 : (((rd_T61 ((rd_T29 l0 0).f1) x12_1).f0) == 0) = false := beq_eq_false_iff_ne.mpr c8
 have c8b1 : (((rd_T61 ((rd_T29 l0 0).f1) x12_1).f0) != 0) = true := bne_iff_ne.mpr c8
 by_cases c17 : ((rd_T61 ((rd_T29 l0 0).f1) x12_1).f0) = 1
 ·rw [if_pos c17] at H
  have c17b0 : (((rd_T61 ((rd_T29 l0 0).f1) x12_1).f0) == 1) = true := beq_iff_eq.mpr c17
  have c17b1 : (((rd_T61 ((rd_T29 l0 0).f1) x12_1).f0) != 1) = false := bne_eq_false_iff_eq.mpr c17
  clear c17
  by_cases c18 : 0 < (l0.length : Int)
  rotate_left
  ·rw [if_neg c18] at H
   exact absurd H (by simp)
  rw [if_pos c18] at H
  have c18b0 : decide (0 < (l0.length : Int)) = true := decide_eq_true c18
  have c18b1 : decide (0 < l0.length) = true := decide_eq_true (by omega)
  clear c18
  replace H := zob H
  obtain ⟨t156, A190, H⟩ := H
  replace H : (if x3_1.length < 17592186044416 then (impl_Network_tables.l0 k1 l0 (x3_1 ++ [t156]) ((rd_T29 l0 0).f1) (((rd_T29 l0 0).f1).length : Int) (wrap64 (x12_1 + 1))) else (none)) = some r := H
  have A19 := Aside0.mk A190
  clear A190
  by_cases c20 : x3_1.length < 17592186044416
  rotate_left
  ·rw [if_neg c20] at H
   exact absurd H (by simp)
  rw [if_pos c20] at H
  have LMc20 := Aside0.mk c20
  clear c20
  obtain ⟨y157, hy157⟩ : ∃ y_ : List Int, y_ = (x3_1 ++ [t156]) := ⟨_, rfl⟩
  replace H : (impl_Network_tables.l0 k1 l0 y157 ((rd_T29 l0 0).f1) (((rd_T29 l0 0).f1).length : Int) (wrap64 (x12_1 + 1))) = some r := by first | (rw [hy157]; with_reducible exact H) | (have H2_ := (Option.bind_some _ _).symm.trans H; rw [hy157]; with_reducible exact H2_) | (have H2_ := (Option.bind_some _ _).symm.trans H; with_reducible exact H2_) | with_reducible exact H | (rw [hy157]; exact H) | exact H
  have Ny157 := Aside0.mk hy157
  clear hy157
  have H' := Aside0.mk H
  clear H
  have p148 : 0 ≤ (x12_1 : Int) := of_decide_eq_true zA
  have q148 : x12_1 < (((rd_T29 l0 0).f1).length : Int) := of_decide_eq_true zA
  obtain ⟨ad148, e148, hx148_0, hx148_1, hx148_2⟩ := at_T61 HR147_1.out x12_1 p148 q148
  cases e148
  replace hx148_0 := zc HB hx148_0
  replace hx148_1 := zc HB hx148_1
  replace hx148_2 := zc HB hx148_2
  replace p148 := eq_true p148
  replace q148 := eq_true q148
  go_wp2_with (first | ((with_reducible refine gate_dst (N := 5) rfl ?_); refine zbx 5 #[.int .i8 0, .int .i16 0, .int .i16 0] 61 ?_; intro gb149 hg w21 hbox hb; have n_ : _ ∧ _ ∧ _ ∧ _ ∧ _ := ⟨zr HO_3 hb, zb HB hb, Aside0.mk (hbox), zg HB hg, zg HB hg⟩; clear HO_3 HB; obtain ⟨HO_3, HB, BK149, GW149, GE149⟩ := n_; clear hb hbox hg; obtain ⟨z22_0, z22_1, z22_2, y22_0, y22_1, y22_2⟩ := zB3 BK149; have p155 : 0 ≤ (0 : Int) := (by omega); have q155 : 0 < (l0.length : Int) := of_decide_eq_true zA; obtain ⟨ad155, A155_1, c155_1, A155_2, c155_2, e155, hx155_0, hx155_1, hx155_2, hl155_1, hi155_1, hl155_2, hi155_2⟩ := at_T29 HR0.out 0 p155 q155; obtain rfl : adp0 = ad155 := (by injection e155); have qi155 : (0 < l0.length) = True := eq_true (by omega); (try simp only [z00, Nat.zero_mul, Addr.add_zero'] at hx155_0 hx155_1 hx155_2); have hn155_0 : adp0.block ≠ gb149 := Nat.ne_of_lt (Nat.lt_of_lt_of_le (by have := World.block_lt_of_cell? _ _ hx155_0; first | rwa [add_block] at this | exact this) GW149.out); have hn155_1 : adp0.block ≠ gb149 := Nat.ne_of_lt (Nat.lt_of_lt_of_le (by have := World.block_lt_of_cell? _ _ hx155_0; first | rwa [add_block] at this | exact this) GW149.out); have hn155_2 : adp0.block ≠ gb149 := Nat.ne_of_lt (Nat.lt_of_lt_of_le (by have := World.block_lt_of_cell? _ _ hx155_0; first | rwa [add_block] at this | exact this) GW149.out); replace hx155_0 := zc HB hx155_0; replace hx155_1 := zc HB hx155_1; replace hx155_2 := zc HB hx155_2; have HR155_1 := Aside0.mk hi155_1; have HC155_1 := Aside0.mk hl155_1; clear hi155_1 hl155_1; have HR155_2 := Aside0.mk hi155_2; have HC155_2 := Aside0.mk hl155_2; clear hi155_2 hl155_2; replace hx155_0 := (cell_far (p := ⟨gb149, 0, none⟩) (by first | (rw [add_block]; exact hn155_0) | (show (Addr.add _ _).block ≠ _; rw [add_block]; exact hn155_0) | exact hn155_0) (.int .i8 ((rd_T61 ((rd_T29 l0 0).f1) x12_1).f0))).trans hx155_0; replace hx155_1 := (cell_far (p := ⟨gb149, 0, none⟩) (by first | (rw [add_block]; exact hn155_0) | (show (Addr.add _ _).block ≠ _; rw [add_block]; exact hn155_0) | exact hn155_0) (.int .i8 ((rd_T61 ((rd_T29 l0 0).f1) x12_1).f0))).trans hx155_1; replace hx155_2 := (cell_far (p := ⟨gb149, 0, none⟩) (by first | (rw [add_block]; exact hn155_0) | (show (Addr.add _ _).block ≠ _; rw [add_block]; exact hn155_0) | exact hn155_0) (.int .i8 ((rd_T61 ((rd_T29 l0 0).f1) x12_1).f0))).trans hx155_2; replace hx155_0 := (cell_far (p := ⟨gb149, 1, none⟩) (by first | (rw [add_block]; exact hn155_1) | (show (Addr.add _ _).block ≠ _; rw [add_block]; exact hn155_1) | exact hn155_1) (.int .i16 ((rd_T61 ((rd_T29 l0 0).f1) x12_1).f1))).trans hx155_0; replace hx155_1 := (cell_far (p := ⟨gb149, 1, none⟩) (by first | (rw [add_block]; exact hn155_1) | (show (Addr.add _ _).block ≠ _; rw [add_block]; exact hn155_1) | exact hn155_1) (.int .i16 ((rd_T61 ((rd_T29 l0 0).f1) x12_1).f1))).trans hx155_1; replace hx155_2 := (cell_far (p := ⟨gb149, 1, none⟩) (by first | (rw [add_block]; exact hn155_1) | (show (Addr.add _ _).block ≠ _; rw [add_block]; exact hn155_1) | exact hn155_1) (.int .i16 ((rd_T61 ((rd_T29 l0 0).f1) x12_1).f1))).trans hx155_2; replace hx155_0 := (cell_far (p := ⟨gb149, 2, none⟩) (by first | (rw [add_block]; exact hn155_2) | (show (Addr.add _ _).block ≠ _; rw [add_block]; exact hn155_2) | exact hn155_2) (.int .i16 ((rd_T61 ((rd_T29 l0 0).f1) x12_1).f2))).trans hx155_0; replace hx155_1 := (cell_far (p := ⟨gb149, 2, none⟩) (by first | (rw [add_block]; exact hn155_2) | (show (Addr.add _ _).block ≠ _; rw [add_block]; exact hn155_2) | exact hn155_2) (.int .i16 ((rd_T61 ((rd_T29 l0 0).f1) x12_1).f2))).trans hx155_1; replace hx155_2 := (cell_far (p := ⟨gb149, 2, none⟩) (by first | (rw [add_block]; exact hn155_2) | (show (Addr.add _ _).block ≠ _; rw [add_block]; exact hn155_2) | exact hn155_2) (.int .i16 ((rd_T61 ((rd_T29 l0 0).f1) x12_1).f2))).trans hx155_2; clear hn155_0; clear hn155_1; clear hn155_2; replace p155 := eq_true p155; replace q155 := eq_true q155) | ((with_reducible refine gate_callee (f := 59) rfl ?_); refine goesL_ (some 54) rfl rfl Try.func59 (by kernel_rfl) rfl #[.int .i64 (wrap64 ((rd_T29 l0 0).f0))] rfl zm ?_; (with_reducible refine (impl_full.calls (wrap64 ((rd_T29 l0 0).f0)) t156 _ A19.out).mono ?_); rintro e w' ⟨rfl, ⟨nd, rfl⟩⟩; refine ⟨_, rfl, ?_⟩) | ((with_reducible refine gate_builtin (b := .append) (xs := #[.tmp 48, .tmp 55]) rfl ?_); at_builtin; refine Kd.R_append (Kd.int .u64) (w0 := w) w.heap.size rfl (.tmp 48) (.tmp 55) 64 66 (.int .u64 0) 8 rfl Try.underlying64 info66 rfl (by decide) (by omega) u3 x3_1 t156 [.int .u64 t156] (fun _ => True) (fun _ => False) rfl (by first | (go_simp; done) | (go_simp; rfl)) ?aP (fun _ hk => hk.elim) ?aF ?aO ?aB ?aS ?aL ?_; (case aP => exact rfl); (case aB => exact zbo); (case aF => exact (fun _ _ => trivial)); (case aO => exact (Kd.R_mono (zs HO_3 BK149).out (fun _ hk => trivial))); (case aS => exact (zz HB)); (case aL => have := LMc20.out; omega); intro v158 w23 ho hb hg hat; rw [← Ny157.out] at ho; have n_ : _ ∧ _ ∧ _ := ⟨Aside0.mk (blk_grown (g := gb149) (o := .cells #[.int .i8 ((rd_T61 ((rd_T29 l0 0).f1) x12_1).f0), .int .i16 ((rd_T61 ((rd_T29 l0 0).f1) x12_1).f1), .int .i16 ((rd_T61 ((rd_T29 l0 0).f1) x12_1).f2)] 61 (0, 0)) (zp BK149) hg (Kd.R_ne HO_3.out BK149.out (by decide))), Aside0.mk (hb), Aside0.mk (ho)⟩; clear BK149 HB HO_3; obtain ⟨BK149, HB, HO159⟩ := n_; clear ho hb hg hat))
  go_roundg k1
  case measure => have := HK1.out; omega
  case rel => exact ⟨(y157), (wrap64 (x12_1 + 1)), zi, H', ⟨by have := HK1.out; omega⟩, ze HO159, zba⟩
 rw [if_neg c17] at H
 have c17b0 : (((rd_T61 ((rd_T29 l0 0).f1) x12_1).f0) == 1) = false := beq_eq_false_iff_ne.mpr c17
 have c17b1 : (((rd_T61 ((rd_T29 l0 0).f1) x12_1).f0) != 1) = true := bne_iff_ne.mpr c17
 by_cases c24 : ((rd_T61 ((rd_T29 l0 0).f1) x12_1).f0) = 2
 ·rw [if_pos c24] at H
  have c24b0 : (((rd_T61 ((rd_T29 l0 0).f1) x12_1).f0) == 2) = true := beq_iff_eq.mpr c24
  have c24b1 : (((rd_T61 ((rd_T29 l0 0).f1) x12_1).f0) != 2) = false := bne_eq_false_iff_eq.mpr c24
  clear c24
  by_cases c25 : 0 ≤ ((rd_T61 ((rd_T29 l0 0).f1) x12_1).f1)
  rotate_left
  ·rw [if_neg c25] at H
   exact absurd H (by simp)
  rw [if_pos c25] at H
  have c25b0 : decide (0 ≤ ((rd_T61 ((rd_T29 l0 0).f1) x12_1).f1)) = true := decide_eq_true c25
  clear c25
  by_cases c26 : ((rd_T61 ((rd_T29 l0 0).f1) x12_1).f1) < (x3_1.length : Int)
  rotate_left
  ·rw [if_neg c26] at H
   exact absurd H (by simp)
  rw [if_pos c26] at H
  have c26b0 : decide (((rd_T61 ((rd_T29 l0 0).f1) x12_1).f1) < (x3_1.length : Int)) = true := decide_eq_true c26
  clear c26
  by_cases c27 : 0 ≤ ((rd_T61 ((rd_T29 l0 0).f1) x12_1).f2)
  rotate_left
  ·rw [if_neg c27] at H
   exact absurd H (by simp)
  rw [if_pos c27] at H
  have c27b0 : decide (0 ≤ ((rd_T61 ((rd_T29 l0 0).f1) x12_1).f2)) = true := decide_eq_true c27
  clear c27
  by_cases c28 : ((rd_T61 ((rd_T29 l0 0).f1) x12_1).f2) < (x3_1.length : Int)
  rotate_left
  ·rw [if_neg c28] at H
   exact absurd H (by simp)
  rw [if_pos c28] at H
  have c28b0 : decide (((rd_T61 ((rd_T29 l0 0).f1) x12_1).f2) < (x3_1.length : Int)) = true := decide_eq_true c28
  clear c28
  by_cases c29 : x3_1.length < 17592186044416
  rotate_left
  ·rw [if_neg c29] at H
   exact absurd H (by simp)
  rw [if_pos c29] at H
  have LMc29 := Aside0.mk c29
  clear c29
  obtain ⟨y162, hy162⟩ : ∃ y_ : List Int, y_ = (x3_1 ++ [Go.bits .or .u64 (rd x3_1 ((rd_T61 ((rd_T29 l0 0).f1) x12_1).f1)) (rd x3_1 ((rd_T61 ((rd_T29 l0 0).f1) x12_1).f2))]) := ⟨_, rfl⟩
  replace H : (impl_Network_tables.l0 k1 l0 y162 ((rd_T29 l0 0).f1) (((rd_T29 l0 0).f1).length : Int) (wrap64 (x12_1 + 1))) = some r := by first | (rw [hy162]; with_reducible exact H) | (have H2_ := (Option.bind_some _ _).symm.trans H; rw [hy162]; with_reducible exact H2_) | (have H2_ := (Option.bind_some _ _).symm.trans H; with_reducible exact H2_) | with_reducible exact H | (rw [hy162]; exact H) | exact H
  have Ny162 := Aside0.mk hy162
  clear hy162
  have H' := Aside0.mk H
  clear H
  have p148 : 0 ≤ (x12_1 : Int) := of_decide_eq_true zA
  have q148 : x12_1 < (((rd_T29 l0 0).f1).length : Int) := of_decide_eq_true zA
  obtain ⟨ad148, e148, hx148_0, hx148_1, hx148_2⟩ := at_T61 HR147_1.out x12_1 p148 q148
  cases e148
  replace hx148_0 := zc HB hx148_0
  replace hx148_1 := zc HB hx148_1
  replace hx148_2 := zc HB hx148_2
  replace p148 := eq_true p148
  replace q148 := eq_true q148
  try go_wp2_with (first | ((with_reducible refine gate_dst (N := 5) rfl ?_); refine zbx 5 #[.int .i8 0, .int .i16 0, .int .i16 0] 61 ?_; intro gb149 hg w30 hbox hb; have n_ : _ ∧ _ ∧ _ ∧ _ ∧ _ := ⟨zr HO_3 hb, zb HB hb, Aside0.mk (hbox), zg HB hg, zg HB hg⟩; clear HO_3 HB; obtain ⟨HO_3, HB, BK149, GW149, GE149⟩ := n_; clear hb hbox hg; obtain ⟨z31_0, z31_1, z31_2, y31_0, y31_1, y31_2⟩ := zB3 BK149))
  have n0_ : Aside0 (Kd.R (Kd.int .u64) 66 (((w30.setCell ⟨gb149, 0, none⟩ (.int .i8 ((rd_T61 ((rd_T29 l0 0).f1) x12_1).f0))).setCell ⟨gb149, 1, none⟩ (.int .i16 ((rd_T61 ((rd_T29 l0 0).f1) x12_1).f1))).setCell ⟨gb149, 2, none⟩ (.int .i16 ((rd_T61 ((rd_T29 l0 0).f1) x12_1).f2))) w.heap.size (fun _ => True) u3 x3_1) := ⟨Kd.R_mono (zs HO_3 BK149).out (fun _ hk => trivial)⟩
  have n1_ : Aside0 ((((w30.setCell ⟨gb149, 0, none⟩ (.int .i8 ((rd_T61 ((rd_T29 l0 0).f1) x12_1).f0))).setCell ⟨gb149, 1, none⟩ (.int .i16 ((rd_T61 ((rd_T29 l0 0).f1) x12_1).f1))).setCell ⟨gb149, 2, none⟩ (.int .i16 ((rd_T61 ((rd_T29 l0 0).f1) x12_1).f2))).heap[gb149]? = some (.cells #[.int .i8 ((rd_T61 ((rd_T29 l0 0).f1) x12_1).f0), .int .i16 ((rd_T61 ((rd_T29 l0 0).f1) x12_1).f1), .int .i16 ((rd_T61 ((rd_T29 l0 0).f1) x12_1).f2)] 61 (0, 0))) := ⟨zp BK149⟩
  have n2_ : Aside0 (Below w.heap.size w (((w30.setCell ⟨gb149, 0, none⟩ (.int .i8 ((rd_T61 ((rd_T29 l0 0).f1) x12_1).f0))).setCell ⟨gb149, 1, none⟩ (.int .i16 ((rd_T61 ((rd_T29 l0 0).f1) x12_1).f1))).setCell ⟨gb149, 2, none⟩ (.int .i16 ((rd_T61 ((rd_T29 l0 0).f1) x12_1).f2)))) := zba
  (try clear HO_3)
  (try clear BK149)
  (try clear HB)
  generalize (((w30.setCell ⟨gb149, 0, none⟩ (.int .i8 ((rd_T61 ((rd_T29 l0 0).f1) x12_1).f0))).setCell ⟨gb149, 1, none⟩ (.int .i16 ((rd_T61 ((rd_T29 l0 0).f1) x12_1).f1))).setCell ⟨gb149, 2, none⟩ (.int .i16 ((rd_T61 ((rd_T29 l0 0).f1) x12_1).f2))) = w32 at n0_ n1_ n2_ ⊢
  have HO_3 := n0_
  have BK149 := n1_
  have HB := n2_
  clear n0_ n1_ n2_
  have n_ : _ ∧ _ ∧ _ := ⟨Aside0.mk (Kd.R_drew HO_3.out), Aside0.mk (blk_drew BK149.out), Aside0.mk (below_drew1 HB.out)⟩
  clear HO_3 BK149 HB
  obtain ⟨HO_3, BK149, HB⟩ := n_
  obtain ⟨Ao34, co34, eo34⟩ := Kd.R_slice HO_3.out
  (first | subst eo34 | (injection eo34 with f1_ f2_ f3_; have f4_ := f1_.symm; have f5_ := f3_.symm; clear f1_ f2_ f3_; subst f4_; subst f5_))
  have p160 : 0 ≤ (((rd_T61 ((rd_T29 l0 0).f1) x12_1).f1) : Int) := of_decide_eq_true zA
  have q160 : ((rd_T61 ((rd_T29 l0 0).f1) x12_1).f1) < (x3_1.length : Int) := of_decide_eq_true zA
  obtain ⟨ad160, e160, hx160_0⟩ := Kd.at_int (Kd.R_reads' HO_3.out).2.2 ((rd_T61 ((rd_T29 l0 0).f1) x12_1).f1) p160 q160
  cases e160
  replace p160 := eq_true p160
  replace q160 := eq_true q160
  have p161 : 0 ≤ (((rd_T61 ((rd_T29 l0 0).f1) x12_1).f2) : Int) := of_decide_eq_true zA
  have q161 : ((rd_T61 ((rd_T29 l0 0).f1) x12_1).f2) < (x3_1.length : Int) := of_decide_eq_true zA
  obtain ⟨ad161, e161, hx161_0⟩ := Kd.at_int (Kd.R_reads' HO_3.out).2.2 ((rd_T61 ((rd_T29 l0 0).f1) x12_1).f2) p161 q161
  obtain rfl : ad160 = ad161 := (by injection e161)
  replace p161 := eq_true p161
  replace q161 := eq_true q161
  refine start_ (n := 15) (S := fun w' => w'.cell? ⟨gb149, 0, none⟩ = some (.int .i8 ((rd_T61 ((rd_T29 l0 0).f1) x12_1).f0)) ∧ w'.cell? ⟨gb149, 1, none⟩ = some (.int .i16 ((rd_T61 ((rd_T29 l0 0).f1) x12_1).f1)) ∧ w'.cell? ⟨gb149, 2, none⟩ = some (.int .i16 ((rd_T61 ((rd_T29 l0 0).f1) x12_1).f2)) ∧ w'.cell? (ad160.add (((rd_T61 ((rd_T29 l0 0).f1) x12_1).f1)).toNat) = some (.int .u64 (rd x3_1 ((rd_T61 ((rd_T29 l0 0).f1) x12_1).f1))) ∧ w'.cell? (ad160.add (((rd_T61 ((rd_T29 l0 0).f1) x12_1).f2)).toNat) = some (.int .u64 (rd x3_1 ((rd_T61 ((rd_T29 l0 0).f1) x12_1).f2)))) (ds := [12, 13]) (zq 15 0) (by kernel_rfl) rfl rfl ⟨(blk_cell BK149.out 0).trans rfl, (blk_cell BK149.out 1).trans rfl, (blk_cell BK149.out 2).trans rfl, hx160_0, hx161_0⟩ (fun hHeld => ?_); refine with_tabW impl_Network_tables.tab12 impl_Network_tables.bits12 (fun HT_ HW_ => ?_)
  generalize w32.drew = w33 at HO_3 BK149 HB hx160_0 hx161_0 hHeld ⊢
  refine zpu 0 (some 59) (zq 15 1) HT_ ?_
  refine zpu 1 (some 60) (zq 15 3) HT_ ?_
  refine zpu 2 (some 61) (zq 15 7) HT_ ?_
  refine zpu 6 (some 65) (zq 15 71) HT_ ?_
  refine zpu 7 (some 66) (zq 15 199) HT_ ?_
  refine ztk 3 (some 62) (zq 15 207) HT_ HW_ rfl hHeld (Or.inl ⟨by rfl, by (rintro w' ⟨s0, s1, s2, s3, s4⟩; go_simp; with_reducible rfl)⟩) ?_
  refine zpu 4 (some 63) (zq 15 223) HT_ ?_
  refine ztk 5 (some 64) (zq 15 255) HT_ HW_ rfl hHeld (Or.inl ⟨by rfl, by (rintro w' ⟨s0, s1, s2, s3, s4⟩; go_simp; with_reducible rfl)⟩) ?_
  refine ztk 8 (some 67) (zq 15 511) HT_ HW_ rfl hHeld (Or.inl ⟨by rfl, by (rintro w' ⟨s0, s1, s2, s3, s4⟩; go_simp; with_reducible rfl)⟩) ?_
  refine zpu 9 (some 68) (zq 15 1023) HT_ ?_
  refine ztk 10 (some 69) (zq 15 2047) HT_ HW_ rfl hHeld (Or.inl ⟨by rfl, by (rintro w' ⟨s0, s1, s2, s3, s4⟩; go_simp; with_reducible rfl)⟩) ?_
  refine zpu 11 (some 70) (zq 15 4095) HT_ ?_
  refine last_ (i := 12) (N := some 71) (zq 15 8191) rfl rfl (one_of HT_.out (by kernel_rfl)) (by decide) (fun K hK => ?_)
  refine value_ (w1 := ?_) (v := ?_) (by rfl) rfl ?_ ?_
  rotate_left 2
  ·go_simp
   constructor
   rotate_left
   ·rfl
   rfl
  refine hK.out _ _ ?_
  clear hK K
  refine norm_ (a' := ?_) ?_ ?_
  rotate_left
  ·show Act.put _ (some 71) _ = _
   exact zap
  refine last_ (i := 13) (N := some 72) (zq 15 16383) rfl rfl (one_of HT_.out (by kernel_rfl)) (by decide) (fun K hK => ?_)
  refine Kd.R_append_step (Kd.int .u64) (w0 := w) w.heap.size (by rfl) (.tmp 59) (.tmp 71) 64 66 (.int .u64 0) 8 rfl Try.underlying64 info66 rfl (by decide) (by omega) (.slice (some ad160) x3_1.length co34) x3_1 (Go.bits .or .u64 (rd x3_1 ((rd_T61 ((rd_T29 l0 0).f1) x12_1).f1)) (rd x3_1 ((rd_T61 ((rd_T29 l0 0).f1) x12_1).f2))) [.int .u64 (Go.bits .or .u64 (rd x3_1 ((rd_T61 ((rd_T29 l0 0).f1) x12_1).f1)) (rd x3_1 ((rd_T61 ((rd_T29 l0 0).f1) x12_1).f2)))] (fun _ => True) (fun _ => False) rfl rfl ?aP (fun _ hk => hk.elim) ?aF ?aO ?aB ?aS ?aL ?_
  (case aP => exact rfl)
  (case aB => exact zbo)
  (case aF => exact (fun _ _ => trivial))
  (case aO => exact (ze HO_3).out)
  (case aS => exact (zz HB))
  (case aL => have := LMc29.out; omega)
  intro v163 w35 ho hb hg hat
  rw [← Ny162.out] at ho
  have n_ : _ ∧ _ ∧ _ := ⟨Aside0.mk (blk_grown (g := gb149) (o := .cells #[.int .i8 ((rd_T61 ((rd_T29 l0 0).f1) x12_1).f0), .int .i16 ((rd_T61 ((rd_T29 l0 0).f1) x12_1).f1), .int .i16 ((rd_T61 ((rd_T29 l0 0).f1) x12_1).f2)] 61 (0, 0)) (zh BK149).out hg (Kd.R_ne HO_3.out BK149.out (by decide))), Aside0.mk (hb), Aside0.mk (ho)⟩
  clear BK149 HB HO_3
  obtain ⟨BK149, HB, HO164⟩ := n_
  clear ho hb hg hat
  refine hK.out _ _ ?_
  clear hK K
  refine norm_ (a' := ?_) ?_ ?_
  rotate_left
  ·show Act.put _ (some 72) _ = _
   exact zap
  refine zpu 14 (some 3) (zq 15 32767) HT_ ?_
  refine done_ (done_of HT_.out (by kernel_rfl)) ?_
  try go_wp2
  go_roundg k1
  case measure => have := HK1.out; omega
  case rel => exact ⟨(y162), (wrap64 (x12_1 + 1)), zi, H', ⟨by have := HK1.out; omega⟩, ze HO164, zba⟩
 rw [if_neg c24] at H
 have c24b0 : (((rd_T61 ((rd_T29 l0 0).f1) x12_1).f0) == 2) = false := beq_eq_false_iff_ne.mpr c24
 have c24b1 : (((rd_T61 ((rd_T29 l0 0).f1) x12_1).f0) != 2) = true := bne_iff_ne.mpr c24
 by_cases c36 : 0 ≤ ((rd_T61 ((rd_T29 l0 0).f1) x12_1).f1)
 rotate_left
 ·rw [if_neg c36] at H
  exact absurd H (by simp)
 rw [if_pos c36] at H
 have c36b0 : decide (0 ≤ ((rd_T61 ((rd_T29 l0 0).f1) x12_1).f1)) = true := decide_eq_true c36
 clear c36
 by_cases c37 : ((rd_T61 ((rd_T29 l0 0).f1) x12_1).f1) < (x3_1.length : Int)
 rotate_left
 ·rw [if_neg c37] at H
  exact absurd H (by simp)
 rw [if_pos c37] at H
 have c37b0 : decide (((rd_T61 ((rd_T29 l0 0).f1) x12_1).f1) < (x3_1.length : Int)) = true := decide_eq_true c37
 clear c37
 by_cases c38 : 0 ≤ ((rd_T61 ((rd_T29 l0 0).f1) x12_1).f2)
 rotate_left
 ·rw [if_neg c38] at H
  exact absurd H (by simp)
 rw [if_pos c38] at H
 have c38b0 : decide (0 ≤ ((rd_T61 ((rd_T29 l0 0).f1) x12_1).f2)) = true := decide_eq_true c38
 clear c38
 by_cases c39 : ((rd_T61 ((rd_T29 l0 0).f1) x12_1).f2) < (x3_1.length : Int)
 rotate_left
 ·rw [if_neg c39] at H
  exact absurd H (by simp)
 rw [if_pos c39] at H
 have c39b0 : decide (((rd_T61 ((rd_T29 l0 0).f1) x12_1).f2) < (x3_1.length : Int)) = true := decide_eq_true c39
 clear c39
 by_cases c40 : x3_1.length < 17592186044416
 rotate_left
 ·rw [if_neg c40] at H
  exact absurd H (by simp)
 rw [if_pos c40] at H
 have LMc40 := Aside0.mk c40
 clear c40
 obtain ⟨y167, hy167⟩ : ∃ y_ : List Int, y_ = (x3_1 ++ [Go.bits .andNot .u64 (rd x3_1 ((rd_T61 ((rd_T29 l0 0).f1) x12_1).f1)) (rd x3_1 ((rd_T61 ((rd_T29 l0 0).f1) x12_1).f2))]) := ⟨_, rfl⟩
 replace H : (impl_Network_tables.l0 k1 l0 y167 ((rd_T29 l0 0).f1) (((rd_T29 l0 0).f1).length : Int) (wrap64 (x12_1 + 1))) = some r := by first | (rw [hy167]; with_reducible exact H) | (have H2_ := (Option.bind_some _ _).symm.trans H; rw [hy167]; with_reducible exact H2_) | (have H2_ := (Option.bind_some _ _).symm.trans H; with_reducible exact H2_) | with_reducible exact H | (rw [hy167]; exact H) | exact H
 have Ny167 := Aside0.mk hy167
 clear hy167
 have H' := Aside0.mk H
 clear H
 have p148 : 0 ≤ (x12_1 : Int) := of_decide_eq_true zA
 have q148 : x12_1 < (((rd_T29 l0 0).f1).length : Int) := of_decide_eq_true zA
 obtain ⟨ad148, e148, hx148_0, hx148_1, hx148_2⟩ := at_T61 HR147_1.out x12_1 p148 q148
 cases e148
 replace hx148_0 := zc HB hx148_0
 replace hx148_1 := zc HB hx148_1
 replace hx148_2 := zc HB hx148_2
 replace p148 := eq_true p148
 replace q148 := eq_true q148
 try go_wp2_with (first | ((with_reducible refine gate_dst (N := 5) rfl ?_); refine zbx 5 #[.int .i8 0, .int .i16 0, .int .i16 0] 61 ?_; intro gb149 hg w41 hbox hb; have n_ : _ ∧ _ ∧ _ ∧ _ ∧ _ := ⟨zr HO_3 hb, zb HB hb, Aside0.mk (hbox), zg HB hg, zg HB hg⟩; clear HO_3 HB; obtain ⟨HO_3, HB, BK149, GW149, GE149⟩ := n_; clear hb hbox hg; obtain ⟨z42_0, z42_1, z42_2, y42_0, y42_1, y42_2⟩ := zB3 BK149))
 have n0_ : Aside0 (Kd.R (Kd.int .u64) 66 (((w41.setCell ⟨gb149, 0, none⟩ (.int .i8 ((rd_T61 ((rd_T29 l0 0).f1) x12_1).f0))).setCell ⟨gb149, 1, none⟩ (.int .i16 ((rd_T61 ((rd_T29 l0 0).f1) x12_1).f1))).setCell ⟨gb149, 2, none⟩ (.int .i16 ((rd_T61 ((rd_T29 l0 0).f1) x12_1).f2))) w.heap.size (fun _ => True) u3 x3_1) := ⟨Kd.R_mono (zs HO_3 BK149).out (fun _ hk => trivial)⟩
 have n1_ : Aside0 ((((w41.setCell ⟨gb149, 0, none⟩ (.int .i8 ((rd_T61 ((rd_T29 l0 0).f1) x12_1).f0))).setCell ⟨gb149, 1, none⟩ (.int .i16 ((rd_T61 ((rd_T29 l0 0).f1) x12_1).f1))).setCell ⟨gb149, 2, none⟩ (.int .i16 ((rd_T61 ((rd_T29 l0 0).f1) x12_1).f2))).heap[gb149]? = some (.cells #[.int .i8 ((rd_T61 ((rd_T29 l0 0).f1) x12_1).f0), .int .i16 ((rd_T61 ((rd_T29 l0 0).f1) x12_1).f1), .int .i16 ((rd_T61 ((rd_T29 l0 0).f1) x12_1).f2)] 61 (0, 0))) := ⟨zp BK149⟩
 have n2_ : Aside0 (Below w.heap.size w (((w41.setCell ⟨gb149, 0, none⟩ (.int .i8 ((rd_T61 ((rd_T29 l0 0).f1) x12_1).f0))).setCell ⟨gb149, 1, none⟩ (.int .i16 ((rd_T61 ((rd_T29 l0 0).f1) x12_1).f1))).setCell ⟨gb149, 2, none⟩ (.int .i16 ((rd_T61 ((rd_T29 l0 0).f1) x12_1).f2)))) := zba
 (try clear HO_3)
 (try clear BK149)
 (try clear HB)
 generalize (((w41.setCell ⟨gb149, 0, none⟩ (.int .i8 ((rd_T61 ((rd_T29 l0 0).f1) x12_1).f0))).setCell ⟨gb149, 1, none⟩ (.int .i16 ((rd_T61 ((rd_T29 l0 0).f1) x12_1).f1))).setCell ⟨gb149, 2, none⟩ (.int .i16 ((rd_T61 ((rd_T29 l0 0).f1) x12_1).f2))) = w43 at n0_ n1_ n2_ ⊢
 have HO_3 := n0_
 have BK149 := n1_
 have HB := n2_
 clear n0_ n1_ n2_
 have n_ : _ ∧ _ ∧ _ := ⟨Aside0.mk (Kd.R_drew HO_3.out), Aside0.mk (blk_drew BK149.out), Aside0.mk (below_drew1 HB.out)⟩
 clear HO_3 BK149 HB
 obtain ⟨HO_3, BK149, HB⟩ := n_
 obtain ⟨Ao45, co45, eo45⟩ := Kd.R_slice HO_3.out
 (first | subst eo45 | (injection eo45 with f1_ f2_ f3_; have f4_ := f1_.symm; have f5_ := f3_.symm; clear f1_ f2_ f3_; subst f4_; subst f5_))
 have p165 : 0 ≤ (((rd_T61 ((rd_T29 l0 0).f1) x12_1).f1) : Int) := of_decide_eq_true zA
 have q165 : ((rd_T61 ((rd_T29 l0 0).f1) x12_1).f1) < (x3_1.length : Int) := of_decide_eq_true zA
 obtain ⟨ad165, e165, hx165_0⟩ := Kd.at_int (Kd.R_reads' HO_3.out).2.2 ((rd_T61 ((rd_T29 l0 0).f1) x12_1).f1) p165 q165
 cases e165
 replace p165 := eq_true p165
 replace q165 := eq_true q165
 have p166 : 0 ≤ (((rd_T61 ((rd_T29 l0 0).f1) x12_1).f2) : Int) := of_decide_eq_true zA
 have q166 : ((rd_T61 ((rd_T29 l0 0).f1) x12_1).f2) < (x3_1.length : Int) := of_decide_eq_true zA
 obtain ⟨ad166, e166, hx166_0⟩ := Kd.at_int (Kd.R_reads' HO_3.out).2.2 ((rd_T61 ((rd_T29 l0 0).f1) x12_1).f2) p166 q166
 obtain rfl : ad165 = ad166 := (by injection e166)
 replace p166 := eq_true p166
 replace q166 := eq_true q166
 refine start_ (n := 15) (S := fun w' => w'.cell? ⟨gb149, 0, none⟩ = some (.int .i8 ((rd_T61 ((rd_T29 l0 0).f1) x12_1).f0)) ∧ w'.cell? ⟨gb149, 1, none⟩ = some (.int .i16 ((rd_T61 ((rd_T29 l0 0).f1) x12_1).f1)) ∧ w'.cell? ⟨gb149, 2, none⟩ = some (.int .i16 ((rd_T61 ((rd_T29 l0 0).f1) x12_1).f2)) ∧ w'.cell? (ad165.add (((rd_T61 ((rd_T29 l0 0).f1) x12_1).f1)).toNat) = some (.int .u64 (rd x3_1 ((rd_T61 ((rd_T29 l0 0).f1) x12_1).f1))) ∧ w'.cell? (ad165.add (((rd_T61 ((rd_T29 l0 0).f1) x12_1).f2)).toNat) = some (.int .u64 (rd x3_1 ((rd_T61 ((rd_T29 l0 0).f1) x12_1).f2)))) (ds := [12, 13]) (zq 15 0) (by kernel_rfl) rfl rfl ⟨(blk_cell BK149.out 0).trans rfl, (blk_cell BK149.out 1).trans rfl, (blk_cell BK149.out 2).trans rfl, hx165_0, hx166_0⟩ (fun hHeld => ?_); refine with_tabW impl_Network_tables.tab6 impl_Network_tables.bits6 (fun HT_ HW_ => ?_)
 generalize w43.drew = w44 at HO_3 BK149 HB hx165_0 hx166_0 hHeld ⊢
 refine zpu 0 (some 18) (zq 15 1) HT_ ?_
 refine zpu 1 (some 19) (zq 15 3) HT_ ?_
 refine zpu 2 (some 20) (zq 15 7) HT_ ?_
 refine zpu 6 (some 24) (zq 15 71) HT_ ?_
 refine zpu 7 (some 25) (zq 15 199) HT_ ?_
 refine ztk 3 (some 21) (zq 15 207) HT_ HW_ rfl hHeld (Or.inl ⟨by rfl, by (rintro w' ⟨s0, s1, s2, s3, s4⟩; go_simp; with_reducible rfl)⟩) ?_
 refine zpu 4 (some 22) (zq 15 223) HT_ ?_
 refine ztk 5 (some 23) (zq 15 255) HT_ HW_ rfl hHeld (Or.inl ⟨by rfl, by (rintro w' ⟨s0, s1, s2, s3, s4⟩; go_simp; with_reducible rfl)⟩) ?_
 refine ztk 8 (some 26) (zq 15 511) HT_ HW_ rfl hHeld (Or.inl ⟨by rfl, by (rintro w' ⟨s0, s1, s2, s3, s4⟩; go_simp; with_reducible rfl)⟩) ?_
 refine zpu 9 (some 27) (zq 15 1023) HT_ ?_
 refine ztk 10 (some 28) (zq 15 2047) HT_ HW_ rfl hHeld (Or.inl ⟨by rfl, by (rintro w' ⟨s0, s1, s2, s3, s4⟩; go_simp; with_reducible rfl)⟩) ?_
 refine zpu 11 (some 29) (zq 15 4095) HT_ ?_
 refine last_ (i := 12) (N := some 30) (zq 15 8191) rfl rfl (one_of HT_.out (by kernel_rfl)) (by decide) (fun K hK => ?_)
 refine value_ (w1 := ?_) (v := ?_) (by rfl) rfl ?_ ?_
 rotate_left 2
 ·go_simp
  constructor
  rotate_left
  ·rfl
  rfl
 refine hK.out _ _ ?_
 clear hK K
 refine norm_ (a' := ?_) ?_ ?_
 rotate_left
 ·show Act.put _ (some 30) _ = _
  exact zap
 refine last_ (i := 13) (N := some 31) (zq 15 16383) rfl rfl (one_of HT_.out (by kernel_rfl)) (by decide) (fun K hK => ?_)
 refine Kd.R_append_step (Kd.int .u64) (w0 := w) w.heap.size (by rfl) (.tmp 18) (.tmp 30) 64 66 (.int .u64 0) 8 rfl Try.underlying64 info66 rfl (by decide) (by omega) (.slice (some ad165) x3_1.length co45) x3_1 (Go.bits .andNot .u64 (rd x3_1 ((rd_T61 ((rd_T29 l0 0).f1) x12_1).f1)) (rd x3_1 ((rd_T61 ((rd_T29 l0 0).f1) x12_1).f2))) [.int .u64 (Go.bits .andNot .u64 (rd x3_1 ((rd_T61 ((rd_T29 l0 0).f1) x12_1).f1)) (rd x3_1 ((rd_T61 ((rd_T29 l0 0).f1) x12_1).f2)))] (fun _ => True) (fun _ => False) rfl rfl ?aP (fun _ hk => hk.elim) ?aF ?aO ?aB ?aS ?aL ?_
 (case aP => exact rfl)
 (case aB => exact zbo)
 (case aF => exact (fun _ _ => trivial))
 (case aO => exact (ze HO_3).out)
 (case aS => exact (zz HB))
 (case aL => have := LMc40.out; omega)
 intro v168 w46 ho hb hg hat
 rw [← Ny167.out] at ho
 have n_ : _ ∧ _ ∧ _ := ⟨Aside0.mk (blk_grown (g := gb149) (o := .cells #[.int .i8 ((rd_T61 ((rd_T29 l0 0).f1) x12_1).f0), .int .i16 ((rd_T61 ((rd_T29 l0 0).f1) x12_1).f1), .int .i16 ((rd_T61 ((rd_T29 l0 0).f1) x12_1).f2)] 61 (0, 0)) (zh BK149).out hg (Kd.R_ne HO_3.out BK149.out (by decide))), Aside0.mk (hb), Aside0.mk (ho)⟩
 clear BK149 HB HO_3
 obtain ⟨BK149, HB, HO169⟩ := n_
 clear ho hb hg hat
 refine hK.out _ _ ?_
 clear hK K
 refine norm_ (a' := ?_) ?_ ?_
 rotate_left
 ·show Act.put _ (some 31) _ = _
  exact zap
 refine zpu 14 (some 3) (zq 15 32767) HT_ ?_
 refine done_ (done_of HT_.out (by kernel_rfl)) ?_
 try go_wp2
 go_roundg k1
 case measure => have := HK1.out; omega
 case rel => exact ⟨(y167), (wrap64 (x12_1 + 1)), zi, H', ⟨by have := HK1.out; omega⟩, ze HO169, zba⟩
end Go.Proofs.Ytkflenibdijnaaa.PFnAdders
