-- WRITTEN by xprint.py, a program of this session's. Not trusted: Lean checks it.
-- packed by pack.py
import Derived.Test.YtffnfpnajkgnaaaPFnExactPushesForx0
import Derived.Test.YtffnfpnajkgnaaaPFnExactPushesForx7
import Derived.Test.YtffnfpnajkgnaaaTFnExactPushesFora
namespace Go.Proofs.Ytffnfpnajkgnaaa.PFnExactPushesFor
open Go.RowKit Go.Proofs.YtffnfpnajkgnaaaW.PrintWords Go.Proofs.YtffnfpnajkgnaaaW.PrintLast Go.Proofs.YtffnfpnajkgnaaaW.PrintMore Go.Proofs.YtffnfpnajkgnaaaX
attribute [local go_sem] max2_int min2_int max_two min_two max_three min_three max_four min_four   -- for this text's walks alone
set_option linter.unusedVariables false
set_option linter.unusedSimpArgs false

/-! ### spec_l03Pushes: function 86 -/
def spec_l03Pushes.l0 : Nat → List (S41) → Int → List Int → List (S120) → Int → Option ((List (S120)))
  | 0, _, _, _, _, _ => none
  | k + 1, x0, x1, x2, x7, x8 => if 0 < (x0.length : Int) then (if x8 < (((rd_T41 x0 0).f1).length : Int) then (if 0 ≤ (IntKind.u64.wrap (x8)) then (if (Go.bits .and .i64 (shr .i64 x1 (IntKind.u64.wrap (x8))) 1) = 1 then (if 0 ≤ x8 then (if x8 < (x2.length : Int) then (if x7.length < 23456248059221 then (spec_l03Pushes.l0 k x0 x1 x2 (x7 ++ [(⟨(⟨(rd_T116 ((rd_T41 x0 0).f1) x8).f0.f0, (rd_T116 ((rd_T41 x0 0).f1) x8).f0.f1⟩ : S74), (rd_T116 ((rd_T41 x0 0).f1) x8).f1, IntKind.i16.wrap (rd x2 x8)⟩ : S120)]) (wrap64 (x8 + 1))) else (none)) else (none)) else (none)) else (spec_l03Pushes.l0 k x0 x1 x2 x7 (wrap64 (x8 + 1)))) else (none)) else (some x7)) else (none)
def spec_l03Pushes.f (k : Nat) (l0 : List (S41)) (a1 : Int) (l2 : List Int) : Option ((List (S120))) := spec_l03Pushes.l0 k l0 a1 l2 (([] : List (S120))) 0
theorem spec_l03Pushes.mono_l : ∀ k, (∀ y0 y1 y2 y3 y4, LeO (spec_l03Pushes.l0 k y0 y1 y2 y3 y4) (spec_l03Pushes.l0 (k + 1) y0 y1 y2 y3 y4))
  | 0 => fun _ _ _ _ _ r h => by simp [spec_l03Pushes.l0] at h
  | k + 1 => by
    have ih0 := spec_l03Pushes.mono_l k
    · intro y0 y1 y2 y3 y4
      unfold spec_l03Pushes.l0
      repeat' first | (with_reducible first | apply ih0 | exact LeO.refl _ | exact LeO.none _ | refine LeO.ite ?_ ?_ | refine LeO.bind ?_ (fun _ => ?_)) | apply ih0 | exact LeO.none _ | refine LeO.ite ?_ ?_ | refine LeO.bind ?_ (fun _ => ?_)
theorem spec_l03Pushes.mono : ∀ a0 a1 a2 k, LeO (spec_l03Pushes.f k a0 a1 a2) (spec_l03Pushes.f (k + 1) a0 a1 a2) := by
 intro a0 a1 a2 k
 have ih0 := spec_l03Pushes.mono_l k
 unfold spec_l03Pushes.f
 repeat' first | (with_reducible first | apply ih0 | exact LeO.refl _ | exact LeO.none _ | refine LeO.ite ?_ ?_ | refine LeO.bind ?_ (fun _ => ?_)) | apply ih0 | exact LeO.none _ | refine LeO.ite ?_ ?_ | refine LeO.bind ?_ (fun _ => ?_)
def spec_l03Pushes.T6 : Bool × List (List Nat × List Nat) := (true, [([], []), ([], []), ([1], [1]), ([2], [2]), ([3], [3]), ([], []), ([4, 5], [4, 5]), ([6], [6]), ([7], [7]), ([], []), ([9], [9]), ([10], [10]), ([11], [11]), ([], []), ([12, 13], [12, 13]), ([14], [14]), ([15], [15]), ([], []), ([], []), ([17, 18], [17, 18]), ([19], [19]), ([20], [20]), ([8, 16, 21], [8, 16, 21]), ([22], [22]), ([0, 23], [0, 23]), ([24, 24, 0, 1, 2, 3, 4, 5, 6, 7, 8, 9, 10, 11, 12, 13, 14, 15, 16, 17, 18, 19, 20, 21, 22, 23, 24], [0, 24])])
def spec_l03Pushes.B6 : List Nat := [0, 0, 2, 6, 14, 0, 62, 126, 254, 0, 512, 1536, 3584, 0, 15872, 32256, 65024, 0, 0, 393216, 917504, 1966080, 4194302, 8388606, 16777215, 33554431]
theorem spec_l03Pushes.tab6 : rtab .any (opsOf Try.f86 6) = spec_l03Pushes.T6 := by kernel_rfl
theorem spec_l03Pushes.bits6 : waitsOk spec_l03Pushes.T6.2 spec_l03Pushes.B6 = true := by kernel_rfl
set_option maxHeartbeats 8000000 in
set_option maxRecDepth 100000 in
theorem spec_l03Pushes.calls (k : Nat) (adp0 : Addr) (l0 : List (S41)) (a1 : Int) (A2 : Option Addr) (c2 : Nat) (l2 : List Int) (r : List (S120)) (w : World) (hr0 : Kd.C k41 w (some adp0) l0.length l0) (hr2 : Kd.C (Kd.int .i64) w A2 l2.length l2) (hc2 : l2.length ≤ c2) (h : spec_l03Pushes.f k l0 a1 l2 = some r) :
    Calls Try.prog 86 #[.pointer (some adp0), .int .i64 a1, .slice A2 l2.length c2] w fun e w' => ∃ v0_ : Value, e = .returned (v0_) ∧ Kd.R k120 120 w' w.heap.size (fun _ => True) v0_ r ∧ Below w.heap.size w w' := by
 have hu74 := Try.underlying74
 have hu120 := Try.underlying120
 have HR0 := Aside0.mk hr0
 clear hr0
 have HR2 := Aside0.mk hr2
 have HC2 := Aside0.mk hc2
 clear hr2 hc2
 have HB := Aside0.mk (Below.refl w.heap.size w)
 have H : (spec_l03Pushes.l0 k l0 a1 l2 (([] : List (S120))) 0) = some r := h
 clear h
 obtain ⟨y170, hy170⟩ : ∃ y_ : List (S120), y_ = (([] : List (S120))) := ⟨_, rfl⟩
 replace H : (spec_l03Pushes.l0 k l0 a1 l2 y170 0) = some r := by first | (rw [hy170]; with_reducible exact H) | (have H2_ := (Option.bind_some _ _).symm.trans H; rw [hy170]; with_reducible exact H2_) | (have H2_ := (Option.bind_some _ _).symm.trans H; with_reducible exact H2_) | with_reducible exact H | (rw [hy170]; exact H) | exact H
 have Ny170 := Aside0.mk hy170
 clear hy170
 have H' := Aside0.mk H
 clear H
 go_enter Try.func86, Try.ntmps86
 go_wp2_with (first | ((with_reducible refine gate_dst (N := 9) rfl ?_); refine Kd.R_lit k120 _ 120 ?hg (N := 9) ?hd (xs := ([] : List (S120))) (inner := []) (ok := fun _ => True) (okp := fun _ => True) ?hr ?hp (fun _ hk => hk) trivial (Below.refl _ _) (Nat.le_refl _) (by simp) ?_; (case hd => rfl); (case hg => rfl); (case hr => first | (go_simp; done) | (go_simp; rfl)); (case hp => exact (Reps.none _ _)); intro v171 w4 ho5 hb hg_ hnew_; clear hg_ hnew_; (first | rw [← Ny170.out] at ho5 | (simp only [Int.reduceToNat] at ho5; rw [← Ny170.out] at ho5)); have n_ : _ ∧ _ := ⟨Aside0.mk (Kd.R_lower ho5 (zz HB)), zb HB hb⟩; clear HB; obtain ⟨HO172, HB⟩ := n_; clear hb ho5))
 go_loopg [7, 8] k (fun kq v7 v8 w' => ∃ (x7_1 : List (S120)) (x8_1 : Int), v8 = .int .i64 x8_1 ∧ Aside0 (spec_l03Pushes.l0 kq l0 a1 l2 x7_1 x8_1 = some r) ∧ Aside0 (kq ≤ k) ∧ Aside0 (Kd.R k120 120 w' w.heap.size (fun _ => True) v7 x7_1) ∧ Aside0 (Below w.heap.size w w'))
 case atStart => exact ⟨(y170), (0), (by first | rfl | (simp; done) | (simp [*]; done) | (exact congrArg (Value.int .i64) (wrap_eq (by omega)))), H', ⟨Nat.le_refl _⟩, ze HO172, zl HB⟩
 clear H'
 try clear c2
 try clear p2
 obtain ⟨x7_1, x8_1, rfl, HA, HK1, HO_7, HB⟩ := hrel
 cases gk with
 | zero => exact absurd HA.out (by simp [spec_l03Pushes.l0])
 | succ k1 => ?_
 have H := HA.out
 clear HA
 simp only [spec_l03Pushes.l0] at H
 by_cases c6 : 0 < (l0.length : Int)
 rotate_left
 ·rw [if_neg c6] at H
  exact absurd H (by simp)
 rw [if_pos c6] at H
 have c6b0 : decide (0 < (l0.length : Int)) = true := decide_eq_true c6
 have c6b1 : decide (0 < l0.length) = true := decide_eq_true (by omega)
 clear c6
 by_cases c7 : x8_1 < (((rd_T41 l0 0).f1).length : Int)
 rotate_left
 ·rw [if_neg c7] at H
  have c7b0 : decide (x8_1 < (((rd_T41 l0 0).f1).length : Int)) = false := decide_eq_false c7
  clear c7
  obtain rfl := Option.some.inj H
  have p173 : 0 ≤ (0 : Int) := (by omega)
  have q173 : 0 < (l0.length : Int) := of_decide_eq_true (by first | (with_reducible assumption) | assumption)
  obtain ⟨ad173, A173_2, c173_2, A173_3, c173_3, A173_4, c173_4, e173, hx173_0, hx173_1, hx173_2, hx173_3, hx173_4, hl173_2, hi173_2, hl173_3, hi173_3, hl173_4, hi173_4⟩ := at_T41 HR0.out 0 p173 q173
  obtain rfl : adp0 = ad173 := (by injection e173)
  have qi173 : (0 < l0.length) = True := eq_true (by omega)
  (try rw [show ((0 : Int)).toNat = 0 from rfl] at hx173_0)
  (try rw [show 0 * 5 = 0 from rfl] at hx173_0)
  (try rw [Addr.add_zero'] at hx173_0)
  (try rw [show ((0 : Int)).toNat = 0 from rfl] at hx173_1)
  (try rw [show 0 * 5 = 0 from rfl] at hx173_1)
  (try rw [Addr.add_zero'] at hx173_1)
  (try rw [show ((0 : Int)).toNat = 0 from rfl] at hx173_2)
  (try rw [show 0 * 5 = 0 from rfl] at hx173_2)
  (try rw [Addr.add_zero'] at hx173_2)
  (try rw [show ((0 : Int)).toNat = 0 from rfl] at hx173_3)
  (try rw [show 0 * 5 = 0 from rfl] at hx173_3)
  (try rw [Addr.add_zero'] at hx173_3)
  (try rw [show ((0 : Int)).toNat = 0 from rfl] at hx173_4)
  (try rw [show 0 * 5 = 0 from rfl] at hx173_4)
  (try rw [Addr.add_zero'] at hx173_4)
  replace hx173_0 := zc HB hx173_0
  replace hx173_1 := zc HB hx173_1
  replace hx173_2 := zc HB hx173_2
  replace hx173_3 := zc HB hx173_3
  replace hx173_4 := zc HB hx173_4
  have HR173_2 := Aside0.mk hi173_2
  have HC173_2 := Aside0.mk hl173_2
  clear hi173_2 hl173_2
  have HR173_3 := Aside0.mk hi173_3
  have HC173_3 := Aside0.mk hl173_3
  clear hi173_3 hl173_3
  have HR173_4 := Aside0.mk hi173_4
  have HC173_4 := Aside0.mk hl173_4
  clear hi173_4 hl173_4
  replace p173 := eq_true p173
  replace q173 := eq_true q173
  go_wp2
  go_ret
  exact ⟨_, by first | rfl | (simp [errW_none, errW_some] <;> rfl) | (simp [*, errW_none, errW_some] <;> rfl), by (with_reducible repeat (first | apply Kd.R_alloc | apply Kd.R_drewN | apply Kd.R_drew)); exact HO_7.out, by repeat (first | (with_reducible first | exact HB.out | apply below_alloc | apply pw_below_drewN | apply below_drew1) | exact HB.out)⟩
 rw [if_pos c7] at H
 have c7b0 : decide (x8_1 < (((rd_T41 l0 0).f1).length : Int)) = true := decide_eq_true c7
 clear c7
 obtain ⟨ji8, hji8⟩ : ∃ j_ : Int, (IntKind.u64.wrap (x8_1)) = j_ := ⟨_, rfl⟩
 replace H : (if 0 ≤ (ji8) then (if (Go.bits .and .i64 (shr .i64 a1 (ji8)) 1) = 1 then (if 0 ≤ x8_1 then (if x8_1 < (l2.length : Int) then (if x7_1.length < 23456248059221 then (spec_l03Pushes.l0 k1 l0 a1 l2 (x7_1 ++ [(⟨(⟨(rd_T116 ((rd_T41 l0 0).f1) x8_1).f0.f0, (rd_T116 ((rd_T41 l0 0).f1) x8_1).f0.f1⟩ : S74), (rd_T116 ((rd_T41 l0 0).f1) x8_1).f1, IntKind.i16.wrap (rd l2 x8_1)⟩ : S120)]) (wrap64 (x8_1 + 1))) else (none)) else (none)) else (none)) else (spec_l03Pushes.l0 k1 l0 a1 l2 x7_1 (wrap64 (x8_1 + 1)))) else (none)) = some r := by first | (rw [hji8] at H; exact H) | (simp only [hji8] at H ⊢; exact H)
 by_cases c9 : 0 ≤ (ji8)
 rotate_left
 ·rw [if_neg c9] at H
  exact absurd H (by simp)
 rw [if_pos c9] at H
 have c9b0 := eq_true c9
 have c9b1 : decide (0 ≤ (ji8)) = true := decide_eq_true c9
 clear c9
 obtain ⟨ji10, hji10⟩ : ∃ j_ : Int, (shr .i64 a1 (ji8)) = j_ := ⟨_, rfl⟩
 replace H : (if (Go.bits .and .i64 (ji10) 1) = 1 then (if 0 ≤ x8_1 then (if x8_1 < (l2.length : Int) then (if x7_1.length < 23456248059221 then (spec_l03Pushes.l0 k1 l0 a1 l2 (x7_1 ++ [(⟨(⟨(rd_T116 ((rd_T41 l0 0).f1) x8_1).f0.f0, (rd_T116 ((rd_T41 l0 0).f1) x8_1).f0.f1⟩ : S74), (rd_T116 ((rd_T41 l0 0).f1) x8_1).f1, IntKind.i16.wrap (rd l2 x8_1)⟩ : S120)]) (wrap64 (x8_1 + 1))) else (none)) else (none)) else (none)) else (spec_l03Pushes.l0 k1 l0 a1 l2 x7_1 (wrap64 (x8_1 + 1)))) = some r := by first | (rw [hji10] at H; exact H) | (simp only [hji10] at H ⊢; exact H)
 have hji10_ : (a1 / 2 ^ min (ji8).toNat 64) = ji10 := hji10
 have hji10z : (ji8) ≤ 64 → (a1 / 2 ^ (ji8).toNat) = ji10 := shr_small hji10
 by_cases c11 : (Go.bits .and .i64 (ji10) 1) = 1
 rotate_left
 ·rw [if_neg c11] at H
  have c11b0 : ((Go.bits .and .i64 (ji10) 1) == 1) = false := beq_eq_false_iff_ne.mpr c11
  have c11b1 : ((Go.bits .and .i64 (ji10) 1) != 1) = true := bne_iff_ne.mpr c11
  have H' := Aside0.mk H
  clear H
  have p173 : 0 ≤ (0 : Int) := (by omega)
  have q173 : 0 < (l0.length : Int) := of_decide_eq_true (by first | (with_reducible assumption) | assumption)
  obtain ⟨ad173, A173_2, c173_2, A173_3, c173_3, A173_4, c173_4, e173, hx173_0, hx173_1, hx173_2, hx173_3, hx173_4, hl173_2, hi173_2, hl173_3, hi173_3, hl173_4, hi173_4⟩ := at_T41 HR0.out 0 p173 q173
  obtain rfl : adp0 = ad173 := (by injection e173)
  have qi173 : (0 < l0.length) = True := eq_true (by omega)
  (try rw [show ((0 : Int)).toNat = 0 from rfl] at hx173_0)
  (try rw [show 0 * 5 = 0 from rfl] at hx173_0)
  (try rw [Addr.add_zero'] at hx173_0)
  (try rw [show ((0 : Int)).toNat = 0 from rfl] at hx173_1)
  (try rw [show 0 * 5 = 0 from rfl] at hx173_1)
  (try rw [Addr.add_zero'] at hx173_1)
  (try rw [show ((0 : Int)).toNat = 0 from rfl] at hx173_2)
  (try rw [show 0 * 5 = 0 from rfl] at hx173_2)
  (try rw [Addr.add_zero'] at hx173_2)
  (try rw [show ((0 : Int)).toNat = 0 from rfl] at hx173_3)
  (try rw [show 0 * 5 = 0 from rfl] at hx173_3)
  (try rw [Addr.add_zero'] at hx173_3)
  (try rw [show ((0 : Int)).toNat = 0 from rfl] at hx173_4)
  (try rw [show 0 * 5 = 0 from rfl] at hx173_4)
  (try rw [Addr.add_zero'] at hx173_4)
  replace hx173_0 := zc HB hx173_0
  replace hx173_1 := zc HB hx173_1
  replace hx173_2 := zc HB hx173_2
  replace hx173_3 := zc HB hx173_3
  replace hx173_4 := zc HB hx173_4
  have HR173_2 := Aside0.mk hi173_2
  have HC173_2 := Aside0.mk hl173_2
  clear hi173_2 hl173_2
  have HR173_3 := Aside0.mk hi173_3
  have HC173_3 := Aside0.mk hl173_3
  clear hi173_3 hl173_3
  have HR173_4 := Aside0.mk hi173_4
  have HC173_4 := Aside0.mk hl173_4
  clear hi173_4 hl173_4
  replace p173 := eq_true p173
  replace q173 := eq_true q173
  go_wp2
  go_roundg k1
  case measure => have := HK1.out; omega
  case rel => exact ⟨(x7_1), (wrap64 (x8_1 + 1)), (by first | rfl | (simp; done) | (simp [*]; done) | (exact congrArg (Value.int .i64) (wrap_eq (by omega)))), H', ⟨by have := HK1.out; omega⟩, ze HO_7, zl HB⟩
 rw [if_pos c11] at H
 have c11b0 : ((Go.bits .and .i64 (ji10) 1) == 1) = true := beq_iff_eq.mpr c11
 have c11b1 : ((Go.bits .and .i64 (ji10) 1) != 1) = false := bne_eq_false_iff_eq.mpr c11
 clear c11
 by_cases c12 : 0 ≤ x8_1
 rotate_left
 ·rw [if_neg c12] at H
  exact absurd H (by simp)
 rw [if_pos c12] at H
 have c12b0 : decide (0 ≤ x8_1) = true := decide_eq_true c12
 clear c12
 by_cases c13 : x8_1 < (l2.length : Int)
 rotate_left
 ·rw [if_neg c13] at H
  exact absurd H (by simp)
 rw [if_pos c13] at H
 have c13b0 : decide (x8_1 < (l2.length : Int)) = true := decide_eq_true c13
 clear c13
 by_cases c14 : x7_1.length < 23456248059221
 rotate_left
 ·rw [if_neg c14] at H
  exact absurd H (by simp)
 rw [if_pos c14] at H
 have LMc14 := Aside0.mk c14
 clear c14
 obtain ⟨y179, hy179⟩ : ∃ y_ : List (S120), y_ = (x7_1 ++ [(⟨(⟨(rd_T116 ((rd_T41 l0 0).f1) x8_1).f0.f0, (rd_T116 ((rd_T41 l0 0).f1) x8_1).f0.f1⟩ : S74), (rd_T116 ((rd_T41 l0 0).f1) x8_1).f1, IntKind.i16.wrap (rd l2 x8_1)⟩ : S120)]) := ⟨_, rfl⟩
 replace H : (spec_l03Pushes.l0 k1 l0 a1 l2 y179 (wrap64 (x8_1 + 1))) = some r := by first | (rw [hy179]; with_reducible exact H) | (have H2_ := (Option.bind_some _ _).symm.trans H; rw [hy179]; with_reducible exact H2_) | (have H2_ := (Option.bind_some _ _).symm.trans H; with_reducible exact H2_) | with_reducible exact H | (rw [hy179]; exact H) | exact H
 have Ny179 := Aside0.mk hy179
 clear hy179
 have H' := Aside0.mk H
 clear H
 have p173 : 0 ≤ (0 : Int) := (by omega)
 have q173 : 0 < (l0.length : Int) := of_decide_eq_true (by first | (with_reducible assumption) | assumption)
 obtain ⟨ad173, A173_2, c173_2, A173_3, c173_3, A173_4, c173_4, e173, hx173_0, hx173_1, hx173_2, hx173_3, hx173_4, hl173_2, hi173_2, hl173_3, hi173_3, hl173_4, hi173_4⟩ := at_T41 HR0.out 0 p173 q173
 obtain rfl : adp0 = ad173 := (by injection e173)
 have qi173 : (0 < l0.length) = True := eq_true (by omega)
 (try rw [show ((0 : Int)).toNat = 0 from rfl] at hx173_0)
 (try rw [show 0 * 5 = 0 from rfl] at hx173_0)
 (try rw [Addr.add_zero'] at hx173_0)
 (try rw [show ((0 : Int)).toNat = 0 from rfl] at hx173_1)
 (try rw [show 0 * 5 = 0 from rfl] at hx173_1)
 (try rw [Addr.add_zero'] at hx173_1)
 (try rw [show ((0 : Int)).toNat = 0 from rfl] at hx173_2)
 (try rw [show 0 * 5 = 0 from rfl] at hx173_2)
 (try rw [Addr.add_zero'] at hx173_2)
 (try rw [show ((0 : Int)).toNat = 0 from rfl] at hx173_3)
 (try rw [show 0 * 5 = 0 from rfl] at hx173_3)
 (try rw [Addr.add_zero'] at hx173_3)
 (try rw [show ((0 : Int)).toNat = 0 from rfl] at hx173_4)
 (try rw [show 0 * 5 = 0 from rfl] at hx173_4)
 (try rw [Addr.add_zero'] at hx173_4)
 replace hx173_0 := zc HB hx173_0
 replace hx173_1 := zc HB hx173_1
 replace hx173_2 := zc HB hx173_2
 replace hx173_3 := zc HB hx173_3
 replace hx173_4 := zc HB hx173_4
 have HR173_2 := Aside0.mk hi173_2
 have HC173_2 := Aside0.mk hl173_2
 clear hi173_2 hl173_2
 have HR173_3 := Aside0.mk hi173_3
 have HC173_3 := Aside0.mk hl173_3
 clear hi173_3 hl173_3
 have HR173_4 := Aside0.mk hi173_4
 have HC173_4 := Aside0.mk hl173_4
 clear hi173_4 hl173_4
 replace p173 := eq_true p173
 replace q173 := eq_true q173
 try go_wp2
 have n0_ := Aside0.mk (Kd.R_drew HO_7.out)
 have n1_ := Aside0.mk (below_drew1 HB.out)
 clear HO_7
 clear HB
 have HO_7 := n0_
 have HB := n1_
 clear n0_ n1_
 have p174 : 0 ≤ (0 : Int) := (by omega)
 have q174 : 0 < (l0.length : Int) := of_decide_eq_true (by first | (with_reducible assumption) | assumption)
 obtain ⟨ad174, A174_2, c174_2, A174_3, c174_3, A174_4, c174_4, e174, hx174_0, hx174_1, hx174_2, hx174_3, hx174_4, hl174_2, hi174_2, hl174_3, hi174_3, hl174_4, hi174_4⟩ := at_T41 HR0.out 0 p174 q174
 have hw174_4 := hx174_4
 (try rw [show ((0 : Int)).toNat = 0 from rfl] at hw174_4)
 (try rw [show 0 * 5 = 0 from rfl] at hw174_4)
 (try rw [Addr.add_zero'] at hw174_4)
 have hw174_3 := hx174_3
 (try rw [show ((0 : Int)).toNat = 0 from rfl] at hw174_3)
 (try rw [show 0 * 5 = 0 from rfl] at hw174_3)
 (try rw [Addr.add_zero'] at hw174_3)
 have hw174_2 := hx174_2
 (try rw [show ((0 : Int)).toNat = 0 from rfl] at hw174_2)
 (try rw [show 0 * 5 = 0 from rfl] at hw174_2)
 (try rw [Addr.add_zero'] at hw174_2)
 have hw174_1 := hx174_1
 (try rw [show ((0 : Int)).toNat = 0 from rfl] at hw174_1)
 (try rw [show 0 * 5 = 0 from rfl] at hw174_1)
 (try rw [Addr.add_zero'] at hw174_1)
 have hw174_0 := hx174_0
 (try rw [show ((0 : Int)).toNat = 0 from rfl] at hw174_0)
 (try rw [show 0 * 5 = 0 from rfl] at hw174_0)
 (try rw [Addr.add_zero'] at hw174_0)
 obtain rfl : adp0 = ad174 := (by injection e174)
 have qi174 : (0 < l0.length) = True := eq_true (by omega)
 (try rw [show ((0 : Int)).toNat = 0 from rfl] at hx174_0)
 (try rw [show 0 * 5 = 0 from rfl] at hx174_0)
 (try rw [Addr.add_zero'] at hx174_0)
 (try rw [show ((0 : Int)).toNat = 0 from rfl] at hx174_1)
 (try rw [show 0 * 5 = 0 from rfl] at hx174_1)
 (try rw [Addr.add_zero'] at hx174_1)
 (try rw [show ((0 : Int)).toNat = 0 from rfl] at hx174_2)
 (try rw [show 0 * 5 = 0 from rfl] at hx174_2)
 (try rw [Addr.add_zero'] at hx174_2)
 (try rw [show ((0 : Int)).toNat = 0 from rfl] at hx174_3)
 (try rw [show 0 * 5 = 0 from rfl] at hx174_3)
 (try rw [Addr.add_zero'] at hx174_3)
 (try rw [show ((0 : Int)).toNat = 0 from rfl] at hx174_4)
 (try rw [show 0 * 5 = 0 from rfl] at hx174_4)
 (try rw [Addr.add_zero'] at hx174_4)
 replace hx174_0 := zc HB hx174_0
 replace hx174_1 := zc HB hx174_1
 replace hx174_2 := zc HB hx174_2
 replace hx174_3 := zc HB hx174_3
 replace hx174_4 := zc HB hx174_4
 have HR174_2 := Aside0.mk hi174_2
 have HC174_2 := Aside0.mk hl174_2
 clear hi174_2 hl174_2
 have HR174_3 := Aside0.mk hi174_3
 have HC174_3 := Aside0.mk hl174_3
 clear hi174_3 hl174_3
 have HR174_4 := Aside0.mk hi174_4
 have HC174_4 := Aside0.mk hl174_4
 clear hi174_4 hl174_4
 replace p174 := eq_true p174
 replace q174 := eq_true q174
 have p175 : 0 ≤ (x8_1 : Int) := of_decide_eq_true (by first | (with_reducible assumption) | assumption)
 have q175 : x8_1 < (((rd_T41 l0 0).f1).length : Int) := of_decide_eq_true (by first | (with_reducible assumption) | assumption)
 obtain ⟨ad175, e175, hx175_0, hx175_1, hx175_2⟩ := at_T116 HR174_3.out x8_1 p175 q175
 have hw175_2 := hx175_2
 have hw175_1 := hx175_1
 have hw175_0 := hx175_0
 cases e175
 replace hx175_0 := zc HB hx175_0
 replace hx175_1 := zc HB hx175_1
 replace hx175_2 := zc HB hx175_2
 replace p175 := eq_true p175
 replace q175 := eq_true q175
 have p176 : 0 ≤ (0 : Int) := (by omega)
 have q176 : 0 < (l0.length : Int) := of_decide_eq_true (by first | (with_reducible assumption) | assumption)
 obtain ⟨ad176, A176_2, c176_2, A176_3, c176_3, A176_4, c176_4, e176, hx176_0, hx176_1, hx176_2, hx176_3, hx176_4, hl176_2, hi176_2, hl176_3, hi176_3, hl176_4, hi176_4⟩ := at_T41 HR0.out 0 p176 q176
 have hw176_4 := hx176_4
 (try rw [show ((0 : Int)).toNat = 0 from rfl] at hw176_4)
 (try rw [show 0 * 5 = 0 from rfl] at hw176_4)
 (try rw [Addr.add_zero'] at hw176_4)
 have hw176_3 := hx176_3
 (try rw [show ((0 : Int)).toNat = 0 from rfl] at hw176_3)
 (try rw [show 0 * 5 = 0 from rfl] at hw176_3)
 (try rw [Addr.add_zero'] at hw176_3)
 have hw176_2 := hx176_2
 (try rw [show ((0 : Int)).toNat = 0 from rfl] at hw176_2)
 (try rw [show 0 * 5 = 0 from rfl] at hw176_2)
 (try rw [Addr.add_zero'] at hw176_2)
 have hw176_1 := hx176_1
 (try rw [show ((0 : Int)).toNat = 0 from rfl] at hw176_1)
 (try rw [show 0 * 5 = 0 from rfl] at hw176_1)
 (try rw [Addr.add_zero'] at hw176_1)
 have hw176_0 := hx176_0
 (try rw [show ((0 : Int)).toNat = 0 from rfl] at hw176_0)
 (try rw [show 0 * 5 = 0 from rfl] at hw176_0)
 (try rw [Addr.add_zero'] at hw176_0)
 obtain rfl : adp0 = ad176 := (by injection e176)
 have qi176 : (0 < l0.length) = True := eq_true (by omega)
 (try rw [show ((0 : Int)).toNat = 0 from rfl] at hx176_0)
 (try rw [show 0 * 5 = 0 from rfl] at hx176_0)
 (try rw [Addr.add_zero'] at hx176_0)
 (try rw [show ((0 : Int)).toNat = 0 from rfl] at hx176_1)
 (try rw [show 0 * 5 = 0 from rfl] at hx176_1)
 (try rw [Addr.add_zero'] at hx176_1)
 (try rw [show ((0 : Int)).toNat = 0 from rfl] at hx176_2)
 (try rw [show 0 * 5 = 0 from rfl] at hx176_2)
 (try rw [Addr.add_zero'] at hx176_2)
 (try rw [show ((0 : Int)).toNat = 0 from rfl] at hx176_3)
 (try rw [show 0 * 5 = 0 from rfl] at hx176_3)
 (try rw [Addr.add_zero'] at hx176_3)
 (try rw [show ((0 : Int)).toNat = 0 from rfl] at hx176_4)
 (try rw [show 0 * 5 = 0 from rfl] at hx176_4)
 (try rw [Addr.add_zero'] at hx176_4)
 replace hx176_0 := zc HB hx176_0
 replace hx176_1 := zc HB hx176_1
 replace hx176_2 := zc HB hx176_2
 replace hx176_3 := zc HB hx176_3
 replace hx176_4 := zc HB hx176_4
 have HR176_2 := Aside0.mk hi176_2
 have HC176_2 := Aside0.mk hl176_2
 clear hi176_2 hl176_2
 have HR176_3 := Aside0.mk hi176_3
 have HC176_3 := Aside0.mk hl176_3
 clear hi176_3 hl176_3
 have HR176_4 := Aside0.mk hi176_4
 have HC176_4 := Aside0.mk hl176_4
 clear hi176_4 hl176_4
 replace p176 := eq_true p176
 replace q176 := eq_true q176
 have ea_ := Option.some.inj (hx174_2.symm.trans hx176_2)
 injection ea_ with ea_ en_ ec_
 subst ea_
 subst ec_
 clear en_
 have ea_ := Option.some.inj (hx174_3.symm.trans hx176_3)
 injection ea_ with ea_ en_ ec_
 subst ea_
 subst ec_
 clear en_
 have ea_ := Option.some.inj (hx174_4.symm.trans hx176_4)
 injection ea_ with ea_ en_ ec_
 subst ea_
 subst ec_
 clear en_
 have p177 : 0 ≤ (x8_1 : Int) := of_decide_eq_true (by first | (with_reducible assumption) | assumption)
 have q177 : x8_1 < (((rd_T41 l0 0).f1).length : Int) := of_decide_eq_true (by first | (with_reducible assumption) | assumption)
 obtain ⟨ad177, e177, hx177_0, hx177_1, hx177_2⟩ := at_T116 HR176_3.out x8_1 p177 q177
 have hw177_2 := hx177_2
 have hw177_1 := hx177_1
 have hw177_0 := hx177_0
 obtain rfl : ad175 = ad177 := (by injection e177)
 replace hx177_0 := zc HB hx177_0
 replace hx177_1 := zc HB hx177_1
 replace hx177_2 := zc HB hx177_2
 replace p177 := eq_true p177
 replace q177 := eq_true q177
 have p178 : 0 ≤ (x8_1 : Int) := of_decide_eq_true (by first | (with_reducible assumption) | assumption)
 have q178 : x8_1 < (l2.length : Int) := of_decide_eq_true (by first | (with_reducible assumption) | assumption)
 obtain ⟨ad178, e178, hx178_0⟩ := Kd.at_int HR2.out x8_1 p178 q178
 have hw178_0 := hx178_0
 cases e178
 replace hx178_0 := zc HB hx178_0
 replace p178 := eq_true p178
 replace q178 := eq_true q178
 refine start_ (n := 26) (S := fun w' => w'.cell? adp0 = some (.int .i8 ((rd_T41 l0 0).f0.f0)) ∧ w'.cell? ⟨adp0.block, adp0.off + 1, none⟩ = some (.int .i8 ((rd_T41 l0 0).f0.f1)) ∧ w'.cell? ⟨adp0.block, adp0.off + 2, none⟩ = some (.slice A174_2 ((rd_T41 l0 0).f0.f2).length c174_2) ∧ w'.cell? ⟨adp0.block, adp0.off + 3, none⟩ = some (.slice (some ad175) ((rd_T41 l0 0).f1).length c174_3) ∧ w'.cell? ⟨adp0.block, adp0.off + 4, none⟩ = some (.slice A174_4 ((rd_T41 l0 0).f2).length c174_4) ∧ w'.cell? (ad175.add ((x8_1).toNat * 3)) = some (.int .i8 ((rd_T116 ((rd_T41 l0 0).f1) x8_1).f0.f0)) ∧ w'.cell? ⟨(ad175.add ((x8_1).toNat * 3)).block, (ad175.add ((x8_1).toNat * 3)).off + 1, none⟩ = some (.int .i8 ((rd_T116 ((rd_T41 l0 0).f1) x8_1).f0.f1)) ∧ w'.cell? ⟨(ad175.add ((x8_1).toNat * 3)).block, (ad175.add ((x8_1).toNat * 3)).off + 2, none⟩ = some (.int .i8 ((rd_T116 ((rd_T41 l0 0).f1) x8_1).f1)) ∧ w'.cell? adp0 = some (.int .i8 ((rd_T41 l0 0).f0.f0)) ∧ w'.cell? ⟨adp0.block, adp0.off + 1, none⟩ = some (.int .i8 ((rd_T41 l0 0).f0.f1)) ∧ w'.cell? ⟨adp0.block, adp0.off + 2, none⟩ = some (.slice A174_2 ((rd_T41 l0 0).f0.f2).length c174_2) ∧ w'.cell? ⟨adp0.block, adp0.off + 3, none⟩ = some (.slice (some ad175) ((rd_T41 l0 0).f1).length c174_3) ∧ w'.cell? ⟨adp0.block, adp0.off + 4, none⟩ = some (.slice A174_4 ((rd_T41 l0 0).f2).length c174_4) ∧ w'.cell? (ad175.add ((x8_1).toNat * 3)) = some (.int .i8 ((rd_T116 ((rd_T41 l0 0).f1) x8_1).f0.f0)) ∧ w'.cell? ⟨(ad175.add ((x8_1).toNat * 3)).block, (ad175.add ((x8_1).toNat * 3)).off + 1, none⟩ = some (.int .i8 ((rd_T116 ((rd_T41 l0 0).f1) x8_1).f0.f1)) ∧ w'.cell? ⟨(ad175.add ((x8_1).toNat * 3)).block, (ad175.add ((x8_1).toNat * 3)).off + 2, none⟩ = some (.int .i8 ((rd_T116 ((rd_T41 l0 0).f1) x8_1).f1)) ∧ w'.cell? (ad178.add (x8_1).toNat) = some (.int .i64 (rd l2 x8_1))) (ds := []) (zq 26 0) (by kernel_rfl) rfl rfl ⟨(zc HB hw174_0), (zc HB hw174_1), (zc HB hw174_2), (zc HB hw174_3), (zc HB hw174_4), (zc HB hw175_0), (zc HB hw175_1), (zc HB hw175_2), (zc HB hw176_0), (zc HB hw176_1), (zc HB hw176_2), (zc HB hw176_3), (zc HB hw176_4), (zc HB hw177_0), (zc HB hw177_1), (zc HB hw177_2), (zc HB hw178_0)⟩ (fun hHeld => ?_); refine with_tabW spec_l03Pushes.tab6 spec_l03Pushes.bits6 (fun HT_ HW_ => ?_)
 generalize wr.drew = w15 at HO_7 HB HR174_2 HR174_3 HR174_4 HR176_2 HR176_3 HR176_4 hx174_0 hx174_1 hx174_2 hx174_3 hx174_4 hx175_0 hx175_1 hx175_2 hx176_0 hx176_1 hx176_2 hx176_3 hx176_4 hx177_0 hx177_1 hx177_2 hx178_0 hHeld ⊢
 refine zpu 0 (some 25) (zq 26 1) HT_ ?_
 refine zpu 1 (some 26) (zq 26 3) HT_ ?_
 refine zpu 2 (some 27) (zq 26 7) HT_ ?_
 refine zpu 3 (some 28) (zq 26 15) HT_ ?_
 refine zpu 5 (some 30) (zq 26 47) HT_ ?_
 refine zpu 9 (some 34) (zq 26 559) HT_ ?_
 refine zpu 10 (some 35) (zq 26 1583) HT_ ?_
 refine zpu 11 (some 36) (zq 26 3631) HT_ ?_
 refine zpu 13 (some 38) (zq 26 11823) HT_ ?_
 refine zpu 17 (some 42) (zq 26 142895) HT_ ?_
 refine zpu 18 (some 43) (zq 26 405039) HT_ ?_
 refine zpu 19 (some 44) (zq 26 929327) HT_ ?_
 refine ztk 4 (some 29) (zq 26 929343) HT_ HW_ rfl hHeld (Or.inl ⟨by rfl, by (rintro w' ⟨s0, s1, s2, s3, s4, s5, s6, s7, s8, s9, s10, s11, s12, s13, s14, s15, s16⟩; go_simp; with_reducible rfl)⟩) ?_
 refine zpu 6 (some 31) (zq 26 929407) HT_ ?_
 refine zpu 7 (some 32) (zq 26 929535) HT_ ?_
 refine ztk 8 (some 33) (zq 26 929791) HT_ HW_ rfl hHeld (Or.inl ⟨by rfl, by (rintro w' ⟨s0, s1, s2, s3, s4, s5, s6, s7, s8, s9, s10, s11, s12, s13, s14, s15, s16⟩; go_simp; with_reducible rfl)⟩) ?_
 refine ztk 12 (some 37) (zq 26 933887) HT_ HW_ rfl hHeld (Or.inl ⟨by rfl, by (rintro w' ⟨s0, s1, s2, s3, s4, s5, s6, s7, s8, s9, s10, s11, s12, s13, s14, s15, s16⟩; go_simp; with_reducible rfl)⟩) ?_
 refine zpu 14 (some 39) (zq 26 950271) HT_ ?_
 refine zpu 15 (some 40) (zq 26 983039) HT_ ?_
 refine ztk 16 (some 41) (zq 26 1048575) HT_ HW_ rfl hHeld (Or.inl ⟨by rfl, by (rintro w' ⟨s0, s1, s2, s3, s4, s5, s6, s7, s8, s9, s10, s11, s12, s13, s14, s15, s16⟩; go_simp; with_reducible rfl)⟩) ?_
 refine ztk 20 (some 45) (zq 26 2097151) HT_ HW_ rfl hHeld (Or.inl ⟨by rfl, by (rintro w' ⟨s0, s1, s2, s3, s4, s5, s6, s7, s8, s9, s10, s11, s12, s13, s14, s15, s16⟩; go_simp; with_reducible rfl)⟩) ?_
 refine zpu 21 (some 46) (zq 26 4194303) HT_ ?_
 refine zpu 22 (some 47) (zq 26 8388607) HT_ ?_
 refine one_ (i := 23) (N := some 48) (zq 26 16777215) rfl rfl (one_of HT_.out (by kernel_rfl)) (by decide) (fun K hK => ?_)
 refine value_ (w1 := ?_) (v := ?_) (by rfl) rfl ?_ ?_
 rotate_left 2
 ·go_simp
  constructor
  rotate_left
  ·rfl
  rfl
 refine hK.out _ _ ⟨(World.cell?_alloc_lt _ _ _ (World.block_lt_of_cell? _ _ ((zc HB hw174_0)))).trans ((zc HB hw174_0)), (World.cell?_alloc_lt _ _ _ (World.block_lt_of_cell? _ _ ((zc HB hw174_1)))).trans ((zc HB hw174_1)), (World.cell?_alloc_lt _ _ _ (World.block_lt_of_cell? _ _ ((zc HB hw174_2)))).trans ((zc HB hw174_2)), (World.cell?_alloc_lt _ _ _ (World.block_lt_of_cell? _ _ ((zc HB hw174_3)))).trans ((zc HB hw174_3)), (World.cell?_alloc_lt _ _ _ (World.block_lt_of_cell? _ _ ((zc HB hw174_4)))).trans ((zc HB hw174_4)), (World.cell?_alloc_lt _ _ _ (World.block_lt_of_cell? _ _ ((zc HB hw175_0)))).trans ((zc HB hw175_0)), (World.cell?_alloc_lt _ _ _ (World.block_lt_of_cell? _ _ ((zc HB hw175_1)))).trans ((zc HB hw175_1)), (World.cell?_alloc_lt _ _ _ (World.block_lt_of_cell? _ _ ((zc HB hw175_2)))).trans ((zc HB hw175_2)), (World.cell?_alloc_lt _ _ _ (World.block_lt_of_cell? _ _ ((zc HB hw176_0)))).trans ((zc HB hw176_0)), (World.cell?_alloc_lt _ _ _ (World.block_lt_of_cell? _ _ ((zc HB hw176_1)))).trans ((zc HB hw176_1)), (World.cell?_alloc_lt _ _ _ (World.block_lt_of_cell? _ _ ((zc HB hw176_2)))).trans ((zc HB hw176_2)), (World.cell?_alloc_lt _ _ _ (World.block_lt_of_cell? _ _ ((zc HB hw176_3)))).trans ((zc HB hw176_3)), (World.cell?_alloc_lt _ _ _ (World.block_lt_of_cell? _ _ ((zc HB hw176_4)))).trans ((zc HB hw176_4)), (World.cell?_alloc_lt _ _ _ (World.block_lt_of_cell? _ _ ((zc HB hw177_0)))).trans ((zc HB hw177_0)), (World.cell?_alloc_lt _ _ _ (World.block_lt_of_cell? _ _ ((zc HB hw177_1)))).trans ((zc HB hw177_1)), (World.cell?_alloc_lt _ _ _ (World.block_lt_of_cell? _ _ ((zc HB hw177_2)))).trans ((zc HB hw177_2)), (World.cell?_alloc_lt _ _ _ (World.block_lt_of_cell? _ _ ((zc HB hw178_0)))).trans ((zc HB hw178_0))⟩ (fun hHeld => ?_)
 clear hK K
 refine norm_ (a' := ?_) ?_ ?_
 rotate_left
 ·show Act.put _ (some 48) _ = _
  simp only [Act.put, List.setIfInBounds_toArray, List.set_cons_zero, List.set_cons_succ, i64_w, i32_w]
  rfl
 refine one_ (i := 24) (N := some 49) (zq 26 33554431) rfl rfl (one_of HT_.out (by kernel_rfl)) (by decide) (fun K hK => ?_)
 refine Kd.R_append_step k120 (w0 := w) w.heap.size (by rfl) (.tmp 25) (.tmp 48) 32 120 (.agg #[(.int .i8 0), (.int .i8 0), (.int .i8 0), (.int .i16 0)]) 6 rfl Try.underlying32 info120 rfl (by decide) (by omega) u7 x7_1 (⟨(⟨(rd_T116 ((rd_T41 l0 0).f1) x8_1).f0.f0, (rd_T116 ((rd_T41 l0 0).f1) x8_1).f0.f1⟩ : S74), (rd_T116 ((rd_T41 l0 0).f1) x8_1).f1, IntKind.i16.wrap (rd l2 x8_1)⟩ : S120) [.int .i8 ((rd_T116 ((rd_T41 l0 0).f1) x8_1).f0.f0), .int .i8 ((rd_T116 ((rd_T41 l0 0).f1) x8_1).f0.f1), .int .i8 ((rd_T116 ((rd_T41 l0 0).f1) x8_1).f1), .int .i16 (IntKind.i16.wrap (rd l2 x8_1))] (fun _ => True) (fun _ => False) rfl rfl ?aP (fun _ hk => hk.elim) ?aF ?aO ?aB ?aS ?aL ?_
 (case aP => exact k120_mkM _ _ _ (⟨(⟨(rd_T116 ((rd_T41 l0 0).f1) x8_1).f0.f0, (rd_T116 ((rd_T41 l0 0).f1) x8_1).f0.f1⟩ : S74), (rd_T116 ((rd_T41 l0 0).f1) x8_1).f1, IntKind.i16.wrap (rd l2 x8_1)⟩ : S120))
 (case aB => exact (zl HB).out)
 (case aF => exact (fun _ _ => trivial))
 (case aO => exact (ze HO_7).out)
 (case aS => exact (zz HB))
 (case aL => have := LMc14.out; omega)
 intro v180 w16 ho hb hg hat
 rw [← Ny179.out] at ho
 have n0_ := Aside0.mk (hb)
 have n1_ := Aside0.mk (ho)
 clear HB
 clear HO_7
 have HB := n0_
 have HO181 := n1_
 clear n0_ n1_
 clear ho hb hg hat
 refine hK.out _ _ ⟨(zc HB hw174_0), (zc HB hw174_1), (zc HB hw174_2), (zc HB hw174_3), (zc HB hw174_4), (zc HB hw175_0), (zc HB hw175_1), (zc HB hw175_2), (zc HB hw176_0), (zc HB hw176_1), (zc HB hw176_2), (zc HB hw176_3), (zc HB hw176_4), (zc HB hw177_0), (zc HB hw177_1), (zc HB hw177_2), (zc HB hw178_0)⟩ (fun hHeld => ?_)
 clear hK K
 refine norm_ (a' := ?_) ?_ ?_
 rotate_left
 ·show Act.put _ (some 49) _ = _
  simp only [Act.put, List.setIfInBounds_toArray, List.set_cons_zero, List.set_cons_succ, i64_w, i32_w]
  rfl
 refine zpu 25 (some 7) (zq 26 67108863) HT_ ?_
 refine done_ (done_of HT_.out (by kernel_rfl)) ?_
 try go_wp2
 go_roundg k1
 case measure => have := HK1.out; omega
 case rel => exact ⟨(y179), (wrap64 (x8_1 + 1)), (by first | rfl | (simp; done) | (simp [*]; done) | (exact congrArg (Value.int .i64) (wrap_eq (by omega)))), H', ⟨by have := HK1.out; omega⟩, ze HO181, zl HB⟩
/-! ### spec_PushesFor: function 22 -/
def spec_PushesFor.f (k : Nat) (a0_0 : Int) (a0_1 : Int) (l0_2 : List (S91)) (l0_3 : List (S116)) (l0_4 : List (S74)) (a1 : Int) (l2 : List Int) : Option ((List (S120)) × Int) := (spec_l03Asked.f k [(⟨(⟨a0_0, a0_1, l0_2⟩ : S37), l0_3, l0_4⟩ : S41)] a1 l2).bind fun t183 => (if t183 = 0 then ((spec_l03Pushes.f k [(⟨(⟨a0_0, a0_1, l0_2⟩ : S37), l0_3, l0_4⟩ : S41)] a1 l2).bind fun t184 => (some (t184, 0))) else (some ((([] : List (S120))), t183)))
theorem spec_PushesFor.mono : ∀ a0 a1 a2 a3 a4 a5 a6 k, LeO (spec_PushesFor.f k a0 a1 a2 a3 a4 a5 a6) (spec_PushesFor.f (k + 1) a0 a1 a2 a3 a4 a5 a6) := by
 intro a0 a1 a2 a3 a4 a5 a6 k
 unfold spec_PushesFor.f
 repeat' first | (with_reducible first | apply spec_l03Asked.mono | apply spec_l03Pushes.mono | exact LeO.refl _ | exact LeO.none _ | refine LeO.ite ?_ ?_ | refine LeO.bind ?_ (fun _ => ?_)) | apply spec_l03Asked.mono | apply spec_l03Pushes.mono | exact LeO.none _ | refine LeO.ite ?_ ?_ | refine LeO.bind ?_ (fun _ => ?_)
set_option maxHeartbeats 8000000 in
set_option maxRecDepth 100000 in
theorem spec_PushesFor.calls (k : Nat) (a0_0 : Int) (a0_1 : Int) (A0_2 : Option Addr) (c0_2 : Nat) (l0_2 : List (S91)) (A0_3 : Option Addr) (c0_3 : Nat) (l0_3 : List (S116)) (A0_4 : Option Addr) (c0_4 : Nat) (l0_4 : List (S74)) (a1 : Int) (A2 : Option Addr) (c2 : Nat) (l2 : List Int) (r1 : List (S120)) (r2 : Int) (w : World) (hr0_2 : Kd.C k91 w A0_2 l0_2.length l0_2) (hc0_2 : l0_2.length ≤ c0_2) (hr0_3 : Kd.C k116 w A0_3 l0_3.length l0_3) (hc0_3 : l0_3.length ≤ c0_3) (hr0_4 : Kd.C k74 w A0_4 l0_4.length l0_4) (hc0_4 : l0_4.length ≤ c0_4) (hr2 : Kd.C (Kd.int .i64) w A2 l2.length l2) (hc2 : l2.length ≤ c2) (h : spec_PushesFor.f k a0_0 a0_1 l0_2 l0_3 l0_4 a1 l2 = some (r1, r2)) :
    Calls Try.prog 22 #[.agg #[.int .i8 a0_0, .int .i8 a0_1, .slice A0_2 l0_2.length c0_2, .slice A0_3 l0_3.length c0_3, .slice A0_4 l0_4.length c0_4], .int .i64 a1, .slice A2 l2.length c2] w fun e w' => ∃ v0_ : Value, e = .returned (.tuple #[v0_, .int .i64 r2]) ∧ Kd.R k120 120 w' w.heap.size (fun _ => True) v0_ r1 ∧ Below w.heap.size w w' := by
 have hu41 := Try.underlying41
 have HR0_2 := Aside0.mk hr0_2
 have HC0_2 := Aside0.mk hc0_2
 clear hr0_2 hc0_2
 have HR0_3 := Aside0.mk hr0_3
 have HC0_3 := Aside0.mk hc0_3
 clear hr0_3 hc0_3
 have HR0_4 := Aside0.mk hr0_4
 have HC0_4 := Aside0.mk hc0_4
 clear hr0_4 hc0_4
 have HR2 := Aside0.mk hr2
 have HC2 := Aside0.mk hc2
 clear hr2 hc2
 have HB := Aside0.mk (Below.refl w.heap.size w)
 have H : ((spec_l03Asked.f k [(⟨(⟨a0_0, a0_1, l0_2⟩ : S37), l0_3, l0_4⟩ : S41)] a1 l2).bind fun t183 => (if t183 = 0 then ((spec_l03Pushes.f k [(⟨(⟨a0_0, a0_1, l0_2⟩ : S37), l0_3, l0_4⟩ : S41)] a1 l2).bind fun t184 => (some (t184, 0))) else (some ((([] : List (S120))), t183)))) = some (r1, r2) := h
 clear h
 replace H := Option.bind_eq_some_iff.mp H
 obtain ⟨t183, A40, H⟩ := H
 replace H : (if t183 = 0 then ((spec_l03Pushes.f k [(⟨(⟨a0_0, a0_1, l0_2⟩ : S37), l0_3, l0_4⟩ : S41)] a1 l2).bind fun t184 => (some (t184, 0))) else (some ((([] : List (S120))), t183))) = some (r1, r2) := H
 have A4 := Aside0.mk A40
 clear A40
 by_cases c5 : t183 = 0
 rotate_left
 ·rw [if_neg c5] at H
  have c5b0 : (t183 == 0) = false := beq_eq_false_iff_ne.mpr c5
  have c5b1 : (t183 != 0) = true := bne_iff_ne.mpr c5
  obtain ⟨y187, hy187⟩ : ∃ y_ : List (S120), y_ = (([] : List (S120))) := ⟨_, rfl⟩
  replace H : (some (y187, t183)) = some (r1, r2) := by first | (rw [hy187]; with_reducible exact H) | (have H2_ := (Option.bind_some _ _).symm.trans H; rw [hy187]; with_reducible exact H2_) | (have H2_ := (Option.bind_some _ _).symm.trans H; with_reducible exact H2_) | with_reducible exact H | (rw [hy187]; exact H) | exact H
  have Ny187 := Aside0.mk hy187
  clear hy187
  simp only [Option.some.injEq, Prod.mk.injEq] at H
  obtain ⟨rfl, rfl⟩ := H
  go_enter Try.func22, Try.ntmps22
  go_wp2_with (first | ((with_reducible refine gate_dst (N := 3) rfl ?_); refine box_event ?hg (N := 3) ?hd (cs := #[.int .i8 a0_0, .int .i8 a0_1, .slice A0_2 l0_2.length c0_2, .slice A0_3 l0_3.length c0_3, .slice A0_4 l0_4.length c0_4]) (t := 41) ?hr ?_; (case hd => rfl); (case hg => rfl); (case hr => first | (go_simp; done) | (go_simp; rfl)); intro gb182 hg w10 hbox hb; have n_ : _ ∧ _ ∧ _ ∧ _ := ⟨zb HB hb, Aside0.mk (hbox), zg HB hg, zg HB hg⟩; clear HB; obtain ⟨HB, BK182, GW182, GE182⟩ := n_; clear hb hbox hg) | ((with_reducible refine gate_callee (f := 85) rfl ?_); refine goesL_ (some 11) rfl rfl Try.func85 (by kernel_rfl) rfl #[.pointer (some ⟨gb182, 0, none⟩), .int .i64 a1, .slice A2 l2.length c2] rfl (by (try simp only [List.map_toArray, List.map_cons, List.map_nil]); first | done | rfl | (simp only [List.length_drop, List.length_take]; rfl)) ?_; (with_reducible refine (spec_l03Asked.calls k _ [(⟨(⟨a0_0, a0_1, l0_2⟩ : S37), l0_3, l0_4⟩ : S41)] a1 _ _ l2 t183 _ ?side1 ?side2 ?side3 A4.out).mono ?_); (case side1 => refine ro_of_blk (T := 41) (cs := #[.int .i8 a0_0, .int .i8 a0_1, .slice A0_2 l0_2.length c0_2, .slice A0_3 l0_3.length c0_3, .slice A0_4 l0_4.length c0_4]) (zh BK182).out ?_; exact k41_mk _ (⟨(⟨a0_0, a0_1, l0_2⟩ : S37), l0_3, l0_4⟩ : S41) (by exact HC0_2.out) (by exact zcc HB HR0_2.out) (by exact HC0_3.out) (by exact zcc HB HR0_3.out) (by exact HC0_4.out) (by exact zcc HB HR0_4.out)); (case side2 => exact zcc HB HR2.out); (case side3 => exact HC2.out); rintro e w11 ⟨rfl, hb⟩; refine ⟨_, rfl, ?_⟩; have n_ : _ ∧ _ := ⟨zk BK182 hb, zbs hb⟩; clear BK182 HB; obtain ⟨BK182, HB⟩ := n_; (try clear hb); (try clear hb2); (try clear hk); (try clear hi)) | ((with_reducible refine gate_dst (N := 14) rfl ?_); refine Kd.R_lit k120 _ 120 ?hg (N := 14) ?hd (xs := ([] : List (S120))) (inner := []) (ok := fun _ => True) (okp := fun _ => True) ?hr ?hp (fun _ hk => hk) trivial (Below.refl _ _) (Nat.le_refl _) (by simp) ?_; (case hd => rfl); (case hg => rfl); (case hr => first | (go_simp; done) | (go_simp; rfl)); (case hp => exact (Reps.none _ _)); intro v188 w12 ho13 hb hg_ hnew_; clear hg_ hnew_; (first | rw [← Ny187.out] at ho13 | (simp only [Int.reduceToNat] at ho13; rw [← Ny187.out] at ho13)); have n_ : _ ∧ _ ∧ _ := ⟨Aside0.mk (Kd.R_lower ho13 (zz HB)), zk BK182 hb, zbs hb⟩; clear BK182 HB; obtain ⟨HO189, BK182, HB⟩ := n_; clear hb ho13))
  go_ret2
  exact ⟨_, by first | rfl | (simp [errW_none, errW_some] <;> rfl) | (simp [*, errW_none, errW_some] <;> rfl), by (with_reducible repeat (first | apply Kd.R_alloc | apply Kd.R_drewN | apply Kd.R_drew)); exact HO189.out, by repeat (first | (with_reducible first | exact HB.out | apply below_alloc | apply pw_below_drewN | apply below_drew1 | refine below_set ?_ GE182.out) | exact HB.out)⟩
 rw [if_pos c5] at H
 have c5b0 : (t183 == 0) = true := beq_iff_eq.mpr c5
 have c5b1 : (t183 != 0) = false := bne_eq_false_iff_eq.mpr c5
 clear c5
 replace H := Option.bind_eq_some_iff.mp H
 obtain ⟨t184, A60, H⟩ := H
 replace H : (some (t184, 0)) = some (r1, r2) := H
 have A6 := Aside0.mk A60
 clear A60
 simp only [Option.some.injEq, Prod.mk.injEq] at H
 obtain ⟨rfl, rfl⟩ := H
 go_enter Try.func22, Try.ntmps22
 go_wp2_with (first | ((with_reducible refine gate_dst (N := 3) rfl ?_); refine box_event ?hg (N := 3) ?hd (cs := #[.int .i8 a0_0, .int .i8 a0_1, .slice A0_2 l0_2.length c0_2, .slice A0_3 l0_3.length c0_3, .slice A0_4 l0_4.length c0_4]) (t := 41) ?hr ?_; (case hd => rfl); (case hg => rfl); (case hr => first | (go_simp; done) | (go_simp; rfl)); intro gb182 hg w7 hbox hb; have n_ : _ ∧ _ ∧ _ ∧ _ := ⟨zb HB hb, Aside0.mk (hbox), zg HB hg, zg HB hg⟩; clear HB; obtain ⟨HB, BK182, GW182, GE182⟩ := n_; clear hb hbox hg) | ((with_reducible refine gate_callee (f := 85) rfl ?_); refine goesL_ (some 11) rfl rfl Try.func85 (by kernel_rfl) rfl #[.pointer (some ⟨gb182, 0, none⟩), .int .i64 a1, .slice A2 l2.length c2] rfl (by (try simp only [List.map_toArray, List.map_cons, List.map_nil]); first | done | rfl | (simp only [List.length_drop, List.length_take]; rfl)) ?_; (with_reducible refine (spec_l03Asked.calls k _ [(⟨(⟨a0_0, a0_1, l0_2⟩ : S37), l0_3, l0_4⟩ : S41)] a1 _ _ l2 t183 _ ?side1 ?side2 ?side3 A4.out).mono ?_); (case side1 => refine ro_of_blk (T := 41) (cs := #[.int .i8 a0_0, .int .i8 a0_1, .slice A0_2 l0_2.length c0_2, .slice A0_3 l0_3.length c0_3, .slice A0_4 l0_4.length c0_4]) (zh BK182).out ?_; exact k41_mk _ (⟨(⟨a0_0, a0_1, l0_2⟩ : S37), l0_3, l0_4⟩ : S41) (by exact HC0_2.out) (by exact zcc HB HR0_2.out) (by exact HC0_3.out) (by exact zcc HB HR0_3.out) (by exact HC0_4.out) (by exact zcc HB HR0_4.out)); (case side2 => exact zcc HB HR2.out); (case side3 => exact HC2.out); rintro e w8 ⟨rfl, hb⟩; refine ⟨_, rfl, ?_⟩; have n_ : _ ∧ _ := ⟨zk BK182 hb, zbs hb⟩; clear BK182 HB; obtain ⟨BK182, HB⟩ := n_; (try clear hb); (try clear hb2); (try clear hk); (try clear hi)) | ((with_reducible refine gate_callee (f := 86) rfl ?_); refine goesL_ (some 18) rfl rfl Try.func86 (by kernel_rfl) rfl #[.pointer (some ⟨gb182, 0, none⟩), .int .i64 a1, .slice A2 l2.length c2] rfl (by (try simp only [List.map_toArray, List.map_cons, List.map_nil]); first | done | rfl | (simp only [List.length_drop, List.length_take]; rfl)) ?_; (with_reducible refine (spec_l03Pushes.calls k _ [(⟨(⟨a0_0, a0_1, l0_2⟩ : S37), l0_3, l0_4⟩ : S41)] a1 _ _ l2 t184 _ ?side1 ?side2 ?side3 A6.out).mono ?_); (case side1 => refine ro_of_blk (T := 41) (cs := #[.int .i8 a0_0, .int .i8 a0_1, .slice A0_2 l0_2.length c0_2, .slice A0_3 l0_3.length c0_3, .slice A0_4 l0_4.length c0_4]) (zh BK182).out ?_; exact k41_mk _ (⟨(⟨a0_0, a0_1, l0_2⟩ : S37), l0_3, l0_4⟩ : S41) (by exact HC0_2.out) (by exact zcc HB HR0_2.out) (by exact HC0_3.out) (by exact zcc HB HR0_3.out) (by exact HC0_4.out) (by exact zcc HB HR0_4.out)); (case side2 => exact zcc HB HR2.out); (case side3 => exact HC2.out); rintro e w9 ⟨v185, rfl, ho0, hb⟩; refine ⟨_, rfl, ?_⟩; have n_ : _ ∧ _ ∧ _ := ⟨Aside0.mk (Kd.R_lower ho0 (zz HB)), zk BK182 hb, zbs hb⟩; clear BK182 HB; obtain ⟨HO186, BK182, HB⟩ := n_; (try clear hb); (try clear hb2); (try clear hk); (try clear hi); (try clear ho0)))
 go_ret2
 exact ⟨_, by first | rfl | (simp [errW_none, errW_some] <;> rfl) | (simp [*, errW_none, errW_some] <;> rfl), by (with_reducible repeat (first | apply Kd.R_alloc | apply Kd.R_drewN | apply Kd.R_drew)); exact HO186.out, by repeat (first | (with_reducible first | exact HB.out | apply below_alloc | apply pw_below_drewN | apply below_drew1 | refine below_set ?_ GE182.out) | exact HB.out)⟩
/-! ### laws_toCell: function 53 -/
def laws_toCell.l0 : Nat → Int → Int → Int → Int → Int → Option (Int × Int)
  | 0, _, _, _, _, _ => none
  | k + 1, x4, x191000, x191001, x193000, x193001 => if x4 < 2 then (if x4 = 0 then (laws_toCell.l0 k (wrap64 (x4 + 1)) x191000 x191001 x191000 x193001) else (if x4 = 1 then (laws_toCell.l0 k (wrap64 (x4 + 1)) x191000 x191001 x193000 x191001) else (none))) else (some (x193000, x193001))
def laws_toCell.f (k : Nat) (a0_0 : Int) (a0_1 : Int) : Option (Int × Int) := laws_toCell.l0 k 0 a0_0 a0_1 0 0
theorem laws_toCell.mono_l : ∀ k, (∀ y0 y1 y2 y3 y4, LeO (laws_toCell.l0 k y0 y1 y2 y3 y4) (laws_toCell.l0 (k + 1) y0 y1 y2 y3 y4))
  | 0 => fun _ _ _ _ _ r h => by simp [laws_toCell.l0] at h
  | k + 1 => by
    have ih0 := laws_toCell.mono_l k
    · intro y0 y1 y2 y3 y4
      unfold laws_toCell.l0
      repeat' first | (with_reducible first | apply ih0 | exact LeO.refl _ | exact LeO.none _ | refine LeO.ite ?_ ?_ | refine LeO.bind ?_ (fun _ => ?_)) | apply ih0 | exact LeO.none _ | refine LeO.ite ?_ ?_ | refine LeO.bind ?_ (fun _ => ?_)
theorem laws_toCell.mono : ∀ a0 a1 k, LeO (laws_toCell.f k a0 a1) (laws_toCell.f (k + 1) a0 a1) := by
 intro a0 a1 k
 have ih0 := laws_toCell.mono_l k
 unfold laws_toCell.f
 repeat' first | (with_reducible first | apply ih0 | exact LeO.refl _ | exact LeO.none _ | refine LeO.ite ?_ ?_ | refine LeO.bind ?_ (fun _ => ?_)) | apply ih0 | exact LeO.none _ | refine LeO.ite ?_ ?_ | refine LeO.bind ?_ (fun _ => ?_)
set_option maxHeartbeats 8000000 in
set_option maxRecDepth 100000 in
theorem laws_toCell.calls (k : Nat) (a0_0 : Int) (a0_1 : Int) (r1 : Int) (r2 : Int) (w : World) (h : laws_toCell.f k a0_0 a0_1 = some (r1, r2)) :
    Calls Try.prog 53 #[.agg #[.int .i8 a0_0, .int .i8 a0_1]] w fun e w' => e = .returned (.agg #[.int .i8 r1, .int .i8 r2]) ∧ Below w.heap.size w w' := by
 have hu71 := Try.underlying71
 have hu74 := Try.underlying74
 have HB := Aside0.mk (Below.refl w.heap.size w)
 have H : (laws_toCell.l0 k 0 a0_0 a0_1 0 0) = some (r1, r2) := h
 clear h
 have H' := Aside0.mk H
 clear H
 go_enter Try.func53, Try.ntmps53
 go_wp2_with (first | ((with_reducible refine gate_dst (N := 1) rfl ?_); refine box_event ?hg (N := 1) ?hd (cs := #[.int .i8 a0_0, .int .i8 a0_1]) (t := 71) ?hr ?_; (case hd => rfl); (case hg => rfl); (case hr => first | (go_simp; done) | (go_simp; rfl)); intro gb190 hg w2 hbox hb; have n_ : _ ∧ _ ∧ _ ∧ _ := ⟨zb HB hb, Aside0.mk (hbox), zg HB hg, zg HB hg⟩; clear HB; obtain ⟨HB, BK190, GW190, GE190⟩ := n_; clear hb hbox hg) | ((with_reducible refine gate_dst (N := 2) rfl ?_); refine box_event ?hg (N := 2) ?hd (cs := #[.int .i8 0, .int .i8 0]) (t := 74) ?hr ?_; (case hd => rfl); (case hg => rfl); (case hr => first | (go_simp; done) | (go_simp; rfl)); intro gb191 hg w3 hbox hb; have n_ : _ ∧ _ ∧ _ ∧ _ ∧ _ ∧ _ ∧ _ := ⟨zk BK190 hb, zbs hb, Aside0.mk (hbox), zg HB hg, zg HB hg, zn1 BK190 hg, zn2 BK190 hg⟩; clear BK190 HB; obtain ⟨BK190, HB, BK191, GW191, GE191, NB190_191, NB191_190⟩ := n_; clear hb hbox hg) | ((with_reducible refine gate_dst (N := 3) rfl ?_); refine box_event ?hg (N := 3) ?hd (cs := #[.int .i8 0, .int .i8 0]) (t := 74) ?hr ?_; (case hd => rfl); (case hg => rfl); (case hr => first | (go_simp; done) | (go_simp; rfl)); intro gb192 hg w4 hbox hb; have n_ : _ ∧ _ ∧ _ ∧ _ ∧ _ ∧ _ ∧ _ ∧ _ ∧ _ ∧ _ := ⟨zk BK190 hb, zk BK191 hb, zbs hb, Aside0.mk (hbox), zg HB hg, zg HB hg, zn1 BK190 hg, zn2 BK190 hg, zn1 BK191 hg, zn2 BK191 hg⟩; clear BK190 BK191 HB; obtain ⟨BK190, BK191, HB, BK192, GW192, GE192, NB190_192, NB192_190, NB191_192, NB192_191⟩ := n_; clear hb hbox hg))
 go_loopg [4] k (fun kq v4 w' => ∃ (x4_1 : Int) (x193000_1 : Int) (x193001_1 : Int), v4 = .int .i64 x4_1 ∧ Aside0 (laws_toCell.l0 kq x4_1 a0_0 a0_1 x193000_1 x193001_1 = some (r1, r2)) ∧ Aside0 (kq ≤ k) ∧ Aside0 (w'.heap[gb190]? = some (.cells #[.int .i8 a0_0, .int .i8 a0_1] 71 (0, 0))) ∧ Aside0 (w'.heap[gb191]? = some (.cells #[.int .i8 0, .int .i8 0] 74 (0, 0))) ∧ Aside0 (w'.heap[gb192]? = some (.cells #[.int .i8 x193000_1, .int .i8 x193001_1] 74 (0, 0))) ∧ Aside0 (Below w.heap.size w w'))
 case atStart => exact ⟨(0), (0), (0), (by first | rfl | (simp; done) | (simp [*]; done) | (exact congrArg (Value.int .i64) (wrap_eq (by omega)))), H', ⟨Nat.le_refl _⟩, zh BK190, zh BK191, zh BK192, zba⟩
 clear H'
 try clear p2
 obtain ⟨x4_1, x193000_1, x193001_1, rfl, HA, HK1, BK190, BK191, BK192, HB⟩ := hrel
 cases gk with
 | zero => exact absurd HA.out (by simp [laws_toCell.l0])
 | succ k1 => ?_
 have H := HA.out
 clear HA
 simp only [laws_toCell.l0] at H
 by_cases c5 : x4_1 < 2
 rotate_left
 ·rw [if_neg c5] at H
  have c5b0 : decide (x4_1 < 2) = false := decide_eq_false c5
  clear c5
  simp only [Option.some.injEq, Prod.mk.injEq] at H
  obtain ⟨rfl, rfl⟩ := H
  have hnb22 := NB192_190.out
  have hnc22 := NB190_192.out
  have hnb23 := NB192_191.out
  have hnc23 := NB191_192.out
  obtain ⟨z24_0, z24_1, y24_0, y24_1⟩ := zB2 BK192
  have hnb25 := NB191_190.out
  have hnc25 := NB190_191.out
  obtain ⟨z26_0, z26_1, y26_0, y26_1⟩ := zB2 BK191
  go_wp2
  refine bodyPost_ret (results_cell_row rfl _ _ gb191 74 #[.int .i8 x193000_1, .int .i8 x193001_1] (0, 0) _ rfl (by (with_reducible repeat (first | refine blk_drewN ?_ _ | refine blk_drew ?_ | refine blk_alloc ?_ _)); refine blk_put (cs := #[.int .i8 x193000_1, .int .i8 0]) ?_ 1 _ rfl; (with_reducible repeat (first | refine blk_drewN ?_ _ | refine blk_drew ?_ | refine blk_alloc ?_ _)); refine blk_put (cs := #[.int .i8 0, .int .i8 0]) ?_ 0 _ rfl; (with_reducible repeat (first | refine blk_drewN ?_ _ | refine blk_drew ?_ | refine blk_alloc ?_ _)); exact BK191.out) Try.underlying74 rfl (by kernel_rfl)) rfl ?_
  exact ⟨by first | rfl | (simp [errW_none, errW_some] <;> rfl) | (simp [*, errW_none, errW_some] <;> rfl), by repeat (first | (with_reducible first | exact HB.out | apply below_alloc | apply pw_below_drewN | apply below_drew1 | refine below_set ?_ GE190.out | refine below_set ?_ GE191.out | refine below_set ?_ GE192.out) | exact HB.out)⟩
 rw [if_pos c5] at H
 have c5b0 : decide (x4_1 < 2) = true := decide_eq_true c5
 clear c5
 by_cases c6 : x4_1 = 0
 ·rw [if_pos c6] at H
  have Ac6 : Aside0 (x4_1 = 0) := ⟨c6⟩
  clear c6
  have ar7e : x4_1 = 0 := by first | exact (show Aside0 (x4_1 = 0) by assumption).out | exact beq_iff_eq.mp (by assumption) | omega
  have ar7n : (x4_1).toNat = 0 := by rw [ar7e]; rfl
  have ar7l : decide (0 ≤ x4_1) = true := decide_eq_true (by omega)
  have ar7L := eq_true (of_decide_eq_true ar7l)
  have ar7h : decide (x4_1 < 2) = true := decide_eq_true (by omega)
  have ar7H := eq_true (of_decide_eq_true ar7h)
  clear ar7e
  have ar8e : x4_1 = 0 := by first | exact (show Aside0 (x4_1 = 0) by assumption).out | exact beq_iff_eq.mp (by assumption) | omega
  have ar8n : (x4_1).toNat = 0 := by rw [ar8e]; rfl
  have ar8l : decide (0 ≤ x4_1) = true := decide_eq_true (by omega)
  have ar8L := eq_true (of_decide_eq_true ar8l)
  have ar8h : decide (x4_1 < 2) = true := decide_eq_true (by omega)
  have ar8H := eq_true (of_decide_eq_true ar8h)
  clear ar8e
  have H' := Aside0.mk H
  clear H
  have hnb9 := NB190_191.out
  have hnc9 := NB191_190.out
  have hnb10 := NB190_192.out
  have hnc10 := NB192_190.out
  obtain ⟨z11_0, z11_1, y11_0, y11_1⟩ := zB2 BK190
  have hnb12 := NB192_191.out
  have hnc12 := NB191_192.out
  obtain ⟨z13_0, z13_1, y13_0, y13_1⟩ := zB2 BK192
  go_wp2
  go_roundg k1
  case measure => have := HK1.out; omega
  case rel => exact ⟨(wrap64 (x4_1 + 1)), (a0_0), (x193001_1), (by first | rfl | (simp; done) | (simp [*]; done) | (exact congrArg (Value.int .i64) (wrap_eq (by omega)))), H', ⟨by have := HK1.out; omega⟩, zf BK190 NB190_192, zf BK191 NB191_192, ⟨by (with_reducible repeat (first | refine blk_drewN ?_ _ | refine blk_drew ?_ | refine blk_alloc ?_ _)); refine blk_put (cs := #[.int .i8 x193000_1, .int .i8 x193001_1]) ?_ 0 _ rfl; (with_reducible repeat (first | refine blk_drewN ?_ _ | refine blk_drew ?_ | refine blk_alloc ?_ _)); exact BK192.out⟩, zba⟩
 rw [if_neg c6] at H
 clear c6
 by_cases c14 : x4_1 = 1
 rotate_left
 ·rw [if_neg c14] at H
  exact absurd H (by simp)
 rw [if_pos c14] at H
 have Ac14 : Aside0 (x4_1 = 1) := ⟨c14⟩
 clear c14
 have ar15e : x4_1 = 1 := by first | exact (show Aside0 (x4_1 = 1) by assumption).out | exact beq_iff_eq.mp (by assumption) | omega
 have ar15n : (x4_1).toNat = 1 := by rw [ar15e]; rfl
 have ar15l : decide (0 ≤ x4_1) = true := decide_eq_true (by omega)
 have ar15L := eq_true (of_decide_eq_true ar15l)
 have ar15h : decide (x4_1 < 2) = true := decide_eq_true (by omega)
 have ar15H := eq_true (of_decide_eq_true ar15h)
 clear ar15e
 have ar16e : x4_1 = 1 := by first | exact (show Aside0 (x4_1 = 1) by assumption).out | exact beq_iff_eq.mp (by assumption) | omega
 have ar16n : (x4_1).toNat = 1 := by rw [ar16e]; rfl
 have ar16l : decide (0 ≤ x4_1) = true := decide_eq_true (by omega)
 have ar16L := eq_true (of_decide_eq_true ar16l)
 have ar16h : decide (x4_1 < 2) = true := decide_eq_true (by omega)
 have ar16H := eq_true (of_decide_eq_true ar16h)
 clear ar16e
 have H' := Aside0.mk H
 clear H
 have hnb17 := NB190_191.out
 have hnc17 := NB191_190.out
 have hnb18 := NB190_192.out
 have hnc18 := NB192_190.out
 obtain ⟨z19_0, z19_1, y19_0, y19_1⟩ := zB2 BK190
 have hnb20 := NB192_191.out
 have hnc20 := NB191_192.out
 obtain ⟨z21_0, z21_1, y21_0, y21_1⟩ := zB2 BK192
 go_wp2
 go_roundg k1
 case measure => have := HK1.out; omega
 case rel => exact ⟨(wrap64 (x4_1 + 1)), (x193000_1), (a0_1), (by first | rfl | (simp; done) | (simp [*]; done) | (exact congrArg (Value.int .i64) (wrap_eq (by omega)))), H', ⟨by have := HK1.out; omega⟩, zf BK190 NB190_192, zf BK191 NB191_192, ⟨by (with_reducible repeat (first | refine blk_drewN ?_ _ | refine blk_drew ?_ | refine blk_alloc ?_ _)); refine blk_put (cs := #[.int .i8 x193000_1, .int .i8 x193001_1]) ?_ 1 _ rfl; (with_reducible repeat (first | refine blk_drewN ?_ _ | refine blk_drew ?_ | refine blk_alloc ?_ _)); exact BK192.out⟩, zba⟩
end Go.Proofs.Ytffnfpnajkgnaaa.PFnExactPushesFor
