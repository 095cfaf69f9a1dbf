-- WRITTEN by xprint.py, a program of this session's. Not trusted: Lean checks it.
-- packed by pack.py
import Derived.Test.YtkflenibdijnaaaPFnAddersx0
import Derived.Test.YtkflenibdijnaaaTFnAddersa
namespace Go.Proofs.Ytkflenibdijnaaa.PFnAdders
open Go.RowKit Go.Proofs.YtkflenibdijnaaaW.PrintWords Go.Proofs.YtkflenibdijnaaaW.PrintLast Go.Proofs.YtkflenibdijnaaaW.PrintMore Go.Proofs.YtkflenibdijnaaaX
attribute [local go_sem] max2_int min2_int max_two min_two max_three min_three max_four min_four   -- for this text's walks alone
set_option maxHeartbeats 8000000
set_option maxRecDepth 100000
set_option linter.unusedVariables false
set_option linter.unusedSimpArgs false

def slices_Index_uint64_uint64.l0 : Nat → List Int → Int → Int → Int → Option (Int)
  | 0, _, _, _, _ => none
  | k + 1, x0, x1, x7, x8 => if x8 < x7 then (if 0 ≤ x8 then (if x8 < (x0.length : Int) then (if x1 = (rd x0 x8) then (some x8) else (slices_Index_uint64_uint64.l0 k x0 x1 x7 (wrap64 (x8 + 1)))) else (none)) else (none)) else (some (-1))
def slices_Index_uint64_uint64.f (k : Nat) (l0 : List Int) (a1 : Int) : Option (Int) := slices_Index_uint64_uint64.l0 k l0 a1 (l0.length : Int) 0
theorem slices_Index_uint64_uint64.mono_l : ∀ k, (∀ y0 y1 y2 y3, LeO (slices_Index_uint64_uint64.l0 k y0 y1 y2 y3) (slices_Index_uint64_uint64.l0 (k + 1) y0 y1 y2 y3))
  | 0 => fun _ _ _ _ r h => by simp [slices_Index_uint64_uint64.l0] at h
  | k + 1 => by
    have ih0 := slices_Index_uint64_uint64.mono_l k
    · intro y0 y1 y2 y3
      unfold slices_Index_uint64_uint64.l0
      repeat' first | (with_reducible first | apply ih0 | exact LeO.refl _ | exact LeO.none _ | refine LeO.ite ?_ ?_ | refine LeO.bind ?_ (fun _ => ?_)) | apply ih0 | exact LeO.none _ | refine LeO.ite ?_ ?_ | refine LeO.bind ?_ (fun _ => ?_)
theorem slices_Index_uint64_uint64.mono : ∀ a0 a1 k, LeO (slices_Index_uint64_uint64.f k a0 a1) (slices_Index_uint64_uint64.f (k + 1) a0 a1) := by
 intro a0 a1 k
 have ih0 := slices_Index_uint64_uint64.mono_l k
 unfold slices_Index_uint64_uint64.f
 repeat' first | (with_reducible first | apply ih0 | exact LeO.refl _ | exact LeO.none _ | refine LeO.ite ?_ ?_ | refine LeO.bind ?_ (fun _ => ?_)) | apply ih0 | exact LeO.none _ | refine LeO.ite ?_ ?_ | refine LeO.bind ?_ (fun _ => ?_)
theorem slices_Index_uint64_uint64.calls (k : Nat) (A0 : Option Addr) (c0 : Nat) (l0 : List Int) (a1 : Int) (r : Int) (w : World) (hr0 : Kd.C (Kd.int .u64) w A0 l0.length l0) (hc0 : l0.length ≤ c0) (h : slices_Index_uint64_uint64.f k l0 a1 = some r) :
    Calls Try.prog 51 #[.slice A0 l0.length c0, .int .u64 a1] w fun e w' => e = .returned (.int .i64 r) ∧ Drawn0 w w' := by
 have HR0 := Aside0.mk hr0
 have HC0 := Aside0.mk hc0
 clear hr0 hc0
 have H : (slices_Index_uint64_uint64.l0 k l0 a1 (l0.length : Int) 0) = some r := h
 clear h
 have H' := Aside0.mk H
 clear H
 go_enter Try.func51, Try.ntmps51
 go_wp2
 go_loopg [8] k (fun kq v8 w' => ∃ (x8_1 : Int), v8 = .int .i64 x8_1 ∧ Aside0 (slices_Index_uint64_uint64.l0 kq l0 a1 (l0.length : Int) x8_1 = some r) ∧ Aside0 (kq ≤ k) ∧ Drawn0 w w')
 case atStart => exact ⟨(0), zi, H', ⟨Nat.le_refl _⟩, zdr⟩
 clear H'
 try clear p2
 obtain ⟨x8_1, rfl, HA, HK1, ⟨m1, rfl⟩⟩ := hrel
 cases gk with
 | zero => exact absurd HA.out (by simp [slices_Index_uint64_uint64.l0])
 | succ k1 => ?_
 have H := HA.out
 clear HA
 simp only [slices_Index_uint64_uint64.l0] at H
 by_cases c3 : x8_1 < (l0.length : Int)
 rotate_left
 ·rw [if_neg c3] at H
  have c3b0 : decide (x8_1 < (l0.length : Int)) = false := decide_eq_false c3
  clear c3
  obtain rfl := Option.some.inj H
  go_wp2
  go_ret
  exact ⟨zi, zdr⟩
 rw [if_pos c3] at H
 have c3b0 : decide (x8_1 < (l0.length : Int)) = true := decide_eq_true c3
 clear c3
 by_cases c4 : 0 ≤ x8_1
 rotate_left
 ·rw [if_neg c4] at H
  exact absurd H (by simp)
 rw [if_pos c4] at H
 have c4b0 : decide (0 ≤ x8_1) = true := decide_eq_true c4
 clear c4
 by_cases c5 : x8_1 < (l0.length : Int)
 rotate_left
 ·rw [if_neg c5] at H
  exact absurd H (by simp)
 rw [if_pos c5] at H
 have c5b0 : decide (x8_1 < (l0.length : Int)) = true := decide_eq_true c5
 clear c5
 by_cases c6 : a1 = (rd l0 x8_1)
 ·rw [if_pos c6] at H
  have c6b0 : (a1 == (rd l0 x8_1)) = true := beq_iff_eq.mpr c6
  have c6b1 : (a1 != (rd l0 x8_1)) = false := bne_eq_false_iff_eq.mpr c6
  clear c6
  obtain rfl := Option.some.inj H
  have p170 : 0 ≤ (x8_1 : Int) := of_decide_eq_true zA
  have q170 : x8_1 < (l0.length : Int) := of_decide_eq_true zA
  obtain ⟨ad170, e170, hx170_0⟩ := Kd.at_int HR0.out x8_1 p170 q170
  cases e170
  replace p170 := eq_true p170
  replace q170 := eq_true q170
  go_wp2
  go_ret
  exact ⟨zi, zdr⟩
 rw [if_neg c6] at H
 have c6b0 : (a1 == (rd l0 x8_1)) = false := beq_eq_false_iff_ne.mpr c6
 have c6b1 : (a1 != (rd l0 x8_1)) = true := bne_iff_ne.mpr c6
 have H' := Aside0.mk H
 clear H
 have p170 : 0 ≤ (x8_1 : Int) := of_decide_eq_true zA
 have q170 : x8_1 < (l0.length : Int) := of_decide_eq_true zA
 obtain ⟨ad170, e170, hx170_0⟩ := Kd.at_int HR0.out x8_1 p170 q170
 cases e170
 replace p170 := eq_true p170
 replace q170 := eq_true q170
 go_wp2
 go_roundg k1
 case measure => have := HK1.out; omega
 case rel => exact ⟨(wrap64 (x8_1 + 1)), zi, H', ⟨by have := HK1.out; omega⟩, zdr⟩
def impl_Node_inner.f (a0_0 : Int) (a0_1 : Int) (a0_2 : Int) : Option (Bool) := if a0_0 = 2 then (some true) else (some (a0_0 == 3))
theorem impl_Node_inner.calls (a0_0 : Int) (a0_1 : Int) (a0_2 : Int) (r : Bool) (w : World) (h : impl_Node_inner.f a0_0 a0_1 a0_2 = some r) :
    Calls Try.prog 55 #[.agg #[.int .i8 a0_0, .int .i16 a0_1, .int .i16 a0_2]] w fun e w' => e = .returned (.bool r) ∧ Below w.heap.size w w' := by
 have hu61 := Try.underlying61
 have HB := Aside0.mk (Below.refl w.heap.size w)
 have H : (if a0_0 = 2 then (some true) else (some (a0_0 == 3))) = some r := h
 clear h
 by_cases c2 : a0_0 = 2
 rotate_left
 ·rw [if_neg c2] at H
  have c2b0 : (a0_0 == 2) = false := beq_eq_false_iff_ne.mpr c2
  have c2b1 : (a0_0 != 2) = true := bne_iff_ne.mpr c2
  obtain rfl := Option.some.inj H
  go_enter Try.func55, Try.ntmps55
  go_wp2_with (first | ((with_reducible refine gate_dst (N := 1) rfl ?_); refine zbx 1 #[.int .i8 a0_0, .int .i16 a0_1, .int .i16 a0_2] 61 ?_; intro gb171 hg w5 hbox hb; have n_ : _ ∧ _ ∧ _ ∧ _ := ⟨zb HB hb, Aside0.mk (hbox), zg HB hg, zg HB hg⟩; clear HB; obtain ⟨HB, BK171, GW171, GE171⟩ := n_; clear hb hbox hg; obtain ⟨z6_0, z6_1, z6_2, y6_0, y6_1, y6_2⟩ := zB3 BK171))
  go_ret
  exact ⟨zv, zbo⟩
 rw [if_pos c2] at H
 have c2b0 : (a0_0 == 2) = true := beq_iff_eq.mpr c2
 have c2b1 : (a0_0 != 2) = false := bne_eq_false_iff_eq.mpr c2
 clear c2
 obtain rfl := Option.some.inj H
 go_enter Try.func55, Try.ntmps55
 go_wp2_with (first | ((with_reducible refine gate_dst (N := 1) rfl ?_); refine zbx 1 #[.int .i8 a0_0, .int .i16 a0_1, .int .i16 a0_2] 61 ?_; intro gb171 hg w3 hbox hb; have n_ : _ ∧ _ ∧ _ ∧ _ := ⟨zb HB hb, Aside0.mk (hbox), zg HB hg, zg HB hg⟩; clear HB; obtain ⟨HB, BK171, GW171, GE171⟩ := n_; clear hb hbox hg; obtain ⟨z4_0, z4_1, z4_2, y4_0, y4_1, y4_2⟩ := zB3 BK171))
 go_ret
 exact ⟨zv, zbo⟩
def impl_Node_renamed.f (a0_0 : Int) (a0_1 : Int) (a0_2 : Int) (l1 : List Int) : Option (Int × Int × Int) := (impl_Node_inner.f a0_0 a0_1 a0_2).bind fun t329 => (if t329 = true then (if 0 ≤ a0_1 then (if a0_1 < (l1.length : Int) then (if 0 ≤ a0_2 then (if a0_2 < (l1.length : Int) then (some (a0_0, rd l1 a0_1, rd l1 a0_2)) else (none)) else (none)) else (none)) else (none)) else (some (a0_0, a0_1, a0_2)))
def impl_Node_renamed.T2 : Bool × List (List Nat × List Nat) := (true, [([], []), ([], []), ([1], [1]), ([0, 2], [0, 2]), ([3], [3]), ([], []), ([], []), ([6], [6]), ([5, 7], [5, 7]), ([8], [8]), ([0, 1, 2, 3, 4, 6, 7], []), ([10, 4, 0, 1, 2, 3, 4, 6, 7], [4, 10]), ([0, 1, 2, 3, 4, 5, 6, 7, 8, 9, 10, 11], []), ([12, 9, 11, 0, 1, 2, 3, 4, 5, 6, 7, 8, 9, 10, 11], [9, 12])])
def impl_Node_renamed.B2 : List Nat := [0, 0, 2, 7, 15, 0, 0, 64, 224, 480, 223, 1247, 4095, 8191]
theorem impl_Node_renamed.tab2 : rtab .any (opsOf Try.f52 2) = impl_Node_renamed.T2 := by kernel_rfl
theorem impl_Node_renamed.bits2 : waitsOk impl_Node_renamed.T2.2 impl_Node_renamed.B2 = true := by kernel_rfl
theorem impl_Node_renamed.calls (a0_0 : Int) (a0_1 : Int) (a0_2 : Int) (A1 : Option Addr) (c1 : Nat) (l1 : List Int) (r1 : Int) (r2 : Int) (r3 : Int) (w : World) (hr1 : Kd.C (Kd.int .i16) w A1 l1.length l1) (hc1 : l1.length ≤ c1) (h : impl_Node_renamed.f a0_0 a0_1 a0_2 l1 = some (r1, r2, r3)) :
    Calls Try.prog 52 #[.agg #[.int .i8 a0_0, .int .i16 a0_1, .int .i16 a0_2], .slice A1 l1.length c1] w fun e w' => e = .returned (.agg #[.int .i8 r1, .int .i16 r2, .int .i16 r3]) ∧ Below w.heap.size w w' := by
 have hu61 := Try.underlying61
 have HR1 := Aside0.mk hr1
 have HC1 := Aside0.mk hc1
 clear hr1 hc1
 have HB := Aside0.mk (Below.refl w.heap.size w)
 have H : ((impl_Node_inner.f a0_0 a0_1 a0_2).bind fun t329 => (if t329 = true then (if 0 ≤ a0_1 then (if a0_1 < (l1.length : Int) then (if 0 ≤ a0_2 then (if a0_2 < (l1.length : Int) then (some (a0_0, rd l1 a0_1, rd l1 a0_2)) else (none)) else (none)) else (none)) else (none)) else (some (a0_0, a0_1, a0_2)))) = some (r1, r2, r3) := h
 clear h
 replace H := zob H
 obtain ⟨t329, A30, H⟩ := H
 replace H : (if t329 = true then (if 0 ≤ a0_1 then (if a0_1 < (l1.length : Int) then (if 0 ≤ a0_2 then (if a0_2 < (l1.length : Int) then (some (a0_0, rd l1 a0_1, rd l1 a0_2)) else (none)) else (none)) else (none)) else (none)) else (some (a0_0, a0_1, a0_2))) = some (r1, r2, r3) := H
 have A3 := Aside0.mk A30
 clear A30
 by_cases c4 : t329 = true
 rotate_left
 ·replace c4 := Bool.eq_false_iff.mpr c4
  subst c4
  have H1 : (some (a0_0, a0_1, a0_2)) = some (r1, r2, r3) := by rw [if_neg (show ¬ (false = true) by decide)] at H; exact H
  clear H
  have H := H1
  clear H1
  simp only [Option.some.injEq, Prod.mk.injEq] at H
  obtain ⟨rfl, rfl, rfl⟩ := H
  go_enter Try.func52, Try.ntmps52
  go_wp2_with (first | ((with_reducible refine gate_dst (N := 2) rfl ?_); refine zbx 2 #[.int .i8 a0_0, .int .i16 a0_1, .int .i16 a0_2] 61 ?_; intro gb327 hg w16 hbox hb; have n_ : _ ∧ _ ∧ _ ∧ _ := ⟨zb HB hb, Aside0.mk (hbox), zg HB hg, zg HB hg⟩; clear HB; obtain ⟨HB, BK327, GW327, GE327⟩ := n_; clear hb hbox hg) | ((with_reducible refine gate_dst (N := 4) rfl ?_); refine zbx 4 #[.int .i8 0, .int .i16 0, .int .i16 0] 61 ?_; intro gb328 hg w17 hbox hb; have n_ : _ ∧ _ ∧ _ ∧ _ ∧ _ ∧ _ ∧ _ := ⟨zk BK327 hb, zbs hb, Aside0.mk (hbox), zg HB hg, zg HB hg, zn1 BK327 hg, zn2 BK327 hg⟩; clear BK327 HB; obtain ⟨BK327, HB, BK328, GW328, GE328, NB327_328, NB328_327⟩ := n_; clear hb hbox hg; have hnb18 := NB327_328.out; have hnc18 := NB328_327.out; obtain ⟨z19_0, z19_1, z19_2, y19_0, y19_1, y19_2⟩ := zB3 BK327) | ((with_reducible refine gate_callee (f := 55) rfl ?_); refine goesL_ (some 6) rfl rfl Try.func55 (by kernel_rfl) rfl #[.agg #[.int .i8 a0_0, .int .i16 a0_1, .int .i16 a0_2]] rfl zm ?_; (with_reducible refine (impl_Node_inner.calls a0_0 a0_1 a0_2 false _ A3.out).mono ?_); rintro e w20 ⟨rfl, hb⟩; refine ⟨_, rfl, ?_⟩; have n_ : _ ∧ _ ∧ _ := ⟨zk BK327 hb, zk BK328 hb, zbs hb⟩; clear BK327 BK328 HB; obtain ⟨BK327, BK328, HB⟩ := n_; (try clear hb); (try clear hb2); (try clear hk); (try clear hi); obtain ⟨z21_0, z21_1, z21_2, y21_0, y21_1, y21_2⟩ := zB3 BK327; obtain ⟨z22_0, z22_1, z22_2, y22_0, y22_1, y22_2⟩ := zB3 BK328))
  refine bodyPost_ret (results_cell_row rfl _ _ gb328 61 #[.int .i8 a0_0, .int .i16 a0_1, .int .i16 a0_2] (0, 0) _ rfl (zp BK328) Try.underlying61 rfl (by kernel_rfl)) rfl ?_
  exact ⟨zv, zbo⟩
 subst c4
 have H1 : (if 0 ≤ a0_1 then (if a0_1 < (l1.length : Int) then (if 0 ≤ a0_2 then (if a0_2 < (l1.length : Int) then (some (a0_0, rd l1 a0_1, rd l1 a0_2)) else (none)) else (none)) else (none)) else (none)) = some (r1, r2, r3) := by rw [if_pos rfl] at H; exact H
 clear H
 have H := H1
 clear H1
 by_cases c5 : 0 ≤ a0_1
 rotate_left
 ·rw [if_neg c5] at H
  exact absurd H (by simp)
 rw [if_pos c5] at H
 have c5b0 : decide (0 ≤ a0_1) = true := decide_eq_true c5
 clear c5
 by_cases c6 : a0_1 < (l1.length : Int)
 rotate_left
 ·rw [if_neg c6] at H
  exact absurd H (by simp)
 rw [if_pos c6] at H
 have c6b0 : decide (a0_1 < (l1.length : Int)) = true := decide_eq_true c6
 clear c6
 by_cases c7 : 0 ≤ a0_2
 rotate_left
 ·rw [if_neg c7] at H
  exact absurd H (by simp)
 rw [if_pos c7] at H
 have c7b0 : decide (0 ≤ a0_2) = true := decide_eq_true c7
 clear c7
 by_cases c8 : a0_2 < (l1.length : Int)
 rotate_left
 ·rw [if_neg c8] at H
  exact absurd H (by simp)
 rw [if_pos c8] at H
 have c8b0 : decide (a0_2 < (l1.length : Int)) = true := decide_eq_true c8
 clear c8
 simp only [Option.some.injEq, Prod.mk.injEq] at H
 obtain ⟨rfl, rfl, rfl⟩ := H
 go_enter Try.func52, Try.ntmps52
 go_wp2_with (first | ((with_reducible refine gate_dst (N := 2) rfl ?_); refine zbx 2 #[.int .i8 a0_0, .int .i16 a0_1, .int .i16 a0_2] 61 ?_; intro gb327 hg w9 hbox hb; have n_ : _ ∧ _ ∧ _ ∧ _ := ⟨zb HB hb, Aside0.mk (hbox), zg HB hg, zg HB hg⟩; clear HB; obtain ⟨HB, BK327, GW327, GE327⟩ := n_; clear hb hbox hg) | ((with_reducible refine gate_dst (N := 4) rfl ?_); refine zbx 4 #[.int .i8 0, .int .i16 0, .int .i16 0] 61 ?_; intro gb328 hg w10 hbox hb; have n_ : _ ∧ _ ∧ _ ∧ _ ∧ _ ∧ _ ∧ _ := ⟨zk BK327 hb, zbs hb, Aside0.mk (hbox), zg HB hg, zg HB hg, zn1 BK327 hg, zn2 BK327 hg⟩; clear BK327 HB; obtain ⟨BK327, HB, BK328, GW328, GE328, NB327_328, NB328_327⟩ := n_; clear hb hbox hg; have hnb11 := NB327_328.out; have hnc11 := NB328_327.out; obtain ⟨z12_0, z12_1, z12_2, y12_0, y12_1, y12_2⟩ := zB3 BK327) | ((with_reducible refine gate_callee (f := 55) rfl ?_); refine goesL_ (some 6) rfl rfl Try.func55 (by kernel_rfl) rfl #[.agg #[.int .i8 a0_0, .int .i16 a0_1, .int .i16 a0_2]] rfl zm ?_; (with_reducible refine (impl_Node_inner.calls a0_0 a0_1 a0_2 true _ A3.out).mono ?_); rintro e w13 ⟨rfl, hb⟩; refine ⟨_, rfl, ?_⟩; have n_ : _ ∧ _ ∧ _ := ⟨zk BK327 hb, zk BK328 hb, zbs hb⟩; clear BK327 BK328 HB; obtain ⟨BK327, BK328, HB⟩ := n_; (try clear hb); (try clear hb2); (try clear hk); (try clear hi); obtain ⟨z14_0, z14_1, z14_2, y14_0, y14_1, y14_2⟩ := zB3 BK327; have p330 : 0 ≤ (a0_1 : Int) := of_decide_eq_true zA; have q330 : a0_1 < (l1.length : Int) := of_decide_eq_true zA; obtain ⟨ad330, e330, hx330_0⟩ := Kd.at_int HR1.out a0_1 p330 q330; cases e330; have hxw_ := hx330_0; replace hx330_0 := zc HB hx330_0; replace p330 := eq_true p330; replace q330 := eq_true q330; have p331 : 0 ≤ (a0_2 : Int) := of_decide_eq_true zA; have q331 : a0_2 < (l1.length : Int) := of_decide_eq_true zA; obtain ⟨ad331, e331, hx331_0⟩ := Kd.at_int HR1.out a0_2 p331 q331; obtain rfl : ad330 = ad331 := (by injection e331); have hxv_ := hx331_0; replace hx331_0 := zc HB hx331_0; replace p331 := eq_true p331; replace q331 := eq_true q331; obtain ⟨z15_0, z15_1, z15_2, y15_0, y15_1, y15_2⟩ := zB3 BK328))
 have NF_ : gb327 ≠ (ad330.add (a0_1 : Int).toNat).block := by have h1 := World.block_lt_of_cell? w _ hxw_; have h2 := GE327.out; omega
 have NG_ : gb327 ≠ (ad330.add (a0_2 : Int).toNat).block := by have h1 := World.block_lt_of_cell? w _ hxv_; have h2 := GE327.out; omega
 clear hxw_ hxv_
 have B7 : Aside0 (w13.drew.heap[gb327]? = some (.cells #[.int .i8 a0_0, .int .i16 a0_1, .int .i16 a0_2] 61 (0, 0))) := ⟨blk_drew BK327.out⟩
 have B8 : Aside0 (w13.drew.heap[gb328]? = some (.cells #[.int .i8 0, .int .i16 0, .int .i16 0] 61 (0, 0))) := ⟨blk_drew BK328.out⟩
 have HB7 : Aside0 (Below w.heap.size w w13.drew) := ⟨below_drew1 HB.out⟩
 refine start_ (n := 14) (S := fun w' => w'.cell? (ad330.add (a0_1 : Int).toNat) = some (.int .i16 (rd l1 a0_1)) ∧ w'.cell? (ad330.add (a0_2 : Int).toNat) = some (.int .i16 (rd l1 a0_2))) (ds := []) (zq 14 0) (by kernel_rfl) rfl rfl ⟨hx330_0, hx331_0⟩ (fun hHeld => ?_); refine with_tabW impl_Node_renamed.tab2 impl_Node_renamed.bits2 (fun HT_ HW_ => ?_)
 clear BK327 BK328 HB hx330_0 hx331_0 z14_0 y14_0 z14_1 y14_1 z14_2 y14_2 z15_0 y15_0 z15_1 y15_1 z15_2 y15_2
 generalize w13.drew = w14 at B7 B8 HB7 hHeld ⊢
 have BK327 := B7
 have BK328 := B8
 have HB := HB7
 clear B7 B8 HB7
 have z14_0 : w14.cell? ⟨gb327, 0, none⟩ = some (.int .i8 a0_0) := (blk_cell BK327.out 0).trans rfl
 have z15_0 : w14.cell? ⟨gb328, 0, none⟩ = some (.int .i8 0) := (blk_cell BK328.out 0).trans rfl
 have z14_1 : w14.cell? ⟨gb327, 1, none⟩ = some (.int .i16 a0_1) := (blk_cell BK327.out 1).trans rfl
 have z15_1 : w14.cell? ⟨gb328, 1, none⟩ = some (.int .i16 0) := (blk_cell BK328.out 1).trans rfl
 have z14_2 : w14.cell? ⟨gb327, 2, none⟩ = some (.int .i16 a0_2) := (blk_cell BK327.out 2).trans rfl
 have z15_2 : w14.cell? ⟨gb328, 2, none⟩ = some (.int .i16 0) := (blk_cell BK328.out 2).trans rfl
 have y14_0 := blk_frozen BK327.out 0
 have y15_0 := blk_frozen BK328.out 0
 have y14_1 := blk_frozen BK327.out 1
 have y15_1 := blk_frozen BK328.out 1
 have y14_2 := blk_frozen BK327.out 2
 have y15_2 := blk_frozen BK328.out 2
 refine zpu 0 (some 7) (zq 14 1) HT_ ?_
 refine zpu 1 (some 8) (zq 14 3) HT_ ?_
 refine zpu 5 (some 12) (zq 14 35) HT_ ?_
 refine zpu 6 (some 13) (zq 14 99) HT_ ?_
 refine two_ (i := 2) (j := 7) (Ni := some 9) (Nj := some 14) (zq 14 103) (zq 14 227) rfl rfl rfl rfl (two_of HT_.out (by kernel_rfl)) (by simp) (by simp) (fun K hK => ?_) (fun K hK => ?_)
 rotate_left
 ·refine value_ (w1 := ?_) (v := ?_) (by rfl) rfl ?_ ?_
  rotate_left 2
  ·go_simp
   constructor
   rotate_left
   ·rfl
   rfl
  refine hK.out _ _ hHeld (fun hHeld => ?_)
  clear hK K
  refine norm_ (a' := ?_) ?_ ?_
  rotate_left
  ·show Act.put _ (some 14) _ = _
   exact zap
  refine zpu 8 (some 15) (zq 14 483) HT_ ?_
  refine ztk 9 (some 16) (zq 14 995) HT_ HW_ rfl hHeld (Or.inl ⟨by rfl, by (rintro w' ⟨s0, s1⟩; go_simp; with_reducible rfl)⟩) ?_
  refine one_ (i := 2) (N := some 9) (zq 14 999) rfl rfl (one_of HT_.out (by kernel_rfl)) (by simp) (fun K hK => ?_)
  refine value_ (w1 := ?_) (v := ?_) (by rfl) rfl ?_ ?_
  rotate_left 2
  ·go_simp
   constructor
   rotate_left
   ·rfl
   rfl
  refine hK.out _ _ hHeld (fun hHeld => ?_)
  clear hK K
  refine norm_ (a' := ?_) ?_ ?_
  rotate_left
  ·show Act.put _ (some 9) _ = _
   exact zap
  refine zpu 3 (some 10) (zq 14 1007) HT_ ?_
  refine ztk 4 (some 11) (zq 14 1023) HT_ HW_ rfl hHeld (Or.inl ⟨by rfl, by (rintro w' ⟨s0, s1⟩; go_simp; with_reducible rfl)⟩) ?_
  refine zpu 10 (some 17) (zq 14 2047) HT_ ?_
  refine one_ (i := 11) (N := none) (zq 14 4095) rfl rfl (one_of HT_.out (by kernel_rfl)) (by simp) (fun K hK => ?_)
  refine skip_ (w1 := ?_) (by rfl) rfl ?_ ?_
  rotate_left
  ·go_simp
   rfl
  refine hK.out _ _ ⟨(World.cell?_setCell_far _ _ _ _ NF_).trans hHeld.1, (World.cell?_setCell_far _ _ _ _ NG_).trans hHeld.2⟩ (fun hHeld => ?_)
  clear hK K
  refine zpu 12 (some 18) (zq 14 8191) HT_ ?_
  refine one_ (i := 13) (N := none) (zq 14 16383) rfl rfl (one_of HT_.out (by kernel_rfl)) (by simp) (fun K hK => ?_)
  refine skip_ (w1 := ?_) (by rfl) rfl ?_ ?_
  rotate_left
  ·go_simp
   rfl
  refine hK.out _ _ ⟨(World.cell?_setCell_far _ _ _ _ NF_).trans hHeld.1, (World.cell?_setCell_far _ _ _ _ NG_).trans hHeld.2⟩ (fun hHeld => ?_)
  clear hK K
  refine done_ (done_of HT_.out (by kernel_rfl)) ?_
  clear hHeld HT_ HW_
  try go_wp2_with (first | fail)
  refine bodyPost_ret (results_cell_row rfl _ _ gb328 61 #[.int .i8 a0_0, .int .i16 (rd l1 a0_1), .int .i16 (rd l1 a0_2)] (0, 0) _ rfl (by (with_reducible repeat (first | refine blk_drewN ?_ _ | refine blk_drew ?_ | refine blk_alloc ?_ _)); refine blk_put (cs := #[.int .i8 a0_0, .int .i16 (rd l1 a0_1), .int .i16 0]) ?_ 2 _ rfl; (with_reducible repeat (first | refine blk_drewN ?_ _ | refine blk_drew ?_ | refine blk_alloc ?_ _)); refine blk_put (cs := #[.int .i8 a0_0, .int .i16 0, .int .i16 0]) ?_ 1 _ rfl; (with_reducible repeat (first | refine blk_drewN ?_ _ | refine blk_drew ?_ | refine blk_alloc ?_ _)); refine blk_put (cs := #[.int .i8 0, .int .i16 0, .int .i16 0]) ?_ 0 _ rfl; (with_reducible repeat (first | refine blk_drewN ?_ _ | refine blk_drew ?_ | refine blk_alloc ?_ _)); refine blk_far ?_ NB328_327.out _; (with_reducible repeat (first | refine blk_drewN ?_ _ | refine blk_drew ?_ | refine blk_alloc ?_ _)); refine blk_far ?_ NB328_327.out _; (with_reducible repeat (first | refine blk_drewN ?_ _ | refine blk_drew ?_ | refine blk_alloc ?_ _)); exact BK328.out) Try.underlying61 rfl (by kernel_rfl)) rfl ?_
  exact ⟨zv, zbo⟩
 refine value_ (w1 := ?_) (v := ?_) (by rfl) rfl ?_ ?_
 rotate_left 2
 ·go_simp
  constructor
  rotate_left
  ·rfl
  rfl
 refine hK.out _ _ hHeld (fun hHeld => ?_)
 clear hK K
 refine norm_ (a' := ?_) ?_ ?_
 rotate_left
 ·show Act.put _ (some 9) _ = _
  exact zap
 refine zpu 3 (some 10) (zq 14 111) HT_ ?_
 refine ztk 4 (some 11) (zq 14 127) HT_ HW_ rfl hHeld (Or.inl ⟨by rfl, by (rintro w' ⟨s0, s1⟩; go_simp; with_reducible rfl)⟩) ?_
 refine one_ (i := 7) (N := some 14) (zq 14 255) rfl rfl (one_of HT_.out (by kernel_rfl)) (by simp) (fun K hK => ?_)
 refine value_ (w1 := ?_) (v := ?_) (by rfl) rfl ?_ ?_
 rotate_left 2
 ·go_simp
  constructor
  rotate_left
  ·rfl
  rfl
 refine hK.out _ _ hHeld (fun hHeld => ?_)
 clear hK K
 refine norm_ (a' := ?_) ?_ ?_
 rotate_left
 ·show Act.put _ (some 14) _ = _
  exact zap
 refine zpu 8 (some 15) (zq 14 511) HT_ ?_
 refine ztk 9 (some 16) (zq 14 1023) HT_ HW_ rfl hHeld (Or.inl ⟨by rfl, by (rintro w' ⟨s0, s1⟩; go_simp; with_reducible rfl)⟩) ?_
 refine zpu 10 (some 17) (zq 14 2047) HT_ ?_
 refine one_ (i := 11) (N := none) (zq 14 4095) rfl rfl (one_of HT_.out (by kernel_rfl)) (by simp) (fun K hK => ?_)
 refine skip_ (w1 := ?_) (by rfl) rfl ?_ ?_
 rotate_left
 ·go_simp
  rfl
 refine hK.out _ _ ⟨(World.cell?_setCell_far _ _ _ _ NF_).trans hHeld.1, (World.cell?_setCell_far _ _ _ _ NG_).trans hHeld.2⟩ (fun hHeld => ?_)
 clear hK K
 refine zpu 12 (some 18) (zq 14 8191) HT_ ?_
 refine one_ (i := 13) (N := none) (zq 14 16383) rfl rfl (one_of HT_.out (by kernel_rfl)) (by simp) (fun K hK => ?_)
 refine skip_ (w1 := ?_) (by rfl) rfl ?_ ?_
 rotate_left
 ·go_simp
  rfl
 refine hK.out _ _ ⟨(World.cell?_setCell_far _ _ _ _ NF_).trans hHeld.1, (World.cell?_setCell_far _ _ _ _ NG_).trans hHeld.2⟩ (fun hHeld => ?_)
 clear hK K
 refine done_ (done_of HT_.out (by kernel_rfl)) ?_
 clear hHeld HT_ HW_
 try go_wp2_with (first | fail)
 refine bodyPost_ret (results_cell_row rfl _ _ gb328 61 #[.int .i8 a0_0, .int .i16 (rd l1 a0_1), .int .i16 (rd l1 a0_2)] (0, 0) _ rfl (by (with_reducible repeat (first | refine blk_drewN ?_ _ | refine blk_drew ?_ | refine blk_alloc ?_ _)); refine blk_put (cs := #[.int .i8 a0_0, .int .i16 (rd l1 a0_1), .int .i16 0]) ?_ 2 _ rfl; (with_reducible repeat (first | refine blk_drewN ?_ _ | refine blk_drew ?_ | refine blk_alloc ?_ _)); refine blk_put (cs := #[.int .i8 a0_0, .int .i16 0, .int .i16 0]) ?_ 1 _ rfl; (with_reducible repeat (first | refine blk_drewN ?_ _ | refine blk_drew ?_ | refine blk_alloc ?_ _)); refine blk_put (cs := #[.int .i8 0, .int .i16 0, .int .i16 0]) ?_ 0 _ rfl; (with_reducible repeat (first | refine blk_drewN ?_ _ | refine blk_drew ?_ | refine blk_alloc ?_ _)); refine blk_far ?_ NB328_327.out _; (with_reducible repeat (first | refine blk_drewN ?_ _ | refine blk_drew ?_ | refine blk_alloc ?_ _)); refine blk_far ?_ NB328_327.out _; (with_reducible repeat (first | refine blk_drewN ?_ _ | refine blk_drew ?_ | refine blk_alloc ?_ _)); exact BK328.out) Try.underlying61 rfl (by kernel_rfl)) rfl ?_
 exact ⟨zv, zbo⟩
def impl_renamedAll.l0 : Nat → List Int → List Int → List Int → Int → Int → Option (List Int)
  | 0, _, _, _, _, _ => none
  | k + 1, x1, x5, x9, x10, x11 => if x11 < x10 then (if 0 ≤ x11 then (if x11 < (x9.length : Int) then (if 0 ≤ (rd x9 x11) then (if (rd x9 x11) < (x1.length : Int) then (if x5.length < 70368744177664 then (impl_renamedAll.l0 k x1 (x5 ++ [rd x1 (rd x9 x11)]) x9 x10 (wrap64 (x11 + 1))) else (none)) else (none)) else (none)) else (none)) else (none)) else (some x5)
def impl_renamedAll.f (k : Nat) (l0 : List Int) (l1 : List Int) : Option (List Int) := impl_renamedAll.l0 k l1 (([] : List Int)) l0 (l0.length : Int) 0
theorem impl_renamedAll.mono_l : ∀ k, (∀ y0 y1 y2 y3 y4, LeO (impl_renamedAll.l0 k y0 y1 y2 y3 y4) (impl_renamedAll.l0 (k + 1) y0 y1 y2 y3 y4))
  | 0 => fun _ _ _ _ _ r h => by simp [impl_renamedAll.l0] at h
  | k + 1 => by
    have ih0 := impl_renamedAll.mono_l k
    · intro y0 y1 y2 y3 y4
      unfold impl_renamedAll.l0
      repeat' first | (with_reducible first | apply ih0 | exact LeO.refl _ | exact LeO.none _ | refine LeO.ite ?_ ?_ | refine LeO.bind ?_ (fun _ => ?_)) | apply ih0 | exact LeO.none _ | refine LeO.ite ?_ ?_ | refine LeO.bind ?_ (fun _ => ?_)
theorem impl_renamedAll.mono : ∀ a0 a1 k, LeO (impl_renamedAll.f k a0 a1) (impl_renamedAll.f (k + 1) a0 a1) := by
 intro a0 a1 k
 have ih0 := impl_renamedAll.mono_l k
 unfold impl_renamedAll.f
 repeat' first | (with_reducible first | apply ih0 | exact LeO.refl _ | exact LeO.none _ | refine LeO.ite ?_ ?_ | refine LeO.bind ?_ (fun _ => ?_)) | apply ih0 | exact LeO.none _ | refine LeO.ite ?_ ?_ | refine LeO.bind ?_ (fun _ => ?_)
theorem impl_renamedAll.calls (k : Nat) (A0 : Option Addr) (c0 : Nat) (l0 : List Int) (A1 : Option Addr) (c1 : Nat) (l1 : List Int) (r : List Int) (w : World) (hr0 : Kd.C (Kd.int .i16) w A0 l0.length l0) (hc0 : l0.length ≤ c0) (hr1 : Kd.C (Kd.int .i16) w A1 l1.length l1) (hc1 : l1.length ≤ c1) (h : impl_renamedAll.f k l0 l1 = some r) :
    Calls Try.prog 53 #[.slice A0 l0.length c0, .slice A1 l1.length c1] w fun e w' => ∃ v0_ : Value, e = .returned (v0_) ∧ Kd.R (Kd.int .i16) 54 w' w.heap.size (fun _ => True) v0_ r ∧ Below w.heap.size w w' := by
 have HR0 := Aside0.mk hr0
 have HC0 := Aside0.mk hc0
 clear hr0 hc0
 have HR1 := Aside0.mk hr1
 have HC1 := Aside0.mk hc1
 clear hr1 hc1
 have HB := Aside0.mk (Below.refl w.heap.size w)
 have H : (impl_renamedAll.l0 k l1 (([] : List Int)) l0 (l0.length : Int) 0) = some r := h
 clear h
 obtain ⟨y172, hy172⟩ : ∃ y_ : List Int, y_ = (([] : List Int)) := ⟨_, rfl⟩
 replace H : (impl_renamedAll.l0 k l1 y172 l0 (l0.length : Int) 0) = some r := by first | (rw [hy172]; with_reducible exact H) | (have H2_ := (Option.bind_some _ _).symm.trans H; rw [hy172]; with_reducible exact H2_) | (have H2_ := (Option.bind_some _ _).symm.trans H; with_reducible exact H2_) | with_reducible exact H | (rw [hy172]; exact H) | exact H
 have Ny172 := Aside0.mk hy172
 clear hy172
 have H' := Aside0.mk H
 clear H
 go_enter Try.func53, Try.ntmps53
 go_wp2_with (first | ((with_reducible refine gate_dst (N := 8) rfl ?_); refine Kd.R_lit (Kd.int .i16) _ 54 ?hg (N := 8) ?hd (xs := ([] : List Int)) (inner := []) (ok := fun _ => True) (okp := fun _ => True) ?hr ?hp (fun _ hk => hk) trivial (Below.refl _ _) (Nat.le_refl _) (by simp) ?_; (case hd => rfl); (case hg => rfl); (case hr => exact zgs); (case hp => exact (Reps.none _ _)); intro v173 w3 ho4 hb hg_ hnew_; clear hg_ hnew_; (first | rw [← Ny172.out] at ho4 | (simp only [Int.reduceToNat] at ho4; rw [← Ny172.out] at ho4)); have n_ : _ ∧ _ := ⟨Aside0.mk (Kd.R_lower ho4 (zz HB)), zb HB hb⟩; clear HB; obtain ⟨HO174, HB⟩ := n_; clear hb ho4))
 go_loopg [5, 11] k (fun kq v5 v11 w' => ∃ (x5_1 : List Int) (x11_1 : Int), v11 = .int .i64 x11_1 ∧ Aside0 (impl_renamedAll.l0 kq l1 x5_1 l0 (l0.length : Int) x11_1 = some r) ∧ Aside0 (kq ≤ k) ∧ Aside0 (Kd.R (Kd.int .i16) 54 w' w.heap.size (fun _ => True) v5 x5_1) ∧ Aside0 (Below w.heap.size w w'))
 case atStart => exact ⟨(y172), (0), zi, H', ⟨Nat.le_refl _⟩, ze HO174, zl HB⟩
 clear H'
 try clear c1
 try clear p2
 obtain ⟨x5_1, x11_1, rfl, HA, HK1, HO_5, HB⟩ := hrel
 cases gk with
 | zero => exact absurd HA.out (by simp [impl_renamedAll.l0])
 | succ k1 => ?_
 have H := HA.out
 clear HA
 simp only [impl_renamedAll.l0] at H
 by_cases c5 : x11_1 < (l0.length : Int)
 rotate_left
 ·rw [if_neg c5] at H
  have c5b0 : decide (x11_1 < (l0.length : Int)) = false := decide_eq_false c5
  clear c5
  obtain rfl := Option.some.inj H
  go_wp2
  go_ret
  exact ⟨_, zv, by (with_reducible repeat (first | apply Kd.R_alloc | apply Kd.R_drewN | apply Kd.R_drew)); exact HO_5.out, zbo⟩
 rw [if_pos c5] at H
 have c5b0 : decide (x11_1 < (l0.length : Int)) = true := decide_eq_true c5
 clear c5
 by_cases c6 : 0 ≤ x11_1
 rotate_left
 ·rw [if_neg c6] at H
  exact absurd H (by simp)
 rw [if_pos c6] at H
 have c6b0 : decide (0 ≤ x11_1) = true := decide_eq_true c6
 clear c6
 by_cases c7 : x11_1 < (l0.length : Int)
 rotate_left
 ·rw [if_neg c7] at H
  exact absurd H (by simp)
 rw [if_pos c7] at H
 have c7b0 : decide (x11_1 < (l0.length : Int)) = true := decide_eq_true c7
 clear c7
 by_cases c8 : 0 ≤ (rd l0 x11_1)
 rotate_left
 ·rw [if_neg c8] at H
  exact absurd H (by simp)
 rw [if_pos c8] at H
 have c8b0 : decide (0 ≤ (rd l0 x11_1)) = true := decide_eq_true c8
 clear c8
 by_cases c9 : (rd l0 x11_1) < (l1.length : Int)
 rotate_left
 ·rw [if_neg c9] at H
  exact absurd H (by simp)
 rw [if_pos c9] at H
 have c9b0 : decide ((rd l0 x11_1) < (l1.length : Int)) = true := decide_eq_true c9
 clear c9
 by_cases c10 : x5_1.length < 70368744177664
 rotate_left
 ·rw [if_neg c10] at H
  exact absurd H (by simp)
 rw [if_pos c10] at H
 have LMc10 := Aside0.mk c10
 clear c10
 obtain ⟨y177, hy177⟩ : ∃ y_ : List Int, y_ = (x5_1 ++ [rd l1 (rd l0 x11_1)]) := ⟨_, rfl⟩
 replace H : (impl_renamedAll.l0 k1 l1 y177 l0 (l0.length : Int) (wrap64 (x11_1 + 1))) = some r := by first | (rw [hy177]; with_reducible exact H) | (have H2_ := (Option.bind_some _ _).symm.trans H; rw [hy177]; with_reducible exact H2_) | (have H2_ := (Option.bind_some _ _).symm.trans H; with_reducible exact H2_) | with_reducible exact H | (rw [hy177]; exact H) | exact H
 have Ny177 := Aside0.mk hy177
 clear hy177
 have H' := Aside0.mk H
 clear H
 have p175 : 0 ≤ (x11_1 : Int) := of_decide_eq_true zA
 have q175 : x11_1 < (l0.length : Int) := of_decide_eq_true zA
 obtain ⟨ad175, e175, hx175_0⟩ := Kd.at_int HR0.out x11_1 p175 q175
 cases e175
 replace hx175_0 := zc HB hx175_0
 replace p175 := eq_true p175
 replace q175 := eq_true q175
 have p176 : 0 ≤ ((rd l0 x11_1) : Int) := of_decide_eq_true zA
 have q176 : (rd l0 x11_1) < (l1.length : Int) := of_decide_eq_true zA
 obtain ⟨ad176, e176, hx176_0⟩ := Kd.at_int HR1.out (rd l0 x11_1) p176 q176
 cases e176
 replace hx176_0 := zc HB hx176_0
 replace p176 := eq_true p176
 replace q176 := eq_true q176
 go_wp2_with (first | ((with_reducible refine gate_builtin (b := .append) (xs := #[.tmp 15, .tmp 20]) rfl ?_); at_builtin; refine Kd.R_append (Kd.int .i16) (w0 := w) w.heap.size rfl (.tmp 15) (.tmp 20) 27 54 (.int .i16 0) 2 rfl Try.underlying27 info54 rfl (by decide) (by omega) u5 x5_1 (rd l1 (rd l0 x11_1)) [.int .i16 (rd l1 (rd l0 x11_1))] (fun _ => True) (fun _ => False) rfl rfl ?aP (fun _ hk => hk.elim) ?aF ?aO ?aB ?aS ?aL ?_; (case aP => exact rfl); (case aB => exact (zl HB).out); (case aF => exact (fun _ _ => trivial)); (case aO => exact (ze HO_5).out); (case aS => exact (zz HB)); (case aL => have := LMc10.out; omega); intro v178 w11 ho hb hg hat; rw [← Ny177.out] at ho; have n_ : _ ∧ _ := ⟨Aside0.mk (hb), Aside0.mk (ho)⟩; clear HB HO_5; obtain ⟨HB, HO179⟩ := n_; clear ho hb hg hat))
 go_roundg k1
 case measure => have := HK1.out; omega
 case rel => exact ⟨(y177), (wrap64 (x11_1 + 1)), zi, H', ⟨by have := HK1.out; omega⟩, ze HO179, zl HB⟩
end Go.Proofs.Ytkflenibdijnaaa.PFnAdders
