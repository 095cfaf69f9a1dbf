-- WRITTEN by xprint.py, a program of this session's. Not trusted: Lean checks it.
-- packed by pack.py
import Derived.Test.YtkflenibdijnaaaPFnAddersx0
import Derived.Test.YtkflenibdijnaaaPFnAddersx2
import Derived.Test.YtkflenibdijnaaaPFnAddersx3
import Derived.Test.YtkflenibdijnaaaPFnAddersx8
import Derived.Test.YtkflenibdijnaaaPFnAddersx12
import Derived.Test.YtkflenibdijnaaaPFnAddersx13
import Derived.Test.YtkflenibdijnaaaTFnAddersa
namespace Go.Proofs.Ytkflenibdijnaaa.PFnAdders
open Go.RowKit Go.Proofs.YtkflenibdijnaaaW.PrintWords Go.Proofs.YtkflenibdijnaaaW.PrintLast Go.Proofs.YtkflenibdijnaaaW.PrintMore Go.Proofs.YtkflenibdijnaaaX
attribute [local go_sem] max2_int min2_int max_two min_two max_three min_three max_four min_four   -- for this text's walks alone
set_option maxHeartbeats 8000000
set_option maxRecDepth 100000
set_option linter.unusedVariables false
set_option linter.unusedSimpArgs false

def impl_EvalNetwork.l0 : Nat → Int → Int → List Int → Int → Int → Option (Int × Int)
  | 0, _, _, _, _, _ => none
  | k + 1, x1, x6, x22, x23, x24 => if x24 < x23 then (if 0 ≤ x24 then (if x24 < (x22.length : Int) then ((impl_bit_uint64.f (rd x22 x24) x1).bind fun t448 => (if t448 = true then (impl_EvalNetwork.l0 k x1 (Go.bits .or .i64 x6 (shl .i64 1 x24)) x22 x23 (wrap64 (x24 + 1))) else (impl_EvalNetwork.l0 k x1 x6 x22 x23 (wrap64 (x24 + 1))))) else (none)) else (none)) else (some (x6, 0))
def impl_EvalNetwork.f (k : Nat) (a0_0 : Int) (l0_1 : List (S61)) (l0_2 : List Int) (a1 : Int) : Option (Int × Int) := (impl_ValidNetwork.f k a0_0 l0_1 l0_2).bind fun t441 => (if t441 = true then ((impl_rows.f (wrap64 (a0_0))).bind fun t442 => ((impl_in.f a1 0 (wrap64 (t442 - 1))).bind fun t443 => (if t443 = true then ((impl_Network_outputTables.f k [(⟨a0_0, l0_1, l0_2⟩ : S29)]).bind fun t444 => (impl_EvalNetwork.l0 k a1 0 t444 (t444.length : Int) 0)) else (some (0, 2))))) else (some (0, 1)))
theorem impl_EvalNetwork.mono_l : ∀ k, (∀ y0 y1 y2 y3 y4, LeO (impl_EvalNetwork.l0 k y0 y1 y2 y3 y4) (impl_EvalNetwork.l0 (k + 1) y0 y1 y2 y3 y4))
  | 0 => fun _ _ _ _ _ r h => by simp [impl_EvalNetwork.l0] at h
  | k + 1 => by
    have ih0 := impl_EvalNetwork.mono_l k
    · intro y0 y1 y2 y3 y4
      unfold impl_EvalNetwork.l0
      repeat' first | (with_reducible first | apply ih0 | apply impl_Network_outputTables.mono | apply impl_ValidNetwork.mono | exact LeO.refl _ | exact LeO.none _ | refine LeO.ite ?_ ?_ | refine LeO.bind ?_ (fun _ => ?_)) | apply ih0 | apply impl_Network_outputTables.mono | apply impl_ValidNetwork.mono | exact LeO.none _ | refine LeO.ite ?_ ?_ | refine LeO.bind ?_ (fun _ => ?_)
theorem impl_EvalNetwork.mono : ∀ a0 a1 a2 a3 k, LeO (impl_EvalNetwork.f k a0 a1 a2 a3) (impl_EvalNetwork.f (k + 1) a0 a1 a2 a3) := by
 intro a0 a1 a2 a3 k
 have ih0 := impl_EvalNetwork.mono_l k
 unfold impl_EvalNetwork.f
 repeat' first | (with_reducible first | apply ih0 | apply impl_Network_outputTables.mono | apply impl_ValidNetwork.mono | exact LeO.refl _ | exact LeO.none _ | refine LeO.ite ?_ ?_ | refine LeO.bind ?_ (fun _ => ?_)) | apply ih0 | apply impl_Network_outputTables.mono | apply impl_ValidNetwork.mono | exact LeO.none _ | refine LeO.ite ?_ ?_ | refine LeO.bind ?_ (fun _ => ?_)
theorem impl_EvalNetwork.calls (k : Nat) (a0_0 : Int) (A0_1 : Option Addr) (c0_1 : Nat) (l0_1 : List (S61)) (A0_2 : Option Addr) (c0_2 : Nat) (l0_2 : List Int) (a1 : Int) (r1 : Int) (r2 : Int) (w : World) (hr0_1 : Kd.C k61 w A0_1 l0_1.length l0_1) (hc0_1 : l0_1.length ≤ c0_1) (hr0_2 : Kd.C (Kd.int .i16) w A0_2 l0_2.length l0_2) (hc0_2 : l0_2.length ≤ c0_2) (h : impl_EvalNetwork.f k a0_0 l0_1 l0_2 a1 = some (r1, r2)) :
    Calls Try.prog 10 #[.agg #[.int .i8 a0_0, .slice A0_1 l0_1.length c0_1, .slice A0_2 l0_2.length c0_2], .int .i64 a1] w fun e w' => e = .returned (.tuple #[.int .i64 r1, .int .i64 r2]) ∧ Below w.heap.size w w' := by
 have hu29 := Try.underlying29
 have HR0_1 := Aside0.mk hr0_1
 have HC0_1 := Aside0.mk hc0_1
 clear hr0_1 hc0_1
 have HR0_2 := Aside0.mk hr0_2
 have HC0_2 := Aside0.mk hc0_2
 clear hr0_2 hc0_2
 have HB := Aside0.mk (Below.refl w.heap.size w)
 have H : ((impl_ValidNetwork.f k a0_0 l0_1 l0_2).bind fun t441 => (if t441 = true then ((impl_rows.f (wrap64 (a0_0))).bind fun t442 => ((impl_in.f a1 0 (wrap64 (t442 - 1))).bind fun t443 => (if t443 = true then ((impl_Network_outputTables.f k [(⟨a0_0, l0_1, l0_2⟩ : S29)]).bind fun t444 => (impl_EvalNetwork.l0 k a1 0 t444 (t444.length : Int) 0)) else (some (0, 2))))) else (some (0, 1)))) = some (r1, r2) := h
 clear h
 replace H := zob H
 obtain ⟨t441, A30, H⟩ := H
 replace H : (if t441 = true then ((impl_rows.f (wrap64 (a0_0))).bind fun t442 => ((impl_in.f a1 0 (wrap64 (t442 - 1))).bind fun t443 => (if t443 = true then ((impl_Network_outputTables.f k [(⟨a0_0, l0_1, l0_2⟩ : S29)]).bind fun t444 => (impl_EvalNetwork.l0 k a1 0 t444 (t444.length : Int) 0)) else (some (0, 2))))) else (some (0, 1))) = some (r1, r2) := H
 have A3 := Aside0.mk A30
 clear A30
 by_cases c4 : t441 = true
 rotate_left
 ·replace c4 := Bool.eq_false_iff.mpr c4
  subst c4
  have H1 : (some (0, 1)) = some (r1, r2) := by rw [if_neg (show ¬ (false = true) by decide)] at H; exact H
  clear H
  have H := H1
  clear H1
  simp only [Option.some.injEq, Prod.mk.injEq] at H
  obtain ⟨rfl, rfl⟩ := H
  go_enter Try.func10, Try.ntmps10
  go_wp2_with (first | ((with_reducible refine gate_dst (N := 2) rfl ?_); refine zbx 2 #[.int .i8 a0_0, .slice A0_1 l0_1.length c0_1, .slice A0_2 l0_2.length c0_2] 29 ?_; intro gb440 hg w26 hbox hb; have n_ : _ ∧ _ ∧ _ ∧ _ := ⟨zb HB hb, Aside0.mk (hbox), zg HB hg, zg HB hg⟩; clear HB; obtain ⟨HB, BK440, GW440, GE440⟩ := n_; clear hb hbox hg; obtain ⟨z27_0, z27_1, z27_2, y27_0, y27_1, y27_2⟩ := zB3 BK440) | ((with_reducible refine gate_callee (f := 29) rfl ?_); refine goesL_ (some 11) rfl rfl Try.func29 (by kernel_rfl) rfl #[.agg #[.int .i8 a0_0, .slice A0_1 l0_1.length c0_1, .slice A0_2 l0_2.length c0_2]] rfl zm ?_; (with_reducible refine (impl_ValidNetwork.calls k a0_0 _ _ l0_1 _ _ l0_2 false _ ?side1 ?side2 ?side3 ?side4 A3.out).mono ?_); (case side1 => exact zcc HB HR0_1.out); (case side2 => exact HC0_1.out); (case side3 => exact zcc HB HR0_2.out); (case side4 => exact HC0_2.out); rintro e w28 ⟨rfl, hb⟩; refine ⟨_, rfl, ?_⟩; have n_ : _ ∧ _ := ⟨zk BK440 hb, zbs hb⟩; clear BK440 HB; obtain ⟨BK440, HB⟩ := n_; (try clear hb); (try clear hb2); (try clear hk); (try clear hi)))
  go_ret2
  exact ⟨zv, zbo⟩
 subst c4
 have H1 : ((impl_rows.f (wrap64 (a0_0))).bind fun t442 => ((impl_in.f a1 0 (wrap64 (t442 - 1))).bind fun t443 => (if t443 = true then ((impl_Network_outputTables.f k [(⟨a0_0, l0_1, l0_2⟩ : S29)]).bind fun t444 => (impl_EvalNetwork.l0 k a1 0 t444 (t444.length : Int) 0)) else (some (0, 2))))) = some (r1, r2) := by rw [if_pos rfl] at H; exact H
 clear H
 have H := H1
 clear H1
 replace H := zob H
 obtain ⟨t442, A50, H⟩ := H
 replace H : ((impl_in.f a1 0 (wrap64 (t442 - 1))).bind fun t443 => (if t443 = true then ((impl_Network_outputTables.f k [(⟨a0_0, l0_1, l0_2⟩ : S29)]).bind fun t444 => (impl_EvalNetwork.l0 k a1 0 t444 (t444.length : Int) 0)) else (some (0, 2)))) = some (r1, r2) := H
 have A5 := Aside0.mk A50
 clear A50
 replace H := zob H
 obtain ⟨t443, A60, H⟩ := H
 replace H : (if t443 = true then ((impl_Network_outputTables.f k [(⟨a0_0, l0_1, l0_2⟩ : S29)]).bind fun t444 => (impl_EvalNetwork.l0 k a1 0 t444 (t444.length : Int) 0)) else (some (0, 2))) = some (r1, r2) := H
 have A6 := Aside0.mk A60
 clear A60
 by_cases c7 : t443 = true
 rotate_left
 ·replace c7 := Bool.eq_false_iff.mpr c7
  subst c7
  have H1 : (some (0, 2)) = some (r1, r2) := by rw [if_neg (show ¬ (false = true) by decide)] at H; exact H
  clear H
  have H := H1
  clear H1
  simp only [Option.some.injEq, Prod.mk.injEq] at H
  obtain ⟨rfl, rfl⟩ := H
  go_enter Try.func10, Try.ntmps10
  go_wp2_with (first | ((with_reducible refine gate_dst (N := 2) rfl ?_); refine zbx 2 #[.int .i8 a0_0, .slice A0_1 l0_1.length c0_1, .slice A0_2 l0_2.length c0_2] 29 ?_; intro gb440 hg w22 hbox hb; have n_ : _ ∧ _ ∧ _ ∧ _ := ⟨zb HB hb, Aside0.mk (hbox), zg HB hg, zg HB hg⟩; clear HB; obtain ⟨HB, BK440, GW440, GE440⟩ := n_; clear hb hbox hg; obtain ⟨z23_0, z23_1, z23_2, y23_0, y23_1, y23_2⟩ := zB3 BK440) | ((with_reducible refine gate_callee (f := 29) rfl ?_); refine goesL_ (some 11) rfl rfl Try.func29 (by kernel_rfl) rfl #[.agg #[.int .i8 a0_0, .slice A0_1 l0_1.length c0_1, .slice A0_2 l0_2.length c0_2]] rfl zm ?_; (with_reducible refine (impl_ValidNetwork.calls k a0_0 _ _ l0_1 _ _ l0_2 true _ ?side1 ?side2 ?side3 ?side4 A3.out).mono ?_); (case side1 => exact zcc HB HR0_1.out); (case side2 => exact HC0_1.out); (case side3 => exact zcc HB HR0_2.out); (case side4 => exact HC0_2.out); rintro e w24 ⟨rfl, hb⟩; refine ⟨_, rfl, ?_⟩; have n_ : _ ∧ _ := ⟨zk BK440 hb, zbs hb⟩; clear BK440 HB; obtain ⟨BK440, HB⟩ := n_; (try clear hb); (try clear hb2); (try clear hk); (try clear hi); obtain ⟨z25_0, z25_1, z25_2, y25_0, y25_1, y25_2⟩ := zB3 BK440) | ((with_reducible refine gate_callee (f := 30) rfl ?_); refine goesL_ (some 18) rfl rfl Try.func30 (by kernel_rfl) rfl #[.int .i64 (wrap64 (a0_0))] rfl zm ?_; (with_reducible refine (impl_rows.calls (wrap64 (a0_0)) t442 _ A5.out).mono ?_); rintro e w' ⟨rfl, ⟨nd, rfl⟩⟩; refine ⟨_, rfl, ?_⟩) | ((with_reducible refine gate_callee (f := 16) rfl ?_); refine goesL_ (some 20) rfl rfl Try.func16 (by kernel_rfl) rfl #[.int .i64 a1, .int .i64 0, .int .i64 (wrap64 (t442 - 1))] rfl zm ?_; (with_reducible refine (impl_in.calls a1 0 (wrap64 (t442 - 1)) false _ A6.out).mono ?_); rintro e w' ⟨rfl, ⟨nd, rfl⟩⟩; refine ⟨_, rfl, ?_⟩))
  go_ret2
  exact ⟨zv, zbo⟩
 subst c7
 have H1 : ((impl_Network_outputTables.f k [(⟨a0_0, l0_1, l0_2⟩ : S29)]).bind fun t444 => (impl_EvalNetwork.l0 k a1 0 t444 (t444.length : Int) 0)) = some (r1, r2) := by rw [if_pos rfl] at H; exact H
 clear H
 have H := H1
 clear H1
 replace H := zob H
 obtain ⟨t444, A80, H⟩ := H
 replace H : (impl_EvalNetwork.l0 k a1 0 t444 (t444.length : Int) 0) = some (r1, r2) := H
 have A8 := Aside0.mk A80
 clear A80
 have H' := Aside0.mk H
 clear H
 go_enter Try.func10, Try.ntmps10
 go_wp2_with (first | ((with_reducible refine gate_dst (N := 2) rfl ?_); refine zbx 2 #[.int .i8 a0_0, .slice A0_1 l0_1.length c0_1, .slice A0_2 l0_2.length c0_2] 29 ?_; intro gb440 hg w9 hbox hb; have n_ : _ ∧ _ ∧ _ ∧ _ := ⟨zb HB hb, Aside0.mk (hbox), zg HB hg, zg HB hg⟩; clear HB; obtain ⟨HB, BK440, GW440, GE440⟩ := n_; clear hb hbox hg; obtain ⟨z10_0, z10_1, z10_2, y10_0, y10_1, y10_2⟩ := zB3 BK440) | ((with_reducible refine gate_callee (f := 29) rfl ?_); refine goesL_ (some 11) rfl rfl Try.func29 (by kernel_rfl) rfl #[.agg #[.int .i8 a0_0, .slice A0_1 l0_1.length c0_1, .slice A0_2 l0_2.length c0_2]] rfl zm ?_; (with_reducible refine (impl_ValidNetwork.calls k a0_0 _ _ l0_1 _ _ l0_2 true _ ?side1 ?side2 ?side3 ?side4 A3.out).mono ?_); (case side1 => exact zcc HB HR0_1.out); (case side2 => exact HC0_1.out); (case side3 => exact zcc HB HR0_2.out); (case side4 => exact HC0_2.out); rintro e w11 ⟨rfl, hb⟩; refine ⟨_, rfl, ?_⟩; have n_ : _ ∧ _ := ⟨zk BK440 hb, zbs hb⟩; clear BK440 HB; obtain ⟨BK440, HB⟩ := n_; (try clear hb); (try clear hb2); (try clear hk); (try clear hi); obtain ⟨z12_0, z12_1, z12_2, y12_0, y12_1, y12_2⟩ := zB3 BK440) | ((with_reducible refine gate_callee (f := 30) rfl ?_); refine goesL_ (some 18) rfl rfl Try.func30 (by kernel_rfl) rfl #[.int .i64 (wrap64 (a0_0))] rfl zm ?_; (with_reducible refine (impl_rows.calls (wrap64 (a0_0)) t442 _ A5.out).mono ?_); rintro e w' ⟨rfl, ⟨nd, rfl⟩⟩; refine ⟨_, rfl, ?_⟩) | ((with_reducible refine gate_callee (f := 16) rfl ?_); refine goesL_ (some 20) rfl rfl Try.func16 (by kernel_rfl) rfl #[.int .i64 a1, .int .i64 0, .int .i64 (wrap64 (t442 - 1))] rfl zm ?_; (with_reducible refine (impl_in.calls a1 0 (wrap64 (t442 - 1)) true _ A6.out).mono ?_); rintro e w' ⟨rfl, ⟨nd, rfl⟩⟩; refine ⟨_, rfl, ?_⟩) | ((with_reducible refine gate_callee (f := 31) rfl ?_); refine goesL_ (some 22) rfl rfl Try.func31 (by kernel_rfl) rfl #[.pointer (some ⟨gb440, 0, none⟩)] rfl zm ?_; (with_reducible refine (impl_Network_outputTables.calls k _ [(⟨a0_0, l0_1, l0_2⟩ : S29)] t444 _ ?side1 A8.out).mono ?_); (case side1 => refine ro_of_blk (T := 29) (cs := #[.int .i8 a0_0, .slice A0_1 l0_1.length c0_1, .slice A0_2 l0_2.length c0_2]) (zh BK440).out ?_; exact k29_mk _ (⟨a0_0, l0_1, l0_2⟩ : S29) (by exact HC0_1.out) (by repeat (first | exact (Kd.C_below HR0_1.out zbo) | (with_reducible refine Kd.C_alloc ?_ _) | (with_reducible refine Kd.C_drewN ?_ _) | (with_reducible refine Kd.C_drew ?_))) (by exact HC0_2.out) (by repeat (first | exact (Kd.C_below HR0_2.out zbo) | (with_reducible refine Kd.C_alloc ?_ _) | (with_reducible refine Kd.C_drewN ?_ _) | (with_reducible refine Kd.C_drew ?_)))); rintro e w13 ⟨v445, rfl, ho0, hb⟩; refine ⟨_, rfl, ?_⟩; have n_ : _ ∧ _ ∧ _ := ⟨Aside0.mk (Kd.R_lower ho0 (zz HB)), zk BK440 hb, zbs hb⟩; clear BK440 HB; obtain ⟨HO446, BK440, HB⟩ := n_; (try clear hb); (try clear hb2); (try clear hk); (try clear hi); (try clear ho0); obtain ⟨Ao14, co14, eo14⟩ := Kd.R_slice HO446.out; subst eo14))
 go_loopg [6, 24] k (fun kq v6 v24 w' => ∃ (x6_1 : Int) (x24_1 : Int), v6 = .int .i64 x6_1 ∧ v24 = .int .i64 x24_1 ∧ Aside0 (impl_EvalNetwork.l0 kq a1 x6_1 t444 (t444.length : Int) x24_1 = some (r1, r2)) ∧ Aside0 (kq ≤ k) ∧ Aside0 (Kd.R (Kd.int .u64) 66 w' w.heap.size (fun _ => True) (.slice Ao14 t444.length co14) t444) ∧ Aside0 (w'.heap[gb440]? = some (.cells #[.int .i8 a0_0, (.slice A0_1 l0_1.length c0_1), (.slice A0_2 l0_2.length c0_2)] 29 (0, 0))) ∧ Aside0 (Below w.heap.size w w'))
 case atStart => exact ⟨(0), (0), zi, zi, H', ⟨Nat.le_refl _⟩, ze HO446, zh BK440, zba⟩
 clear H'
 try clear c1
 try clear c2
 try clear p2
 try clear c3
 try clear c4
 try clear p6
 try clear c7
 try clear c10
 try clear z10_0 z10_1 z10_2
 try clear z12_0 z12_1 z12_2
 try clear y10_0
 try clear y10_1
 try clear y10_2
 try clear y12_0
 try clear y12_1
 try clear y12_2
 obtain ⟨x6_1, x24_1, rfl, rfl, HA, HK1, HO_22, BK440, HB⟩ := hrel
 cases gk with
 | zero => exact absurd HA.out (by simp [impl_EvalNetwork.l0])
 | succ k1 => ?_
 have H := HA.out
 clear HA
 simp only [impl_EvalNetwork.l0] at H
 by_cases c15 : x24_1 < (t444.length : Int)
 rotate_left
 ·rw [if_neg c15] at H
  have c15b0 : decide (x24_1 < (t444.length : Int)) = false := decide_eq_false c15
  clear c15
  simp only [Option.some.injEq, Prod.mk.injEq] at H
  obtain ⟨rfl, rfl⟩ := H
  go_wp2
  go_ret2
  exact ⟨zv, zbo⟩
 rw [if_pos c15] at H
 have c15b0 : decide (x24_1 < (t444.length : Int)) = true := decide_eq_true c15
 clear c15
 by_cases c16 : 0 ≤ x24_1
 rotate_left
 ·rw [if_neg c16] at H
  exact absurd H (by simp)
 rw [if_pos c16] at H
 have c16b0 : decide (0 ≤ x24_1) = true := decide_eq_true c16
 clear c16
 by_cases c17 : x24_1 < (t444.length : Int)
 rotate_left
 ·rw [if_neg c17] at H
  exact absurd H (by simp)
 rw [if_pos c17] at H
 have c17b0 : decide (x24_1 < (t444.length : Int)) = true := decide_eq_true c17
 clear c17
 replace H := zob H
 obtain ⟨t448, A180, H⟩ := H
 replace H : (if t448 = true then (impl_EvalNetwork.l0 k1 a1 (Go.bits .or .i64 x6_1 (shl .i64 1 x24_1)) t444 (t444.length : Int) (wrap64 (x24_1 + 1))) else (impl_EvalNetwork.l0 k1 a1 x6_1 t444 (t444.length : Int) (wrap64 (x24_1 + 1)))) = some (r1, r2) := H
 have A18 := Aside0.mk A180
 clear A180
 by_cases c19 : t448 = true
 rotate_left
 ·replace c19 := Bool.eq_false_iff.mpr c19
  subst c19
  have H1 : (impl_EvalNetwork.l0 k1 a1 x6_1 t444 (t444.length : Int) (wrap64 (x24_1 + 1))) = some (r1, r2) := by rw [if_neg (show ¬ (false = true) by decide)] at H; exact H
  clear H
  have H := H1
  clear H1
  have H' := Aside0.mk H
  clear H
  have p447 : 0 ≤ (x24_1 : Int) := of_decide_eq_true zA
  have q447 : x24_1 < (t444.length : Int) := of_decide_eq_true zA
  obtain ⟨ad447, e447, hx447_0⟩ := Kd.at_int (Kd.R_reads' HO_22.out).2.2 x24_1 p447 q447
  cases e447
  replace p447 := eq_true p447
  replace q447 := eq_true q447
  go_wp2_with (first | ((with_reducible refine gate_callee (f := 32) rfl ?_); refine goesL_ (some 31) rfl rfl Try.func32 (by kernel_rfl) rfl #[.int .u64 (rd t444 x24_1), .int .i64 a1] rfl zm ?_; (with_reducible refine (impl_bit_uint64.calls (rd t444 x24_1) a1 false _ A18.out).mono ?_); rintro e w' ⟨rfl, ⟨nd, rfl⟩⟩; refine ⟨_, rfl, ?_⟩))
  go_roundg k1
  case measure => have := HK1.out; omega
  case rel => exact ⟨(x6_1), (wrap64 (x24_1 + 1)), zi, zi, H', ⟨by have := HK1.out; omega⟩, ze HO_22, zh BK440, zba⟩
 subst c19
 have H1 : (impl_EvalNetwork.l0 k1 a1 (Go.bits .or .i64 x6_1 (shl .i64 1 x24_1)) t444 (t444.length : Int) (wrap64 (x24_1 + 1))) = some (r1, r2) := by rw [if_pos rfl] at H; exact H
 clear H
 have H := H1
 clear H1
 have c20b0 := eq_true (of_decide_eq_true zA : 0 ≤ x24_1)
 obtain ⟨ji21, hji21⟩ : ∃ j_ : Int, (shl .i64 1 x24_1) = j_ := ⟨_, rfl⟩
 replace H : (impl_EvalNetwork.l0 k1 a1 (Go.bits .or .i64 x6_1 (ji21)) t444 (t444.length : Int) (wrap64 (x24_1 + 1))) = some (r1, r2) := by first | (rw [hji21] at H; exact H) | (simp only [hji21] at H ⊢; exact H)
 (try rw [hji21] at A18)
 have hji21_ : (IntKind.i64.wrap (1 * 2 ^ min x24_1.toNat 64)) = ji21 := hji21
 have hji21z : x24_1 ≤ 64 → (IntKind.i64.wrap (1 * 2 ^ x24_1.toNat)) = ji21 := shl_small hji21
 have hji21u : (IntKind.i64.wrap (2 ^ min x24_1.toNat 64)) = ji21 := by have h_ := hji21_; rw [Int.one_mul] at h_; exact h_
 have hji21v : x24_1 ≤ 64 → (IntKind.i64.wrap (2 ^ x24_1.toNat)) = ji21 := fun hle_ => by have h_ := hji21z hle_; rw [Int.one_mul] at h_; exact h_
 have hji21y : (wrap64 (1 * 2 ^ min x24_1.toNat 64)) = ji21 := (i64_w _).symm.trans hji21_
 have hji21x : x24_1 ≤ 64 → (wrap64 (1 * 2 ^ x24_1.toNat)) = ji21 := fun h_ => (i64_w _).symm.trans (hji21z h_)
 have H' := Aside0.mk H
 clear H
 have p447 : 0 ≤ (x24_1 : Int) := of_decide_eq_true zA
 have q447 : x24_1 < (t444.length : Int) := of_decide_eq_true zA
 obtain ⟨ad447, e447, hx447_0⟩ := Kd.at_int (Kd.R_reads' HO_22.out).2.2 x24_1 p447 q447
 cases e447
 replace p447 := eq_true p447
 replace q447 := eq_true q447
 go_wp2_with (first | ((with_reducible refine gate_callee (f := 32) rfl ?_); refine goesL_ (some 31) rfl rfl Try.func32 (by kernel_rfl) rfl #[.int .u64 (rd t444 x24_1), .int .i64 a1] rfl zm ?_; (with_reducible refine (impl_bit_uint64.calls (rd t444 x24_1) a1 true _ A18.out).mono ?_); rintro e w' ⟨rfl, ⟨nd, rfl⟩⟩; refine ⟨_, rfl, ?_⟩))
 go_roundg k1
 case measure => have := HK1.out; omega
 case rel => exact ⟨(Go.bits .or .i64 x6_1 (ji21)), (wrap64 (x24_1 + 1)), (by first | rfl | (simp; done) | (simp only [← hji21] <;> (first | rfl | simp)) | (simp [*]; done) | (exact congrArg (Value.int .i64) (wrap_eq (by omega)))), zi, H', ⟨by have := HK1.out; omega⟩, ze HO_22, zh BK440, zba⟩
def laws_FnAdders.f (k : Nat) (l0 : List Int) (l1 : List Int) : Option (Bool) := (laws_f6big.f l0).bind fun t449 => (if t449 = true then (some true) else ((laws_f6big.f l1).bind fun t450 => (if t450 = true then (some true) else ((spec_P6Pick.f l0 3).bind fun t451 => ((impl_AdderOf.f k (wrap64 (1 + t451))).bind fun bt452 => ((spec_AdderOf.f k (wrap64 (1 + t451))).bind fun bt461 => (if bt452.2.2.2 = bt461.2.2.2 then (if bt452.2.2.2 = 0 then ((spec_SameNetwork.f k bt452.1 bt452.2.1 bt452.2.2.1 bt461.1 bt461.2.1 bt461.2.2.1).bind fun t470 => (if t470 = true then (if (bt461.2.2.1.length : Int) = (wrap64 ((wrap64 (1 + t451)) + 1)) then (if 0 ≤ (IntKind.u64.wrap (wrap64 (2 * (wrap64 (1 + t451))))) then ((spec_P6Pick.f l1 (shl .i64 1 (IntKind.u64.wrap (wrap64 (2 * (wrap64 (1 + t451))))))).bind fun t471 => ((impl_EvalNetwork.f k bt461.1 bt461.2.1 bt461.2.2.1 t471).bind fun bt472 => (if 0 ≤ (IntKind.u64.wrap (wrap64 (1 + t451))) then (if (shl .i64 1 (IntKind.u64.wrap (wrap64 (1 + t451)))) = 0 then (none) else (if bt472.2 = 0 then (some (bt472.1 == (wrap64 ((Int.tmod t471 (shl .i64 1 (IntKind.u64.wrap (wrap64 (1 + t451))))) + (shr .i64 t471 (IntKind.u64.wrap (wrap64 (1 + t451)))))))) else (none))) else (none)))) else (none)) else (none)) else (none))) else (none)) else (none))))))))
theorem laws_FnAdders.mono : ∀ a0 a1 k, LeO (laws_FnAdders.f k a0 a1) (laws_FnAdders.f (k + 1) a0 a1) := by
 intro a0 a1 k
 unfold laws_FnAdders.f
 repeat' first | (with_reducible first | apply impl_AdderOf.mono | apply impl_EvalNetwork.mono | apply spec_AdderOf.mono | apply spec_SameNetwork.mono | exact LeO.refl _ | exact LeO.none _ | refine LeO.ite ?_ ?_ | refine LeO.bind ?_ (fun _ => ?_)) | apply impl_AdderOf.mono | apply impl_EvalNetwork.mono | apply spec_AdderOf.mono | apply spec_SameNetwork.mono | exact LeO.none _ | refine LeO.ite ?_ ?_ | refine LeO.bind ?_ (fun _ => ?_)
theorem laws_FnAdders.calls (k : Nat) (A0 : Option Addr) (c0 : Nat) (l0 : List Int) (A1 : Option Addr) (c1 : Nat) (l1 : List Int) (r : Bool) (w : World) (hr0 : Kd.C (Kd.int .u8) w A0 l0.length l0) (hc0 : l0.length ≤ c0) (hr1 : Kd.C (Kd.int .u8) w A1 l1.length l1) (hc1 : l1.length ≤ c1) (h : laws_FnAdders.f k l0 l1 = some r) :
    Calls Try.prog 3 #[.slice A0 l0.length c0, .slice A1 l1.length c1] w fun e w' => e = .returned (.bool r) ∧ Below w.heap.size w w' := by
 have hu29 := Try.underlying29
 have HR0 := Aside0.mk hr0
 have HC0 := Aside0.mk hc0
 clear hr0 hc0
 have HR1 := Aside0.mk hr1
 have HC1 := Aside0.mk hc1
 clear hr1 hc1
 have HB := Aside0.mk (Below.refl w.heap.size w)
 have H : ((laws_f6big.f l0).bind fun t449 => (if t449 = true then (some true) else ((laws_f6big.f l1).bind fun t450 => (if t450 = true then (some true) else ((spec_P6Pick.f l0 3).bind fun t451 => ((impl_AdderOf.f k (wrap64 (1 + t451))).bind fun bt452 => ((spec_AdderOf.f k (wrap64 (1 + t451))).bind fun bt461 => (if bt452.2.2.2 = bt461.2.2.2 then (if bt452.2.2.2 = 0 then ((spec_SameNetwork.f k bt452.1 bt452.2.1 bt452.2.2.1 bt461.1 bt461.2.1 bt461.2.2.1).bind fun t470 => (if t470 = true then (if (bt461.2.2.1.length : Int) = (wrap64 ((wrap64 (1 + t451)) + 1)) then (if 0 ≤ (IntKind.u64.wrap (wrap64 (2 * (wrap64 (1 + t451))))) then ((spec_P6Pick.f l1 (shl .i64 1 (IntKind.u64.wrap (wrap64 (2 * (wrap64 (1 + t451))))))).bind fun t471 => ((impl_EvalNetwork.f k bt461.1 bt461.2.1 bt461.2.2.1 t471).bind fun bt472 => (if 0 ≤ (IntKind.u64.wrap (wrap64 (1 + t451))) then (if (shl .i64 1 (IntKind.u64.wrap (wrap64 (1 + t451)))) = 0 then (none) else (if bt472.2 = 0 then (some (bt472.1 == (wrap64 ((Int.tmod t471 (shl .i64 1 (IntKind.u64.wrap (wrap64 (1 + t451))))) + (shr .i64 t471 (IntKind.u64.wrap (wrap64 (1 + t451)))))))) else (none))) else (none)))) else (none)) else (none)) else (none))) else (none)) else (none))))))))) = some r := h
 clear h
 replace H := zob H
 obtain ⟨t449, A30, H⟩ := H
 replace H : (if t449 = true then (some true) else ((laws_f6big.f l1).bind fun t450 => (if t450 = true then (some true) else ((spec_P6Pick.f l0 3).bind fun t451 => ((impl_AdderOf.f k (wrap64 (1 + t451))).bind fun bt452 => ((spec_AdderOf.f k (wrap64 (1 + t451))).bind fun bt461 => (if bt452.2.2.2 = bt461.2.2.2 then (if bt452.2.2.2 = 0 then ((spec_SameNetwork.f k bt452.1 bt452.2.1 bt452.2.2.1 bt461.1 bt461.2.1 bt461.2.2.1).bind fun t470 => (if t470 = true then (if (bt461.2.2.1.length : Int) = (wrap64 ((wrap64 (1 + t451)) + 1)) then (if 0 ≤ (IntKind.u64.wrap (wrap64 (2 * (wrap64 (1 + t451))))) then ((spec_P6Pick.f l1 (shl .i64 1 (IntKind.u64.wrap (wrap64 (2 * (wrap64 (1 + t451))))))).bind fun t471 => ((impl_EvalNetwork.f k bt461.1 bt461.2.1 bt461.2.2.1 t471).bind fun bt472 => (if 0 ≤ (IntKind.u64.wrap (wrap64 (1 + t451))) then (if (shl .i64 1 (IntKind.u64.wrap (wrap64 (1 + t451)))) = 0 then (none) else (if bt472.2 = 0 then (some (bt472.1 == (wrap64 ((Int.tmod t471 (shl .i64 1 (IntKind.u64.wrap (wrap64 (1 + t451))))) + (shr .i64 t471 (IntKind.u64.wrap (wrap64 (1 + t451)))))))) else (none))) else (none)))) else (none)) else (none)) else (none))) else (none)) else (none)))))))) = some r := H
 have A3 := Aside0.mk A30
 clear A30
 by_cases c4 : t449 = true
 ·subst c4
  have H1 : (some true) = some r := by rw [if_pos rfl] at H; exact H
  clear H
  have H := H1
  clear H1
  obtain rfl := Option.some.inj H
  go_enter Try.func3, Try.ntmps3
  go_wp2_with (first | ((with_reducible refine gate_callee (f := 5) rfl ?_); refine goesL_ (some 15) rfl rfl Try.func5 (by kernel_rfl) rfl #[.slice A0 l0.length c0] rfl zm ?_; (with_reducible refine (laws_f6big.calls _ _ l0 true _ ?side1 ?side2 A3.out).mono ?_); (case side1 => repeat (first | exact HR0.out | (with_reducible refine Kd.C_alloc ?_ _) | (with_reducible refine Kd.C_drewN ?_ _) | (with_reducible refine Kd.C_drew ?_))); (case side2 => exact HC0.out); rintro e w' ⟨rfl, ⟨nd, rfl⟩⟩; refine ⟨_, rfl, ?_⟩))
  go_ret
  exact ⟨zv, zbo⟩
 replace c4 := Bool.eq_false_iff.mpr c4
 subst c4
 have H1 : ((laws_f6big.f l1).bind fun t450 => (if t450 = true then (some true) else ((spec_P6Pick.f l0 3).bind fun t451 => ((impl_AdderOf.f k (wrap64 (1 + t451))).bind fun bt452 => ((spec_AdderOf.f k (wrap64 (1 + t451))).bind fun bt461 => (if bt452.2.2.2 = bt461.2.2.2 then (if bt452.2.2.2 = 0 then ((spec_SameNetwork.f k bt452.1 bt452.2.1 bt452.2.2.1 bt461.1 bt461.2.1 bt461.2.2.1).bind fun t470 => (if t470 = true then (if (bt461.2.2.1.length : Int) = (wrap64 ((wrap64 (1 + t451)) + 1)) then (if 0 ≤ (IntKind.u64.wrap (wrap64 (2 * (wrap64 (1 + t451))))) then ((spec_P6Pick.f l1 (shl .i64 1 (IntKind.u64.wrap (wrap64 (2 * (wrap64 (1 + t451))))))).bind fun t471 => ((impl_EvalNetwork.f k bt461.1 bt461.2.1 bt461.2.2.1 t471).bind fun bt472 => (if 0 ≤ (IntKind.u64.wrap (wrap64 (1 + t451))) then (if (shl .i64 1 (IntKind.u64.wrap (wrap64 (1 + t451)))) = 0 then (none) else (if bt472.2 = 0 then (some (bt472.1 == (wrap64 ((Int.tmod t471 (shl .i64 1 (IntKind.u64.wrap (wrap64 (1 + t451))))) + (shr .i64 t471 (IntKind.u64.wrap (wrap64 (1 + t451)))))))) else (none))) else (none)))) else (none)) else (none)) else (none))) else (none)) else (none))))))) = some r := by rw [if_neg (show ¬ (false = true) by decide)] at H; exact H
 clear H
 have H := H1
 clear H1
 replace H := zob H
 obtain ⟨t450, A50, H⟩ := H
 replace H : (if t450 = true then (some true) else ((spec_P6Pick.f l0 3).bind fun t451 => ((impl_AdderOf.f k (wrap64 (1 + t451))).bind fun bt452 => ((spec_AdderOf.f k (wrap64 (1 + t451))).bind fun bt461 => (if bt452.2.2.2 = bt461.2.2.2 then (if bt452.2.2.2 = 0 then ((spec_SameNetwork.f k bt452.1 bt452.2.1 bt452.2.2.1 bt461.1 bt461.2.1 bt461.2.2.1).bind fun t470 => (if t470 = true then (if (bt461.2.2.1.length : Int) = (wrap64 ((wrap64 (1 + t451)) + 1)) then (if 0 ≤ (IntKind.u64.wrap (wrap64 (2 * (wrap64 (1 + t451))))) then ((spec_P6Pick.f l1 (shl .i64 1 (IntKind.u64.wrap (wrap64 (2 * (wrap64 (1 + t451))))))).bind fun t471 => ((impl_EvalNetwork.f k bt461.1 bt461.2.1 bt461.2.2.1 t471).bind fun bt472 => (if 0 ≤ (IntKind.u64.wrap (wrap64 (1 + t451))) then (if (shl .i64 1 (IntKind.u64.wrap (wrap64 (1 + t451)))) = 0 then (none) else (if bt472.2 = 0 then (some (bt472.1 == (wrap64 ((Int.tmod t471 (shl .i64 1 (IntKind.u64.wrap (wrap64 (1 + t451))))) + (shr .i64 t471 (IntKind.u64.wrap (wrap64 (1 + t451)))))))) else (none))) else (none)))) else (none)) else (none)) else (none))) else (none)) else (none)))))) = some r := H
 have A5 := Aside0.mk A50
 clear A50
 by_cases c6 : t450 = true
 ·subst c6
  have H1 : (some true) = some r := by rw [if_pos rfl] at H; exact H
  clear H
  have H := H1
  clear H1
  obtain rfl := Option.some.inj H
  go_enter Try.func3, Try.ntmps3
  go_wp2_with (first | ((with_reducible refine gate_callee (f := 5) rfl ?_); refine goesL_ (some 15) rfl rfl Try.func5 (by kernel_rfl) rfl #[.slice A0 l0.length c0] rfl zm ?_; (with_reducible refine (laws_f6big.calls _ _ l0 false _ ?side1 ?side2 A3.out).mono ?_); (case side1 => repeat (first | exact HR0.out | (with_reducible refine Kd.C_alloc ?_ _) | (with_reducible refine Kd.C_drewN ?_ _) | (with_reducible refine Kd.C_drew ?_))); (case side2 => exact HC0.out); rintro e w' ⟨rfl, ⟨nd, rfl⟩⟩; refine ⟨_, rfl, ?_⟩) | (go_at_call 5; (with_reducible refine (laws_f6big.calls _ _ l1 true _ ?side1 ?side2 A5.out).mono ?_); (case side1 => repeat (first | exact HR1.out | (with_reducible refine Kd.C_alloc ?_ _) | (with_reducible refine Kd.C_drewN ?_ _) | (with_reducible refine Kd.C_drew ?_))); (case side2 => exact HC1.out); rintro e w' ⟨rfl, ⟨nd, rfl⟩⟩))
  go_ret
  exact ⟨zv, zbo⟩
 replace c6 := Bool.eq_false_iff.mpr c6
 subst c6
 have H1 : ((spec_P6Pick.f l0 3).bind fun t451 => ((impl_AdderOf.f k (wrap64 (1 + t451))).bind fun bt452 => ((spec_AdderOf.f k (wrap64 (1 + t451))).bind fun bt461 => (if bt452.2.2.2 = bt461.2.2.2 then (if bt452.2.2.2 = 0 then ((spec_SameNetwork.f k bt452.1 bt452.2.1 bt452.2.2.1 bt461.1 bt461.2.1 bt461.2.2.1).bind fun t470 => (if t470 = true then (if (bt461.2.2.1.length : Int) = (wrap64 ((wrap64 (1 + t451)) + 1)) then (if 0 ≤ (IntKind.u64.wrap (wrap64 (2 * (wrap64 (1 + t451))))) then ((spec_P6Pick.f l1 (shl .i64 1 (IntKind.u64.wrap (wrap64 (2 * (wrap64 (1 + t451))))))).bind fun t471 => ((impl_EvalNetwork.f k bt461.1 bt461.2.1 bt461.2.2.1 t471).bind fun bt472 => (if 0 ≤ (IntKind.u64.wrap (wrap64 (1 + t451))) then (if (shl .i64 1 (IntKind.u64.wrap (wrap64 (1 + t451)))) = 0 then (none) else (if bt472.2 = 0 then (some (bt472.1 == (wrap64 ((Int.tmod t471 (shl .i64 1 (IntKind.u64.wrap (wrap64 (1 + t451))))) + (shr .i64 t471 (IntKind.u64.wrap (wrap64 (1 + t451)))))))) else (none))) else (none)))) else (none)) else (none)) else (none))) else (none)) else (none))))) = some r := by rw [if_neg (show ¬ (false = true) by decide)] at H; exact H
 clear H
 have H := H1
 clear H1
 replace H := zob H
 obtain ⟨t451, A70, H⟩ := H
 replace H : ((impl_AdderOf.f k (wrap64 (1 + t451))).bind fun bt452 => ((spec_AdderOf.f k (wrap64 (1 + t451))).bind fun bt461 => (if bt452.2.2.2 = bt461.2.2.2 then (if bt452.2.2.2 = 0 then ((spec_SameNetwork.f k bt452.1 bt452.2.1 bt452.2.2.1 bt461.1 bt461.2.1 bt461.2.2.1).bind fun t470 => (if t470 = true then (if (bt461.2.2.1.length : Int) = (wrap64 ((wrap64 (1 + t451)) + 1)) then (if 0 ≤ (IntKind.u64.wrap (wrap64 (2 * (wrap64 (1 + t451))))) then ((spec_P6Pick.f l1 (shl .i64 1 (IntKind.u64.wrap (wrap64 (2 * (wrap64 (1 + t451))))))).bind fun t471 => ((impl_EvalNetwork.f k bt461.1 bt461.2.1 bt461.2.2.1 t471).bind fun bt472 => (if 0 ≤ (IntKind.u64.wrap (wrap64 (1 + t451))) then (if (shl .i64 1 (IntKind.u64.wrap (wrap64 (1 + t451)))) = 0 then (none) else (if bt472.2 = 0 then (some (bt472.1 == (wrap64 ((Int.tmod t471 (shl .i64 1 (IntKind.u64.wrap (wrap64 (1 + t451))))) + (shr .i64 t471 (IntKind.u64.wrap (wrap64 (1 + t451)))))))) else (none))) else (none)))) else (none)) else (none)) else (none))) else (none)) else (none)))) = some r := H
 have A7 := Aside0.mk A70
 clear A70
 replace H := zob H
 obtain ⟨⟨t452, t453, t456, t459⟩, A80, H⟩ := H
 replace H : ((spec_AdderOf.f k (wrap64 (1 + t451))).bind fun bt461 => (if t459 = bt461.2.2.2 then (if t459 = 0 then ((spec_SameNetwork.f k t452 t453 t456 bt461.1 bt461.2.1 bt461.2.2.1).bind fun t470 => (if t470 = true then (if (bt461.2.2.1.length : Int) = (wrap64 ((wrap64 (1 + t451)) + 1)) then (if 0 ≤ (IntKind.u64.wrap (wrap64 (2 * (wrap64 (1 + t451))))) then ((spec_P6Pick.f l1 (shl .i64 1 (IntKind.u64.wrap (wrap64 (2 * (wrap64 (1 + t451))))))).bind fun t471 => ((impl_EvalNetwork.f k bt461.1 bt461.2.1 bt461.2.2.1 t471).bind fun bt472 => (if 0 ≤ (IntKind.u64.wrap (wrap64 (1 + t451))) then (if (shl .i64 1 (IntKind.u64.wrap (wrap64 (1 + t451)))) = 0 then (none) else (if bt472.2 = 0 then (some (bt472.1 == (wrap64 ((Int.tmod t471 (shl .i64 1 (IntKind.u64.wrap (wrap64 (1 + t451))))) + (shr .i64 t471 (IntKind.u64.wrap (wrap64 (1 + t451)))))))) else (none))) else (none)))) else (none)) else (none)) else (none))) else (none)) else (none))) = some r := H
 have A8 := Aside0.mk A80
 clear A80
 replace H := zob H
 obtain ⟨⟨t461, t462, t465, t468⟩, A90, H⟩ := H
 replace H : (if t459 = t468 then (if t459 = 0 then ((spec_SameNetwork.f k t452 t453 t456 t461 t462 t465).bind fun t470 => (if t470 = true then (if (t465.length : Int) = (wrap64 ((wrap64 (1 + t451)) + 1)) then (if 0 ≤ (IntKind.u64.wrap (wrap64 (2 * (wrap64 (1 + t451))))) then ((spec_P6Pick.f l1 (shl .i64 1 (IntKind.u64.wrap (wrap64 (2 * (wrap64 (1 + t451))))))).bind fun t471 => ((impl_EvalNetwork.f k t461 t462 t465 t471).bind fun bt472 => (if 0 ≤ (IntKind.u64.wrap (wrap64 (1 + t451))) then (if (shl .i64 1 (IntKind.u64.wrap (wrap64 (1 + t451)))) = 0 then (none) else (if bt472.2 = 0 then (some (bt472.1 == (wrap64 ((Int.tmod t471 (shl .i64 1 (IntKind.u64.wrap (wrap64 (1 + t451))))) + (shr .i64 t471 (IntKind.u64.wrap (wrap64 (1 + t451)))))))) else (none))) else (none)))) else (none)) else (none)) else (none))) else (none)) else (none)) = some r := H
 have A9 := Aside0.mk A90
 clear A90
 by_cases c10 : t459 = t468
 rotate_left
 ·rw [if_neg c10] at H
  exact absurd H (by simp)
 rw [if_pos c10] at H
 have c10b0 : (t459 == t468) = true := beq_iff_eq.mpr c10
 have c10b1 : (t459 != t468) = false := bne_eq_false_iff_eq.mpr c10
 clear c10
 by_cases c11 : t459 = 0
 rotate_left
 ·rw [if_neg c11] at H
  exact absurd H (by simp)
 rw [if_pos c11] at H
 have c11b0 : (t459 == 0) = true := beq_iff_eq.mpr c11
 have c11b1 : (t459 != 0) = false := bne_eq_false_iff_eq.mpr c11
 clear c11
 replace H := zob H
 obtain ⟨t470, A120, H⟩ := H
 replace H : (if t470 = true then (if (t465.length : Int) = (wrap64 ((wrap64 (1 + t451)) + 1)) then (if 0 ≤ (IntKind.u64.wrap (wrap64 (2 * (wrap64 (1 + t451))))) then ((spec_P6Pick.f l1 (shl .i64 1 (IntKind.u64.wrap (wrap64 (2 * (wrap64 (1 + t451))))))).bind fun t471 => ((impl_EvalNetwork.f k t461 t462 t465 t471).bind fun bt472 => (if 0 ≤ (IntKind.u64.wrap (wrap64 (1 + t451))) then (if (shl .i64 1 (IntKind.u64.wrap (wrap64 (1 + t451)))) = 0 then (none) else (if bt472.2 = 0 then (some (bt472.1 == (wrap64 ((Int.tmod t471 (shl .i64 1 (IntKind.u64.wrap (wrap64 (1 + t451))))) + (shr .i64 t471 (IntKind.u64.wrap (wrap64 (1 + t451)))))))) else (none))) else (none)))) else (none)) else (none)) else (none)) = some r := H
 have A12 := Aside0.mk A120
 clear A120
 by_cases c13 : t470 = true
 rotate_left
 ·replace c13 := Bool.eq_false_iff.mpr c13
  subst c13
  have H1 : (none) = some r := by rw [if_neg (show ¬ (false = true) by decide)] at H; exact H
  clear H
  have H := H1
  clear H1
  exact absurd H (by simp)
 subst c13
 have H1 : (if (t465.length : Int) = (wrap64 ((wrap64 (1 + t451)) + 1)) then (if 0 ≤ (IntKind.u64.wrap (wrap64 (2 * (wrap64 (1 + t451))))) then ((spec_P6Pick.f l1 (shl .i64 1 (IntKind.u64.wrap (wrap64 (2 * (wrap64 (1 + t451))))))).bind fun t471 => ((impl_EvalNetwork.f k t461 t462 t465 t471).bind fun bt472 => (if 0 ≤ (IntKind.u64.wrap (wrap64 (1 + t451))) then (if (shl .i64 1 (IntKind.u64.wrap (wrap64 (1 + t451)))) = 0 then (none) else (if bt472.2 = 0 then (some (bt472.1 == (wrap64 ((Int.tmod t471 (shl .i64 1 (IntKind.u64.wrap (wrap64 (1 + t451))))) + (shr .i64 t471 (IntKind.u64.wrap (wrap64 (1 + t451)))))))) else (none))) else (none)))) else (none)) else (none)) = some r := by rw [if_pos rfl] at H; exact H
 clear H
 have H := H1
 clear H1
 by_cases c14 : (t465.length : Int) = (wrap64 ((wrap64 (1 + t451)) + 1))
 rotate_left
 ·rw [if_neg c14] at H
  exact absurd H (by simp)
 rw [if_pos c14] at H
 have c14b0 : ((t465.length : Int) == (wrap64 ((wrap64 (1 + t451)) + 1))) = true := beq_iff_eq.mpr c14
 have c14b1 : ((t465.length : Int) != (wrap64 ((wrap64 (1 + t451)) + 1))) = false := bne_eq_false_iff_eq.mpr c14
 clear c14
 obtain ⟨ji15, hji15⟩ : ∃ j_ : Int, (IntKind.u64.wrap (wrap64 (2 * (wrap64 (1 + t451))))) = j_ := ⟨_, rfl⟩
 replace H : (if 0 ≤ (ji15) then ((spec_P6Pick.f l1 (shl .i64 1 (ji15))).bind fun t471 => ((impl_EvalNetwork.f k t461 t462 t465 t471).bind fun bt472 => (if 0 ≤ (IntKind.u64.wrap (wrap64 (1 + t451))) then (if (shl .i64 1 (IntKind.u64.wrap (wrap64 (1 + t451)))) = 0 then (none) else (if bt472.2 = 0 then (some (bt472.1 == (wrap64 ((Int.tmod t471 (shl .i64 1 (IntKind.u64.wrap (wrap64 (1 + t451))))) + (shr .i64 t471 (IntKind.u64.wrap (wrap64 (1 + t451)))))))) else (none))) else (none)))) else (none)) = some r := by first | (rw [hji15] at H; exact H) | (simp only [hji15] at H ⊢; exact H)
 (try rw [hji15] at A3)
 (try rw [hji15] at A5)
 (try rw [hji15] at A7)
 (try rw [hji15] at A8)
 (try rw [hji15] at A9)
 (try rw [hji15] at A12)
 by_cases c16 : 0 ≤ (ji15)
 rotate_left
 ·rw [if_neg c16] at H
  exact absurd H (by simp)
 rw [if_pos c16] at H
 have c16b0 := eq_true c16
 have c16b1 : decide (0 ≤ (ji15)) = true := decide_eq_true c16
 clear c16
 obtain ⟨ji17, hji17⟩ : ∃ j_ : Int, (shl .i64 1 (ji15)) = j_ := ⟨_, rfl⟩
 replace H : ((spec_P6Pick.f l1 (ji17)).bind fun t471 => ((impl_EvalNetwork.f k t461 t462 t465 t471).bind fun bt472 => (if 0 ≤ (IntKind.u64.wrap (wrap64 (1 + t451))) then (if (shl .i64 1 (IntKind.u64.wrap (wrap64 (1 + t451)))) = 0 then (none) else (if bt472.2 = 0 then (some (bt472.1 == (wrap64 ((Int.tmod t471 (shl .i64 1 (IntKind.u64.wrap (wrap64 (1 + t451))))) + (shr .i64 t471 (IntKind.u64.wrap (wrap64 (1 + t451)))))))) else (none))) else (none)))) = some r := by first | (rw [hji17] at H; exact H) | (simp only [hji17] at H ⊢; exact H)
 (try rw [hji17] at A3)
 (try rw [hji17] at A5)
 (try rw [hji17] at A7)
 (try rw [hji17] at A8)
 (try rw [hji17] at A9)
 (try rw [hji17] at A12)
 have hji17_ : (IntKind.i64.wrap (1 * 2 ^ min (ji15).toNat 64)) = ji17 := hji17
 have hji17z : (ji15) ≤ 64 → (IntKind.i64.wrap (1 * 2 ^ (ji15).toNat)) = ji17 := shl_small hji17
 have hji17u : (IntKind.i64.wrap (2 ^ min (ji15).toNat 64)) = ji17 := by have h_ := hji17_; rw [Int.one_mul] at h_; exact h_
 have hji17v : (ji15) ≤ 64 → (IntKind.i64.wrap (2 ^ (ji15).toNat)) = ji17 := fun hle_ => by have h_ := hji17z hle_; rw [Int.one_mul] at h_; exact h_
 have hji17y : (wrap64 (1 * 2 ^ min (ji15).toNat 64)) = ji17 := (i64_w _).symm.trans hji17_
 have hji17x : (ji15) ≤ 64 → (wrap64 (1 * 2 ^ (ji15).toNat)) = ji17 := fun h_ => (i64_w _).symm.trans (hji17z h_)
 replace H := zob H
 obtain ⟨t471, A180, H⟩ := H
 replace H : ((impl_EvalNetwork.f k t461 t462 t465 t471).bind fun bt472 => (if 0 ≤ (IntKind.u64.wrap (wrap64 (1 + t451))) then (if (shl .i64 1 (IntKind.u64.wrap (wrap64 (1 + t451)))) = 0 then (none) else (if bt472.2 = 0 then (some (bt472.1 == (wrap64 ((Int.tmod t471 (shl .i64 1 (IntKind.u64.wrap (wrap64 (1 + t451))))) + (shr .i64 t471 (IntKind.u64.wrap (wrap64 (1 + t451)))))))) else (none))) else (none))) = some r := H
 have A18 := Aside0.mk A180
 clear A180
 replace H := zob H
 obtain ⟨⟨t472, t473⟩, A190, H⟩ := H
 replace H : (if 0 ≤ (IntKind.u64.wrap (wrap64 (1 + t451))) then (if (shl .i64 1 (IntKind.u64.wrap (wrap64 (1 + t451)))) = 0 then (none) else (if t473 = 0 then (some (t472 == (wrap64 ((Int.tmod t471 (shl .i64 1 (IntKind.u64.wrap (wrap64 (1 + t451))))) + (shr .i64 t471 (IntKind.u64.wrap (wrap64 (1 + t451)))))))) else (none))) else (none)) = some r := H
 have A19 := Aside0.mk A190
 clear A190
 obtain ⟨ji20, hji20⟩ : ∃ j_ : Int, (IntKind.u64.wrap (wrap64 (1 + t451))) = j_ := ⟨_, rfl⟩
 replace H : (if 0 ≤ (ji20) then (if (shl .i64 1 (ji20)) = 0 then (none) else (if t473 = 0 then (some (t472 == (wrap64 ((Int.tmod t471 (shl .i64 1 (ji20))) + (shr .i64 t471 (ji20)))))) else (none))) else (none)) = some r := by first | (rw [hji20] at H; exact H) | (simp only [hji20] at H ⊢; exact H)
 (try rw [hji20] at A3)
 (try rw [hji20] at A5)
 (try rw [hji20] at A7)
 (try rw [hji20] at A8)
 (try rw [hji20] at A9)
 (try rw [hji20] at A12)
 (try rw [hji20] at A18)
 (try rw [hji20] at A19)
 by_cases c21 : 0 ≤ (ji20)
 rotate_left
 ·rw [if_neg c21] at H
  exact absurd H (by simp)
 rw [if_pos c21] at H
 have c21b0 := eq_true c21
 have c21b1 : decide (0 ≤ (ji20)) = true := decide_eq_true c21
 clear c21
 obtain ⟨ji22, hji22⟩ : ∃ j_ : Int, (shl .i64 1 (ji20)) = j_ := ⟨_, rfl⟩
 replace H : (if (ji22) = 0 then (none) else (if t473 = 0 then (some (t472 == (wrap64 ((Int.tmod t471 (ji22)) + (shr .i64 t471 (ji20)))))) else (none))) = some r := by first | (rw [hji22] at H; exact H) | (simp only [hji22] at H ⊢; exact H)
 (try rw [hji22] at A3)
 (try rw [hji22] at A5)
 (try rw [hji22] at A7)
 (try rw [hji22] at A8)
 (try rw [hji22] at A9)
 (try rw [hji22] at A12)
 (try rw [hji22] at A18)
 (try rw [hji22] at A19)
 have hji22_ : (IntKind.i64.wrap (1 * 2 ^ min (ji20).toNat 64)) = ji22 := hji22
 have hji22z : (ji20) ≤ 64 → (IntKind.i64.wrap (1 * 2 ^ (ji20).toNat)) = ji22 := shl_small hji22
 have hji22u : (IntKind.i64.wrap (2 ^ min (ji20).toNat 64)) = ji22 := by have h_ := hji22_; rw [Int.one_mul] at h_; exact h_
 have hji22v : (ji20) ≤ 64 → (IntKind.i64.wrap (2 ^ (ji20).toNat)) = ji22 := fun hle_ => by have h_ := hji22z hle_; rw [Int.one_mul] at h_; exact h_
 have hji22y : (wrap64 (1 * 2 ^ min (ji20).toNat 64)) = ji22 := (i64_w _).symm.trans hji22_
 have hji22x : (ji20) ≤ 64 → (wrap64 (1 * 2 ^ (ji20).toNat)) = ji22 := fun h_ => (i64_w _).symm.trans (hji22z h_)
 by_cases c23 : (ji22) = 0
 ·rw [if_pos c23] at H
  exact absurd H (by simp)
 rw [if_neg c23] at H
 have c23b0 : ((ji22) == 0) = false := beq_eq_false_iff_ne.mpr c23
 have c23b1 : ((ji22) != 0) = true := bne_iff_ne.mpr c23
 by_cases c24 : t473 = 0
 rotate_left
 ·rw [if_neg c24] at H
  exact absurd H (by simp)
 rw [if_pos c24] at H
 have c24b0 : (t473 == 0) = true := beq_iff_eq.mpr c24
 have c24b1 : (t473 != 0) = false := bne_eq_false_iff_eq.mpr c24
 clear c24
 have c25b0 := eq_true (of_decide_eq_true zA : 0 ≤ (ji20))
 obtain ⟨ji26, hji26⟩ : ∃ j_ : Int, (shr .i64 t471 (ji20)) = j_ := ⟨_, rfl⟩
 replace H : (some (t472 == (wrap64 ((Int.tmod t471 (ji22)) + (ji26))))) = some r := by first | (rw [hji26] at H; exact H) | (simp only [hji26] at H ⊢; exact H)
 (try rw [hji26] at A3)
 (try rw [hji26] at A5)
 (try rw [hji26] at A7)
 (try rw [hji26] at A8)
 (try rw [hji26] at A9)
 (try rw [hji26] at A12)
 (try rw [hji26] at A18)
 (try rw [hji26] at A19)
 have hji26_ : (t471 / 2 ^ min (ji20).toNat 64) = ji26 := hji26
 have hji26z : (ji20) ≤ 64 → (t471 / 2 ^ (ji20).toNat) = ji26 := shr_small hji26
 obtain rfl := Option.some.inj H
 go_enter Try.func3, Try.ntmps3
 go_wp2_with (first | ((with_reducible refine gate_callee (f := 5) rfl ?_); refine goesL_ (some 15) rfl rfl Try.func5 (by kernel_rfl) rfl #[.slice A0 l0.length c0] rfl zm ?_; (with_reducible refine (laws_f6big.calls _ _ l0 false _ ?side1 ?side2 A3.out).mono ?_); (case side1 => repeat (first | exact HR0.out | (with_reducible refine Kd.C_alloc ?_ _) | (with_reducible refine Kd.C_drewN ?_ _) | (with_reducible refine Kd.C_drew ?_))); (case side2 => exact HC0.out); rintro e w' ⟨rfl, ⟨nd, rfl⟩⟩; refine ⟨_, rfl, ?_⟩) | (go_at_call 5; (with_reducible refine (laws_f6big.calls _ _ l1 false _ ?side1 ?side2 A5.out).mono ?_); (case side1 => repeat (first | exact HR1.out | (with_reducible refine Kd.C_alloc ?_ _) | (with_reducible refine Kd.C_drewN ?_ _) | (with_reducible refine Kd.C_drew ?_))); (case side2 => exact HC1.out); rintro e w' ⟨rfl, ⟨nd, rfl⟩⟩) | ((with_reducible refine gate_callee (f := 6) rfl ?_); refine goesL_ (some 21) rfl rfl Try.func6 (by kernel_rfl) rfl #[.slice A0 l0.length c0, .int .i64 3] rfl zm ?_; (with_reducible refine (spec_P6Pick.calls _ _ l0 3 t451 _ ?side1 ?side2 A7.out).mono ?_); (case side1 => repeat (first | exact HR0.out | (with_reducible refine Kd.C_alloc ?_ _) | (with_reducible refine Kd.C_drewN ?_ _) | (with_reducible refine Kd.C_drew ?_))); (case side2 => exact HC0.out); rintro e w27 ⟨rfl, hb⟩; refine ⟨_, rfl, ?_⟩; have n0_ := zb HB hb; clear HB; have HB := n0_; clear n0_; (try clear hb); (try clear hb2); (try clear hk); (try clear hi)) | ((with_reducible refine gate_callee (f := 7) rfl ?_); refine goesL_ (some 25) rfl rfl Try.func7 (by kernel_rfl) rfl #[.int .i64 (wrap64 (1 + t451))] rfl zm ?_; (with_reducible refine (impl_AdderOf.calls k (wrap64 (1 + t451)) t452 t453 t456 t459 _ A8.out).mono ?_); rintro e w28 ⟨v454, v457, rfl, ho0, ho1, hb⟩; refine ⟨_, rfl, ?_⟩; have n_ : _ ∧ _ ∧ _ := ⟨Aside0.mk (Kd.R_lower ho0 (zz HB)), Aside0.mk (Kd.R_lower ho1 (zz HB)), zb HB hb⟩; clear HB; obtain ⟨HO455, HO458, HB⟩ := n_; (try clear hb); (try clear hb2); (try clear hk); (try clear hi); (try clear ho0); (try clear ho1)) | ((with_reducible refine gate_dst (N := 6) rfl ?_); (try (refine gate_guard (by rfl) ?_; dsimp only)); refine zbx 6 #[.int .i8 0, .slice none 0 0, .slice none 0 0] 29 ?_; intro gb460 hg w29 hbox hb; have n_ : _ ∧ _ ∧ _ ∧ _ ∧ _ ∧ _ := ⟨zr HO455 hb, zr HO458 hb, zb HB hb, Aside0.mk (hbox), zg HB hg, zg HB hg⟩; clear HO455 HO458 HB; obtain ⟨HO455, HO458, HB, BK460, GW460, GE460⟩ := n_; clear hb hbox hg; obtain ⟨z30_0, z30_1, z30_2, y30_0, y30_1, y30_2⟩ := zB3 BK460; obtain ⟨Ao31, co31, eo31⟩ := Kd.R_slice HO455.out; subst eo31; obtain ⟨Ao32, co32, eo32⟩ := Kd.R_slice HO458.out; subst eo32) | ((with_reducible refine gate_callee (f := 8) rfl ?_); refine goesL_ (some 30) rfl rfl Try.func8 (by kernel_rfl) rfl #[.int .i64 (wrap64 (1 + t451))] rfl zm ?_; (with_reducible refine (spec_AdderOf.calls k (wrap64 (1 + t451)) t461 t462 t465 t468 _ A9.out).mono ?_); rintro e w33 ⟨v463, v466, rfl, ho0, ho1, hb⟩; refine ⟨_, rfl, ?_⟩; have n_ : _ ∧ _ ∧ _ ∧ _ ∧ _ ∧ _ := ⟨Aside0.mk (Kd.R_elder' (zs HO455 BK460).out (Kd.R_base ho0) hb), Aside0.mk (Kd.R_elder' (zs HO458 BK460).out (Kd.R_base ho1) hb), Aside0.mk (Kd.R_lower (Kd.R_new' ho0 (Kd.R_lt (zs HO455 BK460).out)) (zz HB)), Aside0.mk (Kd.R_lower (Kd.R_new' ho1 (Kd.R_lt (zs HO458 BK460).out)) (zz HB)), Aside0.mk (blk_below (g := gb460) (o := .cells #[.int .i8 t452, .slice Ao31 t453.length co31, .slice Ao32 t456.length co32] 29 (0, 0)) (zp BK460) hb), zbs hb⟩; clear HO455 HO458 BK460 HB; obtain ⟨HO455, HO458, HO464, HO467, BK460, HB⟩ := n_; (try clear hb); (try clear hb2); (try clear hk); (try clear hi); (try clear ho0); (try clear ho1)) | ((with_reducible refine gate_dst (N := 8) rfl ?_); (try (refine gate_guard (by rfl) ?_; dsimp only)); refine zbx 8 #[.int .i8 0, .slice none 0 0, .slice none 0 0] 29 ?_; intro gb469 hg w34 hbox hb; have n_ : _ ∧ _ ∧ _ ∧ _ ∧ _ ∧ _ ∧ _ ∧ _ ∧ _ ∧ _ ∧ _ := ⟨zr HO455 hb, zr HO458 hb, zr HO464 hb, zr HO467 hb, zk BK460 hb, zbs hb, Aside0.mk (hbox), zg HB hg, zg HB hg, zn1 BK460 hg, zn2 BK460 hg⟩; clear HO455 HO458 HO464 HO467 BK460 HB; obtain ⟨HO455, HO458, HO464, HO467, BK460, HB, BK469, GW469, GE469, NB460_469, NB469_460⟩ := n_; clear hb hbox hg; have hnb35 := NB469_460.out; have hnc35 := NB460_469.out; obtain ⟨z36_0, z36_1, z36_2, y36_0, y36_1, y36_2⟩ := zB3 BK469; obtain ⟨Ao37, co37, eo37⟩ := Kd.R_slice HO464.out; subst eo37; obtain ⟨Ao38, co38, eo38⟩ := Kd.R_slice HO467.out; subst eo38; obtain ⟨z39_0, z39_1, z39_2, y39_0, y39_1, y39_2⟩ := zB3 BK460) | (go_at_call 9; (with_reducible refine (spec_SameNetwork.calls k t452 _ _ t453 _ _ t456 t461 _ _ t462 _ _ t465 true _ ?side1 ?side2 ?side3 ?side4 ?side5 ?side6 ?side7 ?side8 A12.out).mono ?_); (case side1 => exact (Kd.R_reads' (zs HO455 BK469).out).2.2); (case side2 => exact (Kd.R_reads' HO455.out).2.1); (case side3 => exact (Kd.R_reads' (zs HO458 BK469).out).2.2); (case side4 => exact (Kd.R_reads' HO458.out).2.1); (case side5 => exact (Kd.R_reads' (zs HO464 BK469).out).2.2); (case side6 => exact (Kd.R_reads' HO464.out).2.1); (case side7 => exact (Kd.R_reads' (zs HO467 BK469).out).2.2); (case side8 => exact (Kd.R_reads' HO467.out).2.1); rintro e w40 ⟨rfl, hb⟩; have n_ : _ ∧ _ ∧ _ ∧ _ ∧ _ ∧ _ ∧ _ := ⟨zsb HO455 BK469 hb, zsb HO458 BK469 hb, zsb HO464 BK469 hb, zsb HO467 BK469 hb, zfb BK460 NB460_469 hb, Aside0.mk (blk_below (g := gb469) (o := .cells #[.int .i8 t461, .slice Ao37 t462.length co37, .slice Ao38 t465.length co38] 29 (0, 0)) (zp BK469) hb), zbs hb⟩; clear HO455 HO458 HO464 HO467 BK460 BK469 HB; obtain ⟨HO455, HO458, HO464, HO467, BK460, BK469, HB⟩ := n_; (try clear hb); (try clear hb2); (try clear hk); (try clear hi); obtain ⟨z41_0, z41_1, z41_2, y41_0, y41_1, y41_2⟩ := zB3 BK469) | ((with_reducible refine gate_callee (f := 6) rfl ?_); refine goesL_ (some 59) rfl rfl Try.func6 (by kernel_rfl) rfl #[.slice A1 l1.length c1, .int .i64 ji17] rfl (by (try simp only [List.map_toArray, List.map_cons, List.map_nil]); first | done | (simp only [hji17]; rfl) | rfl | (simp only [List.length_drop, List.length_take]; rfl)) ?_; (with_reducible refine (spec_P6Pick.calls _ _ l1 ji17 t471 _ ?side1 ?side2 A18.out).mono ?_); (case side1 => exact zcc HB HR1.out); (case side2 => exact HC1.out); rintro e w42 ⟨rfl, hb⟩; refine ⟨_, rfl, ?_⟩; have n_ : _ ∧ _ ∧ _ ∧ _ ∧ _ ∧ _ ∧ _ := ⟨zr HO455 hb, zr HO458 hb, zr HO464 hb, zr HO467 hb, zk BK460 hb, zk BK469 hb, zbs hb⟩; clear HO455 HO458 HO464 HO467 BK460 BK469 HB; obtain ⟨HO455, HO458, HO464, HO467, BK460, BK469, HB⟩ := n_; (try clear hb); (try clear hb2); (try clear hk); (try clear hi); obtain ⟨z43_0, z43_1, z43_2, y43_0, y43_1, y43_2⟩ := zB3 BK469) | ((with_reducible refine gate_callee (f := 10) rfl ?_); refine goesL_ (some 63) rfl rfl Try.func10 (by kernel_rfl) rfl #[.agg #[.int .i8 t461, .slice Ao37 t462.length co37, .slice Ao38 t465.length co38], .int .i64 t471] rfl zm ?_; (with_reducible refine (impl_EvalNetwork.calls k t461 _ _ t462 _ _ t465 t471 t472 t473 _ ?side1 ?side2 ?side3 ?side4 A19.out).mono ?_); (case side1 => exact zrc HO464); (case side2 => exact (Kd.R_reads' HO464.out).2.1); (case side3 => exact zrc HO467); (case side4 => exact (Kd.R_reads' HO467.out).2.1); rintro e w44 ⟨rfl, hb⟩; refine ⟨_, rfl, ?_⟩; have n_ : _ ∧ _ ∧ _ ∧ _ ∧ _ ∧ _ ∧ _ := ⟨zr HO455 hb, zr HO458 hb, zr HO464 hb, zr HO467 hb, zk BK460 hb, zk BK469 hb, zbs hb⟩; clear HO455 HO458 HO464 HO467 BK460 BK469 HB; obtain ⟨HO455, HO458, HO464, HO467, BK460, BK469, HB⟩ := n_; (try clear hb); (try clear hb2); (try clear hk); (try clear hi)))
 go_ret
 exact ⟨by first | rfl | (simp [errW_none, errW_some] <;> rfl) | (simp only [← hji15, ← hji17, ← hji20, ← hji22, ← hji26]; first | rfl | (simp [errW_none, errW_some] <;> rfl)) | (simp [*, errW_none, errW_some] <;> rfl), zbo⟩
/-- THE ONE PURE STATEMENT of laws_FnAdders: yours. -/
def laws_FnAdders.Pure : Prop := ∀ (l0 : List Int) (l1 : List Int), l0.length ≤ maxLen → l0.length * 1 ≤ 140737488351232 → (∀ x ∈ l0, (Lit.int .u8 x).wf = true) → l1.length ≤ maxLen → l1.length * 1 ≤ 140737488351232 → (∀ x ∈ l1, (Lit.int .u8 x).wf = true) → ∃ k, laws_FnAdders.f k l0 l1 = some true
theorem laws_FnAdders.walk (P : laws_FnAdders.Pure) (a0 : Option Addr) (len0 cap0 : Nat) (z0 : List Int) (a1 : Option Addr) (len1 cap1 : Nat) (z1 : List Int) (w : World) (w0 : (a0 = none ∧ len0 = 0 ∧ cap0 = 0 ∧ z0 = []) ∨ ∃ x, a0 = some x ∧ len0 ≤ cap0 ∧ cap0 ≤ maxLen ∧ z0.length = cap0 ∧ (∀ i, i < z0.length → w.cell? (x.add i) = some (.int .u8 (z0.getD i 0))) ∧ ∀ n ∈ z0, (Lit.int .u8 n).wf = true) (y0 : len0 * 1 ≤ 140737488351232) (w1 : (a1 = none ∧ len1 = 0 ∧ cap1 = 0 ∧ z1 = []) ∨ ∃ x, a1 = some x ∧ len1 ≤ cap1 ∧ cap1 ≤ maxLen ∧ z1.length = cap1 ∧ (∀ i, i < z1.length → w.cell? (x.add i) = some (.int .u8 (z1.getD i 0))) ∧ ∀ n ∈ z1, (Lit.int .u8 n).wf = true) (y1 : len1 * 1 ≤ 140737488351232) :
    Calls Try.prog 3 #[.slice a0 len0 cap0, .slice a1 len1 cap1] w fun e w' => e = .returned (.bool true) ∧ Below w.heap.size w w' := by
 obtain ⟨l0, rfl, hr0, hm0, hw0, hc0⟩ := ReadsInt.ofRowC w0
 obtain ⟨l1, rfl, hr1, hm1, hw1, hc1⟩ := ReadsInt.ofRowC w1
 obtain ⟨k, h⟩ := P l0 l1 hm0 y0 hw0 hm1 y1 hw1
 refine (laws_FnAdders.calls k _ _ l0 _ _ l1 true w (Kd.C_of_reads (d := (0 : Int)) (h1 := fun _ => rfl) hr0) hc0 (Kd.C_of_reads (d := (0 : Int)) (h1 := fun _ => rfl) hr1) hc1 h).mono ?_
 rintro e w' ⟨rfl, hd⟩
 exact ⟨rfl, hd⟩
end Go.Proofs.Ytkflenibdijnaaa.PFnAdders
