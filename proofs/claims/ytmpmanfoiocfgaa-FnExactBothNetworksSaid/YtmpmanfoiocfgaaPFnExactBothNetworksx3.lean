-- WRITTEN by xprint.py, a program of this session's. Not trusted: Lean checks it.
-- packed by pack.py
import Derived.Test.YtmpmanfoiocfgaaPFnExactBothNetworksx0
import Derived.Test.YtmpmanfoiocfgaaTFnExactBothNetworksa
namespace Go.Proofs.Ytmpmanfoiocfgaa.PFnExactBothNetworks
open Go.RowKit Go.Proofs.YtmpmanfoiocfgaaW.PrintWords Go.Proofs.YtmpmanfoiocfgaaW.PrintLast Go.Proofs.YtmpmanfoiocfgaaW.PrintMore Go.Proofs.YtmpmanfoiocfgaaX
attribute [local go_sem] max2_int min2_int max_two min_two max_three min_three max_four min_four   -- for this text's walks alone
set_option maxHeartbeats 8000000
set_option maxRecDepth 100000
set_option linter.unusedVariables false
set_option linter.unusedSimpArgs false

def spec_l00In.f (a0 : Int) (a1 : Int) (a2 : Int) : Option (Bool) := if a0 ≥ a1 then (some (decide (a0 ≤ a2))) else (some false)
theorem spec_l00In.calls (a0 : Int) (a1 : Int) (a2 : Int) (r : Bool) (w : World) (h : spec_l00In.f a0 a1 a2 = some r) :
    Calls Try.prog 87 #[.int .i64 a0, .int .i64 a1, .int .i64 a2] w fun e w' => e = .returned (.bool r) ∧ Drawn0 w w' := by
 have H : (if a0 ≥ a1 then (some (decide (a0 ≤ a2))) else (some false)) = some r := h
 clear h
 by_cases c4 : a0 ≥ a1
 ·rw [if_pos c4] at H
  have c4b0 : decide (a1 ≤ a0) = true := decide_eq_true c4
  clear c4
  obtain rfl := Option.some.inj H
  go_enter Try.func87, Try.ntmps87
  go_wp2
  go_ret
  exact ⟨zi, zdr⟩
 rw [if_neg c4] at H
 have c4b0 : decide (a1 ≤ a0) = false := decide_eq_false c4
 clear c4
 obtain rfl := Option.some.inj H
 go_enter Try.func87, Try.ntmps87
 go_wp2
 go_ret
 exact ⟨zi, zdr⟩
def spec_l04Node.f (l0 : List (S31)) (a1 : Int) : Option (Bool) := if 0 < (l0.length : Int) then (if 0 ≤ a1 then (if a1 < (((rd_T31 l0 0).f1).length : Int) then (if ((rd_T81 ((rd_T31 l0 0).f1) a1).f0) = 0 then (if ((rd_T81 ((rd_T31 l0 0).f1) a1).f1) ≥ 0 then (if ((rd_T81 ((rd_T31 l0 0).f1) a1).f1) < (IntKind.i16.wrap ((rd_T31 l0 0).f0)) then (some (((rd_T81 ((rd_T31 l0 0).f1) a1).f2) == 0)) else (some false)) else (some false)) else (if ((rd_T81 ((rd_T31 l0 0).f1) a1).f0) = 1 then (if ((rd_T81 ((rd_T31 l0 0).f1) a1).f1) = 0 then (some (((rd_T81 ((rd_T31 l0 0).f1) a1).f2) == 0)) else (some false)) else (if ((rd_T81 ((rd_T31 l0 0).f1) a1).f0) = 2 then (if ((rd_T81 ((rd_T31 l0 0).f1) a1).f1) ≥ 0 then (if (wrap64 ((rd_T81 ((rd_T31 l0 0).f1) a1).f1)) < a1 then (if ((rd_T81 ((rd_T31 l0 0).f1) a1).f2) ≥ 0 then (some (decide ((wrap64 ((rd_T81 ((rd_T31 l0 0).f1) a1).f2)) < a1))) else (some false)) else (some false)) else (some false)) else (if ((rd_T81 ((rd_T31 l0 0).f1) a1).f0) = 3 then (if ((rd_T81 ((rd_T31 l0 0).f1) a1).f1) ≥ 0 then (if (wrap64 ((rd_T81 ((rd_T31 l0 0).f1) a1).f1)) < a1 then (if ((rd_T81 ((rd_T31 l0 0).f1) a1).f2) ≥ 0 then (some (decide ((wrap64 ((rd_T81 ((rd_T31 l0 0).f1) a1).f2)) < a1))) else (some false)) else (some false)) else (some false)) else (some false))))) else (none)) else (none)) else (none)
theorem spec_l04Node.calls (adp0 : Addr) (l0 : List (S31)) (a1 : Int) (r : Bool) (w : World) (hr0 : Kd.C k31 w (some adp0) l0.length l0) (h : spec_l04Node.f l0 a1 = some r) :
    Calls Try.prog 125 #[.pointer (some adp0), .int .i64 a1] w fun e w' => e = .returned (.bool r) ∧ Below w.heap.size w w' := by
 have hu81 := Try.underlying81
 have HR0 := Aside0.mk hr0
 clear hr0
 have HB := Aside0.mk (Below.refl w.heap.size w)
 have H : (if 0 < (l0.length : Int) then (if 0 ≤ a1 then (if a1 < (((rd_T31 l0 0).f1).length : Int) then (if ((rd_T81 ((rd_T31 l0 0).f1) a1).f0) = 0 then (if ((rd_T81 ((rd_T31 l0 0).f1) a1).f1) ≥ 0 then (if ((rd_T81 ((rd_T31 l0 0).f1) a1).f1) < (IntKind.i16.wrap ((rd_T31 l0 0).f0)) then (some (((rd_T81 ((rd_T31 l0 0).f1) a1).f2) == 0)) else (some false)) else (some false)) else (if ((rd_T81 ((rd_T31 l0 0).f1) a1).f0) = 1 then (if ((rd_T81 ((rd_T31 l0 0).f1) a1).f1) = 0 then (some (((rd_T81 ((rd_T31 l0 0).f1) a1).f2) == 0)) else (some false)) else (if ((rd_T81 ((rd_T31 l0 0).f1) a1).f0) = 2 then (if ((rd_T81 ((rd_T31 l0 0).f1) a1).f1) ≥ 0 then (if (wrap64 ((rd_T81 ((rd_T31 l0 0).f1) a1).f1)) < a1 then (if ((rd_T81 ((rd_T31 l0 0).f1) a1).f2) ≥ 0 then (some (decide ((wrap64 ((rd_T81 ((rd_T31 l0 0).f1) a1).f2)) < a1))) else (some false)) else (some false)) else (some false)) else (if ((rd_T81 ((rd_T31 l0 0).f1) a1).f0) = 3 then (if ((rd_T81 ((rd_T31 l0 0).f1) a1).f1) ≥ 0 then (if (wrap64 ((rd_T81 ((rd_T31 l0 0).f1) a1).f1)) < a1 then (if ((rd_T81 ((rd_T31 l0 0).f1) a1).f2) ≥ 0 then (some (decide ((wrap64 ((rd_T81 ((rd_T31 l0 0).f1) a1).f2)) < a1))) else (some false)) else (some false)) else (some false)) else (some false))))) else (none)) else (none)) else (none)) = some r := h
 clear h
 by_cases c3 : 0 < (l0.length : Int)
 rotate_left
 ·rw [if_neg c3] at H
  exact absurd H (by simp)
 rw [if_pos c3] at H
 have c3b0 : decide (0 < (l0.length : Int)) = true := decide_eq_true c3
 have c3b1 : decide (0 < l0.length) = true := decide_eq_true (by omega)
 clear c3
 by_cases c4 : 0 ≤ a1
 rotate_left
 ·rw [if_neg c4] at H
  exact absurd H (by simp)
 rw [if_pos c4] at H
 have c4b0 : decide (0 ≤ a1) = true := decide_eq_true c4
 clear c4
 by_cases c5 : a1 < (((rd_T31 l0 0).f1).length : Int)
 rotate_left
 ·rw [if_neg c5] at H
  exact absurd H (by simp)
 rw [if_pos c5] at H
 have c5b0 : decide (a1 < (((rd_T31 l0 0).f1).length : Int)) = true := decide_eq_true c5
 clear c5
 by_cases c6 : ((rd_T81 ((rd_T31 l0 0).f1) a1).f0) = 0
 ·rw [if_pos c6] at H
  have c6b0 : (((rd_T81 ((rd_T31 l0 0).f1) a1).f0) == 0) = true := beq_iff_eq.mpr c6
  have c6b1 : (((rd_T81 ((rd_T31 l0 0).f1) a1).f0) != 0) = false := bne_eq_false_iff_eq.mpr c6
  clear c6
  by_cases c7 : ((rd_T81 ((rd_T31 l0 0).f1) a1).f1) ≥ 0
  rotate_left
  ·rw [if_neg c7] at H
   have c7b0 : decide (0 ≤ ((rd_T81 ((rd_T31 l0 0).f1) a1).f1)) = false := decide_eq_false c7
   clear c7
   obtain rfl := Option.some.inj H
   have p156 : 0 ≤ (0 : Int) := (by omega)
   have q156 : 0 < (l0.length : Int) := of_decide_eq_true zA
   obtain ⟨ad156, A156_1, c156_1, A156_2, c156_2, e156, hx156_0, hx156_1, hx156_2, hl156_1, hi156_1, hl156_2, hi156_2⟩ := at_T31 HR0.out 0 p156 q156
   obtain rfl : adp0 = ad156 := (by injection e156)
   have qi156 : (0 < l0.length) = True := eq_true (by omega)
   try simp only [z00, Nat.zero_mul, Addr.add_zero'] at hx156_0 hx156_1 hx156_2
   have HR156_1 := Aside0.mk hi156_1
   have HC156_1 := Aside0.mk hl156_1
   clear hi156_1 hl156_1
   have HR156_2 := Aside0.mk hi156_2
   have HC156_2 := Aside0.mk hl156_2
   clear hi156_2 hl156_2
   replace p156 := eq_true p156
   replace q156 := eq_true q156
   have p157 : 0 ≤ (a1 : Int) := of_decide_eq_true zA
   have q157 : a1 < (((rd_T31 l0 0).f1).length : Int) := of_decide_eq_true zA
   obtain ⟨ad157, e157, hx157_0, hx157_1, hx157_2⟩ := at_T81 HR156_1.out a1 p157 q157
   cases e157
   replace p157 := eq_true p157
   replace q157 := eq_true q157
   go_enter Try.func125, Try.ntmps125
   go_wp2_with (first | ((with_reducible refine gate_dst (N := 5) rfl ?_); refine zbx 5 #[.int .i8 0, .int .i16 0, .int .i16 0] 81 ?_; intro gb158 hg w13 hbox hb; have n_ : _ ∧ _ ∧ _ ∧ _ := ⟨zb HB hb, Aside0.mk (hbox), zg HB hg, zg HB hg⟩; clear HB; obtain ⟨HB, BK158, GW158, GE158⟩ := n_; clear hb hbox hg; obtain ⟨z14_0, z14_1, z14_2, y14_0, y14_1, y14_2⟩ := zB3 BK158) | go_quiet (fail))
   go_ret
   exact ⟨zv, zbo⟩
  rw [if_pos c7] at H
  have c7b0 : decide (0 ≤ ((rd_T81 ((rd_T31 l0 0).f1) a1).f1)) = true := decide_eq_true c7
  clear c7
  by_cases c8 : ((rd_T81 ((rd_T31 l0 0).f1) a1).f1) < (IntKind.i16.wrap ((rd_T31 l0 0).f0))
  ·rw [if_pos c8] at H
   have c8b0 : decide (((rd_T81 ((rd_T31 l0 0).f1) a1).f1) < (IntKind.i16.wrap ((rd_T31 l0 0).f0))) = true := decide_eq_true c8
   clear c8
   obtain rfl := Option.some.inj H
   have p156 : 0 ≤ (0 : Int) := (by omega)
   have q156 : 0 < (l0.length : Int) := of_decide_eq_true zA
   obtain ⟨ad156, A156_1, c156_1, A156_2, c156_2, e156, hx156_0, hx156_1, hx156_2, hl156_1, hi156_1, hl156_2, hi156_2⟩ := at_T31 HR0.out 0 p156 q156
   obtain rfl : adp0 = ad156 := (by injection e156)
   have qi156 : (0 < l0.length) = True := eq_true (by omega)
   try simp only [z00, Nat.zero_mul, Addr.add_zero'] at hx156_0 hx156_1 hx156_2
   have HR156_1 := Aside0.mk hi156_1
   have HC156_1 := Aside0.mk hl156_1
   clear hi156_1 hl156_1
   have HR156_2 := Aside0.mk hi156_2
   have HC156_2 := Aside0.mk hl156_2
   clear hi156_2 hl156_2
   replace p156 := eq_true p156
   replace q156 := eq_true q156
   have p157 : 0 ≤ (a1 : Int) := of_decide_eq_true zA
   have q157 : a1 < (((rd_T31 l0 0).f1).length : Int) := of_decide_eq_true zA
   obtain ⟨ad157, e157, hx157_0, hx157_1, hx157_2⟩ := at_T81 HR156_1.out a1 p157 q157
   cases e157
   replace p157 := eq_true p157
   replace q157 := eq_true q157
   go_enter Try.func125, Try.ntmps125
   go_wp2_with (first | ((with_reducible refine gate_dst (N := 5) rfl ?_); refine zbx 5 #[.int .i8 0, .int .i16 0, .int .i16 0] 81 ?_; intro gb158 hg w9 hbox hb; have n_ : _ ∧ _ ∧ _ ∧ _ := ⟨zb HB hb, Aside0.mk (hbox), zg HB hg, zg HB hg⟩; clear HB; obtain ⟨HB, BK158, GW158, GE158⟩ := n_; clear hb hbox hg; obtain ⟨z10_0, z10_1, z10_2, y10_0, y10_1, y10_2⟩ := zB3 BK158; have p159 : 0 ≤ (0 : Int) := (by omega); have q159 : 0 < (l0.length : Int) := of_decide_eq_true zA; obtain ⟨ad159, A159_1, c159_1, A159_2, c159_2, e159, hx159_0, hx159_1, hx159_2, hl159_1, hi159_1, hl159_2, hi159_2⟩ := at_T31 HR0.out 0 p159 q159; obtain rfl : adp0 = ad159 := (by injection e159); have qi159 : (0 < l0.length) = True := eq_true (by omega); (try simp only [z00, Nat.zero_mul, Addr.add_zero'] at hx159_0 hx159_1 hx159_2); have hn159_0 : adp0.block ≠ gb158 := Nat.ne_of_lt (Nat.lt_of_lt_of_le (by have := World.block_lt_of_cell? _ _ hx159_0; first | rwa [add_block] at this | exact this) GW158.out); have hn159_1 : adp0.block ≠ gb158 := Nat.ne_of_lt (Nat.lt_of_lt_of_le (by have := World.block_lt_of_cell? _ _ hx159_0; first | rwa [add_block] at this | exact this) GW158.out); have hn159_2 : adp0.block ≠ gb158 := Nat.ne_of_lt (Nat.lt_of_lt_of_le (by have := World.block_lt_of_cell? _ _ hx159_0; first | rwa [add_block] at this | exact this) GW158.out); replace hx159_0 := zc HB hx159_0; replace hx159_1 := zc HB hx159_1; replace hx159_2 := zc HB hx159_2; have HR159_1 := Aside0.mk hi159_1; have HC159_1 := Aside0.mk hl159_1; clear hi159_1 hl159_1; have HR159_2 := Aside0.mk hi159_2; have HC159_2 := Aside0.mk hl159_2; clear hi159_2 hl159_2; replace hx159_0 := (cell_far (p := ⟨gb158, 0, none⟩) (by first | (rw [add_block]; exact hn159_0) | (show (Addr.add _ _).block ≠ _; rw [add_block]; exact hn159_0) | exact hn159_0) (.int .i8 ((rd_T81 ((rd_T31 l0 0).f1) a1).f0))).trans hx159_0; replace hx159_1 := (cell_far (p := ⟨gb158, 0, none⟩) (by first | (rw [add_block]; exact hn159_0) | (show (Addr.add _ _).block ≠ _; rw [add_block]; exact hn159_0) | exact hn159_0) (.int .i8 ((rd_T81 ((rd_T31 l0 0).f1) a1).f0))).trans hx159_1; replace hx159_2 := (cell_far (p := ⟨gb158, 0, none⟩) (by first | (rw [add_block]; exact hn159_0) | (show (Addr.add _ _).block ≠ _; rw [add_block]; exact hn159_0) | exact hn159_0) (.int .i8 ((rd_T81 ((rd_T31 l0 0).f1) a1).f0))).trans hx159_2; replace hx159_0 := (cell_far (p := ⟨gb158, 1, none⟩) (by first | (rw [add_block]; exact hn159_1) | (show (Addr.add _ _).block ≠ _; rw [add_block]; exact hn159_1) | exact hn159_1) (.int .i16 ((rd_T81 ((rd_T31 l0 0).f1) a1).f1))).trans hx159_0; replace hx159_1 := (cell_far (p := ⟨gb158, 1, none⟩) (by first | (rw [add_block]; exact hn159_1) | (show (Addr.add _ _).block ≠ _; rw [add_block]; exact hn159_1) | exact hn159_1) (.int .i16 ((rd_T81 ((rd_T31 l0 0).f1) a1).f1))).trans hx159_1; replace hx159_2 := (cell_far (p := ⟨gb158, 1, none⟩) (by first | (rw [add_block]; exact hn159_1) | (show (Addr.add _ _).block ≠ _; rw [add_block]; exact hn159_1) | exact hn159_1) (.int .i16 ((rd_T81 ((rd_T31 l0 0).f1) a1).f1))).trans hx159_2; replace hx159_0 := (cell_far (p := ⟨gb158, 2, none⟩) (by first | (rw [add_block]; exact hn159_2) | (show (Addr.add _ _).block ≠ _; rw [add_block]; exact hn159_2) | exact hn159_2) (.int .i16 ((rd_T81 ((rd_T31 l0 0).f1) a1).f2))).trans hx159_0; replace hx159_1 := (cell_far (p := ⟨gb158, 2, none⟩) (by first | (rw [add_block]; exact hn159_2) | (show (Addr.add _ _).block ≠ _; rw [add_block]; exact hn159_2) | exact hn159_2) (.int .i16 ((rd_T81 ((rd_T31 l0 0).f1) a1).f2))).trans hx159_1; replace hx159_2 := (cell_far (p := ⟨gb158, 2, none⟩) (by first | (rw [add_block]; exact hn159_2) | (show (Addr.add _ _).block ≠ _; rw [add_block]; exact hn159_2) | exact hn159_2) (.int .i16 ((rd_T81 ((rd_T31 l0 0).f1) a1).f2))).trans hx159_2; (try have hy159_0 := fun (n_ : Nat) => (show (((((w9.drewN n_).setCell ⟨gb158, 0, none⟩ (.int .i8 ((rd_T81 ((rd_T31 l0 0).f1) a1).f0))).setCell ⟨gb158, 1, none⟩ (.int .i16 ((rd_T81 ((rd_T31 l0 0).f1) a1).f1))).setCell ⟨gb158, 2, none⟩ (.int .i16 ((rd_T81 ((rd_T31 l0 0).f1) a1).f2)))).cell? _ = some _ from hx159_0)); (try have hy159_1 := fun (n_ : Nat) => (show (((((w9.drewN n_).setCell ⟨gb158, 0, none⟩ (.int .i8 ((rd_T81 ((rd_T31 l0 0).f1) a1).f0))).setCell ⟨gb158, 1, none⟩ (.int .i16 ((rd_T81 ((rd_T31 l0 0).f1) a1).f1))).setCell ⟨gb158, 2, none⟩ (.int .i16 ((rd_T81 ((rd_T31 l0 0).f1) a1).f2)))).cell? _ = some _ from hx159_1)); (try have hy159_2 := fun (n_ : Nat) => (show (((((w9.drewN n_).setCell ⟨gb158, 0, none⟩ (.int .i8 ((rd_T81 ((rd_T31 l0 0).f1) a1).f0))).setCell ⟨gb158, 1, none⟩ (.int .i16 ((rd_T81 ((rd_T31 l0 0).f1) a1).f1))).setCell ⟨gb158, 2, none⟩ (.int .i16 ((rd_T81 ((rd_T31 l0 0).f1) a1).f2)))).cell? _ = some _ from hx159_2)); clear hn159_0; clear hn159_1; clear hn159_2; replace p159 := eq_true p159; replace q159 := eq_true q159) | go_quiet (fail))
   go_ret
   exact ⟨zv, zbo⟩
  rw [if_neg c8] at H
  have c8b0 : decide (((rd_T81 ((rd_T31 l0 0).f1) a1).f1) < (IntKind.i16.wrap ((rd_T31 l0 0).f0))) = false := decide_eq_false c8
  clear c8
  obtain rfl := Option.some.inj H
  have p156 : 0 ≤ (0 : Int) := (by omega)
  have q156 : 0 < (l0.length : Int) := of_decide_eq_true zA
  obtain ⟨ad156, A156_1, c156_1, A156_2, c156_2, e156, hx156_0, hx156_1, hx156_2, hl156_1, hi156_1, hl156_2, hi156_2⟩ := at_T31 HR0.out 0 p156 q156
  obtain rfl : adp0 = ad156 := (by injection e156)
  have qi156 : (0 < l0.length) = True := eq_true (by omega)
  try simp only [z00, Nat.zero_mul, Addr.add_zero'] at hx156_0 hx156_1 hx156_2
  have HR156_1 := Aside0.mk hi156_1
  have HC156_1 := Aside0.mk hl156_1
  clear hi156_1 hl156_1
  have HR156_2 := Aside0.mk hi156_2
  have HC156_2 := Aside0.mk hl156_2
  clear hi156_2 hl156_2
  replace p156 := eq_true p156
  replace q156 := eq_true q156
  have p157 : 0 ≤ (a1 : Int) := of_decide_eq_true zA
  have q157 : a1 < (((rd_T31 l0 0).f1).length : Int) := of_decide_eq_true zA
  obtain ⟨ad157, e157, hx157_0, hx157_1, hx157_2⟩ := at_T81 HR156_1.out a1 p157 q157
  cases e157
  replace p157 := eq_true p157
  replace q157 := eq_true q157
  go_enter Try.func125, Try.ntmps125
  go_wp2_with (first | ((with_reducible refine gate_dst (N := 5) rfl ?_); refine zbx 5 #[.int .i8 0, .int .i16 0, .int .i16 0] 81 ?_; intro gb158 hg w11 hbox hb; have n_ : _ ∧ _ ∧ _ ∧ _ := ⟨zb HB hb, Aside0.mk (hbox), zg HB hg, zg HB hg⟩; clear HB; obtain ⟨HB, BK158, GW158, GE158⟩ := n_; clear hb hbox hg; obtain ⟨z12_0, z12_1, z12_2, y12_0, y12_1, y12_2⟩ := zB3 BK158; have p159 : 0 ≤ (0 : Int) := (by omega); have q159 : 0 < (l0.length : Int) := of_decide_eq_true zA; obtain ⟨ad159, A159_1, c159_1, A159_2, c159_2, e159, hx159_0, hx159_1, hx159_2, hl159_1, hi159_1, hl159_2, hi159_2⟩ := at_T31 HR0.out 0 p159 q159; obtain rfl : adp0 = ad159 := (by injection e159); have qi159 : (0 < l0.length) = True := eq_true (by omega); (try simp only [z00, Nat.zero_mul, Addr.add_zero'] at hx159_0 hx159_1 hx159_2); have hn159_0 : adp0.block ≠ gb158 := Nat.ne_of_lt (Nat.lt_of_lt_of_le (by have := World.block_lt_of_cell? _ _ hx159_0; first | rwa [add_block] at this | exact this) GW158.out); have hn159_1 : adp0.block ≠ gb158 := Nat.ne_of_lt (Nat.lt_of_lt_of_le (by have := World.block_lt_of_cell? _ _ hx159_0; first | rwa [add_block] at this | exact this) GW158.out); have hn159_2 : adp0.block ≠ gb158 := Nat.ne_of_lt (Nat.lt_of_lt_of_le (by have := World.block_lt_of_cell? _ _ hx159_0; first | rwa [add_block] at this | exact this) GW158.out); replace hx159_0 := zc HB hx159_0; replace hx159_1 := zc HB hx159_1; replace hx159_2 := zc HB hx159_2; have HR159_1 := Aside0.mk hi159_1; have HC159_1 := Aside0.mk hl159_1; clear hi159_1 hl159_1; have HR159_2 := Aside0.mk hi159_2; have HC159_2 := Aside0.mk hl159_2; clear hi159_2 hl159_2; replace hx159_0 := (cell_far (p := ⟨gb158, 0, none⟩) (by first | (rw [add_block]; exact hn159_0) | (show (Addr.add _ _).block ≠ _; rw [add_block]; exact hn159_0) | exact hn159_0) (.int .i8 ((rd_T81 ((rd_T31 l0 0).f1) a1).f0))).trans hx159_0; replace hx159_1 := (cell_far (p := ⟨gb158, 0, none⟩) (by first | (rw [add_block]; exact hn159_0) | (show (Addr.add _ _).block ≠ _; rw [add_block]; exact hn159_0) | exact hn159_0) (.int .i8 ((rd_T81 ((rd_T31 l0 0).f1) a1).f0))).trans hx159_1; replace hx159_2 := (cell_far (p := ⟨gb158, 0, none⟩) (by first | (rw [add_block]; exact hn159_0) | (show (Addr.add _ _).block ≠ _; rw [add_block]; exact hn159_0) | exact hn159_0) (.int .i8 ((rd_T81 ((rd_T31 l0 0).f1) a1).f0))).trans hx159_2; replace hx159_0 := (cell_far (p := ⟨gb158, 1, none⟩) (by first | (rw [add_block]; exact hn159_1) | (show (Addr.add _ _).block ≠ _; rw [add_block]; exact hn159_1) | exact hn159_1) (.int .i16 ((rd_T81 ((rd_T31 l0 0).f1) a1).f1))).trans hx159_0; replace hx159_1 := (cell_far (p := ⟨gb158, 1, none⟩) (by first | (rw [add_block]; exact hn159_1) | (show (Addr.add _ _).block ≠ _; rw [add_block]; exact hn159_1) | exact hn159_1) (.int .i16 ((rd_T81 ((rd_T31 l0 0).f1) a1).f1))).trans hx159_1; replace hx159_2 := (cell_far (p := ⟨gb158, 1, none⟩) (by first | (rw [add_block]; exact hn159_1) | (show (Addr.add _ _).block ≠ _; rw [add_block]; exact hn159_1) | exact hn159_1) (.int .i16 ((rd_T81 ((rd_T31 l0 0).f1) a1).f1))).trans hx159_2; replace hx159_0 := (cell_far (p := ⟨gb158, 2, none⟩) (by first | (rw [add_block]; exact hn159_2) | (show (Addr.add _ _).block ≠ _; rw [add_block]; exact hn159_2) | exact hn159_2) (.int .i16 ((rd_T81 ((rd_T31 l0 0).f1) a1).f2))).trans hx159_0; replace hx159_1 := (cell_far (p := ⟨gb158, 2, none⟩) (by first | (rw [add_block]; exact hn159_2) | (show (Addr.add _ _).block ≠ _; rw [add_block]; exact hn159_2) | exact hn159_2) (.int .i16 ((rd_T81 ((rd_T31 l0 0).f1) a1).f2))).trans hx159_1; replace hx159_2 := (cell_far (p := ⟨gb158, 2, none⟩) (by first | (rw [add_block]; exact hn159_2) | (show (Addr.add _ _).block ≠ _; rw [add_block]; exact hn159_2) | exact hn159_2) (.int .i16 ((rd_T81 ((rd_T31 l0 0).f1) a1).f2))).trans hx159_2; (try have hy159_0 := fun (n_ : Nat) => (show (((((w11.drewN n_).setCell ⟨gb158, 0, none⟩ (.int .i8 ((rd_T81 ((rd_T31 l0 0).f1) a1).f0))).setCell ⟨gb158, 1, none⟩ (.int .i16 ((rd_T81 ((rd_T31 l0 0).f1) a1).f1))).setCell ⟨gb158, 2, none⟩ (.int .i16 ((rd_T81 ((rd_T31 l0 0).f1) a1).f2)))).cell? _ = some _ from hx159_0)); (try have hy159_1 := fun (n_ : Nat) => (show (((((w11.drewN n_).setCell ⟨gb158, 0, none⟩ (.int .i8 ((rd_T81 ((rd_T31 l0 0).f1) a1).f0))).setCell ⟨gb158, 1, none⟩ (.int .i16 ((rd_T81 ((rd_T31 l0 0).f1) a1).f1))).setCell ⟨gb158, 2, none⟩ (.int .i16 ((rd_T81 ((rd_T31 l0 0).f1) a1).f2)))).cell? _ = some _ from hx159_1)); (try have hy159_2 := fun (n_ : Nat) => (show (((((w11.drewN n_).setCell ⟨gb158, 0, none⟩ (.int .i8 ((rd_T81 ((rd_T31 l0 0).f1) a1).f0))).setCell ⟨gb158, 1, none⟩ (.int .i16 ((rd_T81 ((rd_T31 l0 0).f1) a1).f1))).setCell ⟨gb158, 2, none⟩ (.int .i16 ((rd_T81 ((rd_T31 l0 0).f1) a1).f2)))).cell? _ = some _ from hx159_2)); clear hn159_0; clear hn159_1; clear hn159_2; replace p159 := eq_true p159; replace q159 := eq_true q159) | go_quiet (fail))
  go_ret
  exact ⟨zv, zbo⟩
 rw [if_neg c6] at H
 have c6b0 : (((rd_T81 ((rd_T31 l0 0).f1) a1).f0) == 0) = false := beq_eq_false_iff_ne.mpr c6
 have c6b1 : (((rd_T81 ((rd_T31 l0 0).f1) a1).f0) != 0) = true := bne_iff_ne.mpr c6
 by_cases c15 : ((rd_T81 ((rd_T31 l0 0).f1) a1).f0) = 1
 ·rw [if_pos c15] at H
  have c15b0 : (((rd_T81 ((rd_T31 l0 0).f1) a1).f0) == 1) = true := beq_iff_eq.mpr c15
  have c15b1 : (((rd_T81 ((rd_T31 l0 0).f1) a1).f0) != 1) = false := bne_eq_false_iff_eq.mpr c15
  clear c15
  by_cases c16 : ((rd_T81 ((rd_T31 l0 0).f1) a1).f1) = 0
  rotate_left
  ·rw [if_neg c16] at H
   have c16b0 : (((rd_T81 ((rd_T31 l0 0).f1) a1).f1) == 0) = false := beq_eq_false_iff_ne.mpr c16
   have c16b1 : (((rd_T81 ((rd_T31 l0 0).f1) a1).f1) != 0) = true := bne_iff_ne.mpr c16
   obtain rfl := Option.some.inj H
   have p156 : 0 ≤ (0 : Int) := (by omega)
   have q156 : 0 < (l0.length : Int) := of_decide_eq_true zA
   obtain ⟨ad156, A156_1, c156_1, A156_2, c156_2, e156, hx156_0, hx156_1, hx156_2, hl156_1, hi156_1, hl156_2, hi156_2⟩ := at_T31 HR0.out 0 p156 q156
   obtain rfl : adp0 = ad156 := (by injection e156)
   have qi156 : (0 < l0.length) = True := eq_true (by omega)
   try simp only [z00, Nat.zero_mul, Addr.add_zero'] at hx156_0 hx156_1 hx156_2
   have HR156_1 := Aside0.mk hi156_1
   have HC156_1 := Aside0.mk hl156_1
   clear hi156_1 hl156_1
   have HR156_2 := Aside0.mk hi156_2
   have HC156_2 := Aside0.mk hl156_2
   clear hi156_2 hl156_2
   replace p156 := eq_true p156
   replace q156 := eq_true q156
   have p157 : 0 ≤ (a1 : Int) := of_decide_eq_true zA
   have q157 : a1 < (((rd_T31 l0 0).f1).length : Int) := of_decide_eq_true zA
   obtain ⟨ad157, e157, hx157_0, hx157_1, hx157_2⟩ := at_T81 HR156_1.out a1 p157 q157
   cases e157
   replace p157 := eq_true p157
   replace q157 := eq_true q157
   go_enter Try.func125, Try.ntmps125
   go_wp2_with (first | ((with_reducible refine gate_dst (N := 5) rfl ?_); refine zbx 5 #[.int .i8 0, .int .i16 0, .int .i16 0] 81 ?_; intro gb158 hg w19 hbox hb; have n_ : _ ∧ _ ∧ _ ∧ _ := ⟨zb HB hb, Aside0.mk (hbox), zg HB hg, zg HB hg⟩; clear HB; obtain ⟨HB, BK158, GW158, GE158⟩ := n_; clear hb hbox hg; obtain ⟨z20_0, z20_1, z20_2, y20_0, y20_1, y20_2⟩ := zB3 BK158) | go_quiet (fail))
   go_ret
   exact ⟨zv, zbo⟩
  rw [if_pos c16] at H
  have c16b0 : (((rd_T81 ((rd_T31 l0 0).f1) a1).f1) == 0) = true := beq_iff_eq.mpr c16
  have c16b1 : (((rd_T81 ((rd_T31 l0 0).f1) a1).f1) != 0) = false := bne_eq_false_iff_eq.mpr c16
  clear c16
  obtain rfl := Option.some.inj H
  have p156 : 0 ≤ (0 : Int) := (by omega)
  have q156 : 0 < (l0.length : Int) := of_decide_eq_true zA
  obtain ⟨ad156, A156_1, c156_1, A156_2, c156_2, e156, hx156_0, hx156_1, hx156_2, hl156_1, hi156_1, hl156_2, hi156_2⟩ := at_T31 HR0.out 0 p156 q156
  obtain rfl : adp0 = ad156 := (by injection e156)
  have qi156 : (0 < l0.length) = True := eq_true (by omega)
  try simp only [z00, Nat.zero_mul, Addr.add_zero'] at hx156_0 hx156_1 hx156_2
  have HR156_1 := Aside0.mk hi156_1
  have HC156_1 := Aside0.mk hl156_1
  clear hi156_1 hl156_1
  have HR156_2 := Aside0.mk hi156_2
  have HC156_2 := Aside0.mk hl156_2
  clear hi156_2 hl156_2
  replace p156 := eq_true p156
  replace q156 := eq_true q156
  have p157 : 0 ≤ (a1 : Int) := of_decide_eq_true zA
  have q157 : a1 < (((rd_T31 l0 0).f1).length : Int) := of_decide_eq_true zA
  obtain ⟨ad157, e157, hx157_0, hx157_1, hx157_2⟩ := at_T81 HR156_1.out a1 p157 q157
  cases e157
  replace p157 := eq_true p157
  replace q157 := eq_true q157
  go_enter Try.func125, Try.ntmps125
  go_wp2_with (first | ((with_reducible refine gate_dst (N := 5) rfl ?_); refine zbx 5 #[.int .i8 0, .int .i16 0, .int .i16 0] 81 ?_; intro gb158 hg w17 hbox hb; have n_ : _ ∧ _ ∧ _ ∧ _ := ⟨zb HB hb, Aside0.mk (hbox), zg HB hg, zg HB hg⟩; clear HB; obtain ⟨HB, BK158, GW158, GE158⟩ := n_; clear hb hbox hg; obtain ⟨z18_0, z18_1, z18_2, y18_0, y18_1, y18_2⟩ := zB3 BK158) | go_quiet (fail))
  go_ret
  exact ⟨zv, zbo⟩
 rw [if_neg c15] at H
 have c15b0 : (((rd_T81 ((rd_T31 l0 0).f1) a1).f0) == 1) = false := beq_eq_false_iff_ne.mpr c15
 have c15b1 : (((rd_T81 ((rd_T31 l0 0).f1) a1).f0) != 1) = true := bne_iff_ne.mpr c15
 by_cases c21 : ((rd_T81 ((rd_T31 l0 0).f1) a1).f0) = 2
 ·rw [if_pos c21] at H
  have c21b0 : (((rd_T81 ((rd_T31 l0 0).f1) a1).f0) == 2) = true := beq_iff_eq.mpr c21
  have c21b1 : (((rd_T81 ((rd_T31 l0 0).f1) a1).f0) != 2) = false := bne_eq_false_iff_eq.mpr c21
  clear c21
  by_cases c22 : ((rd_T81 ((rd_T31 l0 0).f1) a1).f1) ≥ 0
  rotate_left
  ·rw [if_neg c22] at H
   have c22b0 : decide (0 ≤ ((rd_T81 ((rd_T31 l0 0).f1) a1).f1)) = false := decide_eq_false c22
   clear c22
   obtain rfl := Option.some.inj H
   have p156 : 0 ≤ (0 : Int) := (by omega)
   have q156 : 0 < (l0.length : Int) := of_decide_eq_true zA
   obtain ⟨ad156, A156_1, c156_1, A156_2, c156_2, e156, hx156_0, hx156_1, hx156_2, hl156_1, hi156_1, hl156_2, hi156_2⟩ := at_T31 HR0.out 0 p156 q156
   obtain rfl : adp0 = ad156 := (by injection e156)
   have qi156 : (0 < l0.length) = True := eq_true (by omega)
   try simp only [z00, Nat.zero_mul, Addr.add_zero'] at hx156_0 hx156_1 hx156_2
   have HR156_1 := Aside0.mk hi156_1
   have HC156_1 := Aside0.mk hl156_1
   clear hi156_1 hl156_1
   have HR156_2 := Aside0.mk hi156_2
   have HC156_2 := Aside0.mk hl156_2
   clear hi156_2 hl156_2
   replace p156 := eq_true p156
   replace q156 := eq_true q156
   have p157 : 0 ≤ (a1 : Int) := of_decide_eq_true zA
   have q157 : a1 < (((rd_T31 l0 0).f1).length : Int) := of_decide_eq_true zA
   obtain ⟨ad157, e157, hx157_0, hx157_1, hx157_2⟩ := at_T81 HR156_1.out a1 p157 q157
   cases e157
   replace p157 := eq_true p157
   replace q157 := eq_true q157
   go_enter Try.func125, Try.ntmps125
   go_wp2_with (first | ((with_reducible refine gate_dst (N := 5) rfl ?_); refine zbx 5 #[.int .i8 0, .int .i16 0, .int .i16 0] 81 ?_; intro gb158 hg w31 hbox hb; have n_ : _ ∧ _ ∧ _ ∧ _ := ⟨zb HB hb, Aside0.mk (hbox), zg HB hg, zg HB hg⟩; clear HB; obtain ⟨HB, BK158, GW158, GE158⟩ := n_; clear hb hbox hg; obtain ⟨z32_0, z32_1, z32_2, y32_0, y32_1, y32_2⟩ := zB3 BK158) | go_quiet (fail))
   go_ret
   exact ⟨zv, zbo⟩
  rw [if_pos c22] at H
  have c22b0 : decide (0 ≤ ((rd_T81 ((rd_T31 l0 0).f1) a1).f1)) = true := decide_eq_true c22
  clear c22
  by_cases c23 : (wrap64 ((rd_T81 ((rd_T31 l0 0).f1) a1).f1)) < a1
  rotate_left
  ·rw [if_neg c23] at H
   have c23b0 : decide ((wrap64 ((rd_T81 ((rd_T31 l0 0).f1) a1).f1)) < a1) = false := decide_eq_false c23
   clear c23
   obtain rfl := Option.some.inj H
   have p156 : 0 ≤ (0 : Int) := (by omega)
   have q156 : 0 < (l0.length : Int) := of_decide_eq_true zA
   obtain ⟨ad156, A156_1, c156_1, A156_2, c156_2, e156, hx156_0, hx156_1, hx156_2, hl156_1, hi156_1, hl156_2, hi156_2⟩ := at_T31 HR0.out 0 p156 q156
   obtain rfl : adp0 = ad156 := (by injection e156)
   have qi156 : (0 < l0.length) = True := eq_true (by omega)
   try simp only [z00, Nat.zero_mul, Addr.add_zero'] at hx156_0 hx156_1 hx156_2
   have HR156_1 := Aside0.mk hi156_1
   have HC156_1 := Aside0.mk hl156_1
   clear hi156_1 hl156_1
   have HR156_2 := Aside0.mk hi156_2
   have HC156_2 := Aside0.mk hl156_2
   clear hi156_2 hl156_2
   replace p156 := eq_true p156
   replace q156 := eq_true q156
   have p157 : 0 ≤ (a1 : Int) := of_decide_eq_true zA
   have q157 : a1 < (((rd_T31 l0 0).f1).length : Int) := of_decide_eq_true zA
   obtain ⟨ad157, e157, hx157_0, hx157_1, hx157_2⟩ := at_T81 HR156_1.out a1 p157 q157
   cases e157
   replace p157 := eq_true p157
   replace q157 := eq_true q157
   go_enter Try.func125, Try.ntmps125
   go_wp2_with (first | ((with_reducible refine gate_dst (N := 5) rfl ?_); refine zbx 5 #[.int .i8 0, .int .i16 0, .int .i16 0] 81 ?_; intro gb158 hg w29 hbox hb; have n_ : _ ∧ _ ∧ _ ∧ _ := ⟨zb HB hb, Aside0.mk (hbox), zg HB hg, zg HB hg⟩; clear HB; obtain ⟨HB, BK158, GW158, GE158⟩ := n_; clear hb hbox hg; obtain ⟨z30_0, z30_1, z30_2, y30_0, y30_1, y30_2⟩ := zB3 BK158) | go_quiet (fail))
   go_ret
   exact ⟨zv, zbo⟩
  rw [if_pos c23] at H
  have c23b0 : decide ((wrap64 ((rd_T81 ((rd_T31 l0 0).f1) a1).f1)) < a1) = true := decide_eq_true c23
  clear c23
  by_cases c24 : ((rd_T81 ((rd_T31 l0 0).f1) a1).f2) ≥ 0
  ·rw [if_pos c24] at H
   have c24b0 : decide (0 ≤ ((rd_T81 ((rd_T31 l0 0).f1) a1).f2)) = true := decide_eq_true c24
   clear c24
   obtain rfl := Option.some.inj H
   have p156 : 0 ≤ (0 : Int) := (by omega)
   have q156 : 0 < (l0.length : Int) := of_decide_eq_true zA
   obtain ⟨ad156, A156_1, c156_1, A156_2, c156_2, e156, hx156_0, hx156_1, hx156_2, hl156_1, hi156_1, hl156_2, hi156_2⟩ := at_T31 HR0.out 0 p156 q156
   obtain rfl : adp0 = ad156 := (by injection e156)
   have qi156 : (0 < l0.length) = True := eq_true (by omega)
   try simp only [z00, Nat.zero_mul, Addr.add_zero'] at hx156_0 hx156_1 hx156_2
   have HR156_1 := Aside0.mk hi156_1
   have HC156_1 := Aside0.mk hl156_1
   clear hi156_1 hl156_1
   have HR156_2 := Aside0.mk hi156_2
   have HC156_2 := Aside0.mk hl156_2
   clear hi156_2 hl156_2
   replace p156 := eq_true p156
   replace q156 := eq_true q156
   have p157 : 0 ≤ (a1 : Int) := of_decide_eq_true zA
   have q157 : a1 < (((rd_T31 l0 0).f1).length : Int) := of_decide_eq_true zA
   obtain ⟨ad157, e157, hx157_0, hx157_1, hx157_2⟩ := at_T81 HR156_1.out a1 p157 q157
   cases e157
   replace p157 := eq_true p157
   replace q157 := eq_true q157
   go_enter Try.func125, Try.ntmps125
   go_wp2_with (first | ((with_reducible refine gate_dst (N := 5) rfl ?_); refine zbx 5 #[.int .i8 0, .int .i16 0, .int .i16 0] 81 ?_; intro gb158 hg w25 hbox hb; have n_ : _ ∧ _ ∧ _ ∧ _ := ⟨zb HB hb, Aside0.mk (hbox), zg HB hg, zg HB hg⟩; clear HB; obtain ⟨HB, BK158, GW158, GE158⟩ := n_; clear hb hbox hg; obtain ⟨z26_0, z26_1, z26_2, y26_0, y26_1, y26_2⟩ := zB3 BK158) | go_quiet (fail))
   go_ret
   exact ⟨zv, zbo⟩
  rw [if_neg c24] at H
  have c24b0 : decide (0 ≤ ((rd_T81 ((rd_T31 l0 0).f1) a1).f2)) = false := decide_eq_false c24
  clear c24
  obtain rfl := Option.some.inj H
  have p156 : 0 ≤ (0 : Int) := (by omega)
  have q156 : 0 < (l0.length : Int) := of_decide_eq_true zA
  obtain ⟨ad156, A156_1, c156_1, A156_2, c156_2, e156, hx156_0, hx156_1, hx156_2, hl156_1, hi156_1, hl156_2, hi156_2⟩ := at_T31 HR0.out 0 p156 q156
  obtain rfl : adp0 = ad156 := (by injection e156)
  have qi156 : (0 < l0.length) = True := eq_true (by omega)
  try simp only [z00, Nat.zero_mul, Addr.add_zero'] at hx156_0 hx156_1 hx156_2
  have HR156_1 := Aside0.mk hi156_1
  have HC156_1 := Aside0.mk hl156_1
  clear hi156_1 hl156_1
  have HR156_2 := Aside0.mk hi156_2
  have HC156_2 := Aside0.mk hl156_2
  clear hi156_2 hl156_2
  replace p156 := eq_true p156
  replace q156 := eq_true q156
  have p157 : 0 ≤ (a1 : Int) := of_decide_eq_true zA
  have q157 : a1 < (((rd_T31 l0 0).f1).length : Int) := of_decide_eq_true zA
  obtain ⟨ad157, e157, hx157_0, hx157_1, hx157_2⟩ := at_T81 HR156_1.out a1 p157 q157
  cases e157
  replace p157 := eq_true p157
  replace q157 := eq_true q157
  go_enter Try.func125, Try.ntmps125
  go_wp2_with (first | ((with_reducible refine gate_dst (N := 5) rfl ?_); refine zbx 5 #[.int .i8 0, .int .i16 0, .int .i16 0] 81 ?_; intro gb158 hg w27 hbox hb; have n_ : _ ∧ _ ∧ _ ∧ _ := ⟨zb HB hb, Aside0.mk (hbox), zg HB hg, zg HB hg⟩; clear HB; obtain ⟨HB, BK158, GW158, GE158⟩ := n_; clear hb hbox hg; obtain ⟨z28_0, z28_1, z28_2, y28_0, y28_1, y28_2⟩ := zB3 BK158) | go_quiet (fail))
  go_ret
  exact ⟨zv, zbo⟩
 rw [if_neg c21] at H
 have c21b0 : (((rd_T81 ((rd_T31 l0 0).f1) a1).f0) == 2) = false := beq_eq_false_iff_ne.mpr c21
 have c21b1 : (((rd_T81 ((rd_T31 l0 0).f1) a1).f0) != 2) = true := bne_iff_ne.mpr c21
 by_cases c33 : ((rd_T81 ((rd_T31 l0 0).f1) a1).f0) = 3
 rotate_left
 ·rw [if_neg c33] at H
  have c33b0 : (((rd_T81 ((rd_T31 l0 0).f1) a1).f0) == 3) = false := beq_eq_false_iff_ne.mpr c33
  have c33b1 : (((rd_T81 ((rd_T31 l0 0).f1) a1).f0) != 3) = true := bne_iff_ne.mpr c33
  obtain rfl := Option.some.inj H
  have p156 : 0 ≤ (0 : Int) := (by omega)
  have q156 : 0 < (l0.length : Int) := of_decide_eq_true zA
  obtain ⟨ad156, A156_1, c156_1, A156_2, c156_2, e156, hx156_0, hx156_1, hx156_2, hl156_1, hi156_1, hl156_2, hi156_2⟩ := at_T31 HR0.out 0 p156 q156
  obtain rfl : adp0 = ad156 := (by injection e156)
  have qi156 : (0 < l0.length) = True := eq_true (by omega)
  try simp only [z00, Nat.zero_mul, Addr.add_zero'] at hx156_0 hx156_1 hx156_2
  have HR156_1 := Aside0.mk hi156_1
  have HC156_1 := Aside0.mk hl156_1
  clear hi156_1 hl156_1
  have HR156_2 := Aside0.mk hi156_2
  have HC156_2 := Aside0.mk hl156_2
  clear hi156_2 hl156_2
  replace p156 := eq_true p156
  replace q156 := eq_true q156
  have p157 : 0 ≤ (a1 : Int) := of_decide_eq_true zA
  have q157 : a1 < (((rd_T31 l0 0).f1).length : Int) := of_decide_eq_true zA
  obtain ⟨ad157, e157, hx157_0, hx157_1, hx157_2⟩ := at_T81 HR156_1.out a1 p157 q157
  cases e157
  replace p157 := eq_true p157
  replace q157 := eq_true q157
  go_enter Try.func125, Try.ntmps125
  go_wp2_with (first | ((with_reducible refine gate_dst (N := 5) rfl ?_); refine zbx 5 #[.int .i8 0, .int .i16 0, .int .i16 0] 81 ?_; intro gb158 hg w45 hbox hb; have n_ : _ ∧ _ ∧ _ ∧ _ := ⟨zb HB hb, Aside0.mk (hbox), zg HB hg, zg HB hg⟩; clear HB; obtain ⟨HB, BK158, GW158, GE158⟩ := n_; clear hb hbox hg; obtain ⟨z46_0, z46_1, z46_2, y46_0, y46_1, y46_2⟩ := zB3 BK158) | go_quiet (fail))
  go_ret
  exact ⟨zv, zbo⟩
 rw [if_pos c33] at H
 have c33b0 : (((rd_T81 ((rd_T31 l0 0).f1) a1).f0) == 3) = true := beq_iff_eq.mpr c33
 have c33b1 : (((rd_T81 ((rd_T31 l0 0).f1) a1).f0) != 3) = false := bne_eq_false_iff_eq.mpr c33
 clear c33
 by_cases c34 : ((rd_T81 ((rd_T31 l0 0).f1) a1).f1) ≥ 0
 rotate_left
 ·rw [if_neg c34] at H
  have c34b0 : decide (0 ≤ ((rd_T81 ((rd_T31 l0 0).f1) a1).f1)) = false := decide_eq_false c34
  clear c34
  obtain rfl := Option.some.inj H
  have p156 : 0 ≤ (0 : Int) := (by omega)
  have q156 : 0 < (l0.length : Int) := of_decide_eq_true zA
  obtain ⟨ad156, A156_1, c156_1, A156_2, c156_2, e156, hx156_0, hx156_1, hx156_2, hl156_1, hi156_1, hl156_2, hi156_2⟩ := at_T31 HR0.out 0 p156 q156
  obtain rfl : adp0 = ad156 := (by injection e156)
  have qi156 : (0 < l0.length) = True := eq_true (by omega)
  try simp only [z00, Nat.zero_mul, Addr.add_zero'] at hx156_0 hx156_1 hx156_2
  have HR156_1 := Aside0.mk hi156_1
  have HC156_1 := Aside0.mk hl156_1
  clear hi156_1 hl156_1
  have HR156_2 := Aside0.mk hi156_2
  have HC156_2 := Aside0.mk hl156_2
  clear hi156_2 hl156_2
  replace p156 := eq_true p156
  replace q156 := eq_true q156
  have p157 : 0 ≤ (a1 : Int) := of_decide_eq_true zA
  have q157 : a1 < (((rd_T31 l0 0).f1).length : Int) := of_decide_eq_true zA
  obtain ⟨ad157, e157, hx157_0, hx157_1, hx157_2⟩ := at_T81 HR156_1.out a1 p157 q157
  cases e157
  replace p157 := eq_true p157
  replace q157 := eq_true q157
  go_enter Try.func125, Try.ntmps125
  go_wp2_with (first | ((with_reducible refine gate_dst (N := 5) rfl ?_); refine zbx 5 #[.int .i8 0, .int .i16 0, .int .i16 0] 81 ?_; intro gb158 hg w43 hbox hb; have n_ : _ ∧ _ ∧ _ ∧ _ := ⟨zb HB hb, Aside0.mk (hbox), zg HB hg, zg HB hg⟩; clear HB; obtain ⟨HB, BK158, GW158, GE158⟩ := n_; clear hb hbox hg; obtain ⟨z44_0, z44_1, z44_2, y44_0, y44_1, y44_2⟩ := zB3 BK158) | go_quiet (fail))
  go_ret
  exact ⟨zv, zbo⟩
 rw [if_pos c34] at H
 have c34b0 : decide (0 ≤ ((rd_T81 ((rd_T31 l0 0).f1) a1).f1)) = true := decide_eq_true c34
 clear c34
 by_cases c35 : (wrap64 ((rd_T81 ((rd_T31 l0 0).f1) a1).f1)) < a1
 rotate_left
 ·rw [if_neg c35] at H
  have c35b0 : decide ((wrap64 ((rd_T81 ((rd_T31 l0 0).f1) a1).f1)) < a1) = false := decide_eq_false c35
  clear c35
  obtain rfl := Option.some.inj H
  have p156 : 0 ≤ (0 : Int) := (by omega)
  have q156 : 0 < (l0.length : Int) := of_decide_eq_true zA
  obtain ⟨ad156, A156_1, c156_1, A156_2, c156_2, e156, hx156_0, hx156_1, hx156_2, hl156_1, hi156_1, hl156_2, hi156_2⟩ := at_T31 HR0.out 0 p156 q156
  obtain rfl : adp0 = ad156 := (by injection e156)
  have qi156 : (0 < l0.length) = True := eq_true (by omega)
  try simp only [z00, Nat.zero_mul, Addr.add_zero'] at hx156_0 hx156_1 hx156_2
  have HR156_1 := Aside0.mk hi156_1
  have HC156_1 := Aside0.mk hl156_1
  clear hi156_1 hl156_1
  have HR156_2 := Aside0.mk hi156_2
  have HC156_2 := Aside0.mk hl156_2
  clear hi156_2 hl156_2
  replace p156 := eq_true p156
  replace q156 := eq_true q156
  have p157 : 0 ≤ (a1 : Int) := of_decide_eq_true zA
  have q157 : a1 < (((rd_T31 l0 0).f1).length : Int) := of_decide_eq_true zA
  obtain ⟨ad157, e157, hx157_0, hx157_1, hx157_2⟩ := at_T81 HR156_1.out a1 p157 q157
  cases e157
  replace p157 := eq_true p157
  replace q157 := eq_true q157
  go_enter Try.func125, Try.ntmps125
  go_wp2_with (first | ((with_reducible refine gate_dst (N := 5) rfl ?_); refine zbx 5 #[.int .i8 0, .int .i16 0, .int .i16 0] 81 ?_; intro gb158 hg w41 hbox hb; have n_ : _ ∧ _ ∧ _ ∧ _ := ⟨zb HB hb, Aside0.mk (hbox), zg HB hg, zg HB hg⟩; clear HB; obtain ⟨HB, BK158, GW158, GE158⟩ := n_; clear hb hbox hg; obtain ⟨z42_0, z42_1, z42_2, y42_0, y42_1, y42_2⟩ := zB3 BK158) | go_quiet (fail))
  go_ret
  exact ⟨zv, zbo⟩
 rw [if_pos c35] at H
 have c35b0 : decide ((wrap64 ((rd_T81 ((rd_T31 l0 0).f1) a1).f1)) < a1) = true := decide_eq_true c35
 clear c35
 by_cases c36 : ((rd_T81 ((rd_T31 l0 0).f1) a1).f2) ≥ 0
 ·rw [if_pos c36] at H
  have c36b0 : decide (0 ≤ ((rd_T81 ((rd_T31 l0 0).f1) a1).f2)) = true := decide_eq_true c36
  clear c36
  obtain rfl := Option.some.inj H
  have p156 : 0 ≤ (0 : Int) := (by omega)
  have q156 : 0 < (l0.length : Int) := of_decide_eq_true zA
  obtain ⟨ad156, A156_1, c156_1, A156_2, c156_2, e156, hx156_0, hx156_1, hx156_2, hl156_1, hi156_1, hl156_2, hi156_2⟩ := at_T31 HR0.out 0 p156 q156
  obtain rfl : adp0 = ad156 := (by injection e156)
  have qi156 : (0 < l0.length) = True := eq_true (by omega)
  try simp only [z00, Nat.zero_mul, Addr.add_zero'] at hx156_0 hx156_1 hx156_2
  have HR156_1 := Aside0.mk hi156_1
  have HC156_1 := Aside0.mk hl156_1
  clear hi156_1 hl156_1
  have HR156_2 := Aside0.mk hi156_2
  have HC156_2 := Aside0.mk hl156_2
  clear hi156_2 hl156_2
  replace p156 := eq_true p156
  replace q156 := eq_true q156
  have p157 : 0 ≤ (a1 : Int) := of_decide_eq_true zA
  have q157 : a1 < (((rd_T31 l0 0).f1).length : Int) := of_decide_eq_true zA
  obtain ⟨ad157, e157, hx157_0, hx157_1, hx157_2⟩ := at_T81 HR156_1.out a1 p157 q157
  cases e157
  replace p157 := eq_true p157
  replace q157 := eq_true q157
  go_enter Try.func125, Try.ntmps125
  go_wp2_with (first | ((with_reducible refine gate_dst (N := 5) rfl ?_); refine zbx 5 #[.int .i8 0, .int .i16 0, .int .i16 0] 81 ?_; intro gb158 hg w37 hbox hb; have n_ : _ ∧ _ ∧ _ ∧ _ := ⟨zb HB hb, Aside0.mk (hbox), zg HB hg, zg HB hg⟩; clear HB; obtain ⟨HB, BK158, GW158, GE158⟩ := n_; clear hb hbox hg; obtain ⟨z38_0, z38_1, z38_2, y38_0, y38_1, y38_2⟩ := zB3 BK158) | go_quiet (fail))
  go_ret
  exact ⟨zv, zbo⟩
 rw [if_neg c36] at H
 have c36b0 : decide (0 ≤ ((rd_T81 ((rd_T31 l0 0).f1) a1).f2)) = false := decide_eq_false c36
 clear c36
 obtain rfl := Option.some.inj H
 have p156 : 0 ≤ (0 : Int) := (by omega)
 have q156 : 0 < (l0.length : Int) := of_decide_eq_true zA
 obtain ⟨ad156, A156_1, c156_1, A156_2, c156_2, e156, hx156_0, hx156_1, hx156_2, hl156_1, hi156_1, hl156_2, hi156_2⟩ := at_T31 HR0.out 0 p156 q156
 obtain rfl : adp0 = ad156 := (by injection e156)
 have qi156 : (0 < l0.length) = True := eq_true (by omega)
 try simp only [z00, Nat.zero_mul, Addr.add_zero'] at hx156_0 hx156_1 hx156_2
 have HR156_1 := Aside0.mk hi156_1
 have HC156_1 := Aside0.mk hl156_1
 clear hi156_1 hl156_1
 have HR156_2 := Aside0.mk hi156_2
 have HC156_2 := Aside0.mk hl156_2
 clear hi156_2 hl156_2
 replace p156 := eq_true p156
 replace q156 := eq_true q156
 have p157 : 0 ≤ (a1 : Int) := of_decide_eq_true zA
 have q157 : a1 < (((rd_T31 l0 0).f1).length : Int) := of_decide_eq_true zA
 obtain ⟨ad157, e157, hx157_0, hx157_1, hx157_2⟩ := at_T81 HR156_1.out a1 p157 q157
 cases e157
 replace p157 := eq_true p157
 replace q157 := eq_true q157
 go_enter Try.func125, Try.ntmps125
 go_wp2_with (first | ((with_reducible refine gate_dst (N := 5) rfl ?_); refine zbx 5 #[.int .i8 0, .int .i16 0, .int .i16 0] 81 ?_; intro gb158 hg w39 hbox hb; have n_ : _ ∧ _ ∧ _ ∧ _ := ⟨zb HB hb, Aside0.mk (hbox), zg HB hg, zg HB hg⟩; clear HB; obtain ⟨HB, BK158, GW158, GE158⟩ := n_; clear hb hbox hg; obtain ⟨z40_0, z40_1, z40_2, y40_0, y40_1, y40_2⟩ := zB3 BK158) | go_quiet (fail))
 go_ret
 exact ⟨zv, zbo⟩
end Go.Proofs.Ytmpmanfoiocfgaa.PFnExactBothNetworks
