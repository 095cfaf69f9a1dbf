-- WRITTEN by xprint.py, a program of this session's. Not trusted: Lean checks it.
-- packed by pack.py
import Derived.Test.YtffnfpnajkgnaaaPFnExactMoveMachinex0
import Derived.Test.YtffnfpnajkgnaaaPFnExactMoveMachinex9
import Derived.Test.YtffnfpnajkgnaaaTFnExactMoveMachinea
namespace Go.Proofs.Ytffnfpnajkgnaaa.PFnExactMoveMachine
open Go.RowKit Go.Proofs.YtffnfpnajkgnaaaW.PrintWords Go.Proofs.YtffnfpnajkgnaaaW.PrintLast Go.Proofs.YtffnfpnajkgnaaaW.PrintMore Go.Proofs.YtffnfpnajkgnaaaX
attribute [local go_sem] max2_int min2_int max_two min_two max_three min_three max_four min_four   -- for this text's walks alone
set_option maxHeartbeats 8000000
set_option maxRecDepth 100000
set_option linter.unusedVariables false
set_option linter.unusedSimpArgs false

def spec_l03Copy.f (l0 : List (S41)) : Option (Int × Int × (List (S91)) × (List (S116)) × (List (S74))) := if 0 < (l0.length : Int) then ((spec_l01Copy.f [(⟨(rd_T41 l0 0).f0.f0, (rd_T41 l0 0).f0.f1, (rd_T41 l0 0).f0.f2⟩ : S37)]).bind fun bt294 => ((some (([] : List (S116)) : List (S116))).bind fun y299 => (if y299.length + ((rd_T41 l0 0).f1).length < 46912496118442 then ((some (([] : List (S74)) : List (S74))).bind fun y306 => (if y306.length + ((rd_T41 l0 0).f2).length < 70368744177664 then (some (bt294.1, bt294.2.1, bt294.2.2, (y299 ++ ((rd_T41 l0 0).f1)), (y306 ++ ((rd_T41 l0 0).f2)))) else (none))) else (none)))) else (none)
def spec_l03Copy.T1 : Bool × List (List Nat × List Nat) := (true, [([], []), ([0], [0]), ([1], [1]), ([2], [2]), ([], []), ([], []), ([5], [5]), ([6], [6]), ([7], [7]), ([4, 8, 3], [4, 8]), ([], []), ([], []), ([11], [11]), ([12], [12]), ([13], [13]), ([10, 14, 9], [10, 14]), ([3, 9, 15], [3, 9, 15]), ([16, 15, 0, 1, 2, 3, 4, 5, 6, 7, 8, 9, 10, 11, 12, 13, 14, 15, 16], [16])])
def spec_l03Copy.B1 : List Nat := [0, 1, 3, 7, 0, 0, 32, 96, 224, 511, 0, 0, 2048, 6144, 14336, 32767, 65535, 131071]
theorem spec_l03Copy.tab1 : rtab .any (opsOf Try.f100 1) = spec_l03Copy.T1 := by kernel_rfl
theorem spec_l03Copy.bits1 : waitsOk spec_l03Copy.T1.2 spec_l03Copy.B1 = true := by kernel_rfl
theorem spec_l03Copy.calls (adp0 : Addr) (l0 : List (S41)) (r1 : Int) (r2 : Int) (r3 : List (S91)) (r4 : List (S116)) (r5 : List (S74)) (w : World) (hr0 : Kd.C k41 w (some adp0) l0.length l0) (h : spec_l03Copy.f l0 = some (r1, r2, r3, r4, r5)) :
    Calls Try.prog 100 #[.pointer (some adp0)] w fun e w' => ∃ v2_ v3_ v4_ : Value, e = .returned (.agg #[.int .i8 r1, .int .i8 r2, v2_, v3_, v4_]) ∧ Kd.R k91 91 w' w.heap.size (fun _ => True) v2_ r3 ∧ Kd.R k116 116 w' w.heap.size (fun _ => True) v3_ r4 ∧ Kd.R k74 74 w' w.heap.size (fun _ => True) v4_ r5 ∧ Below w.heap.size w w' := by
 have hu41 := Try.underlying41
 have HR0 := Aside0.mk hr0
 clear hr0
 have HB := Aside0.mk (Below.refl w.heap.size w)
 have H : (if 0 < (l0.length : Int) then ((spec_l01Copy.f [(⟨(rd_T41 l0 0).f0.f0, (rd_T41 l0 0).f0.f1, (rd_T41 l0 0).f0.f2⟩ : S37)]).bind fun bt294 => ((some (([] : List (S116)) : List (S116))).bind fun y299 => (if y299.length + ((rd_T41 l0 0).f1).length < 46912496118442 then ((some (([] : List (S74)) : List (S74))).bind fun y306 => (if y306.length + ((rd_T41 l0 0).f2).length < 70368744177664 then (some (bt294.1, bt294.2.1, bt294.2.2, (y299 ++ ((rd_T41 l0 0).f1)), (y306 ++ ((rd_T41 l0 0).f2)))) else (none))) else (none)))) else (none)) = some (r1, r2, r3, r4, r5) := h
 clear h
 by_cases c2 : 0 < (l0.length : Int)
 rotate_left
 ·rw [if_neg c2] at H
  exact absurd H (by simp)
 rw [if_pos c2] at H
 have c2b0 : decide (0 < (l0.length : Int)) = true := decide_eq_true c2
 have c2b1 : decide (0 < l0.length) = true := decide_eq_true (by omega)
 clear c2
 replace H := zob H
 obtain ⟨⟨t294, t295, t296⟩, A30, H⟩ := H
 replace H : ((some (([] : List (S116)) : List (S116))).bind fun y299 => (if y299.length + ((rd_T41 l0 0).f1).length < 46912496118442 then ((some (([] : List (S74)) : List (S74))).bind fun y306 => (if y306.length + ((rd_T41 l0 0).f2).length < 70368744177664 then (some (t294, t295, t296, (y299 ++ ((rd_T41 l0 0).f1)), (y306 ++ ((rd_T41 l0 0).f2)))) else (none))) else (none))) = some (r1, r2, r3, r4, r5) := H
 have A3 := Aside0.mk A30
 clear A30
 obtain ⟨y299, hy299⟩ : ∃ y_ : List (S116), y_ = (([] : List (S116))) := ⟨_, rfl⟩
 replace H : (if y299.length + ((rd_T41 l0 0).f1).length < 46912496118442 then ((some (([] : List (S74)) : List (S74))).bind fun y306 => (if y306.length + ((rd_T41 l0 0).f2).length < 70368744177664 then (some (t294, t295, t296, (y299 ++ ((rd_T41 l0 0).f1)), (y306 ++ ((rd_T41 l0 0).f2)))) else (none))) else (none)) = some (r1, r2, r3, r4, r5) := by first | (rw [hy299]; with_reducible exact H) | (have H2_ := (Option.bind_some _ _).symm.trans H; rw [hy299]; with_reducible exact H2_) | (have H2_ := (Option.bind_some _ _).symm.trans H; with_reducible exact H2_) | with_reducible exact H | (rw [hy299]; exact H) | exact H
 have Ny299 := Aside0.mk hy299
 clear hy299
 by_cases c4 : y299.length + ((rd_T41 l0 0).f1).length < 46912496118442
 rotate_left
 ·rw [if_neg c4] at H
  exact absurd H (by simp)
 rw [if_pos c4] at H
 have LMc4 := Aside0.mk c4
 clear c4
 obtain ⟨y303, hy303⟩ : ∃ y_ : List (S116), y_ = (y299 ++ ((rd_T41 l0 0).f1)) := ⟨_, rfl⟩
 replace H : ((some (([] : List (S74)) : List (S74))).bind fun y306 => (if y306.length + ((rd_T41 l0 0).f2).length < 70368744177664 then (some (t294, t295, t296, y303, (y306 ++ ((rd_T41 l0 0).f2)))) else (none))) = some (r1, r2, r3, r4, r5) := by first | (rw [hy303]; with_reducible exact H) | (have H2_ := (Option.bind_some _ _).symm.trans H; rw [hy303]; with_reducible exact H2_) | (have H2_ := (Option.bind_some _ _).symm.trans H; with_reducible exact H2_) | with_reducible exact H | (rw [hy303]; exact H) | exact H
 have Ny303 := Aside0.mk hy303
 clear hy303
 obtain ⟨y306, hy306⟩ : ∃ y_ : List (S74), y_ = (([] : List (S74))) := ⟨_, rfl⟩
 replace H : (if y306.length + ((rd_T41 l0 0).f2).length < 70368744177664 then (some (t294, t295, t296, y303, (y306 ++ ((rd_T41 l0 0).f2)))) else (none)) = some (r1, r2, r3, r4, r5) := by first | (rw [hy306]; with_reducible exact H) | (have H2_ := (Option.bind_some _ _).symm.trans H; rw [hy306]; with_reducible exact H2_) | (have H2_ := (Option.bind_some _ _).symm.trans H; with_reducible exact H2_) | with_reducible exact H | (rw [hy306]; exact H) | exact H
 have Ny306 := Aside0.mk hy306
 clear hy306
 by_cases c5 : y306.length + ((rd_T41 l0 0).f2).length < 70368744177664
 rotate_left
 ·rw [if_neg c5] at H
  exact absurd H (by simp)
 rw [if_pos c5] at H
 have LMc5 := Aside0.mk c5
 clear c5
 obtain ⟨y310, hy310⟩ : ∃ y_ : List (S74), y_ = (y306 ++ ((rd_T41 l0 0).f2)) := ⟨_, rfl⟩
 replace H : (some (t294, t295, t296, y303, y310)) = some (r1, r2, r3, r4, r5) := by first | (rw [hy310]; with_reducible exact H) | (have H2_ := (Option.bind_some _ _).symm.trans H; rw [hy310]; with_reducible exact H2_) | (have H2_ := (Option.bind_some _ _).symm.trans H; with_reducible exact H2_) | with_reducible exact H | (rw [hy310]; exact H) | exact H
 have Ny310 := Aside0.mk hy310
 clear hy310
 simp only [Option.some.injEq, Prod.mk.injEq] at H
 obtain ⟨rfl, rfl, rfl, rfl, rfl⟩ := H
 go_enter Try.func100, Try.ntmps100
 try go_wp2_with (first | ((with_reducible refine gate_dst (N := 2) rfl ?_); refine zbx 2 #[.int .i8 0, .int .i8 0, .slice none 0 0, .slice none 0 0, .slice none 0 0] 41 ?_; intro gb292 hg w6 hbox hb; have n_ : _ ∧ _ ∧ _ ∧ _ := ⟨zb HB hb, Aside0.mk (hbox), zg HB hg, zg HB hg⟩; clear HB; obtain ⟨HB, BK292, GW292, GE292⟩ := n_; clear hb hbox hg))
 have n_ : _ ∧ _ := ⟨Aside0.mk (blk_drew BK292.out), Aside0.mk (below_drew1 HB.out)⟩
 clear BK292 HB
 obtain ⟨BK292, HB⟩ := n_
 have p293 : 0 ≤ (0 : Int) := (by omega)
 have q293 : 0 < (l0.length : Int) := of_decide_eq_true zA
 obtain ⟨ad293, A293_2, c293_2, A293_3, c293_3, A293_4, c293_4, e293, hx293_0, hx293_1, hx293_2, hx293_3, hx293_4, hl293_2, hi293_2, hl293_3, hi293_3, hl293_4, hi293_4⟩ := at_T41 HR0.out 0 p293 q293
 have hw293_4 := hx293_4
 try simp only [z00, Nat.zero_mul, Addr.add_zero'] at hw293_4
 have hw293_3 := hx293_3
 try simp only [z00, Nat.zero_mul, Addr.add_zero'] at hw293_3
 have hw293_2 := hx293_2
 try simp only [z00, Nat.zero_mul, Addr.add_zero'] at hw293_2
 have hw293_1 := hx293_1
 try simp only [z00, Nat.zero_mul, Addr.add_zero'] at hw293_1
 have hw293_0 := hx293_0
 try simp only [z00, Nat.zero_mul, Addr.add_zero'] at hw293_0
 obtain rfl : adp0 = ad293 := (by injection e293)
 have qi293 : (0 < l0.length) = True := eq_true (by omega)
 try simp only [z00, Nat.zero_mul, Addr.add_zero'] at hx293_0 hx293_1 hx293_2 hx293_3 hx293_4
 replace hx293_0 := zc HB hx293_0
 replace hx293_1 := zc HB hx293_1
 replace hx293_2 := zc HB hx293_2
 replace hx293_3 := zc HB hx293_3
 replace hx293_4 := zc HB hx293_4
 have HR293_2 := Aside0.mk hi293_2
 have HC293_2 := Aside0.mk hl293_2
 clear hi293_2 hl293_2
 have HR293_3 := Aside0.mk hi293_3
 have HC293_3 := Aside0.mk hl293_3
 clear hi293_3 hl293_3
 have HR293_4 := Aside0.mk hi293_4
 have HC293_4 := Aside0.mk hl293_4
 clear hi293_4 hl293_4
 replace p293 := eq_true p293
 replace q293 := eq_true q293
 have p302 : 0 ≤ (0 : Int) := (by omega)
 have q302 : 0 < (l0.length : Int) := of_decide_eq_true zA
 obtain ⟨ad302, A302_2, c302_2, A302_3, c302_3, A302_4, c302_4, e302, hx302_0, hx302_1, hx302_2, hx302_3, hx302_4, hl302_2, hi302_2, hl302_3, hi302_3, hl302_4, hi302_4⟩ := at_T41 HR0.out 0 p302 q302
 have hw302_4 := hx302_4
 try simp only [z00, Nat.zero_mul, Addr.add_zero'] at hw302_4
 have hw302_3 := hx302_3
 try simp only [z00, Nat.zero_mul, Addr.add_zero'] at hw302_3
 have hw302_2 := hx302_2
 try simp only [z00, Nat.zero_mul, Addr.add_zero'] at hw302_2
 have hw302_1 := hx302_1
 try simp only [z00, Nat.zero_mul, Addr.add_zero'] at hw302_1
 have hw302_0 := hx302_0
 try simp only [z00, Nat.zero_mul, Addr.add_zero'] at hw302_0
 obtain rfl : adp0 = ad302 := (by injection e302)
 have qi302 : (0 < l0.length) = True := eq_true (by omega)
 try simp only [z00, Nat.zero_mul, Addr.add_zero'] at hx302_0 hx302_1 hx302_2 hx302_3 hx302_4
 replace hx302_0 := zc HB hx302_0
 replace hx302_1 := zc HB hx302_1
 replace hx302_2 := zc HB hx302_2
 replace hx302_3 := zc HB hx302_3
 replace hx302_4 := zc HB hx302_4
 have HR302_2 := Aside0.mk hi302_2
 have HC302_2 := Aside0.mk hl302_2
 clear hi302_2 hl302_2
 have HR302_3 := Aside0.mk hi302_3
 have HC302_3 := Aside0.mk hl302_3
 clear hi302_3 hl302_3
 have HR302_4 := Aside0.mk hi302_4
 have HC302_4 := Aside0.mk hl302_4
 clear hi302_4 hl302_4
 replace p302 := eq_true p302
 replace q302 := eq_true q302
 have ea_ := Option.some.inj (hx293_2.symm.trans hx302_2)
 injection ea_ with ea_ en_ ec_
 subst ea_
 subst ec_
 clear en_
 have ea_ := Option.some.inj (hx293_3.symm.trans hx302_3)
 injection ea_ with ea_ en_ ec_
 subst ea_
 subst ec_
 clear en_
 have ea_ := Option.some.inj (hx293_4.symm.trans hx302_4)
 injection ea_ with ea_ en_ ec_
 subst ea_
 subst ec_
 clear en_
 have p309 : 0 ≤ (0 : Int) := (by omega)
 have q309 : 0 < (l0.length : Int) := of_decide_eq_true zA
 obtain ⟨ad309, A309_2, c309_2, A309_3, c309_3, A309_4, c309_4, e309, hx309_0, hx309_1, hx309_2, hx309_3, hx309_4, hl309_2, hi309_2, hl309_3, hi309_3, hl309_4, hi309_4⟩ := at_T41 HR0.out 0 p309 q309
 have hw309_4 := hx309_4
 try simp only [z00, Nat.zero_mul, Addr.add_zero'] at hw309_4
 have hw309_3 := hx309_3
 try simp only [z00, Nat.zero_mul, Addr.add_zero'] at hw309_3
 have hw309_2 := hx309_2
 try simp only [z00, Nat.zero_mul, Addr.add_zero'] at hw309_2
 have hw309_1 := hx309_1
 try simp only [z00, Nat.zero_mul, Addr.add_zero'] at hw309_1
 have hw309_0 := hx309_0
 try simp only [z00, Nat.zero_mul, Addr.add_zero'] at hw309_0
 obtain rfl : adp0 = ad309 := (by injection e309)
 have qi309 : (0 < l0.length) = True := eq_true (by omega)
 try simp only [z00, Nat.zero_mul, Addr.add_zero'] at hx309_0 hx309_1 hx309_2 hx309_3 hx309_4
 replace hx309_0 := zc HB hx309_0
 replace hx309_1 := zc HB hx309_1
 replace hx309_2 := zc HB hx309_2
 replace hx309_3 := zc HB hx309_3
 replace hx309_4 := zc HB hx309_4
 have HR309_2 := Aside0.mk hi309_2
 have HC309_2 := Aside0.mk hl309_2
 clear hi309_2 hl309_2
 have HR309_3 := Aside0.mk hi309_3
 have HC309_3 := Aside0.mk hl309_3
 clear hi309_3 hl309_3
 have HR309_4 := Aside0.mk hi309_4
 have HC309_4 := Aside0.mk hl309_4
 clear hi309_4 hl309_4
 replace p309 := eq_true p309
 replace q309 := eq_true q309
 have ea_ := Option.some.inj (hx293_2.symm.trans hx309_2)
 injection ea_ with ea_ en_ ec_
 subst ea_
 subst ec_
 clear en_
 have ea_ := Option.some.inj (hx293_3.symm.trans hx309_3)
 injection ea_ with ea_ en_ ec_
 subst ea_
 subst ec_
 clear en_
 have ea_ := Option.some.inj (hx293_4.symm.trans hx309_4)
 injection ea_ with ea_ en_ ec_
 subst ea_
 subst ec_
 clear en_
 refine start_ (n := 18) (S := fun w' => w'.cell? adp0 = some (.int .i8 ((rd_T41 l0 0).f0.f0)) ∧ w'.cell? ⟨adp0.block, adp0.off + 1, none⟩ = some (.int .i8 ((rd_T41 l0 0).f0.f1)) ∧ w'.cell? ⟨adp0.block, adp0.off + 2, none⟩ = some (.slice A293_2 ((rd_T41 l0 0).f0.f2).length c293_2) ∧ w'.cell? ⟨adp0.block, adp0.off + 3, none⟩ = some (.slice A293_3 ((rd_T41 l0 0).f1).length c293_3) ∧ w'.cell? ⟨adp0.block, adp0.off + 4, none⟩ = some (.slice A293_4 ((rd_T41 l0 0).f2).length c293_4) ∧ w'.cell? adp0 = some (.int .i8 ((rd_T41 l0 0).f0.f0)) ∧ w'.cell? ⟨adp0.block, adp0.off + 1, none⟩ = some (.int .i8 ((rd_T41 l0 0).f0.f1)) ∧ w'.cell? ⟨adp0.block, adp0.off + 2, none⟩ = some (.slice A293_2 ((rd_T41 l0 0).f0.f2).length c293_2) ∧ w'.cell? ⟨adp0.block, adp0.off + 3, none⟩ = some (.slice A293_3 ((rd_T41 l0 0).f1).length c293_3) ∧ w'.cell? ⟨adp0.block, adp0.off + 4, none⟩ = some (.slice A293_4 ((rd_T41 l0 0).f2).length c293_4) ∧ w'.cell? adp0 = some (.int .i8 ((rd_T41 l0 0).f0.f0)) ∧ w'.cell? ⟨adp0.block, adp0.off + 1, none⟩ = some (.int .i8 ((rd_T41 l0 0).f0.f1)) ∧ w'.cell? ⟨adp0.block, adp0.off + 2, none⟩ = some (.slice A293_2 ((rd_T41 l0 0).f0.f2).length c293_2) ∧ w'.cell? ⟨adp0.block, adp0.off + 3, none⟩ = some (.slice A293_3 ((rd_T41 l0 0).f1).length c293_3) ∧ w'.cell? ⟨adp0.block, adp0.off + 4, none⟩ = some (.slice A293_4 ((rd_T41 l0 0).f2).length c293_4)) (ds := []) (zq 18 0) (by kernel_rfl) rfl rfl ⟨(zc HB hw293_0), (zc HB hw293_1), (zc HB hw293_2), (zc HB hw293_3), (zc HB hw293_4), (zc HB hw302_0), (zc HB hw302_1), (zc HB hw302_2), (zc HB hw302_3), (zc HB hw302_4), (zc HB hw309_0), (zc HB hw309_1), (zc HB hw309_2), (zc HB hw309_3), (zc HB hw309_4)⟩ (fun hHeld => ?_); refine with_tabW spec_l03Copy.tab1 spec_l03Copy.bits1 (fun HT_ HW_ => ?_)
 generalize w6.drew = w7 at BK292 HB HR293_2 HR293_3 HR293_4 HR302_2 HR302_3 HR302_4 HR309_2 HR309_3 HR309_4 hx293_0 hx293_1 hx293_2 hx293_3 hx293_4 hx302_0 hx302_1 hx302_2 hx302_3 hx302_4 hx309_0 hx309_1 hx309_2 hx309_3 hx309_4 hHeld ⊢
 refine zpu 0 (some 3) (zq 18 1) HT_ ?_
 refine zpu 1 (some 4) (zq 18 3) HT_ ?_
 refine zpu 2 (some 5) (zq 18 7) HT_ ?_
 refine zpu 5 (some 8) (zq 18 39) HT_ ?_
 refine zpu 6 (some 9) (zq 18 103) HT_ ?_
 refine zpu 7 (some 10) (zq 18 231) HT_ ?_
 refine zpu 11 (some 14) (zq 18 2279) HT_ ?_
 refine zpu 12 (some 15) (zq 18 6375) HT_ ?_
 refine zpu 13 (some 16) (zq 18 14567) HT_ ?_
 refine ztk 8 (some 11) (zq 18 14823) HT_ HW_ rfl hHeld (Or.inl ⟨by rfl, by (rintro w' ⟨s0, s1, s2, s3, s4, s5, s6, s7, s8, s9, s10, s11, s12, s13, s14⟩; go_simp; with_reducible rfl)⟩) ?_
 refine ztk 14 (some 17) (zq 18 31207) HT_ HW_ rfl hHeld (Or.inl ⟨by rfl, by (rintro w' ⟨s0, s1, s2, s3, s4, s5, s6, s7, s8, s9, s10, s11, s12, s13, s14⟩; go_simp; with_reducible rfl)⟩) ?_
 refine join_ (σ := Value × Value × Value × Value) 3 (zq 18 32767) (fun s_ => [(6, .agg #[.int .i8 t294, .int .i8 t295, s_.1]), (7, s_.2.1), (12, s_.2.2.1), (13, s_.2.2.2)]) (fun s_ w' => (w'.cell? adp0 = some (.int .i8 ((rd_T41 l0 0).f0.f0)) ∧ w'.cell? ⟨adp0.block, adp0.off + 1, none⟩ = some (.int .i8 ((rd_T41 l0 0).f0.f1)) ∧ w'.cell? ⟨adp0.block, adp0.off + 2, none⟩ = some (.slice A293_2 ((rd_T41 l0 0).f0.f2).length c293_2) ∧ w'.cell? ⟨adp0.block, adp0.off + 3, none⟩ = some (.slice A293_3 ((rd_T41 l0 0).f1).length c293_3) ∧ w'.cell? ⟨adp0.block, adp0.off + 4, none⟩ = some (.slice A293_4 ((rd_T41 l0 0).f2).length c293_4) ∧ w'.cell? adp0 = some (.int .i8 ((rd_T41 l0 0).f0.f0)) ∧ w'.cell? ⟨adp0.block, adp0.off + 1, none⟩ = some (.int .i8 ((rd_T41 l0 0).f0.f1)) ∧ w'.cell? ⟨adp0.block, adp0.off + 2, none⟩ = some (.slice A293_2 ((rd_T41 l0 0).f0.f2).length c293_2) ∧ w'.cell? ⟨adp0.block, adp0.off + 3, none⟩ = some (.slice A293_3 ((rd_T41 l0 0).f1).length c293_3) ∧ w'.cell? ⟨adp0.block, adp0.off + 4, none⟩ = some (.slice A293_4 ((rd_T41 l0 0).f2).length c293_4) ∧ w'.cell? adp0 = some (.int .i8 ((rd_T41 l0 0).f0.f0)) ∧ w'.cell? ⟨adp0.block, adp0.off + 1, none⟩ = some (.int .i8 ((rd_T41 l0 0).f0.f1)) ∧ w'.cell? ⟨adp0.block, adp0.off + 2, none⟩ = some (.slice A293_2 ((rd_T41 l0 0).f0.f2).length c293_2) ∧ w'.cell? ⟨adp0.block, adp0.off + 3, none⟩ = some (.slice A293_3 ((rd_T41 l0 0).f1).length c293_3) ∧ w'.cell? ⟨adp0.block, adp0.off + 4, none⟩ = some (.slice A293_4 ((rd_T41 l0 0).f2).length c293_4)) ∧ (Kd.R k91 91 w' w.heap.size (fun _ => True) s_.1 t296) ∧ (Kd.R k116 116 w' w.heap.size (fun _ => True) s_.2.2.1 y303) ∧ (Kd.R k74 74 w' w.heap.size (fun _ => True) s_.2.2.2 y306) ∧ (w'.heap[gb292]? = some (.cells #[.int .i8 0, .int .i8 0, .slice none 0 0, .slice none 0 0, .slice none 0 0] 41 (0, 0))) ∧ (Below w.heap.size w w')) ?_ ?_
 rotate_left
 ·intro hJ3_4_9_10
  refine join_ (σ := Value × Value × Value) 4 (zq 18 31743) (fun s_ => [(6, .agg #[.int .i8 t294, .int .i8 t295, s_.1]), (7, s_.2.1), (12, s_.2.2)]) (fun s_ w' => (w'.cell? adp0 = some (.int .i8 ((rd_T41 l0 0).f0.f0)) ∧ w'.cell? ⟨adp0.block, adp0.off + 1, none⟩ = some (.int .i8 ((rd_T41 l0 0).f0.f1)) ∧ w'.cell? ⟨adp0.block, adp0.off + 2, none⟩ = some (.slice A293_2 ((rd_T41 l0 0).f0.f2).length c293_2) ∧ w'.cell? ⟨adp0.block, adp0.off + 3, none⟩ = some (.slice A293_3 ((rd_T41 l0 0).f1).length c293_3) ∧ w'.cell? ⟨adp0.block, adp0.off + 4, none⟩ = some (.slice A293_4 ((rd_T41 l0 0).f2).length c293_4) ∧ w'.cell? adp0 = some (.int .i8 ((rd_T41 l0 0).f0.f0)) ∧ w'.cell? ⟨adp0.block, adp0.off + 1, none⟩ = some (.int .i8 ((rd_T41 l0 0).f0.f1)) ∧ w'.cell? ⟨adp0.block, adp0.off + 2, none⟩ = some (.slice A293_2 ((rd_T41 l0 0).f0.f2).length c293_2) ∧ w'.cell? ⟨adp0.block, adp0.off + 3, none⟩ = some (.slice A293_3 ((rd_T41 l0 0).f1).length c293_3) ∧ w'.cell? ⟨adp0.block, adp0.off + 4, none⟩ = some (.slice A293_4 ((rd_T41 l0 0).f2).length c293_4) ∧ w'.cell? adp0 = some (.int .i8 ((rd_T41 l0 0).f0.f0)) ∧ w'.cell? ⟨adp0.block, adp0.off + 1, none⟩ = some (.int .i8 ((rd_T41 l0 0).f0.f1)) ∧ w'.cell? ⟨adp0.block, adp0.off + 2, none⟩ = some (.slice A293_2 ((rd_T41 l0 0).f0.f2).length c293_2) ∧ w'.cell? ⟨adp0.block, adp0.off + 3, none⟩ = some (.slice A293_3 ((rd_T41 l0 0).f1).length c293_3) ∧ w'.cell? ⟨adp0.block, adp0.off + 4, none⟩ = some (.slice A293_4 ((rd_T41 l0 0).f2).length c293_4)) ∧ (Kd.R k91 91 w' w.heap.size (fun _ => True) s_.1 t296) ∧ (Kd.R k116 116 w' w.heap.size (fun _ => True) s_.2.2 y303) ∧ (w'.heap[gb292]? = some (.cells #[.int .i8 0, .int .i8 0, .slice none 0 0, .slice none 0 0, .slice none 0 0] 41 (0, 0))) ∧ (Below w.heap.size w w')) ?_ ?_
  rotate_left
  rotate_left
  ·skip
   rintro ⟨v297, v300, v304⟩ w12 ⟨hS_, h0_, h1_, h2_, h3_⟩
   have n_ : (Aside0 (Kd.R k91 91 w12 w.heap.size (fun _ => True) v297 t296)) ∧ (Aside0 (Kd.R k116 116 w12 w.heap.size (fun _ => True) v304 y303)) ∧ (Aside0 (w12.heap[gb292]? = some (.cells #[.int .i8 0, .int .i8 0, .slice none 0 0, .slice none 0 0, .slice none 0 0] 41 (0, 0)))) ∧ (Aside0 (Below w.heap.size w w12)) := ⟨⟨h0_⟩, ⟨h1_⟩, ⟨h2_⟩, ⟨h3_⟩⟩
   clear BK292 HB h0_ h1_ h2_ h3_
   obtain ⟨HO298, HO305, BK292, HB⟩ := n_
   have hHeld := hS_
   refine norm_ (a' := ?_) ?_ ?_
   rotate_left
   ·simp only [putAll, Act.put, List.setIfInBounds_toArray, List.set_cons_zero, List.set_cons_succ]
    rfl
   refine one_ (i := 10) (N := some 13) (zq 18 32767) rfl rfl (one_of HT_.out (by kernel_rfl)) (by decide) (fun K hK => ?_)
   refine Kd.R_lit_step k74 _ 74 ?hg (N := 13) ?hd (xs := ([] : List (S74))) (inner := []) (ok := fun _ => True) (okp := fun _ => True) ?hr ?hp (fun _ hk => hk) trivial (Below.refl _ _) (Nat.le_refl _) (by simp) ?_; (case hd => rfl); (case hg => rfl); (case hr => exact zgs); (case hp => exact (Reps.none _ _))
   intro v307 w13 ho14 hb hg_ hnew_
   clear hg_ hnew_
   (first | rw [← Ny306.out] at ho14 | (simp only [Int.reduceToNat] at ho14; rw [← Ny306.out] at ho14))
   have n_ : _ ∧ _ ∧ _ ∧ _ ∧ _ := ⟨zr HO298 hb, zr HO305 hb, Aside0.mk (Kd.R_lower ho14 (zz HB)), zk BK292 hb, zbs hb⟩
   clear HO298 HO305 BK292 HB
   obtain ⟨HO298, HO305, HO308, BK292, HB⟩ := n_
   clear hb ho14
   refine hK.out _ _ ⟨(zc HB hw293_0), (zc HB hw293_1), (zc HB hw293_2), (zc HB hw293_3), (zc HB hw293_4), (zc HB hw302_0), (zc HB hw302_1), (zc HB hw302_2), (zc HB hw302_3), (zc HB hw302_4), (zc HB hw309_0), (zc HB hw309_1), (zc HB hw309_2), (zc HB hw309_3), (zc HB hw309_4)⟩ (fun hHeld => ?_)
   clear hK K
   refine norm_ (a' := ?_) ?_ ?_
   rotate_left
   ·show Act.put _ (some 13) _ = _
    exact zap
   exact norm_ (by first | (simp only [putAll, Act.put, List.setIfInBounds_toArray, List.set_cons_zero, List.set_cons_succ]; done) | (simp only [putAll, Act.put, List.setIfInBounds_toArray, List.set_cons_zero, List.set_cons_succ]; rfl)) (hJ3_4_9_10 (v297, v300, v304, v307) _ ⟨hHeld, (ze HO298).out, (ze HO305).out, (ze HO308).out, (zh BK292).out, zbo⟩)
  intro hJ3_4_9
  refine join_ (σ := Value × Value × Value) 4 (zq 18 32255) (fun s_ => [(6, .agg #[.int .i8 t294, .int .i8 t295, s_.1]), (7, s_.2.1), (13, s_.2.2)]) (fun s_ w' => (w'.cell? adp0 = some (.int .i8 ((rd_T41 l0 0).f0.f0)) ∧ w'.cell? ⟨adp0.block, adp0.off + 1, none⟩ = some (.int .i8 ((rd_T41 l0 0).f0.f1)) ∧ w'.cell? ⟨adp0.block, adp0.off + 2, none⟩ = some (.slice A293_2 ((rd_T41 l0 0).f0.f2).length c293_2) ∧ w'.cell? ⟨adp0.block, adp0.off + 3, none⟩ = some (.slice A293_3 ((rd_T41 l0 0).f1).length c293_3) ∧ w'.cell? ⟨adp0.block, adp0.off + 4, none⟩ = some (.slice A293_4 ((rd_T41 l0 0).f2).length c293_4) ∧ w'.cell? adp0 = some (.int .i8 ((rd_T41 l0 0).f0.f0)) ∧ w'.cell? ⟨adp0.block, adp0.off + 1, none⟩ = some (.int .i8 ((rd_T41 l0 0).f0.f1)) ∧ w'.cell? ⟨adp0.block, adp0.off + 2, none⟩ = some (.slice A293_2 ((rd_T41 l0 0).f0.f2).length c293_2) ∧ w'.cell? ⟨adp0.block, adp0.off + 3, none⟩ = some (.slice A293_3 ((rd_T41 l0 0).f1).length c293_3) ∧ w'.cell? ⟨adp0.block, adp0.off + 4, none⟩ = some (.slice A293_4 ((rd_T41 l0 0).f2).length c293_4) ∧ w'.cell? adp0 = some (.int .i8 ((rd_T41 l0 0).f0.f0)) ∧ w'.cell? ⟨adp0.block, adp0.off + 1, none⟩ = some (.int .i8 ((rd_T41 l0 0).f0.f1)) ∧ w'.cell? ⟨adp0.block, adp0.off + 2, none⟩ = some (.slice A293_2 ((rd_T41 l0 0).f0.f2).length c293_2) ∧ w'.cell? ⟨adp0.block, adp0.off + 3, none⟩ = some (.slice A293_3 ((rd_T41 l0 0).f1).length c293_3) ∧ w'.cell? ⟨adp0.block, adp0.off + 4, none⟩ = some (.slice A293_4 ((rd_T41 l0 0).f2).length c293_4)) ∧ (Kd.R k91 91 w' w.heap.size (fun _ => True) s_.1 t296) ∧ (Kd.R k116 116 w' w.heap.size (fun _ => True) s_.2.1 y299) ∧ (Kd.R k74 74 w' w.heap.size (fun _ => True) s_.2.2 y306) ∧ (w'.heap[gb292]? = some (.cells #[.int .i8 0, .int .i8 0, .slice none 0 0, .slice none 0 0, .slice none 0 0] 41 (0, 0))) ∧ (Below w.heap.size w w')) ?_ ?_
  rotate_left
  rotate_left
  ·skip
   rintro ⟨v297, v300, v307⟩ w13 ⟨hS_, h0_, h1_, h2_, h3_, h4_⟩
   have n_ : (Aside0 (Kd.R k91 91 w13 w.heap.size (fun _ => True) v297 t296)) ∧ (Aside0 (Kd.R k116 116 w13 w.heap.size (fun _ => True) v300 y299)) ∧ (Aside0 (Kd.R k74 74 w13 w.heap.size (fun _ => True) v307 y306)) ∧ (Aside0 (w13.heap[gb292]? = some (.cells #[.int .i8 0, .int .i8 0, .slice none 0 0, .slice none 0 0, .slice none 0 0] 41 (0, 0)))) ∧ (Aside0 (Below w.heap.size w w13)) := ⟨⟨h0_⟩, ⟨h1_⟩, ⟨h2_⟩, ⟨h3_⟩, ⟨h4_⟩⟩
   clear BK292 HB h0_ h1_ h2_ h3_ h4_
   obtain ⟨HO298, HO301, HO308, BK292, HB⟩ := n_
   have hHeld := hS_
   refine norm_ (a' := ?_) ?_ ?_
   rotate_left
   ·simp only [putAll, Act.put, List.setIfInBounds_toArray, List.set_cons_zero, List.set_cons_succ]
    rfl
   refine one_ (i := 9) (N := some 12) (zq 18 32767) rfl rfl (one_of HT_.out (by kernel_rfl)) (by decide) (fun K hK => ?_)
   refine Kd.R_append_rows_step k116 (w0 := w) w.heap.size (by rfl) (.tmp 7) (.tmp 11) 38 116 (.agg #[(.int .i8 0), (.int .i8 0), (.int .i8 0)]) 3 rfl Try.underlying38 info116 rfl (by decide) (by omega) v300 y299 ((rd_T41 l0 0).f1) _ _ _ (fun _ => True) (fun _ => False) rfl rfl ?aO ?aR (fun _ _ h => h) (fun _ h => h.elim) ?aF ?aB ?aS ?aL ?_
   (case aR => exact zcc HB HR302_3.out)
   (case aB => exact zbo)
   (case aF => exact (fun _ _ => trivial))
   (case aO => exact (ze HO301).out)
   (case aS => exact (zz HB))
   (case aL => have := LMc4.out; omega)
   intro v304 w14 ho hb hg hat
   rw [← Ny303.out] at ho
   have n_ : _ ∧ _ ∧ _ ∧ _ ∧ _ := ⟨Aside0.mk (blk_grown (g := gb292) (o := .cells #[.int .i8 0, .int .i8 0, .slice none 0 0, .slice none 0 0, .slice none 0 0] 41 (0, 0)) (zh BK292).out hg (Kd.R_ne HO301.out BK292.out (by decide))), Aside0.mk (Kd.R_over' (ze HO298).out (Kd.R_typed (ze HO301).out) (by decide) hg), Aside0.mk (Kd.R_over' (ze HO308).out (Kd.R_typed (ze HO301).out) (by decide) hg), Aside0.mk (hb), Aside0.mk (ho)⟩
   clear BK292 HO298 HO308 HB HO301
   obtain ⟨BK292, HO298, HO308, HB, HO305⟩ := n_
   clear ho hb hg hat
   refine hK.out _ _ ⟨(zc HB hw293_0), (zc HB hw293_1), (zc HB hw293_2), (zc HB hw293_3), (zc HB hw293_4), (zc HB hw302_0), (zc HB hw302_1), (zc HB hw302_2), (zc HB hw302_3), (zc HB hw302_4), (zc HB hw309_0), (zc HB hw309_1), (zc HB hw309_2), (zc HB hw309_3), (zc HB hw309_4)⟩ (fun hHeld => ?_)
   clear hK K
   refine norm_ (a' := ?_) ?_ ?_
   rotate_left
   ·show Act.put _ (some 12) _ = _
    exact zap
   exact norm_ (by first | (simp only [putAll, Act.put, List.setIfInBounds_toArray, List.set_cons_zero, List.set_cons_succ]; done) | (simp only [putAll, Act.put, List.setIfInBounds_toArray, List.set_cons_zero, List.set_cons_succ]; rfl)) (hJ3_4_9_10 (v297, v300, v304, v307) _ ⟨hHeld, (ze HO298).out, (ze HO305).out, (ze HO308).out, (zh BK292).out, zbo⟩)
  intro hJ3_4_10
  refine join_ (σ := Value × Value) 5 (zq 18 31231) (fun s_ => [(6, .agg #[.int .i8 t294, .int .i8 t295, s_.1]), (7, s_.2)]) (fun s_ w' => (w'.cell? adp0 = some (.int .i8 ((rd_T41 l0 0).f0.f0)) ∧ w'.cell? ⟨adp0.block, adp0.off + 1, none⟩ = some (.int .i8 ((rd_T41 l0 0).f0.f1)) ∧ w'.cell? ⟨adp0.block, adp0.off + 2, none⟩ = some (.slice A293_2 ((rd_T41 l0 0).f0.f2).length c293_2) ∧ w'.cell? ⟨adp0.block, adp0.off + 3, none⟩ = some (.slice A293_3 ((rd_T41 l0 0).f1).length c293_3) ∧ w'.cell? ⟨adp0.block, adp0.off + 4, none⟩ = some (.slice A293_4 ((rd_T41 l0 0).f2).length c293_4) ∧ w'.cell? adp0 = some (.int .i8 ((rd_T41 l0 0).f0.f0)) ∧ w'.cell? ⟨adp0.block, adp0.off + 1, none⟩ = some (.int .i8 ((rd_T41 l0 0).f0.f1)) ∧ w'.cell? ⟨adp0.block, adp0.off + 2, none⟩ = some (.slice A293_2 ((rd_T41 l0 0).f0.f2).length c293_2) ∧ w'.cell? ⟨adp0.block, adp0.off + 3, none⟩ = some (.slice A293_3 ((rd_T41 l0 0).f1).length c293_3) ∧ w'.cell? ⟨adp0.block, adp0.off + 4, none⟩ = some (.slice A293_4 ((rd_T41 l0 0).f2).length c293_4) ∧ w'.cell? adp0 = some (.int .i8 ((rd_T41 l0 0).f0.f0)) ∧ w'.cell? ⟨adp0.block, adp0.off + 1, none⟩ = some (.int .i8 ((rd_T41 l0 0).f0.f1)) ∧ w'.cell? ⟨adp0.block, adp0.off + 2, none⟩ = some (.slice A293_2 ((rd_T41 l0 0).f0.f2).length c293_2) ∧ w'.cell? ⟨adp0.block, adp0.off + 3, none⟩ = some (.slice A293_3 ((rd_T41 l0 0).f1).length c293_3) ∧ w'.cell? ⟨adp0.block, adp0.off + 4, none⟩ = some (.slice A293_4 ((rd_T41 l0 0).f2).length c293_4)) ∧ (Kd.R k91 91 w' w.heap.size (fun _ => True) s_.1 t296) ∧ (Kd.R k116 116 w' w.heap.size (fun _ => True) s_.2 y299) ∧ (w'.heap[gb292]? = some (.cells #[.int .i8 0, .int .i8 0, .slice none 0 0, .slice none 0 0, .slice none 0 0] 41 (0, 0))) ∧ (Below w.heap.size w w')) ?_ ?_
  rotate_left
  rotate_left
  ·skip
   rintro ⟨v297, v300⟩ w11 ⟨hS_, h0_, h1_, h2_, h3_⟩
   have n_ : (Aside0 (Kd.R k91 91 w11 w.heap.size (fun _ => True) v297 t296)) ∧ (Aside0 (Kd.R k116 116 w11 w.heap.size (fun _ => True) v300 y299)) ∧ (Aside0 (w11.heap[gb292]? = some (.cells #[.int .i8 0, .int .i8 0, .slice none 0 0, .slice none 0 0, .slice none 0 0] 41 (0, 0)))) ∧ (Aside0 (Below w.heap.size w w11)) := ⟨⟨h0_⟩, ⟨h1_⟩, ⟨h2_⟩, ⟨h3_⟩⟩
   clear BK292 HB h0_ h1_ h2_ h3_
   obtain ⟨HO298, HO301, BK292, HB⟩ := n_
   have hHeld := hS_
   refine norm_ (a' := ?_) ?_ ?_
   rotate_left
   ·simp only [putAll, Act.put, List.setIfInBounds_toArray, List.set_cons_zero, List.set_cons_succ]
    rfl
   refine two_ (i := 9) (j := 10) (Ni := some 12) (Nj := some 13) (zq 18 31743) (zq 18 32255) rfl rfl rfl rfl (two_of HT_.out (by kernel_rfl)) (by decide) (by decide) (fun K hK => ?_) (fun K hK => ?_)
   rotate_left
   ·skip
    refine Kd.R_lit_step k74 _ 74 ?hg (N := 13) ?hd (xs := ([] : List (S74))) (inner := []) (ok := fun _ => True) (okp := fun _ => True) ?hr ?hp (fun _ hk => hk) trivial (Below.refl _ _) (Nat.le_refl _) (by simp) ?_; (case hd => rfl); (case hg => rfl); (case hr => exact zgs); (case hp => exact (Reps.none _ _))
    intro v307 w12 ho13 hb hg_ hnew_
    clear hg_ hnew_
    (first | rw [← Ny306.out] at ho13 | (simp only [Int.reduceToNat] at ho13; rw [← Ny306.out] at ho13))
    have n_ : _ ∧ _ ∧ _ ∧ _ ∧ _ := ⟨zr HO298 hb, zr HO301 hb, Aside0.mk (Kd.R_lower ho13 (zz HB)), zk BK292 hb, zbs hb⟩
    clear HO298 HO301 BK292 HB
    obtain ⟨HO298, HO301, HO308, BK292, HB⟩ := n_
    clear hb ho13
    refine hK.out _ _ ⟨(zc HB hw293_0), (zc HB hw293_1), (zc HB hw293_2), (zc HB hw293_3), (zc HB hw293_4), (zc HB hw302_0), (zc HB hw302_1), (zc HB hw302_2), (zc HB hw302_3), (zc HB hw302_4), (zc HB hw309_0), (zc HB hw309_1), (zc HB hw309_2), (zc HB hw309_3), (zc HB hw309_4)⟩ (fun hHeld => ?_)
    clear hK K
    refine norm_ (a' := ?_) ?_ ?_
    rotate_left
    ·show Act.put _ (some 13) _ = _
     exact zap
    exact norm_ (by first | (simp only [putAll, Act.put, List.setIfInBounds_toArray, List.set_cons_zero, List.set_cons_succ]; done) | (simp only [putAll, Act.put, List.setIfInBounds_toArray, List.set_cons_zero, List.set_cons_succ]; rfl)) (hJ3_4_10 (v297, v300, v307) _ ⟨hHeld, (ze HO298).out, (ze HO301).out, (ze HO308).out, (zh BK292).out, zbo⟩)
   skip
   refine Kd.R_append_rows_step k116 (w0 := w) w.heap.size (by rfl) (.tmp 7) (.tmp 11) 38 116 (.agg #[(.int .i8 0), (.int .i8 0), (.int .i8 0)]) 3 rfl Try.underlying38 info116 rfl (by decide) (by omega) v300 y299 ((rd_T41 l0 0).f1) _ _ _ (fun _ => True) (fun _ => False) rfl rfl ?aO ?aR (fun _ _ h => h) (fun _ h => h.elim) ?aF ?aB ?aS ?aL ?_
   (case aR => exact zcc HB HR302_3.out)
   (case aB => exact zbo)
   (case aF => exact (fun _ _ => trivial))
   (case aO => exact (ze HO301).out)
   (case aS => exact (zz HB))
   (case aL => have := LMc4.out; omega)
   intro v304 w12 ho hb hg hat
   rw [← Ny303.out] at ho
   have n_ : _ ∧ _ ∧ _ ∧ _ := ⟨Aside0.mk (blk_grown (g := gb292) (o := .cells #[.int .i8 0, .int .i8 0, .slice none 0 0, .slice none 0 0, .slice none 0 0] 41 (0, 0)) (zh BK292).out hg (Kd.R_ne HO301.out BK292.out (by decide))), Aside0.mk (Kd.R_over' (ze HO298).out (Kd.R_typed (ze HO301).out) (by decide) hg), Aside0.mk (hb), Aside0.mk (ho)⟩
   clear BK292 HO298 HB HO301
   obtain ⟨BK292, HO298, HB, HO305⟩ := n_
   clear ho hb hg hat
   refine hK.out _ _ ⟨(zc HB hw293_0), (zc HB hw293_1), (zc HB hw293_2), (zc HB hw293_3), (zc HB hw293_4), (zc HB hw302_0), (zc HB hw302_1), (zc HB hw302_2), (zc HB hw302_3), (zc HB hw302_4), (zc HB hw309_0), (zc HB hw309_1), (zc HB hw309_2), (zc HB hw309_3), (zc HB hw309_4)⟩ (fun hHeld => ?_)
   clear hK K
   refine norm_ (a' := ?_) ?_ ?_
   rotate_left
   ·show Act.put _ (some 12) _ = _
    exact zap
   exact norm_ (by first | (simp only [putAll, Act.put, List.setIfInBounds_toArray, List.set_cons_zero, List.set_cons_succ]; done) | (simp only [putAll, Act.put, List.setIfInBounds_toArray, List.set_cons_zero, List.set_cons_succ]; rfl)) (hJ3_4_9 (v297, v300, v304) _ ⟨hHeld, (ze HO298).out, (ze HO305).out, (zh BK292).out, zbo⟩)
  intro hJ3_4
  refine join_ (σ := Value × Value) 5 (zq 18 32239) (fun s_ => [(6, .agg #[.int .i8 t294, .int .i8 t295, s_.1]), (13, s_.2)]) (fun s_ w' => (w'.cell? adp0 = some (.int .i8 ((rd_T41 l0 0).f0.f0)) ∧ w'.cell? ⟨adp0.block, adp0.off + 1, none⟩ = some (.int .i8 ((rd_T41 l0 0).f0.f1)) ∧ w'.cell? ⟨adp0.block, adp0.off + 2, none⟩ = some (.slice A293_2 ((rd_T41 l0 0).f0.f2).length c293_2) ∧ w'.cell? ⟨adp0.block, adp0.off + 3, none⟩ = some (.slice A293_3 ((rd_T41 l0 0).f1).length c293_3) ∧ w'.cell? ⟨adp0.block, adp0.off + 4, none⟩ = some (.slice A293_4 ((rd_T41 l0 0).f2).length c293_4) ∧ w'.cell? adp0 = some (.int .i8 ((rd_T41 l0 0).f0.f0)) ∧ w'.cell? ⟨adp0.block, adp0.off + 1, none⟩ = some (.int .i8 ((rd_T41 l0 0).f0.f1)) ∧ w'.cell? ⟨adp0.block, adp0.off + 2, none⟩ = some (.slice A293_2 ((rd_T41 l0 0).f0.f2).length c293_2) ∧ w'.cell? ⟨adp0.block, adp0.off + 3, none⟩ = some (.slice A293_3 ((rd_T41 l0 0).f1).length c293_3) ∧ w'.cell? ⟨adp0.block, adp0.off + 4, none⟩ = some (.slice A293_4 ((rd_T41 l0 0).f2).length c293_4) ∧ w'.cell? adp0 = some (.int .i8 ((rd_T41 l0 0).f0.f0)) ∧ w'.cell? ⟨adp0.block, adp0.off + 1, none⟩ = some (.int .i8 ((rd_T41 l0 0).f0.f1)) ∧ w'.cell? ⟨adp0.block, adp0.off + 2, none⟩ = some (.slice A293_2 ((rd_T41 l0 0).f0.f2).length c293_2) ∧ w'.cell? ⟨adp0.block, adp0.off + 3, none⟩ = some (.slice A293_3 ((rd_T41 l0 0).f1).length c293_3) ∧ w'.cell? ⟨adp0.block, adp0.off + 4, none⟩ = some (.slice A293_4 ((rd_T41 l0 0).f2).length c293_4)) ∧ (Kd.R k91 91 w' w.heap.size (fun _ => True) s_.1 t296) ∧ (Kd.R k74 74 w' w.heap.size (fun _ => True) s_.2 y306) ∧ (w'.heap[gb292]? = some (.cells #[.int .i8 0, .int .i8 0, .slice none 0 0, .slice none 0 0, .slice none 0 0] 41 (0, 0))) ∧ (Below w.heap.size w w')) ?_ ?_
  rotate_left
  rotate_left
  ·skip
   rintro ⟨v297, v307⟩ w11 ⟨hS_, h0_, h1_, h2_, h3_⟩
   have n_ : (Aside0 (Kd.R k91 91 w11 w.heap.size (fun _ => True) v297 t296)) ∧ (Aside0 (Kd.R k74 74 w11 w.heap.size (fun _ => True) v307 y306)) ∧ (Aside0 (w11.heap[gb292]? = some (.cells #[.int .i8 0, .int .i8 0, .slice none 0 0, .slice none 0 0, .slice none 0 0] 41 (0, 0)))) ∧ (Aside0 (Below w.heap.size w w11)) := ⟨⟨h0_⟩, ⟨h1_⟩, ⟨h2_⟩, ⟨h3_⟩⟩
   clear BK292 HB h0_ h1_ h2_ h3_
   obtain ⟨HO298, HO308, BK292, HB⟩ := n_
   have hHeld := hS_
   refine norm_ (a' := ?_) ?_ ?_
   rotate_left
   ·simp only [putAll, Act.put, List.setIfInBounds_toArray, List.set_cons_zero, List.set_cons_succ]
    rfl
   refine one_ (i := 4) (N := some 7) (zq 18 32255) rfl rfl (one_of HT_.out (by kernel_rfl)) (by decide) (fun K hK => ?_)
   refine Kd.R_lit_step k116 _ 116 ?hg (N := 7) ?hd (xs := ([] : List (S116))) (inner := []) (ok := fun _ => True) (okp := fun _ => True) ?hr ?hp (fun _ hk => hk) trivial (Below.refl _ _) (Nat.le_refl _) (by simp) ?_; (case hd => rfl); (case hg => rfl); (case hr => exact zgs); (case hp => exact (Reps.none _ _))
   intro v300 w12 ho13 hb hg_ hnew_
   clear hg_ hnew_
   (first | rw [← Ny299.out] at ho13 | (simp only [Int.reduceToNat] at ho13; rw [← Ny299.out] at ho13))
   have n_ : _ ∧ _ ∧ _ ∧ _ ∧ _ := ⟨zr HO298 hb, zr HO308 hb, Aside0.mk (Kd.R_lower ho13 (zz HB)), zk BK292 hb, zbs hb⟩
   clear HO298 HO308 BK292 HB
   obtain ⟨HO298, HO308, HO301, BK292, HB⟩ := n_
   clear hb ho13
   refine hK.out _ _ ⟨(zc HB hw293_0), (zc HB hw293_1), (zc HB hw293_2), (zc HB hw293_3), (zc HB hw293_4), (zc HB hw302_0), (zc HB hw302_1), (zc HB hw302_2), (zc HB hw302_3), (zc HB hw302_4), (zc HB hw309_0), (zc HB hw309_1), (zc HB hw309_2), (zc HB hw309_3), (zc HB hw309_4)⟩ (fun hHeld => ?_)
   clear hK K
   refine norm_ (a' := ?_) ?_ ?_
   rotate_left
   ·show Act.put _ (some 7) _ = _
    exact zap
   exact norm_ (by first | (simp only [putAll, Act.put, List.setIfInBounds_toArray, List.set_cons_zero, List.set_cons_succ]; done) | (simp only [putAll, Act.put, List.setIfInBounds_toArray, List.set_cons_zero, List.set_cons_succ]; rfl)) (hJ3_4_10 (v297, v300, v307) _ ⟨hHeld, (ze HO298).out, (ze HO301).out, (ze HO308).out, (zh BK292).out, zbo⟩)
  intro hJ3_10
  refine join_ (σ := Value × Value) 5 (zq 18 32247) (fun s_ => [(7, s_.1), (13, s_.2)]) (fun s_ w' => (w'.cell? adp0 = some (.int .i8 ((rd_T41 l0 0).f0.f0)) ∧ w'.cell? ⟨adp0.block, adp0.off + 1, none⟩ = some (.int .i8 ((rd_T41 l0 0).f0.f1)) ∧ w'.cell? ⟨adp0.block, adp0.off + 2, none⟩ = some (.slice A293_2 ((rd_T41 l0 0).f0.f2).length c293_2) ∧ w'.cell? ⟨adp0.block, adp0.off + 3, none⟩ = some (.slice A293_3 ((rd_T41 l0 0).f1).length c293_3) ∧ w'.cell? ⟨adp0.block, adp0.off + 4, none⟩ = some (.slice A293_4 ((rd_T41 l0 0).f2).length c293_4) ∧ w'.cell? adp0 = some (.int .i8 ((rd_T41 l0 0).f0.f0)) ∧ w'.cell? ⟨adp0.block, adp0.off + 1, none⟩ = some (.int .i8 ((rd_T41 l0 0).f0.f1)) ∧ w'.cell? ⟨adp0.block, adp0.off + 2, none⟩ = some (.slice A293_2 ((rd_T41 l0 0).f0.f2).length c293_2) ∧ w'.cell? ⟨adp0.block, adp0.off + 3, none⟩ = some (.slice A293_3 ((rd_T41 l0 0).f1).length c293_3) ∧ w'.cell? ⟨adp0.block, adp0.off + 4, none⟩ = some (.slice A293_4 ((rd_T41 l0 0).f2).length c293_4) ∧ w'.cell? adp0 = some (.int .i8 ((rd_T41 l0 0).f0.f0)) ∧ w'.cell? ⟨adp0.block, adp0.off + 1, none⟩ = some (.int .i8 ((rd_T41 l0 0).f0.f1)) ∧ w'.cell? ⟨adp0.block, adp0.off + 2, none⟩ = some (.slice A293_2 ((rd_T41 l0 0).f0.f2).length c293_2) ∧ w'.cell? ⟨adp0.block, adp0.off + 3, none⟩ = some (.slice A293_3 ((rd_T41 l0 0).f1).length c293_3) ∧ w'.cell? ⟨adp0.block, adp0.off + 4, none⟩ = some (.slice A293_4 ((rd_T41 l0 0).f2).length c293_4)) ∧ (Kd.R k116 116 w' w.heap.size (fun _ => True) s_.1 y299) ∧ (Kd.R k74 74 w' w.heap.size (fun _ => True) s_.2 y306) ∧ (w'.heap[gb292]? = some (.cells #[.int .i8 0, .int .i8 0, .slice none 0 0, .slice none 0 0, .slice none 0 0] 41 (0, 0))) ∧ (Below w.heap.size w w')) ?_ ?_
  rotate_left
  rotate_left
  ·skip
   rintro ⟨v300, v307⟩ w12 ⟨hS_, h0_, h1_, h2_, h3_⟩
   have n_ : (Aside0 (Kd.R k116 116 w12 w.heap.size (fun _ => True) v300 y299)) ∧ (Aside0 (Kd.R k74 74 w12 w.heap.size (fun _ => True) v307 y306)) ∧ (Aside0 (w12.heap[gb292]? = some (.cells #[.int .i8 0, .int .i8 0, .slice none 0 0, .slice none 0 0, .slice none 0 0] 41 (0, 0)))) ∧ (Aside0 (Below w.heap.size w w12)) := ⟨⟨h0_⟩, ⟨h1_⟩, ⟨h2_⟩, ⟨h3_⟩⟩
   clear BK292 HB h0_ h1_ h2_ h3_
   obtain ⟨HO301, HO308, BK292, HB⟩ := n_
   have hHeld := hS_
   refine norm_ (a' := ?_) ?_ ?_
   rotate_left
   ·simp only [putAll, Act.put, List.setIfInBounds_toArray, List.set_cons_zero, List.set_cons_succ]
    rfl
   refine one_ (i := 3) (N := some 6) (zq 18 32255) rfl rfl (one_of HT_.out (by kernel_rfl)) (by decide) (fun K hK => ?_)
   refine goes_ Try.func131 (by kernel_rfl) rfl #[.pointer (some adp0)] (by rfl) rfl rfl zm ?_
   with_reducible refine (spec_l01Copy.calls _ [(⟨(rd_T41 l0 0).f0.f0, (rd_T41 l0 0).f0.f1, (rd_T41 l0 0).f0.f2⟩ : S37)] t294 t295 t296 _ ?side1 A3.out).mono ?_
   (case side1 => refine ro_first (d := k41) (d1 := k37) (f := fun x : S41 => (x.f0, x.f1, x.f2)) (l := l0) rfl z41 ?_ (by first | (have h_ := of_eq_true q293; omega) | (have h_ : 0 < (l0.length : Int) := of_decide_eq_true (by assumption); omega) | omega) rfl; exact zcc HB HR0.out)
   rintro e w13 ⟨v297, rfl, ho0, hb⟩
   refine ⟨_, rfl, ?_⟩
   have n_ : _ ∧ _ ∧ _ ∧ _ ∧ _ := ⟨zr HO301 hb, zr HO308 hb, Aside0.mk (Kd.R_lower ho0 (zz HB)), zk BK292 hb, zbs hb⟩
   clear HO301 HO308 BK292 HB
   obtain ⟨HO301, HO308, HO298, BK292, HB⟩ := n_
   (try clear hb)
   (try clear hb2)
   (try clear hk)
   (try clear hi)
   (try clear ho0)
   refine hK.out _ _ ⟨(zc HB hw293_0), (zc HB hw293_1), (zc HB hw293_2), (zc HB hw293_3), (zc HB hw293_4), (zc HB hw302_0), (zc HB hw302_1), (zc HB hw302_2), (zc HB hw302_3), (zc HB hw302_4), (zc HB hw309_0), (zc HB hw309_1), (zc HB hw309_2), (zc HB hw309_3), (zc HB hw309_4)⟩ (fun hHeld => ?_)
   clear hK K
   refine norm_ (a' := ?_) ?_ ?_
   rotate_left
   ·show Act.put _ (some 6) _ = _
    exact zap
   exact norm_ (by first | (simp only [putAll, Act.put, List.setIfInBounds_toArray, List.set_cons_zero, List.set_cons_succ]; done) | (simp only [putAll, Act.put, List.setIfInBounds_toArray, List.set_cons_zero, List.set_cons_succ]; rfl)) (hJ3_4_10 (v297, v300, v307) _ ⟨hHeld, (ze HO298).out, (ze HO301).out, (ze HO308).out, (zh BK292).out, zbo⟩)
  intro hJ4_10
  refine join_ (σ := Value) 6 (zq 18 31215) (fun s_ => [(6, .agg #[.int .i8 t294, .int .i8 t295, s_])]) (fun s_ w' => (w'.cell? adp0 = some (.int .i8 ((rd_T41 l0 0).f0.f0)) ∧ w'.cell? ⟨adp0.block, adp0.off + 1, none⟩ = some (.int .i8 ((rd_T41 l0 0).f0.f1)) ∧ w'.cell? ⟨adp0.block, adp0.off + 2, none⟩ = some (.slice A293_2 ((rd_T41 l0 0).f0.f2).length c293_2) ∧ w'.cell? ⟨adp0.block, adp0.off + 3, none⟩ = some (.slice A293_3 ((rd_T41 l0 0).f1).length c293_3) ∧ w'.cell? ⟨adp0.block, adp0.off + 4, none⟩ = some (.slice A293_4 ((rd_T41 l0 0).f2).length c293_4) ∧ w'.cell? adp0 = some (.int .i8 ((rd_T41 l0 0).f0.f0)) ∧ w'.cell? ⟨adp0.block, adp0.off + 1, none⟩ = some (.int .i8 ((rd_T41 l0 0).f0.f1)) ∧ w'.cell? ⟨adp0.block, adp0.off + 2, none⟩ = some (.slice A293_2 ((rd_T41 l0 0).f0.f2).length c293_2) ∧ w'.cell? ⟨adp0.block, adp0.off + 3, none⟩ = some (.slice A293_3 ((rd_T41 l0 0).f1).length c293_3) ∧ w'.cell? ⟨adp0.block, adp0.off + 4, none⟩ = some (.slice A293_4 ((rd_T41 l0 0).f2).length c293_4) ∧ w'.cell? adp0 = some (.int .i8 ((rd_T41 l0 0).f0.f0)) ∧ w'.cell? ⟨adp0.block, adp0.off + 1, none⟩ = some (.int .i8 ((rd_T41 l0 0).f0.f1)) ∧ w'.cell? ⟨adp0.block, adp0.off + 2, none⟩ = some (.slice A293_2 ((rd_T41 l0 0).f0.f2).length c293_2) ∧ w'.cell? ⟨adp0.block, adp0.off + 3, none⟩ = some (.slice A293_3 ((rd_T41 l0 0).f1).length c293_3) ∧ w'.cell? ⟨adp0.block, adp0.off + 4, none⟩ = some (.slice A293_4 ((rd_T41 l0 0).f2).length c293_4)) ∧ (Kd.R k91 91 w' w.heap.size (fun _ => True) s_ t296) ∧ (w'.heap[gb292]? = some (.cells #[.int .i8 0, .int .i8 0, .slice none 0 0, .slice none 0 0, .slice none 0 0] 41 (0, 0))) ∧ (Below w.heap.size w w')) ?_ ?_
  rotate_left
  rotate_left
  ·skip
   rintro v297 w9 ⟨hS_, h0_, h1_, h2_⟩
   have n_ : (Aside0 (Kd.R k91 91 w9 w.heap.size (fun _ => True) v297 t296)) ∧ (Aside0 (w9.heap[gb292]? = some (.cells #[.int .i8 0, .int .i8 0, .slice none 0 0, .slice none 0 0, .slice none 0 0] 41 (0, 0)))) ∧ (Aside0 (Below w.heap.size w w9)) := ⟨⟨h0_⟩, ⟨h1_⟩, ⟨h2_⟩⟩
   clear BK292 HB h0_ h1_ h2_
   obtain ⟨HO298, BK292, HB⟩ := n_
   have hHeld := hS_
   refine norm_ (a' := ?_) ?_ ?_
   rotate_left
   ·simp only [putAll, Act.put, List.setIfInBounds_toArray, List.set_cons_zero, List.set_cons_succ]
    rfl
   refine two_ (i := 4) (j := 10) (Ni := some 7) (Nj := some 13) (zq 18 31231) (zq 18 32239) rfl rfl rfl rfl (two_of HT_.out (by kernel_rfl)) (by decide) (by decide) (fun K hK => ?_) (fun K hK => ?_)
   rotate_left
   ·skip
    refine Kd.R_lit_step k74 _ 74 ?hg (N := 13) ?hd (xs := ([] : List (S74))) (inner := []) (ok := fun _ => True) (okp := fun _ => True) ?hr ?hp (fun _ hk => hk) trivial (Below.refl _ _) (Nat.le_refl _) (by simp) ?_; (case hd => rfl); (case hg => rfl); (case hr => exact zgs); (case hp => exact (Reps.none _ _))
    intro v307 w10 ho11 hb hg_ hnew_
    clear hg_ hnew_
    (first | rw [← Ny306.out] at ho11 | (simp only [Int.reduceToNat] at ho11; rw [← Ny306.out] at ho11))
    have n_ : _ ∧ _ ∧ _ ∧ _ := ⟨zr HO298 hb, Aside0.mk (Kd.R_lower ho11 (zz HB)), zk BK292 hb, zbs hb⟩
    clear HO298 BK292 HB
    obtain ⟨HO298, HO308, BK292, HB⟩ := n_
    clear hb ho11
    refine hK.out _ _ ⟨(zc HB hw293_0), (zc HB hw293_1), (zc HB hw293_2), (zc HB hw293_3), (zc HB hw293_4), (zc HB hw302_0), (zc HB hw302_1), (zc HB hw302_2), (zc HB hw302_3), (zc HB hw302_4), (zc HB hw309_0), (zc HB hw309_1), (zc HB hw309_2), (zc HB hw309_3), (zc HB hw309_4)⟩ (fun hHeld => ?_)
    clear hK K
    refine norm_ (a' := ?_) ?_ ?_
    rotate_left
    ·show Act.put _ (some 13) _ = _
     exact zap
    exact norm_ (by first | (simp only [putAll, Act.put, List.setIfInBounds_toArray, List.set_cons_zero, List.set_cons_succ]; done) | (simp only [putAll, Act.put, List.setIfInBounds_toArray, List.set_cons_zero, List.set_cons_succ]; rfl)) (hJ3_10 (v297, v307) _ ⟨hHeld, (ze HO298).out, (ze HO308).out, (zh BK292).out, zbo⟩)
   skip
   refine Kd.R_lit_step k116 _ 116 ?hg (N := 7) ?hd (xs := ([] : List (S116))) (inner := []) (ok := fun _ => True) (okp := fun _ => True) ?hr ?hp (fun _ hk => hk) trivial (Below.refl _ _) (Nat.le_refl _) (by simp) ?_; (case hd => rfl); (case hg => rfl); (case hr => exact zgs); (case hp => exact (Reps.none _ _))
   intro v300 w10 ho11 hb hg_ hnew_
   clear hg_ hnew_
   (first | rw [← Ny299.out] at ho11 | (simp only [Int.reduceToNat] at ho11; rw [← Ny299.out] at ho11))
   have n_ : _ ∧ _ ∧ _ ∧ _ := ⟨zr HO298 hb, Aside0.mk (Kd.R_lower ho11 (zz HB)), zk BK292 hb, zbs hb⟩
   clear HO298 BK292 HB
   obtain ⟨HO298, HO301, BK292, HB⟩ := n_
   clear hb ho11
   refine hK.out _ _ ⟨(zc HB hw293_0), (zc HB hw293_1), (zc HB hw293_2), (zc HB hw293_3), (zc HB hw293_4), (zc HB hw302_0), (zc HB hw302_1), (zc HB hw302_2), (zc HB hw302_3), (zc HB hw302_4), (zc HB hw309_0), (zc HB hw309_1), (zc HB hw309_2), (zc HB hw309_3), (zc HB hw309_4)⟩ (fun hHeld => ?_)
   clear hK K
   refine norm_ (a' := ?_) ?_ ?_
   rotate_left
   ·show Act.put _ (some 7) _ = _
    exact zap
   exact norm_ (by first | (simp only [putAll, Act.put, List.setIfInBounds_toArray, List.set_cons_zero, List.set_cons_succ]; done) | (simp only [putAll, Act.put, List.setIfInBounds_toArray, List.set_cons_zero, List.set_cons_succ]; rfl)) (hJ3_4 (v297, v300) _ ⟨hHeld, (ze HO298).out, (ze HO301).out, (zh BK292).out, zbo⟩)
  intro hJ3
  refine join_ (σ := Value) 6 (zq 18 31223) (fun s_ => [(7, s_)]) (fun s_ w' => (w'.cell? adp0 = some (.int .i8 ((rd_T41 l0 0).f0.f0)) ∧ w'.cell? ⟨adp0.block, adp0.off + 1, none⟩ = some (.int .i8 ((rd_T41 l0 0).f0.f1)) ∧ w'.cell? ⟨adp0.block, adp0.off + 2, none⟩ = some (.slice A293_2 ((rd_T41 l0 0).f0.f2).length c293_2) ∧ w'.cell? ⟨adp0.block, adp0.off + 3, none⟩ = some (.slice A293_3 ((rd_T41 l0 0).f1).length c293_3) ∧ w'.cell? ⟨adp0.block, adp0.off + 4, none⟩ = some (.slice A293_4 ((rd_T41 l0 0).f2).length c293_4) ∧ w'.cell? adp0 = some (.int .i8 ((rd_T41 l0 0).f0.f0)) ∧ w'.cell? ⟨adp0.block, adp0.off + 1, none⟩ = some (.int .i8 ((rd_T41 l0 0).f0.f1)) ∧ w'.cell? ⟨adp0.block, adp0.off + 2, none⟩ = some (.slice A293_2 ((rd_T41 l0 0).f0.f2).length c293_2) ∧ w'.cell? ⟨adp0.block, adp0.off + 3, none⟩ = some (.slice A293_3 ((rd_T41 l0 0).f1).length c293_3) ∧ w'.cell? ⟨adp0.block, adp0.off + 4, none⟩ = some (.slice A293_4 ((rd_T41 l0 0).f2).length c293_4) ∧ w'.cell? adp0 = some (.int .i8 ((rd_T41 l0 0).f0.f0)) ∧ w'.cell? ⟨adp0.block, adp0.off + 1, none⟩ = some (.int .i8 ((rd_T41 l0 0).f0.f1)) ∧ w'.cell? ⟨adp0.block, adp0.off + 2, none⟩ = some (.slice A293_2 ((rd_T41 l0 0).f0.f2).length c293_2) ∧ w'.cell? ⟨adp0.block, adp0.off + 3, none⟩ = some (.slice A293_3 ((rd_T41 l0 0).f1).length c293_3) ∧ w'.cell? ⟨adp0.block, adp0.off + 4, none⟩ = some (.slice A293_4 ((rd_T41 l0 0).f2).length c293_4)) ∧ (Kd.R k116 116 w' w.heap.size (fun _ => True) s_ y299) ∧ (w'.heap[gb292]? = some (.cells #[.int .i8 0, .int .i8 0, .slice none 0 0, .slice none 0 0, .slice none 0 0] 41 (0, 0))) ∧ (Below w.heap.size w w')) ?_ ?_
  rotate_left
  rotate_left
  ·skip
   rintro v300 w10 ⟨hS_, h0_, h1_, h2_⟩
   have n_ : (Aside0 (Kd.R k116 116 w10 w.heap.size (fun _ => True) v300 y299)) ∧ (Aside0 (w10.heap[gb292]? = some (.cells #[.int .i8 0, .int .i8 0, .slice none 0 0, .slice none 0 0, .slice none 0 0] 41 (0, 0)))) ∧ (Aside0 (Below w.heap.size w w10)) := ⟨⟨h0_⟩, ⟨h1_⟩, ⟨h2_⟩⟩
   clear BK292 HB h0_ h1_ h2_
   obtain ⟨HO301, BK292, HB⟩ := n_
   have hHeld := hS_
   refine norm_ (a' := ?_) ?_ ?_
   rotate_left
   ·simp only [putAll, Act.put, List.setIfInBounds_toArray, List.set_cons_zero, List.set_cons_succ]
    rfl
   refine two_ (i := 3) (j := 10) (Ni := some 6) (Nj := some 13) (zq 18 31231) (zq 18 32247) rfl rfl rfl rfl (two_of HT_.out (by kernel_rfl)) (by decide) (by decide) (fun K hK => ?_) (fun K hK => ?_)
   rotate_left
   ·skip
    refine Kd.R_lit_step k74 _ 74 ?hg (N := 13) ?hd (xs := ([] : List (S74))) (inner := []) (ok := fun _ => True) (okp := fun _ => True) ?hr ?hp (fun _ hk => hk) trivial (Below.refl _ _) (Nat.le_refl _) (by simp) ?_; (case hd => rfl); (case hg => rfl); (case hr => exact zgs); (case hp => exact (Reps.none _ _))
    intro v307 w11 ho12 hb hg_ hnew_
    clear hg_ hnew_
    (first | rw [← Ny306.out] at ho12 | (simp only [Int.reduceToNat] at ho12; rw [← Ny306.out] at ho12))
    have n_ : _ ∧ _ ∧ _ ∧ _ := ⟨zr HO301 hb, Aside0.mk (Kd.R_lower ho12 (zz HB)), zk BK292 hb, zbs hb⟩
    clear HO301 BK292 HB
    obtain ⟨HO301, HO308, BK292, HB⟩ := n_
    clear hb ho12
    refine hK.out _ _ ⟨(zc HB hw293_0), (zc HB hw293_1), (zc HB hw293_2), (zc HB hw293_3), (zc HB hw293_4), (zc HB hw302_0), (zc HB hw302_1), (zc HB hw302_2), (zc HB hw302_3), (zc HB hw302_4), (zc HB hw309_0), (zc HB hw309_1), (zc HB hw309_2), (zc HB hw309_3), (zc HB hw309_4)⟩ (fun hHeld => ?_)
    clear hK K
    refine norm_ (a' := ?_) ?_ ?_
    rotate_left
    ·show Act.put _ (some 13) _ = _
     exact zap
    exact norm_ (by first | (simp only [putAll, Act.put, List.setIfInBounds_toArray, List.set_cons_zero, List.set_cons_succ]; done) | (simp only [putAll, Act.put, List.setIfInBounds_toArray, List.set_cons_zero, List.set_cons_succ]; rfl)) (hJ4_10 (v300, v307) _ ⟨hHeld, (ze HO301).out, (ze HO308).out, (zh BK292).out, zbo⟩)
   skip
   refine goes_ Try.func131 (by kernel_rfl) rfl #[.pointer (some adp0)] (by rfl) rfl rfl zm ?_
   with_reducible refine (spec_l01Copy.calls _ [(⟨(rd_T41 l0 0).f0.f0, (rd_T41 l0 0).f0.f1, (rd_T41 l0 0).f0.f2⟩ : S37)] t294 t295 t296 _ ?side1 A3.out).mono ?_
   (case side1 => refine ro_first (d := k41) (d1 := k37) (f := fun x : S41 => (x.f0, x.f1, x.f2)) (l := l0) rfl z41 ?_ (by first | (have h_ := of_eq_true q293; omega) | (have h_ : 0 < (l0.length : Int) := of_decide_eq_true (by assumption); omega) | omega) rfl; exact zcc HB HR0.out)
   rintro e w11 ⟨v297, rfl, ho0, hb⟩
   refine ⟨_, rfl, ?_⟩
   have n_ : _ ∧ _ ∧ _ ∧ _ := ⟨zr HO301 hb, Aside0.mk (Kd.R_lower ho0 (zz HB)), zk BK292 hb, zbs hb⟩
   clear HO301 BK292 HB
   obtain ⟨HO301, HO298, BK292, HB⟩ := n_
   (try clear hb)
   (try clear hb2)
   (try clear hk)
   (try clear hi)
   (try clear ho0)
   refine hK.out _ _ ⟨(zc HB hw293_0), (zc HB hw293_1), (zc HB hw293_2), (zc HB hw293_3), (zc HB hw293_4), (zc HB hw302_0), (zc HB hw302_1), (zc HB hw302_2), (zc HB hw302_3), (zc HB hw302_4), (zc HB hw309_0), (zc HB hw309_1), (zc HB hw309_2), (zc HB hw309_3), (zc HB hw309_4)⟩ (fun hHeld => ?_)
   clear hK K
   refine norm_ (a' := ?_) ?_ ?_
   rotate_left
   ·show Act.put _ (some 6) _ = _
    exact zap
   exact norm_ (by first | (simp only [putAll, Act.put, List.setIfInBounds_toArray, List.set_cons_zero, List.set_cons_succ]; done) | (simp only [putAll, Act.put, List.setIfInBounds_toArray, List.set_cons_zero, List.set_cons_succ]; rfl)) (hJ3_4 (v297, v300) _ ⟨hHeld, (ze HO298).out, (ze HO301).out, (zh BK292).out, zbo⟩)
  intro hJ4
  refine join_ (σ := Value) 6 (zq 18 32231) (fun s_ => [(13, s_)]) (fun s_ w' => (w'.cell? adp0 = some (.int .i8 ((rd_T41 l0 0).f0.f0)) ∧ w'.cell? ⟨adp0.block, adp0.off + 1, none⟩ = some (.int .i8 ((rd_T41 l0 0).f0.f1)) ∧ w'.cell? ⟨adp0.block, adp0.off + 2, none⟩ = some (.slice A293_2 ((rd_T41 l0 0).f0.f2).length c293_2) ∧ w'.cell? ⟨adp0.block, adp0.off + 3, none⟩ = some (.slice A293_3 ((rd_T41 l0 0).f1).length c293_3) ∧ w'.cell? ⟨adp0.block, adp0.off + 4, none⟩ = some (.slice A293_4 ((rd_T41 l0 0).f2).length c293_4) ∧ w'.cell? adp0 = some (.int .i8 ((rd_T41 l0 0).f0.f0)) ∧ w'.cell? ⟨adp0.block, adp0.off + 1, none⟩ = some (.int .i8 ((rd_T41 l0 0).f0.f1)) ∧ w'.cell? ⟨adp0.block, adp0.off + 2, none⟩ = some (.slice A293_2 ((rd_T41 l0 0).f0.f2).length c293_2) ∧ w'.cell? ⟨adp0.block, adp0.off + 3, none⟩ = some (.slice A293_3 ((rd_T41 l0 0).f1).length c293_3) ∧ w'.cell? ⟨adp0.block, adp0.off + 4, none⟩ = some (.slice A293_4 ((rd_T41 l0 0).f2).length c293_4) ∧ w'.cell? adp0 = some (.int .i8 ((rd_T41 l0 0).f0.f0)) ∧ w'.cell? ⟨adp0.block, adp0.off + 1, none⟩ = some (.int .i8 ((rd_T41 l0 0).f0.f1)) ∧ w'.cell? ⟨adp0.block, adp0.off + 2, none⟩ = some (.slice A293_2 ((rd_T41 l0 0).f0.f2).length c293_2) ∧ w'.cell? ⟨adp0.block, adp0.off + 3, none⟩ = some (.slice A293_3 ((rd_T41 l0 0).f1).length c293_3) ∧ w'.cell? ⟨adp0.block, adp0.off + 4, none⟩ = some (.slice A293_4 ((rd_T41 l0 0).f2).length c293_4)) ∧ (Kd.R k74 74 w' w.heap.size (fun _ => True) s_ y306) ∧ (w'.heap[gb292]? = some (.cells #[.int .i8 0, .int .i8 0, .slice none 0 0, .slice none 0 0, .slice none 0 0] 41 (0, 0))) ∧ (Below w.heap.size w w')) ?_ ?_
  rotate_left
  ·intro hJ10
   refine three_ (i := 3) (j := 4) (k := 10) (Ni := some 6) (Nj := some 7) (Nk := some 13) (zq 18 31215) (zq 18 31223) (zq 18 32231) rfl rfl rfl rfl rfl rfl (three_of HT_.out (by kernel_rfl)) (by decide) (by decide) (by decide) (fun K hK => ?_) (fun K hK => ?_) (fun K hK => ?_)
   rotate_left
   ·skip
    refine Kd.R_lit_step k116 _ 116 ?hg (N := 7) ?hd (xs := ([] : List (S116))) (inner := []) (ok := fun _ => True) (okp := fun _ => True) ?hr ?hp (fun _ hk => hk) trivial (Below.refl _ _) (Nat.le_refl _) (by simp) ?_; (case hd => rfl); (case hg => rfl); (case hr => exact zgs); (case hp => exact (Reps.none _ _))
    intro v300 w8 ho9 hb hg_ hnew_
    clear hg_ hnew_
    (first | rw [← Ny299.out] at ho9 | (simp only [Int.reduceToNat] at ho9; rw [← Ny299.out] at ho9))
    have n_ : _ ∧ _ ∧ _ := ⟨Aside0.mk (Kd.R_lower ho9 (zz HB)), zk BK292 hb, zbs hb⟩
    clear BK292 HB
    obtain ⟨HO301, BK292, HB⟩ := n_
    clear hb ho9
    refine hK.out _ _ ⟨(zc HB hw293_0), (zc HB hw293_1), (zc HB hw293_2), (zc HB hw293_3), (zc HB hw293_4), (zc HB hw302_0), (zc HB hw302_1), (zc HB hw302_2), (zc HB hw302_3), (zc HB hw302_4), (zc HB hw309_0), (zc HB hw309_1), (zc HB hw309_2), (zc HB hw309_3), (zc HB hw309_4)⟩ (fun hHeld => ?_)
    clear hK K
    refine norm_ (a' := ?_) ?_ ?_
    rotate_left
    ·show Act.put _ (some 7) _ = _
     exact zap
    exact norm_ (by first | (simp only [putAll, Act.put, List.setIfInBounds_toArray, List.set_cons_zero, List.set_cons_succ]; done) | (simp only [putAll, Act.put, List.setIfInBounds_toArray, List.set_cons_zero, List.set_cons_succ]; rfl)) (hJ4 (v300) _ ⟨hHeld, (ze HO301).out, (zh BK292).out, zbo⟩)
   ·skip
    refine Kd.R_lit_step k74 _ 74 ?hg (N := 13) ?hd (xs := ([] : List (S74))) (inner := []) (ok := fun _ => True) (okp := fun _ => True) ?hr ?hp (fun _ hk => hk) trivial (Below.refl _ _) (Nat.le_refl _) (by simp) ?_; (case hd => rfl); (case hg => rfl); (case hr => exact zgs); (case hp => exact (Reps.none _ _))
    intro v307 w8 ho9 hb hg_ hnew_
    clear hg_ hnew_
    (first | rw [← Ny306.out] at ho9 | (simp only [Int.reduceToNat] at ho9; rw [← Ny306.out] at ho9))
    have n_ : _ ∧ _ ∧ _ := ⟨Aside0.mk (Kd.R_lower ho9 (zz HB)), zk BK292 hb, zbs hb⟩
    clear BK292 HB
    obtain ⟨HO308, BK292, HB⟩ := n_
    clear hb ho9
    refine hK.out _ _ ⟨(zc HB hw293_0), (zc HB hw293_1), (zc HB hw293_2), (zc HB hw293_3), (zc HB hw293_4), (zc HB hw302_0), (zc HB hw302_1), (zc HB hw302_2), (zc HB hw302_3), (zc HB hw302_4), (zc HB hw309_0), (zc HB hw309_1), (zc HB hw309_2), (zc HB hw309_3), (zc HB hw309_4)⟩ (fun hHeld => ?_)
    clear hK K
    refine norm_ (a' := ?_) ?_ ?_
    rotate_left
    ·show Act.put _ (some 13) _ = _
     exact zap
    exact norm_ (by first | (simp only [putAll, Act.put, List.setIfInBounds_toArray, List.set_cons_zero, List.set_cons_succ]; done) | (simp only [putAll, Act.put, List.setIfInBounds_toArray, List.set_cons_zero, List.set_cons_succ]; rfl)) (hJ10 (v307) _ ⟨hHeld, (ze HO308).out, (zh BK292).out, zbo⟩)
   skip
   refine goes_ Try.func131 (by kernel_rfl) rfl #[.pointer (some adp0)] (by rfl) rfl rfl zm ?_
   with_reducible refine (spec_l01Copy.calls _ [(⟨(rd_T41 l0 0).f0.f0, (rd_T41 l0 0).f0.f1, (rd_T41 l0 0).f0.f2⟩ : S37)] t294 t295 t296 _ ?side1 A3.out).mono ?_
   (case side1 => refine ro_first (d := k41) (d1 := k37) (f := fun x : S41 => (x.f0, x.f1, x.f2)) (l := l0) rfl z41 ?_ (by first | (have h_ := of_eq_true q293; omega) | (have h_ : 0 < (l0.length : Int) := of_decide_eq_true (by assumption); omega) | omega) rfl; exact zcc HB HR0.out)
   rintro e w8 ⟨v297, rfl, ho0, hb⟩
   refine ⟨_, rfl, ?_⟩
   have n_ : _ ∧ _ ∧ _ := ⟨Aside0.mk (Kd.R_lower ho0 (zz HB)), zk BK292 hb, zbs hb⟩
   clear BK292 HB
   obtain ⟨HO298, BK292, HB⟩ := n_
   (try clear hb)
   (try clear hb2)
   (try clear hk)
   (try clear hi)
   (try clear ho0)
   refine hK.out _ _ ⟨(zc HB hw293_0), (zc HB hw293_1), (zc HB hw293_2), (zc HB hw293_3), (zc HB hw293_4), (zc HB hw302_0), (zc HB hw302_1), (zc HB hw302_2), (zc HB hw302_3), (zc HB hw302_4), (zc HB hw309_0), (zc HB hw309_1), (zc HB hw309_2), (zc HB hw309_3), (zc HB hw309_4)⟩ (fun hHeld => ?_)
   clear hK K
   refine norm_ (a' := ?_) ?_ ?_
   rotate_left
   ·show Act.put _ (some 6) _ = _
    exact zap
   exact norm_ (by first | (simp only [putAll, Act.put, List.setIfInBounds_toArray, List.set_cons_zero, List.set_cons_succ]; done) | (simp only [putAll, Act.put, List.setIfInBounds_toArray, List.set_cons_zero, List.set_cons_succ]; rfl)) (hJ3 (v297) _ ⟨hHeld, (ze HO298).out, (zh BK292).out, zbo⟩)
  skip
  rintro v307 w10 ⟨hS_, h0_, h1_, h2_⟩
  have n_ : (Aside0 (Kd.R k74 74 w10 w.heap.size (fun _ => True) v307 y306)) ∧ (Aside0 (w10.heap[gb292]? = some (.cells #[.int .i8 0, .int .i8 0, .slice none 0 0, .slice none 0 0, .slice none 0 0] 41 (0, 0)))) ∧ (Aside0 (Below w.heap.size w w10)) := ⟨⟨h0_⟩, ⟨h1_⟩, ⟨h2_⟩⟩
  clear BK292 HB h0_ h1_ h2_
  obtain ⟨HO308, BK292, HB⟩ := n_
  have hHeld := hS_
  refine norm_ (a' := ?_) ?_ ?_
  rotate_left
  ·simp only [putAll, Act.put, List.setIfInBounds_toArray, List.set_cons_zero, List.set_cons_succ]
   rfl
  refine two_ (i := 3) (j := 4) (Ni := some 6) (Nj := some 7) (zq 18 32239) (zq 18 32247) rfl rfl rfl rfl (two_of HT_.out (by kernel_rfl)) (by decide) (by decide) (fun K hK => ?_) (fun K hK => ?_)
  rotate_left
  ·skip
   refine Kd.R_lit_step k116 _ 116 ?hg (N := 7) ?hd (xs := ([] : List (S116))) (inner := []) (ok := fun _ => True) (okp := fun _ => True) ?hr ?hp (fun _ hk => hk) trivial (Below.refl _ _) (Nat.le_refl _) (by simp) ?_; (case hd => rfl); (case hg => rfl); (case hr => exact zgs); (case hp => exact (Reps.none _ _))
   intro v300 w11 ho12 hb hg_ hnew_
   clear hg_ hnew_
   (first | rw [← Ny299.out] at ho12 | (simp only [Int.reduceToNat] at ho12; rw [← Ny299.out] at ho12))
   have n_ : _ ∧ _ ∧ _ ∧ _ := ⟨zr HO308 hb, Aside0.mk (Kd.R_lower ho12 (zz HB)), zk BK292 hb, zbs hb⟩
   clear HO308 BK292 HB
   obtain ⟨HO308, HO301, BK292, HB⟩ := n_
   clear hb ho12
   refine hK.out _ _ ⟨(zc HB hw293_0), (zc HB hw293_1), (zc HB hw293_2), (zc HB hw293_3), (zc HB hw293_4), (zc HB hw302_0), (zc HB hw302_1), (zc HB hw302_2), (zc HB hw302_3), (zc HB hw302_4), (zc HB hw309_0), (zc HB hw309_1), (zc HB hw309_2), (zc HB hw309_3), (zc HB hw309_4)⟩ (fun hHeld => ?_)
   clear hK K
   refine norm_ (a' := ?_) ?_ ?_
   rotate_left
   ·show Act.put _ (some 7) _ = _
    exact zap
   exact norm_ (by first | (simp only [putAll, Act.put, List.setIfInBounds_toArray, List.set_cons_zero, List.set_cons_succ]; done) | (simp only [putAll, Act.put, List.setIfInBounds_toArray, List.set_cons_zero, List.set_cons_succ]; rfl)) (hJ4_10 (v300, v307) _ ⟨hHeld, (ze HO301).out, (ze HO308).out, (zh BK292).out, zbo⟩)
  skip
  refine goes_ Try.func131 (by kernel_rfl) rfl #[.pointer (some adp0)] (by rfl) rfl rfl zm ?_
  with_reducible refine (spec_l01Copy.calls _ [(⟨(rd_T41 l0 0).f0.f0, (rd_T41 l0 0).f0.f1, (rd_T41 l0 0).f0.f2⟩ : S37)] t294 t295 t296 _ ?side1 A3.out).mono ?_
  (case side1 => refine ro_first (d := k41) (d1 := k37) (f := fun x : S41 => (x.f0, x.f1, x.f2)) (l := l0) rfl z41 ?_ (by first | (have h_ := of_eq_true q293; omega) | (have h_ : 0 < (l0.length : Int) := of_decide_eq_true (by assumption); omega) | omega) rfl; exact zcc HB HR0.out)
  rintro e w11 ⟨v297, rfl, ho0, hb⟩
  refine ⟨_, rfl, ?_⟩
  have n_ : _ ∧ _ ∧ _ ∧ _ := ⟨zr HO308 hb, Aside0.mk (Kd.R_lower ho0 (zz HB)), zk BK292 hb, zbs hb⟩
  clear HO308 BK292 HB
  obtain ⟨HO308, HO298, BK292, HB⟩ := n_
  (try clear hb)
  (try clear hb2)
  (try clear hk)
  (try clear hi)
  (try clear ho0)
  refine hK.out _ _ ⟨(zc HB hw293_0), (zc HB hw293_1), (zc HB hw293_2), (zc HB hw293_3), (zc HB hw293_4), (zc HB hw302_0), (zc HB hw302_1), (zc HB hw302_2), (zc HB hw302_3), (zc HB hw302_4), (zc HB hw309_0), (zc HB hw309_1), (zc HB hw309_2), (zc HB hw309_3), (zc HB hw309_4)⟩ (fun hHeld => ?_)
  clear hK K
  refine norm_ (a' := ?_) ?_ ?_
  rotate_left
  ·show Act.put _ (some 6) _ = _
   exact zap
  exact norm_ (by first | (simp only [putAll, Act.put, List.setIfInBounds_toArray, List.set_cons_zero, List.set_cons_succ]; done) | (simp only [putAll, Act.put, List.setIfInBounds_toArray, List.set_cons_zero, List.set_cons_succ]; rfl)) (hJ3_10 (v297, v307) _ ⟨hHeld, (ze HO298).out, (ze HO308).out, (zh BK292).out, zbo⟩)
 rintro ⟨v297, v300, v304, v307⟩ w14 ⟨hS_, h0_, h1_, h2_, h3_, h4_⟩
 have n_ : (Aside0 (Kd.R k91 91 w14 w.heap.size (fun _ => True) v297 t296)) ∧ (Aside0 (Kd.R k116 116 w14 w.heap.size (fun _ => True) v304 y303)) ∧ (Aside0 (Kd.R k74 74 w14 w.heap.size (fun _ => True) v307 y306)) ∧ (Aside0 (w14.heap[gb292]? = some (.cells #[.int .i8 0, .int .i8 0, .slice none 0 0, .slice none 0 0, .slice none 0 0] 41 (0, 0)))) ∧ (Aside0 (Below w.heap.size w w14)) := ⟨⟨h0_⟩, ⟨h1_⟩, ⟨h2_⟩, ⟨h3_⟩, ⟨h4_⟩⟩
 clear BK292 HB h0_ h1_ h2_ h3_ h4_
 obtain ⟨HO298, HO305, HO308, BK292, HB⟩ := n_
 have hHeld := hS_
 refine norm_ (a' := ?_) ?_ ?_
 rotate_left
 ·simp only [putAll, Act.put, List.setIfInBounds_toArray, List.set_cons_zero, List.set_cons_succ]
  rfl
 refine one_ (i := 15) (N := some 18) (zq 18 65535) rfl rfl (one_of HT_.out (by kernel_rfl)) (by decide) (fun K hK => ?_)
 refine Kd.R_append_rows_step k74 (w0 := w) w.heap.size (by rfl) (.tmp 13) (.tmp 17) 39 74 (.agg #[(.int .i8 0), (.int .i8 0)]) 2 rfl Try.underlying39 info74 rfl (by decide) (by omega) v307 y306 ((rd_T41 l0 0).f2) _ _ _ (fun _ => True) (fun _ => False) rfl rfl ?aO ?aR (fun _ _ h => h) (fun _ h => h.elim) ?aF ?aB ?aS ?aL ?_
 (case aR => exact zcc HB HR309_4.out)
 (case aB => exact zbo)
 (case aF => exact (fun _ _ => trivial))
 (case aO => exact (ze HO308).out)
 (case aS => exact (zz HB))
 (case aL => have := LMc5.out; omega)
 intro v311 w15 ho hb hg hat
 rw [← Ny310.out] at ho
 have n_ : _ ∧ _ ∧ _ ∧ _ ∧ _ := ⟨Aside0.mk (blk_grown (g := gb292) (o := .cells #[.int .i8 0, .int .i8 0, .slice none 0 0, .slice none 0 0, .slice none 0 0] 41 (0, 0)) (zh BK292).out hg (Kd.R_ne HO308.out BK292.out (by decide))), Aside0.mk (Kd.R_over' (ze HO298).out (Kd.R_typed (ze HO308).out) (by decide) hg), Aside0.mk (Kd.R_over' (ze HO305).out (Kd.R_typed (ze HO308).out) (by decide) hg), Aside0.mk (hb), Aside0.mk (ho)⟩
 clear BK292 HO298 HO305 HB HO308
 obtain ⟨BK292, HO298, HO305, HB, HO312⟩ := n_
 clear ho hb hg hat
 obtain ⟨Ao16, co16, eo16⟩ := Kd.R_slice HO312.out
 (first | subst eo16 | (injection eo16 with f1_ f2_ f3_; have f4_ := f1_.symm; have f5_ := f3_.symm; clear f1_ f2_ f3_; subst f4_; subst f5_))
 obtain ⟨Ao17, co17, eo17⟩ := Kd.R_slice HO305.out
 (first | subst eo17 | (injection eo17 with f1_ f2_ f3_; have f4_ := f1_.symm; have f5_ := f3_.symm; clear f1_ f2_ f3_; subst f4_; subst f5_))
 obtain ⟨Ao18, co18, eo18⟩ := Kd.R_slice HO298.out
 (first | subst eo18 | (injection eo18 with f1_ f2_ f3_; have f4_ := f1_.symm; have f5_ := f3_.symm; clear f1_ f2_ f3_; subst f4_; subst f5_))
 refine hK.out _ _ ⟨(zc HB hw293_0), (zc HB hw293_1), (zc HB hw293_2), (zc HB hw293_3), (zc HB hw293_4), (zc HB hw302_0), (zc HB hw302_1), (zc HB hw302_2), (zc HB hw302_3), (zc HB hw302_4), (zc HB hw309_0), (zc HB hw309_1), (zc HB hw309_2), (zc HB hw309_3), (zc HB hw309_4)⟩ (fun hHeld => ?_)
 clear hK K
 refine norm_ (a' := ?_) ?_ ?_
 rotate_left
 ·show Act.put _ (some 18) _ = _
  exact zap
 refine zpu 16 (some 19) (zq 18 131071) HT_ ?_
 refine one_ (i := 17) (N := none) (zq 18 262143) rfl rfl (one_of HT_.out (by kernel_rfl)) (by decide) (fun K hK => ?_)
 have hs19 : w15.cell? ⟨gb292, 0, none⟩ = some (.int .i8 0) := (blk_cell BK292.out 0).trans rfl
 have hfs19 := blk_frozen BK292.out 0
 have hs20 : w15.cell? ⟨gb292, 1, none⟩ = some (.int .i8 0) := (blk_cell BK292.out 1).trans rfl
 have hfs20 := blk_frozen BK292.out 1
 have hs21 : w15.cell? ⟨gb292, 2, none⟩ = some (.slice none 0 0) := (blk_cell BK292.out 2).trans rfl
 have hfs21 := blk_frozen BK292.out 2
 have hs22 : w15.cell? ⟨gb292, 3, none⟩ = some (.slice none 0 0) := (blk_cell BK292.out 3).trans rfl
 have hfs22 := blk_frozen BK292.out 3
 have hs23 : w15.cell? ⟨gb292, 4, none⟩ = some (.slice none 0 0) := (blk_cell BK292.out 4).trans rfl
 have hfs23 := blk_frozen BK292.out 4
 refine skip_ (w1 := ?_) (by rfl) rfl ?_ ?_
 rotate_left
 ·go_simp
  rfl
 refine hK.out _ _ ⟨(zcf hw293_0 GW292 ((zcf hw293_0 GW292 ((zcf hw293_0 GW292 ((zcf hw293_0 GW292 ((zcf hw293_0 GW292 (hHeld.1)))))))))), (zcf hw293_1 GW292 ((zcf hw293_1 GW292 ((zcf hw293_1 GW292 ((zcf hw293_1 GW292 ((zcf hw293_1 GW292 (hHeld.2.1)))))))))), (zcf hw293_2 GW292 ((zcf hw293_2 GW292 ((zcf hw293_2 GW292 ((zcf hw293_2 GW292 ((zcf hw293_2 GW292 (hHeld.2.2.1)))))))))), (zcf hw293_3 GW292 ((zcf hw293_3 GW292 ((zcf hw293_3 GW292 ((zcf hw293_3 GW292 ((zcf hw293_3 GW292 (hHeld.2.2.2.1)))))))))), (zcf hw293_4 GW292 ((zcf hw293_4 GW292 ((zcf hw293_4 GW292 ((zcf hw293_4 GW292 ((zcf hw293_4 GW292 (hHeld.2.2.2.2.1)))))))))), (zcf hw302_0 GW292 ((zcf hw302_0 GW292 ((zcf hw302_0 GW292 ((zcf hw302_0 GW292 ((zcf hw302_0 GW292 (hHeld.2.2.2.2.2.1)))))))))), (zcf hw302_1 GW292 ((zcf hw302_1 GW292 ((zcf hw302_1 GW292 ((zcf hw302_1 GW292 ((zcf hw302_1 GW292 (hHeld.2.2.2.2.2.2.1)))))))))), (zcf hw302_2 GW292 ((zcf hw302_2 GW292 ((zcf hw302_2 GW292 ((zcf hw302_2 GW292 ((zcf hw302_2 GW292 (hHeld.2.2.2.2.2.2.2.1)))))))))), (zcf hw302_3 GW292 ((zcf hw302_3 GW292 ((zcf hw302_3 GW292 ((zcf hw302_3 GW292 ((zcf hw302_3 GW292 (hHeld.2.2.2.2.2.2.2.2.1)))))))))), (zcf hw302_4 GW292 ((zcf hw302_4 GW292 ((zcf hw302_4 GW292 ((zcf hw302_4 GW292 ((zcf hw302_4 GW292 (hHeld.2.2.2.2.2.2.2.2.2.1)))))))))), (zcf hw309_0 GW292 ((zcf hw309_0 GW292 ((zcf hw309_0 GW292 ((zcf hw309_0 GW292 ((zcf hw309_0 GW292 (hHeld.2.2.2.2.2.2.2.2.2.2.1)))))))))), (zcf hw309_1 GW292 ((zcf hw309_1 GW292 ((zcf hw309_1 GW292 ((zcf hw309_1 GW292 ((zcf hw309_1 GW292 (hHeld.2.2.2.2.2.2.2.2.2.2.2.1)))))))))), (zcf hw309_2 GW292 ((zcf hw309_2 GW292 ((zcf hw309_2 GW292 ((zcf hw309_2 GW292 ((zcf hw309_2 GW292 (hHeld.2.2.2.2.2.2.2.2.2.2.2.2.1)))))))))), (zcf hw309_3 GW292 ((zcf hw309_3 GW292 ((zcf hw309_3 GW292 ((zcf hw309_3 GW292 ((zcf hw309_3 GW292 (hHeld.2.2.2.2.2.2.2.2.2.2.2.2.2.1)))))))))), (zcf hw309_4 GW292 ((zcf hw309_4 GW292 ((zcf hw309_4 GW292 ((zcf hw309_4 GW292 ((zcf hw309_4 GW292 (hHeld.2.2.2.2.2.2.2.2.2.2.2.2.2.2))))))))))⟩ (fun hHeld => ?_)
 clear hK K
 refine done_ (done_of HT_.out (by kernel_rfl)) ?_
 try go_wp2
 refine bodyPost_ret (results_cell_row rfl _ _ gb292 41 #[.int .i8 t294, .int .i8 t295, .slice Ao18 t296.length co18, .slice Ao17 y303.length co17, .slice Ao16 y310.length co16] (0, 0) _ rfl (zp BK292) Try.underlying41 rfl (by kernel_rfl)) rfl ?_
 exact ⟨_, _, _, zv, Kd.R_mono (zs HO298 BK292).out (fun _ hk => trivial), Kd.R_mono (zs HO305 BK292).out (fun _ hk => trivial), Kd.R_mono (zs HO312 BK292).out (fun _ hk => trivial), zbo⟩
end Go.Proofs.Ytffnfpnajkgnaaa.PFnExactMoveMachine
