-- WRITTEN by xprint.py, a program of this session's. Not trusted: Lean checks it.
-- packed by pack.py
import Derived.Test.YtmpmanfoiocfgaaPFnExactTrimNetworkx0
import Derived.Test.YtmpmanfoiocfgaaPFnExactTrimNetworkx1
import Derived.Test.YtmpmanfoiocfgaaPFnExactTrimNetworkx2
import Derived.Test.YtmpmanfoiocfgaaPFnExactTrimNetworkx6
import Derived.Test.YtmpmanfoiocfgaaPFnExactTrimNetworkx8
import Derived.Test.YtmpmanfoiocfgaaTFnExactTrimNetworka
namespace Go.Proofs.Ytmpmanfoiocfgaa.PFnExactTrimNetwork
open Go.RowKit Go.Proofs.YtmpmanfoiocfgaaW.PrintWords Go.Proofs.YtmpmanfoiocfgaaW.PrintLast Go.Proofs.YtmpmanfoiocfgaaW.PrintMore Go.Proofs.YtmpmanfoiocfgaaX
attribute [local go_sem] max2_int min2_int max_two min_two max_three min_three max_four min_four   -- for this text's walks alone
set_option maxHeartbeats 8000000
set_option maxRecDepth 100000
set_option linter.unusedVariables false
set_option linter.unusedSimpArgs false

def impl_TrimNetwork.f (k : Nat) (a0_0 : Int) (l0_1 : List (S81)) (l0_2 : List Int) : Option (Int × (List (S81)) × List Int × Int) := (impl_ValidNetwork.f k a0_0 l0_1 l0_2).bind fun t290 => (if t290 = true then ((impl_Network_trimmed.f k [(⟨a0_0, l0_1, l0_2⟩ : S31)]).bind fun bt291 => (some (bt291.1, bt291.2.1, bt291.2.2, 0))) else (some (0, ([] : List (S81)), ([] : List Int), 1)))
theorem impl_TrimNetwork.mono : ∀ a0 a1 a2 k, LeO (impl_TrimNetwork.f k a0 a1 a2) (impl_TrimNetwork.f (k + 1) a0 a1 a2) := by
 intro a0 a1 a2 k
 unfold impl_TrimNetwork.f
 repeat' first | (with_reducible first | apply impl_Network_trimmed.mono | apply impl_ValidNetwork.mono | exact LeO.refl _ | exact LeO.none _ | refine LeO.ite ?_ ?_ | refine LeO.bind ?_ (fun _ => ?_)) | apply impl_Network_trimmed.mono | apply impl_ValidNetwork.mono | exact LeO.none _ | refine LeO.ite ?_ ?_ | refine LeO.bind ?_ (fun _ => ?_)
theorem impl_TrimNetwork.calls (k : Nat) (a0_0 : Int) (A0_1 : Option Addr) (c0_1 : Nat) (l0_1 : List (S81)) (A0_2 : Option Addr) (c0_2 : Nat) (l0_2 : List Int) (r1 : Int) (r2 : List (S81)) (r3 : List Int) (r4 : Int) (w : World) (hr0_1 : Kd.C k81 w A0_1 l0_1.length l0_1) (hc0_1 : l0_1.length ≤ c0_1) (hr0_2 : Kd.C (Kd.int .i16) w A0_2 l0_2.length l0_2) (hc0_2 : l0_2.length ≤ c0_2) (h : impl_TrimNetwork.f k a0_0 l0_1 l0_2 = some (r1, r2, r3, r4)) :
    Calls Try.prog 54 #[.agg #[.int .i8 a0_0, .slice A0_1 l0_1.length c0_1, .slice A0_2 l0_2.length c0_2]] w fun e w' => ∃ v1_ v2_ : Value, e = .returned (.tuple #[.agg #[.int .i8 r1, v1_, v2_], .int .i64 r4]) ∧ Kd.R k81 81 w' w.heap.size (fun _ => True) v1_ r2 ∧ Kd.R (Kd.int .i16) 79 w' w.heap.size (fun _ => True) v2_ r3 ∧ Below w.heap.size w w' := by
 have hu31 := Try.underlying31
 have HR0_1 := Aside0.mk hr0_1
 have HC0_1 := Aside0.mk hc0_1
 clear hr0_1 hc0_1
 have HR0_2 := Aside0.mk hr0_2
 have HC0_2 := Aside0.mk hc0_2
 clear hr0_2 hc0_2
 have HB := Aside0.mk (Below.refl w.heap.size w)
 have H : ((impl_ValidNetwork.f k a0_0 l0_1 l0_2).bind fun t290 => (if t290 = true then ((impl_Network_trimmed.f k [(⟨a0_0, l0_1, l0_2⟩ : S31)]).bind fun bt291 => (some (bt291.1, bt291.2.1, bt291.2.2, 0))) else (some (0, ([] : List (S81)), ([] : List Int), 1)))) = some (r1, r2, r3, r4) := h
 clear h
 replace H := zob H
 obtain ⟨t290, A20, H⟩ := H
 replace H : (if t290 = true then ((impl_Network_trimmed.f k [(⟨a0_0, l0_1, l0_2⟩ : S31)]).bind fun bt291 => (some (bt291.1, bt291.2.1, bt291.2.2, 0))) else (some (0, ([] : List (S81)), ([] : List Int), 1))) = some (r1, r2, r3, r4) := H
 have A2 := Aside0.mk A20
 clear A20
 by_cases c3 : t290 = true
 rotate_left
 ·replace c3 := Bool.eq_false_iff.mpr c3
  subst c3
  have H1 : (some (0, ([] : List (S81)), ([] : List Int), 1)) = some (r1, r2, r3, r4) := by rw [if_neg (show ¬ (false = true) by decide)] at H; exact H
  clear H
  have H := H1
  clear H1
  simp only [Option.some.injEq, Prod.mk.injEq] at H
  obtain ⟨rfl, rfl, rfl, rfl⟩ := H
  go_enter Try.func54, Try.ntmps54
  go_wp2_with (first | ((with_reducible refine gate_dst (N := 1) rfl ?_); refine zbx 1 #[.int .i8 a0_0, .slice A0_1 l0_1.length c0_1, .slice A0_2 l0_2.length c0_2] 31 ?_; intro gb288 hg w14 hbox hb; have n_ : _ ∧ _ ∧ _ ∧ _ := ⟨zb HB hb, Aside0.mk (hbox), zg HB hg, zg HB hg⟩; clear HB; obtain ⟨HB, BK288, GW288, GE288⟩ := n_; clear hb hbox hg) | ((with_reducible refine gate_dst (N := 2) rfl ?_); refine zbx 2 #[.int .i8 0, .slice none 0 0, .slice none 0 0] 31 ?_; intro gb289 hg w15 hbox hb; have n_ : _ ∧ _ ∧ _ ∧ _ ∧ _ ∧ _ ∧ _ := ⟨zk BK288 hb, zbs hb, Aside0.mk (hbox), zg HB hg, zg HB hg, zn1 BK288 hg, zn2 BK288 hg⟩; clear BK288 HB; obtain ⟨BK288, HB, BK289, GW289, GE289, NB288_289, NB289_288⟩ := n_; clear hb hbox hg; have hnb16 := NB288_289.out; have hnc16 := NB289_288.out; obtain ⟨z17_0, z17_1, z17_2, y17_0, y17_1, y17_2⟩ := zB3 BK288) | ((with_reducible refine gate_callee (f := 27) rfl ?_); refine goesL_ (some 5) rfl rfl Try.func27 (by kernel_rfl) rfl #[.agg #[.int .i8 a0_0, .slice A0_1 l0_1.length c0_1, .slice A0_2 l0_2.length c0_2]] rfl zm ?_; (with_reducible refine (impl_ValidNetwork.calls k a0_0 _ _ l0_1 _ _ l0_2 false _ ?side1 ?side2 ?side3 ?side4 A2.out).mono ?_); (case side1 => exact zcc HB HR0_1.out); (case side2 => exact HC0_1.out); (case side3 => exact zcc HB HR0_2.out); (case side4 => exact HC0_2.out); rintro e w18 ⟨rfl, hb⟩; refine ⟨_, rfl, ?_⟩; have n_ : _ ∧ _ ∧ _ := ⟨zk BK288 hb, zk BK289 hb, zbs hb⟩; clear BK288 BK289 HB; obtain ⟨BK288, BK289, HB⟩ := n_; (try clear hb); (try clear hb2); (try clear hk); (try clear hi); obtain ⟨z19_0, z19_1, z19_2, y19_0, y19_1, y19_2⟩ := zB3 BK289))
  refine bodyPost_ret (results_ct rfl _ _ gb289 31 #[.int .i8 0, .slice none 0 0, .slice none 0 0] (0, 0) _ rfl (zp BK289) Try.underlying31 rfl (by kernel_rfl)) rfl ?_
  exact ⟨_, _, zv, by first | exact Kd.R_nil _ _ _ _ _ | exact Kd.N_nil _ _ _ _ _ | exact Kd.V_nil _ _ _ _ _ | exact Kd.Q_nil _ _ _ _ _ | exact Kd.S_nil _ _ _ _ _, by first | exact Kd.R_nil _ _ _ _ _ | exact Kd.N_nil _ _ _ _ _ | exact Kd.V_nil _ _ _ _ _ | exact Kd.Q_nil _ _ _ _ _ | exact Kd.S_nil _ _ _ _ _, zbo⟩
 subst c3
 have H1 : ((impl_Network_trimmed.f k [(⟨a0_0, l0_1, l0_2⟩ : S31)]).bind fun bt291 => (some (bt291.1, bt291.2.1, bt291.2.2, 0))) = some (r1, r2, r3, r4) := by rw [if_pos rfl] at H; exact H
 clear H
 have H := H1
 clear H1
 replace H := zob H
 obtain ⟨⟨t291, t292, t295⟩, A40, H⟩ := H
 replace H : (some (t291, t292, t295, 0)) = some (r1, r2, r3, r4) := H
 have A4 := Aside0.mk A40
 clear A40
 simp only [Option.some.injEq, Prod.mk.injEq] at H
 obtain ⟨rfl, rfl, rfl, rfl⟩ := H
 go_enter Try.func54, Try.ntmps54
 go_wp2_with (first | ((with_reducible refine gate_dst (N := 1) rfl ?_); refine zbx 1 #[.int .i8 a0_0, .slice A0_1 l0_1.length c0_1, .slice A0_2 l0_2.length c0_2] 31 ?_; intro gb288 hg w5 hbox hb; have n_ : _ ∧ _ ∧ _ ∧ _ := ⟨zb HB hb, Aside0.mk (hbox), zg HB hg, zg HB hg⟩; clear HB; obtain ⟨HB, BK288, GW288, GE288⟩ := n_; clear hb hbox hg) | ((with_reducible refine gate_dst (N := 2) rfl ?_); refine zbx 2 #[.int .i8 0, .slice none 0 0, .slice none 0 0] 31 ?_; intro gb289 hg w6 hbox hb; have n_ : _ ∧ _ ∧ _ ∧ _ ∧ _ ∧ _ ∧ _ := ⟨zk BK288 hb, zbs hb, Aside0.mk (hbox), zg HB hg, zg HB hg, zn1 BK288 hg, zn2 BK288 hg⟩; clear BK288 HB; obtain ⟨BK288, HB, BK289, GW289, GE289, NB288_289, NB289_288⟩ := n_; clear hb hbox hg; have hnb7 := NB288_289.out; have hnc7 := NB289_288.out; obtain ⟨z8_0, z8_1, z8_2, y8_0, y8_1, y8_2⟩ := zB3 BK288) | ((with_reducible refine gate_callee (f := 27) rfl ?_); refine goesL_ (some 5) rfl rfl Try.func27 (by kernel_rfl) rfl #[.agg #[.int .i8 a0_0, .slice A0_1 l0_1.length c0_1, .slice A0_2 l0_2.length c0_2]] rfl zm ?_; (with_reducible refine (impl_ValidNetwork.calls k a0_0 _ _ l0_1 _ _ l0_2 true _ ?side1 ?side2 ?side3 ?side4 A2.out).mono ?_); (case side1 => exact zcc HB HR0_1.out); (case side2 => exact HC0_1.out); (case side3 => exact zcc HB HR0_2.out); (case side4 => exact HC0_2.out); rintro e w9 ⟨rfl, hb⟩; refine ⟨_, rfl, ?_⟩; have n_ : _ ∧ _ ∧ _ := ⟨zk BK288 hb, zk BK289 hb, zbs hb⟩; clear BK288 BK289 HB; obtain ⟨BK288, BK289, HB⟩ := n_; (try clear hb); (try clear hb2); (try clear hk); (try clear hi)) | ((with_reducible refine gate_callee (f := 101) rfl ?_); refine goesL_ (some 8) rfl rfl Try.func101 (by kernel_rfl) rfl #[.pointer (some ⟨gb288, 0, none⟩)] rfl zm ?_; (with_reducible refine (impl_Network_trimmed.calls k _ [(⟨a0_0, l0_1, l0_2⟩ : S31)] t291 t292 t295 _ ?side1 A4.out).mono ?_); (case side1 => refine ro_of_blk (T := 31) (cs := #[.int .i8 a0_0, .slice A0_1 l0_1.length c0_1, .slice A0_2 l0_2.length c0_2]) (zh BK288).out ?_; exact k31_mk _ (⟨a0_0, l0_1, l0_2⟩ : S31) (by exact HC0_1.out) (by exact zcc HB HR0_1.out) (by exact HC0_2.out) (by exact zcc HB HR0_2.out)); rintro e w10 ⟨v293, v296, rfl, ho0, ho1, hb⟩; refine ⟨_, rfl, ?_⟩; have n_ : _ ∧ _ ∧ _ ∧ _ ∧ _ := ⟨Aside0.mk (Kd.R_lower ho0 (zz HB)), Aside0.mk (Kd.R_lower ho1 (zz HB)), zk BK288 hb, zk BK289 hb, zbs hb⟩; clear BK288 BK289 HB; obtain ⟨HO294, HO297, BK288, BK289, HB⟩ := n_; (try clear hb); (try clear hb2); (try clear hk); (try clear hi); (try clear ho0); (try clear ho1); obtain ⟨z11_0, z11_1, z11_2, y11_0, y11_1, y11_2⟩ := zB3 BK289; obtain ⟨Ao12, co12, eo12⟩ := Kd.R_slice HO294.out; subst eo12; obtain ⟨Ao13, co13, eo13⟩ := Kd.R_slice HO297.out; subst eo13))
 refine bodyPost_ret (results_ct rfl _ _ gb289 31 #[.int .i8 t291, .slice Ao12 t292.length co12, .slice Ao13 t295.length co13] (0, 0) _ rfl (zp BK289) Try.underlying31 rfl (by kernel_rfl)) rfl ?_
 exact ⟨_, _, zv, Kd.R_mono (zs HO294 BK289).out (fun _ hk => trivial), Kd.R_mono (zs HO297 BK289).out (fun _ hk => trivial), zbo⟩
def laws_heldNodeS.l0 : Nat → List (S81) → Int → Int → Option (Int)
  | 0, _, _, _ => none
  | k + 1, x0, x1, x5 => if x5 < (x0.length : Int) then (if 0 ≤ x5 then (if ((rd_T81 x0 x5).f0) = (IntKind.i8.wrap (x1)) then (if ((rd_T81 x0 x5).f1) = (IntKind.i16.wrap (wrap64 (x1 + 1))) then (if ((rd_T81 x0 x5).f2) = (IntKind.i16.wrap (wrap64 ((wrap64 (x1 + 1)) + 1))) then (laws_heldNodeS.l0 k x0 (wrap64 ((wrap64 ((wrap64 (x1 + 1)) + 1)) + 1)) (wrap64 (x5 + 1))) else (some (-1))) else (some (-1))) else (some (-1))) else (none)) else (some x1)
def laws_heldNodeS.f (k : Nat) (l0 : List (S81)) (a1 : Int) : Option (Int) := laws_heldNodeS.l0 k l0 a1 0
theorem laws_heldNodeS.mono_l : ∀ k, (∀ y0 y1 y2, LeO (laws_heldNodeS.l0 k y0 y1 y2) (laws_heldNodeS.l0 (k + 1) y0 y1 y2))
  | 0 => fun _ _ _ r h => by simp [laws_heldNodeS.l0] at h
  | k + 1 => by
    have ih0 := laws_heldNodeS.mono_l k
    · intro y0 y1 y2
      unfold laws_heldNodeS.l0
      repeat' first | (with_reducible first | apply ih0 | exact LeO.refl _ | exact LeO.none _ | refine LeO.ite ?_ ?_ | refine LeO.bind ?_ (fun _ => ?_)) | apply ih0 | exact LeO.none _ | refine LeO.ite ?_ ?_ | refine LeO.bind ?_ (fun _ => ?_)
theorem laws_heldNodeS.mono : ∀ a0 a1 k, LeO (laws_heldNodeS.f k a0 a1) (laws_heldNodeS.f (k + 1) a0 a1) := by
 intro a0 a1 k
 have ih0 := laws_heldNodeS.mono_l k
 unfold laws_heldNodeS.f
 repeat' first | (with_reducible first | apply ih0 | exact LeO.refl _ | exact LeO.none _ | refine LeO.ite ?_ ?_ | refine LeO.bind ?_ (fun _ => ?_)) | apply ih0 | exact LeO.none _ | refine LeO.ite ?_ ?_ | refine LeO.bind ?_ (fun _ => ?_)
theorem laws_heldNodeS.calls (k : Nat) (A0 : Option Addr) (c0 : Nat) (l0 : List (S81)) (a1 : Int) (r : Int) (w : World) (hr0 : Kd.C k81 w A0 l0.length l0) (hc0 : l0.length ≤ c0) (h : laws_heldNodeS.f k l0 a1 = some r) :
    Calls Try.prog 102 #[.slice A0 l0.length c0, .int .i64 a1] w fun e w' => e = .returned (.int .i64 r) ∧ Drawn0 w w' := by
 have HR0 := Aside0.mk hr0
 have HC0 := Aside0.mk hc0
 clear hr0 hc0
 have H : (laws_heldNodeS.l0 k l0 a1 0) = some r := h
 clear h
 have H' := Aside0.mk H
 clear H
 go_enter Try.func102, Try.ntmps102
 go_wp2
 go_loopg [1, 5] k (fun kq v1 v5 w' => ∃ (x1_1 : Int) (x5_1 : Int), v1 = .int .i64 x1_1 ∧ v5 = .int .i64 x5_1 ∧ Aside0 (laws_heldNodeS.l0 kq l0 x1_1 x5_1 = some r) ∧ Aside0 (kq ≤ k) ∧ Drawn0 w w')
 case atStart => exact ⟨(a1), (0), zi, zi, H', ⟨Nat.le_refl _⟩, zdr⟩
 clear H'
 try clear c1
 try clear p2
 obtain ⟨x1_1, x5_1, rfl, rfl, HA, HK1, ⟨m1, rfl⟩⟩ := hrel
 cases gk with
 | zero => exact absurd HA.out (by simp [laws_heldNodeS.l0])
 | succ k1 => ?_
 have H := HA.out
 clear HA
 simp only [laws_heldNodeS.l0] at H
 by_cases c3 : x5_1 < (l0.length : Int)
 rotate_left
 ·rw [if_neg c3] at H
  have c3b0 : decide (x5_1 < (l0.length : Int)) = false := decide_eq_false c3
  clear c3
  obtain rfl := Option.some.inj H
  go_wp2
  go_ret
  exact ⟨zi, zdr⟩
 rw [if_pos c3] at H
 have c3b0 : decide (x5_1 < (l0.length : Int)) = true := decide_eq_true c3
 clear c3
 by_cases c4 : 0 ≤ x5_1
 rotate_left
 ·rw [if_neg c4] at H
  exact absurd H (by simp)
 rw [if_pos c4] at H
 have c4b0 : decide (0 ≤ x5_1) = true := decide_eq_true c4
 clear c4
 by_cases c5 : ((rd_T81 l0 x5_1).f0) = (IntKind.i8.wrap (x1_1))
 rotate_left
 ·rw [if_neg c5] at H
  have c5b0 : (((rd_T81 l0 x5_1).f0) == (IntKind.i8.wrap (x1_1))) = false := beq_eq_false_iff_ne.mpr c5
  have c5b1 : (((rd_T81 l0 x5_1).f0) != (IntKind.i8.wrap (x1_1))) = true := bne_iff_ne.mpr c5
  obtain rfl := Option.some.inj H
  have p298 : 0 ≤ (x5_1 : Int) := of_decide_eq_true zA
  have q298 : x5_1 < (l0.length : Int) := of_decide_eq_true zA
  obtain ⟨ad298, e298, hx298_0, hx298_1, hx298_2⟩ := at_T81 HR0.out x5_1 p298 q298
  cases e298
  replace p298 := eq_true p298
  replace q298 := eq_true q298
  go_wp2
  go_ret
  exact ⟨zi, zdr⟩
 rw [if_pos c5] at H
 have c5b0 : (((rd_T81 l0 x5_1).f0) == (IntKind.i8.wrap (x1_1))) = true := beq_iff_eq.mpr c5
 have c5b1 : (((rd_T81 l0 x5_1).f0) != (IntKind.i8.wrap (x1_1))) = false := bne_eq_false_iff_eq.mpr c5
 clear c5
 by_cases c6 : ((rd_T81 l0 x5_1).f1) = (IntKind.i16.wrap (wrap64 (x1_1 + 1)))
 rotate_left
 ·rw [if_neg c6] at H
  have c6b0 : (((rd_T81 l0 x5_1).f1) == (IntKind.i16.wrap (wrap64 (x1_1 + 1)))) = false := beq_eq_false_iff_ne.mpr c6
  have c6b1 : (((rd_T81 l0 x5_1).f1) != (IntKind.i16.wrap (wrap64 (x1_1 + 1)))) = true := bne_iff_ne.mpr c6
  obtain rfl := Option.some.inj H
  have p298 : 0 ≤ (x5_1 : Int) := of_decide_eq_true zA
  have q298 : x5_1 < (l0.length : Int) := of_decide_eq_true zA
  obtain ⟨ad298, e298, hx298_0, hx298_1, hx298_2⟩ := at_T81 HR0.out x5_1 p298 q298
  cases e298
  replace p298 := eq_true p298
  replace q298 := eq_true q298
  have p299 : 0 ≤ (x5_1 : Int) := of_decide_eq_true zA
  have q299 : x5_1 < (l0.length : Int) := of_decide_eq_true zA
  obtain ⟨ad299, e299, hx299_0, hx299_1, hx299_2⟩ := at_T81 HR0.out x5_1 p299 q299
  obtain rfl : ad298 = ad299 := (by injection e299)
  replace p299 := eq_true p299
  replace q299 := eq_true q299
  go_wp2
  go_ret
  exact ⟨zi, zdr⟩
 rw [if_pos c6] at H
 have c6b0 : (((rd_T81 l0 x5_1).f1) == (IntKind.i16.wrap (wrap64 (x1_1 + 1)))) = true := beq_iff_eq.mpr c6
 have c6b1 : (((rd_T81 l0 x5_1).f1) != (IntKind.i16.wrap (wrap64 (x1_1 + 1)))) = false := bne_eq_false_iff_eq.mpr c6
 clear c6
 by_cases c7 : ((rd_T81 l0 x5_1).f2) = (IntKind.i16.wrap (wrap64 ((wrap64 (x1_1 + 1)) + 1)))
 rotate_left
 ·rw [if_neg c7] at H
  have c7b0 : (((rd_T81 l0 x5_1).f2) == (IntKind.i16.wrap (wrap64 ((wrap64 (x1_1 + 1)) + 1)))) = false := beq_eq_false_iff_ne.mpr c7
  have c7b1 : (((rd_T81 l0 x5_1).f2) != (IntKind.i16.wrap (wrap64 ((wrap64 (x1_1 + 1)) + 1)))) = true := bne_iff_ne.mpr c7
  obtain rfl := Option.some.inj H
  have p298 : 0 ≤ (x5_1 : Int) := of_decide_eq_true zA
  have q298 : x5_1 < (l0.length : Int) := of_decide_eq_true zA
  obtain ⟨ad298, e298, hx298_0, hx298_1, hx298_2⟩ := at_T81 HR0.out x5_1 p298 q298
  cases e298
  replace p298 := eq_true p298
  replace q298 := eq_true q298
  have p299 : 0 ≤ (x5_1 : Int) := of_decide_eq_true zA
  have q299 : x5_1 < (l0.length : Int) := of_decide_eq_true zA
  obtain ⟨ad299, e299, hx299_0, hx299_1, hx299_2⟩ := at_T81 HR0.out x5_1 p299 q299
  obtain rfl : ad298 = ad299 := (by injection e299)
  replace p299 := eq_true p299
  replace q299 := eq_true q299
  have p300 : 0 ≤ (x5_1 : Int) := of_decide_eq_true zA
  have q300 : x5_1 < (l0.length : Int) := of_decide_eq_true zA
  obtain ⟨ad300, e300, hx300_0, hx300_1, hx300_2⟩ := at_T81 HR0.out x5_1 p300 q300
  obtain rfl : ad298 = ad300 := (by injection e300)
  replace p300 := eq_true p300
  replace q300 := eq_true q300
  go_wp2
  go_ret
  exact ⟨zi, zdr⟩
 rw [if_pos c7] at H
 have c7b0 : (((rd_T81 l0 x5_1).f2) == (IntKind.i16.wrap (wrap64 ((wrap64 (x1_1 + 1)) + 1)))) = true := beq_iff_eq.mpr c7
 have c7b1 : (((rd_T81 l0 x5_1).f2) != (IntKind.i16.wrap (wrap64 ((wrap64 (x1_1 + 1)) + 1)))) = false := bne_eq_false_iff_eq.mpr c7
 clear c7
 have H' := Aside0.mk H
 clear H
 have p298 : 0 ≤ (x5_1 : Int) := of_decide_eq_true zA
 have q298 : x5_1 < (l0.length : Int) := of_decide_eq_true zA
 obtain ⟨ad298, e298, hx298_0, hx298_1, hx298_2⟩ := at_T81 HR0.out x5_1 p298 q298
 cases e298
 replace p298 := eq_true p298
 replace q298 := eq_true q298
 have p299 : 0 ≤ (x5_1 : Int) := of_decide_eq_true zA
 have q299 : x5_1 < (l0.length : Int) := of_decide_eq_true zA
 obtain ⟨ad299, e299, hx299_0, hx299_1, hx299_2⟩ := at_T81 HR0.out x5_1 p299 q299
 obtain rfl : ad298 = ad299 := (by injection e299)
 replace p299 := eq_true p299
 replace q299 := eq_true q299
 have p300 : 0 ≤ (x5_1 : Int) := of_decide_eq_true zA
 have q300 : x5_1 < (l0.length : Int) := of_decide_eq_true zA
 obtain ⟨ad300, e300, hx300_0, hx300_1, hx300_2⟩ := at_T81 HR0.out x5_1 p300 q300
 obtain rfl : ad298 = ad300 := (by injection e300)
 replace p300 := eq_true p300
 replace q300 := eq_true q300
 go_wp2
 go_roundg k1
 case measure => have := HK1.out; omega
 case rel => exact ⟨(wrap64 ((wrap64 ((wrap64 (x1_1 + 1)) + 1)) + 1)), (wrap64 (x5_1 + 1)), zi, zi, H', ⟨by have := HK1.out; omega⟩, zdr⟩
def laws_heldInt16S.l0 : Nat → List Int → Int → Int → Option (Int)
  | 0, _, _, _ => none
  | k + 1, x0, x1, x5 => if x5 < (x0.length : Int) then (if 0 ≤ x5 then (if (rd x0 x5) = (IntKind.i16.wrap (x1)) then (laws_heldInt16S.l0 k x0 (wrap64 (x1 + 1)) (wrap64 (x5 + 1))) else (some (-1))) else (none)) else (some x1)
def laws_heldInt16S.f (k : Nat) (l0 : List Int) (a1 : Int) : Option (Int) := laws_heldInt16S.l0 k l0 a1 0
theorem laws_heldInt16S.mono_l : ∀ k, (∀ y0 y1 y2, LeO (laws_heldInt16S.l0 k y0 y1 y2) (laws_heldInt16S.l0 (k + 1) y0 y1 y2))
  | 0 => fun _ _ _ r h => by simp [laws_heldInt16S.l0] at h
  | k + 1 => by
    have ih0 := laws_heldInt16S.mono_l k
    · intro y0 y1 y2
      unfold laws_heldInt16S.l0
      repeat' first | (with_reducible first | apply ih0 | exact LeO.refl _ | exact LeO.none _ | refine LeO.ite ?_ ?_ | refine LeO.bind ?_ (fun _ => ?_)) | apply ih0 | exact LeO.none _ | refine LeO.ite ?_ ?_ | refine LeO.bind ?_ (fun _ => ?_)
theorem laws_heldInt16S.mono : ∀ a0 a1 k, LeO (laws_heldInt16S.f k a0 a1) (laws_heldInt16S.f (k + 1) a0 a1) := by
 intro a0 a1 k
 have ih0 := laws_heldInt16S.mono_l k
 unfold laws_heldInt16S.f
 repeat' first | (with_reducible first | apply ih0 | exact LeO.refl _ | exact LeO.none _ | refine LeO.ite ?_ ?_ | refine LeO.bind ?_ (fun _ => ?_)) | apply ih0 | exact LeO.none _ | refine LeO.ite ?_ ?_ | refine LeO.bind ?_ (fun _ => ?_)
theorem laws_heldInt16S.calls (k : Nat) (A0 : Option Addr) (c0 : Nat) (l0 : List Int) (a1 : Int) (r : Int) (w : World) (hr0 : Kd.C (Kd.int .i16) w A0 l0.length l0) (hc0 : l0.length ≤ c0) (h : laws_heldInt16S.f k l0 a1 = some r) :
    Calls Try.prog 103 #[.slice A0 l0.length c0, .int .i64 a1] w fun e w' => e = .returned (.int .i64 r) ∧ Drawn0 w w' := by
 have HR0 := Aside0.mk hr0
 have HC0 := Aside0.mk hc0
 clear hr0 hc0
 have H : (laws_heldInt16S.l0 k l0 a1 0) = some r := h
 clear h
 have H' := Aside0.mk H
 clear H
 go_enter Try.func103, Try.ntmps103
 go_wp2
 go_loopg [1, 5] k (fun kq v1 v5 w' => ∃ (x1_1 : Int) (x5_1 : Int), v1 = .int .i64 x1_1 ∧ v5 = .int .i64 x5_1 ∧ Aside0 (laws_heldInt16S.l0 kq l0 x1_1 x5_1 = some r) ∧ Aside0 (kq ≤ k) ∧ Drawn0 w w')
 case atStart => exact ⟨(a1), (0), zi, zi, H', ⟨Nat.le_refl _⟩, zdr⟩
 clear H'
 try clear c1
 try clear p2
 obtain ⟨x1_1, x5_1, rfl, rfl, HA, HK1, ⟨m1, rfl⟩⟩ := hrel
 cases gk with
 | zero => exact absurd HA.out (by simp [laws_heldInt16S.l0])
 | succ k1 => ?_
 have H := HA.out
 clear HA
 simp only [laws_heldInt16S.l0] at H
 by_cases c3 : x5_1 < (l0.length : Int)
 rotate_left
 ·rw [if_neg c3] at H
  have c3b0 : decide (x5_1 < (l0.length : Int)) = false := decide_eq_false c3
  clear c3
  obtain rfl := Option.some.inj H
  go_wp2
  go_ret
  exact ⟨zi, zdr⟩
 rw [if_pos c3] at H
 have c3b0 : decide (x5_1 < (l0.length : Int)) = true := decide_eq_true c3
 clear c3
 by_cases c4 : 0 ≤ x5_1
 rotate_left
 ·rw [if_neg c4] at H
  exact absurd H (by simp)
 rw [if_pos c4] at H
 have c4b0 : decide (0 ≤ x5_1) = true := decide_eq_true c4
 clear c4
 by_cases c5 : (rd l0 x5_1) = (IntKind.i16.wrap (x1_1))
 rotate_left
 ·rw [if_neg c5] at H
  have c5b0 : ((rd l0 x5_1) == (IntKind.i16.wrap (x1_1))) = false := beq_eq_false_iff_ne.mpr c5
  have c5b1 : ((rd l0 x5_1) != (IntKind.i16.wrap (x1_1))) = true := bne_iff_ne.mpr c5
  obtain rfl := Option.some.inj H
  have p301 : 0 ≤ (x5_1 : Int) := of_decide_eq_true zA
  have q301 : x5_1 < (l0.length : Int) := of_decide_eq_true zA
  obtain ⟨ad301, e301, hx301_0⟩ := Kd.at_int HR0.out x5_1 p301 q301
  cases e301
  replace p301 := eq_true p301
  replace q301 := eq_true q301
  go_wp2
  go_ret
  exact ⟨zi, zdr⟩
 rw [if_pos c5] at H
 have c5b0 : ((rd l0 x5_1) == (IntKind.i16.wrap (x1_1))) = true := beq_iff_eq.mpr c5
 have c5b1 : ((rd l0 x5_1) != (IntKind.i16.wrap (x1_1))) = false := bne_eq_false_iff_eq.mpr c5
 clear c5
 have H' := Aside0.mk H
 clear H
 have p301 : 0 ≤ (x5_1 : Int) := of_decide_eq_true zA
 have q301 : x5_1 < (l0.length : Int) := of_decide_eq_true zA
 obtain ⟨ad301, e301, hx301_0⟩ := Kd.at_int HR0.out x5_1 p301 q301
 cases e301
 replace p301 := eq_true p301
 replace q301 := eq_true q301
 go_wp2
 go_roundg k1
 case measure => have := HK1.out; omega
 case rel => exact ⟨(wrap64 (x1_1 + 1)), (wrap64 (x5_1 + 1)), zi, zi, H', ⟨by have := HK1.out; omega⟩, zdr⟩
def laws_heldNetwork.f (k : Nat) (a0_0 : Int) (l0_1 : List (S81)) (l0_2 : List Int) (a1 : Int) : Option (Int) := (laws_heldNodeS.f k l0_1 a1).bind fun t303 => (if t303 < 0 then (some (-1)) else ((laws_heldInt16S.f k l0_2 t303).bind fun t304 => (if t304 < 0 then (some (-1)) else (some t304))))
theorem laws_heldNetwork.mono : ∀ a0 a1 a2 a3 k, LeO (laws_heldNetwork.f k a0 a1 a2 a3) (laws_heldNetwork.f (k + 1) a0 a1 a2 a3) := by
 intro a0 a1 a2 a3 k
 unfold laws_heldNetwork.f
 repeat' first | (with_reducible first | apply laws_heldInt16S.mono | apply laws_heldNodeS.mono | exact LeO.refl _ | exact LeO.none _ | refine LeO.ite ?_ ?_ | refine LeO.bind ?_ (fun _ => ?_)) | apply laws_heldInt16S.mono | apply laws_heldNodeS.mono | exact LeO.none _ | refine LeO.ite ?_ ?_ | refine LeO.bind ?_ (fun _ => ?_)
theorem laws_heldNetwork.calls (k : Nat) (a0_0 : Int) (A0_1 : Option Addr) (c0_1 : Nat) (l0_1 : List (S81)) (A0_2 : Option Addr) (c0_2 : Nat) (l0_2 : List Int) (a1 : Int) (r : Int) (w : World) (hr0_1 : Kd.C k81 w A0_1 l0_1.length l0_1) (hc0_1 : l0_1.length ≤ c0_1) (hr0_2 : Kd.C (Kd.int .i16) w A0_2 l0_2.length l0_2) (hc0_2 : l0_2.length ≤ c0_2) (h : laws_heldNetwork.f k a0_0 l0_1 l0_2 a1 = some r) :
    Calls Try.prog 55 #[.agg #[.int .i8 a0_0, .slice A0_1 l0_1.length c0_1, .slice A0_2 l0_2.length c0_2], .int .i64 a1] w fun e w' => e = .returned (.int .i64 r) ∧ Below w.heap.size w w' := by
 have hu31 := Try.underlying31
 have HR0_1 := Aside0.mk hr0_1
 have HC0_1 := Aside0.mk hc0_1
 clear hr0_1 hc0_1
 have HR0_2 := Aside0.mk hr0_2
 have HC0_2 := Aside0.mk hc0_2
 clear hr0_2 hc0_2
 have HB := Aside0.mk (Below.refl w.heap.size w)
 have H : ((laws_heldNodeS.f k l0_1 a1).bind fun t303 => (if t303 < 0 then (some (-1)) else ((laws_heldInt16S.f k l0_2 t303).bind fun t304 => (if t304 < 0 then (some (-1)) else (some t304))))) = some r := h
 clear h
 replace H := zob H
 obtain ⟨t303, A30, H⟩ := H
 replace H : (if t303 < 0 then (some (-1)) else ((laws_heldInt16S.f k l0_2 t303).bind fun t304 => (if t304 < 0 then (some (-1)) else (some t304)))) = some r := H
 have A3 := Aside0.mk A30
 clear A30
 by_cases c4 : t303 < 0
 ·rw [if_pos c4] at H
  have c4b0 : decide (t303 < 0) = true := decide_eq_true c4
  clear c4
  obtain rfl := Option.some.inj H
  go_enter Try.func55, Try.ntmps55
  go_wp2_with (first | ((with_reducible refine gate_dst (N := 2) rfl ?_); refine zbx 2 #[.int .i8 a0_0, .slice A0_1 l0_1.length c0_1, .slice A0_2 l0_2.length c0_2] 31 ?_; intro gb302 hg w5 hbox hb; have n_ : _ ∧ _ ∧ _ ∧ _ := ⟨zb HB hb, Aside0.mk (hbox), zg HB hg, zg HB hg⟩; clear HB; obtain ⟨HB, BK302, GW302, GE302⟩ := n_; clear hb hbox hg; obtain ⟨z6_0, z6_1, z6_2, y6_0, y6_1, y6_2⟩ := zB3 BK302) | ((with_reducible refine gate_callee (f := 102) rfl ?_); refine goesL_ (some 8) rfl rfl Try.func102 (by kernel_rfl) rfl #[.slice A0_1 l0_1.length c0_1, .int .i64 a1] rfl zm ?_; (with_reducible refine (laws_heldNodeS.calls k _ _ l0_1 a1 t303 _ ?side1 ?side2 A3.out).mono ?_); (case side1 => exact zcc HB HR0_1.out); (case side2 => exact HC0_1.out); rintro e w' ⟨rfl, ⟨nd, rfl⟩⟩; refine ⟨_, rfl, ?_⟩))
  go_ret
  exact ⟨zv, zbo⟩
 rw [if_neg c4] at H
 have c4b0 : decide (t303 < 0) = false := decide_eq_false c4
 clear c4
 replace H := zob H
 obtain ⟨t304, A70, H⟩ := H
 replace H : (if t304 < 0 then (some (-1)) else (some t304)) = some r := H
 have A7 := Aside0.mk A70
 clear A70
 by_cases c8 : t304 < 0
 ·rw [if_pos c8] at H
  have c8b0 : decide (t304 < 0) = true := decide_eq_true c8
  clear c8
  obtain rfl := Option.some.inj H
  go_enter Try.func55, Try.ntmps55
  go_wp2_with (first | ((with_reducible refine gate_dst (N := 2) rfl ?_); refine zbx 2 #[.int .i8 a0_0, .slice A0_1 l0_1.length c0_1, .slice A0_2 l0_2.length c0_2] 31 ?_; intro gb302 hg w9 hbox hb; have n_ : _ ∧ _ ∧ _ ∧ _ := ⟨zb HB hb, Aside0.mk (hbox), zg HB hg, zg HB hg⟩; clear HB; obtain ⟨HB, BK302, GW302, GE302⟩ := n_; clear hb hbox hg; obtain ⟨z10_0, z10_1, z10_2, y10_0, y10_1, y10_2⟩ := zB3 BK302) | ((with_reducible refine gate_callee (f := 102) rfl ?_); refine goesL_ (some 8) rfl rfl Try.func102 (by kernel_rfl) rfl #[.slice A0_1 l0_1.length c0_1, .int .i64 a1] rfl zm ?_; (with_reducible refine (laws_heldNodeS.calls k _ _ l0_1 a1 t303 _ ?side1 ?side2 A3.out).mono ?_); (case side1 => exact zcc HB HR0_1.out); (case side2 => exact HC0_1.out); rintro e w' ⟨rfl, ⟨nd, rfl⟩⟩; refine ⟨_, rfl, ?_⟩) | ((with_reducible refine gate_callee (f := 103) rfl ?_); refine goesL_ (some 14) rfl rfl Try.func103 (by kernel_rfl) rfl #[.slice A0_2 l0_2.length c0_2, .int .i64 t303] rfl zm ?_; (with_reducible refine (laws_heldInt16S.calls k _ _ l0_2 t303 t304 _ ?side1 ?side2 A7.out).mono ?_); (case side1 => repeat (first | exact (Kd.C_below HR0_2.out zbo) | (with_reducible refine Kd.C_alloc ?_ _) | (with_reducible refine Kd.C_drewN ?_ _) | (with_reducible refine Kd.C_drew ?_))); (case side2 => exact HC0_2.out); rintro e w' ⟨rfl, ⟨nd, rfl⟩⟩; refine ⟨_, rfl, ?_⟩))
  go_ret
  exact ⟨zv, zbo⟩
 rw [if_neg c8] at H
 have c8b0 : decide (t304 < 0) = false := decide_eq_false c8
 clear c8
 obtain rfl := Option.some.inj H
 go_enter Try.func55, Try.ntmps55
 go_wp2_with (first | ((with_reducible refine gate_dst (N := 2) rfl ?_); refine zbx 2 #[.int .i8 a0_0, .slice A0_1 l0_1.length c0_1, .slice A0_2 l0_2.length c0_2] 31 ?_; intro gb302 hg w11 hbox hb; have n_ : _ ∧ _ ∧ _ ∧ _ := ⟨zb HB hb, Aside0.mk (hbox), zg HB hg, zg HB hg⟩; clear HB; obtain ⟨HB, BK302, GW302, GE302⟩ := n_; clear hb hbox hg; obtain ⟨z12_0, z12_1, z12_2, y12_0, y12_1, y12_2⟩ := zB3 BK302) | ((with_reducible refine gate_callee (f := 102) rfl ?_); refine goesL_ (some 8) rfl rfl Try.func102 (by kernel_rfl) rfl #[.slice A0_1 l0_1.length c0_1, .int .i64 a1] rfl zm ?_; (with_reducible refine (laws_heldNodeS.calls k _ _ l0_1 a1 t303 _ ?side1 ?side2 A3.out).mono ?_); (case side1 => exact zcc HB HR0_1.out); (case side2 => exact HC0_1.out); rintro e w' ⟨rfl, ⟨nd, rfl⟩⟩; refine ⟨_, rfl, ?_⟩) | ((with_reducible refine gate_callee (f := 103) rfl ?_); refine goesL_ (some 14) rfl rfl Try.func103 (by kernel_rfl) rfl #[.slice A0_2 l0_2.length c0_2, .int .i64 t303] rfl zm ?_; (with_reducible refine (laws_heldInt16S.calls k _ _ l0_2 t303 t304 _ ?side1 ?side2 A7.out).mono ?_); (case side1 => repeat (first | exact (Kd.C_below HR0_2.out zbo) | (with_reducible refine Kd.C_alloc ?_ _) | (with_reducible refine Kd.C_drewN ?_ _) | (with_reducible refine Kd.C_drew ?_))); (case side2 => exact HC0_2.out); rintro e w' ⟨rfl, ⟨nd, rfl⟩⟩; refine ⟨_, rfl, ?_⟩))
 go_ret
 exact ⟨zv, zbo⟩
def laws_FnExactTrimNetwork.f (k : Nat) (a0_0 : Int) (l0_1 : List (S131)) (l0_2 : List Int) : Option (Bool) := (laws_szNetwork.f a0_0 l0_1 l0_2 1048576).bind fun t306 => (if t306 < 0 then (some true) else ((laws_toNetwork.f k a0_0 l0_1 l0_2).bind fun bt307 => ((spec_TrimNetwork.f k bt307.1 bt307.2.1 bt307.2.2).bind fun bt314 => ((laws_toNetwork.f k a0_0 l0_1 l0_2).bind fun bt323 => ((impl_TrimNetwork.f k bt323.1 bt323.2.1 bt323.2.2).bind fun bt331 => ((laws_eqNetwork.f k bt331.1 bt331.2.1 bt331.2.2.1 bt314.1 bt314.2.1 bt314.2.2.1).bind fun t340 => (if t340 = true then (if bt331.2.2.2 = bt314.2.2.2 then ((laws_toNetwork.f k a0_0 l0_1 l0_2).bind fun bt341 => ((laws_eqNetwork.f k bt323.1 bt323.2.1 bt323.2.2 bt341.1 bt341.2.1 bt341.2.2).bind fun t348 => (if t348 = true then ((laws_markNetwork.f k bt323.1 bt323.2.1 bt323.2.2 1).bind fun bt349 => (if bt349.1 < 0 then (none) else ((laws_eqNetwork.f k bt331.1 bt331.2.1 bt331.2.2.1 bt314.1 bt314.2.1 bt314.2.2.1).bind fun t352 => (if t352 = true then ((laws_markNetwork.f k bt331.1 bt331.2.1 bt331.2.2.1 1).bind fun bt353 => ((laws_heldNetwork.f k bt331.1 bt353.2.1 bt353.2.2 1).bind fun t356 => (if t356 < 0 then (none) else (if t356 = bt353.1 then ((laws_toNetwork.f k a0_0 l0_1 l0_2).bind fun bt357 => ((impl_TrimNetwork.f k bt357.1 bt357.2.1 bt357.2.2).bind fun bt364 => ((laws_eqNetwork.f k bt364.1 bt364.2.1 bt364.2.2.1 bt314.1 bt314.2.1 bt314.2.2.1).bind fun t373 => (if t373 = true then (if bt364.2.2.2 = bt314.2.2.2 then ((laws_heldNetwork.f k bt331.1 bt353.2.1 bt353.2.2 1).bind fun t374 => (if t374 < 0 then (none) else (if t374 = bt353.1 then (some true) else (none)))) else (none)) else (none))))) else (none))))) else (none))))) else (none)))) else (none)) else (none))))))))
theorem laws_FnExactTrimNetwork.mono : ∀ a0 a1 a2 k, LeO (laws_FnExactTrimNetwork.f k a0 a1 a2) (laws_FnExactTrimNetwork.f (k + 1) a0 a1 a2) := by
 intro a0 a1 a2 k
 unfold laws_FnExactTrimNetwork.f
 repeat' first | (with_reducible first | apply impl_TrimNetwork.mono | apply laws_eqNetwork.mono | apply laws_heldNetwork.mono | apply laws_markNetwork.mono | apply laws_toNetwork.mono | apply spec_TrimNetwork.mono | exact LeO.refl _ | exact LeO.none _ | refine LeO.ite ?_ ?_ | refine LeO.bind ?_ (fun _ => ?_)) | apply impl_TrimNetwork.mono | apply laws_eqNetwork.mono | apply laws_heldNetwork.mono | apply laws_markNetwork.mono | apply laws_toNetwork.mono | apply spec_TrimNetwork.mono | exact LeO.none _ | refine LeO.ite ?_ ?_ | refine LeO.bind ?_ (fun _ => ?_)
theorem laws_FnExactTrimNetwork.calls (k : Nat) (a0_0 : Int) (A0_1 : Option Addr) (c0_1 : Nat) (l0_1 : List (S131)) (A0_2 : Option Addr) (c0_2 : Nat) (l0_2 : List Int) (r : Bool) (w : World) (hr0_1 : Kd.C k131 w A0_1 l0_1.length l0_1) (hc0_1 : l0_1.length ≤ c0_1) (hr0_2 : Kd.C (Kd.int .i16) w A0_2 l0_2.length l0_2) (hc0_2 : l0_2.length ≤ c0_2) (h : laws_FnExactTrimNetwork.f k a0_0 l0_1 l0_2 = some r) :
    Calls Try.prog 14 #[.agg #[.int .i8 a0_0, .slice A0_1 l0_1.length c0_1, .slice A0_2 l0_2.length c0_2]] w fun e w' => e = .returned (.bool r) ∧ Below w.heap.size w w' := by
 have hu26 := Try.underlying26
 have hu31 := Try.underlying31
 have HR0_1 := Aside0.mk hr0_1
 have HC0_1 := Aside0.mk hc0_1
 clear hr0_1 hc0_1
 have HR0_2 := Aside0.mk hr0_2
 have HC0_2 := Aside0.mk hc0_2
 clear hr0_2 hc0_2
 have HB := Aside0.mk (Below.refl w.heap.size w)
 have H : ((laws_szNetwork.f a0_0 l0_1 l0_2 1048576).bind fun t306 => (if t306 < 0 then (some true) else ((laws_toNetwork.f k a0_0 l0_1 l0_2).bind fun bt307 => ((spec_TrimNetwork.f k bt307.1 bt307.2.1 bt307.2.2).bind fun bt314 => ((laws_toNetwork.f k a0_0 l0_1 l0_2).bind fun bt323 => ((impl_TrimNetwork.f k bt323.1 bt323.2.1 bt323.2.2).bind fun bt331 => ((laws_eqNetwork.f k bt331.1 bt331.2.1 bt331.2.2.1 bt314.1 bt314.2.1 bt314.2.2.1).bind fun t340 => (if t340 = true then (if bt331.2.2.2 = bt314.2.2.2 then ((laws_toNetwork.f k a0_0 l0_1 l0_2).bind fun bt341 => ((laws_eqNetwork.f k bt323.1 bt323.2.1 bt323.2.2 bt341.1 bt341.2.1 bt341.2.2).bind fun t348 => (if t348 = true then ((laws_markNetwork.f k bt323.1 bt323.2.1 bt323.2.2 1).bind fun bt349 => (if bt349.1 < 0 then (none) else ((laws_eqNetwork.f k bt331.1 bt331.2.1 bt331.2.2.1 bt314.1 bt314.2.1 bt314.2.2.1).bind fun t352 => (if t352 = true then ((laws_markNetwork.f k bt331.1 bt331.2.1 bt331.2.2.1 1).bind fun bt353 => ((laws_heldNetwork.f k bt331.1 bt353.2.1 bt353.2.2 1).bind fun t356 => (if t356 < 0 then (none) else (if t356 = bt353.1 then ((laws_toNetwork.f k a0_0 l0_1 l0_2).bind fun bt357 => ((impl_TrimNetwork.f k bt357.1 bt357.2.1 bt357.2.2).bind fun bt364 => ((laws_eqNetwork.f k bt364.1 bt364.2.1 bt364.2.2.1 bt314.1 bt314.2.1 bt314.2.2.1).bind fun t373 => (if t373 = true then (if bt364.2.2.2 = bt314.2.2.2 then ((laws_heldNetwork.f k bt331.1 bt353.2.1 bt353.2.2 1).bind fun t374 => (if t374 < 0 then (none) else (if t374 = bt353.1 then (some true) else (none)))) else (none)) else (none))))) else (none))))) else (none))))) else (none)))) else (none)) else (none))))))))) = some r := h
 clear h
 replace H := zob H
 obtain ⟨t306, A20, H⟩ := H
 replace H : (if t306 < 0 then (some true) else ((laws_toNetwork.f k a0_0 l0_1 l0_2).bind fun bt307 => ((spec_TrimNetwork.f k bt307.1 bt307.2.1 bt307.2.2).bind fun bt314 => ((laws_toNetwork.f k a0_0 l0_1 l0_2).bind fun bt323 => ((impl_TrimNetwork.f k bt323.1 bt323.2.1 bt323.2.2).bind fun bt331 => ((laws_eqNetwork.f k bt331.1 bt331.2.1 bt331.2.2.1 bt314.1 bt314.2.1 bt314.2.2.1).bind fun t340 => (if t340 = true then (if bt331.2.2.2 = bt314.2.2.2 then ((laws_toNetwork.f k a0_0 l0_1 l0_2).bind fun bt341 => ((laws_eqNetwork.f k bt323.1 bt323.2.1 bt323.2.2 bt341.1 bt341.2.1 bt341.2.2).bind fun t348 => (if t348 = true then ((laws_markNetwork.f k bt323.1 bt323.2.1 bt323.2.2 1).bind fun bt349 => (if bt349.1 < 0 then (none) else ((laws_eqNetwork.f k bt331.1 bt331.2.1 bt331.2.2.1 bt314.1 bt314.2.1 bt314.2.2.1).bind fun t352 => (if t352 = true then ((laws_markNetwork.f k bt331.1 bt331.2.1 bt331.2.2.1 1).bind fun bt353 => ((laws_heldNetwork.f k bt331.1 bt353.2.1 bt353.2.2 1).bind fun t356 => (if t356 < 0 then (none) else (if t356 = bt353.1 then ((laws_toNetwork.f k a0_0 l0_1 l0_2).bind fun bt357 => ((impl_TrimNetwork.f k bt357.1 bt357.2.1 bt357.2.2).bind fun bt364 => ((laws_eqNetwork.f k bt364.1 bt364.2.1 bt364.2.2.1 bt314.1 bt314.2.1 bt314.2.2.1).bind fun t373 => (if t373 = true then (if bt364.2.2.2 = bt314.2.2.2 then ((laws_heldNetwork.f k bt331.1 bt353.2.1 bt353.2.2 1).bind fun t374 => (if t374 < 0 then (none) else (if t374 = bt353.1 then (some true) else (none)))) else (none)) else (none))))) else (none))))) else (none))))) else (none)))) else (none)) else (none)))))))) = some r := H
 have A2 := Aside0.mk A20
 clear A20
 by_cases c3 : t306 < 0
 ·rw [if_pos c3] at H
  have c3b0 : decide (t306 < 0) = true := decide_eq_true c3
  clear c3
  obtain rfl := Option.some.inj H
  go_enter Try.func14, Try.ntmps14
  go_wp2_with (first | ((with_reducible refine gate_dst (N := 1) rfl ?_); refine zbx 1 #[.int .i8 a0_0, .slice A0_1 l0_1.length c0_1, .slice A0_2 l0_2.length c0_2] 26 ?_; intro gb305 hg w4 hbox hb; have n_ : _ ∧ _ ∧ _ ∧ _ := ⟨zb HB hb, Aside0.mk (hbox), zg HB hg, zg HB hg⟩; clear HB; obtain ⟨HB, BK305, GW305, GE305⟩ := n_; clear hb hbox hg; obtain ⟨z5_0, z5_1, z5_2, y5_0, y5_1, y5_2⟩ := zB3 BK305) | ((with_reducible refine gate_callee (f := 21) rfl ?_); refine goesL_ (some 16) rfl rfl Try.func21 (by kernel_rfl) rfl #[.agg #[.int .i8 a0_0, .slice A0_1 l0_1.length c0_1, .slice A0_2 l0_2.length c0_2], .int .i64 1048576] rfl zm ?_; (with_reducible refine (laws_szNetwork.calls a0_0 _ _ l0_1 _ _ l0_2 1048576 t306 _ ?side1 ?side2 ?side3 ?side4 A2.out).mono ?_); (case side1 => exact zcc HB HR0_1.out); (case side2 => exact HC0_1.out); (case side3 => exact zcc HB HR0_2.out); (case side4 => exact HC0_2.out); rintro e w6 ⟨rfl, hb⟩; refine ⟨_, rfl, ?_⟩; have n_ : _ ∧ _ := ⟨zk BK305 hb, zbs hb⟩; clear BK305 HB; obtain ⟨BK305, HB⟩ := n_; (try clear hb); (try clear hb2); (try clear hk); (try clear hi)))
  go_ret
  exact ⟨zv, zbo⟩
 rw [if_neg c3] at H
 have c3b0 : decide (t306 < 0) = false := decide_eq_false c3
 clear c3
 replace H := zob H
 obtain ⟨⟨t307, t308, t311⟩, A70, H⟩ := H
 replace H : ((spec_TrimNetwork.f k t307 t308 t311).bind fun bt314 => ((laws_toNetwork.f k a0_0 l0_1 l0_2).bind fun bt323 => ((impl_TrimNetwork.f k bt323.1 bt323.2.1 bt323.2.2).bind fun bt331 => ((laws_eqNetwork.f k bt331.1 bt331.2.1 bt331.2.2.1 bt314.1 bt314.2.1 bt314.2.2.1).bind fun t340 => (if t340 = true then (if bt331.2.2.2 = bt314.2.2.2 then ((laws_toNetwork.f k a0_0 l0_1 l0_2).bind fun bt341 => ((laws_eqNetwork.f k bt323.1 bt323.2.1 bt323.2.2 bt341.1 bt341.2.1 bt341.2.2).bind fun t348 => (if t348 = true then ((laws_markNetwork.f k bt323.1 bt323.2.1 bt323.2.2 1).bind fun bt349 => (if bt349.1 < 0 then (none) else ((laws_eqNetwork.f k bt331.1 bt331.2.1 bt331.2.2.1 bt314.1 bt314.2.1 bt314.2.2.1).bind fun t352 => (if t352 = true then ((laws_markNetwork.f k bt331.1 bt331.2.1 bt331.2.2.1 1).bind fun bt353 => ((laws_heldNetwork.f k bt331.1 bt353.2.1 bt353.2.2 1).bind fun t356 => (if t356 < 0 then (none) else (if t356 = bt353.1 then ((laws_toNetwork.f k a0_0 l0_1 l0_2).bind fun bt357 => ((impl_TrimNetwork.f k bt357.1 bt357.2.1 bt357.2.2).bind fun bt364 => ((laws_eqNetwork.f k bt364.1 bt364.2.1 bt364.2.2.1 bt314.1 bt314.2.1 bt314.2.2.1).bind fun t373 => (if t373 = true then (if bt364.2.2.2 = bt314.2.2.2 then ((laws_heldNetwork.f k bt331.1 bt353.2.1 bt353.2.2 1).bind fun t374 => (if t374 < 0 then (none) else (if t374 = bt353.1 then (some true) else (none)))) else (none)) else (none))))) else (none))))) else (none))))) else (none)))) else (none)) else (none)))))) = some r := H
 have A7 := Aside0.mk A70
 clear A70
 replace H := zob H
 obtain ⟨⟨t314, t315, t318, t321⟩, A80, H⟩ := H
 replace H : ((laws_toNetwork.f k a0_0 l0_1 l0_2).bind fun bt323 => ((impl_TrimNetwork.f k bt323.1 bt323.2.1 bt323.2.2).bind fun bt331 => ((laws_eqNetwork.f k bt331.1 bt331.2.1 bt331.2.2.1 t314 t315 t318).bind fun t340 => (if t340 = true then (if bt331.2.2.2 = t321 then ((laws_toNetwork.f k a0_0 l0_1 l0_2).bind fun bt341 => ((laws_eqNetwork.f k bt323.1 bt323.2.1 bt323.2.2 bt341.1 bt341.2.1 bt341.2.2).bind fun t348 => (if t348 = true then ((laws_markNetwork.f k bt323.1 bt323.2.1 bt323.2.2 1).bind fun bt349 => (if bt349.1 < 0 then (none) else ((laws_eqNetwork.f k bt331.1 bt331.2.1 bt331.2.2.1 t314 t315 t318).bind fun t352 => (if t352 = true then ((laws_markNetwork.f k bt331.1 bt331.2.1 bt331.2.2.1 1).bind fun bt353 => ((laws_heldNetwork.f k bt331.1 bt353.2.1 bt353.2.2 1).bind fun t356 => (if t356 < 0 then (none) else (if t356 = bt353.1 then ((laws_toNetwork.f k a0_0 l0_1 l0_2).bind fun bt357 => ((impl_TrimNetwork.f k bt357.1 bt357.2.1 bt357.2.2).bind fun bt364 => ((laws_eqNetwork.f k bt364.1 bt364.2.1 bt364.2.2.1 t314 t315 t318).bind fun t373 => (if t373 = true then (if bt364.2.2.2 = t321 then ((laws_heldNetwork.f k bt331.1 bt353.2.1 bt353.2.2 1).bind fun t374 => (if t374 < 0 then (none) else (if t374 = bt353.1 then (some true) else (none)))) else (none)) else (none))))) else (none))))) else (none))))) else (none)))) else (none)) else (none))))) = some r := H
 have A8 := Aside0.mk A80
 clear A80
 replace H := zob H
 obtain ⟨⟨t323, t324, t327⟩, A90, H⟩ := H
 replace H : ((impl_TrimNetwork.f k t323 t324 t327).bind fun bt331 => ((laws_eqNetwork.f k bt331.1 bt331.2.1 bt331.2.2.1 t314 t315 t318).bind fun t340 => (if t340 = true then (if bt331.2.2.2 = t321 then ((laws_toNetwork.f k a0_0 l0_1 l0_2).bind fun bt341 => ((laws_eqNetwork.f k t323 t324 t327 bt341.1 bt341.2.1 bt341.2.2).bind fun t348 => (if t348 = true then ((laws_markNetwork.f k t323 t324 t327 1).bind fun bt349 => (if bt349.1 < 0 then (none) else ((laws_eqNetwork.f k bt331.1 bt331.2.1 bt331.2.2.1 t314 t315 t318).bind fun t352 => (if t352 = true then ((laws_markNetwork.f k bt331.1 bt331.2.1 bt331.2.2.1 1).bind fun bt353 => ((laws_heldNetwork.f k bt331.1 bt353.2.1 bt353.2.2 1).bind fun t356 => (if t356 < 0 then (none) else (if t356 = bt353.1 then ((laws_toNetwork.f k a0_0 l0_1 l0_2).bind fun bt357 => ((impl_TrimNetwork.f k bt357.1 bt357.2.1 bt357.2.2).bind fun bt364 => ((laws_eqNetwork.f k bt364.1 bt364.2.1 bt364.2.2.1 t314 t315 t318).bind fun t373 => (if t373 = true then (if bt364.2.2.2 = t321 then ((laws_heldNetwork.f k bt331.1 bt353.2.1 bt353.2.2 1).bind fun t374 => (if t374 < 0 then (none) else (if t374 = bt353.1 then (some true) else (none)))) else (none)) else (none))))) else (none))))) else (none))))) else (none)))) else (none)) else (none)))) = some r := H
 have A9 := Aside0.mk A90
 clear A90
 replace H := zob H
 obtain ⟨⟨t331, t332, t335, t338⟩, A100, H⟩ := H
 replace H : ((laws_eqNetwork.f k t331 t332 t335 t314 t315 t318).bind fun t340 => (if t340 = true then (if t338 = t321 then ((laws_toNetwork.f k a0_0 l0_1 l0_2).bind fun bt341 => ((laws_eqNetwork.f k t323 t324 t327 bt341.1 bt341.2.1 bt341.2.2).bind fun t348 => (if t348 = true then ((laws_markNetwork.f k t323 t324 t327 1).bind fun bt349 => (if bt349.1 < 0 then (none) else ((laws_eqNetwork.f k t331 t332 t335 t314 t315 t318).bind fun t352 => (if t352 = true then ((laws_markNetwork.f k t331 t332 t335 1).bind fun bt353 => ((laws_heldNetwork.f k t331 bt353.2.1 bt353.2.2 1).bind fun t356 => (if t356 < 0 then (none) else (if t356 = bt353.1 then ((laws_toNetwork.f k a0_0 l0_1 l0_2).bind fun bt357 => ((impl_TrimNetwork.f k bt357.1 bt357.2.1 bt357.2.2).bind fun bt364 => ((laws_eqNetwork.f k bt364.1 bt364.2.1 bt364.2.2.1 t314 t315 t318).bind fun t373 => (if t373 = true then (if bt364.2.2.2 = t321 then ((laws_heldNetwork.f k t331 bt353.2.1 bt353.2.2 1).bind fun t374 => (if t374 < 0 then (none) else (if t374 = bt353.1 then (some true) else (none)))) else (none)) else (none))))) else (none))))) else (none))))) else (none)))) else (none)) else (none))) = some r := H
 have A10 := Aside0.mk A100
 clear A100
 replace H := zob H
 obtain ⟨t340, A110, H⟩ := H
 replace H : (if t340 = true then (if t338 = t321 then ((laws_toNetwork.f k a0_0 l0_1 l0_2).bind fun bt341 => ((laws_eqNetwork.f k t323 t324 t327 bt341.1 bt341.2.1 bt341.2.2).bind fun t348 => (if t348 = true then ((laws_markNetwork.f k t323 t324 t327 1).bind fun bt349 => (if bt349.1 < 0 then (none) else ((laws_eqNetwork.f k t331 t332 t335 t314 t315 t318).bind fun t352 => (if t352 = true then ((laws_markNetwork.f k t331 t332 t335 1).bind fun bt353 => ((laws_heldNetwork.f k t331 bt353.2.1 bt353.2.2 1).bind fun t356 => (if t356 < 0 then (none) else (if t356 = bt353.1 then ((laws_toNetwork.f k a0_0 l0_1 l0_2).bind fun bt357 => ((impl_TrimNetwork.f k bt357.1 bt357.2.1 bt357.2.2).bind fun bt364 => ((laws_eqNetwork.f k bt364.1 bt364.2.1 bt364.2.2.1 t314 t315 t318).bind fun t373 => (if t373 = true then (if bt364.2.2.2 = t321 then ((laws_heldNetwork.f k t331 bt353.2.1 bt353.2.2 1).bind fun t374 => (if t374 < 0 then (none) else (if t374 = bt353.1 then (some true) else (none)))) else (none)) else (none))))) else (none))))) else (none))))) else (none)))) else (none)) else (none)) = some r := H
 have A11 := Aside0.mk A110
 clear A110
 by_cases c12 : t340 = true
 rotate_left
 ·replace c12 := Bool.eq_false_iff.mpr c12
  subst c12
  have H1 : (none) = some r := by rw [if_neg (show ¬ (false = true) by decide)] at H; exact H
  clear H
  have H := H1
  clear H1
  exact absurd H (by simp)
 subst c12
 have H1 : (if t338 = t321 then ((laws_toNetwork.f k a0_0 l0_1 l0_2).bind fun bt341 => ((laws_eqNetwork.f k t323 t324 t327 bt341.1 bt341.2.1 bt341.2.2).bind fun t348 => (if t348 = true then ((laws_markNetwork.f k t323 t324 t327 1).bind fun bt349 => (if bt349.1 < 0 then (none) else ((laws_eqNetwork.f k t331 t332 t335 t314 t315 t318).bind fun t352 => (if t352 = true then ((laws_markNetwork.f k t331 t332 t335 1).bind fun bt353 => ((laws_heldNetwork.f k t331 bt353.2.1 bt353.2.2 1).bind fun t356 => (if t356 < 0 then (none) else (if t356 = bt353.1 then ((laws_toNetwork.f k a0_0 l0_1 l0_2).bind fun bt357 => ((impl_TrimNetwork.f k bt357.1 bt357.2.1 bt357.2.2).bind fun bt364 => ((laws_eqNetwork.f k bt364.1 bt364.2.1 bt364.2.2.1 t314 t315 t318).bind fun t373 => (if t373 = true then (if bt364.2.2.2 = t321 then ((laws_heldNetwork.f k t331 bt353.2.1 bt353.2.2 1).bind fun t374 => (if t374 < 0 then (none) else (if t374 = bt353.1 then (some true) else (none)))) else (none)) else (none))))) else (none))))) else (none))))) else (none)))) else (none)) = some r := by rw [if_pos rfl] at H; exact H
 clear H
 have H := H1
 clear H1
 by_cases c13 : t338 = t321
 rotate_left
 ·rw [if_neg c13] at H
  exact absurd H (by simp)
 rw [if_pos c13] at H
 have c13b0 : (t338 == t321) = true := beq_iff_eq.mpr c13
 have c13b1 : (t338 != t321) = false := bne_eq_false_iff_eq.mpr c13
 clear c13
 replace H := zob H
 obtain ⟨⟨t341, t342, t345⟩, A140, H⟩ := H
 replace H : ((laws_eqNetwork.f k t323 t324 t327 t341 t342 t345).bind fun t348 => (if t348 = true then ((laws_markNetwork.f k t323 t324 t327 1).bind fun bt349 => (if bt349.1 < 0 then (none) else ((laws_eqNetwork.f k t331 t332 t335 t314 t315 t318).bind fun t352 => (if t352 = true then ((laws_markNetwork.f k t331 t332 t335 1).bind fun bt353 => ((laws_heldNetwork.f k t331 bt353.2.1 bt353.2.2 1).bind fun t356 => (if t356 < 0 then (none) else (if t356 = bt353.1 then ((laws_toNetwork.f k a0_0 l0_1 l0_2).bind fun bt357 => ((impl_TrimNetwork.f k bt357.1 bt357.2.1 bt357.2.2).bind fun bt364 => ((laws_eqNetwork.f k bt364.1 bt364.2.1 bt364.2.2.1 t314 t315 t318).bind fun t373 => (if t373 = true then (if bt364.2.2.2 = t321 then ((laws_heldNetwork.f k t331 bt353.2.1 bt353.2.2 1).bind fun t374 => (if t374 < 0 then (none) else (if t374 = bt353.1 then (some true) else (none)))) else (none)) else (none))))) else (none))))) else (none))))) else (none))) = some r := H
 have A14 := Aside0.mk A140
 clear A140
 replace H := zob H
 obtain ⟨t348, A150, H⟩ := H
 replace H : (if t348 = true then ((laws_markNetwork.f k t323 t324 t327 1).bind fun bt349 => (if bt349.1 < 0 then (none) else ((laws_eqNetwork.f k t331 t332 t335 t314 t315 t318).bind fun t352 => (if t352 = true then ((laws_markNetwork.f k t331 t332 t335 1).bind fun bt353 => ((laws_heldNetwork.f k t331 bt353.2.1 bt353.2.2 1).bind fun t356 => (if t356 < 0 then (none) else (if t356 = bt353.1 then ((laws_toNetwork.f k a0_0 l0_1 l0_2).bind fun bt357 => ((impl_TrimNetwork.f k bt357.1 bt357.2.1 bt357.2.2).bind fun bt364 => ((laws_eqNetwork.f k bt364.1 bt364.2.1 bt364.2.2.1 t314 t315 t318).bind fun t373 => (if t373 = true then (if bt364.2.2.2 = t321 then ((laws_heldNetwork.f k t331 bt353.2.1 bt353.2.2 1).bind fun t374 => (if t374 < 0 then (none) else (if t374 = bt353.1 then (some true) else (none)))) else (none)) else (none))))) else (none))))) else (none))))) else (none)) = some r := H
 have A15 := Aside0.mk A150
 clear A150
 by_cases c16 : t348 = true
 rotate_left
 ·replace c16 := Bool.eq_false_iff.mpr c16
  subst c16
  have H1 : (none) = some r := by rw [if_neg (show ¬ (false = true) by decide)] at H; exact H
  clear H
  have H := H1
  clear H1
  exact absurd H (by simp)
 subst c16
 have H1 : ((laws_markNetwork.f k t323 t324 t327 1).bind fun bt349 => (if bt349.1 < 0 then (none) else ((laws_eqNetwork.f k t331 t332 t335 t314 t315 t318).bind fun t352 => (if t352 = true then ((laws_markNetwork.f k t331 t332 t335 1).bind fun bt353 => ((laws_heldNetwork.f k t331 bt353.2.1 bt353.2.2 1).bind fun t356 => (if t356 < 0 then (none) else (if t356 = bt353.1 then ((laws_toNetwork.f k a0_0 l0_1 l0_2).bind fun bt357 => ((impl_TrimNetwork.f k bt357.1 bt357.2.1 bt357.2.2).bind fun bt364 => ((laws_eqNetwork.f k bt364.1 bt364.2.1 bt364.2.2.1 t314 t315 t318).bind fun t373 => (if t373 = true then (if bt364.2.2.2 = t321 then ((laws_heldNetwork.f k t331 bt353.2.1 bt353.2.2 1).bind fun t374 => (if t374 < 0 then (none) else (if t374 = bt353.1 then (some true) else (none)))) else (none)) else (none))))) else (none))))) else (none))))) = some r := by rw [if_pos rfl] at H; exact H
 clear H
 have H := H1
 clear H1
 replace H := zob H
 obtain ⟨⟨t349, t350, t351⟩, A170, H⟩ := H
 replace H : (if t349 < 0 then (none) else ((laws_eqNetwork.f k t331 t332 t335 t314 t315 t318).bind fun t352 => (if t352 = true then ((laws_markNetwork.f k t331 t332 t335 1).bind fun bt353 => ((laws_heldNetwork.f k t331 bt353.2.1 bt353.2.2 1).bind fun t356 => (if t356 < 0 then (none) else (if t356 = bt353.1 then ((laws_toNetwork.f k a0_0 l0_1 l0_2).bind fun bt357 => ((impl_TrimNetwork.f k bt357.1 bt357.2.1 bt357.2.2).bind fun bt364 => ((laws_eqNetwork.f k bt364.1 bt364.2.1 bt364.2.2.1 t314 t315 t318).bind fun t373 => (if t373 = true then (if bt364.2.2.2 = t321 then ((laws_heldNetwork.f k t331 bt353.2.1 bt353.2.2 1).bind fun t374 => (if t374 < 0 then (none) else (if t374 = bt353.1 then (some true) else (none)))) else (none)) else (none))))) else (none))))) else (none)))) = some r := H
 have A17 := Aside0.mk A170
 clear A170
 by_cases c18 : t349 < 0
 ·rw [if_pos c18] at H
  exact absurd H (by simp)
 rw [if_neg c18] at H
 have c18b0 : decide (t349 < 0) = false := decide_eq_false c18
 clear c18
 replace H := zob H
 obtain ⟨t352, A190, H⟩ := H
 replace H : (if t352 = true then ((laws_markNetwork.f k t331 t332 t335 1).bind fun bt353 => ((laws_heldNetwork.f k t331 bt353.2.1 bt353.2.2 1).bind fun t356 => (if t356 < 0 then (none) else (if t356 = bt353.1 then ((laws_toNetwork.f k a0_0 l0_1 l0_2).bind fun bt357 => ((impl_TrimNetwork.f k bt357.1 bt357.2.1 bt357.2.2).bind fun bt364 => ((laws_eqNetwork.f k bt364.1 bt364.2.1 bt364.2.2.1 t314 t315 t318).bind fun t373 => (if t373 = true then (if bt364.2.2.2 = t321 then ((laws_heldNetwork.f k t331 bt353.2.1 bt353.2.2 1).bind fun t374 => (if t374 < 0 then (none) else (if t374 = bt353.1 then (some true) else (none)))) else (none)) else (none))))) else (none))))) else (none)) = some r := H
 have A19 := Aside0.mk A190
 clear A190
 by_cases c20 : t352 = true
 rotate_left
 ·replace c20 := Bool.eq_false_iff.mpr c20
  subst c20
  have H1 : (none) = some r := by rw [if_neg (show ¬ (false = true) by decide)] at H; exact H
  clear H
  have H := H1
  clear H1
  exact absurd H (by simp)
 subst c20
 have H1 : ((laws_markNetwork.f k t331 t332 t335 1).bind fun bt353 => ((laws_heldNetwork.f k t331 bt353.2.1 bt353.2.2 1).bind fun t356 => (if t356 < 0 then (none) else (if t356 = bt353.1 then ((laws_toNetwork.f k a0_0 l0_1 l0_2).bind fun bt357 => ((impl_TrimNetwork.f k bt357.1 bt357.2.1 bt357.2.2).bind fun bt364 => ((laws_eqNetwork.f k bt364.1 bt364.2.1 bt364.2.2.1 t314 t315 t318).bind fun t373 => (if t373 = true then (if bt364.2.2.2 = t321 then ((laws_heldNetwork.f k t331 bt353.2.1 bt353.2.2 1).bind fun t374 => (if t374 < 0 then (none) else (if t374 = bt353.1 then (some true) else (none)))) else (none)) else (none))))) else (none))))) = some r := by rw [if_pos rfl] at H; exact H
 clear H
 have H := H1
 clear H1
 replace H := zob H
 obtain ⟨⟨t353, t354, t355⟩, A210, H⟩ := H
 replace H : ((laws_heldNetwork.f k t331 t354 t355 1).bind fun t356 => (if t356 < 0 then (none) else (if t356 = t353 then ((laws_toNetwork.f k a0_0 l0_1 l0_2).bind fun bt357 => ((impl_TrimNetwork.f k bt357.1 bt357.2.1 bt357.2.2).bind fun bt364 => ((laws_eqNetwork.f k bt364.1 bt364.2.1 bt364.2.2.1 t314 t315 t318).bind fun t373 => (if t373 = true then (if bt364.2.2.2 = t321 then ((laws_heldNetwork.f k t331 t354 t355 1).bind fun t374 => (if t374 < 0 then (none) else (if t374 = t353 then (some true) else (none)))) else (none)) else (none))))) else (none)))) = some r := H
 have A21 := Aside0.mk A210
 clear A210
 replace H := zob H
 obtain ⟨t356, A220, H⟩ := H
 replace H : (if t356 < 0 then (none) else (if t356 = t353 then ((laws_toNetwork.f k a0_0 l0_1 l0_2).bind fun bt357 => ((impl_TrimNetwork.f k bt357.1 bt357.2.1 bt357.2.2).bind fun bt364 => ((laws_eqNetwork.f k bt364.1 bt364.2.1 bt364.2.2.1 t314 t315 t318).bind fun t373 => (if t373 = true then (if bt364.2.2.2 = t321 then ((laws_heldNetwork.f k t331 t354 t355 1).bind fun t374 => (if t374 < 0 then (none) else (if t374 = t353 then (some true) else (none)))) else (none)) else (none))))) else (none))) = some r := H
 have A22 := Aside0.mk A220
 clear A220
 by_cases c23 : t356 < 0
 ·rw [if_pos c23] at H
  exact absurd H (by simp)
 rw [if_neg c23] at H
 have c23b0 : decide (t356 < 0) = false := decide_eq_false c23
 clear c23
 by_cases c24 : t356 = t353
 rotate_left
 ·rw [if_neg c24] at H
  exact absurd H (by simp)
 rw [if_pos c24] at H
 have c24b0 : (t356 == t353) = true := beq_iff_eq.mpr c24
 have c24b1 : (t356 != t353) = false := bne_eq_false_iff_eq.mpr c24
 clear c24
 replace H := zob H
 obtain ⟨⟨t357, t358, t361⟩, A250, H⟩ := H
 replace H : ((impl_TrimNetwork.f k t357 t358 t361).bind fun bt364 => ((laws_eqNetwork.f k bt364.1 bt364.2.1 bt364.2.2.1 t314 t315 t318).bind fun t373 => (if t373 = true then (if bt364.2.2.2 = t321 then ((laws_heldNetwork.f k t331 t354 t355 1).bind fun t374 => (if t374 < 0 then (none) else (if t374 = t353 then (some true) else (none)))) else (none)) else (none)))) = some r := H
 have A25 := Aside0.mk A250
 clear A250
 replace H := zob H
 obtain ⟨⟨t364, t365, t368, t371⟩, A260, H⟩ := H
 replace H : ((laws_eqNetwork.f k t364 t365 t368 t314 t315 t318).bind fun t373 => (if t373 = true then (if t371 = t321 then ((laws_heldNetwork.f k t331 t354 t355 1).bind fun t374 => (if t374 < 0 then (none) else (if t374 = t353 then (some true) else (none)))) else (none)) else (none))) = some r := H
 have A26 := Aside0.mk A260
 clear A260
 replace H := zob H
 obtain ⟨t373, A270, H⟩ := H
 replace H : (if t373 = true then (if t371 = t321 then ((laws_heldNetwork.f k t331 t354 t355 1).bind fun t374 => (if t374 < 0 then (none) else (if t374 = t353 then (some true) else (none)))) else (none)) else (none)) = some r := H
 have A27 := Aside0.mk A270
 clear A270
 by_cases c28 : t373 = true
 rotate_left
 ·replace c28 := Bool.eq_false_iff.mpr c28
  subst c28
  have H1 : (none) = some r := by rw [if_neg (show ¬ (false = true) by decide)] at H; exact H
  clear H
  have H := H1
  clear H1
  exact absurd H (by simp)
 subst c28
 have H1 : (if t371 = t321 then ((laws_heldNetwork.f k t331 t354 t355 1).bind fun t374 => (if t374 < 0 then (none) else (if t374 = t353 then (some true) else (none)))) else (none)) = some r := by rw [if_pos rfl] at H; exact H
 clear H
 have H := H1
 clear H1
 by_cases c29 : t371 = t321
 rotate_left
 ·rw [if_neg c29] at H
  exact absurd H (by simp)
 rw [if_pos c29] at H
 have c29b0 : (t371 == t321) = true := beq_iff_eq.mpr c29
 have c29b1 : (t371 != t321) = false := bne_eq_false_iff_eq.mpr c29
 clear c29
 replace H := zob H
 obtain ⟨t374, A300, H⟩ := H
 replace H : (if t374 < 0 then (none) else (if t374 = t353 then (some true) else (none))) = some r := H
 have A30 := Aside0.mk A300
 clear A300
 by_cases c31 : t374 < 0
 ·rw [if_pos c31] at H
  exact absurd H (by simp)
 rw [if_neg c31] at H
 have c31b0 : decide (t374 < 0) = false := decide_eq_false c31
 clear c31
 by_cases c32 : t374 = t353
 rotate_left
 ·rw [if_neg c32] at H
  exact absurd H (by simp)
 rw [if_pos c32] at H
 have c32b0 : (t374 == t353) = true := beq_iff_eq.mpr c32
 have c32b1 : (t374 != t353) = false := bne_eq_false_iff_eq.mpr c32
 clear c32
 obtain rfl := Option.some.inj H
 go_enter Try.func14, Try.ntmps14
 try go_wp2_with (first | ((with_reducible refine gate_dst (N := 1) rfl ?_); refine zbx 1 #[.int .i8 a0_0, .slice A0_1 l0_1.length c0_1, .slice A0_2 l0_2.length c0_2] 26 ?_; intro gb305 hg w33 hbox hb; have n_ : _ ∧ _ ∧ _ ∧ _ := ⟨zb HB hb, Aside0.mk (hbox), zg HB hg, zg HB hg⟩; clear HB; obtain ⟨HB, BK305, GW305, GE305⟩ := n_; clear hb hbox hg; obtain ⟨z34_0, z34_1, z34_2, y34_0, y34_1, y34_2⟩ := zB3 BK305) | ((with_reducible refine gate_callee (f := 21) rfl ?_); refine goesL_ (some 16) rfl rfl Try.func21 (by kernel_rfl) rfl #[.agg #[.int .i8 a0_0, .slice A0_1 l0_1.length c0_1, .slice A0_2 l0_2.length c0_2], .int .i64 1048576] rfl zm ?_; (with_reducible refine (laws_szNetwork.calls a0_0 _ _ l0_1 _ _ l0_2 1048576 t306 _ ?side1 ?side2 ?side3 ?side4 A2.out).mono ?_); (case side1 => exact zcc HB HR0_1.out); (case side2 => exact HC0_1.out); (case side3 => exact zcc HB HR0_2.out); (case side4 => exact HC0_2.out); rintro e w35 ⟨rfl, hb⟩; refine ⟨_, rfl, ?_⟩; have n_ : _ ∧ _ := ⟨zk BK305 hb, zbs hb⟩; clear BK305 HB; obtain ⟨BK305, HB⟩ := n_; (try clear hb); (try clear hb2); (try clear hk); (try clear hi); obtain ⟨z36_0, z36_1, z36_2, y36_0, y36_1, y36_2⟩ := zB3 BK305) | ((with_reducible refine gate_callee (f := 23) rfl ?_); refine goesL_ (some 21) rfl rfl Try.func23 (by kernel_rfl) rfl #[.agg #[.int .i8 a0_0, .slice A0_1 l0_1.length c0_1, .slice A0_2 l0_2.length c0_2]] rfl zm ?_; (with_reducible refine (laws_toNetwork.calls k a0_0 _ _ l0_1 _ _ l0_2 t307 t308 t311 _ ?side1 ?side2 ?side3 ?side4 A7.out).mono ?_); (case side1 => exact zcc HB HR0_1.out); (case side2 => exact HC0_1.out); (case side3 => exact zcc HB HR0_2.out); (case side4 => exact HC0_2.out); rintro e w37 ⟨v309, v312, rfl, ho0, ho1, hb⟩; refine ⟨_, rfl, ?_⟩; have n_ : _ ∧ _ ∧ _ ∧ _ := ⟨Aside0.mk (Kd.R_lower ho0 (zz HB)), Aside0.mk (Kd.R_lower ho1 (zz HB)), zk BK305 hb, zbs hb⟩; clear BK305 HB; obtain ⟨HO310, HO313, BK305, HB⟩ := n_; (try clear hb); (try clear hb2); (try clear hk); (try clear hi); (try clear ho0); (try clear ho1); obtain ⟨Ao38, co38, eo38⟩ := Kd.R_slice HO310.out; subst eo38; obtain ⟨Ao39, co39, eo39⟩ := Kd.R_slice HO313.out; subst eo39) | ((with_reducible refine gate_callee (f := 53) rfl ?_); refine goesL_ (some 22) rfl rfl Try.func53 (by kernel_rfl) rfl #[.agg #[.int .i8 t307, .slice Ao38 t308.length co38, .slice Ao39 t311.length co39]] rfl zm ?_; (with_reducible refine (spec_TrimNetwork.calls k t307 _ _ t308 _ _ t311 t314 t315 t318 t321 _ ?side1 ?side2 ?side3 ?side4 A8.out).mono ?_); (case side1 => exact zrc HO310); (case side2 => exact (Kd.R_reads' HO310.out).2.1); (case side3 => exact zrc HO313); (case side4 => exact (Kd.R_reads' HO313.out).2.1); rintro e w40 ⟨v316, v319, rfl, ho0, ho1, hb⟩; refine ⟨_, rfl, ?_⟩; have n_ : _ ∧ _ ∧ _ ∧ _ ∧ _ ∧ _ := ⟨Aside0.mk (Kd.R_elder' (ze HO310).out (Kd.R_base ho0) hb), Aside0.mk (Kd.R_elder' (ze HO313).out (Kd.R_base ho1) hb), Aside0.mk (Kd.R_lower (Kd.R_new' ho0 (Kd.R_lt (ze HO310).out)) (zz HB)), Aside0.mk (Kd.R_lower (Kd.R_new' ho1 (Kd.R_lt (ze HO313).out)) (zz HB)), zk BK305 hb, zbs hb⟩; clear HO310 HO313 BK305 HB; obtain ⟨HO310, HO313, HO317, HO320, BK305, HB⟩ := n_; (try clear hb); (try clear hb2); (try clear hk); (try clear hi); (try clear ho0); (try clear ho1)) | ((with_reducible refine gate_dst (N := 4) rfl ?_); refine zbx 4 #[.int .i8 0, .slice none 0 0, .slice none 0 0] 31 ?_; intro gb322 hg w41 hbox hb; have n_ : _ ∧ _ ∧ _ ∧ _ ∧ _ ∧ _ ∧ _ ∧ _ ∧ _ ∧ _ ∧ _ := ⟨zr HO310 hb, zr HO313 hb, zr HO317 hb, zr HO320 hb, zk BK305 hb, zbs hb, Aside0.mk (hbox), zg HB hg, zg HB hg, zn1 BK305 hg, zn2 BK305 hg⟩; clear HO310 HO313 HO317 HO320 BK305 HB; obtain ⟨HO310, HO313, HO317, HO320, BK305, HB, BK322, GW322, GE322, NB305_322, NB322_305⟩ := n_; clear hb hbox hg; have hnb42 := NB322_305.out; have hnc42 := NB305_322.out; obtain ⟨z43_0, z43_1, z43_2, y43_0, y43_1, y43_2⟩ := zB3 BK322; obtain ⟨Ao44, co44, eo44⟩ := Kd.R_slice HO317.out; subst eo44; obtain ⟨Ao45, co45, eo45⟩ := Kd.R_slice HO320.out; subst eo45; obtain ⟨z46_0, z46_1, z46_2, y46_0, y46_1, y46_2⟩ := zB3 BK305) | ((with_reducible refine gate_callee (f := 23) rfl ?_); refine goesL_ (some 26) rfl rfl Try.func23 (by kernel_rfl) rfl #[.agg #[.int .i8 a0_0, .slice A0_1 l0_1.length c0_1, .slice A0_2 l0_2.length c0_2]] rfl zm ?_; (with_reducible refine (laws_toNetwork.calls k a0_0 _ _ l0_1 _ _ l0_2 t323 t324 t327 _ ?side1 ?side2 ?side3 ?side4 A9.out).mono ?_); (case side1 => exact Kd.C_below HR0_1.out zbo); (case side2 => exact HC0_1.out); (case side3 => exact Kd.C_below HR0_2.out zbo); (case side4 => exact HC0_2.out); rintro e w47 ⟨v325, v328, rfl, ho0, ho1, hb⟩; refine ⟨_, rfl, ?_⟩; have n_ : _ ∧ _ ∧ _ ∧ _ ∧ _ ∧ _ ∧ _ ∧ _ ∧ _ := ⟨Aside0.mk (Kd.R_elder' (zs HO310 BK322).out (Kd.R_base ho0) hb), Aside0.mk (Kd.R_elder' (zs HO313 BK322).out (Kd.R_base ho1) hb), Aside0.mk (Kd.R_elder' (zs HO317 BK322).out (Kd.R_base ho0) hb), Aside0.mk (Kd.R_elder' (zs HO320 BK322).out (Kd.R_base ho1) hb), Aside0.mk (Kd.R_lower (Kd.R_new' (Kd.R_new' ho0 (Kd.R_lt (zs HO310 BK322).out)) (Kd.R_lt (zs HO317 BK322).out)) (zz HB)), Aside0.mk (Kd.R_lower (Kd.R_new' (Kd.R_new' ho1 (Kd.R_lt (zs HO313 BK322).out)) (Kd.R_lt (zs HO320 BK322).out)) (zz HB)), zfb BK305 NB305_322 hb, Aside0.mk (blk_below (g := gb322) (o := .cells #[.int .i8 t314, .slice Ao44 t315.length co44, .slice Ao45 t318.length co45] 31 (0, 0)) (zp BK322) hb), zbs hb⟩; clear HO310 HO313 HO317 HO320 BK305 BK322 HB; obtain ⟨HO310, HO313, HO317, HO320, HO326, HO329, BK305, BK322, HB⟩ := n_; (try clear hb); (try clear hb2); (try clear hk); (try clear hi); (try clear ho0); (try clear ho1)) | ((with_reducible refine gate_dst (N := 6) rfl ?_); refine zbx 6 #[.int .i8 0, .slice none 0 0, .slice none 0 0] 31 ?_; intro gb330 hg w48 hbox hb; have n_ : _ ∧ _ ∧ _ ∧ _ ∧ _ ∧ _ ∧ _ ∧ _ ∧ _ ∧ _ ∧ _ ∧ _ ∧ _ ∧ _ ∧ _ ∧ _ := ⟨zr HO310 hb, zr HO313 hb, zr HO317 hb, zr HO320 hb, zr HO326 hb, zr HO329 hb, zk BK305 hb, zk BK322 hb, zbs hb, Aside0.mk (hbox), zg HB hg, zg HB hg, zn1 BK305 hg, zn2 BK305 hg, zn1 BK322 hg, zn2 BK322 hg⟩; clear HO310 HO313 HO317 HO320 HO326 HO329 BK305 BK322 HB; obtain ⟨HO310, HO313, HO317, HO320, HO326, HO329, BK305, BK322, HB, BK330, GW330, GE330, NB305_330, NB330_305, NB322_330, NB330_322⟩ := n_; clear hb hbox hg; have hnb49 := NB330_305.out; have hnc49 := NB305_330.out; have hnb50 := NB330_322.out; have hnc50 := NB322_330.out; obtain ⟨z51_0, z51_1, z51_2, y51_0, y51_1, y51_2⟩ := zB3 BK330; obtain ⟨Ao52, co52, eo52⟩ := Kd.R_slice HO326.out; subst eo52; obtain ⟨Ao53, co53, eo53⟩ := Kd.R_slice HO329.out; subst eo53) | ((with_reducible refine gate_callee (f := 54) rfl ?_); refine goesL_ (some 29) rfl rfl Try.func54 (by kernel_rfl) rfl #[.agg #[.int .i8 t323, .slice Ao52 t324.length co52, .slice Ao53 t327.length co53]] rfl zm ?_; (with_reducible refine (impl_TrimNetwork.calls k t323 _ _ t324 _ _ t327 t331 t332 t335 t338 _ ?side1 ?side2 ?side3 ?side4 A10.out).mono ?_); (case side1 => exact (Kd.R_reads' (zs HO326 BK330).out).2.2); (case side2 => exact (Kd.R_reads' HO326.out).2.1); (case side3 => exact (Kd.R_reads' (zs HO329 BK330).out).2.2); (case side4 => exact (Kd.R_reads' HO329.out).2.1); rintro e w54 ⟨v333, v336, rfl, ho0, ho1, hb⟩; refine ⟨_, rfl, ?_⟩; have n_ : _ ∧ _ ∧ _ ∧ _ ∧ _ ∧ _ ∧ _ ∧ _ ∧ _ ∧ _ ∧ _ ∧ _ := ⟨Aside0.mk (Kd.R_elder' (zs HO310 BK330).out (Kd.R_base ho0) hb), Aside0.mk (Kd.R_elder' (zs HO313 BK330).out (Kd.R_base ho1) hb), Aside0.mk (Kd.R_elder' (zs HO317 BK330).out (Kd.R_base ho0) hb), Aside0.mk (Kd.R_elder' (zs HO320 BK330).out (Kd.R_base ho1) hb), Aside0.mk (Kd.R_elder' (zs HO326 BK330).out (Kd.R_base ho0) hb), Aside0.mk (Kd.R_elder' (zs HO329 BK330).out (Kd.R_base ho1) hb), Aside0.mk (Kd.R_lower (Kd.R_new' (Kd.R_new' (Kd.R_new' ho0 (Kd.R_lt (zs HO310 BK330).out)) (Kd.R_lt (zs HO317 BK330).out)) (Kd.R_lt (zs HO326 BK330).out)) (zz HB)), Aside0.mk (Kd.R_lower (Kd.R_new' (Kd.R_new' (Kd.R_new' ho1 (Kd.R_lt (zs HO313 BK330).out)) (Kd.R_lt (zs HO320 BK330).out)) (Kd.R_lt (zs HO329 BK330).out)) (zz HB)), zfb BK305 NB305_330 hb, zfb BK322 NB322_330 hb, Aside0.mk (blk_below (g := gb330) (o := .cells #[.int .i8 t323, .slice Ao52 t324.length co52, .slice Ao53 t327.length co53] 31 (0, 0)) (zp BK330) hb), zbs hb⟩; clear HO310 HO313 HO317 HO320 HO326 HO329 BK305 BK322 BK330 HB; obtain ⟨HO310, HO313, HO317, HO320, HO326, HO329, HO334, HO337, BK305, BK322, BK330, HB⟩ := n_; (try clear hb); (try clear hb2); (try clear hk); (try clear hi); (try clear ho0); (try clear ho1)) | ((with_reducible refine gate_dst (N := 7) rfl ?_); refine zbx 7 #[.int .i8 0, .slice none 0 0, .slice none 0 0] 31 ?_; intro gb339 hg w55 hbox hb; have n_ : _ ∧ _ ∧ _ ∧ _ ∧ _ ∧ _ ∧ _ ∧ _ ∧ _ ∧ _ ∧ _ ∧ _ ∧ _ ∧ _ ∧ _ ∧ _ ∧ _ ∧ _ ∧ _ ∧ _ ∧ _ := ⟨zr HO310 hb, zr HO313 hb, zr HO317 hb, zr HO320 hb, zr HO326 hb, zr HO329 hb, zr HO334 hb, zr HO337 hb, zk BK305 hb, zk BK322 hb, zk BK330 hb, zbs hb, Aside0.mk (hbox), zg HB hg, zg HB hg, zn1 BK305 hg, zn2 BK305 hg, zn1 BK322 hg, zn2 BK322 hg, zn1 BK330 hg, zn2 BK330 hg⟩; clear HO310 HO313 HO317 HO320 HO326 HO329 HO334 HO337 BK305 BK322 BK330 HB; obtain ⟨HO310, HO313, HO317, HO320, HO326, HO329, HO334, HO337, BK305, BK322, BK330, HB, BK339, GW339, GE339, NB305_339, NB339_305, NB322_339, NB339_322, NB330_339, NB339_330⟩ := n_; clear hb hbox hg; have hnb56 := NB339_305.out; have hnc56 := NB305_339.out; have hnb57 := NB339_322.out; have hnc57 := NB322_339.out; have hnb58 := NB339_330.out; have hnc58 := NB330_339.out; obtain ⟨z59_0, z59_1, z59_2, y59_0, y59_1, y59_2⟩ := zB3 BK339; obtain ⟨Ao60, co60, eo60⟩ := Kd.R_slice HO334.out; subst eo60; obtain ⟨Ao61, co61, eo61⟩ := Kd.R_slice HO337.out; subst eo61; obtain ⟨z62_0, z62_1, z62_2, y62_0, y62_1, y62_2⟩ := zB3 BK322) | ((with_reducible refine gate_callee (f := 25) rfl ?_); refine goesL_ (some 34) rfl rfl Try.func25 (by kernel_rfl) rfl #[.agg #[.int .i8 t331, .slice Ao60 t332.length co60, .slice Ao61 t335.length co61], .agg #[.int .i8 t314, .slice Ao44 t315.length co44, .slice Ao45 t318.length co45]] rfl zm ?_; (with_reducible refine (laws_eqNetwork.calls k t331 _ _ t332 _ _ t335 t314 _ _ t315 _ _ t318 true _ ?side1 ?side2 ?side3 ?side4 ?side5 ?side6 ?side7 ?side8 A11.out).mono ?_); (case side1 => exact (Kd.R_reads' (zs HO334 BK339).out).2.2); (case side2 => exact (Kd.R_reads' HO334.out).2.1); (case side3 => exact (Kd.R_reads' (zs HO337 BK339).out).2.2); (case side4 => exact (Kd.R_reads' HO337.out).2.1); (case side5 => exact (Kd.R_reads' (zs HO317 BK339).out).2.2); (case side6 => exact (Kd.R_reads' HO317.out).2.1); (case side7 => exact (Kd.R_reads' (zs HO320 BK339).out).2.2); (case side8 => exact (Kd.R_reads' HO320.out).2.1); rintro e w63 ⟨rfl, hb⟩; refine ⟨_, rfl, ?_⟩; have n_ : _ ∧ _ ∧ _ ∧ _ ∧ _ ∧ _ ∧ _ ∧ _ ∧ _ ∧ _ ∧ _ ∧ _ ∧ _ := ⟨zsb HO310 BK339 hb, zsb HO313 BK339 hb, zsb HO317 BK339 hb, zsb HO320 BK339 hb, zsb HO326 BK339 hb, zsb HO329 BK339 hb, zsb HO334 BK339 hb, zsb HO337 BK339 hb, zfb BK305 NB305_339 hb, zfb BK322 NB322_339 hb, zfb BK330 NB330_339 hb, Aside0.mk (blk_below (g := gb339) (o := .cells #[.int .i8 t331, .slice Ao60 t332.length co60, .slice Ao61 t335.length co61] 31 (0, 0)) (zp BK339) hb), zbs hb⟩; clear HO310 HO313 HO317 HO320 HO326 HO329 HO334 HO337 BK305 BK322 BK330 BK339 HB; obtain ⟨HO310, HO313, HO317, HO320, HO326, HO329, HO334, HO337, BK305, BK322, BK330, BK339, HB⟩ := n_; (try clear hb); (try clear hb2); (try clear hk); (try clear hi)))
 have n_ : _ ∧ _ ∧ _ ∧ _ ∧ _ ∧ _ ∧ _ ∧ _ ∧ _ ∧ _ ∧ _ ∧ _ ∧ _ := ⟨Aside0.mk (Kd.R_drew HO310.out), Aside0.mk (Kd.R_drew HO313.out), Aside0.mk (Kd.R_drew HO317.out), Aside0.mk (Kd.R_drew HO320.out), Aside0.mk (Kd.R_drew HO326.out), Aside0.mk (Kd.R_drew HO329.out), Aside0.mk (Kd.R_drew HO334.out), Aside0.mk (Kd.R_drew HO337.out), Aside0.mk (blk_drew BK305.out), Aside0.mk (blk_drew BK322.out), Aside0.mk (blk_drew BK330.out), Aside0.mk (blk_drew BK339.out), Aside0.mk (below_drew1 HB.out)⟩
 clear HO310 HO313 HO317 HO320 HO326 HO329 HO334 HO337 BK305 BK322 BK330 BK339 HB
 obtain ⟨HO310, HO313, HO317, HO320, HO326, HO329, HO334, HO337, BK305, BK322, BK330, BK339, HB⟩ := n_
 refine start_ (n := 5) (S := fun w' => w'.cell? ⟨gb330, 0, none⟩ = some (.int .i8 t323) ∧ w'.cell? ⟨gb330, 1, none⟩ = some (.slice Ao52 t324.length co52) ∧ w'.cell? ⟨gb330, 2, none⟩ = some (.slice Ao53 t327.length co53) ∧ w'.cell? ⟨gb305, 0, none⟩ = some (.int .i8 a0_0) ∧ w'.cell? ⟨gb305, 1, none⟩ = some (.slice A0_1 l0_1.length c0_1) ∧ w'.cell? ⟨gb305, 2, none⟩ = some (.slice A0_2 l0_2.length c0_2)) (ds := []) #[false, false, false, false, false] (by kernel_rfl) rfl rfl ⟨(blk_cell BK330.out 0).trans rfl, (blk_cell BK330.out 1).trans rfl, (blk_cell BK330.out 2).trans rfl, (blk_cell BK305.out 0).trans rfl, (blk_cell BK305.out 1).trans rfl, (blk_cell BK305.out 2).trans rfl⟩ (fun hHeld => ?_)
 generalize w63.drew = w64 at HO310 HO313 HO317 HO320 HO326 HO329 HO334 HO337 BK305 BK322 BK330 BK339 HB hHeld ⊢
 refine take_ (i := 0) (N := some 41) (v := ?_) (a' := ?_) #[true, false, false, false, false] rfl rfl (by kernel_rfl) (fun _ _ _ h => h) (Or.inl ⟨by rfl, ?_⟩) hHeld ?_ ?_
 rotate_left
 ·rintro w' ⟨s0, s1, s2, s3, s4, s5⟩
  go_simp
  with_reducible rfl
 rotate_left
 ·exact zap
 refine take_ (i := 1) (N := some 42) (v := ?_) (a' := ?_) #[true, true, false, false, false] rfl rfl (by kernel_rfl) (fun _ _ _ h => h) (Or.inl ⟨by rfl, ?_⟩) hHeld ?_ ?_
 rotate_left
 ·rintro w' ⟨s0, s1, s2, s3, s4, s5⟩
  go_simp
  with_reducible rfl
 rotate_left
 ·exact zap
 refine one_ (i := 2) (N := some 43) #[true, true, true, false, false] rfl rfl (by kernel_rfl) (by decide) (fun K hK => ?_)
 refine goes_ Try.func23 (by kernel_rfl) rfl #[.agg #[.int .i8 a0_0, .slice A0_1 l0_1.length c0_1, .slice A0_2 l0_2.length c0_2]] (by rfl) rfl rfl zm ?_
 with_reducible refine (laws_toNetwork.calls k a0_0 _ _ l0_1 _ _ l0_2 t341 t342 t345 _ ?side1 ?side2 ?side3 ?side4 A14.out).mono ?_
 (case side1 => exact zcc HB HR0_1.out)
 (case side2 => exact HC0_1.out)
 (case side3 => exact zcc HB HR0_2.out)
 (case side4 => exact HC0_2.out)
 rintro e w65 ⟨v343, v346, rfl, ho0, ho1, hb⟩
 refine ⟨_, rfl, ?_⟩
 have n_ : _ ∧ _ ∧ _ ∧ _ ∧ _ ∧ _ ∧ _ ∧ _ ∧ _ ∧ _ ∧ _ ∧ _ ∧ _ ∧ _ ∧ _ := ⟨Aside0.mk (Kd.R_elder' (ze HO310).out (Kd.R_base ho0) hb), Aside0.mk (Kd.R_elder' (ze HO313).out (Kd.R_base ho1) hb), Aside0.mk (Kd.R_elder' (ze HO317).out (Kd.R_base ho0) hb), Aside0.mk (Kd.R_elder' (ze HO320).out (Kd.R_base ho1) hb), Aside0.mk (Kd.R_elder' (ze HO326).out (Kd.R_base ho0) hb), Aside0.mk (Kd.R_elder' (ze HO329).out (Kd.R_base ho1) hb), Aside0.mk (Kd.R_elder' (ze HO334).out (Kd.R_base ho0) hb), Aside0.mk (Kd.R_elder' (ze HO337).out (Kd.R_base ho1) hb), Aside0.mk (Kd.R_lower (Kd.R_new' (Kd.R_new' (Kd.R_new' (Kd.R_new' ho0 (Kd.R_lt (ze HO310).out)) (Kd.R_lt (ze HO317).out)) (Kd.R_lt (ze HO326).out)) (Kd.R_lt (ze HO334).out)) (zz HB)), Aside0.mk (Kd.R_lower (Kd.R_new' (Kd.R_new' (Kd.R_new' (Kd.R_new' ho1 (Kd.R_lt (ze HO313).out)) (Kd.R_lt (ze HO320).out)) (Kd.R_lt (ze HO329).out)) (Kd.R_lt (ze HO337).out)) (zz HB)), zk BK305 hb, zk BK322 hb, zk BK330 hb, zk BK339 hb, zbs hb⟩
 clear HO310 HO313 HO317 HO320 HO326 HO329 HO334 HO337 BK305 BK322 BK330 BK339 HB
 obtain ⟨HO310, HO313, HO317, HO320, HO326, HO329, HO334, HO337, HO344, HO347, BK305, BK322, BK330, BK339, HB⟩ := n_
 (try clear hb)
 (try clear hb2)
 (try clear hk)
 (try clear hi)
 (try clear ho0)
 (try clear ho1)
 obtain ⟨Ao66, co66, eo66⟩ := Kd.R_slice HO344.out
 (first | subst eo66 | (injection eo66 with f1_ f2_ f3_; have f4_ := f1_.symm; have f5_ := f3_.symm; clear f1_ f2_ f3_; subst f4_; subst f5_))
 obtain ⟨Ao67, co67, eo67⟩ := Kd.R_slice HO347.out
 (first | subst eo67 | (injection eo67 with f1_ f2_ f3_; have f4_ := f1_.symm; have f5_ := f3_.symm; clear f1_ f2_ f3_; subst f4_; subst f5_))
 refine hK.out _ _ ⟨(blk_cell BK330.out 0).trans rfl, (blk_cell BK330.out 1).trans rfl, (blk_cell BK330.out 2).trans rfl, (blk_cell BK305.out 0).trans rfl, (blk_cell BK305.out 1).trans rfl, (blk_cell BK305.out 2).trans rfl⟩ (fun hHeld => ?_)
 clear hK K
 refine norm_ (a' := ?_) ?_ ?_
 rotate_left
 ·show Act.put _ (some 43) _ = _
  exact zap
 refine one_ (i := 3) (N := some 44) #[true, true, true, true, false] rfl rfl (by kernel_rfl) (by decide) (fun K hK => ?_)
 refine goes_ Try.func25 (by kernel_rfl) rfl #[.agg #[.int .i8 t323, .slice Ao52 t324.length co52, .slice Ao53 t327.length co53], .agg #[.int .i8 t341, .slice Ao66 t342.length co66, .slice Ao67 t345.length co67]] (by rfl) rfl rfl zm ?_
 with_reducible refine (laws_eqNetwork.calls k t323 _ _ t324 _ _ t327 t341 _ _ t342 _ _ t345 true _ ?side1 ?side2 ?side3 ?side4 ?side5 ?side6 ?side7 ?side8 A15.out).mono ?_
 (case side1 => exact zrc HO326)
 (case side2 => exact (Kd.R_reads' HO326.out).2.1)
 (case side3 => exact zrc HO329)
 (case side4 => exact (Kd.R_reads' HO329.out).2.1)
 (case side5 => exact zrc HO344)
 (case side6 => exact (Kd.R_reads' HO344.out).2.1)
 (case side7 => exact zrc HO347)
 (case side8 => exact (Kd.R_reads' HO347.out).2.1)
 rintro e w68 ⟨rfl, hb⟩
 refine ⟨_, rfl, ?_⟩
 have n_ : _ ∧ _ ∧ _ ∧ _ ∧ _ ∧ _ ∧ _ ∧ _ ∧ _ ∧ _ ∧ _ ∧ _ ∧ _ ∧ _ ∧ _ := ⟨zr HO310 hb, zr HO313 hb, zr HO317 hb, zr HO320 hb, zr HO326 hb, zr HO329 hb, zr HO334 hb, zr HO337 hb, zr HO344 hb, zr HO347 hb, zk BK305 hb, zk BK322 hb, zk BK330 hb, zk BK339 hb, zbs hb⟩
 clear HO310 HO313 HO317 HO320 HO326 HO329 HO334 HO337 HO344 HO347 BK305 BK322 BK330 BK339 HB
 obtain ⟨HO310, HO313, HO317, HO320, HO326, HO329, HO334, HO337, HO344, HO347, BK305, BK322, BK330, BK339, HB⟩ := n_
 (try clear hb)
 (try clear hb2)
 (try clear hk)
 (try clear hi)
 refine hK.out _ _ ⟨(blk_cell BK330.out 0).trans rfl, (blk_cell BK330.out 1).trans rfl, (blk_cell BK330.out 2).trans rfl, (blk_cell BK305.out 0).trans rfl, (blk_cell BK305.out 1).trans rfl, (blk_cell BK305.out 2).trans rfl⟩ (fun hHeld => ?_)
 clear hK K
 refine norm_ (a' := ?_) ?_ ?_
 rotate_left
 ·show Act.put _ (some 44) _ = _
  exact zap
 refine pure_ (i := 4) (N := some 45) (v := ?_) (a' := ?_) #[true, true, true, true, true] rfl rfl (by kernel_rfl) (fun _ _ _ h => h) (Or.inl ⟨by rfl, ?_⟩) ?_ ?_
 rotate_left
 ·intro w'
  go_simp
  with_reducible rfl
 rotate_left
 ·exact zap
 refine done_ (by kernel_rfl) ?_
 obtain ⟨z69_0, z69_1, z69_2, y69_0, y69_1, y69_2⟩ := zB3 BK330
 try go_wp2_with (first | ((with_reducible refine gate_callee (f := 48) rfl ?_); refine goesL_ (some 48) rfl rfl Try.func48 (by kernel_rfl) rfl #[.agg #[.int .i8 t323, .slice Ao52 t324.length co52, .slice Ao53 t327.length co53], .int .i64 1] rfl zm ?_; (with_reducible refine (laws_markNetwork.calls k t323 (fun k_ => some k_ = (.slice Ao52 t324.length co52 : Value).ownBlock) (.slice Ao52 t324.length co52) t324 (fun k_ => some k_ = (.slice Ao53 t327.length co53 : Value).ownBlock) (.slice Ao53 t327.length co53) t327 1 t349 t350 t351 w _ ?side1 ?side2 ?side3 A17.out).mono ?_); (case side1 => exact zbo); (case side2 => exact Kd.R_tight rfl HO326.out); (case side3 => exact Kd.R_tight rfl HO329.out); rintro e w70 ⟨rfl, hy0, hy1, hb, hkp⟩; refine ⟨_, rfl, ?_⟩; have n_ : _ ∧ _ ∧ _ ∧ _ ∧ _ ∧ _ ∧ _ ∧ _ ∧ _ ∧ _ ∧ _ ∧ _ ∧ _ ∧ _ ∧ _ := ⟨zkr BK305 hkp (fun hs_ => Or.elim hs_ (fun e_ => (fun e_ => (Kd.R_ne HO326.out BK305.out (by decide)) e_) e_) (fun e_ => (fun e_ => (Kd.R_ne HO329.out BK305.out (by decide)) e_) e_)), Aside0.mk (Kd.R_mono (ok' := fun k_ => some k_ ≠ (.slice Ao44 t315.length co44 : Value).ownBlock ∧ some k_ ≠ (.slice Ao52 t324.length co52 : Value).ownBlock ∧ some k_ ≠ (.slice Ao60 t332.length co60 : Value).ownBlock ∧ some k_ ≠ (.slice Ao66 t342.length co66 : Value).ownBlock) (Kd.R_keptB ((Kd.R_apart' HO310.out (Kd.R_typed HO329.out) (by decide))) hkp (fun k_ hk_ hs_ => Or.elim hs_ (fun e_ => (hk_.1.1.1.2) e_) (fun e_ => (hk_.2) e_))) (fun k_ hk_ => ⟨hk_.1.1.1.1.1.2, hk_.1.1.1.1.2, hk_.1.1.1.2, hk_.1.1.2⟩)), Aside0.mk (Kd.R_mono (ok' := fun k_ => some k_ ≠ (.slice Ao45 t318.length co45 : Value).ownBlock ∧ some k_ ≠ (.slice Ao53 t327.length co53 : Value).ownBlock ∧ some k_ ≠ (.slice Ao61 t335.length co61 : Value).ownBlock ∧ some k_ ≠ (.slice Ao67 t345.length co67 : Value).ownBlock) (Kd.R_keptB ((Kd.R_apart' HO313.out (Kd.R_typed HO326.out) (by decide))) hkp (fun k_ hk_ hs_ => Or.elim hs_ (fun e_ => (hk_.2) e_) (fun e_ => (hk_.1.1.1.2) e_))) (fun k_ hk_ => ⟨hk_.1.1.1.1.1.2, hk_.1.1.1.1.2, hk_.1.1.1.2, hk_.1.1.2⟩)), Aside0.mk (Kd.R_mono (ok' := fun k_ => some k_ ≠ (.slice Ao38 t308.length co38 : Value).ownBlock ∧ some k_ ≠ (.slice Ao52 t324.length co52 : Value).ownBlock ∧ some k_ ≠ (.slice Ao60 t332.length co60 : Value).ownBlock ∧ some k_ ≠ (.slice Ao66 t342.length co66 : Value).ownBlock) (Kd.R_keptB ((Kd.R_apart' HO317.out (Kd.R_typed HO329.out) (by decide))) hkp (fun k_ hk_ hs_ => Or.elim hs_ (fun e_ => (hk_.1.1.1.2) e_) (fun e_ => (hk_.2) e_))) (fun k_ hk_ => ⟨hk_.1.1.1.1.1.2, hk_.1.1.1.1.2, hk_.1.1.1.2, hk_.1.1.2⟩)), Aside0.mk (Kd.R_mono (ok' := fun k_ => some k_ ≠ (.slice Ao39 t311.length co39 : Value).ownBlock ∧ some k_ ≠ (.slice Ao53 t327.length co53 : Value).ownBlock ∧ some k_ ≠ (.slice Ao61 t335.length co61 : Value).ownBlock ∧ some k_ ≠ (.slice Ao67 t345.length co67 : Value).ownBlock) (Kd.R_keptB ((Kd.R_apart' HO320.out (Kd.R_typed HO326.out) (by decide))) hkp (fun k_ hk_ hs_ => Or.elim hs_ (fun e_ => (hk_.2) e_) (fun e_ => (hk_.1.1.1.2) e_))) (fun k_ hk_ => ⟨hk_.1.1.1.1.1.2, hk_.1.1.1.1.2, hk_.1.1.1.2, hk_.1.1.2⟩)), zkr BK322 hkp (fun hs_ => Or.elim hs_ (fun e_ => (fun e_ => (Kd.R_ne HO326.out BK322.out (by decide)) e_) e_) (fun e_ => (fun e_ => (Kd.R_ne HO329.out BK322.out (by decide)) e_) e_)), Aside0.mk (Kd.R_reok rfl hy0 (fun k_ e_ => HO326.out.1 k_ e_)), Aside0.mk (Kd.R_reok rfl hy1 (fun k_ e_ => HO329.out.1 k_ e_)), zkr BK330 hkp (fun hs_ => Or.elim hs_ (fun e_ => (fun e_ => (Kd.R_ne HO326.out BK330.out (by decide)) e_) e_) (fun e_ => (fun e_ => (Kd.R_ne HO329.out BK330.out (by decide)) e_) e_)), Aside0.mk (Kd.R_mono (ok' := fun k_ => some k_ ≠ (.slice Ao38 t308.length co38 : Value).ownBlock ∧ some k_ ≠ (.slice Ao44 t315.length co44 : Value).ownBlock ∧ some k_ ≠ (.slice Ao52 t324.length co52 : Value).ownBlock ∧ some k_ ≠ (.slice Ao66 t342.length co66 : Value).ownBlock) (Kd.R_keptB ((Kd.R_apart' HO334.out (Kd.R_typed HO329.out) (by decide))) hkp (fun k_ hk_ hs_ => Or.elim hs_ (fun e_ => (hk_.1.1.2) e_) (fun e_ => (hk_.2) e_))) (fun k_ hk_ => ⟨hk_.1.1.1.1.1.2, hk_.1.1.1.1.2, hk_.1.1.1.2, hk_.1.1.2⟩)), Aside0.mk (Kd.R_mono (ok' := fun k_ => some k_ ≠ (.slice Ao39 t311.length co39 : Value).ownBlock ∧ some k_ ≠ (.slice Ao45 t318.length co45 : Value).ownBlock ∧ some k_ ≠ (.slice Ao53 t327.length co53 : Value).ownBlock ∧ some k_ ≠ (.slice Ao67 t345.length co67 : Value).ownBlock) (Kd.R_keptB ((Kd.R_apart' HO337.out (Kd.R_typed HO326.out) (by decide))) hkp (fun k_ hk_ hs_ => Or.elim hs_ (fun e_ => (hk_.2) e_) (fun e_ => (hk_.1.1.2) e_))) (fun k_ hk_ => ⟨hk_.1.1.1.1.1.2, hk_.1.1.1.1.2, hk_.1.1.1.2, hk_.1.1.2⟩)), zkr BK339 hkp (fun hs_ => Or.elim hs_ (fun e_ => (fun e_ => (Kd.R_ne HO326.out BK339.out (by decide)) e_) e_) (fun e_ => (fun e_ => (Kd.R_ne HO329.out BK339.out (by decide)) e_) e_)), Aside0.mk (Kd.R_mono (ok' := fun k_ => some k_ ≠ (.slice Ao38 t308.length co38 : Value).ownBlock ∧ some k_ ≠ (.slice Ao44 t315.length co44 : Value).ownBlock ∧ some k_ ≠ (.slice Ao52 t324.length co52 : Value).ownBlock ∧ some k_ ≠ (.slice Ao60 t332.length co60 : Value).ownBlock) (Kd.R_keptB ((Kd.R_apart' HO344.out (Kd.R_typed HO329.out) (by decide))) hkp (fun k_ hk_ hs_ => Or.elim hs_ (fun e_ => (hk_.1.1.2) e_) (fun e_ => (hk_.2) e_))) (fun k_ hk_ => ⟨hk_.1.1.1.1.1.2, hk_.1.1.1.1.2, hk_.1.1.1.2, hk_.1.1.2⟩)), Aside0.mk (Kd.R_mono (ok' := fun k_ => some k_ ≠ (.slice Ao39 t311.length co39 : Value).ownBlock ∧ some k_ ≠ (.slice Ao45 t318.length co45 : Value).ownBlock ∧ some k_ ≠ (.slice Ao53 t327.length co53 : Value).ownBlock ∧ some k_ ≠ (.slice Ao61 t335.length co61 : Value).ownBlock) (Kd.R_keptB ((Kd.R_apart' HO347.out (Kd.R_typed HO326.out) (by decide))) hkp (fun k_ hk_ hs_ => Or.elim hs_ (fun e_ => (hk_.2) e_) (fun e_ => (hk_.1.1.2) e_))) (fun k_ hk_ => ⟨hk_.1.1.1.1.1.2, hk_.1.1.1.1.2, hk_.1.1.1.2, hk_.1.1.2⟩)), Aside0.mk (hb)⟩; clear BK305 HO310 HO313 HO317 HO320 BK322 HO326 HO329 BK330 HO334 HO337 BK339 HO344 HO347 HB; obtain ⟨BK305, HO310, HO313, HO317, HO320, BK322, HO326, HO329, BK330, HO334, HO337, BK339, HO344, HO347, HB⟩ := n_; (try clear hb); (try clear hkp); (try clear hy0); (try clear hy1); obtain ⟨z71_0, z71_1, z71_2, y71_0, y71_1, y71_2⟩ := zB3 BK339; obtain ⟨z72_0, z72_1, z72_2, y72_0, y72_1, y72_2⟩ := zB3 BK322) | (go_at_call 25; (with_reducible refine (laws_eqNetwork.calls k t331 _ _ t332 _ _ t335 t314 _ _ t315 _ _ t318 true _ ?side1 ?side2 ?side3 ?side4 ?side5 ?side6 ?side7 ?side8 A19.out).mono ?_); (case side1 => exact zrc HO334); (case side2 => exact (Kd.R_reads' HO334.out).2.1); (case side3 => exact zrc HO337); (case side4 => exact (Kd.R_reads' HO337.out).2.1); (case side5 => exact zrc HO317); (case side6 => exact (Kd.R_reads' HO317.out).2.1); (case side7 => exact zrc HO320); (case side8 => exact (Kd.R_reads' HO320.out).2.1); rintro e w73 ⟨rfl, hb⟩; have n_ : _ ∧ _ ∧ _ ∧ _ ∧ _ ∧ _ ∧ _ ∧ _ ∧ _ ∧ _ ∧ _ ∧ _ ∧ _ ∧ _ ∧ _ := ⟨zr HO310 hb, zr HO313 hb, zr HO317 hb, zr HO320 hb, zr HO326 hb, zr HO329 hb, zr HO334 hb, zr HO337 hb, zr HO344 hb, zr HO347 hb, zk BK305 hb, zk BK322 hb, zk BK330 hb, zk BK339 hb, zbs hb⟩; clear HO310 HO313 HO317 HO320 HO326 HO329 HO334 HO337 HO344 HO347 BK305 BK322 BK330 BK339 HB; obtain ⟨HO310, HO313, HO317, HO320, HO326, HO329, HO334, HO337, HO344, HO347, BK305, BK322, BK330, BK339, HB⟩ := n_; (try clear hb); (try clear hb2); (try clear hk); (try clear hi); obtain ⟨z74_0, z74_1, z74_2, y74_0, y74_1, y74_2⟩ := zB3 BK339) | ((with_reducible refine gate_callee (f := 48) rfl ?_); refine goesL_ (some 64) rfl rfl Try.func48 (by kernel_rfl) rfl #[.agg #[.int .i8 t331, .slice Ao60 t332.length co60, .slice Ao61 t335.length co61], .int .i64 1] rfl zm ?_; (with_reducible refine (laws_markNetwork.calls k t331 (fun k_ => some k_ = (.slice Ao60 t332.length co60 : Value).ownBlock) (.slice Ao60 t332.length co60) t332 (fun k_ => some k_ = (.slice Ao61 t335.length co61 : Value).ownBlock) (.slice Ao61 t335.length co61) t335 1 t353 t354 t355 w _ ?side1 ?side2 ?side3 A21.out).mono ?_); (case side1 => exact zbo); (case side2 => exact Kd.R_tight rfl HO334.out); (case side3 => exact Kd.R_tight rfl HO337.out); rintro e w75 ⟨rfl, hy0, hy1, hb, hkp⟩; refine ⟨_, rfl, ?_⟩; have n_ : _ ∧ _ ∧ _ ∧ _ ∧ _ ∧ _ ∧ _ ∧ _ ∧ _ ∧ _ ∧ _ ∧ _ ∧ _ ∧ _ ∧ _ := ⟨zkr BK305 hkp (fun hs_ => Or.elim hs_ (fun e_ => (fun e_ => (Kd.R_ne HO334.out BK305.out (by decide)) e_) e_) (fun e_ => (fun e_ => (Kd.R_ne HO337.out BK305.out (by decide)) e_) e_)), Aside0.mk (Kd.R_mono (ok' := fun k_ => some k_ ≠ (.slice Ao44 t315.length co44 : Value).ownBlock ∧ some k_ ≠ (.slice Ao52 t324.length co52 : Value).ownBlock ∧ some k_ ≠ (.slice Ao60 t332.length co60 : Value).ownBlock ∧ some k_ ≠ (.slice Ao66 t342.length co66 : Value).ownBlock) (Kd.R_keptB ((Kd.R_apart' HO310.out (Kd.R_typed HO337.out) (by decide))) hkp (fun k_ hk_ hs_ => Or.elim hs_ (fun e_ => (hk_.1.2.2.1) e_) (fun e_ => (hk_.2) e_))) (fun k_ hk_ => ⟨hk_.1.1.1, hk_.1.1.2.1, hk_.1.1.2.2.1, hk_.1.1.2.2.2⟩)), Aside0.mk (Kd.R_mono (ok' := fun k_ => some k_ ≠ (.slice Ao45 t318.length co45 : Value).ownBlock ∧ some k_ ≠ (.slice Ao53 t327.length co53 : Value).ownBlock ∧ some k_ ≠ (.slice Ao61 t335.length co61 : Value).ownBlock ∧ some k_ ≠ (.slice Ao67 t345.length co67 : Value).ownBlock) (Kd.R_keptB ((Kd.R_apart' HO313.out (Kd.R_typed HO334.out) (by decide))) hkp (fun k_ hk_ hs_ => Or.elim hs_ (fun e_ => (hk_.2) e_) (fun e_ => (hk_.1.2.2.1) e_))) (fun k_ hk_ => ⟨hk_.1.1.1, hk_.1.1.2.1, hk_.1.1.2.2.1, hk_.1.1.2.2.2⟩)), Aside0.mk (Kd.R_mono (ok' := fun k_ => some k_ ≠ (.slice Ao38 t308.length co38 : Value).ownBlock ∧ some k_ ≠ (.slice Ao52 t324.length co52 : Value).ownBlock ∧ some k_ ≠ (.slice Ao60 t332.length co60 : Value).ownBlock ∧ some k_ ≠ (.slice Ao66 t342.length co66 : Value).ownBlock) (Kd.R_keptB ((Kd.R_apart' HO317.out (Kd.R_typed HO337.out) (by decide))) hkp (fun k_ hk_ hs_ => Or.elim hs_ (fun e_ => (hk_.1.2.2.1) e_) (fun e_ => (hk_.2) e_))) (fun k_ hk_ => ⟨hk_.1.1.1, hk_.1.1.2.1, hk_.1.1.2.2.1, hk_.1.1.2.2.2⟩)), Aside0.mk (Kd.R_mono (ok' := fun k_ => some k_ ≠ (.slice Ao39 t311.length co39 : Value).ownBlock ∧ some k_ ≠ (.slice Ao53 t327.length co53 : Value).ownBlock ∧ some k_ ≠ (.slice Ao61 t335.length co61 : Value).ownBlock ∧ some k_ ≠ (.slice Ao67 t345.length co67 : Value).ownBlock) (Kd.R_keptB ((Kd.R_apart' HO320.out (Kd.R_typed HO334.out) (by decide))) hkp (fun k_ hk_ hs_ => Or.elim hs_ (fun e_ => (hk_.2) e_) (fun e_ => (hk_.1.2.2.1) e_))) (fun k_ hk_ => ⟨hk_.1.1.1, hk_.1.1.2.1, hk_.1.1.2.2.1, hk_.1.1.2.2.2⟩)), zkr BK322 hkp (fun hs_ => Or.elim hs_ (fun e_ => (fun e_ => (Kd.R_ne HO334.out BK322.out (by decide)) e_) e_) (fun e_ => (fun e_ => (Kd.R_ne HO337.out BK322.out (by decide)) e_) e_)), Aside0.mk (Kd.R_mono (ok' := fun k_ => some k_ ≠ (.slice Ao38 t308.length co38 : Value).ownBlock ∧ some k_ ≠ (.slice Ao44 t315.length co44 : Value).ownBlock ∧ some k_ ≠ (.slice Ao60 t332.length co60 : Value).ownBlock ∧ some k_ ≠ (.slice Ao66 t342.length co66 : Value).ownBlock) (Kd.R_keptB ((Kd.R_apart' HO326.out (Kd.R_typed HO337.out) (by decide))) hkp (fun k_ hk_ hs_ => Or.elim hs_ (fun e_ => (hk_.1.1.2) e_) (fun e_ => (hk_.2) e_))) (fun k_ hk_ => ⟨hk_.1.1.1.1.1.2, hk_.1.1.1.1.2, hk_.1.1.1.2, hk_.1.1.2⟩)), Aside0.mk (Kd.R_mono (ok' := fun k_ => some k_ ≠ (.slice Ao39 t311.length co39 : Value).ownBlock ∧ some k_ ≠ (.slice Ao45 t318.length co45 : Value).ownBlock ∧ some k_ ≠ (.slice Ao61 t335.length co61 : Value).ownBlock ∧ some k_ ≠ (.slice Ao67 t345.length co67 : Value).ownBlock) (Kd.R_keptB ((Kd.R_apart' HO329.out (Kd.R_typed HO334.out) (by decide))) hkp (fun k_ hk_ hs_ => Or.elim hs_ (fun e_ => (hk_.2) e_) (fun e_ => (hk_.1.1.2) e_))) (fun k_ hk_ => ⟨hk_.1.1.1.1.1.2, hk_.1.1.1.1.2, hk_.1.1.1.2, hk_.1.1.2⟩)), zkr BK330 hkp (fun hs_ => Or.elim hs_ (fun e_ => (fun e_ => (Kd.R_ne HO334.out BK330.out (by decide)) e_) e_) (fun e_ => (fun e_ => (Kd.R_ne HO337.out BK330.out (by decide)) e_) e_)), Aside0.mk (Kd.R_reok rfl hy0 (fun k_ e_ => HO334.out.1 k_ e_)), Aside0.mk (Kd.R_reok rfl hy1 (fun k_ e_ => HO337.out.1 k_ e_)), zkr BK339 hkp (fun hs_ => Or.elim hs_ (fun e_ => (fun e_ => (Kd.R_ne HO334.out BK339.out (by decide)) e_) e_) (fun e_ => (fun e_ => (Kd.R_ne HO337.out BK339.out (by decide)) e_) e_)), Aside0.mk (Kd.R_mono (ok' := fun k_ => some k_ ≠ (.slice Ao38 t308.length co38 : Value).ownBlock ∧ some k_ ≠ (.slice Ao44 t315.length co44 : Value).ownBlock ∧ some k_ ≠ (.slice Ao52 t324.length co52 : Value).ownBlock ∧ some k_ ≠ (.slice Ao60 t332.length co60 : Value).ownBlock) (Kd.R_keptB ((Kd.R_apart' HO344.out (Kd.R_typed HO337.out) (by decide))) hkp (fun k_ hk_ hs_ => Or.elim hs_ (fun e_ => (hk_.1.2.2.2) e_) (fun e_ => (hk_.2) e_))) (fun k_ hk_ => ⟨hk_.1.1.1, hk_.1.1.2.1, hk_.1.1.2.2.1, hk_.1.1.2.2.2⟩)), Aside0.mk (Kd.R_mono (ok' := fun k_ => some k_ ≠ (.slice Ao39 t311.length co39 : Value).ownBlock ∧ some k_ ≠ (.slice Ao45 t318.length co45 : Value).ownBlock ∧ some k_ ≠ (.slice Ao53 t327.length co53 : Value).ownBlock ∧ some k_ ≠ (.slice Ao61 t335.length co61 : Value).ownBlock) (Kd.R_keptB ((Kd.R_apart' HO347.out (Kd.R_typed HO334.out) (by decide))) hkp (fun k_ hk_ hs_ => Or.elim hs_ (fun e_ => (hk_.2) e_) (fun e_ => (hk_.1.2.2.2) e_))) (fun k_ hk_ => ⟨hk_.1.1.1, hk_.1.1.2.1, hk_.1.1.2.2.1, hk_.1.1.2.2.2⟩)), Aside0.mk (hb)⟩; clear BK305 HO310 HO313 HO317 HO320 BK322 HO326 HO329 BK330 HO334 HO337 BK339 HO344 HO347 HB; obtain ⟨BK305, HO310, HO313, HO317, HO320, BK322, HO326, HO329, BK330, HO334, HO337, BK339, HO344, HO347, HB⟩ := n_; (try clear hb); (try clear hkp); (try clear hy0); (try clear hy1); obtain ⟨z76_0, z76_1, z76_2, y76_0, y76_1, y76_2⟩ := zB3 BK339) | ((with_reducible refine gate_callee (f := 55) rfl ?_); refine goesL_ (some 67) rfl rfl Try.func55 (by kernel_rfl) rfl #[.agg #[.int .i8 t331, .slice Ao60 t354.length co60, .slice Ao61 t355.length co61], .int .i64 1] rfl (by (try simp only [List.map_toArray, List.map_cons, List.map_nil]); first | done | (rw [show t354.length = t332.length from (Kd.R_reads' HO334.out).1.symm, show t355.length = t335.length from (Kd.R_reads' HO337.out).1.symm] <;> rfl) | rfl | (simp only [List.length_drop, List.length_take]; rfl)) ?_; (with_reducible refine (laws_heldNetwork.calls k t331 _ _ t354 _ _ t355 1 t356 _ ?side1 ?side2 ?side3 ?side4 A22.out).mono ?_); (case side1 => exact zrc HO334); (case side2 => rw [show t354.length = t332.length from (Kd.R_reads' HO334.out).1.symm]; exact (Kd.R_reads' HO334.out).2.1); (case side3 => exact zrc HO337); (case side4 => rw [show t355.length = t335.length from (Kd.R_reads' HO337.out).1.symm]; exact (Kd.R_reads' HO337.out).2.1); rintro e w77 ⟨rfl, hb⟩; refine ⟨_, rfl, ?_⟩; have n_ : _ ∧ _ ∧ _ ∧ _ ∧ _ ∧ _ ∧ _ ∧ _ ∧ _ ∧ _ ∧ _ ∧ _ ∧ _ ∧ _ ∧ _ := ⟨zr HO310 hb, zr HO313 hb, zr HO317 hb, zr HO320 hb, zr HO326 hb, zr HO329 hb, zr HO334 hb, zr HO337 hb, zr HO344 hb, zr HO347 hb, zk BK305 hb, zk BK322 hb, zk BK330 hb, zk BK339 hb, zbs hb⟩; clear HO310 HO313 HO317 HO320 HO326 HO329 HO334 HO337 HO344 HO347 BK305 BK322 BK330 BK339 HB; obtain ⟨HO310, HO313, HO317, HO320, HO326, HO329, HO334, HO337, HO344, HO347, BK305, BK322, BK330, BK339, HB⟩ := n_; (try clear hb); (try clear hb2); (try clear hk); (try clear hi); obtain ⟨z78_0, z78_1, z78_2, y78_0, y78_1, y78_2⟩ := zB3 BK305) | ((with_reducible refine gate_callee (f := 23) rfl ?_); refine goesL_ (some 75) rfl rfl Try.func23 (by kernel_rfl) rfl #[.agg #[.int .i8 a0_0, .slice A0_1 l0_1.length c0_1, .slice A0_2 l0_2.length c0_2]] rfl zm ?_; (with_reducible refine (laws_toNetwork.calls k a0_0 _ _ l0_1 _ _ l0_2 t357 t358 t361 _ ?side1 ?side2 ?side3 ?side4 A25.out).mono ?_); (case side1 => exact zcc HB HR0_1.out); (case side2 => exact HC0_1.out); (case side3 => exact zcc HB HR0_2.out); (case side4 => exact HC0_2.out); rintro e w79 ⟨v359, v362, rfl, ho0, ho1, hb⟩; refine ⟨_, rfl, ?_⟩; have n_ : _ ∧ _ ∧ _ ∧ _ ∧ _ ∧ _ ∧ _ ∧ _ ∧ _ ∧ _ ∧ _ ∧ _ ∧ _ ∧ _ ∧ _ ∧ _ ∧ _ := ⟨Aside0.mk (Kd.R_elder' (ze HO310).out (Kd.R_base ho0) hb), Aside0.mk (Kd.R_elder' (ze HO313).out (Kd.R_base ho1) hb), Aside0.mk (Kd.R_elder' (ze HO317).out (Kd.R_base ho0) hb), Aside0.mk (Kd.R_elder' (ze HO320).out (Kd.R_base ho1) hb), Aside0.mk (Kd.R_elder' (ze HO326).out (Kd.R_base ho0) hb), Aside0.mk (Kd.R_elder' (ze HO329).out (Kd.R_base ho1) hb), Aside0.mk (Kd.R_elder' (ze HO334).out (Kd.R_base ho0) hb), Aside0.mk (Kd.R_elder' (ze HO337).out (Kd.R_base ho1) hb), Aside0.mk (Kd.R_elder' (ze HO344).out (Kd.R_base ho0) hb), Aside0.mk (Kd.R_elder' (ze HO347).out (Kd.R_base ho1) hb), Aside0.mk (Kd.R_lower (Kd.R_new' (Kd.R_new' (Kd.R_new' (Kd.R_new' (Kd.R_new' ho0 (Kd.R_lt (ze HO310).out)) (Kd.R_lt (ze HO317).out)) (Kd.R_lt (ze HO326).out)) (Kd.R_lt (ze HO334).out)) (Kd.R_lt (ze HO344).out)) (zz HB)), Aside0.mk (Kd.R_lower (Kd.R_new' (Kd.R_new' (Kd.R_new' (Kd.R_new' (Kd.R_new' ho1 (Kd.R_lt (ze HO313).out)) (Kd.R_lt (ze HO320).out)) (Kd.R_lt (ze HO329).out)) (Kd.R_lt (ze HO337).out)) (Kd.R_lt (ze HO347).out)) (zz HB)), zk BK305 hb, zk BK322 hb, zk BK330 hb, zk BK339 hb, zbs hb⟩; clear HO310 HO313 HO317 HO320 HO326 HO329 HO334 HO337 HO344 HO347 BK305 BK322 BK330 BK339 HB; obtain ⟨HO310, HO313, HO317, HO320, HO326, HO329, HO334, HO337, HO344, HO347, HO360, HO363, BK305, BK322, BK330, BK339, HB⟩ := n_; (try clear hb); (try clear hb2); (try clear hk); (try clear hi); (try clear ho0); (try clear ho1); obtain ⟨Ao80, co80, eo80⟩ := Kd.R_slice HO360.out; subst eo80; obtain ⟨Ao81, co81, eo81⟩ := Kd.R_slice HO363.out; subst eo81) | ((with_reducible refine gate_callee (f := 54) rfl ?_); refine goesL_ (some 76) rfl rfl Try.func54 (by kernel_rfl) rfl #[.agg #[.int .i8 t357, .slice Ao80 t358.length co80, .slice Ao81 t361.length co81]] rfl zm ?_; (with_reducible refine (impl_TrimNetwork.calls k t357 _ _ t358 _ _ t361 t364 t365 t368 t371 _ ?side1 ?side2 ?side3 ?side4 A26.out).mono ?_); (case side1 => exact zrc HO360); (case side2 => exact (Kd.R_reads' HO360.out).2.1); (case side3 => exact zrc HO363); (case side4 => exact (Kd.R_reads' HO363.out).2.1); rintro e w82 ⟨v366, v369, rfl, ho0, ho1, hb⟩; refine ⟨_, rfl, ?_⟩; have n_ : _ ∧ _ ∧ _ ∧ _ ∧ _ ∧ _ ∧ _ ∧ _ ∧ _ ∧ _ ∧ _ ∧ _ ∧ _ ∧ _ ∧ _ ∧ _ ∧ _ ∧ _ ∧ _ := ⟨Aside0.mk (Kd.R_elder' (ze HO310).out (Kd.R_base ho0) hb), Aside0.mk (Kd.R_elder' (ze HO313).out (Kd.R_base ho1) hb), Aside0.mk (Kd.R_elder' (ze HO317).out (Kd.R_base ho0) hb), Aside0.mk (Kd.R_elder' (ze HO320).out (Kd.R_base ho1) hb), Aside0.mk (Kd.R_elder' (ze HO326).out (Kd.R_base ho0) hb), Aside0.mk (Kd.R_elder' (ze HO329).out (Kd.R_base ho1) hb), Aside0.mk (Kd.R_elder' (ze HO334).out (Kd.R_base ho0) hb), Aside0.mk (Kd.R_elder' (ze HO337).out (Kd.R_base ho1) hb), Aside0.mk (Kd.R_elder' (ze HO344).out (Kd.R_base ho0) hb), Aside0.mk (Kd.R_elder' (ze HO347).out (Kd.R_base ho1) hb), Aside0.mk (Kd.R_elder' (ze HO360).out (Kd.R_base ho0) hb), Aside0.mk (Kd.R_elder' (ze HO363).out (Kd.R_base ho1) hb), Aside0.mk (Kd.R_lower (Kd.R_new' (Kd.R_new' (Kd.R_new' (Kd.R_new' (Kd.R_new' (Kd.R_new' ho0 (Kd.R_lt (ze HO310).out)) (Kd.R_lt (ze HO317).out)) (Kd.R_lt (ze HO326).out)) (Kd.R_lt (ze HO334).out)) (Kd.R_lt (ze HO344).out)) (Kd.R_lt (ze HO360).out)) (zz HB)), Aside0.mk (Kd.R_lower (Kd.R_new' (Kd.R_new' (Kd.R_new' (Kd.R_new' (Kd.R_new' (Kd.R_new' ho1 (Kd.R_lt (ze HO313).out)) (Kd.R_lt (ze HO320).out)) (Kd.R_lt (ze HO329).out)) (Kd.R_lt (ze HO337).out)) (Kd.R_lt (ze HO347).out)) (Kd.R_lt (ze HO363).out)) (zz HB)), zk BK305 hb, zk BK322 hb, zk BK330 hb, zk BK339 hb, zbs hb⟩; clear HO310 HO313 HO317 HO320 HO326 HO329 HO334 HO337 HO344 HO347 HO360 HO363 BK305 BK322 BK330 BK339 HB; obtain ⟨HO310, HO313, HO317, HO320, HO326, HO329, HO334, HO337, HO344, HO347, HO360, HO363, HO367, HO370, BK305, BK322, BK330, BK339, HB⟩ := n_; (try clear hb); (try clear hb2); (try clear hk); (try clear hi); (try clear ho0); (try clear ho1)) | ((with_reducible refine gate_dst (N := 12) rfl ?_); refine zbx 12 #[.int .i8 0, .slice none 0 0, .slice none 0 0] 31 ?_; intro gb372 hg w83 hbox hb; have n_ : _ ∧ _ ∧ _ ∧ _ ∧ _ ∧ _ ∧ _ ∧ _ ∧ _ ∧ _ ∧ _ ∧ _ ∧ _ ∧ _ ∧ _ ∧ _ ∧ _ ∧ _ ∧ _ ∧ _ ∧ _ ∧ _ ∧ _ ∧ _ ∧ _ ∧ _ ∧ _ ∧ _ ∧ _ ∧ _ := ⟨zr HO310 hb, zr HO313 hb, zr HO317 hb, zr HO320 hb, zr HO326 hb, zr HO329 hb, zr HO334 hb, zr HO337 hb, zr HO344 hb, zr HO347 hb, zr HO360 hb, zr HO363 hb, zr HO367 hb, zr HO370 hb, zk BK305 hb, zk BK322 hb, zk BK330 hb, zk BK339 hb, zbs hb, Aside0.mk (hbox), zg HB hg, zg HB hg, zn1 BK305 hg, zn2 BK305 hg, zn1 BK322 hg, zn2 BK322 hg, zn1 BK330 hg, zn2 BK330 hg, zn1 BK339 hg, zn2 BK339 hg⟩; clear HO310 HO313 HO317 HO320 HO326 HO329 HO334 HO337 HO344 HO347 HO360 HO363 HO367 HO370 BK305 BK322 BK330 BK339 HB; obtain ⟨HO310, HO313, HO317, HO320, HO326, HO329, HO334, HO337, HO344, HO347, HO360, HO363, HO367, HO370, BK305, BK322, BK330, BK339, HB, BK372, GW372, GE372, NB305_372, NB372_305, NB322_372, NB372_322, NB330_372, NB372_330, NB339_372, NB372_339⟩ := n_; clear hb hbox hg; have hnb84 := NB372_305.out; have hnc84 := NB305_372.out; have hnb85 := NB372_322.out; have hnc85 := NB322_372.out; have hnb86 := NB372_330.out; have hnc86 := NB330_372.out; have hnb87 := NB372_339.out; have hnc87 := NB339_372.out; obtain ⟨z88_0, z88_1, z88_2, y88_0, y88_1, y88_2⟩ := zB3 BK372; obtain ⟨Ao89, co89, eo89⟩ := Kd.R_slice HO367.out; subst eo89; obtain ⟨Ao90, co90, eo90⟩ := Kd.R_slice HO370.out; subst eo90; obtain ⟨z91_0, z91_1, z91_2, y91_0, y91_1, y91_2⟩ := zB3 BK322) | ((with_reducible refine gate_callee (f := 25) rfl ?_); refine goesL_ (some 81) rfl rfl Try.func25 (by kernel_rfl) rfl #[.agg #[.int .i8 t364, .slice Ao89 t365.length co89, .slice Ao90 t368.length co90], .agg #[.int .i8 t314, .slice Ao44 t315.length co44, .slice Ao45 t318.length co45]] rfl zm ?_; (with_reducible refine (laws_eqNetwork.calls k t364 _ _ t365 _ _ t368 t314 _ _ t315 _ _ t318 true _ ?side1 ?side2 ?side3 ?side4 ?side5 ?side6 ?side7 ?side8 A27.out).mono ?_); (case side1 => exact (Kd.R_reads' (zs HO367 BK372).out).2.2); (case side2 => exact (Kd.R_reads' HO367.out).2.1); (case side3 => exact (Kd.R_reads' (zs HO370 BK372).out).2.2); (case side4 => exact (Kd.R_reads' HO370.out).2.1); (case side5 => exact (Kd.R_reads' (zs HO317 BK372).out).2.2); (case side6 => exact (Kd.R_reads' HO317.out).2.1); (case side7 => exact (Kd.R_reads' (zs HO320 BK372).out).2.2); (case side8 => exact (Kd.R_reads' HO320.out).2.1); rintro e w92 ⟨rfl, hb⟩; refine ⟨_, rfl, ?_⟩; have n_ : _ ∧ _ ∧ _ ∧ _ ∧ _ ∧ _ ∧ _ ∧ _ ∧ _ ∧ _ ∧ _ ∧ _ ∧ _ ∧ _ ∧ _ ∧ _ ∧ _ ∧ _ ∧ _ ∧ _ := ⟨zsb HO310 BK372 hb, zsb HO313 BK372 hb, zsb HO317 BK372 hb, zsb HO320 BK372 hb, zsb HO326 BK372 hb, zsb HO329 BK372 hb, zsb HO334 BK372 hb, zsb HO337 BK372 hb, zsb HO344 BK372 hb, zsb HO347 BK372 hb, zsb HO360 BK372 hb, zsb HO363 BK372 hb, zsb HO367 BK372 hb, zsb HO370 BK372 hb, zfb BK305 NB305_372 hb, zfb BK322 NB322_372 hb, zfb BK330 NB330_372 hb, zfb BK339 NB339_372 hb, Aside0.mk (blk_below (g := gb372) (o := .cells #[.int .i8 t364, .slice Ao89 t365.length co89, .slice Ao90 t368.length co90] 31 (0, 0)) (zp BK372) hb), zbs hb⟩; clear HO310 HO313 HO317 HO320 HO326 HO329 HO334 HO337 HO344 HO347 HO360 HO363 HO367 HO370 BK305 BK322 BK330 BK339 BK372 HB; obtain ⟨HO310, HO313, HO317, HO320, HO326, HO329, HO334, HO337, HO344, HO347, HO360, HO363, HO367, HO370, BK305, BK322, BK330, BK339, BK372, HB⟩ := n_; (try clear hb); (try clear hb2); (try clear hk); (try clear hi); obtain ⟨z93_0, z93_1, z93_2, y93_0, y93_1, y93_2⟩ := zB3 BK339) | ((with_reducible refine gate_callee (f := 55) rfl ?_); refine goesL_ (some 90) rfl rfl Try.func55 (by kernel_rfl) rfl #[.agg #[.int .i8 t331, .slice Ao60 t354.length co60, .slice Ao61 t355.length co61], .int .i64 1] rfl (by (try simp only [List.map_toArray, List.map_cons, List.map_nil]); first | done | (rw [show t354.length = t332.length from (Kd.R_reads' HO334.out).1.symm, show t355.length = t335.length from (Kd.R_reads' HO337.out).1.symm] <;> rfl) | rfl | (simp only [List.length_drop, List.length_take]; rfl)) ?_; (with_reducible refine (laws_heldNetwork.calls k t331 _ _ t354 _ _ t355 1 t374 _ ?side1 ?side2 ?side3 ?side4 A30.out).mono ?_); (case side1 => exact zrc HO334); (case side2 => rw [show t354.length = t332.length from (Kd.R_reads' HO334.out).1.symm]; exact (Kd.R_reads' HO334.out).2.1); (case side3 => exact zrc HO337); (case side4 => rw [show t355.length = t335.length from (Kd.R_reads' HO337.out).1.symm]; exact (Kd.R_reads' HO337.out).2.1); rintro e w94 ⟨rfl, hb⟩; refine ⟨_, rfl, ?_⟩; have n_ : _ ∧ _ ∧ _ ∧ _ ∧ _ ∧ _ ∧ _ ∧ _ ∧ _ ∧ _ ∧ _ ∧ _ ∧ _ ∧ _ ∧ _ ∧ _ ∧ _ ∧ _ ∧ _ ∧ _ := ⟨zr HO310 hb, zr HO313 hb, zr HO317 hb, zr HO320 hb, zr HO326 hb, zr HO329 hb, zr HO334 hb, zr HO337 hb, zr HO344 hb, zr HO347 hb, zr HO360 hb, zr HO363 hb, zr HO367 hb, zr HO370 hb, zk BK305 hb, zk BK322 hb, zk BK330 hb, zk BK339 hb, zk BK372 hb, zbs hb⟩; clear HO310 HO313 HO317 HO320 HO326 HO329 HO334 HO337 HO344 HO347 HO360 HO363 HO367 HO370 BK305 BK322 BK330 BK339 BK372 HB; obtain ⟨HO310, HO313, HO317, HO320, HO326, HO329, HO334, HO337, HO344, HO347, HO360, HO363, HO367, HO370, BK305, BK322, BK330, BK339, BK372, HB⟩ := n_; (try clear hb); (try clear hb2); (try clear hk); (try clear hi)))
 go_ret
 exact ⟨zv, zbo⟩
end Go.Proofs.Ytmpmanfoiocfgaa.PFnExactTrimNetwork
