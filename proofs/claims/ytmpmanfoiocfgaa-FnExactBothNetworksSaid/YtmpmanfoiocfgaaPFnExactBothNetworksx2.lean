-- WRITTEN by xprint.py, a program of this session's. Not trusted: Lean checks it.
-- packed by pack.py
import Derived.Test.YtmpmanfoiocfgaaPFnExactBothNetworksx0
import Derived.Test.YtmpmanfoiocfgaaPFnExactBothNetworksx1
import Derived.Test.YtmpmanfoiocfgaaTFnExactBothNetworksa
namespace Go.Proofs.Ytmpmanfoiocfgaa.PFnExactBothNetworks
open Go.RowKit Go.Proofs.YtmpmanfoiocfgaaW.PrintWords Go.Proofs.YtmpmanfoiocfgaaW.PrintLast Go.Proofs.YtmpmanfoiocfgaaW.PrintMore Go.Proofs.YtmpmanfoiocfgaaX
attribute [local go_sem] max2_int min2_int max_two min_two max_three min_three max_four min_four   -- for this text's walks alone
set_option maxHeartbeats 8000000
set_option maxRecDepth 100000
set_option linter.unusedVariables false
set_option linter.unusedSimpArgs false

def laws_eqInt16S.l0 : Nat → List Int → List Int → Int → Option (Bool)
  | 0, _, _, _ => none
  | k + 1, x0, x1, x5 => if x5 < (x0.length : Int) then (if 0 ≤ x5 then (if x5 < (x1.length : Int) then (if (rd x0 x5) = (rd x1 x5) then (laws_eqInt16S.l0 k x0 x1 (wrap64 (x5 + 1))) else (some false)) else (none)) else (none)) else (some true)
def laws_eqInt16S.f (k : Nat) (l0 : List Int) (l1 : List Int) : Option (Bool) := if (l0.length : Int) = (l1.length : Int) then (laws_eqInt16S.l0 k l0 l1 0) else (some false)
theorem laws_eqInt16S.mono_l : ∀ k, (∀ y0 y1 y2, LeO (laws_eqInt16S.l0 k y0 y1 y2) (laws_eqInt16S.l0 (k + 1) y0 y1 y2))
  | 0 => fun _ _ _ r h => by simp [laws_eqInt16S.l0] at h
  | k + 1 => by
    have ih0 := laws_eqInt16S.mono_l k
    · intro y0 y1 y2
      unfold laws_eqInt16S.l0
      repeat' first | (with_reducible first | apply ih0 | exact LeO.refl _ | exact LeO.none _ | refine LeO.ite ?_ ?_ | refine LeO.bind ?_ (fun _ => ?_)) | apply ih0 | exact LeO.none _ | refine LeO.ite ?_ ?_ | refine LeO.bind ?_ (fun _ => ?_)
theorem laws_eqInt16S.mono : ∀ a0 a1 k, LeO (laws_eqInt16S.f k a0 a1) (laws_eqInt16S.f (k + 1) a0 a1) := by
 intro a0 a1 k
 have ih0 := laws_eqInt16S.mono_l k
 unfold laws_eqInt16S.f
 repeat' first | (with_reducible first | apply ih0 | exact LeO.refl _ | exact LeO.none _ | refine LeO.ite ?_ ?_ | refine LeO.bind ?_ (fun _ => ?_)) | apply ih0 | exact LeO.none _ | refine LeO.ite ?_ ?_ | refine LeO.bind ?_ (fun _ => ?_)
theorem laws_eqInt16S.calls (k : Nat) (A0 : Option Addr) (c0 : Nat) (l0 : List Int) (A1 : Option Addr) (c1 : Nat) (l1 : List Int) (r : Bool) (w : World) (hr0 : Kd.C (Kd.int .i16) w A0 l0.length l0) (hc0 : l0.length ≤ c0) (hr1 : Kd.C (Kd.int .i16) w A1 l1.length l1) (hc1 : l1.length ≤ c1) (h : laws_eqInt16S.f k l0 l1 = some r) :
    Calls Try.prog 80 #[.slice A0 l0.length c0, .slice A1 l1.length c1] w fun e w' => e = .returned (.bool r) ∧ Drawn0 w w' := by
 have HR0 := Aside0.mk hr0
 have HC0 := Aside0.mk hc0
 clear hr0 hc0
 have HR1 := Aside0.mk hr1
 have HC1 := Aside0.mk hc1
 clear hr1 hc1
 have H : (if (l0.length : Int) = (l1.length : Int) then (laws_eqInt16S.l0 k l0 l1 0) else (some false)) = some r := h
 clear h
 by_cases c3 : (l0.length : Int) = (l1.length : Int)
 rotate_left
 ·rw [if_neg c3] at H
  have c3b0 : ((l0.length : Int) == (l1.length : Int)) = false := beq_eq_false_iff_ne.mpr c3
  have c3b1 : ((l0.length : Int) != (l1.length : Int)) = true := bne_iff_ne.mpr c3
  have c3b2 : (l0.length == l1.length) = false := by first | simpa using c3 | (simp at c3 ⊢; omega)
  obtain rfl := Option.some.inj H
  go_enter Try.func80, Try.ntmps80
  go_wp2
  repeat (go_quiet (fail); try go_wp2)
  go_ret
  exact ⟨zi, zdr⟩
 rw [if_pos c3] at H
 have c3b0 : ((l0.length : Int) == (l1.length : Int)) = true := beq_iff_eq.mpr c3
 have c3b1 : ((l0.length : Int) != (l1.length : Int)) = false := bne_eq_false_iff_eq.mpr c3
 have c3b2 : (l0.length == l1.length) = true := by first | simpa using c3 | (simp at c3 ⊢; omega)
 clear c3
 have H' := Aside0.mk H
 clear H
 go_enter Try.func80, Try.ntmps80
 go_wp2
 repeat (go_quiet (fail); try go_wp2)
 go_loopg [5] k (fun kq v5 w' => ∃ (x5_1 : Int), v5 = .int .i64 x5_1 ∧ Aside0 (laws_eqInt16S.l0 kq l0 l1 x5_1 = some r) ∧ Aside0 (kq ≤ k) ∧ Drawn0 w w')
 case atStart => exact ⟨(0), zi, H', ⟨Nat.le_refl _⟩, zdr⟩
 clear H'
 try clear c1
 try clear p2
 try clear c3
 try clear c3b0
 try clear c3b1
 try clear c3b2
 obtain ⟨x5_1, rfl, HA, HK1, ⟨m1, rfl⟩⟩ := hrel
 cases gk with
 | zero => exact absurd HA.out (by simp [laws_eqInt16S.l0])
 | succ k1 => ?_
 have H := HA.out
 clear HA
 simp only [laws_eqInt16S.l0] at H
 by_cases c4 : x5_1 < (l0.length : Int)
 rotate_left
 ·rw [if_neg c4] at H
  have c4b0 : decide (x5_1 < (l0.length : Int)) = false := decide_eq_false c4
  clear c4
  obtain rfl := Option.some.inj H
  go_wp2
  repeat (go_quiet (fail); try go_wp2)
  go_ret
  exact ⟨zi, zdr⟩
 rw [if_pos c4] at H
 have c4b0 : decide (x5_1 < (l0.length : Int)) = true := decide_eq_true c4
 clear c4
 by_cases c5 : 0 ≤ x5_1
 rotate_left
 ·rw [if_neg c5] at H
  exact absurd H (by simp)
 rw [if_pos c5] at H
 have c5b0 : decide (0 ≤ x5_1) = true := decide_eq_true c5
 clear c5
 by_cases c6 : x5_1 < (l1.length : Int)
 rotate_left
 ·rw [if_neg c6] at H
  exact absurd H (by simp)
 rw [if_pos c6] at H
 have c6b0 : decide (x5_1 < (l1.length : Int)) = true := decide_eq_true c6
 clear c6
 by_cases c7 : (rd l0 x5_1) = (rd l1 x5_1)
 rotate_left
 ·rw [if_neg c7] at H
  have c7b0 : ((rd l0 x5_1) == (rd l1 x5_1)) = false := beq_eq_false_iff_ne.mpr c7
  have c7b1 : ((rd l0 x5_1) != (rd l1 x5_1)) = true := bne_iff_ne.mpr c7
  obtain rfl := Option.some.inj H
  have p134 : 0 ≤ (x5_1 : Int) := of_decide_eq_true zA
  have q134 : x5_1 < (l0.length : Int) := of_decide_eq_true zA
  obtain ⟨ad134, e134, hx134_0⟩ := Kd.at_int HR0.out x5_1 p134 q134
  cases e134
  replace p134 := eq_true p134
  replace q134 := eq_true q134
  have p135 : 0 ≤ (x5_1 : Int) := of_decide_eq_true zA
  have q135 : x5_1 < (l1.length : Int) := of_decide_eq_true zA
  obtain ⟨ad135, e135, hx135_0⟩ := Kd.at_int HR1.out x5_1 p135 q135
  cases e135
  replace p135 := eq_true p135
  replace q135 := eq_true q135
  go_wp2
  repeat (go_quiet (fail); try go_wp2)
  go_ret
  exact ⟨zi, zdr⟩
 rw [if_pos c7] at H
 have c7b0 : ((rd l0 x5_1) == (rd l1 x5_1)) = true := beq_iff_eq.mpr c7
 have c7b1 : ((rd l0 x5_1) != (rd l1 x5_1)) = false := bne_eq_false_iff_eq.mpr c7
 clear c7
 have H' := Aside0.mk H
 clear H
 have p134 : 0 ≤ (x5_1 : Int) := of_decide_eq_true zA
 have q134 : x5_1 < (l0.length : Int) := of_decide_eq_true zA
 obtain ⟨ad134, e134, hx134_0⟩ := Kd.at_int HR0.out x5_1 p134 q134
 cases e134
 replace p134 := eq_true p134
 replace q134 := eq_true q134
 have p135 : 0 ≤ (x5_1 : Int) := of_decide_eq_true zA
 have q135 : x5_1 < (l1.length : Int) := of_decide_eq_true zA
 obtain ⟨ad135, e135, hx135_0⟩ := Kd.at_int HR1.out x5_1 p135 q135
 cases e135
 replace p135 := eq_true p135
 replace q135 := eq_true q135
 go_wp2
 repeat (go_quiet (fail); try go_wp2)
 go_roundg k1
 case measure => have := HK1.out; omega
 case rel => exact ⟨(wrap64 (x5_1 + 1)), zi, H', ⟨by have := HK1.out; omega⟩, zdr⟩
def laws_eqNetwork.f (k : Nat) (a0_0 : Int) (l0_1 : List (S81)) (l0_2 : List Int) (a1_0 : Int) (l1_1 : List (S81)) (l1_2 : List Int) : Option (Bool) := if a0_0 = a1_0 then ((laws_eqNodeS.f k l0_1 l1_1).bind fun t138 => (if t138 = true then ((laws_eqInt16S.f k l0_2 l1_2).bind fun t139 => (if t139 = true then (some true) else (some false))) else (some false))) else (some false)
theorem laws_eqNetwork.mono : ∀ a0 a1 a2 a3 a4 a5 k, LeO (laws_eqNetwork.f k a0 a1 a2 a3 a4 a5) (laws_eqNetwork.f (k + 1) a0 a1 a2 a3 a4 a5) := by
 intro a0 a1 a2 a3 a4 a5 k
 unfold laws_eqNetwork.f
 repeat' first | (with_reducible first | apply laws_eqInt16S.mono | apply laws_eqNodeS.mono | exact LeO.refl _ | exact LeO.none _ | refine LeO.ite ?_ ?_ | refine LeO.bind ?_ (fun _ => ?_)) | apply laws_eqInt16S.mono | apply laws_eqNodeS.mono | exact LeO.none _ | refine LeO.ite ?_ ?_ | refine LeO.bind ?_ (fun _ => ?_)
theorem laws_eqNetwork.calls (k : Nat) (a0_0 : Int) (A0_1 : Option Addr) (c0_1 : Nat) (l0_1 : List (S81)) (A0_2 : Option Addr) (c0_2 : Nat) (l0_2 : List Int) (a1_0 : Int) (A1_1 : Option Addr) (c1_1 : Nat) (l1_1 : List (S81)) (A1_2 : Option Addr) (c1_2 : Nat) (l1_2 : List Int) (r : Bool) (w : World) (hr0_1 : Kd.C k81 w A0_1 l0_1.length l0_1) (hc0_1 : l0_1.length ≤ c0_1) (hr0_2 : Kd.C (Kd.int .i16) w A0_2 l0_2.length l0_2) (hc0_2 : l0_2.length ≤ c0_2) (hr1_1 : Kd.C k81 w A1_1 l1_1.length l1_1) (hc1_1 : l1_1.length ≤ c1_1) (hr1_2 : Kd.C (Kd.int .i16) w A1_2 l1_2.length l1_2) (hc1_2 : l1_2.length ≤ c1_2) (h : laws_eqNetwork.f k a0_0 l0_1 l0_2 a1_0 l1_1 l1_2 = some r) :
    Calls Try.prog 25 #[.agg #[.int .i8 a0_0, .slice A0_1 l0_1.length c0_1, .slice A0_2 l0_2.length c0_2], .agg #[.int .i8 a1_0, .slice A1_1 l1_1.length c1_1, .slice A1_2 l1_2.length c1_2]] w fun e w' => e = .returned (.bool r) ∧ Below w.heap.size w w' := by
 have hu31 := Try.underlying31
 have HR0_1 := Aside0.mk hr0_1
 have HC0_1 := Aside0.mk hc0_1
 clear hr0_1 hc0_1
 have HR0_2 := Aside0.mk hr0_2
 have HC0_2 := Aside0.mk hc0_2
 clear hr0_2 hc0_2
 have HR1_1 := Aside0.mk hr1_1
 have HC1_1 := Aside0.mk hc1_1
 clear hr1_1 hc1_1
 have HR1_2 := Aside0.mk hr1_2
 have HC1_2 := Aside0.mk hc1_2
 clear hr1_2 hc1_2
 have HB := Aside0.mk (Below.refl w.heap.size w)
 have H : (if a0_0 = a1_0 then ((laws_eqNodeS.f k l0_1 l1_1).bind fun t138 => (if t138 = true then ((laws_eqInt16S.f k l0_2 l1_2).bind fun t139 => (if t139 = true then (some true) else (some false))) else (some false))) else (some false)) = some r := h
 clear h
 by_cases c3 : a0_0 = a1_0
 rotate_left
 ·rw [if_neg c3] at H
  have c3b0 : (a0_0 == a1_0) = false := beq_eq_false_iff_ne.mpr c3
  have c3b1 : (a0_0 != a1_0) = true := bne_iff_ne.mpr c3
  obtain rfl := Option.some.inj H
  go_enter Try.func25, Try.ntmps25
  go_wp2_with (first | ((with_reducible refine gate_dst (N := 2) rfl ?_); refine zbx 2 #[.int .i8 a0_0, .slice A0_1 l0_1.length c0_1, .slice A0_2 l0_2.length c0_2] 31 ?_; intro gb136 hg w30 hbox hb; have n_ : _ ∧ _ ∧ _ ∧ _ := ⟨zb HB hb, Aside0.mk (hbox), zg HB hg, zg HB hg⟩; clear HB; obtain ⟨HB, BK136, GW136, GE136⟩ := n_; clear hb hbox hg) | ((with_reducible refine gate_dst (N := 3) rfl ?_); refine zbx 3 #[.int .i8 a1_0, .slice A1_1 l1_1.length c1_1, .slice A1_2 l1_2.length c1_2] 31 ?_; intro gb137 hg w31 hbox hb; have n_ : _ ∧ _ ∧ _ ∧ _ ∧ _ ∧ _ ∧ _ := ⟨zk BK136 hb, zbs hb, Aside0.mk (hbox), zg HB hg, zg HB hg, zn1 BK136 hg, zn2 BK136 hg⟩; clear BK136 HB; obtain ⟨BK136, HB, BK137, GW137, GE137, NB136_137, NB137_136⟩ := n_; clear hb hbox hg; have hnb32 := NB136_137.out; have hnc32 := NB137_136.out; obtain ⟨z33_0, z33_1, z33_2, y33_0, y33_1, y33_2⟩ := zB3 BK136; obtain ⟨z34_0, z34_1, z34_2, y34_0, y34_1, y34_2⟩ := zB3 BK137))
  go_ret
  exact ⟨zv, zbo⟩
 rw [if_pos c3] at H
 have c3b0 : (a0_0 == a1_0) = true := beq_iff_eq.mpr c3
 have c3b1 : (a0_0 != a1_0) = false := bne_eq_false_iff_eq.mpr c3
 clear c3
 replace H := zob H
 obtain ⟨t138, A40, H⟩ := H
 replace H : (if t138 = true then ((laws_eqInt16S.f k l0_2 l1_2).bind fun t139 => (if t139 = true then (some true) else (some false))) else (some false)) = some r := H
 have A4 := Aside0.mk A40
 clear A40
 by_cases c5 : t138 = true
 rotate_left
 ·replace c5 := Bool.eq_false_iff.mpr c5
  subst c5
  have H1 : (some false) = some r := by rw [if_neg (show ¬ (false = true) by decide)] at H; exact H
  clear H
  have H := H1
  clear H1
  obtain rfl := Option.some.inj H
  go_enter Try.func25, Try.ntmps25
  go_wp2_with (first | ((with_reducible refine gate_dst (N := 2) rfl ?_); refine zbx 2 #[.int .i8 a0_0, .slice A0_1 l0_1.length c0_1, .slice A0_2 l0_2.length c0_2] 31 ?_; intro gb136 hg w24 hbox hb; have n_ : _ ∧ _ ∧ _ ∧ _ := ⟨zb HB hb, Aside0.mk (hbox), zg HB hg, zg HB hg⟩; clear HB; obtain ⟨HB, BK136, GW136, GE136⟩ := n_; clear hb hbox hg) | ((with_reducible refine gate_dst (N := 3) rfl ?_); refine zbx 3 #[.int .i8 a1_0, .slice A1_1 l1_1.length c1_1, .slice A1_2 l1_2.length c1_2] 31 ?_; intro gb137 hg w25 hbox hb; have n_ : _ ∧ _ ∧ _ ∧ _ ∧ _ ∧ _ ∧ _ := ⟨zk BK136 hb, zbs hb, Aside0.mk (hbox), zg HB hg, zg HB hg, zn1 BK136 hg, zn2 BK136 hg⟩; clear BK136 HB; obtain ⟨BK136, HB, BK137, GW137, GE137, NB136_137, NB137_136⟩ := n_; clear hb hbox hg; have hnb26 := NB136_137.out; have hnc26 := NB137_136.out; obtain ⟨z27_0, z27_1, z27_2, y27_0, y27_1, y27_2⟩ := zB3 BK136; obtain ⟨z28_0, z28_1, z28_2, y28_0, y28_1, y28_2⟩ := zB3 BK137) | ((with_reducible refine gate_callee (f := 79) rfl ?_); refine goesL_ (some 14) rfl rfl Try.func79 (by kernel_rfl) rfl #[.slice A0_1 l0_1.length c0_1, .slice A1_1 l1_1.length c1_1] rfl zm ?_; (with_reducible refine (laws_eqNodeS.calls k _ _ l0_1 _ _ l1_1 false _ ?side1 ?side2 ?side3 ?side4 A4.out).mono ?_); (case side1 => exact zcc HB HR0_1.out); (case side2 => exact HC0_1.out); (case side3 => exact zcc HB HR1_1.out); (case side4 => exact HC1_1.out); rintro e w29 ⟨rfl, hb⟩; refine ⟨_, rfl, ?_⟩; have n_ : _ ∧ _ ∧ _ := ⟨zk BK136 hb, zk BK137 hb, zbs hb⟩; clear BK136 BK137 HB; obtain ⟨BK136, BK137, HB⟩ := n_; (try clear hb); (try clear hb2); (try clear hk); (try clear hi)))
  go_ret
  exact ⟨zv, zbo⟩
 subst c5
 have H1 : ((laws_eqInt16S.f k l0_2 l1_2).bind fun t139 => (if t139 = true then (some true) else (some false))) = some r := by rw [if_pos rfl] at H; exact H
 clear H
 have H := H1
 clear H1
 replace H := zob H
 obtain ⟨t139, A60, H⟩ := H
 replace H : (if t139 = true then (some true) else (some false)) = some r := H
 have A6 := Aside0.mk A60
 clear A60
 by_cases c7 : t139 = true
 ·subst c7
  have H1 : (some true) = some r := by rw [if_pos rfl] at H; exact H
  clear H
  have H := H1
  clear H1
  obtain rfl := Option.some.inj H
  go_enter Try.func25, Try.ntmps25
  go_wp2_with (first | ((with_reducible refine gate_dst (N := 2) rfl ?_); refine zbx 2 #[.int .i8 a0_0, .slice A0_1 l0_1.length c0_1, .slice A0_2 l0_2.length c0_2] 31 ?_; intro gb136 hg w8 hbox hb; have n_ : _ ∧ _ ∧ _ ∧ _ := ⟨zb HB hb, Aside0.mk (hbox), zg HB hg, zg HB hg⟩; clear HB; obtain ⟨HB, BK136, GW136, GE136⟩ := n_; clear hb hbox hg) | ((with_reducible refine gate_dst (N := 3) rfl ?_); refine zbx 3 #[.int .i8 a1_0, .slice A1_1 l1_1.length c1_1, .slice A1_2 l1_2.length c1_2] 31 ?_; intro gb137 hg w9 hbox hb; have n_ : _ ∧ _ ∧ _ ∧ _ ∧ _ ∧ _ ∧ _ := ⟨zk BK136 hb, zbs hb, Aside0.mk (hbox), zg HB hg, zg HB hg, zn1 BK136 hg, zn2 BK136 hg⟩; clear BK136 HB; obtain ⟨BK136, HB, BK137, GW137, GE137, NB136_137, NB137_136⟩ := n_; clear hb hbox hg; have hnb10 := NB136_137.out; have hnc10 := NB137_136.out; obtain ⟨z11_0, z11_1, z11_2, y11_0, y11_1, y11_2⟩ := zB3 BK136; obtain ⟨z12_0, z12_1, z12_2, y12_0, y12_1, y12_2⟩ := zB3 BK137) | ((with_reducible refine gate_callee (f := 79) rfl ?_); refine goesL_ (some 14) rfl rfl Try.func79 (by kernel_rfl) rfl #[.slice A0_1 l0_1.length c0_1, .slice A1_1 l1_1.length c1_1] rfl zm ?_; (with_reducible refine (laws_eqNodeS.calls k _ _ l0_1 _ _ l1_1 true _ ?side1 ?side2 ?side3 ?side4 A4.out).mono ?_); (case side1 => exact zcc HB HR0_1.out); (case side2 => exact HC0_1.out); (case side3 => exact zcc HB HR1_1.out); (case side4 => exact HC1_1.out); rintro e w13 ⟨rfl, hb⟩; refine ⟨_, rfl, ?_⟩; have n_ : _ ∧ _ ∧ _ := ⟨zk BK136 hb, zk BK137 hb, zbs hb⟩; clear BK136 BK137 HB; obtain ⟨BK136, BK137, HB⟩ := n_; (try clear hb); (try clear hb2); (try clear hk); (try clear hi); obtain ⟨z14_0, z14_1, z14_2, y14_0, y14_1, y14_2⟩ := zB3 BK136; obtain ⟨z15_0, z15_1, z15_2, y15_0, y15_1, y15_2⟩ := zB3 BK137) | ((with_reducible refine gate_callee (f := 80) rfl ?_); refine goesL_ (some 20) rfl rfl Try.func80 (by kernel_rfl) rfl #[.slice A0_2 l0_2.length c0_2, .slice A1_2 l1_2.length c1_2] rfl zm ?_; (with_reducible refine (laws_eqInt16S.calls k _ _ l0_2 _ _ l1_2 true _ ?side1 ?side2 ?side3 ?side4 A6.out).mono ?_); (case side1 => exact zcc HB HR0_2.out); (case side2 => exact HC0_2.out); (case side3 => exact zcc HB HR1_2.out); (case side4 => exact HC1_2.out); rintro e w' ⟨rfl, ⟨nd, rfl⟩⟩; refine ⟨_, rfl, ?_⟩))
  go_ret
  exact ⟨zv, zbo⟩
 replace c7 := Bool.eq_false_iff.mpr c7
 subst c7
 have H1 : (some false) = some r := by rw [if_neg (show ¬ (false = true) by decide)] at H; exact H
 clear H
 have H := H1
 clear H1
 obtain rfl := Option.some.inj H
 go_enter Try.func25, Try.ntmps25
 go_wp2_with (first | ((with_reducible refine gate_dst (N := 2) rfl ?_); refine zbx 2 #[.int .i8 a0_0, .slice A0_1 l0_1.length c0_1, .slice A0_2 l0_2.length c0_2] 31 ?_; intro gb136 hg w16 hbox hb; have n_ : _ ∧ _ ∧ _ ∧ _ := ⟨zb HB hb, Aside0.mk (hbox), zg HB hg, zg HB hg⟩; clear HB; obtain ⟨HB, BK136, GW136, GE136⟩ := n_; clear hb hbox hg) | ((with_reducible refine gate_dst (N := 3) rfl ?_); refine zbx 3 #[.int .i8 a1_0, .slice A1_1 l1_1.length c1_1, .slice A1_2 l1_2.length c1_2] 31 ?_; intro gb137 hg w17 hbox hb; have n_ : _ ∧ _ ∧ _ ∧ _ ∧ _ ∧ _ ∧ _ := ⟨zk BK136 hb, zbs hb, Aside0.mk (hbox), zg HB hg, zg HB hg, zn1 BK136 hg, zn2 BK136 hg⟩; clear BK136 HB; obtain ⟨BK136, HB, BK137, GW137, GE137, NB136_137, NB137_136⟩ := n_; clear hb hbox hg; have hnb18 := NB136_137.out; have hnc18 := NB137_136.out; obtain ⟨z19_0, z19_1, z19_2, y19_0, y19_1, y19_2⟩ := zB3 BK136; obtain ⟨z20_0, z20_1, z20_2, y20_0, y20_1, y20_2⟩ := zB3 BK137) | ((with_reducible refine gate_callee (f := 79) rfl ?_); refine goesL_ (some 14) rfl rfl Try.func79 (by kernel_rfl) rfl #[.slice A0_1 l0_1.length c0_1, .slice A1_1 l1_1.length c1_1] rfl zm ?_; (with_reducible refine (laws_eqNodeS.calls k _ _ l0_1 _ _ l1_1 true _ ?side1 ?side2 ?side3 ?side4 A4.out).mono ?_); (case side1 => exact zcc HB HR0_1.out); (case side2 => exact HC0_1.out); (case side3 => exact zcc HB HR1_1.out); (case side4 => exact HC1_1.out); rintro e w21 ⟨rfl, hb⟩; refine ⟨_, rfl, ?_⟩; have n_ : _ ∧ _ ∧ _ := ⟨zk BK136 hb, zk BK137 hb, zbs hb⟩; clear BK136 BK137 HB; obtain ⟨BK136, BK137, HB⟩ := n_; (try clear hb); (try clear hb2); (try clear hk); (try clear hi); obtain ⟨z22_0, z22_1, z22_2, y22_0, y22_1, y22_2⟩ := zB3 BK136; obtain ⟨z23_0, z23_1, z23_2, y23_0, y23_1, y23_2⟩ := zB3 BK137) | ((with_reducible refine gate_callee (f := 80) rfl ?_); refine goesL_ (some 20) rfl rfl Try.func80 (by kernel_rfl) rfl #[.slice A0_2 l0_2.length c0_2, .slice A1_2 l1_2.length c1_2] rfl zm ?_; (with_reducible refine (laws_eqInt16S.calls k _ _ l0_2 _ _ l1_2 false _ ?side1 ?side2 ?side3 ?side4 A6.out).mono ?_); (case side1 => exact zcc HB HR0_2.out); (case side2 => exact HC0_2.out); (case side3 => exact zcc HB HR1_2.out); (case side4 => exact HC1_2.out); rintro e w' ⟨rfl, ⟨nd, rfl⟩⟩; refine ⟨_, rfl, ?_⟩))
 go_ret
 exact ⟨zv, zbo⟩
def laws_markNodeS.l0 : Nat → List (S81) → Int → Int → Option (Int × (List (S81)))
  | 0, _, _, _ => none
  | k + 1, x0, x1, x5 => if x5 < (x0.length : Int) then (if 0 ≤ x5 then ((some (x0.set (x5 : Int).toNat (⟨IntKind.i8.wrap (x1), (rd_T81 x0 x5).f1, (rd_T81 x0 x5).f2⟩ : S81) : List (S81))).bind fun y140 => ((some (y140.set (x5 : Int).toNat (⟨(rd_T81 y140 x5).f0, IntKind.i16.wrap (wrap64 (x1 + 1)), (rd_T81 y140 x5).f2⟩ : S81) : List (S81))).bind fun y141 => (laws_markNodeS.l0 k (y141.set (x5 : Int).toNat (⟨(rd_T81 y141 x5).f0, (rd_T81 y141 x5).f1, IntKind.i16.wrap (wrap64 ((wrap64 (x1 + 1)) + 1))⟩ : S81)) (wrap64 ((wrap64 ((wrap64 (x1 + 1)) + 1)) + 1)) (wrap64 (x5 + 1))))) else (none)) else (some (x1, x0))
def laws_markNodeS.f (k : Nat) (l0 : List (S81)) (a1 : Int) : Option (Int × (List (S81))) := laws_markNodeS.l0 k l0 a1 0
theorem laws_markNodeS.mono_l : ∀ k, (∀ y0 y1 y2, LeO (laws_markNodeS.l0 k y0 y1 y2) (laws_markNodeS.l0 (k + 1) y0 y1 y2))
  | 0 => fun _ _ _ r h => by simp [laws_markNodeS.l0] at h
  | k + 1 => by
    have ih0 := laws_markNodeS.mono_l k
    · intro y0 y1 y2
      unfold laws_markNodeS.l0
      repeat' first | (with_reducible first | apply ih0 | exact LeO.refl _ | exact LeO.none _ | refine LeO.ite ?_ ?_ | refine LeO.bind ?_ (fun _ => ?_)) | apply ih0 | exact LeO.none _ | refine LeO.ite ?_ ?_ | refine LeO.bind ?_ (fun _ => ?_)
theorem laws_markNodeS.mono : ∀ a0 a1 k, LeO (laws_markNodeS.f k a0 a1) (laws_markNodeS.f (k + 1) a0 a1) := by
 intro a0 a1 k
 have ih0 := laws_markNodeS.mono_l k
 unfold laws_markNodeS.f
 repeat' first | (with_reducible first | apply ih0 | exact LeO.refl _ | exact LeO.none _ | refine LeO.ite ?_ ?_ | refine LeO.bind ?_ (fun _ => ?_)) | apply ih0 | exact LeO.none _ | refine LeO.ite ?_ ?_ | refine LeO.bind ?_ (fun _ => ?_)
theorem laws_markNodeS.calls (k : Nat) (P0_ : Nat → Prop) (u9000_ : Value) (l0 : List (S81)) (a1 : Int) (r1 : Int) (r2 : List (S81)) (w0 w : World) (hB : Below w0.heap.size w0 w) (ho0 : Kd.R k81 81 w w0.heap.size P0_ u9000_ l0) (h : laws_markNodeS.f k l0 a1 = some (r1, r2)) :
    Calls Try.prog 98 #[u9000_, .int .i64 a1] w fun e w' => e = .returned (.int .i64 r1) ∧ Kd.R k81 81 w' w0.heap.size (fun k_ => (P0_ k_ ∨ w.heap.size ≤ k_)) u9000_ r2 ∧ Below w0.heap.size w0 w' ∧ Kept w w' (fun k_ => P0_ k_) := by
 have HO0 := Aside0.mk (show Kd.R k81 81 w w0.heap.size (fun k_ => (P0_ k_ ∨ w.heap.size ≤ k_)) u9000_ l0 from Kd.R_mono ho0 (fun k_ hk => (.inl hk)))
 have HK := Aside0.mk (Kept.refl w (fun k_ => P0_ k_))
 have HW0 := Aside0.mk hB.size
 have HB := Aside0.mk hB
 clear hB
 have H : (laws_markNodeS.l0 k l0 a1 0) = some (r1, r2) := h
 clear h
 have H' := Aside0.mk H
 clear H
 go_enter Try.func98, Try.ntmps98
 go_wp2
 go_loopg [1, 5] k (fun kq v1 v5 w' => ∃ (x0_1 : List (S81)) (x1_1 : Int) (x5_1 : Int), v1 = .int .i64 x1_1 ∧ v5 = .int .i64 x5_1 ∧ Aside0 (laws_markNodeS.l0 kq x0_1 x1_1 x5_1 = some (r1, r2)) ∧ Aside0 (kq ≤ k) ∧ Aside0 (Kd.R k81 81 w' w0.heap.size (fun k_ => (P0_ k_ ∨ w.heap.size ≤ k_)) u9000_ x0_1) ∧ Aside0 (Kept w w' (fun k_ => P0_ k_)) ∧ Aside0 (Below w0.heap.size w0 w'))
 case atStart => exact ⟨(l0), (a1), (0), zi, zi, H', ⟨Nat.le_refl _⟩, ze HO0, ⟨by repeat (first | (with_reducible first | exact HK.out | apply Kept.alloc | apply Kept.drewN | apply Kept.drew) | exact HK.out)⟩, zl HB⟩
 clear H'
 try clear p2
 obtain ⟨x0_1, x1_1, x5_1, rfl, rfl, HA, HK1, HO_0, HK, HB⟩ := hrel
 cases gk with
 | zero => exact absurd HA.out (by simp [laws_markNodeS.l0])
 | succ k1 => ?_
 have H := HA.out
 clear HA
 simp only [laws_markNodeS.l0] at H
 by_cases c3 : x5_1 < (x0_1.length : Int)
 rotate_left
 ·rw [if_neg c3] at H
  have c3b0 : decide (x5_1 < (x0_1.length : Int)) = false := decide_eq_false c3
  clear c3
  simp only [Option.some.injEq, Prod.mk.injEq] at H
  obtain ⟨rfl, rfl⟩ := H
  obtain ⟨Ao15, co15, eo15⟩ := Kd.R_slice HO_0.out
  subst eo15
  go_wp2
  go_ret
  exact ⟨zv, by (with_reducible repeat (first | apply Kd.R_alloc | apply Kd.R_drewN | apply Kd.R_drew)); exact HO_0.out, zbo, by repeat (first | (with_reducible first | exact HK.out | apply Kept.alloc | apply Kept.drewN | apply Kept.drew) | exact HK.out)⟩
 rw [if_pos c3] at H
 have c3b0 : decide (x5_1 < (x0_1.length : Int)) = true := decide_eq_true c3
 clear c3
 by_cases c4 : 0 ≤ x5_1
 rotate_left
 ·rw [if_neg c4] at H
  exact absurd H (by simp)
 rw [if_pos c4] at H
 have c4b0 : decide (0 ≤ x5_1) = true := decide_eq_true c4
 clear c4
 obtain ⟨y140, hy140⟩ : ∃ y_ : List (S81), y_ = (x0_1.set (x5_1 : Int).toNat (⟨IntKind.i8.wrap (x1_1), (rd_T81 x0_1 x5_1).f1, (rd_T81 x0_1 x5_1).f2⟩ : S81)) := ⟨_, rfl⟩
 replace H : ((some (y140.set (x5_1 : Int).toNat (⟨(rd_T81 y140 x5_1).f0, IntKind.i16.wrap (wrap64 (x1_1 + 1)), (rd_T81 y140 x5_1).f2⟩ : S81) : List (S81))).bind fun y141 => (laws_markNodeS.l0 k1 (y141.set (x5_1 : Int).toNat (⟨(rd_T81 y141 x5_1).f0, (rd_T81 y141 x5_1).f1, IntKind.i16.wrap (wrap64 ((wrap64 (x1_1 + 1)) + 1))⟩ : S81)) (wrap64 ((wrap64 ((wrap64 (x1_1 + 1)) + 1)) + 1)) (wrap64 (x5_1 + 1)))) = some (r1, r2) := by first | (rw [hy140]; with_reducible exact H) | (have H2_ := (Option.bind_some _ _).symm.trans H; rw [hy140]; with_reducible exact H2_) | (have H2_ := (Option.bind_some _ _).symm.trans H; with_reducible exact H2_) | with_reducible exact H | (rw [hy140]; exact H) | exact H
 have Ny140 := Aside0.mk hy140
 clear hy140
 obtain ⟨y141, hy141⟩ : ∃ y_ : List (S81), y_ = (y140.set (x5_1 : Int).toNat (⟨(rd_T81 y140 x5_1).f0, IntKind.i16.wrap (wrap64 (x1_1 + 1)), (rd_T81 y140 x5_1).f2⟩ : S81)) := ⟨_, rfl⟩
 replace H : (laws_markNodeS.l0 k1 (y141.set (x5_1 : Int).toNat (⟨(rd_T81 y141 x5_1).f0, (rd_T81 y141 x5_1).f1, IntKind.i16.wrap (wrap64 ((wrap64 (x1_1 + 1)) + 1))⟩ : S81)) (wrap64 ((wrap64 ((wrap64 (x1_1 + 1)) + 1)) + 1)) (wrap64 (x5_1 + 1))) = some (r1, r2) := by first | (rw [hy141]; with_reducible exact H) | (have H2_ := (Option.bind_some _ _).symm.trans H; rw [hy141]; with_reducible exact H2_) | (have H2_ := (Option.bind_some _ _).symm.trans H; with_reducible exact H2_) | with_reducible exact H | (rw [hy141]; exact H) | exact H
 have Ny141 := Aside0.mk hy141
 clear hy141
 obtain ⟨y142, hy142⟩ : ∃ y_ : List (S81), y_ = (y141.set (x5_1 : Int).toNat (⟨(rd_T81 y141 x5_1).f0, (rd_T81 y141 x5_1).f1, IntKind.i16.wrap (wrap64 ((wrap64 (x1_1 + 1)) + 1))⟩ : S81)) := ⟨_, rfl⟩
 replace H : (laws_markNodeS.l0 k1 y142 (wrap64 ((wrap64 ((wrap64 (x1_1 + 1)) + 1)) + 1)) (wrap64 (x5_1 + 1))) = some (r1, r2) := by first | (rw [hy142]; with_reducible exact H) | (have H2_ := (Option.bind_some _ _).symm.trans H; rw [hy142]; with_reducible exact H2_) | (have H2_ := (Option.bind_some _ _).symm.trans H; with_reducible exact H2_) | with_reducible exact H | (rw [hy142]; exact H) | exact H
 have Ny142 := Aside0.mk hy142
 clear hy142
 have H' := Aside0.mk H
 clear H
 obtain ⟨Ao8, co8, eo8⟩ := Kd.R_slice HO_0.out
 subst eo8
 have p5 : 0 ≤ (x5_1 : Int) := of_decide_eq_true zA
 have q5 : (x5_1 : Int) < ((x0_1.length : Int) : Int) := of_decide_eq_true zA
 obtain ⟨go5, co5, eo5, gb5, gl5, cl5, HG5⟩ := Kd.R_form HO_0.out (by omega)
 (first | cases eo5 | (injection eo5 with ea_ en_ ec_; (first | subst ea_ | (injection ea_ with ea_; subst ea_)); subst ec_; clear en_))
 have GB5 := Aside0.mk gb5
 have GG5 := Aside0.mk HG5
 clear gb5 gl5 HG5
 have HMgo5 := Aside0.mk (show (P0_ go5 ∨ w.heap.size ≤ go5) from (HO_0.out.1 _ rfl))
 obtain ⟨ce5, hcl5, hM5, hcc5, hfr5⟩ := Kd.R_elem HO_0.out z81 (x5_1 : Int) p5 q5
 obtain rfl := k81_openM hM5
 have hx5_0 : wr.cell? ⟨go5, (x5_1 : Int).toNat * 3, none⟩ = some (.int .i8 ((rd_T81 x0_1 x5_1).f0)) := hcc5 0 _ rfl
 have hx5_1 : wr.cell? ⟨go5, (x5_1 : Int).toNat * 3 + 1, none⟩ = some (.int .i16 ((rd_T81 x0_1 x5_1).f1)) := hcc5 1 _ rfl
 have hx5_2 : wr.cell? ⟨go5, (x5_1 : Int).toNat * 3 + 2, none⟩ = some (.int .i16 ((rd_T81 x0_1 x5_1).f2)) := hcc5 2 _ rfl
 have hf5_0 : wr.frozen? ⟨go5, (x5_1 : Int).toNat * 3, none⟩ = false := hfr5 0
 have hf5_1 : wr.frozen? ⟨go5, (x5_1 : Int).toNat * 3 + 1, none⟩ = false := hfr5 1
 have hf5_2 : wr.frozen? ⟨go5, (x5_1 : Int).toNat * 3 + 2, none⟩ = false := hfr5 2
 clear hcl5 hcc5 hfr5 hM5
 replace p5 := eq_true p5
 replace q5 := eq_true q5
 have HX9 := Aside0.mk (show Kd.R k81 81 wr w0.heap.size (fun k_ => (P0_ k_ ∨ w.heap.size ≤ k_)) (.slice (some ⟨go5, 0, none⟩) x0_1.length co8) x0_1 from (ze HO_0).out)
 obtain ⟨ce9, hcl9, hM9, hcc9, hfr9⟩ := Kd.R_elem HX9.out z81 (x5_1 : Int) (of_decide_eq_true zA) (zlt (x5_1 : Int) (x0_1.length : Int) (Kd.R_reads' HO_0.out).1)
 obtain rfl := k81_openM hM9
 have HP9 := Kd.R_seg HX9.out (x5_1 : Int) (of_decide_eq_true zA) (zlt (x5_1 : Int) (x0_1.length : Int) (Kd.R_reads' HO_0.out).1) (seg := [.int .i8 (IntKind.i8.wrap (x1_1))]) (j := 0) hcl9 hcc9 (show 1 ≤ 3 from by decide) (x' := (⟨IntKind.i8.wrap (x1_1), (rd_T81 x0_1 x5_1).f1, (rd_T81 x0_1 x5_1).f2⟩ : S81)) (k81_mkM _ _ _ (⟨IntKind.i8.wrap (x1_1), (rd_T81 x0_1 x5_1).f1, (rd_T81 x0_1 x5_1).f2⟩ : S81) ) (fun _ hk => hk)
 have hx9_0 := hcc9 0 _ rfl
 (try simp only [show (k81).sz = 3 from rfl, Nat.mul_one, Nat.add_zero] at hx9_0)
 have hf9_0 := hfr9 0
 (try simp only [show (k81).sz = 3 from rfl, Nat.mul_one, Nat.add_zero] at hf9_0)
 clear hcl9 hcc9 hfr9 hM9
 go_wp2_with (first | ((with_reducible refine gate_store (t := 22) (p := 17) rfl ?_); refine store_event (t := 22) (p := 17) (v := ?vo_w10) (w1 := (wr.setCell ⟨go5, (x5_1 : Int).toNat * 3, none⟩ (.int .i8 (IntKind.i8.wrap (x1_1))))) ?hg ?ho ?hn ?hr ?_; (case ho => rfl); (case hg => rfl); (case hn => rfl); (case hr => exact zgs); intro w10 hw; have hg : wr.grownBy w10 (some go5) := (by rw [hw]; exact HP9.2); have hp_ : Kd.R k81 81 w10 w0.heap.size (fun k_ => (P0_ k_ ∨ w.heap.size ≤ k_)) (.slice (some ⟨go5, 0, none⟩) x0_1.length co8) y140 := (by rw [hw, Ny140.out]; exact HP9.1); clear HP9; have n_ : _ ∧ _ ∧ _ := ⟨Aside0.mk (hp_), Aside0.mk ((by rw [hw]; exact below_set (HB.out) GB5.out : Below w0.heap.size w0 w10)), Aside0.mk (Kept.of_grown (S := (fun k_ => P0_ k_)) hg (by repeat (first | (with_reducible first | exact HK.out | apply Kept.alloc | apply Kept.drewN | apply Kept.drew) | exact HK.out)) (fun k_ e_ => (HO_0.out.1 k_ e_)))⟩; clear HO_0 HB HK; obtain ⟨HO_0, HB, HK⟩ := n_; clear hg hw hp_; have p6 : 0 ≤ (x5_1 : Int) := of_decide_eq_true zA; have q6 : (x5_1 : Int) < ((x0_1.length : Int) : Int) := of_decide_eq_true zA; obtain ⟨ce6, hcl6, hM6, hcc6, hfr6⟩ := Kd.R_elem HO_0.out z81 (x5_1 : Int) p6 q6; obtain rfl := k81_openM hM6; have hx6_0 : w10.cell? ⟨go5, (x5_1 : Int).toNat * 3, none⟩ = some (.int .i8 ((rd_T81 y140 x5_1).f0)) := hcc6 0 _ rfl; have hx6_1 : w10.cell? ⟨go5, (x5_1 : Int).toNat * 3 + 1, none⟩ = some (.int .i16 ((rd_T81 y140 x5_1).f1)) := hcc6 1 _ rfl; have hx6_2 : w10.cell? ⟨go5, (x5_1 : Int).toNat * 3 + 2, none⟩ = some (.int .i16 ((rd_T81 y140 x5_1).f2)) := hcc6 2 _ rfl; have hf6_0 : w10.frozen? ⟨go5, (x5_1 : Int).toNat * 3, none⟩ = false := hfr6 0; have hf6_1 : w10.frozen? ⟨go5, (x5_1 : Int).toNat * 3 + 1, none⟩ = false := hfr6 1; have hf6_2 : w10.frozen? ⟨go5, (x5_1 : Int).toNat * 3 + 2, none⟩ = false := hfr6 2; clear hcl6 hcc6 hfr6 hM6; replace p6 := eq_true p6; replace q6 := eq_true q6; have HX11 := Aside0.mk (show Kd.R k81 81 w10 w0.heap.size (fun k_ => (P0_ k_ ∨ w.heap.size ≤ k_)) (.slice (some ⟨go5, 0, none⟩) x0_1.length co8) y140 from (ze HO_0).out); obtain ⟨ce11, hcl11, hM11, hcc11, hfr11⟩ := Kd.R_elem HX11.out z81 (x5_1 : Int) (of_decide_eq_true zA) (zlt (x5_1 : Int) (x0_1.length : Int) (Kd.R_reads' HO_0.out).1); obtain rfl := k81_openM hM11; have HP11 := Kd.R_seg HX11.out (x5_1 : Int) (of_decide_eq_true zA) (zlt (x5_1 : Int) (x0_1.length : Int) (Kd.R_reads' HO_0.out).1) (seg := [.int .i16 (IntKind.i16.wrap (wrap64 (x1_1 + 1)))]) (j := 1) hcl11 hcc11 (show 2 ≤ 3 from by decide) (x' := (⟨(rd_T81 y140 x5_1).f0, IntKind.i16.wrap (wrap64 (x1_1 + 1)), (rd_T81 y140 x5_1).f2⟩ : S81)) (k81_mkM _ _ _ (⟨(rd_T81 y140 x5_1).f0, IntKind.i16.wrap (wrap64 (x1_1 + 1)), (rd_T81 y140 x5_1).f2⟩ : S81) ) (fun _ hk => hk); have hx11_1 := hcc11 1 _ rfl; (try simp only [show (k81).sz = 3 from rfl, Nat.mul_one, Nat.add_zero] at hx11_1); have hf11_1 := hfr11 1; (try simp only [show (k81).sz = 3 from rfl, Nat.mul_one, Nat.add_zero] at hf11_1); clear hcl11 hcc11 hfr11 hM11) | ((with_reducible refine gate_store (t := 79) (p := 25) rfl ?_); refine store_event (t := 79) (p := 25) (v := ?vo_w12) (w1 := (w10.setCell ⟨go5, (x5_1 : Int).toNat * 3 + 1, none⟩ (.int .i16 (IntKind.i16.wrap (wrap64 (x1_1 + 1)))))) ?hg ?ho ?hn ?hr ?_; (case ho => rfl); (case hg => rfl); (case hn => rfl); (case hr => exact zgs); intro w12 hw; have hg : w10.grownBy w12 (some go5) := (by rw [hw]; exact HP11.2); have hp_ : Kd.R k81 81 w12 w0.heap.size (fun k_ => (P0_ k_ ∨ w.heap.size ≤ k_)) (.slice (some ⟨go5, 0, none⟩) x0_1.length co8) y141 := (by rw [hw, Ny141.out]; exact HP11.1); clear HP11; have n_ : _ ∧ _ ∧ _ := ⟨Aside0.mk (hp_), Aside0.mk ((by rw [hw]; exact below_set (HB.out) GB5.out : Below w0.heap.size w0 w12)), Aside0.mk (Kept.of_grown (S := (fun k_ => P0_ k_)) hg (by repeat (first | (with_reducible first | exact HK.out | apply Kept.alloc | apply Kept.drewN | apply Kept.drew) | exact HK.out)) (fun k_ e_ => (HO_0.out.1 k_ e_)))⟩; clear HO_0 HB HK; obtain ⟨HO_0, HB, HK⟩ := n_; clear hg hw hp_; have p7 : 0 ≤ (x5_1 : Int) := of_decide_eq_true zA; have q7 : (x5_1 : Int) < ((x0_1.length : Int) : Int) := of_decide_eq_true zA; obtain ⟨ce7, hcl7, hM7, hcc7, hfr7⟩ := Kd.R_elem HO_0.out z81 (x5_1 : Int) p7 q7; obtain rfl := k81_openM hM7; have hx7_0 : w12.cell? ⟨go5, (x5_1 : Int).toNat * 3, none⟩ = some (.int .i8 ((rd_T81 y141 x5_1).f0)) := hcc7 0 _ rfl; have hx7_1 : w12.cell? ⟨go5, (x5_1 : Int).toNat * 3 + 1, none⟩ = some (.int .i16 ((rd_T81 y141 x5_1).f1)) := hcc7 1 _ rfl; have hx7_2 : w12.cell? ⟨go5, (x5_1 : Int).toNat * 3 + 2, none⟩ = some (.int .i16 ((rd_T81 y141 x5_1).f2)) := hcc7 2 _ rfl; have hf7_0 : w12.frozen? ⟨go5, (x5_1 : Int).toNat * 3, none⟩ = false := hfr7 0; have hf7_1 : w12.frozen? ⟨go5, (x5_1 : Int).toNat * 3 + 1, none⟩ = false := hfr7 1; have hf7_2 : w12.frozen? ⟨go5, (x5_1 : Int).toNat * 3 + 2, none⟩ = false := hfr7 2; clear hcl7 hcc7 hfr7 hM7; replace p7 := eq_true p7; replace q7 := eq_true q7; have HX13 := Aside0.mk (show Kd.R k81 81 w12 w0.heap.size (fun k_ => (P0_ k_ ∨ w.heap.size ≤ k_)) (.slice (some ⟨go5, 0, none⟩) x0_1.length co8) y141 from (ze HO_0).out); obtain ⟨ce13, hcl13, hM13, hcc13, hfr13⟩ := Kd.R_elem HX13.out z81 (x5_1 : Int) (of_decide_eq_true zA) (zlt (x5_1 : Int) (x0_1.length : Int) (Kd.R_reads' HO_0.out).1); obtain rfl := k81_openM hM13; have HP13 := Kd.R_seg HX13.out (x5_1 : Int) (of_decide_eq_true zA) (zlt (x5_1 : Int) (x0_1.length : Int) (Kd.R_reads' HO_0.out).1) (seg := [.int .i16 (IntKind.i16.wrap (wrap64 ((wrap64 (x1_1 + 1)) + 1)))]) (j := 2) hcl13 hcc13 (show 3 ≤ 3 from by decide) (x' := (⟨(rd_T81 y141 x5_1).f0, (rd_T81 y141 x5_1).f1, IntKind.i16.wrap (wrap64 ((wrap64 (x1_1 + 1)) + 1))⟩ : S81)) (k81_mkM _ _ _ (⟨(rd_T81 y141 x5_1).f0, (rd_T81 y141 x5_1).f1, IntKind.i16.wrap (wrap64 ((wrap64 (x1_1 + 1)) + 1))⟩ : S81) ) (fun _ hk => hk); have hx13_2 := hcc13 2 _ rfl; (try simp only [show (k81).sz = 3 from rfl, Nat.mul_one, Nat.add_zero] at hx13_2); have hf13_2 := hfr13 2; (try simp only [show (k81).sz = 3 from rfl, Nat.mul_one, Nat.add_zero] at hf13_2); clear hcl13 hcc13 hfr13 hM13) | ((with_reducible refine gate_store (t := 79) (p := 33) rfl ?_); refine store_event (t := 79) (p := 33) (v := ?vo_w14) (w1 := (w12.setCell ⟨go5, (x5_1 : Int).toNat * 3 + 2, none⟩ (.int .i16 (IntKind.i16.wrap (wrap64 ((wrap64 (x1_1 + 1)) + 1)))))) ?hg ?ho ?hn ?hr ?_; (case ho => rfl); (case hg => rfl); (case hn => rfl); (case hr => exact zgs); intro w14 hw; have hg : w12.grownBy w14 (some go5) := (by rw [hw]; exact HP13.2); have hp_ : Kd.R k81 81 w14 w0.heap.size (fun k_ => (P0_ k_ ∨ w.heap.size ≤ k_)) (.slice (some ⟨go5, 0, none⟩) x0_1.length co8) y142 := (by rw [hw, Ny142.out]; exact HP13.1); clear HP13; have n_ : _ ∧ _ ∧ _ := ⟨Aside0.mk (hp_), Aside0.mk ((by rw [hw]; exact below_set (HB.out) GB5.out : Below w0.heap.size w0 w14)), Aside0.mk (Kept.of_grown (S := (fun k_ => P0_ k_)) hg (by repeat (first | (with_reducible first | exact HK.out | apply Kept.alloc | apply Kept.drewN | apply Kept.drew) | exact HK.out)) (fun k_ e_ => (HO_0.out.1 k_ e_)))⟩; clear HO_0 HB HK; obtain ⟨HO_0, HB, HK⟩ := n_; clear hg hw hp_))
 go_roundg k1
 case measure => have := HK1.out; omega
 case rel => exact ⟨(y142), (wrap64 ((wrap64 ((wrap64 (x1_1 + 1)) + 1)) + 1)), (wrap64 (x5_1 + 1)), zi, zi, H', ⟨by have := HK1.out; omega⟩, ze HO_0, ⟨by repeat (first | (with_reducible first | exact HK.out | apply Kept.alloc | apply Kept.drewN | apply Kept.drew) | exact HK.out)⟩, zl HB⟩
def laws_markInt16S.l0 : Nat → List Int → Int → Int → Option (Int × List Int)
  | 0, _, _, _ => none
  | k + 1, x0, x1, x5 => if x5 < (x0.length : Int) then (if 0 ≤ x5 then (laws_markInt16S.l0 k (x0.set (x5 : Int).toNat (IntKind.i16.wrap (x1))) (wrap64 (x1 + 1)) (wrap64 (x5 + 1))) else (none)) else (some (x1, x0))
def laws_markInt16S.f (k : Nat) (l0 : List Int) (a1 : Int) : Option (Int × List Int) := laws_markInt16S.l0 k l0 a1 0
theorem laws_markInt16S.mono_l : ∀ k, (∀ y0 y1 y2, LeO (laws_markInt16S.l0 k y0 y1 y2) (laws_markInt16S.l0 (k + 1) y0 y1 y2))
  | 0 => fun _ _ _ r h => by simp [laws_markInt16S.l0] at h
  | k + 1 => by
    have ih0 := laws_markInt16S.mono_l k
    · intro y0 y1 y2
      unfold laws_markInt16S.l0
      repeat' first | (with_reducible first | apply ih0 | exact LeO.refl _ | exact LeO.none _ | refine LeO.ite ?_ ?_ | refine LeO.bind ?_ (fun _ => ?_)) | apply ih0 | exact LeO.none _ | refine LeO.ite ?_ ?_ | refine LeO.bind ?_ (fun _ => ?_)
theorem laws_markInt16S.mono : ∀ a0 a1 k, LeO (laws_markInt16S.f k a0 a1) (laws_markInt16S.f (k + 1) a0 a1) := by
 intro a0 a1 k
 have ih0 := laws_markInt16S.mono_l k
 unfold laws_markInt16S.f
 repeat' first | (with_reducible first | apply ih0 | exact LeO.refl _ | exact LeO.none _ | refine LeO.ite ?_ ?_ | refine LeO.bind ?_ (fun _ => ?_)) | apply ih0 | exact LeO.none _ | refine LeO.ite ?_ ?_ | refine LeO.bind ?_ (fun _ => ?_)
theorem laws_markInt16S.calls (k : Nat) (P0_ : Nat → Prop) (u9000_ : Value) (l0 : List Int) (a1 : Int) (r1 : Int) (r2 : List Int) (w0 w : World) (hB : Below w0.heap.size w0 w) (ho0 : Kd.R (Kd.int .i16) 79 w w0.heap.size P0_ u9000_ l0) (h : laws_markInt16S.f k l0 a1 = some (r1, r2)) :
    Calls Try.prog 99 #[u9000_, .int .i64 a1] w fun e w' => e = .returned (.int .i64 r1) ∧ Kd.R (Kd.int .i16) 79 w' w0.heap.size (fun k_ => (P0_ k_ ∨ w.heap.size ≤ k_)) u9000_ r2 ∧ Below w0.heap.size w0 w' ∧ Kept w w' (fun k_ => P0_ k_) := by
 have HO0 := Aside0.mk (show Kd.R (Kd.int .i16) 79 w w0.heap.size (fun k_ => (P0_ k_ ∨ w.heap.size ≤ k_)) u9000_ l0 from Kd.R_mono ho0 (fun k_ hk => (.inl hk)))
 have HK := Aside0.mk (Kept.refl w (fun k_ => P0_ k_))
 have HW0 := Aside0.mk hB.size
 have HB := Aside0.mk hB
 clear hB
 have H : (laws_markInt16S.l0 k l0 a1 0) = some (r1, r2) := h
 clear h
 have H' := Aside0.mk H
 clear H
 go_enter Try.func99, Try.ntmps99
 go_wp2
 go_loopg [1, 5] k (fun kq v1 v5 w' => ∃ (x0_1 : List Int) (x1_1 : Int) (x5_1 : Int), v1 = .int .i64 x1_1 ∧ v5 = .int .i64 x5_1 ∧ Aside0 (laws_markInt16S.l0 kq x0_1 x1_1 x5_1 = some (r1, r2)) ∧ Aside0 (kq ≤ k) ∧ Aside0 (Kd.R (Kd.int .i16) 79 w' w0.heap.size (fun k_ => (P0_ k_ ∨ w.heap.size ≤ k_)) u9000_ x0_1) ∧ Aside0 (Kept w w' (fun k_ => P0_ k_)) ∧ Aside0 (Below w0.heap.size w0 w'))
 case atStart => exact ⟨(l0), (a1), (0), zi, zi, H', ⟨Nat.le_refl _⟩, ze HO0, ⟨by repeat (first | (with_reducible first | exact HK.out | apply Kept.alloc | apply Kept.drewN | apply Kept.drew) | exact HK.out)⟩, zl HB⟩
 clear H'
 try clear p2
 obtain ⟨x0_1, x1_1, x5_1, rfl, rfl, HA, HK1, HO_0, HK, HB⟩ := hrel
 cases gk with
 | zero => exact absurd HA.out (by simp [laws_markInt16S.l0])
 | succ k1 => ?_
 have H := HA.out
 clear HA
 simp only [laws_markInt16S.l0] at H
 by_cases c3 : x5_1 < (x0_1.length : Int)
 rotate_left
 ·rw [if_neg c3] at H
  have c3b0 : decide (x5_1 < (x0_1.length : Int)) = false := decide_eq_false c3
  clear c3
  simp only [Option.some.injEq, Prod.mk.injEq] at H
  obtain ⟨rfl, rfl⟩ := H
  obtain ⟨Ao9, co9, eo9⟩ := Kd.R_slice HO_0.out
  subst eo9
  go_wp2
  go_ret
  exact ⟨zv, by (with_reducible repeat (first | apply Kd.R_alloc | apply Kd.R_drewN | apply Kd.R_drew)); exact HO_0.out, zbo, by repeat (first | (with_reducible first | exact HK.out | apply Kept.alloc | apply Kept.drewN | apply Kept.drew) | exact HK.out)⟩
 rw [if_pos c3] at H
 have c3b0 : decide (x5_1 < (x0_1.length : Int)) = true := decide_eq_true c3
 clear c3
 by_cases c4 : 0 ≤ x5_1
 rotate_left
 ·rw [if_neg c4] at H
  exact absurd H (by simp)
 rw [if_pos c4] at H
 have c4b0 : decide (0 ≤ x5_1) = true := decide_eq_true c4
 clear c4
 obtain ⟨y143, hy143⟩ : ∃ y_ : List Int, y_ = (x0_1.set (x5_1 : Int).toNat (IntKind.i16.wrap (x1_1))) := ⟨_, rfl⟩
 replace H : (laws_markInt16S.l0 k1 y143 (wrap64 (x1_1 + 1)) (wrap64 (x5_1 + 1))) = some (r1, r2) := by first | (rw [hy143]; with_reducible exact H) | (have H2_ := (Option.bind_some _ _).symm.trans H; rw [hy143]; with_reducible exact H2_) | (have H2_ := (Option.bind_some _ _).symm.trans H; with_reducible exact H2_) | with_reducible exact H | (rw [hy143]; exact H) | exact H
 have Ny143 := Aside0.mk hy143
 clear hy143
 have H' := Aside0.mk H
 clear H
 obtain ⟨Ao6, co6, eo6⟩ := Kd.R_slice HO_0.out
 subst eo6
 have p5 : 0 ≤ (x5_1 : Int) := of_decide_eq_true zA
 have q5 : (x5_1 : Int) < ((x0_1.length : Int) : Int) := of_decide_eq_true zA
 obtain ⟨go5, co5, eo5, gb5, gl5, cl5, HG5⟩ := Kd.R_form HO_0.out (by omega)
 (first | cases eo5 | (injection eo5 with ea_ en_ ec_; (first | subst ea_ | (injection ea_ with ea_; subst ea_)); subst ec_; clear en_))
 have GB5 := Aside0.mk gb5
 have GG5 := Aside0.mk HG5
 clear gb5 gl5 HG5
 have HMgo5 := Aside0.mk (show (P0_ go5 ∨ w.heap.size ≤ go5) from (HO_0.out.1 _ rfl))
 obtain ⟨hx5_0, hf5_0⟩ := Kd.R_celln 0 HO_0.out (x5_1 : Int) p5 q5
 replace p5 := eq_true p5
 replace q5 := eq_true q5
 have HP7 := Kd.R_putg HO_0.out (x5_1 : Int) (IntKind.i16.wrap (x1_1))
 go_wp2_with (first | ((with_reducible refine gate_store (t := 79) (p := 16) rfl ?_); refine store_event (t := 79) (p := 16) (v := ?vo_w8) (w1 := (wr.setCell ⟨go5, (x5_1 : Int).toNat, none⟩ (.int .i16 (IntKind.i16.wrap (x1_1))))) ?hg ?ho ?hn ?hr ?_; (case ho => rfl); (case hg => rfl); (case hn => rfl); (case hr => exact zgs); intro w8 hw; have hg : wr.grownBy w8 (some go5) := (by rw [hw]; exact HP7.2); have hp_ : Kd.R (Kd.int .i16) 79 w8 w0.heap.size (fun k_ => (P0_ k_ ∨ w.heap.size ≤ k_)) (.slice (some ⟨go5, 0, none⟩) x0_1.length co6) y143 := (by rw [hw, Ny143.out]; exact HP7.1); clear HP7; have n_ : _ ∧ _ ∧ _ := ⟨Aside0.mk (hp_), Aside0.mk ((by rw [hw]; exact below_set (HB.out) GB5.out : Below w0.heap.size w0 w8)), Aside0.mk (Kept.of_grown (S := (fun k_ => P0_ k_)) hg (by repeat (first | (with_reducible first | exact HK.out | apply Kept.alloc | apply Kept.drewN | apply Kept.drew) | exact HK.out)) (fun k_ e_ => (HO_0.out.1 k_ e_)))⟩; clear HO_0 HB HK; obtain ⟨HO_0, HB, HK⟩ := n_; clear hg hw hp_))
 go_roundg k1
 case measure => have := HK1.out; omega
 case rel => exact ⟨(y143), (wrap64 (x1_1 + 1)), (wrap64 (x5_1 + 1)), zi, zi, H', ⟨by have := HK1.out; omega⟩, ze HO_0, ⟨by repeat (first | (with_reducible first | exact HK.out | apply Kept.alloc | apply Kept.drewN | apply Kept.drew) | exact HK.out)⟩, zl HB⟩
def laws_markNetwork.f (k : Nat) (a0_0 : Int) (l0_1 : List (S81)) (l0_2 : List Int) (a1 : Int) : Option (Int × (List (S81)) × List Int) := (laws_markNodeS.f k l0_1 a1).bind fun bt145 => ((laws_markInt16S.f k l0_2 bt145.1).bind fun bt147 => (some (bt147.1, bt145.2, bt147.2)))
theorem laws_markNetwork.mono : ∀ a0 a1 a2 a3 k, LeO (laws_markNetwork.f k a0 a1 a2 a3) (laws_markNetwork.f (k + 1) a0 a1 a2 a3) := by
 intro a0 a1 a2 a3 k
 unfold laws_markNetwork.f
 repeat' first | (with_reducible first | apply laws_markInt16S.mono | apply laws_markNodeS.mono | exact LeO.refl _ | exact LeO.none _ | refine LeO.ite ?_ ?_ | refine LeO.bind ?_ (fun _ => ?_)) | apply laws_markInt16S.mono | apply laws_markNodeS.mono | exact LeO.none _ | refine LeO.ite ?_ ?_ | refine LeO.bind ?_ (fun _ => ?_)
theorem laws_markNetwork.calls (k : Nat) (a0_0 : Int) (P0_1_ : Nat → Prop) (u9000_ : Value) (l0_1 : List (S81)) (P0_2_ : Nat → Prop) (u9001_ : Value) (l0_2 : List Int) (a1 : Int) (r1 : Int) (r2 : List (S81)) (r3 : List Int) (w0 w : World) (hB : Below w0.heap.size w0 w) (ho0_1 : Kd.R k81 81 w w0.heap.size P0_1_ u9000_ l0_1) (ho0_2 : Kd.R (Kd.int .i16) 79 w w0.heap.size P0_2_ u9001_ l0_2) (h : laws_markNetwork.f k a0_0 l0_1 l0_2 a1 = some (r1, r2, r3)) :
    Calls Try.prog 48 #[.agg #[.int .i8 a0_0, u9000_, u9001_], .int .i64 a1] w fun e w' => e = .returned (.int .i64 r1) ∧ Kd.R k81 81 w' w0.heap.size (fun k_ => ((P0_1_ k_ ∨ P0_2_ k_) ∨ w.heap.size ≤ k_)) u9000_ r2 ∧ Kd.R (Kd.int .i16) 79 w' w0.heap.size (fun k_ => ((P0_1_ k_ ∨ P0_2_ k_) ∨ w.heap.size ≤ k_)) u9001_ r3 ∧ Below w0.heap.size w0 w' ∧ Kept w w' (fun k_ => P0_1_ k_ ∨ P0_2_ k_) := by
 have hu31 := Try.underlying31
 have HO0_1 := Aside0.mk (show Kd.R k81 81 w w0.heap.size (fun k_ => ((P0_1_ k_ ∨ P0_2_ k_) ∨ w.heap.size ≤ k_)) u9000_ l0_1 from Kd.R_mono ho0_1 (fun k_ hk => (.inl (.inl hk))))
 have HO0_2 := Aside0.mk (show Kd.R (Kd.int .i16) 79 w w0.heap.size (fun k_ => ((P0_1_ k_ ∨ P0_2_ k_) ∨ w.heap.size ≤ k_)) u9001_ l0_2 from Kd.R_mono ho0_2 (fun k_ hk => (.inl (.inr hk))))
 have HK := Aside0.mk (Kept.refl w (fun k_ => P0_1_ k_ ∨ P0_2_ k_))
 have HW0 := Aside0.mk hB.size
 have HB := Aside0.mk hB
 clear hB
 have H : ((laws_markNodeS.f k l0_1 a1).bind fun bt145 => ((laws_markInt16S.f k l0_2 bt145.1).bind fun bt147 => (some (bt147.1, bt145.2, bt147.2)))) = some (r1, r2, r3) := h
 clear h
 replace H := zob H
 obtain ⟨⟨t145, t146⟩, A30, H⟩ := H
 replace H : ((laws_markInt16S.f k l0_2 t145).bind fun bt147 => (some (bt147.1, t146, bt147.2))) = some (r1, r2, r3) := H
 have A3 := Aside0.mk A30
 clear A30
 replace H := zob H
 obtain ⟨⟨t147, t148⟩, A40, H⟩ := H
 replace H : (some (t147, t146, t148)) = some (r1, r2, r3) := H
 have A4 := Aside0.mk A40
 clear A40
 simp only [Option.some.injEq, Prod.mk.injEq] at H
 obtain ⟨rfl, rfl, rfl⟩ := H
 obtain ⟨Ao5, co5, eo5⟩ := Kd.R_slice HO0_1.out
 subst eo5
 obtain ⟨Ao6, co6, eo6⟩ := Kd.R_slice HO0_2.out
 subst eo6
 go_enter Try.func48, Try.ntmps48
 go_wp2_with (first | ((with_reducible refine gate_dst (N := 2) rfl ?_); refine zbx 2 #[.int .i8 a0_0, .slice Ao5 l0_1.length co5, .slice Ao6 l0_2.length co6] 31 ?_; intro gb144 hg w7 hbox hb; have n_ : _ ∧ _ ∧ _ ∧ _ ∧ _ ∧ _ ∧ _ := ⟨zr HO0_1 hb, zr HO0_2 hb, Aside0.mk (Kept.below (S := (fun k_ => P0_1_ k_ ∨ P0_2_ k_)) (by repeat (first | (with_reducible first | exact HK.out | apply Kept.alloc | apply Kept.drewN | apply Kept.drew) | exact HK.out)) hb), zb HB hb, Aside0.mk (hbox), Aside0.mk ((by rw [hg]; exact (by first | exact HK.out.1 | exact (show Kept w _ (fun k_ => P0_1_ k_ ∨ P0_2_ k_) from by repeat (first | (with_reducible first | exact HK.out | apply Kept.alloc | apply Kept.drewN | apply Kept.drew) | exact HK.out)).1) : w.heap.size ≤ gb144)), Aside0.mk ((by rw [hg]; exact (zz HB) : w0.heap.size ≤ gb144))⟩; clear HO0_1 HO0_2 HK HB; obtain ⟨HO0_1, HO0_2, HK, HB, BK144, GW144, GE144⟩ := n_; clear hb hbox hg; obtain ⟨z8_0, z8_1, z8_2, y8_0, y8_1, y8_2⟩ := zB3 BK144) | ((with_reducible refine gate_callee (f := 98) rfl ?_); refine goesL_ (some 8) rfl rfl Try.func98 (by kernel_rfl) rfl #[.slice Ao5 l0_1.length co5, .int .i64 a1] rfl zm ?_; (with_reducible refine (laws_markNodeS.calls k (fun k_ => some k_ = (.slice Ao5 l0_1.length co5 : Value).ownBlock) (.slice Ao5 l0_1.length co5) l0_1 a1 t145 t146 w0 _ ?side1 ?side2 A3.out).mono ?_); (case side1 => exact zbo); (case side2 => exact Kd.R_tight rfl HO0_1.out); rintro e w9 ⟨rfl, hy0, hb, hkp⟩; refine ⟨_, rfl, ?_⟩; have n_ : _ ∧ _ ∧ _ ∧ _ ∧ _ := ⟨Aside0.mk (Kd.R_reok rfl hy0 (fun k_ e_ => HO0_1.out.1 k_ e_)), Aside0.mk (Kd.R_mono (ok' := fun k_ => ((P0_1_ k_ ∨ P0_2_ k_) ∨ w.heap.size ≤ k_)) (Kd.R_keptB ((Kd.R_apart' HO0_2.out (Kd.R_typed HO0_1.out) (by decide))) hkp (fun k_ hk_ hs_ => (hk_.2) hs_)) (fun k_ hk_ => hk_.1.1)), zkr BK144 hkp (fun hs_ => (fun e_ => (Kd.R_ne HO0_1.out BK144.out (by decide)) e_) hs_), Aside0.mk (Kept.then_ (S := (fun k_ => P0_1_ k_ ∨ P0_2_ k_)) (by repeat (first | (with_reducible first | exact HK.out | apply Kept.alloc | apply Kept.drewN | apply Kept.drew | refine Kept.setCell ?_ (.inr GW144.out) _) | exact HK.out)) hkp (fun k_ hs_ => (fun e_ => (HO0_1.out.1 k_ e_.symm)) hs_)), Aside0.mk (hb)⟩; clear HO0_1 HO0_2 BK144 HK HB; obtain ⟨HO0_1, HO0_2, BK144, HK, HB⟩ := n_; (try clear hb); (try clear hkp); (try clear hy0); obtain ⟨z10_0, z10_1, z10_2, y10_0, y10_1, y10_2⟩ := zB3 BK144) | ((with_reducible refine gate_callee (f := 99) rfl ?_); refine goesL_ (some 12) rfl rfl Try.func99 (by kernel_rfl) rfl #[.slice Ao6 l0_2.length co6, .int .i64 t145] rfl zm ?_; (with_reducible refine (laws_markInt16S.calls k (fun k_ => some k_ = (.slice Ao6 l0_2.length co6 : Value).ownBlock) (.slice Ao6 l0_2.length co6) l0_2 t145 t147 t148 w0 _ ?side1 ?side2 A4.out).mono ?_); (case side1 => exact zbo); (case side2 => exact Kd.R_tight rfl HO0_2.out); rintro e w11 ⟨rfl, hy0, hb, hkp⟩; refine ⟨_, rfl, ?_⟩; have n_ : _ ∧ _ ∧ _ ∧ _ ∧ _ := ⟨Aside0.mk (Kd.R_mono (ok' := fun k_ => ((P0_1_ k_ ∨ P0_2_ k_) ∨ w.heap.size ≤ k_)) (Kd.R_keptB ((Kd.R_apart' HO0_1.out (Kd.R_typed HO0_2.out) (by decide))) hkp (fun k_ hk_ hs_ => (hk_.2) hs_)) (fun k_ hk_ => hk_.1.1)), Aside0.mk (Kd.R_reok rfl hy0 (fun k_ e_ => HO0_2.out.1 k_ e_)), zkr BK144 hkp (fun hs_ => (fun e_ => (Kd.R_ne HO0_2.out BK144.out (by decide)) e_) hs_), Aside0.mk (Kept.then_ (S := (fun k_ => P0_1_ k_ ∨ P0_2_ k_)) (by repeat (first | (with_reducible first | exact HK.out | apply Kept.alloc | apply Kept.drewN | apply Kept.drew | refine Kept.setCell ?_ (.inr GW144.out) _) | exact HK.out)) hkp (fun k_ hs_ => (fun e_ => (HO0_2.out.1 k_ e_.symm)) hs_)), Aside0.mk (hb)⟩; clear HO0_1 HO0_2 BK144 HK HB; obtain ⟨HO0_1, HO0_2, BK144, HK, HB⟩ := n_; (try clear hb); (try clear hkp); (try clear hy0)))
 go_ret
 exact ⟨zv, by (with_reducible repeat (first | apply Kd.R_alloc | apply Kd.R_drewN | apply Kd.R_drew)); exact HO0_1.out, by (with_reducible repeat (first | apply Kd.R_alloc | apply Kd.R_drewN | apply Kd.R_drew)); exact HO0_2.out, zbo, by repeat (first | (with_reducible first | exact HK.out | apply Kept.alloc | apply Kept.drewN | apply Kept.drew | refine Kept.setCell ?_ (.inr GW144.out) _) | exact HK.out)⟩
def laws_heldNodeS.l0 : Nat → List (S81) → Int → Int → Option (Int)
  | 0, _, _, _ => none
  | k + 1, x0, x1, x5 => if x5 < (x0.length : Int) then (if 0 ≤ x5 then (if ((rd_T81 x0 x5).f0) = (IntKind.i8.wrap (x1)) then (if ((rd_T81 x0 x5).f1) = (IntKind.i16.wrap (wrap64 (x1 + 1))) then (if ((rd_T81 x0 x5).f2) = (IntKind.i16.wrap (wrap64 ((wrap64 (x1 + 1)) + 1))) then (laws_heldNodeS.l0 k x0 (wrap64 ((wrap64 ((wrap64 (x1 + 1)) + 1)) + 1)) (wrap64 (x5 + 1))) else (some (-1))) else (some (-1))) else (some (-1))) else (none)) else (some x1)
def laws_heldNodeS.f (k : Nat) (l0 : List (S81)) (a1 : Int) : Option (Int) := laws_heldNodeS.l0 k l0 a1 0
theorem laws_heldNodeS.mono_l : ∀ k, (∀ y0 y1 y2, LeO (laws_heldNodeS.l0 k y0 y1 y2) (laws_heldNodeS.l0 (k + 1) y0 y1 y2))
  | 0 => fun _ _ _ r h => by simp [laws_heldNodeS.l0] at h
  | k + 1 => by
    have ih0 := laws_heldNodeS.mono_l k
    · intro y0 y1 y2
      unfold laws_heldNodeS.l0
      repeat' first | (with_reducible first | apply ih0 | exact LeO.refl _ | exact LeO.none _ | refine LeO.ite ?_ ?_ | refine LeO.bind ?_ (fun _ => ?_)) | apply ih0 | exact LeO.none _ | refine LeO.ite ?_ ?_ | refine LeO.bind ?_ (fun _ => ?_)
theorem laws_heldNodeS.mono : ∀ a0 a1 k, LeO (laws_heldNodeS.f k a0 a1) (laws_heldNodeS.f (k + 1) a0 a1) := by
 intro a0 a1 k
 have ih0 := laws_heldNodeS.mono_l k
 unfold laws_heldNodeS.f
 repeat' first | (with_reducible first | apply ih0 | exact LeO.refl _ | exact LeO.none _ | refine LeO.ite ?_ ?_ | refine LeO.bind ?_ (fun _ => ?_)) | apply ih0 | exact LeO.none _ | refine LeO.ite ?_ ?_ | refine LeO.bind ?_ (fun _ => ?_)
theorem laws_heldNodeS.calls (k : Nat) (A0 : Option Addr) (c0 : Nat) (l0 : List (S81)) (a1 : Int) (r : Int) (w : World) (hr0 : Kd.C k81 w A0 l0.length l0) (hc0 : l0.length ≤ c0) (h : laws_heldNodeS.f k l0 a1 = some r) :
    Calls Try.prog 102 #[.slice A0 l0.length c0, .int .i64 a1] w fun e w' => e = .returned (.int .i64 r) ∧ Drawn0 w w' := by
 have HR0 := Aside0.mk hr0
 have HC0 := Aside0.mk hc0
 clear hr0 hc0
 have H : (laws_heldNodeS.l0 k l0 a1 0) = some r := h
 clear h
 have H' := Aside0.mk H
 clear H
 go_enter Try.func102, Try.ntmps102
 go_wp2
 go_loopg [1, 5] k (fun kq v1 v5 w' => ∃ (x1_1 : Int) (x5_1 : Int), v1 = .int .i64 x1_1 ∧ v5 = .int .i64 x5_1 ∧ Aside0 (laws_heldNodeS.l0 kq l0 x1_1 x5_1 = some r) ∧ Aside0 (kq ≤ k) ∧ Drawn0 w w')
 case atStart => exact ⟨(a1), (0), zi, zi, H', ⟨Nat.le_refl _⟩, zdr⟩
 clear H'
 try clear c1
 try clear p2
 obtain ⟨x1_1, x5_1, rfl, rfl, HA, HK1, ⟨m1, rfl⟩⟩ := hrel
 cases gk with
 | zero => exact absurd HA.out (by simp [laws_heldNodeS.l0])
 | succ k1 => ?_
 have H := HA.out
 clear HA
 simp only [laws_heldNodeS.l0] at H
 by_cases c3 : x5_1 < (l0.length : Int)
 rotate_left
 ·rw [if_neg c3] at H
  have c3b0 : decide (x5_1 < (l0.length : Int)) = false := decide_eq_false c3
  clear c3
  obtain rfl := Option.some.inj H
  go_wp2
  go_ret
  exact ⟨zi, zdr⟩
 rw [if_pos c3] at H
 have c3b0 : decide (x5_1 < (l0.length : Int)) = true := decide_eq_true c3
 clear c3
 by_cases c4 : 0 ≤ x5_1
 rotate_left
 ·rw [if_neg c4] at H
  exact absurd H (by simp)
 rw [if_pos c4] at H
 have c4b0 : decide (0 ≤ x5_1) = true := decide_eq_true c4
 clear c4
 by_cases c5 : ((rd_T81 l0 x5_1).f0) = (IntKind.i8.wrap (x1_1))
 rotate_left
 ·rw [if_neg c5] at H
  have c5b0 : (((rd_T81 l0 x5_1).f0) == (IntKind.i8.wrap (x1_1))) = false := beq_eq_false_iff_ne.mpr c5
  have c5b1 : (((rd_T81 l0 x5_1).f0) != (IntKind.i8.wrap (x1_1))) = true := bne_iff_ne.mpr c5
  obtain rfl := Option.some.inj H
  have p149 : 0 ≤ (x5_1 : Int) := of_decide_eq_true zA
  have q149 : x5_1 < (l0.length : Int) := of_decide_eq_true zA
  obtain ⟨ad149, e149, hx149_0, hx149_1, hx149_2⟩ := at_T81 HR0.out x5_1 p149 q149
  cases e149
  replace p149 := eq_true p149
  replace q149 := eq_true q149
  go_wp2
  go_ret
  exact ⟨zi, zdr⟩
 rw [if_pos c5] at H
 have c5b0 : (((rd_T81 l0 x5_1).f0) == (IntKind.i8.wrap (x1_1))) = true := beq_iff_eq.mpr c5
 have c5b1 : (((rd_T81 l0 x5_1).f0) != (IntKind.i8.wrap (x1_1))) = false := bne_eq_false_iff_eq.mpr c5
 clear c5
 by_cases c6 : ((rd_T81 l0 x5_1).f1) = (IntKind.i16.wrap (wrap64 (x1_1 + 1)))
 rotate_left
 ·rw [if_neg c6] at H
  have c6b0 : (((rd_T81 l0 x5_1).f1) == (IntKind.i16.wrap (wrap64 (x1_1 + 1)))) = false := beq_eq_false_iff_ne.mpr c6
  have c6b1 : (((rd_T81 l0 x5_1).f1) != (IntKind.i16.wrap (wrap64 (x1_1 + 1)))) = true := bne_iff_ne.mpr c6
  obtain rfl := Option.some.inj H
  have p149 : 0 ≤ (x5_1 : Int) := of_decide_eq_true zA
  have q149 : x5_1 < (l0.length : Int) := of_decide_eq_true zA
  obtain ⟨ad149, e149, hx149_0, hx149_1, hx149_2⟩ := at_T81 HR0.out x5_1 p149 q149
  cases e149
  replace p149 := eq_true p149
  replace q149 := eq_true q149
  have p150 : 0 ≤ (x5_1 : Int) := of_decide_eq_true zA
  have q150 : x5_1 < (l0.length : Int) := of_decide_eq_true zA
  obtain ⟨ad150, e150, hx150_0, hx150_1, hx150_2⟩ := at_T81 HR0.out x5_1 p150 q150
  obtain rfl : ad149 = ad150 := (by injection e150)
  replace p150 := eq_true p150
  replace q150 := eq_true q150
  go_wp2
  go_ret
  exact ⟨zi, zdr⟩
 rw [if_pos c6] at H
 have c6b0 : (((rd_T81 l0 x5_1).f1) == (IntKind.i16.wrap (wrap64 (x1_1 + 1)))) = true := beq_iff_eq.mpr c6
 have c6b1 : (((rd_T81 l0 x5_1).f1) != (IntKind.i16.wrap (wrap64 (x1_1 + 1)))) = false := bne_eq_false_iff_eq.mpr c6
 clear c6
 by_cases c7 : ((rd_T81 l0 x5_1).f2) = (IntKind.i16.wrap (wrap64 ((wrap64 (x1_1 + 1)) + 1)))
 rotate_left
 ·rw [if_neg c7] at H
  have c7b0 : (((rd_T81 l0 x5_1).f2) == (IntKind.i16.wrap (wrap64 ((wrap64 (x1_1 + 1)) + 1)))) = false := beq_eq_false_iff_ne.mpr c7
  have c7b1 : (((rd_T81 l0 x5_1).f2) != (IntKind.i16.wrap (wrap64 ((wrap64 (x1_1 + 1)) + 1)))) = true := bne_iff_ne.mpr c7
  obtain rfl := Option.some.inj H
  have p149 : 0 ≤ (x5_1 : Int) := of_decide_eq_true zA
  have q149 : x5_1 < (l0.length : Int) := of_decide_eq_true zA
  obtain ⟨ad149, e149, hx149_0, hx149_1, hx149_2⟩ := at_T81 HR0.out x5_1 p149 q149
  cases e149
  replace p149 := eq_true p149
  replace q149 := eq_true q149
  have p150 : 0 ≤ (x5_1 : Int) := of_decide_eq_true zA
  have q150 : x5_1 < (l0.length : Int) := of_decide_eq_true zA
  obtain ⟨ad150, e150, hx150_0, hx150_1, hx150_2⟩ := at_T81 HR0.out x5_1 p150 q150
  obtain rfl : ad149 = ad150 := (by injection e150)
  replace p150 := eq_true p150
  replace q150 := eq_true q150
  have p151 : 0 ≤ (x5_1 : Int) := of_decide_eq_true zA
  have q151 : x5_1 < (l0.length : Int) := of_decide_eq_true zA
  obtain ⟨ad151, e151, hx151_0, hx151_1, hx151_2⟩ := at_T81 HR0.out x5_1 p151 q151
  obtain rfl : ad149 = ad151 := (by injection e151)
  replace p151 := eq_true p151
  replace q151 := eq_true q151
  go_wp2
  go_ret
  exact ⟨zi, zdr⟩
 rw [if_pos c7] at H
 have c7b0 : (((rd_T81 l0 x5_1).f2) == (IntKind.i16.wrap (wrap64 ((wrap64 (x1_1 + 1)) + 1)))) = true := beq_iff_eq.mpr c7
 have c7b1 : (((rd_T81 l0 x5_1).f2) != (IntKind.i16.wrap (wrap64 ((wrap64 (x1_1 + 1)) + 1)))) = false := bne_eq_false_iff_eq.mpr c7
 clear c7
 have H' := Aside0.mk H
 clear H
 have p149 : 0 ≤ (x5_1 : Int) := of_decide_eq_true zA
 have q149 : x5_1 < (l0.length : Int) := of_decide_eq_true zA
 obtain ⟨ad149, e149, hx149_0, hx149_1, hx149_2⟩ := at_T81 HR0.out x5_1 p149 q149
 cases e149
 replace p149 := eq_true p149
 replace q149 := eq_true q149
 have p150 : 0 ≤ (x5_1 : Int) := of_decide_eq_true zA
 have q150 : x5_1 < (l0.length : Int) := of_decide_eq_true zA
 obtain ⟨ad150, e150, hx150_0, hx150_1, hx150_2⟩ := at_T81 HR0.out x5_1 p150 q150
 obtain rfl : ad149 = ad150 := (by injection e150)
 replace p150 := eq_true p150
 replace q150 := eq_true q150
 have p151 : 0 ≤ (x5_1 : Int) := of_decide_eq_true zA
 have q151 : x5_1 < (l0.length : Int) := of_decide_eq_true zA
 obtain ⟨ad151, e151, hx151_0, hx151_1, hx151_2⟩ := at_T81 HR0.out x5_1 p151 q151
 obtain rfl : ad149 = ad151 := (by injection e151)
 replace p151 := eq_true p151
 replace q151 := eq_true q151
 go_wp2
 go_roundg k1
 case measure => have := HK1.out; omega
 case rel => exact ⟨(wrap64 ((wrap64 ((wrap64 (x1_1 + 1)) + 1)) + 1)), (wrap64 (x5_1 + 1)), zi, zi, H', ⟨by have := HK1.out; omega⟩, zdr⟩
def laws_heldInt16S.l0 : Nat → List Int → Int → Int → Option (Int)
  | 0, _, _, _ => none
  | k + 1, x0, x1, x5 => if x5 < (x0.length : Int) then (if 0 ≤ x5 then (if (rd x0 x5) = (IntKind.i16.wrap (x1)) then (laws_heldInt16S.l0 k x0 (wrap64 (x1 + 1)) (wrap64 (x5 + 1))) else (some (-1))) else (none)) else (some x1)
def laws_heldInt16S.f (k : Nat) (l0 : List Int) (a1 : Int) : Option (Int) := laws_heldInt16S.l0 k l0 a1 0
theorem laws_heldInt16S.mono_l : ∀ k, (∀ y0 y1 y2, LeO (laws_heldInt16S.l0 k y0 y1 y2) (laws_heldInt16S.l0 (k + 1) y0 y1 y2))
  | 0 => fun _ _ _ r h => by simp [laws_heldInt16S.l0] at h
  | k + 1 => by
    have ih0 := laws_heldInt16S.mono_l k
    · intro y0 y1 y2
      unfold laws_heldInt16S.l0
      repeat' first | (with_reducible first | apply ih0 | exact LeO.refl _ | exact LeO.none _ | refine LeO.ite ?_ ?_ | refine LeO.bind ?_ (fun _ => ?_)) | apply ih0 | exact LeO.none _ | refine LeO.ite ?_ ?_ | refine LeO.bind ?_ (fun _ => ?_)
theorem laws_heldInt16S.mono : ∀ a0 a1 k, LeO (laws_heldInt16S.f k a0 a1) (laws_heldInt16S.f (k + 1) a0 a1) := by
 intro a0 a1 k
 have ih0 := laws_heldInt16S.mono_l k
 unfold laws_heldInt16S.f
 repeat' first | (with_reducible first | apply ih0 | exact LeO.refl _ | exact LeO.none _ | refine LeO.ite ?_ ?_ | refine LeO.bind ?_ (fun _ => ?_)) | apply ih0 | exact LeO.none _ | refine LeO.ite ?_ ?_ | refine LeO.bind ?_ (fun _ => ?_)
theorem laws_heldInt16S.calls (k : Nat) (A0 : Option Addr) (c0 : Nat) (l0 : List Int) (a1 : Int) (r : Int) (w : World) (hr0 : Kd.C (Kd.int .i16) w A0 l0.length l0) (hc0 : l0.length ≤ c0) (h : laws_heldInt16S.f k l0 a1 = some r) :
    Calls Try.prog 103 #[.slice A0 l0.length c0, .int .i64 a1] w fun e w' => e = .returned (.int .i64 r) ∧ Drawn0 w w' := by
 have HR0 := Aside0.mk hr0
 have HC0 := Aside0.mk hc0
 clear hr0 hc0
 have H : (laws_heldInt16S.l0 k l0 a1 0) = some r := h
 clear h
 have H' := Aside0.mk H
 clear H
 go_enter Try.func103, Try.ntmps103
 go_wp2
 go_loopg [1, 5] k (fun kq v1 v5 w' => ∃ (x1_1 : Int) (x5_1 : Int), v1 = .int .i64 x1_1 ∧ v5 = .int .i64 x5_1 ∧ Aside0 (laws_heldInt16S.l0 kq l0 x1_1 x5_1 = some r) ∧ Aside0 (kq ≤ k) ∧ Drawn0 w w')
 case atStart => exact ⟨(a1), (0), zi, zi, H', ⟨Nat.le_refl _⟩, zdr⟩
 clear H'
 try clear c1
 try clear p2
 obtain ⟨x1_1, x5_1, rfl, rfl, HA, HK1, ⟨m1, rfl⟩⟩ := hrel
 cases gk with
 | zero => exact absurd HA.out (by simp [laws_heldInt16S.l0])
 | succ k1 => ?_
 have H := HA.out
 clear HA
 simp only [laws_heldInt16S.l0] at H
 by_cases c3 : x5_1 < (l0.length : Int)
 rotate_left
 ·rw [if_neg c3] at H
  have c3b0 : decide (x5_1 < (l0.length : Int)) = false := decide_eq_false c3
  clear c3
  obtain rfl := Option.some.inj H
  go_wp2
  go_ret
  exact ⟨zi, zdr⟩
 rw [if_pos c3] at H
 have c3b0 : decide (x5_1 < (l0.length : Int)) = true := decide_eq_true c3
 clear c3
 by_cases c4 : 0 ≤ x5_1
 rotate_left
 ·rw [if_neg c4] at H
  exact absurd H (by simp)
 rw [if_pos c4] at H
 have c4b0 : decide (0 ≤ x5_1) = true := decide_eq_true c4
 clear c4
 by_cases c5 : (rd l0 x5_1) = (IntKind.i16.wrap (x1_1))
 rotate_left
 ·rw [if_neg c5] at H
  have c5b0 : ((rd l0 x5_1) == (IntKind.i16.wrap (x1_1))) = false := beq_eq_false_iff_ne.mpr c5
  have c5b1 : ((rd l0 x5_1) != (IntKind.i16.wrap (x1_1))) = true := bne_iff_ne.mpr c5
  obtain rfl := Option.some.inj H
  have p152 : 0 ≤ (x5_1 : Int) := of_decide_eq_true zA
  have q152 : x5_1 < (l0.length : Int) := of_decide_eq_true zA
  obtain ⟨ad152, e152, hx152_0⟩ := Kd.at_int HR0.out x5_1 p152 q152
  cases e152
  replace p152 := eq_true p152
  replace q152 := eq_true q152
  go_wp2
  go_ret
  exact ⟨zi, zdr⟩
 rw [if_pos c5] at H
 have c5b0 : ((rd l0 x5_1) == (IntKind.i16.wrap (x1_1))) = true := beq_iff_eq.mpr c5
 have c5b1 : ((rd l0 x5_1) != (IntKind.i16.wrap (x1_1))) = false := bne_eq_false_iff_eq.mpr c5
 clear c5
 have H' := Aside0.mk H
 clear H
 have p152 : 0 ≤ (x5_1 : Int) := of_decide_eq_true zA
 have q152 : x5_1 < (l0.length : Int) := of_decide_eq_true zA
 obtain ⟨ad152, e152, hx152_0⟩ := Kd.at_int HR0.out x5_1 p152 q152
 cases e152
 replace p152 := eq_true p152
 replace q152 := eq_true q152
 go_wp2
 go_roundg k1
 case measure => have := HK1.out; omega
 case rel => exact ⟨(wrap64 (x1_1 + 1)), (wrap64 (x5_1 + 1)), zi, zi, H', ⟨by have := HK1.out; omega⟩, zdr⟩
def laws_heldNetwork.f (k : Nat) (a0_0 : Int) (l0_1 : List (S81)) (l0_2 : List Int) (a1 : Int) : Option (Int) := (laws_heldNodeS.f k l0_1 a1).bind fun t154 => (if t154 < 0 then (some (-1)) else ((laws_heldInt16S.f k l0_2 t154).bind fun t155 => (if t155 < 0 then (some (-1)) else (some t155))))
theorem laws_heldNetwork.mono : ∀ a0 a1 a2 a3 k, LeO (laws_heldNetwork.f k a0 a1 a2 a3) (laws_heldNetwork.f (k + 1) a0 a1 a2 a3) := by
 intro a0 a1 a2 a3 k
 unfold laws_heldNetwork.f
 repeat' first | (with_reducible first | apply laws_heldInt16S.mono | apply laws_heldNodeS.mono | exact LeO.refl _ | exact LeO.none _ | refine LeO.ite ?_ ?_ | refine LeO.bind ?_ (fun _ => ?_)) | apply laws_heldInt16S.mono | apply laws_heldNodeS.mono | exact LeO.none _ | refine LeO.ite ?_ ?_ | refine LeO.bind ?_ (fun _ => ?_)
theorem laws_heldNetwork.calls (k : Nat) (a0_0 : Int) (A0_1 : Option Addr) (c0_1 : Nat) (l0_1 : List (S81)) (A0_2 : Option Addr) (c0_2 : Nat) (l0_2 : List Int) (a1 : Int) (r : Int) (w : World) (hr0_1 : Kd.C k81 w A0_1 l0_1.length l0_1) (hc0_1 : l0_1.length ≤ c0_1) (hr0_2 : Kd.C (Kd.int .i16) w A0_2 l0_2.length l0_2) (hc0_2 : l0_2.length ≤ c0_2) (h : laws_heldNetwork.f k a0_0 l0_1 l0_2 a1 = some r) :
    Calls Try.prog 55 #[.agg #[.int .i8 a0_0, .slice A0_1 l0_1.length c0_1, .slice A0_2 l0_2.length c0_2], .int .i64 a1] w fun e w' => e = .returned (.int .i64 r) ∧ Below w.heap.size w w' := by
 have hu31 := Try.underlying31
 have HR0_1 := Aside0.mk hr0_1
 have HC0_1 := Aside0.mk hc0_1
 clear hr0_1 hc0_1
 have HR0_2 := Aside0.mk hr0_2
 have HC0_2 := Aside0.mk hc0_2
 clear hr0_2 hc0_2
 have HB := Aside0.mk (Below.refl w.heap.size w)
 have H : ((laws_heldNodeS.f k l0_1 a1).bind fun t154 => (if t154 < 0 then (some (-1)) else ((laws_heldInt16S.f k l0_2 t154).bind fun t155 => (if t155 < 0 then (some (-1)) else (some t155))))) = some r := h
 clear h
 replace H := zob H
 obtain ⟨t154, A30, H⟩ := H
 replace H : (if t154 < 0 then (some (-1)) else ((laws_heldInt16S.f k l0_2 t154).bind fun t155 => (if t155 < 0 then (some (-1)) else (some t155)))) = some r := H
 have A3 := Aside0.mk A30
 clear A30
 by_cases c4 : t154 < 0
 ·rw [if_pos c4] at H
  have c4b0 : decide (t154 < 0) = true := decide_eq_true c4
  clear c4
  obtain rfl := Option.some.inj H
  go_enter Try.func55, Try.ntmps55
  go_wp2_with (first | ((with_reducible refine gate_dst (N := 2) rfl ?_); refine zbx 2 #[.int .i8 a0_0, .slice A0_1 l0_1.length c0_1, .slice A0_2 l0_2.length c0_2] 31 ?_; intro gb153 hg w5 hbox hb; have n_ : _ ∧ _ ∧ _ ∧ _ := ⟨zb HB hb, Aside0.mk (hbox), zg HB hg, zg HB hg⟩; clear HB; obtain ⟨HB, BK153, GW153, GE153⟩ := n_; clear hb hbox hg; obtain ⟨z6_0, z6_1, z6_2, y6_0, y6_1, y6_2⟩ := zB3 BK153) | ((with_reducible refine gate_callee (f := 102) rfl ?_); refine goesL_ (some 8) rfl rfl Try.func102 (by kernel_rfl) rfl #[.slice A0_1 l0_1.length c0_1, .int .i64 a1] rfl zm ?_; (with_reducible refine (laws_heldNodeS.calls k _ _ l0_1 a1 t154 _ ?side1 ?side2 A3.out).mono ?_); (case side1 => exact zcc HB HR0_1.out); (case side2 => exact HC0_1.out); rintro e w' ⟨rfl, ⟨nd, rfl⟩⟩; refine ⟨_, rfl, ?_⟩))
  go_ret
  exact ⟨zv, zbo⟩
 rw [if_neg c4] at H
 have c4b0 : decide (t154 < 0) = false := decide_eq_false c4
 clear c4
 replace H := zob H
 obtain ⟨t155, A70, H⟩ := H
 replace H : (if t155 < 0 then (some (-1)) else (some t155)) = some r := H
 have A7 := Aside0.mk A70
 clear A70
 by_cases c8 : t155 < 0
 ·rw [if_pos c8] at H
  have c8b0 : decide (t155 < 0) = true := decide_eq_true c8
  clear c8
  obtain rfl := Option.some.inj H
  go_enter Try.func55, Try.ntmps55
  go_wp2_with (first | ((with_reducible refine gate_dst (N := 2) rfl ?_); refine zbx 2 #[.int .i8 a0_0, .slice A0_1 l0_1.length c0_1, .slice A0_2 l0_2.length c0_2] 31 ?_; intro gb153 hg w9 hbox hb; have n_ : _ ∧ _ ∧ _ ∧ _ := ⟨zb HB hb, Aside0.mk (hbox), zg HB hg, zg HB hg⟩; clear HB; obtain ⟨HB, BK153, GW153, GE153⟩ := n_; clear hb hbox hg; obtain ⟨z10_0, z10_1, z10_2, y10_0, y10_1, y10_2⟩ := zB3 BK153) | ((with_reducible refine gate_callee (f := 102) rfl ?_); refine goesL_ (some 8) rfl rfl Try.func102 (by kernel_rfl) rfl #[.slice A0_1 l0_1.length c0_1, .int .i64 a1] rfl zm ?_; (with_reducible refine (laws_heldNodeS.calls k _ _ l0_1 a1 t154 _ ?side1 ?side2 A3.out).mono ?_); (case side1 => exact zcc HB HR0_1.out); (case side2 => exact HC0_1.out); rintro e w' ⟨rfl, ⟨nd, rfl⟩⟩; refine ⟨_, rfl, ?_⟩) | ((with_reducible refine gate_callee (f := 103) rfl ?_); refine goesL_ (some 14) rfl rfl Try.func103 (by kernel_rfl) rfl #[.slice A0_2 l0_2.length c0_2, .int .i64 t154] rfl zm ?_; (with_reducible refine (laws_heldInt16S.calls k _ _ l0_2 t154 t155 _ ?side1 ?side2 A7.out).mono ?_); (case side1 => repeat (first | exact (Kd.C_below HR0_2.out zbo) | (with_reducible refine Kd.C_alloc ?_ _) | (with_reducible refine Kd.C_drewN ?_ _) | (with_reducible refine Kd.C_drew ?_))); (case side2 => exact HC0_2.out); rintro e w' ⟨rfl, ⟨nd, rfl⟩⟩; refine ⟨_, rfl, ?_⟩))
  go_ret
  exact ⟨zv, zbo⟩
 rw [if_neg c8] at H
 have c8b0 : decide (t155 < 0) = false := decide_eq_false c8
 clear c8
 obtain rfl := Option.some.inj H
 go_enter Try.func55, Try.ntmps55
 go_wp2_with (first | ((with_reducible refine gate_dst (N := 2) rfl ?_); refine zbx 2 #[.int .i8 a0_0, .slice A0_1 l0_1.length c0_1, .slice A0_2 l0_2.length c0_2] 31 ?_; intro gb153 hg w11 hbox hb; have n_ : _ ∧ _ ∧ _ ∧ _ := ⟨zb HB hb, Aside0.mk (hbox), zg HB hg, zg HB hg⟩; clear HB; obtain ⟨HB, BK153, GW153, GE153⟩ := n_; clear hb hbox hg; obtain ⟨z12_0, z12_1, z12_2, y12_0, y12_1, y12_2⟩ := zB3 BK153) | ((with_reducible refine gate_callee (f := 102) rfl ?_); refine goesL_ (some 8) rfl rfl Try.func102 (by kernel_rfl) rfl #[.slice A0_1 l0_1.length c0_1, .int .i64 a1] rfl zm ?_; (with_reducible refine (laws_heldNodeS.calls k _ _ l0_1 a1 t154 _ ?side1 ?side2 A3.out).mono ?_); (case side1 => exact zcc HB HR0_1.out); (case side2 => exact HC0_1.out); rintro e w' ⟨rfl, ⟨nd, rfl⟩⟩; refine ⟨_, rfl, ?_⟩) | ((with_reducible refine gate_callee (f := 103) rfl ?_); refine goesL_ (some 14) rfl rfl Try.func103 (by kernel_rfl) rfl #[.slice A0_2 l0_2.length c0_2, .int .i64 t154] rfl zm ?_; (with_reducible refine (laws_heldInt16S.calls k _ _ l0_2 t154 t155 _ ?side1 ?side2 A7.out).mono ?_); (case side1 => repeat (first | exact (Kd.C_below HR0_2.out zbo) | (with_reducible refine Kd.C_alloc ?_ _) | (with_reducible refine Kd.C_drewN ?_ _) | (with_reducible refine Kd.C_drew ?_))); (case side2 => exact HC0_2.out); rintro e w' ⟨rfl, ⟨nd, rfl⟩⟩; refine ⟨_, rfl, ?_⟩))
 go_ret
 exact ⟨zv, zbo⟩
end Go.Proofs.Ytmpmanfoiocfgaa.PFnExactBothNetworks
