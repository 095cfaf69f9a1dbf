-- WRITTEN by xprint.py, a program of this session's. Not trusted: Lean checks it.
-- packed by pack.py
import Derived.Test.YtmpmanfoiocfgaaPFnExactFormulaOfx0
import Derived.Test.YtmpmanfoiocfgaaPFnExactFormulaOfx1
import Derived.Test.YtmpmanfoiocfgaaTFnExactFormulaOfa
namespace Go.Proofs.Ytmpmanfoiocfgaa.PFnExactFormulaOf
open Go.RowKit Go.Proofs.YtmpmanfoiocfgaaW.PrintWords Go.Proofs.YtmpmanfoiocfgaaW.PrintLast Go.Proofs.YtmpmanfoiocfgaaW.PrintMore Go.Proofs.YtmpmanfoiocfgaaX
attribute [local go_sem] max2_int min2_int max_two min_two max_three min_three max_four min_four   -- for this text's walks alone
set_option maxHeartbeats 8000000
set_option maxRecDepth 100000
set_option linter.unusedVariables false
set_option linter.unusedSimpArgs false

def laws_eqInt16S.l0 : Nat → List Int → List Int → Int → Option (Bool)
  | 0, _, _, _ => none
  | k + 1, x0, x1, x5 => if x5 < (x0.length : Int) then (if 0 ≤ x5 then (if x5 < (x1.length : Int) then (if (rd x0 x5) = (rd x1 x5) then (laws_eqInt16S.l0 k x0 x1 (wrap64 (x5 + 1))) else (some false)) else (none)) else (none)) else (some true)
def laws_eqInt16S.f (k : Nat) (l0 : List Int) (l1 : List Int) : Option (Bool) := if (l0.length : Int) = (l1.length : Int) then (laws_eqInt16S.l0 k l0 l1 0) else (some false)
theorem laws_eqInt16S.mono_l : ∀ k, (∀ y0 y1 y2, LeO (laws_eqInt16S.l0 k y0 y1 y2) (laws_eqInt16S.l0 (k + 1) y0 y1 y2))
  | 0 => fun _ _ _ r h => by simp [laws_eqInt16S.l0] at h
  | k + 1 => by
    have ih0 := laws_eqInt16S.mono_l k
    · intro y0 y1 y2
      unfold laws_eqInt16S.l0
      repeat' first | (with_reducible first | apply ih0 | exact LeO.refl _ | exact LeO.none _ | refine LeO.ite ?_ ?_ | refine LeO.bind ?_ (fun _ => ?_)) | apply ih0 | exact LeO.none _ | refine LeO.ite ?_ ?_ | refine LeO.bind ?_ (fun _ => ?_)
theorem laws_eqInt16S.mono : ∀ a0 a1 k, LeO (laws_eqInt16S.f k a0 a1) (laws_eqInt16S.f (k + 1) a0 a1) := by
 intro a0 a1 k
 have ih0 := laws_eqInt16S.mono_l k
 unfold laws_eqInt16S.f
 repeat' first | (with_reducible first | apply ih0 | exact LeO.refl _ | exact LeO.none _ | refine LeO.ite ?_ ?_ | refine LeO.bind ?_ (fun _ => ?_)) | apply ih0 | exact LeO.none _ | refine LeO.ite ?_ ?_ | refine LeO.bind ?_ (fun _ => ?_)
theorem laws_eqInt16S.calls (k : Nat) (A0 : Option Addr) (c0 : Nat) (l0 : List Int) (A1 : Option Addr) (c1 : Nat) (l1 : List Int) (r : Bool) (w : World) (hr0 : Kd.C (Kd.int .i16) w A0 l0.length l0) (hc0 : l0.length ≤ c0) (hr1 : Kd.C (Kd.int .i16) w A1 l1.length l1) (hc1 : l1.length ≤ c1) (h : laws_eqInt16S.f k l0 l1 = some r) :
    Calls Try.prog 80 #[.slice A0 l0.length c0, .slice A1 l1.length c1] w fun e w' => e = .returned (.bool r) ∧ Drawn0 w w' := by
 have HR0 := Aside0.mk hr0
 have HC0 := Aside0.mk hc0
 clear hr0 hc0
 have HR1 := Aside0.mk hr1
 have HC1 := Aside0.mk hc1
 clear hr1 hc1
 have H : (if (l0.length : Int) = (l1.length : Int) then (laws_eqInt16S.l0 k l0 l1 0) else (some false)) = some r := h
 clear h
 by_cases c3 : (l0.length : Int) = (l1.length : Int)
 rotate_left
 ·rw [if_neg c3] at H
  have c3b0 : ((l0.length : Int) == (l1.length : Int)) = false := beq_eq_false_iff_ne.mpr c3
  have c3b1 : ((l0.length : Int) != (l1.length : Int)) = true := bne_iff_ne.mpr c3
  have c3b2 : (l0.length == l1.length) = false := by first | simpa using c3 | (simp at c3 ⊢; omega)
  obtain rfl := Option.some.inj H
  go_enter Try.func80, Try.ntmps80
  go_wp2
  repeat (go_quiet (fail); try go_wp2)
  go_ret
  exact ⟨zi, zdr⟩
 rw [if_pos c3] at H
 have c3b0 : ((l0.length : Int) == (l1.length : Int)) = true := beq_iff_eq.mpr c3
 have c3b1 : ((l0.length : Int) != (l1.length : Int)) = false := bne_eq_false_iff_eq.mpr c3
 have c3b2 : (l0.length == l1.length) = true := by first | simpa using c3 | (simp at c3 ⊢; omega)
 clear c3
 have H' := Aside0.mk H
 clear H
 go_enter Try.func80, Try.ntmps80
 go_wp2
 repeat (go_quiet (fail); try go_wp2)
 go_loopg [5] k (fun kq v5 w' => ∃ (x5_1 : Int), v5 = .int .i64 x5_1 ∧ Aside0 (laws_eqInt16S.l0 kq l0 l1 x5_1 = some r) ∧ Aside0 (kq ≤ k) ∧ Drawn0 w w')
 case atStart => exact ⟨(0), zi, H', ⟨Nat.le_refl _⟩, zdr⟩
 clear H'
 try clear c1
 try clear p2
 try clear c3
 try clear c3b0
 try clear c3b1
 try clear c3b2
 obtain ⟨x5_1, rfl, HA, HK1, ⟨m1, rfl⟩⟩ := hrel
 cases gk with
 | zero => exact absurd HA.out (by simp [laws_eqInt16S.l0])
 | succ k1 => ?_
 have H := HA.out
 clear HA
 simp only [laws_eqInt16S.l0] at H
 by_cases c4 : x5_1 < (l0.length : Int)
 rotate_left
 ·rw [if_neg c4] at H
  have c4b0 : decide (x5_1 < (l0.length : Int)) = false := decide_eq_false c4
  clear c4
  obtain rfl := Option.some.inj H
  go_wp2
  repeat (go_quiet (fail); try go_wp2)
  go_ret
  exact ⟨zi, zdr⟩
 rw [if_pos c4] at H
 have c4b0 : decide (x5_1 < (l0.length : Int)) = true := decide_eq_true c4
 clear c4
 by_cases c5 : 0 ≤ x5_1
 rotate_left
 ·rw [if_neg c5] at H
  exact absurd H (by simp)
 rw [if_pos c5] at H
 have c5b0 : decide (0 ≤ x5_1) = true := decide_eq_true c5
 clear c5
 by_cases c6 : x5_1 < (l1.length : Int)
 rotate_left
 ·rw [if_neg c6] at H
  exact absurd H (by simp)
 rw [if_pos c6] at H
 have c6b0 : decide (x5_1 < (l1.length : Int)) = true := decide_eq_true c6
 clear c6
 by_cases c7 : (rd l0 x5_1) = (rd l1 x5_1)
 rotate_left
 ·rw [if_neg c7] at H
  have c7b0 : ((rd l0 x5_1) == (rd l1 x5_1)) = false := beq_eq_false_iff_ne.mpr c7
  have c7b1 : ((rd l0 x5_1) != (rd l1 x5_1)) = true := bne_iff_ne.mpr c7
  obtain rfl := Option.some.inj H
  have p134 : 0 ≤ (x5_1 : Int) := of_decide_eq_true zA
  have q134 : x5_1 < (l0.length : Int) := of_decide_eq_true zA
  obtain ⟨ad134, e134, hx134_0⟩ := Kd.at_int HR0.out x5_1 p134 q134
  cases e134
  replace p134 := eq_true p134
  replace q134 := eq_true q134
  have p135 : 0 ≤ (x5_1 : Int) := of_decide_eq_true zA
  have q135 : x5_1 < (l1.length : Int) := of_decide_eq_true zA
  obtain ⟨ad135, e135, hx135_0⟩ := Kd.at_int HR1.out x5_1 p135 q135
  cases e135
  replace p135 := eq_true p135
  replace q135 := eq_true q135
  go_wp2
  repeat (go_quiet (fail); try go_wp2)
  go_ret
  exact ⟨zi, zdr⟩
 rw [if_pos c7] at H
 have c7b0 : ((rd l0 x5_1) == (rd l1 x5_1)) = true := beq_iff_eq.mpr c7
 have c7b1 : ((rd l0 x5_1) != (rd l1 x5_1)) = false := bne_eq_false_iff_eq.mpr c7
 clear c7
 have H' := Aside0.mk H
 clear H
 have p134 : 0 ≤ (x5_1 : Int) := of_decide_eq_true zA
 have q134 : x5_1 < (l0.length : Int) := of_decide_eq_true zA
 obtain ⟨ad134, e134, hx134_0⟩ := Kd.at_int HR0.out x5_1 p134 q134
 cases e134
 replace p134 := eq_true p134
 replace q134 := eq_true q134
 have p135 : 0 ≤ (x5_1 : Int) := of_decide_eq_true zA
 have q135 : x5_1 < (l1.length : Int) := of_decide_eq_true zA
 obtain ⟨ad135, e135, hx135_0⟩ := Kd.at_int HR1.out x5_1 p135 q135
 cases e135
 replace p135 := eq_true p135
 replace q135 := eq_true q135
 go_wp2
 repeat (go_quiet (fail); try go_wp2)
 go_roundg k1
 case measure => have := HK1.out; omega
 case rel => exact ⟨(wrap64 (x5_1 + 1)), zi, H', ⟨by have := HK1.out; omega⟩, zdr⟩
def laws_eqNetwork.f (k : Nat) (a0_0 : Int) (l0_1 : List (S81)) (l0_2 : List Int) (a1_0 : Int) (l1_1 : List (S81)) (l1_2 : List Int) : Option (Bool) := if a0_0 = a1_0 then ((laws_eqNodeS.f k l0_1 l1_1).bind fun t138 => (if t138 = true then ((laws_eqInt16S.f k l0_2 l1_2).bind fun t139 => (if t139 = true then (some true) else (some false))) else (some false))) else (some false)
theorem laws_eqNetwork.mono : ∀ a0 a1 a2 a3 a4 a5 k, LeO (laws_eqNetwork.f k a0 a1 a2 a3 a4 a5) (laws_eqNetwork.f (k + 1) a0 a1 a2 a3 a4 a5) := by
 intro a0 a1 a2 a3 a4 a5 k
 unfold laws_eqNetwork.f
 repeat' first | (with_reducible first | apply laws_eqInt16S.mono | apply laws_eqNodeS.mono | exact LeO.refl _ | exact LeO.none _ | refine LeO.ite ?_ ?_ | refine LeO.bind ?_ (fun _ => ?_)) | apply laws_eqInt16S.mono | apply laws_eqNodeS.mono | exact LeO.none _ | refine LeO.ite ?_ ?_ | refine LeO.bind ?_ (fun _ => ?_)
theorem laws_eqNetwork.calls (k : Nat) (a0_0 : Int) (A0_1 : Option Addr) (c0_1 : Nat) (l0_1 : List (S81)) (A0_2 : Option Addr) (c0_2 : Nat) (l0_2 : List Int) (a1_0 : Int) (A1_1 : Option Addr) (c1_1 : Nat) (l1_1 : List (S81)) (A1_2 : Option Addr) (c1_2 : Nat) (l1_2 : List Int) (r : Bool) (w : World) (hr0_1 : Kd.C k81 w A0_1 l0_1.length l0_1) (hc0_1 : l0_1.length ≤ c0_1) (hr0_2 : Kd.C (Kd.int .i16) w A0_2 l0_2.length l0_2) (hc0_2 : l0_2.length ≤ c0_2) (hr1_1 : Kd.C k81 w A1_1 l1_1.length l1_1) (hc1_1 : l1_1.length ≤ c1_1) (hr1_2 : Kd.C (Kd.int .i16) w A1_2 l1_2.length l1_2) (hc1_2 : l1_2.length ≤ c1_2) (h : laws_eqNetwork.f k a0_0 l0_1 l0_2 a1_0 l1_1 l1_2 = some r) :
    Calls Try.prog 25 #[.agg #[.int .i8 a0_0, .slice A0_1 l0_1.length c0_1, .slice A0_2 l0_2.length c0_2], .agg #[.int .i8 a1_0, .slice A1_1 l1_1.length c1_1, .slice A1_2 l1_2.length c1_2]] w fun e w' => e = .returned (.bool r) ∧ Below w.heap.size w w' := by
 have hu31 := Try.underlying31
 have HR0_1 := Aside0.mk hr0_1
 have HC0_1 := Aside0.mk hc0_1
 clear hr0_1 hc0_1
 have HR0_2 := Aside0.mk hr0_2
 have HC0_2 := Aside0.mk hc0_2
 clear hr0_2 hc0_2
 have HR1_1 := Aside0.mk hr1_1
 have HC1_1 := Aside0.mk hc1_1
 clear hr1_1 hc1_1
 have HR1_2 := Aside0.mk hr1_2
 have HC1_2 := Aside0.mk hc1_2
 clear hr1_2 hc1_2
 have HB := Aside0.mk (Below.refl w.heap.size w)
 have H : (if a0_0 = a1_0 then ((laws_eqNodeS.f k l0_1 l1_1).bind fun t138 => (if t138 = true then ((laws_eqInt16S.f k l0_2 l1_2).bind fun t139 => (if t139 = true then (some true) else (some false))) else (some false))) else (some false)) = some r := h
 clear h
 by_cases c3 : a0_0 = a1_0
 rotate_left
 ·rw [if_neg c3] at H
  have c3b0 : (a0_0 == a1_0) = false := beq_eq_false_iff_ne.mpr c3
  have c3b1 : (a0_0 != a1_0) = true := bne_iff_ne.mpr c3
  obtain rfl := Option.some.inj H
  go_enter Try.func25, Try.ntmps25
  go_wp2_with (first | ((with_reducible refine gate_dst (N := 2) rfl ?_); refine zbx 2 #[.int .i8 a0_0, .slice A0_1 l0_1.length c0_1, .slice A0_2 l0_2.length c0_2] 31 ?_; intro gb136 hg w30 hbox hb; have n_ : _ ∧ _ ∧ _ ∧ _ := ⟨zb HB hb, Aside0.mk (hbox), zg HB hg, zg HB hg⟩; clear HB; obtain ⟨HB, BK136, GW136, GE136⟩ := n_; clear hb hbox hg) | ((with_reducible refine gate_dst (N := 3) rfl ?_); refine zbx 3 #[.int .i8 a1_0, .slice A1_1 l1_1.length c1_1, .slice A1_2 l1_2.length c1_2] 31 ?_; intro gb137 hg w31 hbox hb; have n_ : _ ∧ _ ∧ _ ∧ _ ∧ _ ∧ _ ∧ _ := ⟨zk BK136 hb, zbs hb, Aside0.mk (hbox), zg HB hg, zg HB hg, zn1 BK136 hg, zn2 BK136 hg⟩; clear BK136 HB; obtain ⟨BK136, HB, BK137, GW137, GE137, NB136_137, NB137_136⟩ := n_; clear hb hbox hg; have hnb32 := NB136_137.out; have hnc32 := NB137_136.out; obtain ⟨z33_0, z33_1, z33_2, y33_0, y33_1, y33_2⟩ := zB3 BK136; obtain ⟨z34_0, z34_1, z34_2, y34_0, y34_1, y34_2⟩ := zB3 BK137))
  go_ret
  exact ⟨zv, zbo⟩
 rw [if_pos c3] at H
 have c3b0 : (a0_0 == a1_0) = true := beq_iff_eq.mpr c3
 have c3b1 : (a0_0 != a1_0) = false := bne_eq_false_iff_eq.mpr c3
 clear c3
 replace H := zob H
 obtain ⟨t138, A40, H⟩ := H
 replace H : (if t138 = true then ((laws_eqInt16S.f k l0_2 l1_2).bind fun t139 => (if t139 = true then (some true) else (some false))) else (some false)) = some r := H
 have A4 := Aside0.mk A40
 clear A40
 by_cases c5 : t138 = true
 rotate_left
 ·replace c5 := Bool.eq_false_iff.mpr c5
  subst c5
  have H1 : (some false) = some r := by rw [if_neg (show ¬ (false = true) by decide)] at H; exact H
  clear H
  have H := H1
  clear H1
  obtain rfl := Option.some.inj H
  go_enter Try.func25, Try.ntmps25
  go_wp2_with (first | ((with_reducible refine gate_dst (N := 2) rfl ?_); refine zbx 2 #[.int .i8 a0_0, .slice A0_1 l0_1.length c0_1, .slice A0_2 l0_2.length c0_2] 31 ?_; intro gb136 hg w24 hbox hb; have n_ : _ ∧ _ ∧ _ ∧ _ := ⟨zb HB hb, Aside0.mk (hbox), zg HB hg, zg HB hg⟩; clear HB; obtain ⟨HB, BK136, GW136, GE136⟩ := n_; clear hb hbox hg) | ((with_reducible refine gate_dst (N := 3) rfl ?_); refine zbx 3 #[.int .i8 a1_0, .slice A1_1 l1_1.length c1_1, .slice A1_2 l1_2.length c1_2] 31 ?_; intro gb137 hg w25 hbox hb; have n_ : _ ∧ _ ∧ _ ∧ _ ∧ _ ∧ _ ∧ _ := ⟨zk BK136 hb, zbs hb, Aside0.mk (hbox), zg HB hg, zg HB hg, zn1 BK136 hg, zn2 BK136 hg⟩; clear BK136 HB; obtain ⟨BK136, HB, BK137, GW137, GE137, NB136_137, NB137_136⟩ := n_; clear hb hbox hg; have hnb26 := NB136_137.out; have hnc26 := NB137_136.out; obtain ⟨z27_0, z27_1, z27_2, y27_0, y27_1, y27_2⟩ := zB3 BK136; obtain ⟨z28_0, z28_1, z28_2, y28_0, y28_1, y28_2⟩ := zB3 BK137) | ((with_reducible refine gate_callee (f := 79) rfl ?_); refine goesL_ (some 14) rfl rfl Try.func79 (by kernel_rfl) rfl #[.slice A0_1 l0_1.length c0_1, .slice A1_1 l1_1.length c1_1] rfl zm ?_; (with_reducible refine (laws_eqNodeS.calls k _ _ l0_1 _ _ l1_1 false _ ?side1 ?side2 ?side3 ?side4 A4.out).mono ?_); (case side1 => exact zcc HB HR0_1.out); (case side2 => exact HC0_1.out); (case side3 => exact zcc HB HR1_1.out); (case side4 => exact HC1_1.out); rintro e w29 ⟨rfl, hb⟩; refine ⟨_, rfl, ?_⟩; have n_ : _ ∧ _ ∧ _ := ⟨zk BK136 hb, zk BK137 hb, zbs hb⟩; clear BK136 BK137 HB; obtain ⟨BK136, BK137, HB⟩ := n_; (try clear hb); (try clear hb2); (try clear hk); (try clear hi)))
  go_ret
  exact ⟨zv, zbo⟩
 subst c5
 have H1 : ((laws_eqInt16S.f k l0_2 l1_2).bind fun t139 => (if t139 = true then (some true) else (some false))) = some r := by rw [if_pos rfl] at H; exact H
 clear H
 have H := H1
 clear H1
 replace H := zob H
 obtain ⟨t139, A60, H⟩ := H
 replace H : (if t139 = true then (some true) else (some false)) = some r := H
 have A6 := Aside0.mk A60
 clear A60
 by_cases c7 : t139 = true
 ·subst c7
  have H1 : (some true) = some r := by rw [if_pos rfl] at H; exact H
  clear H
  have H := H1
  clear H1
  obtain rfl := Option.some.inj H
  go_enter Try.func25, Try.ntmps25
  go_wp2_with (first | ((with_reducible refine gate_dst (N := 2) rfl ?_); refine zbx 2 #[.int .i8 a0_0, .slice A0_1 l0_1.length c0_1, .slice A0_2 l0_2.length c0_2] 31 ?_; intro gb136 hg w8 hbox hb; have n_ : _ ∧ _ ∧ _ ∧ _ := ⟨zb HB hb, Aside0.mk (hbox), zg HB hg, zg HB hg⟩; clear HB; obtain ⟨HB, BK136, GW136, GE136⟩ := n_; clear hb hbox hg) | ((with_reducible refine gate_dst (N := 3) rfl ?_); refine zbx 3 #[.int .i8 a1_0, .slice A1_1 l1_1.length c1_1, .slice A1_2 l1_2.length c1_2] 31 ?_; intro gb137 hg w9 hbox hb; have n_ : _ ∧ _ ∧ _ ∧ _ ∧ _ ∧ _ ∧ _ := ⟨zk BK136 hb, zbs hb, Aside0.mk (hbox), zg HB hg, zg HB hg, zn1 BK136 hg, zn2 BK136 hg⟩; clear BK136 HB; obtain ⟨BK136, HB, BK137, GW137, GE137, NB136_137, NB137_136⟩ := n_; clear hb hbox hg; have hnb10 := NB136_137.out; have hnc10 := NB137_136.out; obtain ⟨z11_0, z11_1, z11_2, y11_0, y11_1, y11_2⟩ := zB3 BK136; obtain ⟨z12_0, z12_1, z12_2, y12_0, y12_1, y12_2⟩ := zB3 BK137) | ((with_reducible refine gate_callee (f := 79) rfl ?_); refine goesL_ (some 14) rfl rfl Try.func79 (by kernel_rfl) rfl #[.slice A0_1 l0_1.length c0_1, .slice A1_1 l1_1.length c1_1] rfl zm ?_; (with_reducible refine (laws_eqNodeS.calls k _ _ l0_1 _ _ l1_1 true _ ?side1 ?side2 ?side3 ?side4 A4.out).mono ?_); (case side1 => exact zcc HB HR0_1.out); (case side2 => exact HC0_1.out); (case side3 => exact zcc HB HR1_1.out); (case side4 => exact HC1_1.out); rintro e w13 ⟨rfl, hb⟩; refine ⟨_, rfl, ?_⟩; have n_ : _ ∧ _ ∧ _ := ⟨zk BK136 hb, zk BK137 hb, zbs hb⟩; clear BK136 BK137 HB; obtain ⟨BK136, BK137, HB⟩ := n_; (try clear hb); (try clear hb2); (try clear hk); (try clear hi); obtain ⟨z14_0, z14_1, z14_2, y14_0, y14_1, y14_2⟩ := zB3 BK136; obtain ⟨z15_0, z15_1, z15_2, y15_0, y15_1, y15_2⟩ := zB3 BK137) | ((with_reducible refine gate_callee (f := 80) rfl ?_); refine goesL_ (some 20) rfl rfl Try.func80 (by kernel_rfl) rfl #[.slice A0_2 l0_2.length c0_2, .slice A1_2 l1_2.length c1_2] rfl zm ?_; (with_reducible refine (laws_eqInt16S.calls k _ _ l0_2 _ _ l1_2 true _ ?side1 ?side2 ?side3 ?side4 A6.out).mono ?_); (case side1 => exact zcc HB HR0_2.out); (case side2 => exact HC0_2.out); (case side3 => exact zcc HB HR1_2.out); (case side4 => exact HC1_2.out); rintro e w' ⟨rfl, ⟨nd, rfl⟩⟩; refine ⟨_, rfl, ?_⟩))
  go_ret
  exact ⟨zv, zbo⟩
 replace c7 := Bool.eq_false_iff.mpr c7
 subst c7
 have H1 : (some false) = some r := by rw [if_neg (show ¬ (false = true) by decide)] at H; exact H
 clear H
 have H := H1
 clear H1
 obtain rfl := Option.some.inj H
 go_enter Try.func25, Try.ntmps25
 go_wp2_with (first | ((with_reducible refine gate_dst (N := 2) rfl ?_); refine zbx 2 #[.int .i8 a0_0, .slice A0_1 l0_1.length c0_1, .slice A0_2 l0_2.length c0_2] 31 ?_; intro gb136 hg w16 hbox hb; have n_ : _ ∧ _ ∧ _ ∧ _ := ⟨zb HB hb, Aside0.mk (hbox), zg HB hg, zg HB hg⟩; clear HB; obtain ⟨HB, BK136, GW136, GE136⟩ := n_; clear hb hbox hg) | ((with_reducible refine gate_dst (N := 3) rfl ?_); refine zbx 3 #[.int .i8 a1_0, .slice A1_1 l1_1.length c1_1, .slice A1_2 l1_2.length c1_2] 31 ?_; intro gb137 hg w17 hbox hb; have n_ : _ ∧ _ ∧ _ ∧ _ ∧ _ ∧ _ ∧ _ := ⟨zk BK136 hb, zbs hb, Aside0.mk (hbox), zg HB hg, zg HB hg, zn1 BK136 hg, zn2 BK136 hg⟩; clear BK136 HB; obtain ⟨BK136, HB, BK137, GW137, GE137, NB136_137, NB137_136⟩ := n_; clear hb hbox hg; have hnb18 := NB136_137.out; have hnc18 := NB137_136.out; obtain ⟨z19_0, z19_1, z19_2, y19_0, y19_1, y19_2⟩ := zB3 BK136; obtain ⟨z20_0, z20_1, z20_2, y20_0, y20_1, y20_2⟩ := zB3 BK137) | ((with_reducible refine gate_callee (f := 79) rfl ?_); refine goesL_ (some 14) rfl rfl Try.func79 (by kernel_rfl) rfl #[.slice A0_1 l0_1.length c0_1, .slice A1_1 l1_1.length c1_1] rfl zm ?_; (with_reducible refine (laws_eqNodeS.calls k _ _ l0_1 _ _ l1_1 true _ ?side1 ?side2 ?side3 ?side4 A4.out).mono ?_); (case side1 => exact zcc HB HR0_1.out); (case side2 => exact HC0_1.out); (case side3 => exact zcc HB HR1_1.out); (case side4 => exact HC1_1.out); rintro e w21 ⟨rfl, hb⟩; refine ⟨_, rfl, ?_⟩; have n_ : _ ∧ _ ∧ _ := ⟨zk BK136 hb, zk BK137 hb, zbs hb⟩; clear BK136 BK137 HB; obtain ⟨BK136, BK137, HB⟩ := n_; (try clear hb); (try clear hb2); (try clear hk); (try clear hi); obtain ⟨z22_0, z22_1, z22_2, y22_0, y22_1, y22_2⟩ := zB3 BK136; obtain ⟨z23_0, z23_1, z23_2, y23_0, y23_1, y23_2⟩ := zB3 BK137) | ((with_reducible refine gate_callee (f := 80) rfl ?_); refine goesL_ (some 20) rfl rfl Try.func80 (by kernel_rfl) rfl #[.slice A0_2 l0_2.length c0_2, .slice A1_2 l1_2.length c1_2] rfl zm ?_; (with_reducible refine (laws_eqInt16S.calls k _ _ l0_2 _ _ l1_2 false _ ?side1 ?side2 ?side3 ?side4 A6.out).mono ?_); (case side1 => exact zcc HB HR0_2.out); (case side2 => exact HC0_2.out); (case side3 => exact zcc HB HR1_2.out); (case side4 => exact HC1_2.out); rintro e w' ⟨rfl, ⟨nd, rfl⟩⟩; refine ⟨_, rfl, ?_⟩))
 go_ret
 exact ⟨zv, zbo⟩
def spec_l00In.f (a0 : Int) (a1 : Int) (a2 : Int) : Option (Bool) := if a0 ≥ a1 then (some (decide (a0 ≤ a2))) else (some false)
theorem spec_l00In.calls (a0 : Int) (a1 : Int) (a2 : Int) (r : Bool) (w : World) (h : spec_l00In.f a0 a1 a2 = some r) :
    Calls Try.prog 87 #[.int .i64 a0, .int .i64 a1, .int .i64 a2] w fun e w' => e = .returned (.bool r) ∧ Drawn0 w w' := by
 have H : (if a0 ≥ a1 then (some (decide (a0 ≤ a2))) else (some false)) = some r := h
 clear h
 by_cases c4 : a0 ≥ a1
 ·rw [if_pos c4] at H
  have c4b0 : decide (a1 ≤ a0) = true := decide_eq_true c4
  clear c4
  obtain rfl := Option.some.inj H
  go_enter Try.func87, Try.ntmps87
  go_wp2
  go_ret
  exact ⟨zi, zdr⟩
 rw [if_neg c4] at H
 have c4b0 : decide (a1 ≤ a0) = false := decide_eq_false c4
 clear c4
 obtain rfl := Option.some.inj H
 go_enter Try.func87, Try.ntmps87
 go_wp2
 go_ret
 exact ⟨zi, zdr⟩
def spec_l04Node.f (l0 : List (S31)) (a1 : Int) : Option (Bool) := if 0 < (l0.length : Int) then (if 0 ≤ a1 then (if a1 < (((rd_T31 l0 0).f1).length : Int) then (if ((rd_T81 ((rd_T31 l0 0).f1) a1).f0) = 0 then (if ((rd_T81 ((rd_T31 l0 0).f1) a1).f1) ≥ 0 then (if ((rd_T81 ((rd_T31 l0 0).f1) a1).f1) < (IntKind.i16.wrap ((rd_T31 l0 0).f0)) then (some (((rd_T81 ((rd_T31 l0 0).f1) a1).f2) == 0)) else (some false)) else (some false)) else (if ((rd_T81 ((rd_T31 l0 0).f1) a1).f0) = 1 then (if ((rd_T81 ((rd_T31 l0 0).f1) a1).f1) = 0 then (some (((rd_T81 ((rd_T31 l0 0).f1) a1).f2) == 0)) else (some false)) else (if ((rd_T81 ((rd_T31 l0 0).f1) a1).f0) = 2 then (if ((rd_T81 ((rd_T31 l0 0).f1) a1).f1) ≥ 0 then (if (wrap64 ((rd_T81 ((rd_T31 l0 0).f1) a1).f1)) < a1 then (if ((rd_T81 ((rd_T31 l0 0).f1) a1).f2) ≥ 0 then (some (decide ((wrap64 ((rd_T81 ((rd_T31 l0 0).f1) a1).f2)) < a1))) else (some false)) else (some false)) else (some false)) else (if ((rd_T81 ((rd_T31 l0 0).f1) a1).f0) = 3 then (if ((rd_T81 ((rd_T31 l0 0).f1) a1).f1) ≥ 0 then (if (wrap64 ((rd_T81 ((rd_T31 l0 0).f1) a1).f1)) < a1 then (if ((rd_T81 ((rd_T31 l0 0).f1) a1).f2) ≥ 0 then (some (decide ((wrap64 ((rd_T81 ((rd_T31 l0 0).f1) a1).f2)) < a1))) else (some false)) else (some false)) else (some false)) else (some false))))) else (none)) else (none)) else (none)
theorem spec_l04Node.calls (adp0 : Addr) (l0 : List (S31)) (a1 : Int) (r : Bool) (w : World) (hr0 : Kd.C k31 w (some adp0) l0.length l0) (h : spec_l04Node.f l0 a1 = some r) :
    Calls Try.prog 125 #[.pointer (some adp0), .int .i64 a1] w fun e w' => e = .returned (.bool r) ∧ Below w.heap.size w w' := by
 have hu81 := Try.underlying81
 have HR0 := Aside0.mk hr0
 clear hr0
 have HB := Aside0.mk (Below.refl w.heap.size w)
 have H : (if 0 < (l0.length : Int) then (if 0 ≤ a1 then (if a1 < (((rd_T31 l0 0).f1).length : Int) then (if ((rd_T81 ((rd_T31 l0 0).f1) a1).f0) = 0 then (if ((rd_T81 ((rd_T31 l0 0).f1) a1).f1) ≥ 0 then (if ((rd_T81 ((rd_T31 l0 0).f1) a1).f1) < (IntKind.i16.wrap ((rd_T31 l0 0).f0)) then (some (((rd_T81 ((rd_T31 l0 0).f1) a1).f2) == 0)) else (some false)) else (some false)) else (if ((rd_T81 ((rd_T31 l0 0).f1) a1).f0) = 1 then (if ((rd_T81 ((rd_T31 l0 0).f1) a1).f1) = 0 then (some (((rd_T81 ((rd_T31 l0 0).f1) a1).f2) == 0)) else (some false)) else (if ((rd_T81 ((rd_T31 l0 0).f1) a1).f0) = 2 then (if ((rd_T81 ((rd_T31 l0 0).f1) a1).f1) ≥ 0 then (if (wrap64 ((rd_T81 ((rd_T31 l0 0).f1) a1).f1)) < a1 then (if ((rd_T81 ((rd_T31 l0 0).f1) a1).f2) ≥ 0 then (some (decide ((wrap64 ((rd_T81 ((rd_T31 l0 0).f1) a1).f2)) < a1))) else (some false)) else (some false)) else (some false)) else (if ((rd_T81 ((rd_T31 l0 0).f1) a1).f0) = 3 then (if ((rd_T81 ((rd_T31 l0 0).f1) a1).f1) ≥ 0 then (if (wrap64 ((rd_T81 ((rd_T31 l0 0).f1) a1).f1)) < a1 then (if ((rd_T81 ((rd_T31 l0 0).f1) a1).f2) ≥ 0 then (some (decide ((wrap64 ((rd_T81 ((rd_T31 l0 0).f1) a1).f2)) < a1))) else (some false)) else (some false)) else (some false)) else (some false))))) else (none)) else (none)) else (none)) = some r := h
 clear h
 by_cases c3 : 0 < (l0.length : Int)
 rotate_left
 ·rw [if_neg c3] at H
  exact absurd H (by simp)
 rw [if_pos c3] at H
 have c3b0 : decide (0 < (l0.length : Int)) = true := decide_eq_true c3
 have c3b1 : decide (0 < l0.length) = true := decide_eq_true (by omega)
 clear c3
 by_cases c4 : 0 ≤ a1
 rotate_left
 ·rw [if_neg c4] at H
  exact absurd H (by simp)
 rw [if_pos c4] at H
 have c4b0 : decide (0 ≤ a1) = true := decide_eq_true c4
 clear c4
 by_cases c5 : a1 < (((rd_T31 l0 0).f1).length : Int)
 rotate_left
 ·rw [if_neg c5] at H
  exact absurd H (by simp)
 rw [if_pos c5] at H
 have c5b0 : decide (a1 < (((rd_T31 l0 0).f1).length : Int)) = true := decide_eq_true c5
 clear c5
 by_cases c6 : ((rd_T81 ((rd_T31 l0 0).f1) a1).f0) = 0
 ·rw [if_pos c6] at H
  have c6b0 : (((rd_T81 ((rd_T31 l0 0).f1) a1).f0) == 0) = true := beq_iff_eq.mpr c6
  have c6b1 : (((rd_T81 ((rd_T31 l0 0).f1) a1).f0) != 0) = false := bne_eq_false_iff_eq.mpr c6
  clear c6
  by_cases c7 : ((rd_T81 ((rd_T31 l0 0).f1) a1).f1) ≥ 0
  rotate_left
  ·rw [if_neg c7] at H
   have c7b0 : decide (0 ≤ ((rd_T81 ((rd_T31 l0 0).f1) a1).f1)) = false := decide_eq_false c7
   clear c7
   obtain rfl := Option.some.inj H
   have p140 : 0 ≤ (0 : Int) := (by omega)
   have q140 : 0 < (l0.length : Int) := of_decide_eq_true zA
   obtain ⟨ad140, A140_1, c140_1, A140_2, c140_2, e140, hx140_0, hx140_1, hx140_2, hl140_1, hi140_1, hl140_2, hi140_2⟩ := at_T31 HR0.out 0 p140 q140
   obtain rfl : adp0 = ad140 := (by injection e140)
   have qi140 : (0 < l0.length) = True := eq_true (by omega)
   try simp only [z00, Nat.zero_mul, Addr.add_zero'] at hx140_0 hx140_1 hx140_2
   have HR140_1 := Aside0.mk hi140_1
   have HC140_1 := Aside0.mk hl140_1
   clear hi140_1 hl140_1
   have HR140_2 := Aside0.mk hi140_2
   have HC140_2 := Aside0.mk hl140_2
   clear hi140_2 hl140_2
   replace p140 := eq_true p140
   replace q140 := eq_true q140
   have p141 : 0 ≤ (a1 : Int) := of_decide_eq_true zA
   have q141 : a1 < (((rd_T31 l0 0).f1).length : Int) := of_decide_eq_true zA
   obtain ⟨ad141, e141, hx141_0, hx141_1, hx141_2⟩ := at_T81 HR140_1.out a1 p141 q141
   cases e141
   replace p141 := eq_true p141
   replace q141 := eq_true q141
   go_enter Try.func125, Try.ntmps125
   go_wp2_with (first | ((with_reducible refine gate_dst (N := 5) rfl ?_); refine zbx 5 #[.int .i8 0, .int .i16 0, .int .i16 0] 81 ?_; intro gb142 hg w13 hbox hb; have n_ : _ ∧ _ ∧ _ ∧ _ := ⟨zb HB hb, Aside0.mk (hbox), zg HB hg, zg HB hg⟩; clear HB; obtain ⟨HB, BK142, GW142, GE142⟩ := n_; clear hb hbox hg; obtain ⟨z14_0, z14_1, z14_2, y14_0, y14_1, y14_2⟩ := zB3 BK142) | go_quiet (fail))
   go_ret
   exact ⟨zv, zbo⟩
  rw [if_pos c7] at H
  have c7b0 : decide (0 ≤ ((rd_T81 ((rd_T31 l0 0).f1) a1).f1)) = true := decide_eq_true c7
  clear c7
  by_cases c8 : ((rd_T81 ((rd_T31 l0 0).f1) a1).f1) < (IntKind.i16.wrap ((rd_T31 l0 0).f0))
  ·rw [if_pos c8] at H
   have c8b0 : decide (((rd_T81 ((rd_T31 l0 0).f1) a1).f1) < (IntKind.i16.wrap ((rd_T31 l0 0).f0))) = true := decide_eq_true c8
   clear c8
   obtain rfl := Option.some.inj H
   have p140 : 0 ≤ (0 : Int) := (by omega)
   have q140 : 0 < (l0.length : Int) := of_decide_eq_true zA
   obtain ⟨ad140, A140_1, c140_1, A140_2, c140_2, e140, hx140_0, hx140_1, hx140_2, hl140_1, hi140_1, hl140_2, hi140_2⟩ := at_T31 HR0.out 0 p140 q140
   obtain rfl : adp0 = ad140 := (by injection e140)
   have qi140 : (0 < l0.length) = True := eq_true (by omega)
   try simp only [z00, Nat.zero_mul, Addr.add_zero'] at hx140_0 hx140_1 hx140_2
   have HR140_1 := Aside0.mk hi140_1
   have HC140_1 := Aside0.mk hl140_1
   clear hi140_1 hl140_1
   have HR140_2 := Aside0.mk hi140_2
   have HC140_2 := Aside0.mk hl140_2
   clear hi140_2 hl140_2
   replace p140 := eq_true p140
   replace q140 := eq_true q140
   have p141 : 0 ≤ (a1 : Int) := of_decide_eq_true zA
   have q141 : a1 < (((rd_T31 l0 0).f1).length : Int) := of_decide_eq_true zA
   obtain ⟨ad141, e141, hx141_0, hx141_1, hx141_2⟩ := at_T81 HR140_1.out a1 p141 q141
   cases e141
   replace p141 := eq_true p141
   replace q141 := eq_true q141
   go_enter Try.func125, Try.ntmps125
   go_wp2_with (first | ((with_reducible refine gate_dst (N := 5) rfl ?_); refine zbx 5 #[.int .i8 0, .int .i16 0, .int .i16 0] 81 ?_; intro gb142 hg w9 hbox hb; have n_ : _ ∧ _ ∧ _ ∧ _ := ⟨zb HB hb, Aside0.mk (hbox), zg HB hg, zg HB hg⟩; clear HB; obtain ⟨HB, BK142, GW142, GE142⟩ := n_; clear hb hbox hg; obtain ⟨z10_0, z10_1, z10_2, y10_0, y10_1, y10_2⟩ := zB3 BK142; have p143 : 0 ≤ (0 : Int) := (by omega); have q143 : 0 < (l0.length : Int) := of_decide_eq_true zA; obtain ⟨ad143, A143_1, c143_1, A143_2, c143_2, e143, hx143_0, hx143_1, hx143_2, hl143_1, hi143_1, hl143_2, hi143_2⟩ := at_T31 HR0.out 0 p143 q143; obtain rfl : adp0 = ad143 := (by injection e143); have qi143 : (0 < l0.length) = True := eq_true (by omega); (try simp only [z00, Nat.zero_mul, Addr.add_zero'] at hx143_0 hx143_1 hx143_2); have hn143_0 : adp0.block ≠ gb142 := Nat.ne_of_lt (Nat.lt_of_lt_of_le (by have := World.block_lt_of_cell? _ _ hx143_0; first | rwa [add_block] at this | exact this) GW142.out); have hn143_1 : adp0.block ≠ gb142 := Nat.ne_of_lt (Nat.lt_of_lt_of_le (by have := World.block_lt_of_cell? _ _ hx143_0; first | rwa [add_block] at this | exact this) GW142.out); have hn143_2 : adp0.block ≠ gb142 := Nat.ne_of_lt (Nat.lt_of_lt_of_le (by have := World.block_lt_of_cell? _ _ hx143_0; first | rwa [add_block] at this | exact this) GW142.out); replace hx143_0 := zc HB hx143_0; replace hx143_1 := zc HB hx143_1; replace hx143_2 := zc HB hx143_2; have HR143_1 := Aside0.mk hi143_1; have HC143_1 := Aside0.mk hl143_1; clear hi143_1 hl143_1; have HR143_2 := Aside0.mk hi143_2; have HC143_2 := Aside0.mk hl143_2; clear hi143_2 hl143_2; replace hx143_0 := (cell_far (p := ⟨gb142, 0, none⟩) (by first | (rw [add_block]; exact hn143_0) | (show (Addr.add _ _).block ≠ _; rw [add_block]; exact hn143_0) | exact hn143_0) (.int .i8 ((rd_T81 ((rd_T31 l0 0).f1) a1).f0))).trans hx143_0; replace hx143_1 := (cell_far (p := ⟨gb142, 0, none⟩) (by first | (rw [add_block]; exact hn143_0) | (show (Addr.add _ _).block ≠ _; rw [add_block]; exact hn143_0) | exact hn143_0) (.int .i8 ((rd_T81 ((rd_T31 l0 0).f1) a1).f0))).trans hx143_1; replace hx143_2 := (cell_far (p := ⟨gb142, 0, none⟩) (by first | (rw [add_block]; exact hn143_0) | (show (Addr.add _ _).block ≠ _; rw [add_block]; exact hn143_0) | exact hn143_0) (.int .i8 ((rd_T81 ((rd_T31 l0 0).f1) a1).f0))).trans hx143_2; replace hx143_0 := (cell_far (p := ⟨gb142, 1, none⟩) (by first | (rw [add_block]; exact hn143_1) | (show (Addr.add _ _).block ≠ _; rw [add_block]; exact hn143_1) | exact hn143_1) (.int .i16 ((rd_T81 ((rd_T31 l0 0).f1) a1).f1))).trans hx143_0; replace hx143_1 := (cell_far (p := ⟨gb142, 1, none⟩) (by first | (rw [add_block]; exact hn143_1) | (show (Addr.add _ _).block ≠ _; rw [add_block]; exact hn143_1) | exact hn143_1) (.int .i16 ((rd_T81 ((rd_T31 l0 0).f1) a1).f1))).trans hx143_1; replace hx143_2 := (cell_far (p := ⟨gb142, 1, none⟩) (by first | (rw [add_block]; exact hn143_1) | (show (Addr.add _ _).block ≠ _; rw [add_block]; exact hn143_1) | exact hn143_1) (.int .i16 ((rd_T81 ((rd_T31 l0 0).f1) a1).f1))).trans hx143_2; replace hx143_0 := (cell_far (p := ⟨gb142, 2, none⟩) (by first | (rw [add_block]; exact hn143_2) | (show (Addr.add _ _).block ≠ _; rw [add_block]; exact hn143_2) | exact hn143_2) (.int .i16 ((rd_T81 ((rd_T31 l0 0).f1) a1).f2))).trans hx143_0; replace hx143_1 := (cell_far (p := ⟨gb142, 2, none⟩) (by first | (rw [add_block]; exact hn143_2) | (show (Addr.add _ _).block ≠ _; rw [add_block]; exact hn143_2) | exact hn143_2) (.int .i16 ((rd_T81 ((rd_T31 l0 0).f1) a1).f2))).trans hx143_1; replace hx143_2 := (cell_far (p := ⟨gb142, 2, none⟩) (by first | (rw [add_block]; exact hn143_2) | (show (Addr.add _ _).block ≠ _; rw [add_block]; exact hn143_2) | exact hn143_2) (.int .i16 ((rd_T81 ((rd_T31 l0 0).f1) a1).f2))).trans hx143_2; (try have hy143_0 := fun (n_ : Nat) => (show (((((w9.drewN n_).setCell ⟨gb142, 0, none⟩ (.int .i8 ((rd_T81 ((rd_T31 l0 0).f1) a1).f0))).setCell ⟨gb142, 1, none⟩ (.int .i16 ((rd_T81 ((rd_T31 l0 0).f1) a1).f1))).setCell ⟨gb142, 2, none⟩ (.int .i16 ((rd_T81 ((rd_T31 l0 0).f1) a1).f2)))).cell? _ = some _ from hx143_0)); (try have hy143_1 := fun (n_ : Nat) => (show (((((w9.drewN n_).setCell ⟨gb142, 0, none⟩ (.int .i8 ((rd_T81 ((rd_T31 l0 0).f1) a1).f0))).setCell ⟨gb142, 1, none⟩ (.int .i16 ((rd_T81 ((rd_T31 l0 0).f1) a1).f1))).setCell ⟨gb142, 2, none⟩ (.int .i16 ((rd_T81 ((rd_T31 l0 0).f1) a1).f2)))).cell? _ = some _ from hx143_1)); (try have hy143_2 := fun (n_ : Nat) => (show (((((w9.drewN n_).setCell ⟨gb142, 0, none⟩ (.int .i8 ((rd_T81 ((rd_T31 l0 0).f1) a1).f0))).setCell ⟨gb142, 1, none⟩ (.int .i16 ((rd_T81 ((rd_T31 l0 0).f1) a1).f1))).setCell ⟨gb142, 2, none⟩ (.int .i16 ((rd_T81 ((rd_T31 l0 0).f1) a1).f2)))).cell? _ = some _ from hx143_2)); clear hn143_0; clear hn143_1; clear hn143_2; replace p143 := eq_true p143; replace q143 := eq_true q143) | go_quiet (fail))
   go_ret
   exact ⟨zv, zbo⟩
  rw [if_neg c8] at H
  have c8b0 : decide (((rd_T81 ((rd_T31 l0 0).f1) a1).f1) < (IntKind.i16.wrap ((rd_T31 l0 0).f0))) = false := decide_eq_false c8
  clear c8
  obtain rfl := Option.some.inj H
  have p140 : 0 ≤ (0 : Int) := (by omega)
  have q140 : 0 < (l0.length : Int) := of_decide_eq_true zA
  obtain ⟨ad140, A140_1, c140_1, A140_2, c140_2, e140, hx140_0, hx140_1, hx140_2, hl140_1, hi140_1, hl140_2, hi140_2⟩ := at_T31 HR0.out 0 p140 q140
  obtain rfl : adp0 = ad140 := (by injection e140)
  have qi140 : (0 < l0.length) = True := eq_true (by omega)
  try simp only [z00, Nat.zero_mul, Addr.add_zero'] at hx140_0 hx140_1 hx140_2
  have HR140_1 := Aside0.mk hi140_1
  have HC140_1 := Aside0.mk hl140_1
  clear hi140_1 hl140_1
  have HR140_2 := Aside0.mk hi140_2
  have HC140_2 := Aside0.mk hl140_2
  clear hi140_2 hl140_2
  replace p140 := eq_true p140
  replace q140 := eq_true q140
  have p141 : 0 ≤ (a1 : Int) := of_decide_eq_true zA
  have q141 : a1 < (((rd_T31 l0 0).f1).length : Int) := of_decide_eq_true zA
  obtain ⟨ad141, e141, hx141_0, hx141_1, hx141_2⟩ := at_T81 HR140_1.out a1 p141 q141
  cases e141
  replace p141 := eq_true p141
  replace q141 := eq_true q141
  go_enter Try.func125, Try.ntmps125
  go_wp2_with (first | ((with_reducible refine gate_dst (N := 5) rfl ?_); refine zbx 5 #[.int .i8 0, .int .i16 0, .int .i16 0] 81 ?_; intro gb142 hg w11 hbox hb; have n_ : _ ∧ _ ∧ _ ∧ _ := ⟨zb HB hb, Aside0.mk (hbox), zg HB hg, zg HB hg⟩; clear HB; obtain ⟨HB, BK142, GW142, GE142⟩ := n_; clear hb hbox hg; obtain ⟨z12_0, z12_1, z12_2, y12_0, y12_1, y12_2⟩ := zB3 BK142; have p143 : 0 ≤ (0 : Int) := (by omega); have q143 : 0 < (l0.length : Int) := of_decide_eq_true zA; obtain ⟨ad143, A143_1, c143_1, A143_2, c143_2, e143, hx143_0, hx143_1, hx143_2, hl143_1, hi143_1, hl143_2, hi143_2⟩ := at_T31 HR0.out 0 p143 q143; obtain rfl : adp0 = ad143 := (by injection e143); have qi143 : (0 < l0.length) = True := eq_true (by omega); (try simp only [z00, Nat.zero_mul, Addr.add_zero'] at hx143_0 hx143_1 hx143_2); have hn143_0 : adp0.block ≠ gb142 := Nat.ne_of_lt (Nat.lt_of_lt_of_le (by have := World.block_lt_of_cell? _ _ hx143_0; first | rwa [add_block] at this | exact this) GW142.out); have hn143_1 : adp0.block ≠ gb142 := Nat.ne_of_lt (Nat.lt_of_lt_of_le (by have := World.block_lt_of_cell? _ _ hx143_0; first | rwa [add_block] at this | exact this) GW142.out); have hn143_2 : adp0.block ≠ gb142 := Nat.ne_of_lt (Nat.lt_of_lt_of_le (by have := World.block_lt_of_cell? _ _ hx143_0; first | rwa [add_block] at this | exact this) GW142.out); replace hx143_0 := zc HB hx143_0; replace hx143_1 := zc HB hx143_1; replace hx143_2 := zc HB hx143_2; have HR143_1 := Aside0.mk hi143_1; have HC143_1 := Aside0.mk hl143_1; clear hi143_1 hl143_1; have HR143_2 := Aside0.mk hi143_2; have HC143_2 := Aside0.mk hl143_2; clear hi143_2 hl143_2; replace hx143_0 := (cell_far (p := ⟨gb142, 0, none⟩) (by first | (rw [add_block]; exact hn143_0) | (show (Addr.add _ _).block ≠ _; rw [add_block]; exact hn143_0) | exact hn143_0) (.int .i8 ((rd_T81 ((rd_T31 l0 0).f1) a1).f0))).trans hx143_0; replace hx143_1 := (cell_far (p := ⟨gb142, 0, none⟩) (by first | (rw [add_block]; exact hn143_0) | (show (Addr.add _ _).block ≠ _; rw [add_block]; exact hn143_0) | exact hn143_0) (.int .i8 ((rd_T81 ((rd_T31 l0 0).f1) a1).f0))).trans hx143_1; replace hx143_2 := (cell_far (p := ⟨gb142, 0, none⟩) (by first | (rw [add_block]; exact hn143_0) | (show (Addr.add _ _).block ≠ _; rw [add_block]; exact hn143_0) | exact hn143_0) (.int .i8 ((rd_T81 ((rd_T31 l0 0).f1) a1).f0))).trans hx143_2; replace hx143_0 := (cell_far (p := ⟨gb142, 1, none⟩) (by first | (rw [add_block]; exact hn143_1) | (show (Addr.add _ _).block ≠ _; rw [add_block]; exact hn143_1) | exact hn143_1) (.int .i16 ((rd_T81 ((rd_T31 l0 0).f1) a1).f1))).trans hx143_0; replace hx143_1 := (cell_far (p := ⟨gb142, 1, none⟩) (by first | (rw [add_block]; exact hn143_1) | (show (Addr.add _ _).block ≠ _; rw [add_block]; exact hn143_1) | exact hn143_1) (.int .i16 ((rd_T81 ((rd_T31 l0 0).f1) a1).f1))).trans hx143_1; replace hx143_2 := (cell_far (p := ⟨gb142, 1, none⟩) (by first | (rw [add_block]; exact hn143_1) | (show (Addr.add _ _).block ≠ _; rw [add_block]; exact hn143_1) | exact hn143_1) (.int .i16 ((rd_T81 ((rd_T31 l0 0).f1) a1).f1))).trans hx143_2; replace hx143_0 := (cell_far (p := ⟨gb142, 2, none⟩) (by first | (rw [add_block]; exact hn143_2) | (show (Addr.add _ _).block ≠ _; rw [add_block]; exact hn143_2) | exact hn143_2) (.int .i16 ((rd_T81 ((rd_T31 l0 0).f1) a1).f2))).trans hx143_0; replace hx143_1 := (cell_far (p := ⟨gb142, 2, none⟩) (by first | (rw [add_block]; exact hn143_2) | (show (Addr.add _ _).block ≠ _; rw [add_block]; exact hn143_2) | exact hn143_2) (.int .i16 ((rd_T81 ((rd_T31 l0 0).f1) a1).f2))).trans hx143_1; replace hx143_2 := (cell_far (p := ⟨gb142, 2, none⟩) (by first | (rw [add_block]; exact hn143_2) | (show (Addr.add _ _).block ≠ _; rw [add_block]; exact hn143_2) | exact hn143_2) (.int .i16 ((rd_T81 ((rd_T31 l0 0).f1) a1).f2))).trans hx143_2; (try have hy143_0 := fun (n_ : Nat) => (show (((((w11.drewN n_).setCell ⟨gb142, 0, none⟩ (.int .i8 ((rd_T81 ((rd_T31 l0 0).f1) a1).f0))).setCell ⟨gb142, 1, none⟩ (.int .i16 ((rd_T81 ((rd_T31 l0 0).f1) a1).f1))).setCell ⟨gb142, 2, none⟩ (.int .i16 ((rd_T81 ((rd_T31 l0 0).f1) a1).f2)))).cell? _ = some _ from hx143_0)); (try have hy143_1 := fun (n_ : Nat) => (show (((((w11.drewN n_).setCell ⟨gb142, 0, none⟩ (.int .i8 ((rd_T81 ((rd_T31 l0 0).f1) a1).f0))).setCell ⟨gb142, 1, none⟩ (.int .i16 ((rd_T81 ((rd_T31 l0 0).f1) a1).f1))).setCell ⟨gb142, 2, none⟩ (.int .i16 ((rd_T81 ((rd_T31 l0 0).f1) a1).f2)))).cell? _ = some _ from hx143_1)); (try have hy143_2 := fun (n_ : Nat) => (show (((((w11.drewN n_).setCell ⟨gb142, 0, none⟩ (.int .i8 ((rd_T81 ((rd_T31 l0 0).f1) a1).f0))).setCell ⟨gb142, 1, none⟩ (.int .i16 ((rd_T81 ((rd_T31 l0 0).f1) a1).f1))).setCell ⟨gb142, 2, none⟩ (.int .i16 ((rd_T81 ((rd_T31 l0 0).f1) a1).f2)))).cell? _ = some _ from hx143_2)); clear hn143_0; clear hn143_1; clear hn143_2; replace p143 := eq_true p143; replace q143 := eq_true q143) | go_quiet (fail))
  go_ret
  exact ⟨zv, zbo⟩
 rw [if_neg c6] at H
 have c6b0 : (((rd_T81 ((rd_T31 l0 0).f1) a1).f0) == 0) = false := beq_eq_false_iff_ne.mpr c6
 have c6b1 : (((rd_T81 ((rd_T31 l0 0).f1) a1).f0) != 0) = true := bne_iff_ne.mpr c6
 by_cases c15 : ((rd_T81 ((rd_T31 l0 0).f1) a1).f0) = 1
 ·rw [if_pos c15] at H
  have c15b0 : (((rd_T81 ((rd_T31 l0 0).f1) a1).f0) == 1) = true := beq_iff_eq.mpr c15
  have c15b1 : (((rd_T81 ((rd_T31 l0 0).f1) a1).f0) != 1) = false := bne_eq_false_iff_eq.mpr c15
  clear c15
  by_cases c16 : ((rd_T81 ((rd_T31 l0 0).f1) a1).f1) = 0
  rotate_left
  ·rw [if_neg c16] at H
   have c16b0 : (((rd_T81 ((rd_T31 l0 0).f1) a1).f1) == 0) = false := beq_eq_false_iff_ne.mpr c16
   have c16b1 : (((rd_T81 ((rd_T31 l0 0).f1) a1).f1) != 0) = true := bne_iff_ne.mpr c16
   obtain rfl := Option.some.inj H
   have p140 : 0 ≤ (0 : Int) := (by omega)
   have q140 : 0 < (l0.length : Int) := of_decide_eq_true zA
   obtain ⟨ad140, A140_1, c140_1, A140_2, c140_2, e140, hx140_0, hx140_1, hx140_2, hl140_1, hi140_1, hl140_2, hi140_2⟩ := at_T31 HR0.out 0 p140 q140
   obtain rfl : adp0 = ad140 := (by injection e140)
   have qi140 : (0 < l0.length) = True := eq_true (by omega)
   try simp only [z00, Nat.zero_mul, Addr.add_zero'] at hx140_0 hx140_1 hx140_2
   have HR140_1 := Aside0.mk hi140_1
   have HC140_1 := Aside0.mk hl140_1
   clear hi140_1 hl140_1
   have HR140_2 := Aside0.mk hi140_2
   have HC140_2 := Aside0.mk hl140_2
   clear hi140_2 hl140_2
   replace p140 := eq_true p140
   replace q140 := eq_true q140
   have p141 : 0 ≤ (a1 : Int) := of_decide_eq_true zA
   have q141 : a1 < (((rd_T31 l0 0).f1).length : Int) := of_decide_eq_true zA
   obtain ⟨ad141, e141, hx141_0, hx141_1, hx141_2⟩ := at_T81 HR140_1.out a1 p141 q141
   cases e141
   replace p141 := eq_true p141
   replace q141 := eq_true q141
   go_enter Try.func125, Try.ntmps125
   go_wp2_with (first | ((with_reducible refine gate_dst (N := 5) rfl ?_); refine zbx 5 #[.int .i8 0, .int .i16 0, .int .i16 0] 81 ?_; intro gb142 hg w19 hbox hb; have n_ : _ ∧ _ ∧ _ ∧ _ := ⟨zb HB hb, Aside0.mk (hbox), zg HB hg, zg HB hg⟩; clear HB; obtain ⟨HB, BK142, GW142, GE142⟩ := n_; clear hb hbox hg; obtain ⟨z20_0, z20_1, z20_2, y20_0, y20_1, y20_2⟩ := zB3 BK142) | go_quiet (fail))
   go_ret
   exact ⟨zv, zbo⟩
  rw [if_pos c16] at H
  have c16b0 : (((rd_T81 ((rd_T31 l0 0).f1) a1).f1) == 0) = true := beq_iff_eq.mpr c16
  have c16b1 : (((rd_T81 ((rd_T31 l0 0).f1) a1).f1) != 0) = false := bne_eq_false_iff_eq.mpr c16
  clear c16
  obtain rfl := Option.some.inj H
  have p140 : 0 ≤ (0 : Int) := (by omega)
  have q140 : 0 < (l0.length : Int) := of_decide_eq_true zA
  obtain ⟨ad140, A140_1, c140_1, A140_2, c140_2, e140, hx140_0, hx140_1, hx140_2, hl140_1, hi140_1, hl140_2, hi140_2⟩ := at_T31 HR0.out 0 p140 q140
  obtain rfl : adp0 = ad140 := (by injection e140)
  have qi140 : (0 < l0.length) = True := eq_true (by omega)
  try simp only [z00, Nat.zero_mul, Addr.add_zero'] at hx140_0 hx140_1 hx140_2
  have HR140_1 := Aside0.mk hi140_1
  have HC140_1 := Aside0.mk hl140_1
  clear hi140_1 hl140_1
  have HR140_2 := Aside0.mk hi140_2
  have HC140_2 := Aside0.mk hl140_2
  clear hi140_2 hl140_2
  replace p140 := eq_true p140
  replace q140 := eq_true q140
  have p141 : 0 ≤ (a1 : Int) := of_decide_eq_true zA
  have q141 : a1 < (((rd_T31 l0 0).f1).length : Int) := of_decide_eq_true zA
  obtain ⟨ad141, e141, hx141_0, hx141_1, hx141_2⟩ := at_T81 HR140_1.out a1 p141 q141
  cases e141
  replace p141 := eq_true p141
  replace q141 := eq_true q141
  go_enter Try.func125, Try.ntmps125
  go_wp2_with (first | ((with_reducible refine gate_dst (N := 5) rfl ?_); refine zbx 5 #[.int .i8 0, .int .i16 0, .int .i16 0] 81 ?_; intro gb142 hg w17 hbox hb; have n_ : _ ∧ _ ∧ _ ∧ _ := ⟨zb HB hb, Aside0.mk (hbox), zg HB hg, zg HB hg⟩; clear HB; obtain ⟨HB, BK142, GW142, GE142⟩ := n_; clear hb hbox hg; obtain ⟨z18_0, z18_1, z18_2, y18_0, y18_1, y18_2⟩ := zB3 BK142) | go_quiet (fail))
  go_ret
  exact ⟨zv, zbo⟩
 rw [if_neg c15] at H
 have c15b0 : (((rd_T81 ((rd_T31 l0 0).f1) a1).f0) == 1) = false := beq_eq_false_iff_ne.mpr c15
 have c15b1 : (((rd_T81 ((rd_T31 l0 0).f1) a1).f0) != 1) = true := bne_iff_ne.mpr c15
 by_cases c21 : ((rd_T81 ((rd_T31 l0 0).f1) a1).f0) = 2
 ·rw [if_pos c21] at H
  have c21b0 : (((rd_T81 ((rd_T31 l0 0).f1) a1).f0) == 2) = true := beq_iff_eq.mpr c21
  have c21b1 : (((rd_T81 ((rd_T31 l0 0).f1) a1).f0) != 2) = false := bne_eq_false_iff_eq.mpr c21
  clear c21
  by_cases c22 : ((rd_T81 ((rd_T31 l0 0).f1) a1).f1) ≥ 0
  rotate_left
  ·rw [if_neg c22] at H
   have c22b0 : decide (0 ≤ ((rd_T81 ((rd_T31 l0 0).f1) a1).f1)) = false := decide_eq_false c22
   clear c22
   obtain rfl := Option.some.inj H
   have p140 : 0 ≤ (0 : Int) := (by omega)
   have q140 : 0 < (l0.length : Int) := of_decide_eq_true zA
   obtain ⟨ad140, A140_1, c140_1, A140_2, c140_2, e140, hx140_0, hx140_1, hx140_2, hl140_1, hi140_1, hl140_2, hi140_2⟩ := at_T31 HR0.out 0 p140 q140
   obtain rfl : adp0 = ad140 := (by injection e140)
   have qi140 : (0 < l0.length) = True := eq_true (by omega)
   try simp only [z00, Nat.zero_mul, Addr.add_zero'] at hx140_0 hx140_1 hx140_2
   have HR140_1 := Aside0.mk hi140_1
   have HC140_1 := Aside0.mk hl140_1
   clear hi140_1 hl140_1
   have HR140_2 := Aside0.mk hi140_2
   have HC140_2 := Aside0.mk hl140_2
   clear hi140_2 hl140_2
   replace p140 := eq_true p140
   replace q140 := eq_true q140
   have p141 : 0 ≤ (a1 : Int) := of_decide_eq_true zA
   have q141 : a1 < (((rd_T31 l0 0).f1).length : Int) := of_decide_eq_true zA
   obtain ⟨ad141, e141, hx141_0, hx141_1, hx141_2⟩ := at_T81 HR140_1.out a1 p141 q141
   cases e141
   replace p141 := eq_true p141
   replace q141 := eq_true q141
   go_enter Try.func125, Try.ntmps125
   go_wp2_with (first | ((with_reducible refine gate_dst (N := 5) rfl ?_); refine zbx 5 #[.int .i8 0, .int .i16 0, .int .i16 0] 81 ?_; intro gb142 hg w31 hbox hb; have n_ : _ ∧ _ ∧ _ ∧ _ := ⟨zb HB hb, Aside0.mk (hbox), zg HB hg, zg HB hg⟩; clear HB; obtain ⟨HB, BK142, GW142, GE142⟩ := n_; clear hb hbox hg; obtain ⟨z32_0, z32_1, z32_2, y32_0, y32_1, y32_2⟩ := zB3 BK142) | go_quiet (fail))
   go_ret
   exact ⟨zv, zbo⟩
  rw [if_pos c22] at H
  have c22b0 : decide (0 ≤ ((rd_T81 ((rd_T31 l0 0).f1) a1).f1)) = true := decide_eq_true c22
  clear c22
  by_cases c23 : (wrap64 ((rd_T81 ((rd_T31 l0 0).f1) a1).f1)) < a1
  rotate_left
  ·rw [if_neg c23] at H
   have c23b0 : decide ((wrap64 ((rd_T81 ((rd_T31 l0 0).f1) a1).f1)) < a1) = false := decide_eq_false c23
   clear c23
   obtain rfl := Option.some.inj H
   have p140 : 0 ≤ (0 : Int) := (by omega)
   have q140 : 0 < (l0.length : Int) := of_decide_eq_true zA
   obtain ⟨ad140, A140_1, c140_1, A140_2, c140_2, e140, hx140_0, hx140_1, hx140_2, hl140_1, hi140_1, hl140_2, hi140_2⟩ := at_T31 HR0.out 0 p140 q140
   obtain rfl : adp0 = ad140 := (by injection e140)
   have qi140 : (0 < l0.length) = True := eq_true (by omega)
   try simp only [z00, Nat.zero_mul, Addr.add_zero'] at hx140_0 hx140_1 hx140_2
   have HR140_1 := Aside0.mk hi140_1
   have HC140_1 := Aside0.mk hl140_1
   clear hi140_1 hl140_1
   have HR140_2 := Aside0.mk hi140_2
   have HC140_2 := Aside0.mk hl140_2
   clear hi140_2 hl140_2
   replace p140 := eq_true p140
   replace q140 := eq_true q140
   have p141 : 0 ≤ (a1 : Int) := of_decide_eq_true zA
   have q141 : a1 < (((rd_T31 l0 0).f1).length : Int) := of_decide_eq_true zA
   obtain ⟨ad141, e141, hx141_0, hx141_1, hx141_2⟩ := at_T81 HR140_1.out a1 p141 q141
   cases e141
   replace p141 := eq_true p141
   replace q141 := eq_true q141
   go_enter Try.func125, Try.ntmps125
   go_wp2_with (first | ((with_reducible refine gate_dst (N := 5) rfl ?_); refine zbx 5 #[.int .i8 0, .int .i16 0, .int .i16 0] 81 ?_; intro gb142 hg w29 hbox hb; have n_ : _ ∧ _ ∧ _ ∧ _ := ⟨zb HB hb, Aside0.mk (hbox), zg HB hg, zg HB hg⟩; clear HB; obtain ⟨HB, BK142, GW142, GE142⟩ := n_; clear hb hbox hg; obtain ⟨z30_0, z30_1, z30_2, y30_0, y30_1, y30_2⟩ := zB3 BK142) | go_quiet (fail))
   go_ret
   exact ⟨zv, zbo⟩
  rw [if_pos c23] at H
  have c23b0 : decide ((wrap64 ((rd_T81 ((rd_T31 l0 0).f1) a1).f1)) < a1) = true := decide_eq_true c23
  clear c23
  by_cases c24 : ((rd_T81 ((rd_T31 l0 0).f1) a1).f2) ≥ 0
  ·rw [if_pos c24] at H
   have c24b0 : decide (0 ≤ ((rd_T81 ((rd_T31 l0 0).f1) a1).f2)) = true := decide_eq_true c24
   clear c24
   obtain rfl := Option.some.inj H
   have p140 : 0 ≤ (0 : Int) := (by omega)
   have q140 : 0 < (l0.length : Int) := of_decide_eq_true zA
   obtain ⟨ad140, A140_1, c140_1, A140_2, c140_2, e140, hx140_0, hx140_1, hx140_2, hl140_1, hi140_1, hl140_2, hi140_2⟩ := at_T31 HR0.out 0 p140 q140
   obtain rfl : adp0 = ad140 := (by injection e140)
   have qi140 : (0 < l0.length) = True := eq_true (by omega)
   try simp only [z00, Nat.zero_mul, Addr.add_zero'] at hx140_0 hx140_1 hx140_2
   have HR140_1 := Aside0.mk hi140_1
   have HC140_1 := Aside0.mk hl140_1
   clear hi140_1 hl140_1
   have HR140_2 := Aside0.mk hi140_2
   have HC140_2 := Aside0.mk hl140_2
   clear hi140_2 hl140_2
   replace p140 := eq_true p140
   replace q140 := eq_true q140
   have p141 : 0 ≤ (a1 : Int) := of_decide_eq_true zA
   have q141 : a1 < (((rd_T31 l0 0).f1).length : Int) := of_decide_eq_true zA
   obtain ⟨ad141, e141, hx141_0, hx141_1, hx141_2⟩ := at_T81 HR140_1.out a1 p141 q141
   cases e141
   replace p141 := eq_true p141
   replace q141 := eq_true q141
   go_enter Try.func125, Try.ntmps125
   go_wp2_with (first | ((with_reducible refine gate_dst (N := 5) rfl ?_); refine zbx 5 #[.int .i8 0, .int .i16 0, .int .i16 0] 81 ?_; intro gb142 hg w25 hbox hb; have n_ : _ ∧ _ ∧ _ ∧ _ := ⟨zb HB hb, Aside0.mk (hbox), zg HB hg, zg HB hg⟩; clear HB; obtain ⟨HB, BK142, GW142, GE142⟩ := n_; clear hb hbox hg; obtain ⟨z26_0, z26_1, z26_2, y26_0, y26_1, y26_2⟩ := zB3 BK142) | go_quiet (fail))
   go_ret
   exact ⟨zv, zbo⟩
  rw [if_neg c24] at H
  have c24b0 : decide (0 ≤ ((rd_T81 ((rd_T31 l0 0).f1) a1).f2)) = false := decide_eq_false c24
  clear c24
  obtain rfl := Option.some.inj H
  have p140 : 0 ≤ (0 : Int) := (by omega)
  have q140 : 0 < (l0.length : Int) := of_decide_eq_true zA
  obtain ⟨ad140, A140_1, c140_1, A140_2, c140_2, e140, hx140_0, hx140_1, hx140_2, hl140_1, hi140_1, hl140_2, hi140_2⟩ := at_T31 HR0.out 0 p140 q140
  obtain rfl : adp0 = ad140 := (by injection e140)
  have qi140 : (0 < l0.length) = True := eq_true (by omega)
  try simp only [z00, Nat.zero_mul, Addr.add_zero'] at hx140_0 hx140_1 hx140_2
  have HR140_1 := Aside0.mk hi140_1
  have HC140_1 := Aside0.mk hl140_1
  clear hi140_1 hl140_1
  have HR140_2 := Aside0.mk hi140_2
  have HC140_2 := Aside0.mk hl140_2
  clear hi140_2 hl140_2
  replace p140 := eq_true p140
  replace q140 := eq_true q140
  have p141 : 0 ≤ (a1 : Int) := of_decide_eq_true zA
  have q141 : a1 < (((rd_T31 l0 0).f1).length : Int) := of_decide_eq_true zA
  obtain ⟨ad141, e141, hx141_0, hx141_1, hx141_2⟩ := at_T81 HR140_1.out a1 p141 q141
  cases e141
  replace p141 := eq_true p141
  replace q141 := eq_true q141
  go_enter Try.func125, Try.ntmps125
  go_wp2_with (first | ((with_reducible refine gate_dst (N := 5) rfl ?_); refine zbx 5 #[.int .i8 0, .int .i16 0, .int .i16 0] 81 ?_; intro gb142 hg w27 hbox hb; have n_ : _ ∧ _ ∧ _ ∧ _ := ⟨zb HB hb, Aside0.mk (hbox), zg HB hg, zg HB hg⟩; clear HB; obtain ⟨HB, BK142, GW142, GE142⟩ := n_; clear hb hbox hg; obtain ⟨z28_0, z28_1, z28_2, y28_0, y28_1, y28_2⟩ := zB3 BK142) | go_quiet (fail))
  go_ret
  exact ⟨zv, zbo⟩
 rw [if_neg c21] at H
 have c21b0 : (((rd_T81 ((rd_T31 l0 0).f1) a1).f0) == 2) = false := beq_eq_false_iff_ne.mpr c21
 have c21b1 : (((rd_T81 ((rd_T31 l0 0).f1) a1).f0) != 2) = true := bne_iff_ne.mpr c21
 by_cases c33 : ((rd_T81 ((rd_T31 l0 0).f1) a1).f0) = 3
 rotate_left
 ·rw [if_neg c33] at H
  have c33b0 : (((rd_T81 ((rd_T31 l0 0).f1) a1).f0) == 3) = false := beq_eq_false_iff_ne.mpr c33
  have c33b1 : (((rd_T81 ((rd_T31 l0 0).f1) a1).f0) != 3) = true := bne_iff_ne.mpr c33
  obtain rfl := Option.some.inj H
  have p140 : 0 ≤ (0 : Int) := (by omega)
  have q140 : 0 < (l0.length : Int) := of_decide_eq_true zA
  obtain ⟨ad140, A140_1, c140_1, A140_2, c140_2, e140, hx140_0, hx140_1, hx140_2, hl140_1, hi140_1, hl140_2, hi140_2⟩ := at_T31 HR0.out 0 p140 q140
  obtain rfl : adp0 = ad140 := (by injection e140)
  have qi140 : (0 < l0.length) = True := eq_true (by omega)
  try simp only [z00, Nat.zero_mul, Addr.add_zero'] at hx140_0 hx140_1 hx140_2
  have HR140_1 := Aside0.mk hi140_1
  have HC140_1 := Aside0.mk hl140_1
  clear hi140_1 hl140_1
  have HR140_2 := Aside0.mk hi140_2
  have HC140_2 := Aside0.mk hl140_2
  clear hi140_2 hl140_2
  replace p140 := eq_true p140
  replace q140 := eq_true q140
  have p141 : 0 ≤ (a1 : Int) := of_decide_eq_true zA
  have q141 : a1 < (((rd_T31 l0 0).f1).length : Int) := of_decide_eq_true zA
  obtain ⟨ad141, e141, hx141_0, hx141_1, hx141_2⟩ := at_T81 HR140_1.out a1 p141 q141
  cases e141
  replace p141 := eq_true p141
  replace q141 := eq_true q141
  go_enter Try.func125, Try.ntmps125
  go_wp2_with (first | ((with_reducible refine gate_dst (N := 5) rfl ?_); refine zbx 5 #[.int .i8 0, .int .i16 0, .int .i16 0] 81 ?_; intro gb142 hg w45 hbox hb; have n_ : _ ∧ _ ∧ _ ∧ _ := ⟨zb HB hb, Aside0.mk (hbox), zg HB hg, zg HB hg⟩; clear HB; obtain ⟨HB, BK142, GW142, GE142⟩ := n_; clear hb hbox hg; obtain ⟨z46_0, z46_1, z46_2, y46_0, y46_1, y46_2⟩ := zB3 BK142) | go_quiet (fail))
  go_ret
  exact ⟨zv, zbo⟩
 rw [if_pos c33] at H
 have c33b0 : (((rd_T81 ((rd_T31 l0 0).f1) a1).f0) == 3) = true := beq_iff_eq.mpr c33
 have c33b1 : (((rd_T81 ((rd_T31 l0 0).f1) a1).f0) != 3) = false := bne_eq_false_iff_eq.mpr c33
 clear c33
 by_cases c34 : ((rd_T81 ((rd_T31 l0 0).f1) a1).f1) ≥ 0
 rotate_left
 ·rw [if_neg c34] at H
  have c34b0 : decide (0 ≤ ((rd_T81 ((rd_T31 l0 0).f1) a1).f1)) = false := decide_eq_false c34
  clear c34
  obtain rfl := Option.some.inj H
  have p140 : 0 ≤ (0 : Int) := (by omega)
  have q140 : 0 < (l0.length : Int) := of_decide_eq_true zA
  obtain ⟨ad140, A140_1, c140_1, A140_2, c140_2, e140, hx140_0, hx140_1, hx140_2, hl140_1, hi140_1, hl140_2, hi140_2⟩ := at_T31 HR0.out 0 p140 q140
  obtain rfl : adp0 = ad140 := (by injection e140)
  have qi140 : (0 < l0.length) = True := eq_true (by omega)
  try simp only [z00, Nat.zero_mul, Addr.add_zero'] at hx140_0 hx140_1 hx140_2
  have HR140_1 := Aside0.mk hi140_1
  have HC140_1 := Aside0.mk hl140_1
  clear hi140_1 hl140_1
  have HR140_2 := Aside0.mk hi140_2
  have HC140_2 := Aside0.mk hl140_2
  clear hi140_2 hl140_2
  replace p140 := eq_true p140
  replace q140 := eq_true q140
  have p141 : 0 ≤ (a1 : Int) := of_decide_eq_true zA
  have q141 : a1 < (((rd_T31 l0 0).f1).length : Int) := of_decide_eq_true zA
  obtain ⟨ad141, e141, hx141_0, hx141_1, hx141_2⟩ := at_T81 HR140_1.out a1 p141 q141
  cases e141
  replace p141 := eq_true p141
  replace q141 := eq_true q141
  go_enter Try.func125, Try.ntmps125
  go_wp2_with (first | ((with_reducible refine gate_dst (N := 5) rfl ?_); refine zbx 5 #[.int .i8 0, .int .i16 0, .int .i16 0] 81 ?_; intro gb142 hg w43 hbox hb; have n_ : _ ∧ _ ∧ _ ∧ _ := ⟨zb HB hb, Aside0.mk (hbox), zg HB hg, zg HB hg⟩; clear HB; obtain ⟨HB, BK142, GW142, GE142⟩ := n_; clear hb hbox hg; obtain ⟨z44_0, z44_1, z44_2, y44_0, y44_1, y44_2⟩ := zB3 BK142) | go_quiet (fail))
  go_ret
  exact ⟨zv, zbo⟩
 rw [if_pos c34] at H
 have c34b0 : decide (0 ≤ ((rd_T81 ((rd_T31 l0 0).f1) a1).f1)) = true := decide_eq_true c34
 clear c34
 by_cases c35 : (wrap64 ((rd_T81 ((rd_T31 l0 0).f1) a1).f1)) < a1
 rotate_left
 ·rw [if_neg c35] at H
  have c35b0 : decide ((wrap64 ((rd_T81 ((rd_T31 l0 0).f1) a1).f1)) < a1) = false := decide_eq_false c35
  clear c35
  obtain rfl := Option.some.inj H
  have p140 : 0 ≤ (0 : Int) := (by omega)
  have q140 : 0 < (l0.length : Int) := of_decide_eq_true zA
  obtain ⟨ad140, A140_1, c140_1, A140_2, c140_2, e140, hx140_0, hx140_1, hx140_2, hl140_1, hi140_1, hl140_2, hi140_2⟩ := at_T31 HR0.out 0 p140 q140
  obtain rfl : adp0 = ad140 := (by injection e140)
  have qi140 : (0 < l0.length) = True := eq_true (by omega)
  try simp only [z00, Nat.zero_mul, Addr.add_zero'] at hx140_0 hx140_1 hx140_2
  have HR140_1 := Aside0.mk hi140_1
  have HC140_1 := Aside0.mk hl140_1
  clear hi140_1 hl140_1
  have HR140_2 := Aside0.mk hi140_2
  have HC140_2 := Aside0.mk hl140_2
  clear hi140_2 hl140_2
  replace p140 := eq_true p140
  replace q140 := eq_true q140
  have p141 : 0 ≤ (a1 : Int) := of_decide_eq_true zA
  have q141 : a1 < (((rd_T31 l0 0).f1).length : Int) := of_decide_eq_true zA
  obtain ⟨ad141, e141, hx141_0, hx141_1, hx141_2⟩ := at_T81 HR140_1.out a1 p141 q141
  cases e141
  replace p141 := eq_true p141
  replace q141 := eq_true q141
  go_enter Try.func125, Try.ntmps125
  go_wp2_with (first | ((with_reducible refine gate_dst (N := 5) rfl ?_); refine zbx 5 #[.int .i8 0, .int .i16 0, .int .i16 0] 81 ?_; intro gb142 hg w41 hbox hb; have n_ : _ ∧ _ ∧ _ ∧ _ := ⟨zb HB hb, Aside0.mk (hbox), zg HB hg, zg HB hg⟩; clear HB; obtain ⟨HB, BK142, GW142, GE142⟩ := n_; clear hb hbox hg; obtain ⟨z42_0, z42_1, z42_2, y42_0, y42_1, y42_2⟩ := zB3 BK142) | go_quiet (fail))
  go_ret
  exact ⟨zv, zbo⟩
 rw [if_pos c35] at H
 have c35b0 : decide ((wrap64 ((rd_T81 ((rd_T31 l0 0).f1) a1).f1)) < a1) = true := decide_eq_true c35
 clear c35
 by_cases c36 : ((rd_T81 ((rd_T31 l0 0).f1) a1).f2) ≥ 0
 ·rw [if_pos c36] at H
  have c36b0 : decide (0 ≤ ((rd_T81 ((rd_T31 l0 0).f1) a1).f2)) = true := decide_eq_true c36
  clear c36
  obtain rfl := Option.some.inj H
  have p140 : 0 ≤ (0 : Int) := (by omega)
  have q140 : 0 < (l0.length : Int) := of_decide_eq_true zA
  obtain ⟨ad140, A140_1, c140_1, A140_2, c140_2, e140, hx140_0, hx140_1, hx140_2, hl140_1, hi140_1, hl140_2, hi140_2⟩ := at_T31 HR0.out 0 p140 q140
  obtain rfl : adp0 = ad140 := (by injection e140)
  have qi140 : (0 < l0.length) = True := eq_true (by omega)
  try simp only [z00, Nat.zero_mul, Addr.add_zero'] at hx140_0 hx140_1 hx140_2
  have HR140_1 := Aside0.mk hi140_1
  have HC140_1 := Aside0.mk hl140_1
  clear hi140_1 hl140_1
  have HR140_2 := Aside0.mk hi140_2
  have HC140_2 := Aside0.mk hl140_2
  clear hi140_2 hl140_2
  replace p140 := eq_true p140
  replace q140 := eq_true q140
  have p141 : 0 ≤ (a1 : Int) := of_decide_eq_true zA
  have q141 : a1 < (((rd_T31 l0 0).f1).length : Int) := of_decide_eq_true zA
  obtain ⟨ad141, e141, hx141_0, hx141_1, hx141_2⟩ := at_T81 HR140_1.out a1 p141 q141
  cases e141
  replace p141 := eq_true p141
  replace q141 := eq_true q141
  go_enter Try.func125, Try.ntmps125
  go_wp2_with (first | ((with_reducible refine gate_dst (N := 5) rfl ?_); refine zbx 5 #[.int .i8 0, .int .i16 0, .int .i16 0] 81 ?_; intro gb142 hg w37 hbox hb; have n_ : _ ∧ _ ∧ _ ∧ _ := ⟨zb HB hb, Aside0.mk (hbox), zg HB hg, zg HB hg⟩; clear HB; obtain ⟨HB, BK142, GW142, GE142⟩ := n_; clear hb hbox hg; obtain ⟨z38_0, z38_1, z38_2, y38_0, y38_1, y38_2⟩ := zB3 BK142) | go_quiet (fail))
  go_ret
  exact ⟨zv, zbo⟩
 rw [if_neg c36] at H
 have c36b0 : decide (0 ≤ ((rd_T81 ((rd_T31 l0 0).f1) a1).f2)) = false := decide_eq_false c36
 clear c36
 obtain rfl := Option.some.inj H
 have p140 : 0 ≤ (0 : Int) := (by omega)
 have q140 : 0 < (l0.length : Int) := of_decide_eq_true zA
 obtain ⟨ad140, A140_1, c140_1, A140_2, c140_2, e140, hx140_0, hx140_1, hx140_2, hl140_1, hi140_1, hl140_2, hi140_2⟩ := at_T31 HR0.out 0 p140 q140
 obtain rfl : adp0 = ad140 := (by injection e140)
 have qi140 : (0 < l0.length) = True := eq_true (by omega)
 try simp only [z00, Nat.zero_mul, Addr.add_zero'] at hx140_0 hx140_1 hx140_2
 have HR140_1 := Aside0.mk hi140_1
 have HC140_1 := Aside0.mk hl140_1
 clear hi140_1 hl140_1
 have HR140_2 := Aside0.mk hi140_2
 have HC140_2 := Aside0.mk hl140_2
 clear hi140_2 hl140_2
 replace p140 := eq_true p140
 replace q140 := eq_true q140
 have p141 : 0 ≤ (a1 : Int) := of_decide_eq_true zA
 have q141 : a1 < (((rd_T31 l0 0).f1).length : Int) := of_decide_eq_true zA
 obtain ⟨ad141, e141, hx141_0, hx141_1, hx141_2⟩ := at_T81 HR140_1.out a1 p141 q141
 cases e141
 replace p141 := eq_true p141
 replace q141 := eq_true q141
 go_enter Try.func125, Try.ntmps125
 go_wp2_with (first | ((with_reducible refine gate_dst (N := 5) rfl ?_); refine zbx 5 #[.int .i8 0, .int .i16 0, .int .i16 0] 81 ?_; intro gb142 hg w39 hbox hb; have n_ : _ ∧ _ ∧ _ ∧ _ := ⟨zb HB hb, Aside0.mk (hbox), zg HB hg, zg HB hg⟩; clear HB; obtain ⟨HB, BK142, GW142, GE142⟩ := n_; clear hb hbox hg; obtain ⟨z40_0, z40_1, z40_2, y40_0, y40_1, y40_2⟩ := zB3 BK142) | go_quiet (fail))
 go_ret
 exact ⟨zv, zbo⟩
end Go.Proofs.Ytmpmanfoiocfgaa.PFnExactFormulaOf
