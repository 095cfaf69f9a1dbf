-- WRITTEN by xprint.py, a program of this session's. Not trusted: Lean checks it.
-- packed by pack.py
import Derived.Test.YtmpmanfoiocfgaaPFnExactBothNetworksx0
import Derived.Test.YtmpmanfoiocfgaaTFnExactBothNetworksa
namespace Go.Proofs.Ytmpmanfoiocfgaa.PFnExactBothNetworks
open Go.RowKit Go.Proofs.YtmpmanfoiocfgaaW.PrintWords Go.Proofs.YtmpmanfoiocfgaaW.PrintLast Go.Proofs.YtmpmanfoiocfgaaW.PrintMore Go.Proofs.YtmpmanfoiocfgaaX
attribute [local go_sem] max2_int min2_int max_two min_two max_three min_three max_four min_four   -- for this text's walks alone
set_option maxHeartbeats 8000000
set_option maxRecDepth 100000
set_option linter.unusedVariables false
set_option linter.unusedSimpArgs false

def laws_szNodeS.f (l0 : List (S131)) (a1 : Int) : Option (Int) := if (wrap64 (a1 - (l0.length : Int))) < 0 then (some (-1)) else (some (wrap64 (a1 - (l0.length : Int))))
theorem laws_szNodeS.calls (A0 : Option Addr) (c0 : Nat) (l0 : List (S131)) (a1 : Int) (r : Int) (w : World) (hr0 : Kd.C k131 w A0 l0.length l0) (hc0 : l0.length ≤ c0) (h : laws_szNodeS.f l0 a1 = some r) :
    Calls Try.prog 73 #[.slice A0 l0.length c0, .int .i64 a1] w fun e w' => e = .returned (.int .i64 r) ∧ Drawn0 w w' := by
 have HR0 := Aside0.mk hr0
 have HC0 := Aside0.mk hc0
 clear hr0 hc0
 have H : (if (wrap64 (a1 - (l0.length : Int))) < 0 then (some (-1)) else (some (wrap64 (a1 - (l0.length : Int))))) = some r := h
 clear h
 by_cases c3 : (wrap64 (a1 - (l0.length : Int))) < 0
 ·rw [if_pos c3] at H
  have c3b0 : decide ((wrap64 (a1 - (l0.length : Int))) < 0) = true := decide_eq_true c3
  clear c3
  obtain rfl := Option.some.inj H
  go_enter Try.func73, Try.ntmps73
  go_wp2
  go_ret
  exact ⟨zi, zdr⟩
 rw [if_neg c3] at H
 have c3b0 : decide ((wrap64 (a1 - (l0.length : Int))) < 0) = false := decide_eq_false c3
 clear c3
 obtain rfl := Option.some.inj H
 go_enter Try.func73, Try.ntmps73
 go_wp2
 go_ret
 exact ⟨zi, zdr⟩
def laws_szInt16S.f (l0 : List Int) (a1 : Int) : Option (Int) := if (wrap64 (a1 - (l0.length : Int))) < 0 then (some (-1)) else (some (wrap64 (a1 - (l0.length : Int))))
theorem laws_szInt16S.calls (A0 : Option Addr) (c0 : Nat) (l0 : List Int) (a1 : Int) (r : Int) (w : World) (hr0 : Kd.C (Kd.int .i16) w A0 l0.length l0) (hc0 : l0.length ≤ c0) (h : laws_szInt16S.f l0 a1 = some r) :
    Calls Try.prog 74 #[.slice A0 l0.length c0, .int .i64 a1] w fun e w' => e = .returned (.int .i64 r) ∧ Drawn0 w w' := by
 have HR0 := Aside0.mk hr0
 have HC0 := Aside0.mk hc0
 clear hr0 hc0
 have H : (if (wrap64 (a1 - (l0.length : Int))) < 0 then (some (-1)) else (some (wrap64 (a1 - (l0.length : Int))))) = some r := h
 clear h
 by_cases c3 : (wrap64 (a1 - (l0.length : Int))) < 0
 ·rw [if_pos c3] at H
  have c3b0 : decide ((wrap64 (a1 - (l0.length : Int))) < 0) = true := decide_eq_true c3
  clear c3
  obtain rfl := Option.some.inj H
  go_enter Try.func74, Try.ntmps74
  go_wp2
  go_ret
  exact ⟨zi, zdr⟩
 rw [if_neg c3] at H
 have c3b0 : decide ((wrap64 (a1 - (l0.length : Int))) < 0) = false := decide_eq_false c3
 clear c3
 obtain rfl := Option.some.inj H
 go_enter Try.func74, Try.ntmps74
 go_wp2
 go_ret
 exact ⟨zi, zdr⟩
def laws_szNetwork.f (a0_0 : Int) (l0_1 : List (S131)) (l0_2 : List Int) (a1 : Int) : Option (Int) := (laws_szNodeS.f l0_1 a1).bind fun t102 => (if t102 < 0 then (some (-1)) else ((laws_szInt16S.f l0_2 t102).bind fun t103 => (if t103 < 0 then (some (-1)) else (some t103))))
theorem laws_szNetwork.calls (a0_0 : Int) (A0_1 : Option Addr) (c0_1 : Nat) (l0_1 : List (S131)) (A0_2 : Option Addr) (c0_2 : Nat) (l0_2 : List Int) (a1 : Int) (r : Int) (w : World) (hr0_1 : Kd.C k131 w A0_1 l0_1.length l0_1) (hc0_1 : l0_1.length ≤ c0_1) (hr0_2 : Kd.C (Kd.int .i16) w A0_2 l0_2.length l0_2) (hc0_2 : l0_2.length ≤ c0_2) (h : laws_szNetwork.f a0_0 l0_1 l0_2 a1 = some r) :
    Calls Try.prog 21 #[.agg #[.int .i8 a0_0, .slice A0_1 l0_1.length c0_1, .slice A0_2 l0_2.length c0_2], .int .i64 a1] w fun e w' => e = .returned (.int .i64 r) ∧ Below w.heap.size w w' := by
 have hu26 := Try.underlying26
 have HR0_1 := Aside0.mk hr0_1
 have HC0_1 := Aside0.mk hc0_1
 clear hr0_1 hc0_1
 have HR0_2 := Aside0.mk hr0_2
 have HC0_2 := Aside0.mk hc0_2
 clear hr0_2 hc0_2
 have HB := Aside0.mk (Below.refl w.heap.size w)
 have H : ((laws_szNodeS.f l0_1 a1).bind fun t102 => (if t102 < 0 then (some (-1)) else ((laws_szInt16S.f l0_2 t102).bind fun t103 => (if t103 < 0 then (some (-1)) else (some t103))))) = some r := h
 clear h
 replace H := zob H
 obtain ⟨t102, A30, H⟩ := H
 replace H : (if t102 < 0 then (some (-1)) else ((laws_szInt16S.f l0_2 t102).bind fun t103 => (if t103 < 0 then (some (-1)) else (some t103)))) = some r := H
 have A3 := Aside0.mk A30
 clear A30
 by_cases c4 : t102 < 0
 ·rw [if_pos c4] at H
  have c4b0 : decide (t102 < 0) = true := decide_eq_true c4
  clear c4
  obtain rfl := Option.some.inj H
  go_enter Try.func21, Try.ntmps21
  go_wp2_with (first | ((with_reducible refine gate_dst (N := 2) rfl ?_); refine zbx 2 #[.int .i8 a0_0, .slice A0_1 l0_1.length c0_1, .slice A0_2 l0_2.length c0_2] 26 ?_; intro gb101 hg w5 hbox hb; have n_ : _ ∧ _ ∧ _ ∧ _ := ⟨zb HB hb, Aside0.mk (hbox), zg HB hg, zg HB hg⟩; clear HB; obtain ⟨HB, BK101, GW101, GE101⟩ := n_; clear hb hbox hg; obtain ⟨z6_0, z6_1, z6_2, y6_0, y6_1, y6_2⟩ := zB3 BK101) | ((with_reducible refine gate_callee (f := 73) rfl ?_); refine goesL_ (some 8) rfl rfl Try.func73 (by kernel_rfl) rfl #[.slice A0_1 l0_1.length c0_1, .int .i64 a1] rfl zm ?_; (with_reducible refine (laws_szNodeS.calls _ _ l0_1 a1 t102 _ ?side1 ?side2 A3.out).mono ?_); (case side1 => exact zcc HB HR0_1.out); (case side2 => exact HC0_1.out); rintro e w' ⟨rfl, ⟨nd, rfl⟩⟩; refine ⟨_, rfl, ?_⟩))
  go_ret
  exact ⟨zv, zbo⟩
 rw [if_neg c4] at H
 have c4b0 : decide (t102 < 0) = false := decide_eq_false c4
 clear c4
 replace H := zob H
 obtain ⟨t103, A70, H⟩ := H
 replace H : (if t103 < 0 then (some (-1)) else (some t103)) = some r := H
 have A7 := Aside0.mk A70
 clear A70
 by_cases c8 : t103 < 0
 ·rw [if_pos c8] at H
  have c8b0 : decide (t103 < 0) = true := decide_eq_true c8
  clear c8
  obtain rfl := Option.some.inj H
  go_enter Try.func21, Try.ntmps21
  go_wp2_with (first | ((with_reducible refine gate_dst (N := 2) rfl ?_); refine zbx 2 #[.int .i8 a0_0, .slice A0_1 l0_1.length c0_1, .slice A0_2 l0_2.length c0_2] 26 ?_; intro gb101 hg w9 hbox hb; have n_ : _ ∧ _ ∧ _ ∧ _ := ⟨zb HB hb, Aside0.mk (hbox), zg HB hg, zg HB hg⟩; clear HB; obtain ⟨HB, BK101, GW101, GE101⟩ := n_; clear hb hbox hg; obtain ⟨z10_0, z10_1, z10_2, y10_0, y10_1, y10_2⟩ := zB3 BK101) | ((with_reducible refine gate_callee (f := 73) rfl ?_); refine goesL_ (some 8) rfl rfl Try.func73 (by kernel_rfl) rfl #[.slice A0_1 l0_1.length c0_1, .int .i64 a1] rfl zm ?_; (with_reducible refine (laws_szNodeS.calls _ _ l0_1 a1 t102 _ ?side1 ?side2 A3.out).mono ?_); (case side1 => exact zcc HB HR0_1.out); (case side2 => exact HC0_1.out); rintro e w' ⟨rfl, ⟨nd, rfl⟩⟩; refine ⟨_, rfl, ?_⟩) | ((with_reducible refine gate_callee (f := 74) rfl ?_); refine goesL_ (some 14) rfl rfl Try.func74 (by kernel_rfl) rfl #[.slice A0_2 l0_2.length c0_2, .int .i64 t102] rfl zm ?_; (with_reducible refine (laws_szInt16S.calls _ _ l0_2 t102 t103 _ ?side1 ?side2 A7.out).mono ?_); (case side1 => repeat (first | exact (Kd.C_below HR0_2.out zbo) | (with_reducible refine Kd.C_alloc ?_ _) | (with_reducible refine Kd.C_drewN ?_ _) | (with_reducible refine Kd.C_drew ?_))); (case side2 => exact HC0_2.out); rintro e w' ⟨rfl, ⟨nd, rfl⟩⟩; refine ⟨_, rfl, ?_⟩))
  go_ret
  exact ⟨zv, zbo⟩
 rw [if_neg c8] at H
 have c8b0 : decide (t103 < 0) = false := decide_eq_false c8
 clear c8
 obtain rfl := Option.some.inj H
 go_enter Try.func21, Try.ntmps21
 go_wp2_with (first | ((with_reducible refine gate_dst (N := 2) rfl ?_); refine zbx 2 #[.int .i8 a0_0, .slice A0_1 l0_1.length c0_1, .slice A0_2 l0_2.length c0_2] 26 ?_; intro gb101 hg w11 hbox hb; have n_ : _ ∧ _ ∧ _ ∧ _ := ⟨zb HB hb, Aside0.mk (hbox), zg HB hg, zg HB hg⟩; clear HB; obtain ⟨HB, BK101, GW101, GE101⟩ := n_; clear hb hbox hg; obtain ⟨z12_0, z12_1, z12_2, y12_0, y12_1, y12_2⟩ := zB3 BK101) | ((with_reducible refine gate_callee (f := 73) rfl ?_); refine goesL_ (some 8) rfl rfl Try.func73 (by kernel_rfl) rfl #[.slice A0_1 l0_1.length c0_1, .int .i64 a1] rfl zm ?_; (with_reducible refine (laws_szNodeS.calls _ _ l0_1 a1 t102 _ ?side1 ?side2 A3.out).mono ?_); (case side1 => exact zcc HB HR0_1.out); (case side2 => exact HC0_1.out); rintro e w' ⟨rfl, ⟨nd, rfl⟩⟩; refine ⟨_, rfl, ?_⟩) | ((with_reducible refine gate_callee (f := 74) rfl ?_); refine goesL_ (some 14) rfl rfl Try.func74 (by kernel_rfl) rfl #[.slice A0_2 l0_2.length c0_2, .int .i64 t102] rfl zm ?_; (with_reducible refine (laws_szInt16S.calls _ _ l0_2 t102 t103 _ ?side1 ?side2 A7.out).mono ?_); (case side1 => repeat (first | exact (Kd.C_below HR0_2.out zbo) | (with_reducible refine Kd.C_alloc ?_ _) | (with_reducible refine Kd.C_drewN ?_ _) | (with_reducible refine Kd.C_drew ?_))); (case side2 => exact HC0_2.out); rintro e w' ⟨rfl, ⟨nd, rfl⟩⟩; refine ⟨_, rfl, ?_⟩))
 go_ret
 exact ⟨zv, zbo⟩
def laws_toNode.f (a0_0 : Int) (a0_1 : Int) (a0_2 : Int) : Option (Int × Int × Int) := some (a0_0, a0_1, a0_2)
theorem laws_toNode.calls (a0_0 : Int) (a0_1 : Int) (a0_2 : Int) (r1 : Int) (r2 : Int) (r3 : Int) (w : World) (h : laws_toNode.f a0_0 a0_1 a0_2 = some (r1, r2, r3)) :
    Calls Try.prog 123 #[.agg #[.int .i8 a0_0, .int .i16 a0_1, .int .i16 a0_2]] w fun e w' => e = .returned (.agg #[.int .i8 r1, .int .i16 r2, .int .i16 r3]) ∧ Below w.heap.size w w' := by
 have hu131 := Try.underlying131
 have hu81 := Try.underlying81
 have HB := Aside0.mk (Below.refl w.heap.size w)
 have H : (some (a0_0, a0_1, a0_2)) = some (r1, r2, r3) := h
 clear h
 simp only [Option.some.injEq, Prod.mk.injEq] at H
 obtain ⟨rfl, rfl, rfl⟩ := H
 go_enter Try.func123, Try.ntmps123
 go_wp2_with (first | ((with_reducible refine gate_dst (N := 1) rfl ?_); refine zbx 1 #[.int .i8 a0_0, .int .i16 a0_1, .int .i16 a0_2] 131 ?_; intro gb104 hg w2 hbox hb; have n_ : _ ∧ _ ∧ _ ∧ _ := ⟨zb HB hb, Aside0.mk (hbox), zg HB hg, zg HB hg⟩; clear HB; obtain ⟨HB, BK104, GW104, GE104⟩ := n_; clear hb hbox hg) | ((with_reducible refine gate_dst (N := 2) rfl ?_); refine zbx 2 #[.int .i8 0, .int .i16 0, .int .i16 0] 81 ?_; intro gb105 hg w3 hbox hb; have n_ : _ ∧ _ ∧ _ ∧ _ ∧ _ ∧ _ ∧ _ := ⟨zk BK104 hb, zbs hb, Aside0.mk (hbox), zg HB hg, zg HB hg, zn1 BK104 hg, zn2 BK104 hg⟩; clear BK104 HB; obtain ⟨BK104, HB, BK105, GW105, GE105, NB104_105, NB105_104⟩ := n_; clear hb hbox hg) | ((with_reducible refine gate_dst (N := 3) rfl ?_); refine zbx 3 #[.int .i8 0, .int .i16 0, .int .i16 0] 81 ?_; intro gb106 hg w4 hbox hb; have n_ : _ ∧ _ ∧ _ ∧ _ ∧ _ ∧ _ ∧ _ ∧ _ ∧ _ ∧ _ := ⟨zk BK104 hb, zk BK105 hb, zbs hb, Aside0.mk (hbox), zg HB hg, zg HB hg, zn1 BK104 hg, zn2 BK104 hg, zn1 BK105 hg, zn2 BK105 hg⟩; clear BK104 BK105 HB; obtain ⟨BK104, BK105, HB, BK106, GW106, GE106, NB104_106, NB106_104, NB105_106, NB106_105⟩ := n_; clear hb hbox hg; have hnb5 := NB104_105.out; have hnc5 := NB105_104.out; have hnb6 := NB104_106.out; have hnc6 := NB106_104.out; obtain ⟨z7_0, z7_1, z7_2, y7_0, y7_1, y7_2⟩ := zB3 BK104; have hnb8 := NB106_105.out; have hnc8 := NB105_106.out; obtain ⟨z9_0, z9_1, z9_2, y9_0, y9_1, y9_2⟩ := zB3 BK106; obtain ⟨z10_0, z10_1, z10_2, y10_0, y10_1, y10_2⟩ := zB3 BK105))
 refine bodyPost_ret (results_cell_row rfl _ _ gb105 81 #[.int .i8 a0_0, .int .i16 a0_1, .int .i16 a0_2] (0, 0) _ rfl (by (with_reducible repeat (first | refine blk_drewN ?_ _ | refine blk_drew ?_ | refine blk_alloc ?_ _)); refine blk_put (cs := #[.int .i8 a0_0, .int .i16 a0_1, .int .i16 0]) ?_ 2 _ rfl; (with_reducible repeat (first | refine blk_drewN ?_ _ | refine blk_drew ?_ | refine blk_alloc ?_ _)); refine blk_put (cs := #[.int .i8 a0_0, .int .i16 0, .int .i16 0]) ?_ 1 _ rfl; (with_reducible repeat (first | refine blk_drewN ?_ _ | refine blk_drew ?_ | refine blk_alloc ?_ _)); refine blk_put (cs := #[.int .i8 0, .int .i16 0, .int .i16 0]) ?_ 0 _ rfl; (with_reducible repeat (first | refine blk_drewN ?_ _ | refine blk_drew ?_ | refine blk_alloc ?_ _)); refine blk_far ?_ NB105_106.out _; (with_reducible repeat (first | refine blk_drewN ?_ _ | refine blk_drew ?_ | refine blk_alloc ?_ _)); refine blk_far ?_ NB105_106.out _; (with_reducible repeat (first | refine blk_drewN ?_ _ | refine blk_drew ?_ | refine blk_alloc ?_ _)); refine blk_far ?_ NB105_106.out _; (with_reducible repeat (first | refine blk_drewN ?_ _ | refine blk_drew ?_ | refine blk_alloc ?_ _)); exact BK105.out) Try.underlying81 rfl (by kernel_rfl)) rfl ?_
 exact ⟨zv, zbo⟩
def laws_toNodeS.l0 : Nat → List (S131) → List (S81) → Int → Option ((List (S81)))
  | 0, _, _, _ => none
  | k + 1, x0, x3, x4 => if x4 < (x0.length : Int) then (if 0 ≤ x4 then ((laws_toNode.f ((rd_T131 x0 x4).f0) ((rd_T131 x0 x4).f1) ((rd_T131 x0 x4).f2)).bind fun bt111 => (if x4 < (x3.length : Int) then (laws_toNodeS.l0 k x0 (x3.set (x4 : Int).toNat (⟨bt111.1, bt111.2.1, bt111.2.2⟩ : S81)) (wrap64 (x4 + 1))) else (none))) else (none)) else (some x3)
def laws_toNodeS.f (k : Nat) (l0 : List (S131)) : Option ((List (S81))) := if 0 ≤ (l0.length : Int) then (if ((l0.length : Int) : Int).toNat ≤ 46912496118442 then (laws_toNodeS.l0 k l0 (List.replicate ((l0.length : Int) : Int).toNat z81) 0) else (none)) else (none)
theorem laws_toNodeS.mono_l : ∀ k, (∀ y0 y1 y2, LeO (laws_toNodeS.l0 k y0 y1 y2) (laws_toNodeS.l0 (k + 1) y0 y1 y2))
  | 0 => fun _ _ _ r h => by simp [laws_toNodeS.l0] at h
  | k + 1 => by
    have ih0 := laws_toNodeS.mono_l k
    · intro y0 y1 y2
      unfold laws_toNodeS.l0
      repeat' first | (with_reducible first | apply ih0 | exact LeO.refl _ | exact LeO.none _ | refine LeO.ite ?_ ?_ | refine LeO.bind ?_ (fun _ => ?_)) | apply ih0 | exact LeO.none _ | refine LeO.ite ?_ ?_ | refine LeO.bind ?_ (fun _ => ?_)
theorem laws_toNodeS.mono : ∀ a0 k, LeO (laws_toNodeS.f k a0) (laws_toNodeS.f (k + 1) a0) := by
 intro a0 k
 have ih0 := laws_toNodeS.mono_l k
 unfold laws_toNodeS.f
 repeat' first | (with_reducible first | apply ih0 | exact LeO.refl _ | exact LeO.none _ | refine LeO.ite ?_ ?_ | refine LeO.bind ?_ (fun _ => ?_)) | apply ih0 | exact LeO.none _ | refine LeO.ite ?_ ?_ | refine LeO.bind ?_ (fun _ => ?_)
theorem laws_toNodeS.calls (k : Nat) (A0 : Option Addr) (c0 : Nat) (l0 : List (S131)) (r : List (S81)) (w : World) (hr0 : Kd.C k131 w A0 l0.length l0) (hc0 : l0.length ≤ c0) (h : laws_toNodeS.f k l0 = some r) :
    Calls Try.prog 75 #[.slice A0 l0.length c0] w fun e w' => ∃ v0_ : Value, e = .returned (v0_) ∧ Kd.R k81 81 w' w.heap.size (fun _ => True) v0_ r ∧ Below w.heap.size w w' := by
 have hu131 := Try.underlying131
 have hu81 := Try.underlying81
 have HR0 := Aside0.mk hr0
 have HC0 := Aside0.mk hc0
 clear hr0 hc0
 have HB := Aside0.mk (Below.refl w.heap.size w)
 have H : (if 0 ≤ (l0.length : Int) then (if ((l0.length : Int) : Int).toNat ≤ 46912496118442 then (laws_toNodeS.l0 k l0 (List.replicate ((l0.length : Int) : Int).toNat z81) 0) else (none)) else (none)) = some r := h
 clear h
 by_cases c2 : 0 ≤ (l0.length : Int)
 rotate_left
 ·rw [if_neg c2] at H
  exact absurd H (by simp)
 rw [if_pos c2] at H
 have c2b0 := eq_true c2
 have c2b1 : decide (0 ≤ (l0.length : Int)) = true := decide_eq_true c2
 clear c2
 by_cases c3 : ((l0.length : Int) : Int).toNat ≤ 46912496118442
 rotate_left
 ·rw [if_neg c3] at H
  exact absurd H (by simp)
 rw [if_pos c3] at H
 have c3b0 := eq_true c3
 have c3b1 : decide (((l0.length : Int) : Int).toNat ≤ 46912496118442) = true := decide_eq_true c3
 clear c3
 obtain ⟨y107, hy107⟩ : ∃ y_ : List (S81), y_ = (List.replicate ((l0.length : Int) : Int).toNat z81) := ⟨_, rfl⟩
 replace H : (laws_toNodeS.l0 k l0 y107 0) = some r := by first | (rw [hy107]; with_reducible exact H) | (have H2_ := (Option.bind_some _ _).symm.trans H; rw [hy107]; with_reducible exact H2_) | (have H2_ := (Option.bind_some _ _).symm.trans H; with_reducible exact H2_) | with_reducible exact H | (rw [hy107]; exact H) | exact H
 have Ny107 := Aside0.mk hy107
 clear hy107
 have H' := Aside0.mk H
 clear H
 go_enter Try.func75, Try.ntmps75
 go_wp2_with (first | ((with_reducible refine gate_dst (N := 7) rfl ?_); refine Kd.R_make k81 _ 81 rfl (N := 7) rfl 29 _ _ rfl (l0.length : Int) rfl rfl Try.underlying29 (.agg #[(.int .i8 0), (.int .i16 0), (.int .i16 0)]) 6 info81 rfl (by decide) (by omega) z81 (ok := fun _ => True) (okp := fun _ => True) (k81_mkM _ _ _ z81 ) (fun _ hk => hk) trivial (of_decide_eq_true zA) (Nat.le_trans (Nat.mul_le_mul_right _ (of_decide_eq_true zA : (l0.length : Int).toNat ≤ 46912496118442)) (by omega)) (Below.refl _ _) (Nat.le_refl _) ?_; intro v108 w4 ho5 hb hg_ hnew_; clear hg_ hnew_; (first | rw [← Ny107.out] at ho5 | (simp only [Int.reduceToNat] at ho5; rw [← Ny107.out] at ho5)); have n_ : _ ∧ _ := ⟨Aside0.mk (Kd.R_lower ho5 (zz HB)), zb HB hb⟩; clear HB; obtain ⟨HO109, HB⟩ := n_; clear hb ho5))
 go_loopg [4] k (fun kq v4 w' => ∃ (x3_1 : List (S81)) (x4_1 : Int), v4 = .int .i64 x4_1 ∧ Aside0 (laws_toNodeS.l0 kq l0 x3_1 x4_1 = some r) ∧ Aside0 (kq ≤ k) ∧ Aside0 (Kd.R k81 81 w' w.heap.size (fun _ => True) v108 x3_1) ∧ Aside0 (Below w.heap.size w w'))
 case atStart => exact ⟨(y107), (0), zi, H', ⟨Nat.le_refl _⟩, ze HO109, zl HB⟩
 clear H'
 try clear c2
 try clear c2b0
 try clear c2b1
 try clear p2
 try clear c3
 try clear c3b0
 try clear c3b1
 obtain ⟨x3_1, x4_1, rfl, HA, HK1, HO_3, HB⟩ := hrel
 cases gk with
 | zero => exact absurd HA.out (by simp [laws_toNodeS.l0])
 | succ k1 => ?_
 have H := HA.out
 clear HA
 simp only [laws_toNodeS.l0] at H
 by_cases c6 : x4_1 < (l0.length : Int)
 rotate_left
 ·rw [if_neg c6] at H
  have c6b0 : decide (x4_1 < (l0.length : Int)) = false := decide_eq_false c6
  clear c6
  obtain rfl := Option.some.inj H
  go_wp2
  go_ret
  exact ⟨_, zv, by (with_reducible repeat (first | apply Kd.R_alloc | apply Kd.R_drewN | apply Kd.R_drew)); exact HO_3.out, zbo⟩
 rw [if_pos c6] at H
 have c6b0 : decide (x4_1 < (l0.length : Int)) = true := decide_eq_true c6
 clear c6
 by_cases c7 : 0 ≤ x4_1
 rotate_left
 ·rw [if_neg c7] at H
  exact absurd H (by simp)
 rw [if_pos c7] at H
 have c7b0 : decide (0 ≤ x4_1) = true := decide_eq_true c7
 clear c7
 replace H := zob H
 obtain ⟨⟨t111, t112, t113⟩, A80, H⟩ := H
 replace H : (if x4_1 < (x3_1.length : Int) then (laws_toNodeS.l0 k1 l0 (x3_1.set (x4_1 : Int).toNat (⟨t111, t112, t113⟩ : S81)) (wrap64 (x4_1 + 1))) else (none)) = some r := H
 have A8 := Aside0.mk A80
 clear A80
 by_cases c9 : x4_1 < (x3_1.length : Int)
 rotate_left
 ·rw [if_neg c9] at H
  exact absurd H (by simp)
 rw [if_pos c9] at H
 have c9b0 : decide (x4_1 < (x3_1.length : Int)) = true := decide_eq_true c9
 clear c9
 obtain ⟨y114, hy114⟩ : ∃ y_ : List (S81), y_ = (x3_1.set (x4_1 : Int).toNat (⟨t111, t112, t113⟩ : S81)) := ⟨_, rfl⟩
 replace H : (laws_toNodeS.l0 k1 l0 y114 (wrap64 (x4_1 + 1))) = some r := by first | (rw [hy114]; with_reducible exact H) | (have H2_ := (Option.bind_some _ _).symm.trans H; rw [hy114]; with_reducible exact H2_) | (have H2_ := (Option.bind_some _ _).symm.trans H; with_reducible exact H2_) | with_reducible exact H | (rw [hy114]; exact H) | exact H
 have Ny114 := Aside0.mk hy114
 clear hy114
 have H' := Aside0.mk H
 clear H
 have p110 : 0 ≤ (x4_1 : Int) := of_decide_eq_true zA
 have q110 : x4_1 < (l0.length : Int) := of_decide_eq_true zA
 obtain ⟨ad110, e110, hx110_0, hx110_1, hx110_2⟩ := at_T131 HR0.out x4_1 p110 q110
 cases e110
 replace hx110_0 := zc HB hx110_0
 replace hx110_1 := zc HB hx110_1
 replace hx110_2 := zc HB hx110_2
 replace p110 := eq_true p110
 replace q110 := eq_true q110
 go_wp2_with (first | ((with_reducible refine gate_callee (f := 123) rfl ?_); refine goesL_ (some 20) rfl rfl Try.func123 (by kernel_rfl) rfl #[.agg #[.int .i8 ((rd_T131 l0 x4_1).f0), .int .i16 ((rd_T131 l0 x4_1).f1), .int .i16 ((rd_T131 l0 x4_1).f2)]] rfl zm ?_; (with_reducible refine (laws_toNode.calls ((rd_T131 l0 x4_1).f0) ((rd_T131 l0 x4_1).f1) ((rd_T131 l0 x4_1).f2) t111 t112 t113 _ A8.out).mono ?_); rintro e w11 ⟨rfl, hb⟩; refine ⟨_, rfl, ?_⟩; have n_ : _ ∧ _ := ⟨zr HO_3 hb, zb HB hb⟩; clear HO_3 HB; obtain ⟨HO_3, HB⟩ := n_; (try clear hb); (try clear hb2); (try clear hk); (try clear hi); have p10 : 0 ≤ (x4_1 : Int) := of_decide_eq_true zA; have q10 : (x4_1 : Int) < ((x3_1.length : Int) : Int) := of_decide_eq_true zA; obtain ⟨go10, co10, eo10, gb10, gl10, cl10, HG10⟩ := Kd.R_form HO_3.out (by omega); (first | cases eo10 | (injection eo10 with ea_ en_ ec_; (first | subst ea_ | (injection ea_ with ea_; subst ea_)); subst ec_; clear en_)); have GB10 := Aside0.mk gb10; have GG10 := Aside0.mk HG10; clear gb10 gl10 HG10; obtain ⟨ce10, hcl10, hM10, hcc10, hfr10⟩ := Kd.R_elem HO_3.out z81 (x4_1 : Int) p10 q10; obtain rfl := k81_openM hM10; have hx10_0 : w11.cell? ⟨go10, (x4_1 : Int).toNat * 3, none⟩ = some (.int .i8 ((rd_T81 x3_1 x4_1).f0)) := hcc10 0 _ rfl; have hx10_1 : w11.cell? ⟨go10, (x4_1 : Int).toNat * 3 + 1, none⟩ = some (.int .i16 ((rd_T81 x3_1 x4_1).f1)) := hcc10 1 _ rfl; have hx10_2 : w11.cell? ⟨go10, (x4_1 : Int).toNat * 3 + 2, none⟩ = some (.int .i16 ((rd_T81 x3_1 x4_1).f2)) := hcc10 2 _ rfl; have hf10_0 : w11.frozen? ⟨go10, (x4_1 : Int).toNat * 3, none⟩ = false := hfr10 0; have hf10_1 : w11.frozen? ⟨go10, (x4_1 : Int).toNat * 3 + 1, none⟩ = false := hfr10 1; have hf10_2 : w11.frozen? ⟨go10, (x4_1 : Int).toNat * 3 + 2, none⟩ = false := hfr10 2; clear hcl10 hcc10 hfr10 hM10; replace p10 := eq_true p10; replace q10 := eq_true q10; have HX12 := Aside0.mk (show Kd.R k81 81 w11 w.heap.size (fun _ => True) (.slice (some ⟨go10, 0, none⟩) x3_1.length co10) x3_1 from (ze HO_3).out); obtain ⟨ce12, hcl12, hM12, hcc12, hfr12⟩ := Kd.R_elem HX12.out z81 (x4_1 : Int) (of_decide_eq_true zA) (zlt (x4_1 : Int) (x3_1.length : Int) (Kd.R_reads' HO_3.out).1); obtain rfl := k81_openM hM12; have HP12 := Kd.R_seg HX12.out (x4_1 : Int) (of_decide_eq_true zA) (zlt (x4_1 : Int) (x3_1.length : Int) (Kd.R_reads' HO_3.out).1) (seg := [.int .i8 t111, .int .i16 t112, .int .i16 t113]) (j := 0) hcl12 hcc12 (show 3 ≤ 3 from by decide) (x' := (⟨t111, t112, t113⟩ : S81)) (k81_mkM _ _ _ (⟨t111, t112, t113⟩ : S81) ) (fun _ hk => hk); have hx12_0 := hcc12 0 _ rfl; (try simp only [show (k81).sz = 3 from rfl, Nat.mul_one, Nat.add_zero] at hx12_0); have hf12_0 := hfr12 0; (try simp only [show (k81).sz = 3 from rfl, Nat.mul_one, Nat.add_zero] at hf12_0); have hx12_1 := hcc12 1 _ rfl; (try simp only [show (k81).sz = 3 from rfl, Nat.mul_one, Nat.add_zero] at hx12_1); have hf12_1 := hfr12 1; (try simp only [show (k81).sz = 3 from rfl, Nat.mul_one, Nat.add_zero] at hf12_1); have hx12_2 := hcc12 2 _ rfl; (try simp only [show (k81).sz = 3 from rfl, Nat.mul_one, Nat.add_zero] at hx12_2); have hf12_2 := hfr12 2; (try simp only [show (k81).sz = 3 from rfl, Nat.mul_one, Nat.add_zero] at hf12_2); clear hcl12 hcc12 hfr12 hM12) | ((with_reducible refine gate_store (t := 81) (p := 21) rfl ?_); refine store_event (t := 81) (p := 21) (v := ?vo_w13) (w1 := (((w11.setCell ⟨go10, (x4_1 : Int).toNat * 3, none⟩ (.int .i8 t111)).setCell ⟨go10, (x4_1 : Int).toNat * 3 + 1, none⟩ (.int .i16 t112)).setCell ⟨go10, (x4_1 : Int).toNat * 3 + 2, none⟩ (.int .i16 t113))) ?hg ?ho ?hn ?hr ?_; (case ho => rfl); (case hg => rfl); (case hn => rfl); (case hr => exact zgs); intro w13 hw; have hg : w11.grownBy w13 (some go10) := (by rw [hw]; exact HP12.2); have hp_ : Kd.R k81 81 w13 w.heap.size (fun _ => True) (.slice (some ⟨go10, 0, none⟩) x3_1.length co10) y114 := (by rw [hw, Ny114.out]; exact HP12.1); clear HP12; have n_ : _ ∧ _ := ⟨Aside0.mk (hp_), Aside0.mk ((by rw [hw]; exact below_set (below_set (below_set (HB.out) GB10.out) GB10.out) GB10.out : Below w.heap.size w w13))⟩; clear HO_3 HB; obtain ⟨HO_3, HB⟩ := n_; clear hg hw hp_))
 go_roundg k1
 case measure => have := HK1.out; omega
 case rel => exact ⟨(y114), (wrap64 (x4_1 + 1)), zi, H', ⟨by have := HK1.out; omega⟩, ze HO_3, zl HB⟩
def laws_toInt16S.l0 : Nat → List Int → List Int → Int → Option (List Int)
  | 0, _, _, _ => none
  | k + 1, x0, x3, x4 => if x4 < (x0.length : Int) then (if 0 ≤ x4 then (if x4 < (x3.length : Int) then (laws_toInt16S.l0 k x0 (x3.set (x4 : Int).toNat (rd x0 x4)) (wrap64 (x4 + 1))) else (none)) else (none)) else (some x3)
def laws_toInt16S.f (k : Nat) (l0 : List Int) : Option (List Int) := if 0 ≤ (l0.length : Int) then (if ((l0.length : Int) : Int).toNat ≤ 140737488355328 then (laws_toInt16S.l0 k l0 (List.replicate ((l0.length : Int) : Int).toNat 0) 0) else (none)) else (none)
theorem laws_toInt16S.mono_l : ∀ k, (∀ y0 y1 y2, LeO (laws_toInt16S.l0 k y0 y1 y2) (laws_toInt16S.l0 (k + 1) y0 y1 y2))
  | 0 => fun _ _ _ r h => by simp [laws_toInt16S.l0] at h
  | k + 1 => by
    have ih0 := laws_toInt16S.mono_l k
    · intro y0 y1 y2
      unfold laws_toInt16S.l0
      repeat' first | (with_reducible first | apply ih0 | exact LeO.refl _ | exact LeO.none _ | refine LeO.ite ?_ ?_ | refine LeO.bind ?_ (fun _ => ?_)) | apply ih0 | exact LeO.none _ | refine LeO.ite ?_ ?_ | refine LeO.bind ?_ (fun _ => ?_)
theorem laws_toInt16S.mono : ∀ a0 k, LeO (laws_toInt16S.f k a0) (laws_toInt16S.f (k + 1) a0) := by
 intro a0 k
 have ih0 := laws_toInt16S.mono_l k
 unfold laws_toInt16S.f
 repeat' first | (with_reducible first | apply ih0 | exact LeO.refl _ | exact LeO.none _ | refine LeO.ite ?_ ?_ | refine LeO.bind ?_ (fun _ => ?_)) | apply ih0 | exact LeO.none _ | refine LeO.ite ?_ ?_ | refine LeO.bind ?_ (fun _ => ?_)
theorem laws_toInt16S.calls (k : Nat) (A0 : Option Addr) (c0 : Nat) (l0 : List Int) (r : List Int) (w : World) (hr0 : Kd.C (Kd.int .i16) w A0 l0.length l0) (hc0 : l0.length ≤ c0) (h : laws_toInt16S.f k l0 = some r) :
    Calls Try.prog 76 #[.slice A0 l0.length c0] w fun e w' => ∃ v0_ : Value, e = .returned (v0_) ∧ Kd.R (Kd.int .i16) 79 w' w.heap.size (fun _ => True) v0_ r ∧ Below w.heap.size w w' := by
 have HR0 := Aside0.mk hr0
 have HC0 := Aside0.mk hc0
 clear hr0 hc0
 have HB := Aside0.mk (Below.refl w.heap.size w)
 have H : (if 0 ≤ (l0.length : Int) then (if ((l0.length : Int) : Int).toNat ≤ 140737488355328 then (laws_toInt16S.l0 k l0 (List.replicate ((l0.length : Int) : Int).toNat 0) 0) else (none)) else (none)) = some r := h
 clear h
 by_cases c2 : 0 ≤ (l0.length : Int)
 rotate_left
 ·rw [if_neg c2] at H
  exact absurd H (by simp)
 rw [if_pos c2] at H
 have c2b0 := eq_true c2
 have c2b1 : decide (0 ≤ (l0.length : Int)) = true := decide_eq_true c2
 clear c2
 by_cases c3 : ((l0.length : Int) : Int).toNat ≤ 140737488355328
 rotate_left
 ·rw [if_neg c3] at H
  exact absurd H (by simp)
 rw [if_pos c3] at H
 have c3b0 := eq_true c3
 have c3b1 : decide (((l0.length : Int) : Int).toNat ≤ 140737488355328) = true := decide_eq_true c3
 clear c3
 obtain ⟨y115, hy115⟩ : ∃ y_ : List Int, y_ = (List.replicate ((l0.length : Int) : Int).toNat 0) := ⟨_, rfl⟩
 replace H : (laws_toInt16S.l0 k l0 y115 0) = some r := by first | (rw [hy115]; with_reducible exact H) | (have H2_ := (Option.bind_some _ _).symm.trans H; rw [hy115]; with_reducible exact H2_) | (have H2_ := (Option.bind_some _ _).symm.trans H; with_reducible exact H2_) | with_reducible exact H | (rw [hy115]; exact H) | exact H
 have Ny115 := Aside0.mk hy115
 clear hy115
 have H' := Aside0.mk H
 clear H
 go_enter Try.func76, Try.ntmps76
 go_wp2_with (first | ((with_reducible refine gate_dst (N := 7) rfl ?_); refine Kd.R_make (Kd.int .i16) _ 79 rfl (N := 7) rfl 24 _ _ rfl (l0.length : Int) rfl rfl Try.underlying24 (.int .i16 0) 2 info79 rfl (by decide) (by omega) 0 (ok := fun _ => True) (okp := fun _ => True) rfl (fun _ hk => hk) trivial (of_decide_eq_true zA) (Nat.le_trans (Nat.mul_le_mul_right _ (of_decide_eq_true zA : (l0.length : Int).toNat ≤ 140737488355328)) (by omega)) (Below.refl _ _) (Nat.le_refl _) ?_; intro v116 w4 ho5 hb hg_ hnew_; clear hg_ hnew_; (first | rw [← Ny115.out] at ho5 | (simp only [Int.reduceToNat] at ho5; rw [← Ny115.out] at ho5)); have n_ : _ ∧ _ := ⟨Aside0.mk (Kd.R_lower ho5 (zz HB)), zb HB hb⟩; clear HB; obtain ⟨HO117, HB⟩ := n_; clear hb ho5))
 go_loopg [4] k (fun kq v4 w' => ∃ (x3_1 : List Int) (x4_1 : Int), v4 = .int .i64 x4_1 ∧ Aside0 (laws_toInt16S.l0 kq l0 x3_1 x4_1 = some r) ∧ Aside0 (kq ≤ k) ∧ Aside0 (Kd.R (Kd.int .i16) 79 w' w.heap.size (fun _ => True) v116 x3_1) ∧ Aside0 (Below w.heap.size w w'))
 case atStart => exact ⟨(y115), (0), zi, H', ⟨Nat.le_refl _⟩, ze HO117, zl HB⟩
 clear H'
 try clear c2
 try clear c2b0
 try clear c2b1
 try clear p2
 try clear c3
 try clear c3b0
 try clear c3b1
 obtain ⟨x3_1, x4_1, rfl, HA, HK1, HO_3, HB⟩ := hrel
 cases gk with
 | zero => exact absurd HA.out (by simp [laws_toInt16S.l0])
 | succ k1 => ?_
 have H := HA.out
 clear HA
 simp only [laws_toInt16S.l0] at H
 by_cases c6 : x4_1 < (l0.length : Int)
 rotate_left
 ·rw [if_neg c6] at H
  have c6b0 : decide (x4_1 < (l0.length : Int)) = false := decide_eq_false c6
  clear c6
  obtain rfl := Option.some.inj H
  go_wp2
  go_ret
  exact ⟨_, zv, by (with_reducible repeat (first | apply Kd.R_alloc | apply Kd.R_drewN | apply Kd.R_drew)); exact HO_3.out, zbo⟩
 rw [if_pos c6] at H
 have c6b0 : decide (x4_1 < (l0.length : Int)) = true := decide_eq_true c6
 clear c6
 by_cases c7 : 0 ≤ x4_1
 rotate_left
 ·rw [if_neg c7] at H
  exact absurd H (by simp)
 rw [if_pos c7] at H
 have c7b0 : decide (0 ≤ x4_1) = true := decide_eq_true c7
 clear c7
 by_cases c8 : x4_1 < (x3_1.length : Int)
 rotate_left
 ·rw [if_neg c8] at H
  exact absurd H (by simp)
 rw [if_pos c8] at H
 have c8b0 : decide (x4_1 < (x3_1.length : Int)) = true := decide_eq_true c8
 clear c8
 obtain ⟨y119, hy119⟩ : ∃ y_ : List Int, y_ = (x3_1.set (x4_1 : Int).toNat (rd l0 x4_1)) := ⟨_, rfl⟩
 replace H : (laws_toInt16S.l0 k1 l0 y119 (wrap64 (x4_1 + 1))) = some r := by first | (rw [hy119]; with_reducible exact H) | (have H2_ := (Option.bind_some _ _).symm.trans H; rw [hy119]; with_reducible exact H2_) | (have H2_ := (Option.bind_some _ _).symm.trans H; with_reducible exact H2_) | with_reducible exact H | (rw [hy119]; exact H) | exact H
 have Ny119 := Aside0.mk hy119
 clear hy119
 have H' := Aside0.mk H
 clear H
 have p118 : 0 ≤ (x4_1 : Int) := of_decide_eq_true zA
 have q118 : x4_1 < (l0.length : Int) := of_decide_eq_true zA
 obtain ⟨ad118, e118, hx118_0⟩ := Kd.at_int HR0.out x4_1 p118 q118
 cases e118
 replace hx118_0 := zc HB hx118_0
 replace p118 := eq_true p118
 replace q118 := eq_true q118
 have p9 : 0 ≤ (x4_1 : Int) := of_decide_eq_true zA
 have q9 : (x4_1 : Int) < ((x3_1.length : Int) : Int) := of_decide_eq_true zA
 obtain ⟨go9, co9, eo9, gb9, gl9, cl9, HG9⟩ := Kd.R_form HO_3.out (by omega)
 (first | cases eo9 | (injection eo9 with ea_ en_ ec_; (first | subst ea_ | (injection ea_ with ea_; subst ea_)); subst ec_; clear en_))
 have GB9 := Aside0.mk gb9
 have GG9 := Aside0.mk HG9
 clear gb9 gl9 HG9
 obtain ⟨hx9_0, hf9_0⟩ := Kd.R_celln 0 HO_3.out (x4_1 : Int) p9 q9
 replace p9 := eq_true p9
 replace q9 := eq_true q9
 have HP10 := Kd.R_putg HO_3.out (x4_1 : Int) (rd l0 x4_1)
 go_wp2_with (first | ((with_reducible refine gate_store (t := 79) (p := 20) rfl ?_); refine store_event (t := 79) (p := 20) (v := ?vo_w11) (w1 := (wr.setCell ⟨go9, (x4_1 : Int).toNat, none⟩ (.int .i16 (rd l0 x4_1)))) ?hg ?ho ?hn ?hr ?_; (case ho => rfl); (case hg => rfl); (case hn => rfl); (case hr => exact zgs); intro w11 hw; have hg : wr.grownBy w11 (some go9) := (by rw [hw]; exact HP10.2); have hp_ : Kd.R (Kd.int .i16) 79 w11 w.heap.size (fun _ => True) (.slice (some ⟨go9, 0, none⟩) x3_1.length co9) y119 := (by rw [hw, Ny119.out]; exact HP10.1); clear HP10; have n_ : _ ∧ _ := ⟨Aside0.mk (hp_), Aside0.mk ((by rw [hw]; exact below_set (HB.out) GB9.out : Below w.heap.size w w11))⟩; clear HO_3 HB; obtain ⟨HO_3, HB⟩ := n_; clear hg hw hp_))
 go_roundg k1
 case measure => have := HK1.out; omega
 case rel => exact ⟨(y119), (wrap64 (x4_1 + 1)), zi, H', ⟨by have := HK1.out; omega⟩, ze HO_3, zl HB⟩
def laws_toNetwork.f (k : Nat) (a0_0 : Int) (l0_1 : List (S131)) (l0_2 : List Int) : Option (Int × (List (S81)) × List Int) := (laws_toNodeS.f k l0_1).bind fun t123 => ((laws_toInt16S.f k l0_2).bind fun t126 => (some (a0_0, t123, t126)))
theorem laws_toNetwork.mono : ∀ a0 a1 a2 k, LeO (laws_toNetwork.f k a0 a1 a2) (laws_toNetwork.f (k + 1) a0 a1 a2) := by
 intro a0 a1 a2 k
 unfold laws_toNetwork.f
 repeat' first | (with_reducible first | apply laws_toInt16S.mono | apply laws_toNodeS.mono | exact LeO.refl _ | exact LeO.none _ | refine LeO.ite ?_ ?_ | refine LeO.bind ?_ (fun _ => ?_)) | apply laws_toInt16S.mono | apply laws_toNodeS.mono | exact LeO.none _ | refine LeO.ite ?_ ?_ | refine LeO.bind ?_ (fun _ => ?_)
theorem laws_toNetwork.calls (k : Nat) (a0_0 : Int) (A0_1 : Option Addr) (c0_1 : Nat) (l0_1 : List (S131)) (A0_2 : Option Addr) (c0_2 : Nat) (l0_2 : List Int) (r1 : Int) (r2 : List (S81)) (r3 : List Int) (w : World) (hr0_1 : Kd.C k131 w A0_1 l0_1.length l0_1) (hc0_1 : l0_1.length ≤ c0_1) (hr0_2 : Kd.C (Kd.int .i16) w A0_2 l0_2.length l0_2) (hc0_2 : l0_2.length ≤ c0_2) (h : laws_toNetwork.f k a0_0 l0_1 l0_2 = some (r1, r2, r3)) :
    Calls Try.prog 23 #[.agg #[.int .i8 a0_0, .slice A0_1 l0_1.length c0_1, .slice A0_2 l0_2.length c0_2]] w fun e w' => ∃ v1_ v2_ : Value, e = .returned (.agg #[.int .i8 r1, v1_, v2_]) ∧ Kd.R k81 81 w' w.heap.size (fun _ => True) v1_ r2 ∧ Kd.R (Kd.int .i16) 79 w' w.heap.size (fun _ => True) v2_ r3 ∧ Below w.heap.size w w' := by
 have hu26 := Try.underlying26
 have hu31 := Try.underlying31
 have HR0_1 := Aside0.mk hr0_1
 have HC0_1 := Aside0.mk hc0_1
 clear hr0_1 hc0_1
 have HR0_2 := Aside0.mk hr0_2
 have HC0_2 := Aside0.mk hc0_2
 clear hr0_2 hc0_2
 have HB := Aside0.mk (Below.refl w.heap.size w)
 have H : ((laws_toNodeS.f k l0_1).bind fun t123 => ((laws_toInt16S.f k l0_2).bind fun t126 => (some (a0_0, t123, t126)))) = some (r1, r2, r3) := h
 clear h
 replace H := zob H
 obtain ⟨t123, A20, H⟩ := H
 replace H : ((laws_toInt16S.f k l0_2).bind fun t126 => (some (a0_0, t123, t126))) = some (r1, r2, r3) := H
 have A2 := Aside0.mk A20
 clear A20
 replace H := zob H
 obtain ⟨t126, A30, H⟩ := H
 replace H : (some (a0_0, t123, t126)) = some (r1, r2, r3) := H
 have A3 := Aside0.mk A30
 clear A30
 simp only [Option.some.injEq, Prod.mk.injEq] at H
 obtain ⟨rfl, rfl, rfl⟩ := H
 go_enter Try.func23, Try.ntmps23
 go_wp2_with (first | ((with_reducible refine gate_dst (N := 1) rfl ?_); refine zbx 1 #[.int .i8 a0_0, .slice A0_1 l0_1.length c0_1, .slice A0_2 l0_2.length c0_2] 26 ?_; intro gb120 hg w4 hbox hb; have n_ : _ ∧ _ ∧ _ ∧ _ := ⟨zb HB hb, Aside0.mk (hbox), zg HB hg, zg HB hg⟩; clear HB; obtain ⟨HB, BK120, GW120, GE120⟩ := n_; clear hb hbox hg) | ((with_reducible refine gate_dst (N := 2) rfl ?_); refine zbx 2 #[.int .i8 0, .slice none 0 0, .slice none 0 0] 31 ?_; intro gb121 hg w5 hbox hb; have n_ : _ ∧ _ ∧ _ ∧ _ ∧ _ ∧ _ ∧ _ := ⟨zk BK120 hb, zbs hb, Aside0.mk (hbox), zg HB hg, zg HB hg, zn1 BK120 hg, zn2 BK120 hg⟩; clear BK120 HB; obtain ⟨BK120, HB, BK121, GW121, GE121, NB120_121, NB121_120⟩ := n_; clear hb hbox hg) | ((with_reducible refine gate_dst (N := 3) rfl ?_); refine zbx 3 #[.int .i8 0, .slice none 0 0, .slice none 0 0] 31 ?_; intro gb122 hg w6 hbox hb; have n_ : _ ∧ _ ∧ _ ∧ _ ∧ _ ∧ _ ∧ _ ∧ _ ∧ _ ∧ _ := ⟨zk BK120 hb, zk BK121 hb, zbs hb, Aside0.mk (hbox), zg HB hg, zg HB hg, zn1 BK120 hg, zn2 BK120 hg, zn1 BK121 hg, zn2 BK121 hg⟩; clear BK120 BK121 HB; obtain ⟨BK120, BK121, HB, BK122, GW122, GE122, NB120_122, NB122_120, NB121_122, NB122_121⟩ := n_; clear hb hbox hg; have hnb7 := NB120_121.out; have hnc7 := NB121_120.out; have hnb8 := NB120_122.out; have hnc8 := NB122_120.out; obtain ⟨z9_0, z9_1, z9_2, y9_0, y9_1, y9_2⟩ := zB3 BK120; have hnb10 := NB122_121.out; have hnc10 := NB121_122.out; obtain ⟨z11_0, z11_1, z11_2, y11_0, y11_1, y11_2⟩ := zB3 BK122) | ((with_reducible refine gate_callee (f := 75) rfl ?_); refine goesL_ (some 9) rfl rfl Try.func75 (by kernel_rfl) rfl #[.slice A0_1 l0_1.length c0_1] rfl zm ?_; (with_reducible refine (laws_toNodeS.calls k _ _ l0_1 t123 _ ?side1 ?side2 A2.out).mono ?_); (case side1 => exact Kd.C_below HR0_1.out zbo); (case side2 => exact HC0_1.out); rintro e w12 ⟨v124, rfl, ho0, hb⟩; refine ⟨_, rfl, ?_⟩; have n_ : _ ∧ _ ∧ _ ∧ _ ∧ _ := ⟨Aside0.mk (Kd.R_lower ho0 (zz HB)), zfb BK120 NB120_122 hb, zfb BK121 NB121_122 hb, Aside0.mk (blk_below (g := gb122) (o := .cells #[.int .i8 a0_0, .slice none 0 0, .slice none 0 0] 31 (0, 0)) (zp BK122) hb), zbs hb⟩; clear BK120 BK121 BK122 HB; obtain ⟨HO125, BK120, BK121, BK122, HB⟩ := n_; (try clear hb); (try clear hb2); (try clear hk); (try clear hi); (try clear ho0); obtain ⟨Ao13, co13, eo13⟩ := Kd.R_slice HO125.out; subst eo13; obtain ⟨z14_0, z14_1, z14_2, y14_0, y14_1, y14_2⟩ := zB3 BK122; obtain ⟨z15_0, z15_1, z15_2, y15_0, y15_1, y15_2⟩ := zB3 BK120) | ((with_reducible refine gate_callee (f := 76) rfl ?_); refine goesL_ (some 13) rfl rfl Try.func76 (by kernel_rfl) rfl #[.slice A0_2 l0_2.length c0_2] rfl zm ?_; (with_reducible refine (laws_toInt16S.calls k _ _ l0_2 t126 _ ?side1 ?side2 A3.out).mono ?_); (case side1 => exact Kd.C_below HR0_2.out zbo); (case side2 => exact HC0_2.out); rintro e w16 ⟨v127, rfl, ho0, hb⟩; refine ⟨_, rfl, ?_⟩; have n_ : _ ∧ _ ∧ _ ∧ _ ∧ _ ∧ _ := ⟨zsb HO125 BK122 hb, Aside0.mk (Kd.R_lower ho0 (zz HB)), zfb BK120 NB120_122 hb, zfb BK121 NB121_122 hb, Aside0.mk (blk_below (g := gb122) (o := .cells #[.int .i8 a0_0, .slice Ao13 t123.length co13, .slice none 0 0] 31 (0, 0)) (zp BK122) hb), zbs hb⟩; clear HO125 BK120 BK121 BK122 HB; obtain ⟨HO125, HO128, BK120, BK121, BK122, HB⟩ := n_; (try clear hb); (try clear hb2); (try clear hk); (try clear hi); (try clear ho0); obtain ⟨Ao17, co17, eo17⟩ := Kd.R_slice HO128.out; subst eo17; obtain ⟨z18_0, z18_1, z18_2, y18_0, y18_1, y18_2⟩ := zB3 BK122; obtain ⟨z19_0, z19_1, z19_2, y19_0, y19_1, y19_2⟩ := zB3 BK121))
 refine bodyPost_ret (results_cell_row rfl _ _ gb121 31 #[.int .i8 a0_0, .slice Ao13 t123.length co13, .slice Ao17 t126.length co17] (0, 0) _ rfl (by (with_reducible repeat (first | refine blk_drewN ?_ _ | refine blk_drew ?_ | refine blk_alloc ?_ _)); refine blk_put (cs := #[.int .i8 a0_0, .slice Ao13 t123.length co13, .slice none 0 0]) ?_ 2 _ rfl; (with_reducible repeat (first | refine blk_drewN ?_ _ | refine blk_drew ?_ | refine blk_alloc ?_ _)); refine blk_put (cs := #[.int .i8 a0_0, .slice none 0 0, .slice none 0 0]) ?_ 1 _ rfl; (with_reducible repeat (first | refine blk_drewN ?_ _ | refine blk_drew ?_ | refine blk_alloc ?_ _)); refine blk_put (cs := #[.int .i8 0, .slice none 0 0, .slice none 0 0]) ?_ 0 _ rfl; (with_reducible repeat (first | refine blk_drewN ?_ _ | refine blk_drew ?_ | refine blk_alloc ?_ _)); refine blk_far ?_ NB121_122.out _; (with_reducible repeat (first | refine blk_drewN ?_ _ | refine blk_drew ?_ | refine blk_alloc ?_ _)); exact BK121.out) Try.underlying31 rfl (by kernel_rfl)) rfl ?_
 exact ⟨_, _, zv, by (with_reducible repeat (first | apply Kd.R_alloc | apply Kd.R_drewN | apply Kd.R_drew)); exact Kd.R_mono (Kd.R_far (p := ⟨gb121, 2, none⟩) (Kd.R_far (p := ⟨gb121, 1, none⟩) (Kd.R_far (p := ⟨gb121, 0, none⟩) (Kd.R_far (p := ⟨gb122, 2, none⟩) (Kd.R_types (Kd.R_types HO125.out BK122.out (by decide)) BK121.out (by decide)) (fun _ hk => hk.1.2) (.slice Ao17 t126.length co17)) (fun _ hk => hk.2) (.int .i8 a0_0)) (fun _ hk => hk.2) (.slice Ao13 t123.length co13)) (fun _ hk => hk.2) (.slice Ao17 t126.length co17)) (fun _ hk => trivial), by (with_reducible repeat (first | apply Kd.R_alloc | apply Kd.R_drewN | apply Kd.R_drew)); exact Kd.R_mono (Kd.R_far (p := ⟨gb121, 2, none⟩) (Kd.R_far (p := ⟨gb121, 1, none⟩) (Kd.R_far (p := ⟨gb121, 0, none⟩) (Kd.R_far (p := ⟨gb122, 2, none⟩) (Kd.R_types (Kd.R_types HO128.out BK122.out (by decide)) BK121.out (by decide)) (fun _ hk => hk.1.2) (.slice Ao17 t126.length co17)) (fun _ hk => hk.2) (.int .i8 a0_0)) (fun _ hk => hk.2) (.slice Ao13 t123.length co13)) (fun _ hk => hk.2) (.slice Ao17 t126.length co17)) (fun _ hk => trivial), zbo⟩
def laws_eqNode.f (a0_0 : Int) (a0_1 : Int) (a0_2 : Int) (a1_0 : Int) (a1_1 : Int) (a1_2 : Int) : Option (Bool) := if a0_0 = a1_0 then (if a0_1 = a1_1 then (if a0_2 = a1_2 then (some true) else (some false)) else (some false)) else (some false)
theorem laws_eqNode.calls (a0_0 : Int) (a0_1 : Int) (a0_2 : Int) (a1_0 : Int) (a1_1 : Int) (a1_2 : Int) (r : Bool) (w : World) (h : laws_eqNode.f a0_0 a0_1 a0_2 a1_0 a1_1 a1_2 = some r) :
    Calls Try.prog 124 #[.agg #[.int .i8 a0_0, .int .i16 a0_1, .int .i16 a0_2], .agg #[.int .i8 a1_0, .int .i16 a1_1, .int .i16 a1_2]] w fun e w' => e = .returned (.bool r) ∧ Below w.heap.size w w' := by
 have hu81 := Try.underlying81
 have HB := Aside0.mk (Below.refl w.heap.size w)
 have H : (if a0_0 = a1_0 then (if a0_1 = a1_1 then (if a0_2 = a1_2 then (some true) else (some false)) else (some false)) else (some false)) = some r := h
 clear h
 by_cases c3 : a0_0 = a1_0
 rotate_left
 ·rw [if_neg c3] at H
  have c3b0 : (a0_0 == a1_0) = false := beq_eq_false_iff_ne.mpr c3
  have c3b1 : (a0_0 != a1_0) = true := bne_iff_ne.mpr c3
  obtain rfl := Option.some.inj H
  go_enter Try.func124, Try.ntmps124
  go_wp2_with (first | ((with_reducible refine gate_dst (N := 2) rfl ?_); refine zbx 2 #[.int .i8 a0_0, .int .i16 a0_1, .int .i16 a0_2] 81 ?_; intro gb129 hg w21 hbox hb; have n_ : _ ∧ _ ∧ _ ∧ _ := ⟨zb HB hb, Aside0.mk (hbox), zg HB hg, zg HB hg⟩; clear HB; obtain ⟨HB, BK129, GW129, GE129⟩ := n_; clear hb hbox hg) | ((with_reducible refine gate_dst (N := 3) rfl ?_); refine zbx 3 #[.int .i8 a1_0, .int .i16 a1_1, .int .i16 a1_2] 81 ?_; intro gb130 hg w22 hbox hb; have n_ : _ ∧ _ ∧ _ ∧ _ ∧ _ ∧ _ ∧ _ := ⟨zk BK129 hb, zbs hb, Aside0.mk (hbox), zg HB hg, zg HB hg, zn1 BK129 hg, zn2 BK129 hg⟩; clear BK129 HB; obtain ⟨BK129, HB, BK130, GW130, GE130, NB129_130, NB130_129⟩ := n_; clear hb hbox hg; have hnb23 := NB129_130.out; have hnc23 := NB130_129.out; obtain ⟨z24_0, z24_1, z24_2, y24_0, y24_1, y24_2⟩ := zB3 BK129; obtain ⟨z25_0, z25_1, z25_2, y25_0, y25_1, y25_2⟩ := zB3 BK130))
  go_ret
  exact ⟨zv, zbo⟩
 rw [if_pos c3] at H
 have c3b0 : (a0_0 == a1_0) = true := beq_iff_eq.mpr c3
 have c3b1 : (a0_0 != a1_0) = false := bne_eq_false_iff_eq.mpr c3
 clear c3
 by_cases c4 : a0_1 = a1_1
 rotate_left
 ·rw [if_neg c4] at H
  have c4b0 : (a0_1 == a1_1) = false := beq_eq_false_iff_ne.mpr c4
  have c4b1 : (a0_1 != a1_1) = true := bne_iff_ne.mpr c4
  obtain rfl := Option.some.inj H
  go_enter Try.func124, Try.ntmps124
  go_wp2_with (first | ((with_reducible refine gate_dst (N := 2) rfl ?_); refine zbx 2 #[.int .i8 a0_0, .int .i16 a0_1, .int .i16 a0_2] 81 ?_; intro gb129 hg w16 hbox hb; have n_ : _ ∧ _ ∧ _ ∧ _ := ⟨zb HB hb, Aside0.mk (hbox), zg HB hg, zg HB hg⟩; clear HB; obtain ⟨HB, BK129, GW129, GE129⟩ := n_; clear hb hbox hg) | ((with_reducible refine gate_dst (N := 3) rfl ?_); refine zbx 3 #[.int .i8 a1_0, .int .i16 a1_1, .int .i16 a1_2] 81 ?_; intro gb130 hg w17 hbox hb; have n_ : _ ∧ _ ∧ _ ∧ _ ∧ _ ∧ _ ∧ _ := ⟨zk BK129 hb, zbs hb, Aside0.mk (hbox), zg HB hg, zg HB hg, zn1 BK129 hg, zn2 BK129 hg⟩; clear BK129 HB; obtain ⟨BK129, HB, BK130, GW130, GE130, NB129_130, NB130_129⟩ := n_; clear hb hbox hg; have hnb18 := NB129_130.out; have hnc18 := NB130_129.out; obtain ⟨z19_0, z19_1, z19_2, y19_0, y19_1, y19_2⟩ := zB3 BK129; obtain ⟨z20_0, z20_1, z20_2, y20_0, y20_1, y20_2⟩ := zB3 BK130))
  go_ret
  exact ⟨zv, zbo⟩
 rw [if_pos c4] at H
 have c4b0 : (a0_1 == a1_1) = true := beq_iff_eq.mpr c4
 have c4b1 : (a0_1 != a1_1) = false := bne_eq_false_iff_eq.mpr c4
 clear c4
 by_cases c5 : a0_2 = a1_2
 ·rw [if_pos c5] at H
  have c5b0 : (a0_2 == a1_2) = true := beq_iff_eq.mpr c5
  have c5b1 : (a0_2 != a1_2) = false := bne_eq_false_iff_eq.mpr c5
  clear c5
  obtain rfl := Option.some.inj H
  go_enter Try.func124, Try.ntmps124
  go_wp2_with (first | ((with_reducible refine gate_dst (N := 2) rfl ?_); refine zbx 2 #[.int .i8 a0_0, .int .i16 a0_1, .int .i16 a0_2] 81 ?_; intro gb129 hg w6 hbox hb; have n_ : _ ∧ _ ∧ _ ∧ _ := ⟨zb HB hb, Aside0.mk (hbox), zg HB hg, zg HB hg⟩; clear HB; obtain ⟨HB, BK129, GW129, GE129⟩ := n_; clear hb hbox hg) | ((with_reducible refine gate_dst (N := 3) rfl ?_); refine zbx 3 #[.int .i8 a1_0, .int .i16 a1_1, .int .i16 a1_2] 81 ?_; intro gb130 hg w7 hbox hb; have n_ : _ ∧ _ ∧ _ ∧ _ ∧ _ ∧ _ ∧ _ := ⟨zk BK129 hb, zbs hb, Aside0.mk (hbox), zg HB hg, zg HB hg, zn1 BK129 hg, zn2 BK129 hg⟩; clear BK129 HB; obtain ⟨BK129, HB, BK130, GW130, GE130, NB129_130, NB130_129⟩ := n_; clear hb hbox hg; have hnb8 := NB129_130.out; have hnc8 := NB130_129.out; obtain ⟨z9_0, z9_1, z9_2, y9_0, y9_1, y9_2⟩ := zB3 BK129; obtain ⟨z10_0, z10_1, z10_2, y10_0, y10_1, y10_2⟩ := zB3 BK130))
  go_ret
  exact ⟨zv, zbo⟩
 rw [if_neg c5] at H
 have c5b0 : (a0_2 == a1_2) = false := beq_eq_false_iff_ne.mpr c5
 have c5b1 : (a0_2 != a1_2) = true := bne_iff_ne.mpr c5
 obtain rfl := Option.some.inj H
 go_enter Try.func124, Try.ntmps124
 go_wp2_with (first | ((with_reducible refine gate_dst (N := 2) rfl ?_); refine zbx 2 #[.int .i8 a0_0, .int .i16 a0_1, .int .i16 a0_2] 81 ?_; intro gb129 hg w11 hbox hb; have n_ : _ ∧ _ ∧ _ ∧ _ := ⟨zb HB hb, Aside0.mk (hbox), zg HB hg, zg HB hg⟩; clear HB; obtain ⟨HB, BK129, GW129, GE129⟩ := n_; clear hb hbox hg) | ((with_reducible refine gate_dst (N := 3) rfl ?_); refine zbx 3 #[.int .i8 a1_0, .int .i16 a1_1, .int .i16 a1_2] 81 ?_; intro gb130 hg w12 hbox hb; have n_ : _ ∧ _ ∧ _ ∧ _ ∧ _ ∧ _ ∧ _ := ⟨zk BK129 hb, zbs hb, Aside0.mk (hbox), zg HB hg, zg HB hg, zn1 BK129 hg, zn2 BK129 hg⟩; clear BK129 HB; obtain ⟨BK129, HB, BK130, GW130, GE130, NB129_130, NB130_129⟩ := n_; clear hb hbox hg; have hnb13 := NB129_130.out; have hnc13 := NB130_129.out; obtain ⟨z14_0, z14_1, z14_2, y14_0, y14_1, y14_2⟩ := zB3 BK129; obtain ⟨z15_0, z15_1, z15_2, y15_0, y15_1, y15_2⟩ := zB3 BK130))
 go_ret
 exact ⟨zv, zbo⟩
def laws_eqNodeS.l0 : Nat → List (S81) → List (S81) → Int → Option (Bool)
  | 0, _, _, _ => none
  | k + 1, x0, x1, x5 => if x5 < (x0.length : Int) then (if 0 ≤ x5 then (if x5 < (x1.length : Int) then ((laws_eqNode.f ((rd_T81 x0 x5).f0) ((rd_T81 x0 x5).f1) ((rd_T81 x0 x5).f2) ((rd_T81 x1 x5).f0) ((rd_T81 x1 x5).f1) ((rd_T81 x1 x5).f2)).bind fun t133 => (if t133 = true then (laws_eqNodeS.l0 k x0 x1 (wrap64 (x5 + 1))) else (some false))) else (none)) else (none)) else (some true)
def laws_eqNodeS.f (k : Nat) (l0 : List (S81)) (l1 : List (S81)) : Option (Bool) := if (l0.length : Int) = (l1.length : Int) then (laws_eqNodeS.l0 k l0 l1 0) else (some false)
theorem laws_eqNodeS.mono_l : ∀ k, (∀ y0 y1 y2, LeO (laws_eqNodeS.l0 k y0 y1 y2) (laws_eqNodeS.l0 (k + 1) y0 y1 y2))
  | 0 => fun _ _ _ r h => by simp [laws_eqNodeS.l0] at h
  | k + 1 => by
    have ih0 := laws_eqNodeS.mono_l k
    · intro y0 y1 y2
      unfold laws_eqNodeS.l0
      repeat' first | (with_reducible first | apply ih0 | exact LeO.refl _ | exact LeO.none _ | refine LeO.ite ?_ ?_ | refine LeO.bind ?_ (fun _ => ?_)) | apply ih0 | exact LeO.none _ | refine LeO.ite ?_ ?_ | refine LeO.bind ?_ (fun _ => ?_)
theorem laws_eqNodeS.mono : ∀ a0 a1 k, LeO (laws_eqNodeS.f k a0 a1) (laws_eqNodeS.f (k + 1) a0 a1) := by
 intro a0 a1 k
 have ih0 := laws_eqNodeS.mono_l k
 unfold laws_eqNodeS.f
 repeat' first | (with_reducible first | apply ih0 | exact LeO.refl _ | exact LeO.none _ | refine LeO.ite ?_ ?_ | refine LeO.bind ?_ (fun _ => ?_)) | apply ih0 | exact LeO.none _ | refine LeO.ite ?_ ?_ | refine LeO.bind ?_ (fun _ => ?_)
def laws_eqNodeS.T6 : Bool × List (List Nat × List Nat) := (true, [([], []), ([], []), ([0, 1], [0, 1]), ([2], [2]), ([], []), ([], []), ([4, 5], [4, 5]), ([6], [6]), ([3, 7], [3, 7]), ([8], [8])])
def laws_eqNodeS.B6 : List Nat := [0, 0, 3, 7, 0, 0, 48, 112, 255, 511]
theorem laws_eqNodeS.tab6 : rtab .any (opsOf Try.f79 6) = laws_eqNodeS.T6 := by kernel_rfl
theorem laws_eqNodeS.bits6 : waitsOk laws_eqNodeS.T6.2 laws_eqNodeS.B6 = true := by kernel_rfl
theorem laws_eqNodeS.calls (k : Nat) (A0 : Option Addr) (c0 : Nat) (l0 : List (S81)) (A1 : Option Addr) (c1 : Nat) (l1 : List (S81)) (r : Bool) (w : World) (hr0 : Kd.C k81 w A0 l0.length l0) (hc0 : l0.length ≤ c0) (hr1 : Kd.C k81 w A1 l1.length l1) (hc1 : l1.length ≤ c1) (h : laws_eqNodeS.f k l0 l1 = some r) :
    Calls Try.prog 79 #[.slice A0 l0.length c0, .slice A1 l1.length c1] w fun e w' => e = .returned (.bool r) ∧ Below w.heap.size w w' := by
 have hu81 := Try.underlying81
 have HR0 := Aside0.mk hr0
 have HC0 := Aside0.mk hc0
 clear hr0 hc0
 have HR1 := Aside0.mk hr1
 have HC1 := Aside0.mk hc1
 clear hr1 hc1
 have HB := Aside0.mk (Below.refl w.heap.size w)
 have H : (if (l0.length : Int) = (l1.length : Int) then (laws_eqNodeS.l0 k l0 l1 0) else (some false)) = some r := h
 clear h
 by_cases c3 : (l0.length : Int) = (l1.length : Int)
 rotate_left
 ·rw [if_neg c3] at H
  have c3b0 : ((l0.length : Int) == (l1.length : Int)) = false := beq_eq_false_iff_ne.mpr c3
  have c3b1 : ((l0.length : Int) != (l1.length : Int)) = true := bne_iff_ne.mpr c3
  have c3b2 : (l0.length == l1.length) = false := by first | simpa using c3 | (simp at c3 ⊢; omega)
  obtain rfl := Option.some.inj H
  go_enter Try.func79, Try.ntmps79
  go_wp2
  go_ret
  exact ⟨zv, zbo⟩
 rw [if_pos c3] at H
 have c3b0 : ((l0.length : Int) == (l1.length : Int)) = true := beq_iff_eq.mpr c3
 have c3b1 : ((l0.length : Int) != (l1.length : Int)) = false := bne_eq_false_iff_eq.mpr c3
 have c3b2 : (l0.length == l1.length) = true := by first | simpa using c3 | (simp at c3 ⊢; omega)
 clear c3
 have H' := Aside0.mk H
 clear H
 go_enter Try.func79, Try.ntmps79
 go_wp2
 go_loopg [5] k (fun kq v5 w' => ∃ (x5_1 : Int), v5 = .int .i64 x5_1 ∧ Aside0 (laws_eqNodeS.l0 kq l0 l1 x5_1 = some r) ∧ Aside0 (kq ≤ k) ∧ Aside0 (Below w.heap.size w w'))
 case atStart => exact ⟨(0), zi, H', ⟨Nat.le_refl _⟩, zl HB⟩
 clear H'
 try clear c1
 try clear p2
 try clear c3
 try clear c3b0
 try clear c3b1
 try clear c3b2
 obtain ⟨x5_1, rfl, HA, HK1, HB⟩ := hrel
 cases gk with
 | zero => exact absurd HA.out (by simp [laws_eqNodeS.l0])
 | succ k1 => ?_
 have H := HA.out
 clear HA
 simp only [laws_eqNodeS.l0] at H
 by_cases c4 : x5_1 < (l0.length : Int)
 rotate_left
 ·rw [if_neg c4] at H
  have c4b0 : decide (x5_1 < (l0.length : Int)) = false := decide_eq_false c4
  clear c4
  obtain rfl := Option.some.inj H
  go_wp2
  go_ret
  exact ⟨zv, zbo⟩
 rw [if_pos c4] at H
 have c4b0 : decide (x5_1 < (l0.length : Int)) = true := decide_eq_true c4
 clear c4
 by_cases c5 : 0 ≤ x5_1
 rotate_left
 ·rw [if_neg c5] at H
  exact absurd H (by simp)
 rw [if_pos c5] at H
 have c5b0 : decide (0 ≤ x5_1) = true := decide_eq_true c5
 clear c5
 by_cases c6 : x5_1 < (l1.length : Int)
 rotate_left
 ·rw [if_neg c6] at H
  exact absurd H (by simp)
 rw [if_pos c6] at H
 have c6b0 : decide (x5_1 < (l1.length : Int)) = true := decide_eq_true c6
 clear c6
 replace H := zob H
 obtain ⟨t133, A70, H⟩ := H
 replace H : (if t133 = true then (laws_eqNodeS.l0 k1 l0 l1 (wrap64 (x5_1 + 1))) else (some false)) = some r := H
 have A7 := Aside0.mk A70
 clear A70
 by_cases c8 : t133 = true
 ·subst c8
  have H1 : (laws_eqNodeS.l0 k1 l0 l1 (wrap64 (x5_1 + 1))) = some r := by rw [if_pos rfl] at H; exact H
  clear H
  have H := H1
  clear H1
  have H' := Aside0.mk H
  clear H
  try go_wp2
  have n0_ := Aside0.mk (below_drew1 HB.out)
  clear HB
  have HB := n0_
  clear n0_
  have p131 : 0 ≤ (x5_1 : Int) := of_decide_eq_true zA
  have q131 : x5_1 < (l0.length : Int) := of_decide_eq_true zA
  obtain ⟨ad131, e131, hx131_0, hx131_1, hx131_2⟩ := at_T81 HR0.out x5_1 p131 q131
  have hw131_2 := hx131_2
  have hw131_1 := hx131_1
  have hw131_0 := hx131_0
  cases e131
  replace hx131_0 := zc HB hx131_0
  replace hx131_1 := zc HB hx131_1
  replace hx131_2 := zc HB hx131_2
  replace p131 := eq_true p131
  replace q131 := eq_true q131
  have p132 : 0 ≤ (x5_1 : Int) := of_decide_eq_true zA
  have q132 : x5_1 < (l1.length : Int) := of_decide_eq_true zA
  obtain ⟨ad132, e132, hx132_0, hx132_1, hx132_2⟩ := at_T81 HR1.out x5_1 p132 q132
  have hw132_2 := hx132_2
  have hw132_1 := hx132_1
  have hw132_0 := hx132_0
  cases e132
  replace hx132_0 := zc HB hx132_0
  replace hx132_1 := zc HB hx132_1
  replace hx132_2 := zc HB hx132_2
  replace p132 := eq_true p132
  replace q132 := eq_true q132
  refine start_ (n := 10) (S := fun w' => w'.cell? (ad131.add ((x5_1).toNat * 3)) = some (.int .i8 ((rd_T81 l0 x5_1).f0)) ∧ w'.cell? ⟨(ad131.add ((x5_1).toNat * 3)).block, (ad131.add ((x5_1).toNat * 3)).off + 1, none⟩ = some (.int .i16 ((rd_T81 l0 x5_1).f1)) ∧ w'.cell? ⟨(ad131.add ((x5_1).toNat * 3)).block, (ad131.add ((x5_1).toNat * 3)).off + 2, none⟩ = some (.int .i16 ((rd_T81 l0 x5_1).f2)) ∧ w'.cell? (ad132.add ((x5_1).toNat * 3)) = some (.int .i8 ((rd_T81 l1 x5_1).f0)) ∧ w'.cell? ⟨(ad132.add ((x5_1).toNat * 3)).block, (ad132.add ((x5_1).toNat * 3)).off + 1, none⟩ = some (.int .i16 ((rd_T81 l1 x5_1).f1)) ∧ w'.cell? ⟨(ad132.add ((x5_1).toNat * 3)).block, (ad132.add ((x5_1).toNat * 3)).off + 2, none⟩ = some (.int .i16 ((rd_T81 l1 x5_1).f2))) (ds := []) (zq 10 0) (by kernel_rfl) rfl rfl ⟨(zc HB hw131_0), (zc HB hw131_1), (zc HB hw131_2), (zc HB hw132_0), (zc HB hw132_1), (zc HB hw132_2)⟩ (fun hHeld => ?_); refine with_tabW laws_eqNodeS.tab6 laws_eqNodeS.bits6 (fun HT_ HW_ => ?_)
  generalize wr.drew = w9 at HB hx131_0 hx131_1 hx131_2 hx132_0 hx132_1 hx132_2 hHeld ⊢
  refine zpu 0 (some 17) (zq 10 1) HT_ ?_
  refine zpu 1 (some 18) (zq 10 3) HT_ ?_
  refine zpu 2 (some 19) (zq 10 7) HT_ ?_
  refine zpu 4 (some 21) (zq 10 23) HT_ ?_
  refine zpu 5 (some 22) (zq 10 55) HT_ ?_
  refine zpu 6 (some 23) (zq 10 119) HT_ ?_
  refine ztk 3 (some 20) (zq 10 127) HT_ HW_ rfl hHeld (Or.inl ⟨by rfl, by (rintro w' ⟨s0, s1, s2, s3, s4, s5⟩; go_simp; with_reducible rfl)⟩) ?_
  refine ztk 7 (some 24) (zq 10 255) HT_ HW_ rfl hHeld (Or.inl ⟨by rfl, by (rintro w' ⟨s0, s1, s2, s3, s4, s5⟩; go_simp; with_reducible rfl)⟩) ?_
  refine one_ (i := 8) (N := some 25) (zq 10 511) rfl rfl (one_of HT_.out (by kernel_rfl)) (by decide) (fun K hK => ?_)
  refine goes_ Try.func124 (by kernel_rfl) rfl #[.agg #[.int .i8 ((rd_T81 l0 x5_1).f0), .int .i16 ((rd_T81 l0 x5_1).f1), .int .i16 ((rd_T81 l0 x5_1).f2)], .agg #[.int .i8 ((rd_T81 l1 x5_1).f0), .int .i16 ((rd_T81 l1 x5_1).f1), .int .i16 ((rd_T81 l1 x5_1).f2)]] (by rfl) rfl rfl zm ?_
  with_reducible refine (laws_eqNode.calls ((rd_T81 l0 x5_1).f0) ((rd_T81 l0 x5_1).f1) ((rd_T81 l0 x5_1).f2) ((rd_T81 l1 x5_1).f0) ((rd_T81 l1 x5_1).f1) ((rd_T81 l1 x5_1).f2) true _ A7.out).mono ?_
  rintro e w10 ⟨rfl, hb⟩
  refine ⟨_, rfl, ?_⟩
  have n0_ := zb HB hb
  clear HB
  have HB := n0_
  clear n0_
  (try clear hb)
  (try clear hb2)
  (try clear hk)
  (try clear hi)
  refine hK.out _ _ ⟨(zc HB hw131_0), (zc HB hw131_1), (zc HB hw131_2), (zc HB hw132_0), (zc HB hw132_1), (zc HB hw132_2)⟩ (fun hHeld => ?_)
  clear hK K
  refine norm_ (a' := ?_) ?_ ?_
  rotate_left
  ·show Act.put _ (some 25) _ = _
   exact zap
  refine zpu 9 (some 26) (zq 10 1023) HT_ ?_
  refine done_ (done_of HT_.out (by kernel_rfl)) ?_
  try go_wp2
  go_roundg k1
  case measure => have := HK1.out; omega
  case rel => exact ⟨(wrap64 (x5_1 + 1)), zi, H', ⟨by have := HK1.out; omega⟩, zl HB⟩
 replace c8 := Bool.eq_false_iff.mpr c8
 subst c8
 have H1 : (some false) = some r := by rw [if_neg (show ¬ (false = true) by decide)] at H; exact H
 clear H
 have H := H1
 clear H1
 obtain rfl := Option.some.inj H
 try go_wp2
 have n0_ := Aside0.mk (below_drew1 HB.out)
 clear HB
 have HB := n0_
 clear n0_
 have p131 : 0 ≤ (x5_1 : Int) := of_decide_eq_true zA
 have q131 : x5_1 < (l0.length : Int) := of_decide_eq_true zA
 obtain ⟨ad131, e131, hx131_0, hx131_1, hx131_2⟩ := at_T81 HR0.out x5_1 p131 q131
 have hw131_2 := hx131_2
 have hw131_1 := hx131_1
 have hw131_0 := hx131_0
 cases e131
 replace hx131_0 := zc HB hx131_0
 replace hx131_1 := zc HB hx131_1
 replace hx131_2 := zc HB hx131_2
 replace p131 := eq_true p131
 replace q131 := eq_true q131
 have p132 : 0 ≤ (x5_1 : Int) := of_decide_eq_true zA
 have q132 : x5_1 < (l1.length : Int) := of_decide_eq_true zA
 obtain ⟨ad132, e132, hx132_0, hx132_1, hx132_2⟩ := at_T81 HR1.out x5_1 p132 q132
 have hw132_2 := hx132_2
 have hw132_1 := hx132_1
 have hw132_0 := hx132_0
 cases e132
 replace hx132_0 := zc HB hx132_0
 replace hx132_1 := zc HB hx132_1
 replace hx132_2 := zc HB hx132_2
 replace p132 := eq_true p132
 replace q132 := eq_true q132
 refine start_ (n := 10) (S := fun w' => w'.cell? (ad131.add ((x5_1).toNat * 3)) = some (.int .i8 ((rd_T81 l0 x5_1).f0)) ∧ w'.cell? ⟨(ad131.add ((x5_1).toNat * 3)).block, (ad131.add ((x5_1).toNat * 3)).off + 1, none⟩ = some (.int .i16 ((rd_T81 l0 x5_1).f1)) ∧ w'.cell? ⟨(ad131.add ((x5_1).toNat * 3)).block, (ad131.add ((x5_1).toNat * 3)).off + 2, none⟩ = some (.int .i16 ((rd_T81 l0 x5_1).f2)) ∧ w'.cell? (ad132.add ((x5_1).toNat * 3)) = some (.int .i8 ((rd_T81 l1 x5_1).f0)) ∧ w'.cell? ⟨(ad132.add ((x5_1).toNat * 3)).block, (ad132.add ((x5_1).toNat * 3)).off + 1, none⟩ = some (.int .i16 ((rd_T81 l1 x5_1).f1)) ∧ w'.cell? ⟨(ad132.add ((x5_1).toNat * 3)).block, (ad132.add ((x5_1).toNat * 3)).off + 2, none⟩ = some (.int .i16 ((rd_T81 l1 x5_1).f2))) (ds := []) (zq 10 0) (by kernel_rfl) rfl rfl ⟨(zc HB hw131_0), (zc HB hw131_1), (zc HB hw131_2), (zc HB hw132_0), (zc HB hw132_1), (zc HB hw132_2)⟩ (fun hHeld => ?_); refine with_tabW laws_eqNodeS.tab6 laws_eqNodeS.bits6 (fun HT_ HW_ => ?_)
 generalize wr.drew = w11 at HB hx131_0 hx131_1 hx131_2 hx132_0 hx132_1 hx132_2 hHeld ⊢
 refine zpu 0 (some 17) (zq 10 1) HT_ ?_
 refine zpu 1 (some 18) (zq 10 3) HT_ ?_
 refine zpu 2 (some 19) (zq 10 7) HT_ ?_
 refine zpu 4 (some 21) (zq 10 23) HT_ ?_
 refine zpu 5 (some 22) (zq 10 55) HT_ ?_
 refine zpu 6 (some 23) (zq 10 119) HT_ ?_
 refine ztk 3 (some 20) (zq 10 127) HT_ HW_ rfl hHeld (Or.inl ⟨by rfl, by (rintro w' ⟨s0, s1, s2, s3, s4, s5⟩; go_simp; with_reducible rfl)⟩) ?_
 refine ztk 7 (some 24) (zq 10 255) HT_ HW_ rfl hHeld (Or.inl ⟨by rfl, by (rintro w' ⟨s0, s1, s2, s3, s4, s5⟩; go_simp; with_reducible rfl)⟩) ?_
 refine one_ (i := 8) (N := some 25) (zq 10 511) rfl rfl (one_of HT_.out (by kernel_rfl)) (by decide) (fun K hK => ?_)
 refine goes_ Try.func124 (by kernel_rfl) rfl #[.agg #[.int .i8 ((rd_T81 l0 x5_1).f0), .int .i16 ((rd_T81 l0 x5_1).f1), .int .i16 ((rd_T81 l0 x5_1).f2)], .agg #[.int .i8 ((rd_T81 l1 x5_1).f0), .int .i16 ((rd_T81 l1 x5_1).f1), .int .i16 ((rd_T81 l1 x5_1).f2)]] (by rfl) rfl rfl zm ?_
 with_reducible refine (laws_eqNode.calls ((rd_T81 l0 x5_1).f0) ((rd_T81 l0 x5_1).f1) ((rd_T81 l0 x5_1).f2) ((rd_T81 l1 x5_1).f0) ((rd_T81 l1 x5_1).f1) ((rd_T81 l1 x5_1).f2) false _ A7.out).mono ?_
 rintro e w12 ⟨rfl, hb⟩
 refine ⟨_, rfl, ?_⟩
 have n0_ := zb HB hb
 clear HB
 have HB := n0_
 clear n0_
 (try clear hb)
 (try clear hb2)
 (try clear hk)
 (try clear hi)
 refine hK.out _ _ ⟨(zc HB hw131_0), (zc HB hw131_1), (zc HB hw131_2), (zc HB hw132_0), (zc HB hw132_1), (zc HB hw132_2)⟩ (fun hHeld => ?_)
 clear hK K
 refine norm_ (a' := ?_) ?_ ?_
 rotate_left
 ·show Act.put _ (some 25) _ = _
  exact zap
 refine zpu 9 (some 26) (zq 10 1023) HT_ ?_
 refine done_ (done_of HT_.out (by kernel_rfl)) ?_
 try go_wp2
 go_ret
 exact ⟨zv, zbo⟩
end Go.Proofs.Ytmpmanfoiocfgaa.PFnExactBothNetworks
