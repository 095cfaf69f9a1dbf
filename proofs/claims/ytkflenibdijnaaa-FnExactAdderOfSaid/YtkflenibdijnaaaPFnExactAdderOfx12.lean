-- WRITTEN by xprint.py, a program of this session's. Not trusted: Lean checks it.
-- packed by pack.py
import Derived.Test.YtkflenibdijnaaaPFnExactAdderOfx0
import Derived.Test.YtkflenibdijnaaaPFnExactAdderOfx7
import Derived.Test.YtkflenibdijnaaaPFnExactAdderOfx11
import Derived.Test.YtkflenibdijnaaaTFnExactAdderOfa
namespace Go.Proofs.Ytkflenibdijnaaa.PFnExactAdderOf
open Go.RowKit Go.Proofs.YtkflenibdijnaaaW.PrintWords Go.Proofs.YtkflenibdijnaaaW.PrintLast Go.Proofs.YtkflenibdijnaaaW.PrintMore Go.Proofs.YtkflenibdijnaaaX
attribute [local go_sem] max2_int min2_int max_two min_two max_three min_three max_four min_four   -- for this text's walks alone
set_option maxHeartbeats 8000000
set_option maxRecDepth 100000
set_option linter.unusedVariables false
set_option linter.unusedSimpArgs false

def laws_eqNetwork.f (k : Nat) (a0_0 : Int) (l0_1 : List (S61)) (l0_2 : List Int) (a1_0 : Int) (l1_1 : List (S61)) (l1_2 : List Int) : Option (Bool) := if a0_0 = a1_0 then ((laws_eqNodeS.f k l0_1 l1_1).bind fun t416 => (if t416 = true then ((laws_eqInt16S.f k l0_2 l1_2).bind fun t417 => (if t417 = true then (some true) else (some false))) else (some false))) else (some false)
theorem laws_eqNetwork.mono : ∀ a0 a1 a2 a3 a4 a5 k, LeO (laws_eqNetwork.f k a0 a1 a2 a3 a4 a5) (laws_eqNetwork.f (k + 1) a0 a1 a2 a3 a4 a5) := by
 intro a0 a1 a2 a3 a4 a5 k
 unfold laws_eqNetwork.f
 repeat' first | (with_reducible first | apply laws_eqInt16S.mono | apply laws_eqNodeS.mono | exact LeO.refl _ | exact LeO.none _ | refine LeO.ite ?_ ?_ | refine LeO.bind ?_ (fun _ => ?_)) | apply laws_eqInt16S.mono | apply laws_eqNodeS.mono | exact LeO.none _ | refine LeO.ite ?_ ?_ | refine LeO.bind ?_ (fun _ => ?_)
theorem laws_eqNetwork.calls (k : Nat) (a0_0 : Int) (A0_1 : Option Addr) (c0_1 : Nat) (l0_1 : List (S61)) (A0_2 : Option Addr) (c0_2 : Nat) (l0_2 : List Int) (a1_0 : Int) (A1_1 : Option Addr) (c1_1 : Nat) (l1_1 : List (S61)) (A1_2 : Option Addr) (c1_2 : Nat) (l1_2 : List Int) (r : Bool) (w : World) (hr0_1 : Kd.C k61 w A0_1 l0_1.length l0_1) (hc0_1 : l0_1.length ≤ c0_1) (hr0_2 : Kd.C (Kd.int .i16) w A0_2 l0_2.length l0_2) (hc0_2 : l0_2.length ≤ c0_2) (hr1_1 : Kd.C k61 w A1_1 l1_1.length l1_1) (hc1_1 : l1_1.length ≤ c1_1) (hr1_2 : Kd.C (Kd.int .i16) w A1_2 l1_2.length l1_2) (hc1_2 : l1_2.length ≤ c1_2) (h : laws_eqNetwork.f k a0_0 l0_1 l0_2 a1_0 l1_1 l1_2 = some r) :
    Calls Try.prog 11 #[.agg #[.int .i8 a0_0, .slice A0_1 l0_1.length c0_1, .slice A0_2 l0_2.length c0_2], .agg #[.int .i8 a1_0, .slice A1_1 l1_1.length c1_1, .slice A1_2 l1_2.length c1_2]] w fun e w' => e = .returned (.bool r) ∧ Below w.heap.size w w' := by
 have hu29 := Try.underlying29
 have HR0_1 := Aside0.mk hr0_1
 have HC0_1 := Aside0.mk hc0_1
 clear hr0_1 hc0_1
 have HR0_2 := Aside0.mk hr0_2
 have HC0_2 := Aside0.mk hc0_2
 clear hr0_2 hc0_2
 have HR1_1 := Aside0.mk hr1_1
 have HC1_1 := Aside0.mk hc1_1
 clear hr1_1 hc1_1
 have HR1_2 := Aside0.mk hr1_2
 have HC1_2 := Aside0.mk hc1_2
 clear hr1_2 hc1_2
 have HB := Aside0.mk (Below.refl w.heap.size w)
 have H : (if a0_0 = a1_0 then ((laws_eqNodeS.f k l0_1 l1_1).bind fun t416 => (if t416 = true then ((laws_eqInt16S.f k l0_2 l1_2).bind fun t417 => (if t417 = true then (some true) else (some false))) else (some false))) else (some false)) = some r := h
 clear h
 by_cases c3 : a0_0 = a1_0
 rotate_left
 ·rw [if_neg c3] at H
  have c3b0 : (a0_0 == a1_0) = false := beq_eq_false_iff_ne.mpr c3
  have c3b1 : (a0_0 != a1_0) = true := bne_iff_ne.mpr c3
  obtain rfl := Option.some.inj H
  go_enter Try.func11, Try.ntmps11
  go_wp2_with (first | ((with_reducible refine gate_dst (N := 2) rfl ?_); refine zbx 2 #[.int .i8 a0_0, .slice A0_1 l0_1.length c0_1, .slice A0_2 l0_2.length c0_2] 29 ?_; intro gb414 hg w30 hbox hb; have n_ : _ ∧ _ ∧ _ ∧ _ := ⟨zb HB hb, Aside0.mk (hbox), zg HB hg, zg HB hg⟩; clear HB; obtain ⟨HB, BK414, GW414, GE414⟩ := n_; clear hb hbox hg) | ((with_reducible refine gate_dst (N := 3) rfl ?_); refine zbx 3 #[.int .i8 a1_0, .slice A1_1 l1_1.length c1_1, .slice A1_2 l1_2.length c1_2] 29 ?_; intro gb415 hg w31 hbox hb; have n_ : _ ∧ _ ∧ _ ∧ _ ∧ _ ∧ _ ∧ _ := ⟨zk BK414 hb, zbs hb, Aside0.mk (hbox), zg HB hg, zg HB hg, zn1 BK414 hg, zn2 BK414 hg⟩; clear BK414 HB; obtain ⟨BK414, HB, BK415, GW415, GE415, NB414_415, NB415_414⟩ := n_; clear hb hbox hg; have hnb32 := NB414_415.out; have hnc32 := NB415_414.out; obtain ⟨z33_0, z33_1, z33_2, y33_0, y33_1, y33_2⟩ := zB3 BK414; obtain ⟨z34_0, z34_1, z34_2, y34_0, y34_1, y34_2⟩ := zB3 BK415))
  go_ret
  exact ⟨zv, zbo⟩
 rw [if_pos c3] at H
 have c3b0 : (a0_0 == a1_0) = true := beq_iff_eq.mpr c3
 have c3b1 : (a0_0 != a1_0) = false := bne_eq_false_iff_eq.mpr c3
 clear c3
 replace H := zob H
 obtain ⟨t416, A40, H⟩ := H
 replace H : (if t416 = true then ((laws_eqInt16S.f k l0_2 l1_2).bind fun t417 => (if t417 = true then (some true) else (some false))) else (some false)) = some r := H
 have A4 := Aside0.mk A40
 clear A40
 by_cases c5 : t416 = true
 rotate_left
 ·replace c5 := Bool.eq_false_iff.mpr c5
  subst c5
  have H1 : (some false) = some r := by rw [if_neg (show ¬ (false = true) by decide)] at H; exact H
  clear H
  have H := H1
  clear H1
  obtain rfl := Option.some.inj H
  go_enter Try.func11, Try.ntmps11
  go_wp2_with (first | ((with_reducible refine gate_dst (N := 2) rfl ?_); refine zbx 2 #[.int .i8 a0_0, .slice A0_1 l0_1.length c0_1, .slice A0_2 l0_2.length c0_2] 29 ?_; intro gb414 hg w24 hbox hb; have n_ : _ ∧ _ ∧ _ ∧ _ := ⟨zb HB hb, Aside0.mk (hbox), zg HB hg, zg HB hg⟩; clear HB; obtain ⟨HB, BK414, GW414, GE414⟩ := n_; clear hb hbox hg) | ((with_reducible refine gate_dst (N := 3) rfl ?_); refine zbx 3 #[.int .i8 a1_0, .slice A1_1 l1_1.length c1_1, .slice A1_2 l1_2.length c1_2] 29 ?_; intro gb415 hg w25 hbox hb; have n_ : _ ∧ _ ∧ _ ∧ _ ∧ _ ∧ _ ∧ _ := ⟨zk BK414 hb, zbs hb, Aside0.mk (hbox), zg HB hg, zg HB hg, zn1 BK414 hg, zn2 BK414 hg⟩; clear BK414 HB; obtain ⟨BK414, HB, BK415, GW415, GE415, NB414_415, NB415_414⟩ := n_; clear hb hbox hg; have hnb26 := NB414_415.out; have hnc26 := NB415_414.out; obtain ⟨z27_0, z27_1, z27_2, y27_0, y27_1, y27_2⟩ := zB3 BK414; obtain ⟨z28_0, z28_1, z28_2, y28_0, y28_1, y28_2⟩ := zB3 BK415) | ((with_reducible refine gate_callee (f := 33) rfl ?_); refine goesL_ (some 14) rfl rfl Try.func33 (by kernel_rfl) rfl #[.slice A0_1 l0_1.length c0_1, .slice A1_1 l1_1.length c1_1] rfl zm ?_; (with_reducible refine (laws_eqNodeS.calls k _ _ l0_1 _ _ l1_1 false _ ?side1 ?side2 ?side3 ?side4 A4.out).mono ?_); (case side1 => exact zcc HB HR0_1.out); (case side2 => exact HC0_1.out); (case side3 => exact zcc HB HR1_1.out); (case side4 => exact HC1_1.out); rintro e w29 ⟨rfl, hb⟩; refine ⟨_, rfl, ?_⟩; have n_ : _ ∧ _ ∧ _ := ⟨zk BK414 hb, zk BK415 hb, zbs hb⟩; clear BK414 BK415 HB; obtain ⟨BK414, BK415, HB⟩ := n_; (try clear hb); (try clear hb2); (try clear hk); (try clear hi)))
  go_ret
  exact ⟨zv, zbo⟩
 subst c5
 have H1 : ((laws_eqInt16S.f k l0_2 l1_2).bind fun t417 => (if t417 = true then (some true) else (some false))) = some r := by rw [if_pos rfl] at H; exact H
 clear H
 have H := H1
 clear H1
 replace H := zob H
 obtain ⟨t417, A60, H⟩ := H
 replace H : (if t417 = true then (some true) else (some false)) = some r := H
 have A6 := Aside0.mk A60
 clear A60
 by_cases c7 : t417 = true
 ·subst c7
  have H1 : (some true) = some r := by rw [if_pos rfl] at H; exact H
  clear H
  have H := H1
  clear H1
  obtain rfl := Option.some.inj H
  go_enter Try.func11, Try.ntmps11
  go_wp2_with (first | ((with_reducible refine gate_dst (N := 2) rfl ?_); refine zbx 2 #[.int .i8 a0_0, .slice A0_1 l0_1.length c0_1, .slice A0_2 l0_2.length c0_2] 29 ?_; intro gb414 hg w8 hbox hb; have n_ : _ ∧ _ ∧ _ ∧ _ := ⟨zb HB hb, Aside0.mk (hbox), zg HB hg, zg HB hg⟩; clear HB; obtain ⟨HB, BK414, GW414, GE414⟩ := n_; clear hb hbox hg) | ((with_reducible refine gate_dst (N := 3) rfl ?_); refine zbx 3 #[.int .i8 a1_0, .slice A1_1 l1_1.length c1_1, .slice A1_2 l1_2.length c1_2] 29 ?_; intro gb415 hg w9 hbox hb; have n_ : _ ∧ _ ∧ _ ∧ _ ∧ _ ∧ _ ∧ _ := ⟨zk BK414 hb, zbs hb, Aside0.mk (hbox), zg HB hg, zg HB hg, zn1 BK414 hg, zn2 BK414 hg⟩; clear BK414 HB; obtain ⟨BK414, HB, BK415, GW415, GE415, NB414_415, NB415_414⟩ := n_; clear hb hbox hg; have hnb10 := NB414_415.out; have hnc10 := NB415_414.out; obtain ⟨z11_0, z11_1, z11_2, y11_0, y11_1, y11_2⟩ := zB3 BK414; obtain ⟨z12_0, z12_1, z12_2, y12_0, y12_1, y12_2⟩ := zB3 BK415) | ((with_reducible refine gate_callee (f := 33) rfl ?_); refine goesL_ (some 14) rfl rfl Try.func33 (by kernel_rfl) rfl #[.slice A0_1 l0_1.length c0_1, .slice A1_1 l1_1.length c1_1] rfl zm ?_; (with_reducible refine (laws_eqNodeS.calls k _ _ l0_1 _ _ l1_1 true _ ?side1 ?side2 ?side3 ?side4 A4.out).mono ?_); (case side1 => exact zcc HB HR0_1.out); (case side2 => exact HC0_1.out); (case side3 => exact zcc HB HR1_1.out); (case side4 => exact HC1_1.out); rintro e w13 ⟨rfl, hb⟩; refine ⟨_, rfl, ?_⟩; have n_ : _ ∧ _ ∧ _ := ⟨zk BK414 hb, zk BK415 hb, zbs hb⟩; clear BK414 BK415 HB; obtain ⟨BK414, BK415, HB⟩ := n_; (try clear hb); (try clear hb2); (try clear hk); (try clear hi); obtain ⟨z14_0, z14_1, z14_2, y14_0, y14_1, y14_2⟩ := zB3 BK414; obtain ⟨z15_0, z15_1, z15_2, y15_0, y15_1, y15_2⟩ := zB3 BK415) | ((with_reducible refine gate_callee (f := 34) rfl ?_); refine goesL_ (some 20) rfl rfl Try.func34 (by kernel_rfl) rfl #[.slice A0_2 l0_2.length c0_2, .slice A1_2 l1_2.length c1_2] rfl zm ?_; (with_reducible refine (laws_eqInt16S.calls k _ _ l0_2 _ _ l1_2 true _ ?side1 ?side2 ?side3 ?side4 A6.out).mono ?_); (case side1 => exact zcc HB HR0_2.out); (case side2 => exact HC0_2.out); (case side3 => exact zcc HB HR1_2.out); (case side4 => exact HC1_2.out); rintro e w' ⟨rfl, ⟨nd, rfl⟩⟩; refine ⟨_, rfl, ?_⟩))
  go_ret
  exact ⟨zv, zbo⟩
 replace c7 := Bool.eq_false_iff.mpr c7
 subst c7
 have H1 : (some false) = some r := by rw [if_neg (show ¬ (false = true) by decide)] at H; exact H
 clear H
 have H := H1
 clear H1
 obtain rfl := Option.some.inj H
 go_enter Try.func11, Try.ntmps11
 go_wp2_with (first | ((with_reducible refine gate_dst (N := 2) rfl ?_); refine zbx 2 #[.int .i8 a0_0, .slice A0_1 l0_1.length c0_1, .slice A0_2 l0_2.length c0_2] 29 ?_; intro gb414 hg w16 hbox hb; have n_ : _ ∧ _ ∧ _ ∧ _ := ⟨zb HB hb, Aside0.mk (hbox), zg HB hg, zg HB hg⟩; clear HB; obtain ⟨HB, BK414, GW414, GE414⟩ := n_; clear hb hbox hg) | ((with_reducible refine gate_dst (N := 3) rfl ?_); refine zbx 3 #[.int .i8 a1_0, .slice A1_1 l1_1.length c1_1, .slice A1_2 l1_2.length c1_2] 29 ?_; intro gb415 hg w17 hbox hb; have n_ : _ ∧ _ ∧ _ ∧ _ ∧ _ ∧ _ ∧ _ := ⟨zk BK414 hb, zbs hb, Aside0.mk (hbox), zg HB hg, zg HB hg, zn1 BK414 hg, zn2 BK414 hg⟩; clear BK414 HB; obtain ⟨BK414, HB, BK415, GW415, GE415, NB414_415, NB415_414⟩ := n_; clear hb hbox hg; have hnb18 := NB414_415.out; have hnc18 := NB415_414.out; obtain ⟨z19_0, z19_1, z19_2, y19_0, y19_1, y19_2⟩ := zB3 BK414; obtain ⟨z20_0, z20_1, z20_2, y20_0, y20_1, y20_2⟩ := zB3 BK415) | ((with_reducible refine gate_callee (f := 33) rfl ?_); refine goesL_ (some 14) rfl rfl Try.func33 (by kernel_rfl) rfl #[.slice A0_1 l0_1.length c0_1, .slice A1_1 l1_1.length c1_1] rfl zm ?_; (with_reducible refine (laws_eqNodeS.calls k _ _ l0_1 _ _ l1_1 true _ ?side1 ?side2 ?side3 ?side4 A4.out).mono ?_); (case side1 => exact zcc HB HR0_1.out); (case side2 => exact HC0_1.out); (case side3 => exact zcc HB HR1_1.out); (case side4 => exact HC1_1.out); rintro e w21 ⟨rfl, hb⟩; refine ⟨_, rfl, ?_⟩; have n_ : _ ∧ _ ∧ _ := ⟨zk BK414 hb, zk BK415 hb, zbs hb⟩; clear BK414 BK415 HB; obtain ⟨BK414, BK415, HB⟩ := n_; (try clear hb); (try clear hb2); (try clear hk); (try clear hi); obtain ⟨z22_0, z22_1, z22_2, y22_0, y22_1, y22_2⟩ := zB3 BK414; obtain ⟨z23_0, z23_1, z23_2, y23_0, y23_1, y23_2⟩ := zB3 BK415) | ((with_reducible refine gate_callee (f := 34) rfl ?_); refine goesL_ (some 20) rfl rfl Try.func34 (by kernel_rfl) rfl #[.slice A0_2 l0_2.length c0_2, .slice A1_2 l1_2.length c1_2] rfl zm ?_; (with_reducible refine (laws_eqInt16S.calls k _ _ l0_2 _ _ l1_2 false _ ?side1 ?side2 ?side3 ?side4 A6.out).mono ?_); (case side1 => exact zcc HB HR0_2.out); (case side2 => exact HC0_2.out); (case side3 => exact zcc HB HR1_2.out); (case side4 => exact HC1_2.out); rintro e w' ⟨rfl, ⟨nd, rfl⟩⟩; refine ⟨_, rfl, ?_⟩))
 go_ret
 exact ⟨zv, zbo⟩
def laws_markNodeS.l0 : Nat → List (S61) → Int → Int → Option (Int × (List (S61)))
  | 0, _, _, _ => none
  | k + 1, x0, x1, x5 => if x5 < (x0.length : Int) then (if 0 ≤ x5 then ((some (x0.set (x5 : Int).toNat (⟨IntKind.i8.wrap (x1), (rd_T61 x0 x5).f1, (rd_T61 x0 x5).f2⟩ : S61) : List (S61))).bind fun y418 => ((some (y418.set (x5 : Int).toNat (⟨(rd_T61 y418 x5).f0, IntKind.i16.wrap (wrap64 (x1 + 1)), (rd_T61 y418 x5).f2⟩ : S61) : List (S61))).bind fun y419 => (laws_markNodeS.l0 k (y419.set (x5 : Int).toNat (⟨(rd_T61 y419 x5).f0, (rd_T61 y419 x5).f1, IntKind.i16.wrap (wrap64 ((wrap64 (x1 + 1)) + 1))⟩ : S61)) (wrap64 ((wrap64 ((wrap64 (x1 + 1)) + 1)) + 1)) (wrap64 (x5 + 1))))) else (none)) else (some (x1, x0))
def laws_markNodeS.f (k : Nat) (l0 : List (S61)) (a1 : Int) : Option (Int × (List (S61))) := laws_markNodeS.l0 k l0 a1 0
theorem laws_markNodeS.mono_l : ∀ k, (∀ y0 y1 y2, LeO (laws_markNodeS.l0 k y0 y1 y2) (laws_markNodeS.l0 (k + 1) y0 y1 y2))
  | 0 => fun _ _ _ r h => by simp [laws_markNodeS.l0] at h
  | k + 1 => by
    have ih0 := laws_markNodeS.mono_l k
    · intro y0 y1 y2
      unfold laws_markNodeS.l0
      repeat' first | (with_reducible first | apply ih0 | exact LeO.refl _ | exact LeO.none _ | refine LeO.ite ?_ ?_ | refine LeO.bind ?_ (fun _ => ?_)) | apply ih0 | exact LeO.none _ | refine LeO.ite ?_ ?_ | refine LeO.bind ?_ (fun _ => ?_)
theorem laws_markNodeS.mono : ∀ a0 a1 k, LeO (laws_markNodeS.f k a0 a1) (laws_markNodeS.f (k + 1) a0 a1) := by
 intro a0 a1 k
 have ih0 := laws_markNodeS.mono_l k
 unfold laws_markNodeS.f
 repeat' first | (with_reducible first | apply ih0 | exact LeO.refl _ | exact LeO.none _ | refine LeO.ite ?_ ?_ | refine LeO.bind ?_ (fun _ => ?_)) | apply ih0 | exact LeO.none _ | refine LeO.ite ?_ ?_ | refine LeO.bind ?_ (fun _ => ?_)
theorem laws_markNodeS.calls (k : Nat) (P0_ : Nat → Prop) (u9000_ : Value) (l0 : List (S61)) (a1 : Int) (r1 : Int) (r2 : List (S61)) (w0 w : World) (hB : Below w0.heap.size w0 w) (ho0 : Kd.R k61 61 w w0.heap.size P0_ u9000_ l0) (h : laws_markNodeS.f k l0 a1 = some (r1, r2)) :
    Calls Try.prog 35 #[u9000_, .int .i64 a1] w fun e w' => e = .returned (.int .i64 r1) ∧ Kd.R k61 61 w' w0.heap.size (fun k_ => (P0_ k_ ∨ w.heap.size ≤ k_)) u9000_ r2 ∧ Below w0.heap.size w0 w' ∧ Kept w w' (fun k_ => P0_ k_) := by
 have HO0 := Aside0.mk (show Kd.R k61 61 w w0.heap.size (fun k_ => (P0_ k_ ∨ w.heap.size ≤ k_)) u9000_ l0 from Kd.R_mono ho0 (fun k_ hk => (.inl hk)))
 have HK := Aside0.mk (Kept.refl w (fun k_ => P0_ k_))
 have HW0 := Aside0.mk hB.size
 have HB := Aside0.mk hB
 clear hB
 have H : (laws_markNodeS.l0 k l0 a1 0) = some (r1, r2) := h
 clear h
 have H' := Aside0.mk H
 clear H
 go_enter Try.func35, Try.ntmps35
 go_wp2
 go_loopg [1, 5] k (fun kq v1 v5 w' => ∃ (x0_1 : List (S61)) (x1_1 : Int) (x5_1 : Int), v1 = .int .i64 x1_1 ∧ v5 = .int .i64 x5_1 ∧ Aside0 (laws_markNodeS.l0 kq x0_1 x1_1 x5_1 = some (r1, r2)) ∧ Aside0 (kq ≤ k) ∧ Aside0 (Kd.R k61 61 w' w0.heap.size (fun k_ => (P0_ k_ ∨ w.heap.size ≤ k_)) u9000_ x0_1) ∧ Aside0 (Kept w w' (fun k_ => P0_ k_)) ∧ Aside0 (Below w0.heap.size w0 w'))
 case atStart => exact ⟨(l0), (a1), (0), zi, zi, H', ⟨Nat.le_refl _⟩, ze HO0, ⟨by repeat (first | (with_reducible first | exact HK.out | apply Kept.alloc | apply Kept.drewN | apply Kept.drew) | exact HK.out)⟩, zl HB⟩
 clear H'
 try clear p2
 obtain ⟨x0_1, x1_1, x5_1, rfl, rfl, HA, HK1, HO_0, HK, HB⟩ := hrel
 cases gk with
 | zero => exact absurd HA.out (by simp [laws_markNodeS.l0])
 | succ k1 => ?_
 have H := HA.out
 clear HA
 simp only [laws_markNodeS.l0] at H
 by_cases c3 : x5_1 < (x0_1.length : Int)
 rotate_left
 ·rw [if_neg c3] at H
  have c3b0 : decide (x5_1 < (x0_1.length : Int)) = false := decide_eq_false c3
  clear c3
  simp only [Option.some.injEq, Prod.mk.injEq] at H
  obtain ⟨rfl, rfl⟩ := H
  obtain ⟨Ao15, co15, eo15⟩ := Kd.R_slice HO_0.out
  subst eo15
  go_wp2
  go_ret
  exact ⟨zv, by (with_reducible repeat (first | apply Kd.R_alloc | apply Kd.R_drewN | apply Kd.R_drew)); exact HO_0.out, zbo, by repeat (first | (with_reducible first | exact HK.out | apply Kept.alloc | apply Kept.drewN | apply Kept.drew) | exact HK.out)⟩
 rw [if_pos c3] at H
 have c3b0 : decide (x5_1 < (x0_1.length : Int)) = true := decide_eq_true c3
 clear c3
 by_cases c4 : 0 ≤ x5_1
 rotate_left
 ·rw [if_neg c4] at H
  exact absurd H (by simp)
 rw [if_pos c4] at H
 have c4b0 : decide (0 ≤ x5_1) = true := decide_eq_true c4
 clear c4
 obtain ⟨y418, hy418⟩ : ∃ y_ : List (S61), y_ = (x0_1.set (x5_1 : Int).toNat (⟨IntKind.i8.wrap (x1_1), (rd_T61 x0_1 x5_1).f1, (rd_T61 x0_1 x5_1).f2⟩ : S61)) := ⟨_, rfl⟩
 replace H : ((some (y418.set (x5_1 : Int).toNat (⟨(rd_T61 y418 x5_1).f0, IntKind.i16.wrap (wrap64 (x1_1 + 1)), (rd_T61 y418 x5_1).f2⟩ : S61) : List (S61))).bind fun y419 => (laws_markNodeS.l0 k1 (y419.set (x5_1 : Int).toNat (⟨(rd_T61 y419 x5_1).f0, (rd_T61 y419 x5_1).f1, IntKind.i16.wrap (wrap64 ((wrap64 (x1_1 + 1)) + 1))⟩ : S61)) (wrap64 ((wrap64 ((wrap64 (x1_1 + 1)) + 1)) + 1)) (wrap64 (x5_1 + 1)))) = some (r1, r2) := by first | (rw [hy418]; with_reducible exact H) | (have H2_ := (Option.bind_some _ _).symm.trans H; rw [hy418]; with_reducible exact H2_) | (have H2_ := (Option.bind_some _ _).symm.trans H; with_reducible exact H2_) | with_reducible exact H | (rw [hy418]; exact H) | exact H
 have Ny418 := Aside0.mk hy418
 clear hy418
 obtain ⟨y419, hy419⟩ : ∃ y_ : List (S61), y_ = (y418.set (x5_1 : Int).toNat (⟨(rd_T61 y418 x5_1).f0, IntKind.i16.wrap (wrap64 (x1_1 + 1)), (rd_T61 y418 x5_1).f2⟩ : S61)) := ⟨_, rfl⟩
 replace H : (laws_markNodeS.l0 k1 (y419.set (x5_1 : Int).toNat (⟨(rd_T61 y419 x5_1).f0, (rd_T61 y419 x5_1).f1, IntKind.i16.wrap (wrap64 ((wrap64 (x1_1 + 1)) + 1))⟩ : S61)) (wrap64 ((wrap64 ((wrap64 (x1_1 + 1)) + 1)) + 1)) (wrap64 (x5_1 + 1))) = some (r1, r2) := by first | (rw [hy419]; with_reducible exact H) | (have H2_ := (Option.bind_some _ _).symm.trans H; rw [hy419]; with_reducible exact H2_) | (have H2_ := (Option.bind_some _ _).symm.trans H; with_reducible exact H2_) | with_reducible exact H | (rw [hy419]; exact H) | exact H
 have Ny419 := Aside0.mk hy419
 clear hy419
 obtain ⟨y420, hy420⟩ : ∃ y_ : List (S61), y_ = (y419.set (x5_1 : Int).toNat (⟨(rd_T61 y419 x5_1).f0, (rd_T61 y419 x5_1).f1, IntKind.i16.wrap (wrap64 ((wrap64 (x1_1 + 1)) + 1))⟩ : S61)) := ⟨_, rfl⟩
 replace H : (laws_markNodeS.l0 k1 y420 (wrap64 ((wrap64 ((wrap64 (x1_1 + 1)) + 1)) + 1)) (wrap64 (x5_1 + 1))) = some (r1, r2) := by first | (rw [hy420]; with_reducible exact H) | (have H2_ := (Option.bind_some _ _).symm.trans H; rw [hy420]; with_reducible exact H2_) | (have H2_ := (Option.bind_some _ _).symm.trans H; with_reducible exact H2_) | with_reducible exact H | (rw [hy420]; exact H) | exact H
 have Ny420 := Aside0.mk hy420
 clear hy420
 have H' := Aside0.mk H
 clear H
 obtain ⟨Ao8, co8, eo8⟩ := Kd.R_slice HO_0.out
 subst eo8
 have p5 : 0 ≤ (x5_1 : Int) := of_decide_eq_true zA
 have q5 : (x5_1 : Int) < ((x0_1.length : Int) : Int) := of_decide_eq_true zA
 obtain ⟨go5, co5, eo5, gb5, gl5, cl5, HG5⟩ := Kd.R_form HO_0.out (by omega)
 (first | cases eo5 | (injection eo5 with ea_ en_ ec_; (first | subst ea_ | (injection ea_ with ea_; subst ea_)); subst ec_; clear en_))
 have GB5 := Aside0.mk gb5
 have GG5 := Aside0.mk HG5
 clear gb5 gl5 HG5
 have HMgo5 := Aside0.mk (show (P0_ go5 ∨ w.heap.size ≤ go5) from (HO_0.out.1 _ rfl))
 obtain ⟨ce5, hcl5, hM5, hcc5, hfr5⟩ := Kd.R_elem HO_0.out z61 (x5_1 : Int) p5 q5
 obtain rfl := k61_openM hM5
 have hx5_0 : wr.cell? ⟨go5, (x5_1 : Int).toNat * 3, none⟩ = some (.int .i8 ((rd_T61 x0_1 x5_1).f0)) := hcc5 0 _ rfl
 have hx5_1 : wr.cell? ⟨go5, (x5_1 : Int).toNat * 3 + 1, none⟩ = some (.int .i16 ((rd_T61 x0_1 x5_1).f1)) := hcc5 1 _ rfl
 have hx5_2 : wr.cell? ⟨go5, (x5_1 : Int).toNat * 3 + 2, none⟩ = some (.int .i16 ((rd_T61 x0_1 x5_1).f2)) := hcc5 2 _ rfl
 have hf5_0 : wr.frozen? ⟨go5, (x5_1 : Int).toNat * 3, none⟩ = false := hfr5 0
 have hf5_1 : wr.frozen? ⟨go5, (x5_1 : Int).toNat * 3 + 1, none⟩ = false := hfr5 1
 have hf5_2 : wr.frozen? ⟨go5, (x5_1 : Int).toNat * 3 + 2, none⟩ = false := hfr5 2
 clear hcl5 hcc5 hfr5 hM5
 replace p5 := eq_true p5
 replace q5 := eq_true q5
 have HX9 := Aside0.mk (show Kd.R k61 61 wr w0.heap.size (fun k_ => (P0_ k_ ∨ w.heap.size ≤ k_)) (.slice (some ⟨go5, 0, none⟩) x0_1.length co8) x0_1 from (ze HO_0).out)
 obtain ⟨ce9, hcl9, hM9, hcc9, hfr9⟩ := Kd.R_elem HX9.out z61 (x5_1 : Int) (of_decide_eq_true zA) (zlt (x5_1 : Int) (x0_1.length : Int) (Kd.R_reads' HO_0.out).1)
 obtain rfl := k61_openM hM9
 have HP9 := Kd.R_seg HX9.out (x5_1 : Int) (of_decide_eq_true zA) (zlt (x5_1 : Int) (x0_1.length : Int) (Kd.R_reads' HO_0.out).1) (seg := [.int .i8 (IntKind.i8.wrap (x1_1))]) (j := 0) hcl9 hcc9 (show 1 ≤ 3 from by decide) (x' := (⟨IntKind.i8.wrap (x1_1), (rd_T61 x0_1 x5_1).f1, (rd_T61 x0_1 x5_1).f2⟩ : S61)) (k61_mkM _ _ _ (⟨IntKind.i8.wrap (x1_1), (rd_T61 x0_1 x5_1).f1, (rd_T61 x0_1 x5_1).f2⟩ : S61) ) (fun _ hk => hk)
 have hx9_0 := hcc9 0 _ rfl
 (try simp only [show (k61).sz = 3 from rfl, Nat.mul_one, Nat.add_zero] at hx9_0)
 have hf9_0 := hfr9 0
 (try simp only [show (k61).sz = 3 from rfl, Nat.mul_one, Nat.add_zero] at hf9_0)
 clear hcl9 hcc9 hfr9 hM9
 go_wp2_with (first | ((with_reducible refine gate_store (t := 25) (p := 17) rfl ?_); refine store_event (t := 25) (p := 17) (v := ?vo_w10) (w1 := (wr.setCell ⟨go5, (x5_1 : Int).toNat * 3, none⟩ (.int .i8 (IntKind.i8.wrap (x1_1))))) ?hg ?ho ?hn ?hr ?_; (case ho => rfl); (case hg => rfl); (case hn => rfl); (case hr => exact zgs); intro w10 hw; have hg : wr.grownBy w10 (some go5) := (by rw [hw]; exact HP9.2); have hp_ : Kd.R k61 61 w10 w0.heap.size (fun k_ => (P0_ k_ ∨ w.heap.size ≤ k_)) (.slice (some ⟨go5, 0, none⟩) x0_1.length co8) y418 := (by rw [hw, Ny418.out]; exact HP9.1); clear HP9; have n_ : _ ∧ _ ∧ _ := ⟨Aside0.mk (hp_), Aside0.mk ((by rw [hw]; exact below_set (HB.out) GB5.out : Below w0.heap.size w0 w10)), Aside0.mk (Kept.of_grown (S := (fun k_ => P0_ k_)) hg (by repeat (first | (with_reducible first | exact HK.out | apply Kept.alloc | apply Kept.drewN | apply Kept.drew) | exact HK.out)) (fun k_ e_ => (HO_0.out.1 k_ e_)))⟩; clear HO_0 HB HK; obtain ⟨HO_0, HB, HK⟩ := n_; clear hg hw hp_; have p6 : 0 ≤ (x5_1 : Int) := of_decide_eq_true zA; have q6 : (x5_1 : Int) < ((x0_1.length : Int) : Int) := of_decide_eq_true zA; obtain ⟨ce6, hcl6, hM6, hcc6, hfr6⟩ := Kd.R_elem HO_0.out z61 (x5_1 : Int) p6 q6; obtain rfl := k61_openM hM6; have hx6_0 : w10.cell? ⟨go5, (x5_1 : Int).toNat * 3, none⟩ = some (.int .i8 ((rd_T61 y418 x5_1).f0)) := hcc6 0 _ rfl; have hx6_1 : w10.cell? ⟨go5, (x5_1 : Int).toNat * 3 + 1, none⟩ = some (.int .i16 ((rd_T61 y418 x5_1).f1)) := hcc6 1 _ rfl; have hx6_2 : w10.cell? ⟨go5, (x5_1 : Int).toNat * 3 + 2, none⟩ = some (.int .i16 ((rd_T61 y418 x5_1).f2)) := hcc6 2 _ rfl; have hf6_0 : w10.frozen? ⟨go5, (x5_1 : Int).toNat * 3, none⟩ = false := hfr6 0; have hf6_1 : w10.frozen? ⟨go5, (x5_1 : Int).toNat * 3 + 1, none⟩ = false := hfr6 1; have hf6_2 : w10.frozen? ⟨go5, (x5_1 : Int).toNat * 3 + 2, none⟩ = false := hfr6 2; clear hcl6 hcc6 hfr6 hM6; replace p6 := eq_true p6; replace q6 := eq_true q6; have HX11 := Aside0.mk (show Kd.R k61 61 w10 w0.heap.size (fun k_ => (P0_ k_ ∨ w.heap.size ≤ k_)) (.slice (some ⟨go5, 0, none⟩) x0_1.length co8) y418 from (ze HO_0).out); obtain ⟨ce11, hcl11, hM11, hcc11, hfr11⟩ := Kd.R_elem HX11.out z61 (x5_1 : Int) (of_decide_eq_true zA) (zlt (x5_1 : Int) (x0_1.length : Int) (Kd.R_reads' HO_0.out).1); obtain rfl := k61_openM hM11; have HP11 := Kd.R_seg HX11.out (x5_1 : Int) (of_decide_eq_true zA) (zlt (x5_1 : Int) (x0_1.length : Int) (Kd.R_reads' HO_0.out).1) (seg := [.int .i16 (IntKind.i16.wrap (wrap64 (x1_1 + 1)))]) (j := 1) hcl11 hcc11 (show 2 ≤ 3 from by decide) (x' := (⟨(rd_T61 y418 x5_1).f0, IntKind.i16.wrap (wrap64 (x1_1 + 1)), (rd_T61 y418 x5_1).f2⟩ : S61)) (k61_mkM _ _ _ (⟨(rd_T61 y418 x5_1).f0, IntKind.i16.wrap (wrap64 (x1_1 + 1)), (rd_T61 y418 x5_1).f2⟩ : S61) ) (fun _ hk => hk); have hx11_1 := hcc11 1 _ rfl; (try simp only [show (k61).sz = 3 from rfl, Nat.mul_one, Nat.add_zero] at hx11_1); have hf11_1 := hfr11 1; (try simp only [show (k61).sz = 3 from rfl, Nat.mul_one, Nat.add_zero] at hf11_1); clear hcl11 hcc11 hfr11 hM11) | ((with_reducible refine gate_store (t := 54) (p := 25) rfl ?_); refine store_event (t := 54) (p := 25) (v := ?vo_w12) (w1 := (w10.setCell ⟨go5, (x5_1 : Int).toNat * 3 + 1, none⟩ (.int .i16 (IntKind.i16.wrap (wrap64 (x1_1 + 1)))))) ?hg ?ho ?hn ?hr ?_; (case ho => rfl); (case hg => rfl); (case hn => rfl); (case hr => exact zgs); intro w12 hw; have hg : w10.grownBy w12 (some go5) := (by rw [hw]; exact HP11.2); have hp_ : Kd.R k61 61 w12 w0.heap.size (fun k_ => (P0_ k_ ∨ w.heap.size ≤ k_)) (.slice (some ⟨go5, 0, none⟩) x0_1.length co8) y419 := (by rw [hw, Ny419.out]; exact HP11.1); clear HP11; have n_ : _ ∧ _ ∧ _ := ⟨Aside0.mk (hp_), Aside0.mk ((by rw [hw]; exact below_set (HB.out) GB5.out : Below w0.heap.size w0 w12)), Aside0.mk (Kept.of_grown (S := (fun k_ => P0_ k_)) hg (by repeat (first | (with_reducible first | exact HK.out | apply Kept.alloc | apply Kept.drewN | apply Kept.drew) | exact HK.out)) (fun k_ e_ => (HO_0.out.1 k_ e_)))⟩; clear HO_0 HB HK; obtain ⟨HO_0, HB, HK⟩ := n_; clear hg hw hp_; have p7 : 0 ≤ (x5_1 : Int) := of_decide_eq_true zA; have q7 : (x5_1 : Int) < ((x0_1.length : Int) : Int) := of_decide_eq_true zA; obtain ⟨ce7, hcl7, hM7, hcc7, hfr7⟩ := Kd.R_elem HO_0.out z61 (x5_1 : Int) p7 q7; obtain rfl := k61_openM hM7; have hx7_0 : w12.cell? ⟨go5, (x5_1 : Int).toNat * 3, none⟩ = some (.int .i8 ((rd_T61 y419 x5_1).f0)) := hcc7 0 _ rfl; have hx7_1 : w12.cell? ⟨go5, (x5_1 : Int).toNat * 3 + 1, none⟩ = some (.int .i16 ((rd_T61 y419 x5_1).f1)) := hcc7 1 _ rfl; have hx7_2 : w12.cell? ⟨go5, (x5_1 : Int).toNat * 3 + 2, none⟩ = some (.int .i16 ((rd_T61 y419 x5_1).f2)) := hcc7 2 _ rfl; have hf7_0 : w12.frozen? ⟨go5, (x5_1 : Int).toNat * 3, none⟩ = false := hfr7 0; have hf7_1 : w12.frozen? ⟨go5, (x5_1 : Int).toNat * 3 + 1, none⟩ = false := hfr7 1; have hf7_2 : w12.frozen? ⟨go5, (x5_1 : Int).toNat * 3 + 2, none⟩ = false := hfr7 2; clear hcl7 hcc7 hfr7 hM7; replace p7 := eq_true p7; replace q7 := eq_true q7; have HX13 := Aside0.mk (show Kd.R k61 61 w12 w0.heap.size (fun k_ => (P0_ k_ ∨ w.heap.size ≤ k_)) (.slice (some ⟨go5, 0, none⟩) x0_1.length co8) y419 from (ze HO_0).out); obtain ⟨ce13, hcl13, hM13, hcc13, hfr13⟩ := Kd.R_elem HX13.out z61 (x5_1 : Int) (of_decide_eq_true zA) (zlt (x5_1 : Int) (x0_1.length : Int) (Kd.R_reads' HO_0.out).1); obtain rfl := k61_openM hM13; have HP13 := Kd.R_seg HX13.out (x5_1 : Int) (of_decide_eq_true zA) (zlt (x5_1 : Int) (x0_1.length : Int) (Kd.R_reads' HO_0.out).1) (seg := [.int .i16 (IntKind.i16.wrap (wrap64 ((wrap64 (x1_1 + 1)) + 1)))]) (j := 2) hcl13 hcc13 (show 3 ≤ 3 from by decide) (x' := (⟨(rd_T61 y419 x5_1).f0, (rd_T61 y419 x5_1).f1, IntKind.i16.wrap (wrap64 ((wrap64 (x1_1 + 1)) + 1))⟩ : S61)) (k61_mkM _ _ _ (⟨(rd_T61 y419 x5_1).f0, (rd_T61 y419 x5_1).f1, IntKind.i16.wrap (wrap64 ((wrap64 (x1_1 + 1)) + 1))⟩ : S61) ) (fun _ hk => hk); have hx13_2 := hcc13 2 _ rfl; (try simp only [show (k61).sz = 3 from rfl, Nat.mul_one, Nat.add_zero] at hx13_2); have hf13_2 := hfr13 2; (try simp only [show (k61).sz = 3 from rfl, Nat.mul_one, Nat.add_zero] at hf13_2); clear hcl13 hcc13 hfr13 hM13) | ((with_reducible refine gate_store (t := 54) (p := 33) rfl ?_); refine store_event (t := 54) (p := 33) (v := ?vo_w14) (w1 := (w12.setCell ⟨go5, (x5_1 : Int).toNat * 3 + 2, none⟩ (.int .i16 (IntKind.i16.wrap (wrap64 ((wrap64 (x1_1 + 1)) + 1)))))) ?hg ?ho ?hn ?hr ?_; (case ho => rfl); (case hg => rfl); (case hn => rfl); (case hr => exact zgs); intro w14 hw; have hg : w12.grownBy w14 (some go5) := (by rw [hw]; exact HP13.2); have hp_ : Kd.R k61 61 w14 w0.heap.size (fun k_ => (P0_ k_ ∨ w.heap.size ≤ k_)) (.slice (some ⟨go5, 0, none⟩) x0_1.length co8) y420 := (by rw [hw, Ny420.out]; exact HP13.1); clear HP13; have n_ : _ ∧ _ ∧ _ := ⟨Aside0.mk (hp_), Aside0.mk ((by rw [hw]; exact below_set (HB.out) GB5.out : Below w0.heap.size w0 w14)), Aside0.mk (Kept.of_grown (S := (fun k_ => P0_ k_)) hg (by repeat (first | (with_reducible first | exact HK.out | apply Kept.alloc | apply Kept.drewN | apply Kept.drew) | exact HK.out)) (fun k_ e_ => (HO_0.out.1 k_ e_)))⟩; clear HO_0 HB HK; obtain ⟨HO_0, HB, HK⟩ := n_; clear hg hw hp_))
 go_roundg k1
 case measure => have := HK1.out; omega
 case rel => exact ⟨(y420), (wrap64 ((wrap64 ((wrap64 (x1_1 + 1)) + 1)) + 1)), (wrap64 (x5_1 + 1)), zi, zi, H', ⟨by have := HK1.out; omega⟩, ze HO_0, ⟨by repeat (first | (with_reducible first | exact HK.out | apply Kept.alloc | apply Kept.drewN | apply Kept.drew) | exact HK.out)⟩, zl HB⟩
def laws_markInt16S.l0 : Nat → List Int → Int → Int → Option (Int × List Int)
  | 0, _, _, _ => none
  | k + 1, x0, x1, x5 => if x5 < (x0.length : Int) then (if 0 ≤ x5 then (laws_markInt16S.l0 k (x0.set (x5 : Int).toNat (IntKind.i16.wrap (x1))) (wrap64 (x1 + 1)) (wrap64 (x5 + 1))) else (none)) else (some (x1, x0))
def laws_markInt16S.f (k : Nat) (l0 : List Int) (a1 : Int) : Option (Int × List Int) := laws_markInt16S.l0 k l0 a1 0
theorem laws_markInt16S.mono_l : ∀ k, (∀ y0 y1 y2, LeO (laws_markInt16S.l0 k y0 y1 y2) (laws_markInt16S.l0 (k + 1) y0 y1 y2))
  | 0 => fun _ _ _ r h => by simp [laws_markInt16S.l0] at h
  | k + 1 => by
    have ih0 := laws_markInt16S.mono_l k
    · intro y0 y1 y2
      unfold laws_markInt16S.l0
      repeat' first | (with_reducible first | apply ih0 | exact LeO.refl _ | exact LeO.none _ | refine LeO.ite ?_ ?_ | refine LeO.bind ?_ (fun _ => ?_)) | apply ih0 | exact LeO.none _ | refine LeO.ite ?_ ?_ | refine LeO.bind ?_ (fun _ => ?_)
theorem laws_markInt16S.mono : ∀ a0 a1 k, LeO (laws_markInt16S.f k a0 a1) (laws_markInt16S.f (k + 1) a0 a1) := by
 intro a0 a1 k
 have ih0 := laws_markInt16S.mono_l k
 unfold laws_markInt16S.f
 repeat' first | (with_reducible first | apply ih0 | exact LeO.refl _ | exact LeO.none _ | refine LeO.ite ?_ ?_ | refine LeO.bind ?_ (fun _ => ?_)) | apply ih0 | exact LeO.none _ | refine LeO.ite ?_ ?_ | refine LeO.bind ?_ (fun _ => ?_)
theorem laws_markInt16S.calls (k : Nat) (P0_ : Nat → Prop) (u9000_ : Value) (l0 : List Int) (a1 : Int) (r1 : Int) (r2 : List Int) (w0 w : World) (hB : Below w0.heap.size w0 w) (ho0 : Kd.R (Kd.int .i16) 54 w w0.heap.size P0_ u9000_ l0) (h : laws_markInt16S.f k l0 a1 = some (r1, r2)) :
    Calls Try.prog 36 #[u9000_, .int .i64 a1] w fun e w' => e = .returned (.int .i64 r1) ∧ Kd.R (Kd.int .i16) 54 w' w0.heap.size (fun k_ => (P0_ k_ ∨ w.heap.size ≤ k_)) u9000_ r2 ∧ Below w0.heap.size w0 w' ∧ Kept w w' (fun k_ => P0_ k_) := by
 have HO0 := Aside0.mk (show Kd.R (Kd.int .i16) 54 w w0.heap.size (fun k_ => (P0_ k_ ∨ w.heap.size ≤ k_)) u9000_ l0 from Kd.R_mono ho0 (fun k_ hk => (.inl hk)))
 have HK := Aside0.mk (Kept.refl w (fun k_ => P0_ k_))
 have HW0 := Aside0.mk hB.size
 have HB := Aside0.mk hB
 clear hB
 have H : (laws_markInt16S.l0 k l0 a1 0) = some (r1, r2) := h
 clear h
 have H' := Aside0.mk H
 clear H
 go_enter Try.func36, Try.ntmps36
 go_wp2
 go_loopg [1, 5] k (fun kq v1 v5 w' => ∃ (x0_1 : List Int) (x1_1 : Int) (x5_1 : Int), v1 = .int .i64 x1_1 ∧ v5 = .int .i64 x5_1 ∧ Aside0 (laws_markInt16S.l0 kq x0_1 x1_1 x5_1 = some (r1, r2)) ∧ Aside0 (kq ≤ k) ∧ Aside0 (Kd.R (Kd.int .i16) 54 w' w0.heap.size (fun k_ => (P0_ k_ ∨ w.heap.size ≤ k_)) u9000_ x0_1) ∧ Aside0 (Kept w w' (fun k_ => P0_ k_)) ∧ Aside0 (Below w0.heap.size w0 w'))
 case atStart => exact ⟨(l0), (a1), (0), zi, zi, H', ⟨Nat.le_refl _⟩, ze HO0, ⟨by repeat (first | (with_reducible first | exact HK.out | apply Kept.alloc | apply Kept.drewN | apply Kept.drew) | exact HK.out)⟩, zl HB⟩
 clear H'
 try clear p2
 obtain ⟨x0_1, x1_1, x5_1, rfl, rfl, HA, HK1, HO_0, HK, HB⟩ := hrel
 cases gk with
 | zero => exact absurd HA.out (by simp [laws_markInt16S.l0])
 | succ k1 => ?_
 have H := HA.out
 clear HA
 simp only [laws_markInt16S.l0] at H
 by_cases c3 : x5_1 < (x0_1.length : Int)
 rotate_left
 ·rw [if_neg c3] at H
  have c3b0 : decide (x5_1 < (x0_1.length : Int)) = false := decide_eq_false c3
  clear c3
  simp only [Option.some.injEq, Prod.mk.injEq] at H
  obtain ⟨rfl, rfl⟩ := H
  obtain ⟨Ao9, co9, eo9⟩ := Kd.R_slice HO_0.out
  subst eo9
  go_wp2
  go_ret
  exact ⟨zv, by (with_reducible repeat (first | apply Kd.R_alloc | apply Kd.R_drewN | apply Kd.R_drew)); exact HO_0.out, zbo, by repeat (first | (with_reducible first | exact HK.out | apply Kept.alloc | apply Kept.drewN | apply Kept.drew) | exact HK.out)⟩
 rw [if_pos c3] at H
 have c3b0 : decide (x5_1 < (x0_1.length : Int)) = true := decide_eq_true c3
 clear c3
 by_cases c4 : 0 ≤ x5_1
 rotate_left
 ·rw [if_neg c4] at H
  exact absurd H (by simp)
 rw [if_pos c4] at H
 have c4b0 : decide (0 ≤ x5_1) = true := decide_eq_true c4
 clear c4
 obtain ⟨y421, hy421⟩ : ∃ y_ : List Int, y_ = (x0_1.set (x5_1 : Int).toNat (IntKind.i16.wrap (x1_1))) := ⟨_, rfl⟩
 replace H : (laws_markInt16S.l0 k1 y421 (wrap64 (x1_1 + 1)) (wrap64 (x5_1 + 1))) = some (r1, r2) := by first | (rw [hy421]; with_reducible exact H) | (have H2_ := (Option.bind_some _ _).symm.trans H; rw [hy421]; with_reducible exact H2_) | (have H2_ := (Option.bind_some _ _).symm.trans H; with_reducible exact H2_) | with_reducible exact H | (rw [hy421]; exact H) | exact H
 have Ny421 := Aside0.mk hy421
 clear hy421
 have H' := Aside0.mk H
 clear H
 obtain ⟨Ao6, co6, eo6⟩ := Kd.R_slice HO_0.out
 subst eo6
 have p5 : 0 ≤ (x5_1 : Int) := of_decide_eq_true zA
 have q5 : (x5_1 : Int) < ((x0_1.length : Int) : Int) := of_decide_eq_true zA
 obtain ⟨go5, co5, eo5, gb5, gl5, cl5, HG5⟩ := Kd.R_form HO_0.out (by omega)
 (first | cases eo5 | (injection eo5 with ea_ en_ ec_; (first | subst ea_ | (injection ea_ with ea_; subst ea_)); subst ec_; clear en_))
 have GB5 := Aside0.mk gb5
 have GG5 := Aside0.mk HG5
 clear gb5 gl5 HG5
 have HMgo5 := Aside0.mk (show (P0_ go5 ∨ w.heap.size ≤ go5) from (HO_0.out.1 _ rfl))
 obtain ⟨hx5_0, hf5_0⟩ := Kd.R_celln 0 HO_0.out (x5_1 : Int) p5 q5
 replace p5 := eq_true p5
 replace q5 := eq_true q5
 have HP7 := Kd.R_putg HO_0.out (x5_1 : Int) (IntKind.i16.wrap (x1_1))
 go_wp2_with (first | ((with_reducible refine gate_store (t := 54) (p := 16) rfl ?_); refine store_event (t := 54) (p := 16) (v := ?vo_w8) (w1 := (wr.setCell ⟨go5, (x5_1 : Int).toNat, none⟩ (.int .i16 (IntKind.i16.wrap (x1_1))))) ?hg ?ho ?hn ?hr ?_; (case ho => rfl); (case hg => rfl); (case hn => rfl); (case hr => exact zgs); intro w8 hw; have hg : wr.grownBy w8 (some go5) := (by rw [hw]; exact HP7.2); have hp_ : Kd.R (Kd.int .i16) 54 w8 w0.heap.size (fun k_ => (P0_ k_ ∨ w.heap.size ≤ k_)) (.slice (some ⟨go5, 0, none⟩) x0_1.length co6) y421 := (by rw [hw, Ny421.out]; exact HP7.1); clear HP7; have n_ : _ ∧ _ ∧ _ := ⟨Aside0.mk (hp_), Aside0.mk ((by rw [hw]; exact below_set (HB.out) GB5.out : Below w0.heap.size w0 w8)), Aside0.mk (Kept.of_grown (S := (fun k_ => P0_ k_)) hg (by repeat (first | (with_reducible first | exact HK.out | apply Kept.alloc | apply Kept.drewN | apply Kept.drew) | exact HK.out)) (fun k_ e_ => (HO_0.out.1 k_ e_)))⟩; clear HO_0 HB HK; obtain ⟨HO_0, HB, HK⟩ := n_; clear hg hw hp_))
 go_roundg k1
 case measure => have := HK1.out; omega
 case rel => exact ⟨(y421), (wrap64 (x1_1 + 1)), (wrap64 (x5_1 + 1)), zi, zi, H', ⟨by have := HK1.out; omega⟩, ze HO_0, ⟨by repeat (first | (with_reducible first | exact HK.out | apply Kept.alloc | apply Kept.drewN | apply Kept.drew) | exact HK.out)⟩, zl HB⟩
def laws_markNetwork.f (k : Nat) (a0_0 : Int) (l0_1 : List (S61)) (l0_2 : List Int) (a1 : Int) : Option (Int × (List (S61)) × List Int) := (laws_markNodeS.f k l0_1 a1).bind fun bt423 => ((laws_markInt16S.f k l0_2 bt423.1).bind fun bt425 => (some (bt425.1, bt423.2, bt425.2)))
theorem laws_markNetwork.mono : ∀ a0 a1 a2 a3 k, LeO (laws_markNetwork.f k a0 a1 a2 a3) (laws_markNetwork.f (k + 1) a0 a1 a2 a3) := by
 intro a0 a1 a2 a3 k
 unfold laws_markNetwork.f
 repeat' first | (with_reducible first | apply laws_markInt16S.mono | apply laws_markNodeS.mono | exact LeO.refl _ | exact LeO.none _ | refine LeO.ite ?_ ?_ | refine LeO.bind ?_ (fun _ => ?_)) | apply laws_markInt16S.mono | apply laws_markNodeS.mono | exact LeO.none _ | refine LeO.ite ?_ ?_ | refine LeO.bind ?_ (fun _ => ?_)
theorem laws_markNetwork.calls (k : Nat) (a0_0 : Int) (P0_1_ : Nat → Prop) (u9000_ : Value) (l0_1 : List (S61)) (P0_2_ : Nat → Prop) (u9001_ : Value) (l0_2 : List Int) (a1 : Int) (r1 : Int) (r2 : List (S61)) (r3 : List Int) (w0 w : World) (hB : Below w0.heap.size w0 w) (ho0_1 : Kd.R k61 61 w w0.heap.size P0_1_ u9000_ l0_1) (ho0_2 : Kd.R (Kd.int .i16) 54 w w0.heap.size P0_2_ u9001_ l0_2) (h : laws_markNetwork.f k a0_0 l0_1 l0_2 a1 = some (r1, r2, r3)) :
    Calls Try.prog 12 #[.agg #[.int .i8 a0_0, u9000_, u9001_], .int .i64 a1] w fun e w' => e = .returned (.int .i64 r1) ∧ Kd.R k61 61 w' w0.heap.size (fun k_ => ((P0_1_ k_ ∨ P0_2_ k_) ∨ w.heap.size ≤ k_)) u9000_ r2 ∧ Kd.R (Kd.int .i16) 54 w' w0.heap.size (fun k_ => ((P0_1_ k_ ∨ P0_2_ k_) ∨ w.heap.size ≤ k_)) u9001_ r3 ∧ Below w0.heap.size w0 w' ∧ Kept w w' (fun k_ => P0_1_ k_ ∨ P0_2_ k_) := by
 have hu29 := Try.underlying29
 have HO0_1 := Aside0.mk (show Kd.R k61 61 w w0.heap.size (fun k_ => ((P0_1_ k_ ∨ P0_2_ k_) ∨ w.heap.size ≤ k_)) u9000_ l0_1 from Kd.R_mono ho0_1 (fun k_ hk => (.inl (.inl hk))))
 have HO0_2 := Aside0.mk (show Kd.R (Kd.int .i16) 54 w w0.heap.size (fun k_ => ((P0_1_ k_ ∨ P0_2_ k_) ∨ w.heap.size ≤ k_)) u9001_ l0_2 from Kd.R_mono ho0_2 (fun k_ hk => (.inl (.inr hk))))
 have HK := Aside0.mk (Kept.refl w (fun k_ => P0_1_ k_ ∨ P0_2_ k_))
 have HW0 := Aside0.mk hB.size
 have HB := Aside0.mk hB
 clear hB
 have H : ((laws_markNodeS.f k l0_1 a1).bind fun bt423 => ((laws_markInt16S.f k l0_2 bt423.1).bind fun bt425 => (some (bt425.1, bt423.2, bt425.2)))) = some (r1, r2, r3) := h
 clear h
 replace H := zob H
 obtain ⟨⟨t423, t424⟩, A30, H⟩ := H
 replace H : ((laws_markInt16S.f k l0_2 t423).bind fun bt425 => (some (bt425.1, t424, bt425.2))) = some (r1, r2, r3) := H
 have A3 := Aside0.mk A30
 clear A30
 replace H := zob H
 obtain ⟨⟨t425, t426⟩, A40, H⟩ := H
 replace H : (some (t425, t424, t426)) = some (r1, r2, r3) := H
 have A4 := Aside0.mk A40
 clear A40
 simp only [Option.some.injEq, Prod.mk.injEq] at H
 obtain ⟨rfl, rfl, rfl⟩ := H
 obtain ⟨Ao5, co5, eo5⟩ := Kd.R_slice HO0_1.out
 subst eo5
 obtain ⟨Ao6, co6, eo6⟩ := Kd.R_slice HO0_2.out
 subst eo6
 go_enter Try.func12, Try.ntmps12
 go_wp2_with (first | ((with_reducible refine gate_dst (N := 2) rfl ?_); refine zbx 2 #[.int .i8 a0_0, .slice Ao5 l0_1.length co5, .slice Ao6 l0_2.length co6] 29 ?_; intro gb422 hg w7 hbox hb; have n_ : _ ∧ _ ∧ _ ∧ _ ∧ _ ∧ _ ∧ _ := ⟨zr HO0_1 hb, zr HO0_2 hb, Aside0.mk (Kept.below (S := (fun k_ => P0_1_ k_ ∨ P0_2_ k_)) (by repeat (first | (with_reducible first | exact HK.out | apply Kept.alloc | apply Kept.drewN | apply Kept.drew) | exact HK.out)) hb), zb HB hb, Aside0.mk (hbox), Aside0.mk ((by rw [hg]; exact (by first | exact HK.out.1 | exact (show Kept w _ (fun k_ => P0_1_ k_ ∨ P0_2_ k_) from by repeat (first | (with_reducible first | exact HK.out | apply Kept.alloc | apply Kept.drewN | apply Kept.drew) | exact HK.out)).1) : w.heap.size ≤ gb422)), Aside0.mk ((by rw [hg]; exact (zz HB) : w0.heap.size ≤ gb422))⟩; clear HO0_1 HO0_2 HK HB; obtain ⟨HO0_1, HO0_2, HK, HB, BK422, GW422, GE422⟩ := n_; clear hb hbox hg; obtain ⟨z8_0, z8_1, z8_2, y8_0, y8_1, y8_2⟩ := zB3 BK422) | ((with_reducible refine gate_callee (f := 35) rfl ?_); refine goesL_ (some 8) rfl rfl Try.func35 (by kernel_rfl) rfl #[.slice Ao5 l0_1.length co5, .int .i64 a1] rfl zm ?_; (with_reducible refine (laws_markNodeS.calls k (fun k_ => some k_ = (.slice Ao5 l0_1.length co5 : Value).ownBlock) (.slice Ao5 l0_1.length co5) l0_1 a1 t423 t424 w0 _ ?side1 ?side2 A3.out).mono ?_); (case side1 => exact zbo); (case side2 => exact Kd.R_tight rfl HO0_1.out); rintro e w9 ⟨rfl, hy0, hb, hkp⟩; refine ⟨_, rfl, ?_⟩; have n_ : _ ∧ _ ∧ _ ∧ _ ∧ _ := ⟨Aside0.mk (Kd.R_reok rfl hy0 (fun k_ e_ => HO0_1.out.1 k_ e_)), Aside0.mk (Kd.R_mono (ok' := fun k_ => ((P0_1_ k_ ∨ P0_2_ k_) ∨ w.heap.size ≤ k_)) (Kd.R_keptB ((Kd.R_apart' HO0_2.out (Kd.R_typed HO0_1.out) (by decide))) hkp (fun k_ hk_ hs_ => (hk_.2) hs_)) (fun k_ hk_ => hk_.1.1)), zkr BK422 hkp (fun hs_ => (fun e_ => (Kd.R_ne HO0_1.out BK422.out (by decide)) e_) hs_), Aside0.mk (Kept.then_ (S := (fun k_ => P0_1_ k_ ∨ P0_2_ k_)) (by repeat (first | (with_reducible first | exact HK.out | apply Kept.alloc | apply Kept.drewN | apply Kept.drew | refine Kept.setCell ?_ (.inr GW422.out) _) | exact HK.out)) hkp (fun k_ hs_ => (fun e_ => (HO0_1.out.1 k_ e_.symm)) hs_)), Aside0.mk (hb)⟩; clear HO0_1 HO0_2 BK422 HK HB; obtain ⟨HO0_1, HO0_2, BK422, HK, HB⟩ := n_; (try clear hb); (try clear hkp); (try clear hy0); obtain ⟨z10_0, z10_1, z10_2, y10_0, y10_1, y10_2⟩ := zB3 BK422) | ((with_reducible refine gate_callee (f := 36) rfl ?_); refine goesL_ (some 12) rfl rfl Try.func36 (by kernel_rfl) rfl #[.slice Ao6 l0_2.length co6, .int .i64 t423] rfl zm ?_; (with_reducible refine (laws_markInt16S.calls k (fun k_ => some k_ = (.slice Ao6 l0_2.length co6 : Value).ownBlock) (.slice Ao6 l0_2.length co6) l0_2 t423 t425 t426 w0 _ ?side1 ?side2 A4.out).mono ?_); (case side1 => exact zbo); (case side2 => exact Kd.R_tight rfl HO0_2.out); rintro e w11 ⟨rfl, hy0, hb, hkp⟩; refine ⟨_, rfl, ?_⟩; have n_ : _ ∧ _ ∧ _ ∧ _ ∧ _ := ⟨Aside0.mk (Kd.R_mono (ok' := fun k_ => ((P0_1_ k_ ∨ P0_2_ k_) ∨ w.heap.size ≤ k_)) (Kd.R_keptB ((Kd.R_apart' HO0_1.out (Kd.R_typed HO0_2.out) (by decide))) hkp (fun k_ hk_ hs_ => (hk_.2) hs_)) (fun k_ hk_ => hk_.1.1)), Aside0.mk (Kd.R_reok rfl hy0 (fun k_ e_ => HO0_2.out.1 k_ e_)), zkr BK422 hkp (fun hs_ => (fun e_ => (Kd.R_ne HO0_2.out BK422.out (by decide)) e_) hs_), Aside0.mk (Kept.then_ (S := (fun k_ => P0_1_ k_ ∨ P0_2_ k_)) (by repeat (first | (with_reducible first | exact HK.out | apply Kept.alloc | apply Kept.drewN | apply Kept.drew | refine Kept.setCell ?_ (.inr GW422.out) _) | exact HK.out)) hkp (fun k_ hs_ => (fun e_ => (HO0_2.out.1 k_ e_.symm)) hs_)), Aside0.mk (hb)⟩; clear HO0_1 HO0_2 BK422 HK HB; obtain ⟨HO0_1, HO0_2, BK422, HK, HB⟩ := n_; (try clear hb); (try clear hkp); (try clear hy0)))
 go_ret
 exact ⟨zv, by (with_reducible repeat (first | apply Kd.R_alloc | apply Kd.R_drewN | apply Kd.R_drew)); exact HO0_1.out, by (with_reducible repeat (first | apply Kd.R_alloc | apply Kd.R_drewN | apply Kd.R_drew)); exact HO0_2.out, zbo, by repeat (first | (with_reducible first | exact HK.out | apply Kept.alloc | apply Kept.drewN | apply Kept.drew | refine Kept.setCell ?_ (.inr GW422.out) _) | exact HK.out)⟩
def laws_heldNodeS.l0 : Nat → List (S61) → Int → Int → Option (Int)
  | 0, _, _, _ => none
  | k + 1, x0, x1, x5 => if x5 < (x0.length : Int) then (if 0 ≤ x5 then (if ((rd_T61 x0 x5).f0) = (IntKind.i8.wrap (x1)) then (if ((rd_T61 x0 x5).f1) = (IntKind.i16.wrap (wrap64 (x1 + 1))) then (if ((rd_T61 x0 x5).f2) = (IntKind.i16.wrap (wrap64 ((wrap64 (x1 + 1)) + 1))) then (laws_heldNodeS.l0 k x0 (wrap64 ((wrap64 ((wrap64 (x1 + 1)) + 1)) + 1)) (wrap64 (x5 + 1))) else (some (-1))) else (some (-1))) else (some (-1))) else (none)) else (some x1)
def laws_heldNodeS.f (k : Nat) (l0 : List (S61)) (a1 : Int) : Option (Int) := laws_heldNodeS.l0 k l0 a1 0
theorem laws_heldNodeS.mono_l : ∀ k, (∀ y0 y1 y2, LeO (laws_heldNodeS.l0 k y0 y1 y2) (laws_heldNodeS.l0 (k + 1) y0 y1 y2))
  | 0 => fun _ _ _ r h => by simp [laws_heldNodeS.l0] at h
  | k + 1 => by
    have ih0 := laws_heldNodeS.mono_l k
    · intro y0 y1 y2
      unfold laws_heldNodeS.l0
      repeat' first | (with_reducible first | apply ih0 | exact LeO.refl _ | exact LeO.none _ | refine LeO.ite ?_ ?_ | refine LeO.bind ?_ (fun _ => ?_)) | apply ih0 | exact LeO.none _ | refine LeO.ite ?_ ?_ | refine LeO.bind ?_ (fun _ => ?_)
theorem laws_heldNodeS.mono : ∀ a0 a1 k, LeO (laws_heldNodeS.f k a0 a1) (laws_heldNodeS.f (k + 1) a0 a1) := by
 intro a0 a1 k
 have ih0 := laws_heldNodeS.mono_l k
 unfold laws_heldNodeS.f
 repeat' first | (with_reducible first | apply ih0 | exact LeO.refl _ | exact LeO.none _ | refine LeO.ite ?_ ?_ | refine LeO.bind ?_ (fun _ => ?_)) | apply ih0 | exact LeO.none _ | refine LeO.ite ?_ ?_ | refine LeO.bind ?_ (fun _ => ?_)
theorem laws_heldNodeS.calls (k : Nat) (A0 : Option Addr) (c0 : Nat) (l0 : List (S61)) (a1 : Int) (r : Int) (w : World) (hr0 : Kd.C k61 w A0 l0.length l0) (hc0 : l0.length ≤ c0) (h : laws_heldNodeS.f k l0 a1 = some r) :
    Calls Try.prog 37 #[.slice A0 l0.length c0, .int .i64 a1] w fun e w' => e = .returned (.int .i64 r) ∧ Drawn0 w w' := by
 have HR0 := Aside0.mk hr0
 have HC0 := Aside0.mk hc0
 clear hr0 hc0
 have H : (laws_heldNodeS.l0 k l0 a1 0) = some r := h
 clear h
 have H' := Aside0.mk H
 clear H
 go_enter Try.func37, Try.ntmps37
 go_wp2
 go_loopg [1, 5] k (fun kq v1 v5 w' => ∃ (x1_1 : Int) (x5_1 : Int), v1 = .int .i64 x1_1 ∧ v5 = .int .i64 x5_1 ∧ Aside0 (laws_heldNodeS.l0 kq l0 x1_1 x5_1 = some r) ∧ Aside0 (kq ≤ k) ∧ Drawn0 w w')
 case atStart => exact ⟨(a1), (0), zi, zi, H', ⟨Nat.le_refl _⟩, zdr⟩
 clear H'
 try clear p2
 obtain ⟨x1_1, x5_1, rfl, rfl, HA, HK1, ⟨m1, rfl⟩⟩ := hrel
 cases gk with
 | zero => exact absurd HA.out (by simp [laws_heldNodeS.l0])
 | succ k1 => ?_
 have H := HA.out
 clear HA
 simp only [laws_heldNodeS.l0] at H
 by_cases c3 : x5_1 < (l0.length : Int)
 rotate_left
 ·rw [if_neg c3] at H
  have c3b0 : decide (x5_1 < (l0.length : Int)) = false := decide_eq_false c3
  clear c3
  obtain rfl := Option.some.inj H
  go_wp2
  go_ret
  exact ⟨zi, zdr⟩
 rw [if_pos c3] at H
 have c3b0 : decide (x5_1 < (l0.length : Int)) = true := decide_eq_true c3
 clear c3
 by_cases c4 : 0 ≤ x5_1
 rotate_left
 ·rw [if_neg c4] at H
  exact absurd H (by simp)
 rw [if_pos c4] at H
 have c4b0 : decide (0 ≤ x5_1) = true := decide_eq_true c4
 clear c4
 by_cases c5 : ((rd_T61 l0 x5_1).f0) = (IntKind.i8.wrap (x1_1))
 rotate_left
 ·rw [if_neg c5] at H
  have c5b0 : (((rd_T61 l0 x5_1).f0) == (IntKind.i8.wrap (x1_1))) = false := beq_eq_false_iff_ne.mpr c5
  have c5b1 : (((rd_T61 l0 x5_1).f0) != (IntKind.i8.wrap (x1_1))) = true := bne_iff_ne.mpr c5
  obtain rfl := Option.some.inj H
  have p427 : 0 ≤ (x5_1 : Int) := of_decide_eq_true zA
  have q427 : x5_1 < (l0.length : Int) := of_decide_eq_true zA
  obtain ⟨ad427, e427, hx427_0, hx427_1, hx427_2⟩ := at_T61 HR0.out x5_1 p427 q427
  cases e427
  replace p427 := eq_true p427
  replace q427 := eq_true q427
  go_wp2
  go_ret
  exact ⟨zi, zdr⟩
 rw [if_pos c5] at H
 have c5b0 : (((rd_T61 l0 x5_1).f0) == (IntKind.i8.wrap (x1_1))) = true := beq_iff_eq.mpr c5
 have c5b1 : (((rd_T61 l0 x5_1).f0) != (IntKind.i8.wrap (x1_1))) = false := bne_eq_false_iff_eq.mpr c5
 clear c5
 by_cases c6 : ((rd_T61 l0 x5_1).f1) = (IntKind.i16.wrap (wrap64 (x1_1 + 1)))
 rotate_left
 ·rw [if_neg c6] at H
  have c6b0 : (((rd_T61 l0 x5_1).f1) == (IntKind.i16.wrap (wrap64 (x1_1 + 1)))) = false := beq_eq_false_iff_ne.mpr c6
  have c6b1 : (((rd_T61 l0 x5_1).f1) != (IntKind.i16.wrap (wrap64 (x1_1 + 1)))) = true := bne_iff_ne.mpr c6
  obtain rfl := Option.some.inj H
  have p427 : 0 ≤ (x5_1 : Int) := of_decide_eq_true zA
  have q427 : x5_1 < (l0.length : Int) := of_decide_eq_true zA
  obtain ⟨ad427, e427, hx427_0, hx427_1, hx427_2⟩ := at_T61 HR0.out x5_1 p427 q427
  cases e427
  replace p427 := eq_true p427
  replace q427 := eq_true q427
  have p428 : 0 ≤ (x5_1 : Int) := of_decide_eq_true zA
  have q428 : x5_1 < (l0.length : Int) := of_decide_eq_true zA
  obtain ⟨ad428, e428, hx428_0, hx428_1, hx428_2⟩ := at_T61 HR0.out x5_1 p428 q428
  obtain rfl : ad427 = ad428 := (by injection e428)
  replace p428 := eq_true p428
  replace q428 := eq_true q428
  go_wp2
  go_ret
  exact ⟨zi, zdr⟩
 rw [if_pos c6] at H
 have c6b0 : (((rd_T61 l0 x5_1).f1) == (IntKind.i16.wrap (wrap64 (x1_1 + 1)))) = true := beq_iff_eq.mpr c6
 have c6b1 : (((rd_T61 l0 x5_1).f1) != (IntKind.i16.wrap (wrap64 (x1_1 + 1)))) = false := bne_eq_false_iff_eq.mpr c6
 clear c6
 by_cases c7 : ((rd_T61 l0 x5_1).f2) = (IntKind.i16.wrap (wrap64 ((wrap64 (x1_1 + 1)) + 1)))
 rotate_left
 ·rw [if_neg c7] at H
  have c7b0 : (((rd_T61 l0 x5_1).f2) == (IntKind.i16.wrap (wrap64 ((wrap64 (x1_1 + 1)) + 1)))) = false := beq_eq_false_iff_ne.mpr c7
  have c7b1 : (((rd_T61 l0 x5_1).f2) != (IntKind.i16.wrap (wrap64 ((wrap64 (x1_1 + 1)) + 1)))) = true := bne_iff_ne.mpr c7
  obtain rfl := Option.some.inj H
  have p427 : 0 ≤ (x5_1 : Int) := of_decide_eq_true zA
  have q427 : x5_1 < (l0.length : Int) := of_decide_eq_true zA
  obtain ⟨ad427, e427, hx427_0, hx427_1, hx427_2⟩ := at_T61 HR0.out x5_1 p427 q427
  cases e427
  replace p427 := eq_true p427
  replace q427 := eq_true q427
  have p428 : 0 ≤ (x5_1 : Int) := of_decide_eq_true zA
  have q428 : x5_1 < (l0.length : Int) := of_decide_eq_true zA
  obtain ⟨ad428, e428, hx428_0, hx428_1, hx428_2⟩ := at_T61 HR0.out x5_1 p428 q428
  obtain rfl : ad427 = ad428 := (by injection e428)
  replace p428 := eq_true p428
  replace q428 := eq_true q428
  have p429 : 0 ≤ (x5_1 : Int) := of_decide_eq_true zA
  have q429 : x5_1 < (l0.length : Int) := of_decide_eq_true zA
  obtain ⟨ad429, e429, hx429_0, hx429_1, hx429_2⟩ := at_T61 HR0.out x5_1 p429 q429
  obtain rfl : ad427 = ad429 := (by injection e429)
  replace p429 := eq_true p429
  replace q429 := eq_true q429
  go_wp2
  go_ret
  exact ⟨zi, zdr⟩
 rw [if_pos c7] at H
 have c7b0 : (((rd_T61 l0 x5_1).f2) == (IntKind.i16.wrap (wrap64 ((wrap64 (x1_1 + 1)) + 1)))) = true := beq_iff_eq.mpr c7
 have c7b1 : (((rd_T61 l0 x5_1).f2) != (IntKind.i16.wrap (wrap64 ((wrap64 (x1_1 + 1)) + 1)))) = false := bne_eq_false_iff_eq.mpr c7
 clear c7
 have H' := Aside0.mk H
 clear H
 have p427 : 0 ≤ (x5_1 : Int) := of_decide_eq_true zA
 have q427 : x5_1 < (l0.length : Int) := of_decide_eq_true zA
 obtain ⟨ad427, e427, hx427_0, hx427_1, hx427_2⟩ := at_T61 HR0.out x5_1 p427 q427
 cases e427
 replace p427 := eq_true p427
 replace q427 := eq_true q427
 have p428 : 0 ≤ (x5_1 : Int) := of_decide_eq_true zA
 have q428 : x5_1 < (l0.length : Int) := of_decide_eq_true zA
 obtain ⟨ad428, e428, hx428_0, hx428_1, hx428_2⟩ := at_T61 HR0.out x5_1 p428 q428
 obtain rfl : ad427 = ad428 := (by injection e428)
 replace p428 := eq_true p428
 replace q428 := eq_true q428
 have p429 : 0 ≤ (x5_1 : Int) := of_decide_eq_true zA
 have q429 : x5_1 < (l0.length : Int) := of_decide_eq_true zA
 obtain ⟨ad429, e429, hx429_0, hx429_1, hx429_2⟩ := at_T61 HR0.out x5_1 p429 q429
 obtain rfl : ad427 = ad429 := (by injection e429)
 replace p429 := eq_true p429
 replace q429 := eq_true q429
 go_wp2
 go_roundg k1
 case measure => have := HK1.out; omega
 case rel => exact ⟨(wrap64 ((wrap64 ((wrap64 (x1_1 + 1)) + 1)) + 1)), (wrap64 (x5_1 + 1)), zi, zi, H', ⟨by have := HK1.out; omega⟩, zdr⟩
def laws_heldInt16S.l0 : Nat → List Int → Int → Int → Option (Int)
  | 0, _, _, _ => none
  | k + 1, x0, x1, x5 => if x5 < (x0.length : Int) then (if 0 ≤ x5 then (if (rd x0 x5) = (IntKind.i16.wrap (x1)) then (laws_heldInt16S.l0 k x0 (wrap64 (x1 + 1)) (wrap64 (x5 + 1))) else (some (-1))) else (none)) else (some x1)
def laws_heldInt16S.f (k : Nat) (l0 : List Int) (a1 : Int) : Option (Int) := laws_heldInt16S.l0 k l0 a1 0
theorem laws_heldInt16S.mono_l : ∀ k, (∀ y0 y1 y2, LeO (laws_heldInt16S.l0 k y0 y1 y2) (laws_heldInt16S.l0 (k + 1) y0 y1 y2))
  | 0 => fun _ _ _ r h => by simp [laws_heldInt16S.l0] at h
  | k + 1 => by
    have ih0 := laws_heldInt16S.mono_l k
    · intro y0 y1 y2
      unfold laws_heldInt16S.l0
      repeat' first | (with_reducible first | apply ih0 | exact LeO.refl _ | exact LeO.none _ | refine LeO.ite ?_ ?_ | refine LeO.bind ?_ (fun _ => ?_)) | apply ih0 | exact LeO.none _ | refine LeO.ite ?_ ?_ | refine LeO.bind ?_ (fun _ => ?_)
theorem laws_heldInt16S.mono : ∀ a0 a1 k, LeO (laws_heldInt16S.f k a0 a1) (laws_heldInt16S.f (k + 1) a0 a1) := by
 intro a0 a1 k
 have ih0 := laws_heldInt16S.mono_l k
 unfold laws_heldInt16S.f
 repeat' first | (with_reducible first | apply ih0 | exact LeO.refl _ | exact LeO.none _ | refine LeO.ite ?_ ?_ | refine LeO.bind ?_ (fun _ => ?_)) | apply ih0 | exact LeO.none _ | refine LeO.ite ?_ ?_ | refine LeO.bind ?_ (fun _ => ?_)
theorem laws_heldInt16S.calls (k : Nat) (A0 : Option Addr) (c0 : Nat) (l0 : List Int) (a1 : Int) (r : Int) (w : World) (hr0 : Kd.C (Kd.int .i16) w A0 l0.length l0) (hc0 : l0.length ≤ c0) (h : laws_heldInt16S.f k l0 a1 = some r) :
    Calls Try.prog 38 #[.slice A0 l0.length c0, .int .i64 a1] w fun e w' => e = .returned (.int .i64 r) ∧ Drawn0 w w' := by
 have HR0 := Aside0.mk hr0
 have HC0 := Aside0.mk hc0
 clear hr0 hc0
 have H : (laws_heldInt16S.l0 k l0 a1 0) = some r := h
 clear h
 have H' := Aside0.mk H
 clear H
 go_enter Try.func38, Try.ntmps38
 go_wp2
 go_loopg [1, 5] k (fun kq v1 v5 w' => ∃ (x1_1 : Int) (x5_1 : Int), v1 = .int .i64 x1_1 ∧ v5 = .int .i64 x5_1 ∧ Aside0 (laws_heldInt16S.l0 kq l0 x1_1 x5_1 = some r) ∧ Aside0 (kq ≤ k) ∧ Drawn0 w w')
 case atStart => exact ⟨(a1), (0), zi, zi, H', ⟨Nat.le_refl _⟩, zdr⟩
 clear H'
 try clear p2
 obtain ⟨x1_1, x5_1, rfl, rfl, HA, HK1, ⟨m1, rfl⟩⟩ := hrel
 cases gk with
 | zero => exact absurd HA.out (by simp [laws_heldInt16S.l0])
 | succ k1 => ?_
 have H := HA.out
 clear HA
 simp only [laws_heldInt16S.l0] at H
 by_cases c3 : x5_1 < (l0.length : Int)
 rotate_left
 ·rw [if_neg c3] at H
  have c3b0 : decide (x5_1 < (l0.length : Int)) = false := decide_eq_false c3
  clear c3
  obtain rfl := Option.some.inj H
  go_wp2
  go_ret
  exact ⟨zi, zdr⟩
 rw [if_pos c3] at H
 have c3b0 : decide (x5_1 < (l0.length : Int)) = true := decide_eq_true c3
 clear c3
 by_cases c4 : 0 ≤ x5_1
 rotate_left
 ·rw [if_neg c4] at H
  exact absurd H (by simp)
 rw [if_pos c4] at H
 have c4b0 : decide (0 ≤ x5_1) = true := decide_eq_true c4
 clear c4
 by_cases c5 : (rd l0 x5_1) = (IntKind.i16.wrap (x1_1))
 rotate_left
 ·rw [if_neg c5] at H
  have c5b0 : ((rd l0 x5_1) == (IntKind.i16.wrap (x1_1))) = false := beq_eq_false_iff_ne.mpr c5
  have c5b1 : ((rd l0 x5_1) != (IntKind.i16.wrap (x1_1))) = true := bne_iff_ne.mpr c5
  obtain rfl := Option.some.inj H
  have p430 : 0 ≤ (x5_1 : Int) := of_decide_eq_true zA
  have q430 : x5_1 < (l0.length : Int) := of_decide_eq_true zA
  obtain ⟨ad430, e430, hx430_0⟩ := Kd.at_int HR0.out x5_1 p430 q430
  cases e430
  replace p430 := eq_true p430
  replace q430 := eq_true q430
  go_wp2
  go_ret
  exact ⟨zi, zdr⟩
 rw [if_pos c5] at H
 have c5b0 : ((rd l0 x5_1) == (IntKind.i16.wrap (x1_1))) = true := beq_iff_eq.mpr c5
 have c5b1 : ((rd l0 x5_1) != (IntKind.i16.wrap (x1_1))) = false := bne_eq_false_iff_eq.mpr c5
 clear c5
 have H' := Aside0.mk H
 clear H
 have p430 : 0 ≤ (x5_1 : Int) := of_decide_eq_true zA
 have q430 : x5_1 < (l0.length : Int) := of_decide_eq_true zA
 obtain ⟨ad430, e430, hx430_0⟩ := Kd.at_int HR0.out x5_1 p430 q430
 cases e430
 replace p430 := eq_true p430
 replace q430 := eq_true q430
 go_wp2
 go_roundg k1
 case measure => have := HK1.out; omega
 case rel => exact ⟨(wrap64 (x1_1 + 1)), (wrap64 (x5_1 + 1)), zi, zi, H', ⟨by have := HK1.out; omega⟩, zdr⟩
def laws_heldNetwork.f (k : Nat) (a0_0 : Int) (l0_1 : List (S61)) (l0_2 : List Int) (a1 : Int) : Option (Int) := (laws_heldNodeS.f k l0_1 a1).bind fun t432 => (if t432 < 0 then (some (-1)) else ((laws_heldInt16S.f k l0_2 t432).bind fun t433 => (if t433 < 0 then (some (-1)) else (some t433))))
theorem laws_heldNetwork.mono : ∀ a0 a1 a2 a3 k, LeO (laws_heldNetwork.f k a0 a1 a2 a3) (laws_heldNetwork.f (k + 1) a0 a1 a2 a3) := by
 intro a0 a1 a2 a3 k
 unfold laws_heldNetwork.f
 repeat' first | (with_reducible first | apply laws_heldInt16S.mono | apply laws_heldNodeS.mono | exact LeO.refl _ | exact LeO.none _ | refine LeO.ite ?_ ?_ | refine LeO.bind ?_ (fun _ => ?_)) | apply laws_heldInt16S.mono | apply laws_heldNodeS.mono | exact LeO.none _ | refine LeO.ite ?_ ?_ | refine LeO.bind ?_ (fun _ => ?_)
theorem laws_heldNetwork.calls (k : Nat) (a0_0 : Int) (A0_1 : Option Addr) (c0_1 : Nat) (l0_1 : List (S61)) (A0_2 : Option Addr) (c0_2 : Nat) (l0_2 : List Int) (a1 : Int) (r : Int) (w : World) (hr0_1 : Kd.C k61 w A0_1 l0_1.length l0_1) (hc0_1 : l0_1.length ≤ c0_1) (hr0_2 : Kd.C (Kd.int .i16) w A0_2 l0_2.length l0_2) (hc0_2 : l0_2.length ≤ c0_2) (h : laws_heldNetwork.f k a0_0 l0_1 l0_2 a1 = some r) :
    Calls Try.prog 13 #[.agg #[.int .i8 a0_0, .slice A0_1 l0_1.length c0_1, .slice A0_2 l0_2.length c0_2], .int .i64 a1] w fun e w' => e = .returned (.int .i64 r) ∧ Below w.heap.size w w' := by
 have hu29 := Try.underlying29
 have HR0_1 := Aside0.mk hr0_1
 have HC0_1 := Aside0.mk hc0_1
 clear hr0_1 hc0_1
 have HR0_2 := Aside0.mk hr0_2
 have HC0_2 := Aside0.mk hc0_2
 clear hr0_2 hc0_2
 have HB := Aside0.mk (Below.refl w.heap.size w)
 have H : ((laws_heldNodeS.f k l0_1 a1).bind fun t432 => (if t432 < 0 then (some (-1)) else ((laws_heldInt16S.f k l0_2 t432).bind fun t433 => (if t433 < 0 then (some (-1)) else (some t433))))) = some r := h
 clear h
 replace H := zob H
 obtain ⟨t432, A30, H⟩ := H
 replace H : (if t432 < 0 then (some (-1)) else ((laws_heldInt16S.f k l0_2 t432).bind fun t433 => (if t433 < 0 then (some (-1)) else (some t433)))) = some r := H
 have A3 := Aside0.mk A30
 clear A30
 by_cases c4 : t432 < 0
 ·rw [if_pos c4] at H
  have c4b0 : decide (t432 < 0) = true := decide_eq_true c4
  clear c4
  obtain rfl := Option.some.inj H
  go_enter Try.func13, Try.ntmps13
  go_wp2_with (first | ((with_reducible refine gate_dst (N := 2) rfl ?_); refine zbx 2 #[.int .i8 a0_0, .slice A0_1 l0_1.length c0_1, .slice A0_2 l0_2.length c0_2] 29 ?_; intro gb431 hg w5 hbox hb; have n_ : _ ∧ _ ∧ _ ∧ _ := ⟨zb HB hb, Aside0.mk (hbox), zg HB hg, zg HB hg⟩; clear HB; obtain ⟨HB, BK431, GW431, GE431⟩ := n_; clear hb hbox hg; obtain ⟨z6_0, z6_1, z6_2, y6_0, y6_1, y6_2⟩ := zB3 BK431) | ((with_reducible refine gate_callee (f := 37) rfl ?_); refine goesL_ (some 8) rfl rfl Try.func37 (by kernel_rfl) rfl #[.slice A0_1 l0_1.length c0_1, .int .i64 a1] rfl zm ?_; (with_reducible refine (laws_heldNodeS.calls k _ _ l0_1 a1 t432 _ ?side1 ?side2 A3.out).mono ?_); (case side1 => exact zcc HB HR0_1.out); (case side2 => exact HC0_1.out); rintro e w' ⟨rfl, ⟨nd, rfl⟩⟩; refine ⟨_, rfl, ?_⟩))
  go_ret
  exact ⟨zv, zbo⟩
 rw [if_neg c4] at H
 have c4b0 : decide (t432 < 0) = false := decide_eq_false c4
 clear c4
 replace H := zob H
 obtain ⟨t433, A70, H⟩ := H
 replace H : (if t433 < 0 then (some (-1)) else (some t433)) = some r := H
 have A7 := Aside0.mk A70
 clear A70
 by_cases c8 : t433 < 0
 ·rw [if_pos c8] at H
  have c8b0 : decide (t433 < 0) = true := decide_eq_true c8
  clear c8
  obtain rfl := Option.some.inj H
  go_enter Try.func13, Try.ntmps13
  go_wp2_with (first | ((with_reducible refine gate_dst (N := 2) rfl ?_); refine zbx 2 #[.int .i8 a0_0, .slice A0_1 l0_1.length c0_1, .slice A0_2 l0_2.length c0_2] 29 ?_; intro gb431 hg w9 hbox hb; have n_ : _ ∧ _ ∧ _ ∧ _ := ⟨zb HB hb, Aside0.mk (hbox), zg HB hg, zg HB hg⟩; clear HB; obtain ⟨HB, BK431, GW431, GE431⟩ := n_; clear hb hbox hg; obtain ⟨z10_0, z10_1, z10_2, y10_0, y10_1, y10_2⟩ := zB3 BK431) | ((with_reducible refine gate_callee (f := 37) rfl ?_); refine goesL_ (some 8) rfl rfl Try.func37 (by kernel_rfl) rfl #[.slice A0_1 l0_1.length c0_1, .int .i64 a1] rfl zm ?_; (with_reducible refine (laws_heldNodeS.calls k _ _ l0_1 a1 t432 _ ?side1 ?side2 A3.out).mono ?_); (case side1 => exact zcc HB HR0_1.out); (case side2 => exact HC0_1.out); rintro e w' ⟨rfl, ⟨nd, rfl⟩⟩; refine ⟨_, rfl, ?_⟩) | ((with_reducible refine gate_callee (f := 38) rfl ?_); refine goesL_ (some 14) rfl rfl Try.func38 (by kernel_rfl) rfl #[.slice A0_2 l0_2.length c0_2, .int .i64 t432] rfl zm ?_; (with_reducible refine (laws_heldInt16S.calls k _ _ l0_2 t432 t433 _ ?side1 ?side2 A7.out).mono ?_); (case side1 => repeat (first | exact (Kd.C_below HR0_2.out zbo) | (with_reducible refine Kd.C_alloc ?_ _) | (with_reducible refine Kd.C_drewN ?_ _) | (with_reducible refine Kd.C_drew ?_))); (case side2 => exact HC0_2.out); rintro e w' ⟨rfl, ⟨nd, rfl⟩⟩; refine ⟨_, rfl, ?_⟩))
  go_ret
  exact ⟨zv, zbo⟩
 rw [if_neg c8] at H
 have c8b0 : decide (t433 < 0) = false := decide_eq_false c8
 clear c8
 obtain rfl := Option.some.inj H
 go_enter Try.func13, Try.ntmps13
 go_wp2_with (first | ((with_reducible refine gate_dst (N := 2) rfl ?_); refine zbx 2 #[.int .i8 a0_0, .slice A0_1 l0_1.length c0_1, .slice A0_2 l0_2.length c0_2] 29 ?_; intro gb431 hg w11 hbox hb; have n_ : _ ∧ _ ∧ _ ∧ _ := ⟨zb HB hb, Aside0.mk (hbox), zg HB hg, zg HB hg⟩; clear HB; obtain ⟨HB, BK431, GW431, GE431⟩ := n_; clear hb hbox hg; obtain ⟨z12_0, z12_1, z12_2, y12_0, y12_1, y12_2⟩ := zB3 BK431) | ((with_reducible refine gate_callee (f := 37) rfl ?_); refine goesL_ (some 8) rfl rfl Try.func37 (by kernel_rfl) rfl #[.slice A0_1 l0_1.length c0_1, .int .i64 a1] rfl zm ?_; (with_reducible refine (laws_heldNodeS.calls k _ _ l0_1 a1 t432 _ ?side1 ?side2 A3.out).mono ?_); (case side1 => exact zcc HB HR0_1.out); (case side2 => exact HC0_1.out); rintro e w' ⟨rfl, ⟨nd, rfl⟩⟩; refine ⟨_, rfl, ?_⟩) | ((with_reducible refine gate_callee (f := 38) rfl ?_); refine goesL_ (some 14) rfl rfl Try.func38 (by kernel_rfl) rfl #[.slice A0_2 l0_2.length c0_2, .int .i64 t432] rfl zm ?_; (with_reducible refine (laws_heldInt16S.calls k _ _ l0_2 t432 t433 _ ?side1 ?side2 A7.out).mono ?_); (case side1 => repeat (first | exact (Kd.C_below HR0_2.out zbo) | (with_reducible refine Kd.C_alloc ?_ _) | (with_reducible refine Kd.C_drewN ?_ _) | (with_reducible refine Kd.C_drew ?_))); (case side2 => exact HC0_2.out); rintro e w' ⟨rfl, ⟨nd, rfl⟩⟩; refine ⟨_, rfl, ?_⟩))
 go_ret
 exact ⟨zv, zbo⟩
def laws_FnExactAdderOf.f (k : Nat) (a0 : Int) : Option (Bool) := (spec_AdderOf.f k a0).bind fun bt434 => ((impl_AdderOf.f k a0).bind fun bt443 => ((laws_eqNetwork.f k bt443.1 bt443.2.1 bt443.2.2.1 bt434.1 bt434.2.1 bt434.2.2.1).bind fun t452 => (if t452 = true then (if bt443.2.2.2 = bt434.2.2.2 then ((laws_markNetwork.f k bt443.1 bt443.2.1 bt443.2.2.1 1).bind fun bt453 => ((laws_heldNetwork.f k bt443.1 bt453.2.1 bt453.2.2 1).bind fun t456 => (if t456 < 0 then (none) else (if t456 = bt453.1 then ((impl_AdderOf.f k a0).bind fun bt457 => ((laws_eqNetwork.f k bt457.1 bt457.2.1 bt457.2.2.1 bt434.1 bt434.2.1 bt434.2.2.1).bind fun t466 => (if t466 = true then (if bt457.2.2.2 = bt434.2.2.2 then ((laws_heldNetwork.f k bt443.1 bt453.2.1 bt453.2.2 1).bind fun t467 => (if t467 < 0 then (none) else (if t467 = bt453.1 then (some true) else (none)))) else (none)) else (none)))) else (none))))) else (none)) else (none))))
theorem laws_FnExactAdderOf.mono : ∀ a0 k, LeO (laws_FnExactAdderOf.f k a0) (laws_FnExactAdderOf.f (k + 1) a0) := by
 intro a0 k
 unfold laws_FnExactAdderOf.f
 repeat' first | (with_reducible first | apply impl_AdderOf.mono | apply laws_eqNetwork.mono | apply laws_heldNetwork.mono | apply laws_markNetwork.mono | apply spec_AdderOf.mono | exact LeO.refl _ | exact LeO.none _ | refine LeO.ite ?_ ?_ | refine LeO.bind ?_ (fun _ => ?_)) | apply impl_AdderOf.mono | apply laws_eqNetwork.mono | apply laws_heldNetwork.mono | apply laws_markNetwork.mono | apply spec_AdderOf.mono | exact LeO.none _ | refine LeO.ite ?_ ?_ | refine LeO.bind ?_ (fun _ => ?_)
theorem laws_FnExactAdderOf.calls (k : Nat) (a0 : Int) (r : Bool) (w : World) (h : laws_FnExactAdderOf.f k a0 = some r) :
    Calls Try.prog 4 #[.int .i64 a0] w fun e w' => e = .returned (.bool r) ∧ Below w.heap.size w w' := by
 have hu29 := Try.underlying29
 have HB := Aside0.mk (Below.refl w.heap.size w)
 have H : ((spec_AdderOf.f k a0).bind fun bt434 => ((impl_AdderOf.f k a0).bind fun bt443 => ((laws_eqNetwork.f k bt443.1 bt443.2.1 bt443.2.2.1 bt434.1 bt434.2.1 bt434.2.2.1).bind fun t452 => (if t452 = true then (if bt443.2.2.2 = bt434.2.2.2 then ((laws_markNetwork.f k bt443.1 bt443.2.1 bt443.2.2.1 1).bind fun bt453 => ((laws_heldNetwork.f k bt443.1 bt453.2.1 bt453.2.2 1).bind fun t456 => (if t456 < 0 then (none) else (if t456 = bt453.1 then ((impl_AdderOf.f k a0).bind fun bt457 => ((laws_eqNetwork.f k bt457.1 bt457.2.1 bt457.2.2.1 bt434.1 bt434.2.1 bt434.2.2.1).bind fun t466 => (if t466 = true then (if bt457.2.2.2 = bt434.2.2.2 then ((laws_heldNetwork.f k bt443.1 bt453.2.1 bt453.2.2 1).bind fun t467 => (if t467 < 0 then (none) else (if t467 = bt453.1 then (some true) else (none)))) else (none)) else (none)))) else (none))))) else (none)) else (none))))) = some r := h
 clear h
 replace H := zob H
 obtain ⟨⟨t434, t435, t438, t441⟩, A20, H⟩ := H
 replace H : ((impl_AdderOf.f k a0).bind fun bt443 => ((laws_eqNetwork.f k bt443.1 bt443.2.1 bt443.2.2.1 t434 t435 t438).bind fun t452 => (if t452 = true then (if bt443.2.2.2 = t441 then ((laws_markNetwork.f k bt443.1 bt443.2.1 bt443.2.2.1 1).bind fun bt453 => ((laws_heldNetwork.f k bt443.1 bt453.2.1 bt453.2.2 1).bind fun t456 => (if t456 < 0 then (none) else (if t456 = bt453.1 then ((impl_AdderOf.f k a0).bind fun bt457 => ((laws_eqNetwork.f k bt457.1 bt457.2.1 bt457.2.2.1 t434 t435 t438).bind fun t466 => (if t466 = true then (if bt457.2.2.2 = t441 then ((laws_heldNetwork.f k bt443.1 bt453.2.1 bt453.2.2 1).bind fun t467 => (if t467 < 0 then (none) else (if t467 = bt453.1 then (some true) else (none)))) else (none)) else (none)))) else (none))))) else (none)) else (none)))) = some r := H
 have A2 := Aside0.mk A20
 clear A20
 replace H := zob H
 obtain ⟨⟨t443, t444, t447, t450⟩, A30, H⟩ := H
 replace H : ((laws_eqNetwork.f k t443 t444 t447 t434 t435 t438).bind fun t452 => (if t452 = true then (if t450 = t441 then ((laws_markNetwork.f k t443 t444 t447 1).bind fun bt453 => ((laws_heldNetwork.f k t443 bt453.2.1 bt453.2.2 1).bind fun t456 => (if t456 < 0 then (none) else (if t456 = bt453.1 then ((impl_AdderOf.f k a0).bind fun bt457 => ((laws_eqNetwork.f k bt457.1 bt457.2.1 bt457.2.2.1 t434 t435 t438).bind fun t466 => (if t466 = true then (if bt457.2.2.2 = t441 then ((laws_heldNetwork.f k t443 bt453.2.1 bt453.2.2 1).bind fun t467 => (if t467 < 0 then (none) else (if t467 = bt453.1 then (some true) else (none)))) else (none)) else (none)))) else (none))))) else (none)) else (none))) = some r := H
 have A3 := Aside0.mk A30
 clear A30
 replace H := zob H
 obtain ⟨t452, A40, H⟩ := H
 replace H : (if t452 = true then (if t450 = t441 then ((laws_markNetwork.f k t443 t444 t447 1).bind fun bt453 => ((laws_heldNetwork.f k t443 bt453.2.1 bt453.2.2 1).bind fun t456 => (if t456 < 0 then (none) else (if t456 = bt453.1 then ((impl_AdderOf.f k a0).bind fun bt457 => ((laws_eqNetwork.f k bt457.1 bt457.2.1 bt457.2.2.1 t434 t435 t438).bind fun t466 => (if t466 = true then (if bt457.2.2.2 = t441 then ((laws_heldNetwork.f k t443 bt453.2.1 bt453.2.2 1).bind fun t467 => (if t467 < 0 then (none) else (if t467 = bt453.1 then (some true) else (none)))) else (none)) else (none)))) else (none))))) else (none)) else (none)) = some r := H
 have A4 := Aside0.mk A40
 clear A40
 by_cases c5 : t452 = true
 rotate_left
 ·replace c5 := Bool.eq_false_iff.mpr c5
  subst c5
  have H1 : (none) = some r := by rw [if_neg (show ¬ (false = true) by decide)] at H; exact H
  clear H
  have H := H1
  clear H1
  exact absurd H (by simp)
 subst c5
 have H1 : (if t450 = t441 then ((laws_markNetwork.f k t443 t444 t447 1).bind fun bt453 => ((laws_heldNetwork.f k t443 bt453.2.1 bt453.2.2 1).bind fun t456 => (if t456 < 0 then (none) else (if t456 = bt453.1 then ((impl_AdderOf.f k a0).bind fun bt457 => ((laws_eqNetwork.f k bt457.1 bt457.2.1 bt457.2.2.1 t434 t435 t438).bind fun t466 => (if t466 = true then (if bt457.2.2.2 = t441 then ((laws_heldNetwork.f k t443 bt453.2.1 bt453.2.2 1).bind fun t467 => (if t467 < 0 then (none) else (if t467 = bt453.1 then (some true) else (none)))) else (none)) else (none)))) else (none))))) else (none)) = some r := by rw [if_pos rfl] at H; exact H
 clear H
 have H := H1
 clear H1
 by_cases c6 : t450 = t441
 rotate_left
 ·rw [if_neg c6] at H
  exact absurd H (by simp)
 rw [if_pos c6] at H
 have c6b0 : (t450 == t441) = true := beq_iff_eq.mpr c6
 have c6b1 : (t450 != t441) = false := bne_eq_false_iff_eq.mpr c6
 clear c6
 replace H := zob H
 obtain ⟨⟨t453, t454, t455⟩, A70, H⟩ := H
 replace H : ((laws_heldNetwork.f k t443 t454 t455 1).bind fun t456 => (if t456 < 0 then (none) else (if t456 = t453 then ((impl_AdderOf.f k a0).bind fun bt457 => ((laws_eqNetwork.f k bt457.1 bt457.2.1 bt457.2.2.1 t434 t435 t438).bind fun t466 => (if t466 = true then (if bt457.2.2.2 = t441 then ((laws_heldNetwork.f k t443 t454 t455 1).bind fun t467 => (if t467 < 0 then (none) else (if t467 = t453 then (some true) else (none)))) else (none)) else (none)))) else (none)))) = some r := H
 have A7 := Aside0.mk A70
 clear A70
 replace H := zob H
 obtain ⟨t456, A80, H⟩ := H
 replace H : (if t456 < 0 then (none) else (if t456 = t453 then ((impl_AdderOf.f k a0).bind fun bt457 => ((laws_eqNetwork.f k bt457.1 bt457.2.1 bt457.2.2.1 t434 t435 t438).bind fun t466 => (if t466 = true then (if bt457.2.2.2 = t441 then ((laws_heldNetwork.f k t443 t454 t455 1).bind fun t467 => (if t467 < 0 then (none) else (if t467 = t453 then (some true) else (none)))) else (none)) else (none)))) else (none))) = some r := H
 have A8 := Aside0.mk A80
 clear A80
 by_cases c9 : t456 < 0
 ·rw [if_pos c9] at H
  exact absurd H (by simp)
 rw [if_neg c9] at H
 have c9b0 : decide (t456 < 0) = false := decide_eq_false c9
 clear c9
 by_cases c10 : t456 = t453
 rotate_left
 ·rw [if_neg c10] at H
  exact absurd H (by simp)
 rw [if_pos c10] at H
 have c10b0 : (t456 == t453) = true := beq_iff_eq.mpr c10
 have c10b1 : (t456 != t453) = false := bne_eq_false_iff_eq.mpr c10
 clear c10
 replace H := zob H
 obtain ⟨⟨t457, t458, t461, t464⟩, A110, H⟩ := H
 replace H : ((laws_eqNetwork.f k t457 t458 t461 t434 t435 t438).bind fun t466 => (if t466 = true then (if t464 = t441 then ((laws_heldNetwork.f k t443 t454 t455 1).bind fun t467 => (if t467 < 0 then (none) else (if t467 = t453 then (some true) else (none)))) else (none)) else (none))) = some r := H
 have A11 := Aside0.mk A110
 clear A110
 replace H := zob H
 obtain ⟨t466, A120, H⟩ := H
 replace H : (if t466 = true then (if t464 = t441 then ((laws_heldNetwork.f k t443 t454 t455 1).bind fun t467 => (if t467 < 0 then (none) else (if t467 = t453 then (some true) else (none)))) else (none)) else (none)) = some r := H
 have A12 := Aside0.mk A120
 clear A120
 by_cases c13 : t466 = true
 rotate_left
 ·replace c13 := Bool.eq_false_iff.mpr c13
  subst c13
  have H1 : (none) = some r := by rw [if_neg (show ¬ (false = true) by decide)] at H; exact H
  clear H
  have H := H1
  clear H1
  exact absurd H (by simp)
 subst c13
 have H1 : (if t464 = t441 then ((laws_heldNetwork.f k t443 t454 t455 1).bind fun t467 => (if t467 < 0 then (none) else (if t467 = t453 then (some true) else (none)))) else (none)) = some r := by rw [if_pos rfl] at H; exact H
 clear H
 have H := H1
 clear H1
 by_cases c14 : t464 = t441
 rotate_left
 ·rw [if_neg c14] at H
  exact absurd H (by simp)
 rw [if_pos c14] at H
 have c14b0 : (t464 == t441) = true := beq_iff_eq.mpr c14
 have c14b1 : (t464 != t441) = false := bne_eq_false_iff_eq.mpr c14
 clear c14
 replace H := zob H
 obtain ⟨t467, A150, H⟩ := H
 replace H : (if t467 < 0 then (none) else (if t467 = t453 then (some true) else (none))) = some r := H
 have A15 := Aside0.mk A150
 clear A150
 by_cases c16 : t467 < 0
 ·rw [if_pos c16] at H
  exact absurd H (by simp)
 rw [if_neg c16] at H
 have c16b0 : decide (t467 < 0) = false := decide_eq_false c16
 clear c16
 by_cases c17 : t467 = t453
 rotate_left
 ·rw [if_neg c17] at H
  exact absurd H (by simp)
 rw [if_pos c17] at H
 have c17b0 : (t467 == t453) = true := beq_iff_eq.mpr c17
 have c17b1 : (t467 != t453) = false := bne_eq_false_iff_eq.mpr c17
 clear c17
 obtain rfl := Option.some.inj H
 go_enter Try.func4, Try.ntmps4
 go_wp2_with (first | ((with_reducible refine gate_callee (f := 8) rfl ?_); refine goesL_ (some 13) rfl rfl Try.func8 (by kernel_rfl) rfl #[.int .i64 a0] rfl zm ?_; (with_reducible refine (spec_AdderOf.calls k a0 t434 t435 t438 t441 _ A2.out).mono ?_); rintro e w18 ⟨v436, v439, rfl, ho0, ho1, hb⟩; refine ⟨_, rfl, ?_⟩; have n_ : _ ∧ _ ∧ _ := ⟨Aside0.mk (Kd.R_lower ho0 (zz HB)), Aside0.mk (Kd.R_lower ho1 (zz HB)), zb HB hb⟩; clear HB; obtain ⟨HO437, HO440, HB⟩ := n_; (try clear hb); (try clear hb2); (try clear hk); (try clear hi); (try clear ho0); (try clear ho1)) | ((with_reducible refine gate_dst (N := 3) rfl ?_); refine zbx 3 #[.int .i8 0, .slice none 0 0, .slice none 0 0] 29 ?_; intro gb442 hg w19 hbox hb; have n_ : _ ∧ _ ∧ _ ∧ _ ∧ _ ∧ _ := ⟨zr HO437 hb, zr HO440 hb, zb HB hb, Aside0.mk (hbox), zg HB hg, zg HB hg⟩; clear HO437 HO440 HB; obtain ⟨HO437, HO440, HB, BK442, GW442, GE442⟩ := n_; clear hb hbox hg; obtain ⟨z20_0, z20_1, z20_2, y20_0, y20_1, y20_2⟩ := zB3 BK442; obtain ⟨Ao21, co21, eo21⟩ := Kd.R_slice HO437.out; subst eo21; obtain ⟨Ao22, co22, eo22⟩ := Kd.R_slice HO440.out; subst eo22) | ((with_reducible refine gate_callee (f := 7) rfl ?_); refine goesL_ (some 18) rfl rfl Try.func7 (by kernel_rfl) rfl #[.int .i64 a0] rfl zm ?_; (with_reducible refine (impl_AdderOf.calls k a0 t443 t444 t447 t450 _ A3.out).mono ?_); rintro e w23 ⟨v445, v448, rfl, ho0, ho1, hb⟩; refine ⟨_, rfl, ?_⟩; have n_ : _ ∧ _ ∧ _ ∧ _ ∧ _ ∧ _ := ⟨Aside0.mk (Kd.R_elder' (zs HO437 BK442).out (Kd.R_base ho0) hb), Aside0.mk (Kd.R_elder' (zs HO440 BK442).out (Kd.R_base ho1) hb), Aside0.mk (Kd.R_lower (Kd.R_new' ho0 (Kd.R_lt (zs HO437 BK442).out)) (zz HB)), Aside0.mk (Kd.R_lower (Kd.R_new' ho1 (Kd.R_lt (zs HO440 BK442).out)) (zz HB)), Aside0.mk (blk_below (g := gb442) (o := .cells #[.int .i8 t434, .slice Ao21 t435.length co21, .slice Ao22 t438.length co22] 29 (0, 0)) (zp BK442) hb), zbs hb⟩; clear HO437 HO440 BK442 HB; obtain ⟨HO437, HO440, HO446, HO449, BK442, HB⟩ := n_; (try clear hb); (try clear hb2); (try clear hk); (try clear hi); (try clear ho0); (try clear ho1)) | ((with_reducible refine gate_dst (N := 5) rfl ?_); refine zbx 5 #[.int .i8 0, .slice none 0 0, .slice none 0 0] 29 ?_; intro gb451 hg w24 hbox hb; have n_ : _ ∧ _ ∧ _ ∧ _ ∧ _ ∧ _ ∧ _ ∧ _ ∧ _ ∧ _ ∧ _ := ⟨zr HO437 hb, zr HO440 hb, zr HO446 hb, zr HO449 hb, zk BK442 hb, zbs hb, Aside0.mk (hbox), zg HB hg, zg HB hg, zn1 BK442 hg, zn2 BK442 hg⟩; clear HO437 HO440 HO446 HO449 BK442 HB; obtain ⟨HO437, HO440, HO446, HO449, BK442, HB, BK451, GW451, GE451, NB442_451, NB451_442⟩ := n_; clear hb hbox hg; have hnb25 := NB451_442.out; have hnc25 := NB442_451.out; obtain ⟨z26_0, z26_1, z26_2, y26_0, y26_1, y26_2⟩ := zB3 BK451; obtain ⟨Ao27, co27, eo27⟩ := Kd.R_slice HO446.out; subst eo27; obtain ⟨Ao28, co28, eo28⟩ := Kd.R_slice HO449.out; subst eo28; obtain ⟨z29_0, z29_1, z29_2, y29_0, y29_1, y29_2⟩ := zB3 BK442) | ((with_reducible refine gate_callee (f := 11) rfl ?_); refine goesL_ (some 23) rfl rfl Try.func11 (by kernel_rfl) rfl #[.agg #[.int .i8 t443, .slice Ao27 t444.length co27, .slice Ao28 t447.length co28], .agg #[.int .i8 t434, .slice Ao21 t435.length co21, .slice Ao22 t438.length co22]] rfl zm ?_; (with_reducible refine (laws_eqNetwork.calls k t443 _ _ t444 _ _ t447 t434 _ _ t435 _ _ t438 true _ ?side1 ?side2 ?side3 ?side4 ?side5 ?side6 ?side7 ?side8 A4.out).mono ?_); (case side1 => exact (Kd.R_reads' (zs HO446 BK451).out).2.2); (case side2 => exact (Kd.R_reads' HO446.out).2.1); (case side3 => exact (Kd.R_reads' (zs HO449 BK451).out).2.2); (case side4 => exact (Kd.R_reads' HO449.out).2.1); (case side5 => exact (Kd.R_reads' (zs HO437 BK451).out).2.2); (case side6 => exact (Kd.R_reads' HO437.out).2.1); (case side7 => exact (Kd.R_reads' (zs HO440 BK451).out).2.2); (case side8 => exact (Kd.R_reads' HO440.out).2.1); rintro e w30 ⟨rfl, hb⟩; refine ⟨_, rfl, ?_⟩; have n_ : _ ∧ _ ∧ _ ∧ _ ∧ _ ∧ _ ∧ _ := ⟨zsb HO437 BK451 hb, zsb HO440 BK451 hb, zsb HO446 BK451 hb, zsb HO449 BK451 hb, zfb BK442 NB442_451 hb, Aside0.mk (blk_below (g := gb451) (o := .cells #[.int .i8 t443, .slice Ao27 t444.length co27, .slice Ao28 t447.length co28] 29 (0, 0)) (zp BK451) hb), zbs hb⟩; clear HO437 HO440 HO446 HO449 BK442 BK451 HB; obtain ⟨HO437, HO440, HO446, HO449, BK442, BK451, HB⟩ := n_; (try clear hb); (try clear hb2); (try clear hk); (try clear hi); obtain ⟨z31_0, z31_1, z31_2, y31_0, y31_1, y31_2⟩ := zB3 BK451) | ((with_reducible refine gate_callee (f := 12) rfl ?_); refine goesL_ (some 32) rfl rfl Try.func12 (by kernel_rfl) rfl #[.agg #[.int .i8 t443, .slice Ao27 t444.length co27, .slice Ao28 t447.length co28], .int .i64 1] rfl zm ?_; (with_reducible refine (laws_markNetwork.calls k t443 (fun k_ => some k_ = (.slice Ao27 t444.length co27 : Value).ownBlock) (.slice Ao27 t444.length co27) t444 (fun k_ => some k_ = (.slice Ao28 t447.length co28 : Value).ownBlock) (.slice Ao28 t447.length co28) t447 1 t453 t454 t455 w _ ?side1 ?side2 ?side3 A7.out).mono ?_); (case side1 => exact zbo); (case side2 => exact Kd.R_tight rfl HO446.out); (case side3 => exact Kd.R_tight rfl HO449.out); rintro e w32 ⟨rfl, hy0, hy1, hb, hkp⟩; refine ⟨_, rfl, ?_⟩; have n_ : _ ∧ _ ∧ _ ∧ _ ∧ _ ∧ _ ∧ _ := ⟨Aside0.mk (Kd.R_mono (ok' := fun k_ => some k_ ≠ (.slice Ao27 t444.length co27 : Value).ownBlock) (Kd.R_keptB ((Kd.R_apart' HO437.out (Kd.R_typed HO449.out) (by decide))) hkp (fun k_ hk_ hs_ => Or.elim hs_ (fun e_ => (hk_.1.2) e_) (fun e_ => (hk_.2) e_))) (fun k_ hk_ => hk_.1.1.2)), Aside0.mk (Kd.R_mono (ok' := fun k_ => some k_ ≠ (.slice Ao28 t447.length co28 : Value).ownBlock) (Kd.R_keptB ((Kd.R_apart' HO440.out (Kd.R_typed HO446.out) (by decide))) hkp (fun k_ hk_ hs_ => Or.elim hs_ (fun e_ => (hk_.2) e_) (fun e_ => (hk_.1.2) e_))) (fun k_ hk_ => hk_.1.1.2)), zkr BK442 hkp (fun hs_ => Or.elim hs_ (fun e_ => (fun e_ => (Kd.R_ne HO446.out BK442.out (by decide)) e_) e_) (fun e_ => (fun e_ => (Kd.R_ne HO449.out BK442.out (by decide)) e_) e_)), Aside0.mk (Kd.R_reok rfl hy0 (fun k_ e_ => HO446.out.1 k_ e_)), Aside0.mk (Kd.R_reok rfl hy1 (fun k_ e_ => HO449.out.1 k_ e_)), zkr BK451 hkp (fun hs_ => Or.elim hs_ (fun e_ => (fun e_ => (Kd.R_ne HO446.out BK451.out (by decide)) e_) e_) (fun e_ => (fun e_ => (Kd.R_ne HO449.out BK451.out (by decide)) e_) e_)), Aside0.mk (hb)⟩; clear HO437 HO440 BK442 HO446 HO449 BK451 HB; obtain ⟨HO437, HO440, BK442, HO446, HO449, BK451, HB⟩ := n_; (try clear hb); (try clear hkp); (try clear hy0); (try clear hy1); obtain ⟨z33_0, z33_1, z33_2, y33_0, y33_1, y33_2⟩ := zB3 BK451) | ((with_reducible refine gate_callee (f := 13) rfl ?_); refine goesL_ (some 35) rfl rfl Try.func13 (by kernel_rfl) rfl #[.agg #[.int .i8 t443, .slice Ao27 t454.length co27, .slice Ao28 t455.length co28], .int .i64 1] rfl (by (try simp only [List.map_toArray, List.map_cons, List.map_nil]); first | done | (rw [show t454.length = t444.length from (Kd.R_reads' HO446.out).1.symm, show t455.length = t447.length from (Kd.R_reads' HO449.out).1.symm] <;> rfl) | rfl | (simp only [List.length_drop, List.length_take]; rfl)) ?_; (with_reducible refine (laws_heldNetwork.calls k t443 _ _ t454 _ _ t455 1 t456 _ ?side1 ?side2 ?side3 ?side4 A8.out).mono ?_); (case side1 => exact zrc HO446); (case side2 => rw [show t454.length = t444.length from (Kd.R_reads' HO446.out).1.symm]; exact (Kd.R_reads' HO446.out).2.1); (case side3 => exact zrc HO449); (case side4 => rw [show t455.length = t447.length from (Kd.R_reads' HO449.out).1.symm]; exact (Kd.R_reads' HO449.out).2.1); rintro e w34 ⟨rfl, hb⟩; refine ⟨_, rfl, ?_⟩; have n_ : _ ∧ _ ∧ _ ∧ _ ∧ _ ∧ _ ∧ _ := ⟨zr HO437 hb, zr HO440 hb, zr HO446 hb, zr HO449 hb, zk BK442 hb, zk BK451 hb, zbs hb⟩; clear HO437 HO440 HO446 HO449 BK442 BK451 HB; obtain ⟨HO437, HO440, HO446, HO449, BK442, BK451, HB⟩ := n_; (try clear hb); (try clear hb2); (try clear hk); (try clear hi)) | ((with_reducible refine gate_callee (f := 7) rfl ?_); refine goesL_ (some 43) rfl rfl Try.func7 (by kernel_rfl) rfl #[.int .i64 a0] rfl zm ?_; (with_reducible refine (impl_AdderOf.calls k a0 t457 t458 t461 t464 _ A11.out).mono ?_); rintro e w35 ⟨v459, v462, rfl, ho0, ho1, hb⟩; refine ⟨_, rfl, ?_⟩; have n_ : _ ∧ _ ∧ _ ∧ _ ∧ _ ∧ _ ∧ _ ∧ _ ∧ _ := ⟨Aside0.mk (Kd.R_elder' (ze HO437).out (Kd.R_base ho0) hb), Aside0.mk (Kd.R_elder' (ze HO440).out (Kd.R_base ho1) hb), Aside0.mk (Kd.R_elder' (ze HO446).out (Kd.R_base ho0) hb), Aside0.mk (Kd.R_elder' (ze HO449).out (Kd.R_base ho1) hb), Aside0.mk (Kd.R_lower (Kd.R_new' (Kd.R_new' ho0 (Kd.R_lt (ze HO437).out)) (Kd.R_lt (ze HO446).out)) (zz HB)), Aside0.mk (Kd.R_lower (Kd.R_new' (Kd.R_new' ho1 (Kd.R_lt (ze HO440).out)) (Kd.R_lt (ze HO449).out)) (zz HB)), zk BK442 hb, zk BK451 hb, zbs hb⟩; clear HO437 HO440 HO446 HO449 BK442 BK451 HB; obtain ⟨HO437, HO440, HO446, HO449, HO460, HO463, BK442, BK451, HB⟩ := n_; (try clear hb); (try clear hb2); (try clear hk); (try clear hi); (try clear ho0); (try clear ho1)) | ((with_reducible refine gate_dst (N := 9) rfl ?_); refine zbx 9 #[.int .i8 0, .slice none 0 0, .slice none 0 0] 29 ?_; intro gb465 hg w36 hbox hb; have n_ : _ ∧ _ ∧ _ ∧ _ ∧ _ ∧ _ ∧ _ ∧ _ ∧ _ ∧ _ ∧ _ ∧ _ ∧ _ ∧ _ ∧ _ ∧ _ := ⟨zr HO437 hb, zr HO440 hb, zr HO446 hb, zr HO449 hb, zr HO460 hb, zr HO463 hb, zk BK442 hb, zk BK451 hb, zbs hb, Aside0.mk (hbox), zg HB hg, zg HB hg, zn1 BK442 hg, zn2 BK442 hg, zn1 BK451 hg, zn2 BK451 hg⟩; clear HO437 HO440 HO446 HO449 HO460 HO463 BK442 BK451 HB; obtain ⟨HO437, HO440, HO446, HO449, HO460, HO463, BK442, BK451, HB, BK465, GW465, GE465, NB442_465, NB465_442, NB451_465, NB465_451⟩ := n_; clear hb hbox hg; have hnb37 := NB465_442.out; have hnc37 := NB442_465.out; have hnb38 := NB465_451.out; have hnc38 := NB451_465.out; obtain ⟨z39_0, z39_1, z39_2, y39_0, y39_1, y39_2⟩ := zB3 BK465; obtain ⟨Ao40, co40, eo40⟩ := Kd.R_slice HO460.out; subst eo40; obtain ⟨Ao41, co41, eo41⟩ := Kd.R_slice HO463.out; subst eo41; obtain ⟨z42_0, z42_1, z42_2, y42_0, y42_1, y42_2⟩ := zB3 BK442) | ((with_reducible refine gate_callee (f := 11) rfl ?_); refine goesL_ (some 48) rfl rfl Try.func11 (by kernel_rfl) rfl #[.agg #[.int .i8 t457, .slice Ao40 t458.length co40, .slice Ao41 t461.length co41], .agg #[.int .i8 t434, .slice Ao21 t435.length co21, .slice Ao22 t438.length co22]] rfl zm ?_; (with_reducible refine (laws_eqNetwork.calls k t457 _ _ t458 _ _ t461 t434 _ _ t435 _ _ t438 true _ ?side1 ?side2 ?side3 ?side4 ?side5 ?side6 ?side7 ?side8 A12.out).mono ?_); (case side1 => exact (Kd.R_reads' (zs HO460 BK465).out).2.2); (case side2 => exact (Kd.R_reads' HO460.out).2.1); (case side3 => exact (Kd.R_reads' (zs HO463 BK465).out).2.2); (case side4 => exact (Kd.R_reads' HO463.out).2.1); (case side5 => exact (Kd.R_reads' (zs HO437 BK465).out).2.2); (case side6 => exact (Kd.R_reads' HO437.out).2.1); (case side7 => exact (Kd.R_reads' (zs HO440 BK465).out).2.2); (case side8 => exact (Kd.R_reads' HO440.out).2.1); rintro e w43 ⟨rfl, hb⟩; refine ⟨_, rfl, ?_⟩; have n_ : _ ∧ _ ∧ _ ∧ _ ∧ _ ∧ _ ∧ _ ∧ _ ∧ _ ∧ _ := ⟨zsb HO437 BK465 hb, zsb HO440 BK465 hb, zsb HO446 BK465 hb, zsb HO449 BK465 hb, zsb HO460 BK465 hb, zsb HO463 BK465 hb, zfb BK442 NB442_465 hb, zfb BK451 NB451_465 hb, Aside0.mk (blk_below (g := gb465) (o := .cells #[.int .i8 t457, .slice Ao40 t458.length co40, .slice Ao41 t461.length co41] 29 (0, 0)) (zp BK465) hb), zbs hb⟩; clear HO437 HO440 HO446 HO449 HO460 HO463 BK442 BK451 BK465 HB; obtain ⟨HO437, HO440, HO446, HO449, HO460, HO463, BK442, BK451, BK465, HB⟩ := n_; (try clear hb); (try clear hb2); (try clear hk); (try clear hi); obtain ⟨z44_0, z44_1, z44_2, y44_0, y44_1, y44_2⟩ := zB3 BK451) | ((with_reducible refine gate_callee (f := 13) rfl ?_); refine goesL_ (some 57) rfl rfl Try.func13 (by kernel_rfl) rfl #[.agg #[.int .i8 t443, .slice Ao27 t454.length co27, .slice Ao28 t455.length co28], .int .i64 1] rfl (by (try simp only [List.map_toArray, List.map_cons, List.map_nil]); first | done | (rw [show t454.length = t444.length from (Kd.R_reads' HO446.out).1.symm, show t455.length = t447.length from (Kd.R_reads' HO449.out).1.symm] <;> rfl) | rfl | (simp only [List.length_drop, List.length_take]; rfl)) ?_; (with_reducible refine (laws_heldNetwork.calls k t443 _ _ t454 _ _ t455 1 t467 _ ?side1 ?side2 ?side3 ?side4 A15.out).mono ?_); (case side1 => exact zrc HO446); (case side2 => rw [show t454.length = t444.length from (Kd.R_reads' HO446.out).1.symm]; exact (Kd.R_reads' HO446.out).2.1); (case side3 => exact zrc HO449); (case side4 => rw [show t455.length = t447.length from (Kd.R_reads' HO449.out).1.symm]; exact (Kd.R_reads' HO449.out).2.1); rintro e w45 ⟨rfl, hb⟩; refine ⟨_, rfl, ?_⟩; have n_ : _ ∧ _ ∧ _ ∧ _ ∧ _ ∧ _ ∧ _ ∧ _ ∧ _ ∧ _ := ⟨zr HO437 hb, zr HO440 hb, zr HO446 hb, zr HO449 hb, zr HO460 hb, zr HO463 hb, zk BK442 hb, zk BK451 hb, zk BK465 hb, zbs hb⟩; clear HO437 HO440 HO446 HO449 HO460 HO463 BK442 BK451 BK465 HB; obtain ⟨HO437, HO440, HO446, HO449, HO460, HO463, BK442, BK451, BK465, HB⟩ := n_; (try clear hb); (try clear hb2); (try clear hk); (try clear hi)))
 go_ret
 exact ⟨zv, zbo⟩
/-- THE ONE PURE STATEMENT of laws_FnExactAdderOf: yours. -/
def laws_FnExactAdderOf.Pure : Prop := ∀ (a0 : Int), (Lit.int .i64 a0).wf = true → ∃ k, laws_FnExactAdderOf.f k a0 = some true
theorem laws_FnExactAdderOf.walk (P : laws_FnExactAdderOf.Pure) (a0 : Int) (w : World) (w0 : (Lit.int .i64 a0).wf = true) :
    Calls Try.prog 4 #[.int .i64 a0] w fun e w' => e = .returned (.bool true) ∧ Below w.heap.size w w' := by
 obtain ⟨k, h⟩ := P a0 w0
 refine (laws_FnExactAdderOf.calls k a0 true w h).mono ?_
 rintro e w' ⟨rfl, hd⟩
 exact ⟨rfl, hd⟩
end Go.Proofs.Ytkflenibdijnaaa.PFnExactAdderOf
