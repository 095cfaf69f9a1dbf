-- WRITTEN by xprint.py, a program of this session's. Not trusted: Lean checks it.
-- packed by pack.py
import Derived.Test.YtkflenibdijnaaaPFnAddersx0
import Derived.Test.YtkflenibdijnaaaPFnAddersx1
import Derived.Test.YtkflenibdijnaaaPFnAddersx4
import Derived.Test.YtkflenibdijnaaaTFnAddersa
namespace Go.Proofs.Ytkflenibdijnaaa.PFnAdders
open Go.RowKit Go.Proofs.YtkflenibdijnaaaW.PrintWords Go.Proofs.YtkflenibdijnaaaW.PrintLast Go.Proofs.YtkflenibdijnaaaW.PrintMore Go.Proofs.YtkflenibdijnaaaX
attribute [local go_sem] max2_int min2_int max_two min_two max_three min_three max_four min_four   -- for this text's walks alone
set_option maxHeartbeats 8000000
set_option maxRecDepth 100000
set_option linter.unusedVariables false
set_option linter.unusedSimpArgs false

attribute [local go_sem high] eqA61
mutual
def spec_SameNetwork.j0 : Nat → Bool → Int → List (S61) → List Int → Int → List (S61) → List Int → Option (Bool)
  | 0, _, _, _, _, _, _, _ => none
  | k + 1, x29, x423000, x423001, x423002, x424000, x424001, x424002 => if x29 = true then (some false) else (spec_SameNetwork.l0 k 0 x423000 x423001 x423002 x424000 x424001 x424002)
def spec_SameNetwork.l0 : Nat → Int → Int → List (S61) → List Int → Int → List (S61) → List Int → Option (Bool)
  | 0, _, _, _, _, _, _, _ => none
  | k + 1, x5, x423000, x423001, x423002, x424000, x424001, x424002 => if x5 < (x423001.length : Int) then (if 0 ≤ x5 then (if x5 < (x424001.length : Int) then (if (!(((rd_T61 x423001 x5).f0) == ((rd_T61 x424001 x5).f0)) || (!(((rd_T61 x423001 x5).f1) == ((rd_T61 x424001 x5).f1)) || (!(((rd_T61 x423001 x5).f2) == ((rd_T61 x424001 x5).f2))))) = true then (some false) else (spec_SameNetwork.l0 k (wrap64 (x5 + 1)) x423000 x423001 x423002 x424000 x424001 x424002)) else (none)) else (none)) else (spec_SameNetwork.l1 k 0 x423000 x423001 x423002 x424000 x424001 x424002)
def spec_SameNetwork.l1 : Nat → Int → Int → List (S61) → List Int → Int → List (S61) → List Int → Option (Bool)
  | 0, _, _, _, _, _, _, _ => none
  | k + 1, x6, x423000, x423001, x423002, x424000, x424001, x424002 => if x6 < (x423002.length : Int) then (if 0 ≤ x6 then (if x6 < (x424002.length : Int) then (if (rd x423002 x6) = (rd x424002 x6) then (spec_SameNetwork.l1 k (wrap64 (x6 + 1)) x423000 x423001 x423002 x424000 x424001 x424002) else (some false)) else (none)) else (none)) else (some true)
end
def spec_SameNetwork.f (k : Nat) (a0_0 : Int) (l0_1 : List (S61)) (l0_2 : List Int) (a1_0 : Int) (l1_1 : List (S61)) (l1_2 : List Int) : Option (Bool) := if a0_0 = a1_0 then (if (l0_1.length : Int) = (l1_1.length : Int) then (spec_SameNetwork.j0 k ((l0_2.length : Int) != (l1_2.length : Int)) a0_0 l0_1 l0_2 a1_0 l1_1 l1_2) else (spec_SameNetwork.j0 k true a0_0 l0_1 l0_2 a1_0 l1_1 l1_2)) else (spec_SameNetwork.j0 k true a0_0 l0_1 l0_2 a1_0 l1_1 l1_2)
theorem spec_SameNetwork.mono_l : ∀ k, (∀ y0 y1 y2 y3 y4 y5 y6, LeO (spec_SameNetwork.j0 k y0 y1 y2 y3 y4 y5 y6) (spec_SameNetwork.j0 (k + 1) y0 y1 y2 y3 y4 y5 y6)) ∧ (∀ y0 y1 y2 y3 y4 y5 y6, LeO (spec_SameNetwork.l0 k y0 y1 y2 y3 y4 y5 y6) (spec_SameNetwork.l0 (k + 1) y0 y1 y2 y3 y4 y5 y6)) ∧ (∀ y0 y1 y2 y3 y4 y5 y6, LeO (spec_SameNetwork.l1 k y0 y1 y2 y3 y4 y5 y6) (spec_SameNetwork.l1 (k + 1) y0 y1 y2 y3 y4 y5 y6))
  | 0 => ⟨fun _ _ _ _ _ _ _ r h => by simp [spec_SameNetwork.j0] at h, fun _ _ _ _ _ _ _ r h => by simp [spec_SameNetwork.l0] at h, fun _ _ _ _ _ _ _ r h => by simp [spec_SameNetwork.l1] at h⟩
  | k + 1 => by
    obtain ⟨ih0, ih1, ih2⟩ := spec_SameNetwork.mono_l k
    refine ⟨?_, ?_, ?_⟩
    · intro y0 y1 y2 y3 y4 y5 y6
      unfold spec_SameNetwork.j0
      repeat' first | (with_reducible first | apply ih0 | apply ih1 | apply ih2 | exact LeO.refl _ | exact LeO.none _ | refine LeO.ite ?_ ?_ | refine LeO.bind ?_ (fun _ => ?_)) | apply ih0 | apply ih1 | apply ih2 | exact LeO.none _ | refine LeO.ite ?_ ?_ | refine LeO.bind ?_ (fun _ => ?_)
    · intro y0 y1 y2 y3 y4 y5 y6
      unfold spec_SameNetwork.l0
      repeat' first | (with_reducible first | apply ih0 | apply ih1 | apply ih2 | exact LeO.refl _ | exact LeO.none _ | refine LeO.ite ?_ ?_ | refine LeO.bind ?_ (fun _ => ?_)) | apply ih0 | apply ih1 | apply ih2 | exact LeO.none _ | refine LeO.ite ?_ ?_ | refine LeO.bind ?_ (fun _ => ?_)
    · intro y0 y1 y2 y3 y4 y5 y6
      unfold spec_SameNetwork.l1
      repeat' first | (with_reducible first | apply ih0 | apply ih1 | apply ih2 | exact LeO.refl _ | exact LeO.none _ | refine LeO.ite ?_ ?_ | refine LeO.bind ?_ (fun _ => ?_)) | apply ih0 | apply ih1 | apply ih2 | exact LeO.none _ | refine LeO.ite ?_ ?_ | refine LeO.bind ?_ (fun _ => ?_)
theorem spec_SameNetwork.mono : ∀ a0 a1 a2 a3 a4 a5 k, LeO (spec_SameNetwork.f k a0 a1 a2 a3 a4 a5) (spec_SameNetwork.f (k + 1) a0 a1 a2 a3 a4 a5) := by
 intro a0 a1 a2 a3 a4 a5 k
 obtain ⟨ih0, ih1, ih2⟩ := spec_SameNetwork.mono_l k
 unfold spec_SameNetwork.f
 repeat' first | (with_reducible first | apply ih0 | apply ih1 | apply ih2 | exact LeO.refl _ | exact LeO.none _ | refine LeO.ite ?_ ?_ | refine LeO.bind ?_ (fun _ => ?_)) | apply ih0 | apply ih1 | apply ih2 | exact LeO.none _ | refine LeO.ite ?_ ?_ | refine LeO.bind ?_ (fun _ => ?_)
theorem spec_SameNetwork.calls (k : Nat) (a0_0 : Int) (A0_1 : Option Addr) (c0_1 : Nat) (l0_1 : List (S61)) (A0_2 : Option Addr) (c0_2 : Nat) (l0_2 : List Int) (a1_0 : Int) (A1_1 : Option Addr) (c1_1 : Nat) (l1_1 : List (S61)) (A1_2 : Option Addr) (c1_2 : Nat) (l1_2 : List Int) (r : Bool) (w : World) (hr0_1 : Kd.C k61 w A0_1 l0_1.length l0_1) (hc0_1 : l0_1.length ≤ c0_1) (hr0_2 : Kd.C (Kd.int .i16) w A0_2 l0_2.length l0_2) (hc0_2 : l0_2.length ≤ c0_2) (hr1_1 : Kd.C k61 w A1_1 l1_1.length l1_1) (hc1_1 : l1_1.length ≤ c1_1) (hr1_2 : Kd.C (Kd.int .i16) w A1_2 l1_2.length l1_2) (hc1_2 : l1_2.length ≤ c1_2) (h : spec_SameNetwork.f k a0_0 l0_1 l0_2 a1_0 l1_1 l1_2 = some r) :
    Calls Try.prog 9 #[.agg #[.int .i8 a0_0, .slice A0_1 l0_1.length c0_1, .slice A0_2 l0_2.length c0_2], .agg #[.int .i8 a1_0, .slice A1_1 l1_1.length c1_1, .slice A1_2 l1_2.length c1_2]] w fun e w' => e = .returned (.bool r) ∧ Below w.heap.size w w' := by
 have hu29 := Try.underlying29
 have hu61 := Try.underlying61
 have HR0_1 := Aside0.mk hr0_1
 have HC0_1 := Aside0.mk hc0_1
 clear hr0_1 hc0_1
 have HR0_2 := Aside0.mk hr0_2
 have HC0_2 := Aside0.mk hc0_2
 clear hr0_2 hc0_2
 have HR1_1 := Aside0.mk hr1_1
 have HC1_1 := Aside0.mk hc1_1
 clear hr1_1 hc1_1
 have HR1_2 := Aside0.mk hr1_2
 have HC1_2 := Aside0.mk hc1_2
 clear hr1_2 hc1_2
 have HB := Aside0.mk (Below.refl w.heap.size w)
 have H : (if a0_0 = a1_0 then (if (l0_1.length : Int) = (l1_1.length : Int) then (spec_SameNetwork.j0 k ((l0_2.length : Int) != (l1_2.length : Int)) a0_0 l0_1 l0_2 a1_0 l1_1 l1_2) else (spec_SameNetwork.j0 k true a0_0 l0_1 l0_2 a1_0 l1_1 l1_2)) else (spec_SameNetwork.j0 k true a0_0 l0_1 l0_2 a1_0 l1_1 l1_2)) = some r := h
 clear h
 have HC3 := Aside0.mk H
 clear H
 go_enter Try.func9, Try.ntmps9
 go_upto_region 1 with (first | ((with_reducible refine gate_dst (N := 2) rfl ?_); (try (refine gate_guard (by rfl) ?_; dsimp only)); refine zbx 2 #[.int .i8 a0_0, .slice A0_1 l0_1.length c0_1, .slice A0_2 l0_2.length c0_2] 29 ?_; intro gb422 hg w4 hbox hb; have n_ : _ ∧ _ ∧ _ ∧ _ := ⟨zb HB hb, Aside0.mk (hbox), zg HB hg, zg HB hg⟩; clear HB; obtain ⟨HB, BK422, GW422, GE422⟩ := n_; clear hb hbox hg) | ((with_reducible refine gate_dst (N := 3) rfl ?_); (try (refine gate_guard (by rfl) ?_; dsimp only)); refine zbx 3 #[.int .i8 a1_0, .slice A1_1 l1_1.length c1_1, .slice A1_2 l1_2.length c1_2] 29 ?_; intro gb423 hg w5 hbox hb; have n_ : _ ∧ _ ∧ _ ∧ _ ∧ _ ∧ _ ∧ _ := ⟨zk BK422 hb, zbs hb, Aside0.mk (hbox), zg HB hg, zg HB hg, zn1 BK422 hg, zn2 BK422 hg⟩; clear BK422 HB; obtain ⟨BK422, HB, BK423, GW423, GE423, NB422_423, NB423_422⟩ := n_; clear hb hbox hg))
 repeat (go_quiet (first | ((with_reducible refine gate_dst (N := 2) rfl ?_); (try (refine gate_guard (by rfl) ?_; dsimp only)); refine zbx 2 #[.int .i8 a0_0, .slice A0_1 l0_1.length c0_1, .slice A0_2 l0_2.length c0_2] 29 ?_; intro gb422 hg w4 hbox hb; have n0_ := zb HB hb; have n1_ := Aside0.mk (hbox); have n2_ := zg HB hg; have n3_ := zg HB hg; clear HB; have HB := n0_; have BK422 := n1_; have GW422 := n2_; have GE422 := n3_; clear n0_ n1_ n2_ n3_; clear hb hbox hg) | ((with_reducible refine gate_dst (N := 3) rfl ?_); (try (refine gate_guard (by rfl) ?_; dsimp only)); refine zbx 3 #[.int .i8 a1_0, .slice A1_1 l1_1.length c1_1, .slice A1_2 l1_2.length c1_2] 29 ?_; intro gb423 hg w5 hbox hb; have n0_ := zk BK422 hb; have n1_ := zbs hb; have n2_ := Aside0.mk (hbox); have n3_ := zg HB hg; have n4_ := zg HB hg; have n5_ := zn1 BK422 hg; have n6_ := zn2 BK422 hg; clear BK422; clear HB; have BK422 := n0_; have HB := n1_; have BK423 := n2_; have GW423 := n3_; have GE423 := n4_; have NB422_423 := n5_; have NB423_422 := n6_; clear n0_ n1_ n2_ n3_ n4_ n5_ n6_; clear hb hbox hg)); go_upto_region 1 with (first | ((with_reducible refine gate_dst (N := 2) rfl ?_); (try (refine gate_guard (by rfl) ?_; dsimp only)); refine zbx 2 #[.int .i8 a0_0, .slice A0_1 l0_1.length c0_1, .slice A0_2 l0_2.length c0_2] 29 ?_; intro gb422 hg w4 hbox hb; have n0_ := zb HB hb; have n1_ := Aside0.mk (hbox); have n2_ := zg HB hg; have n3_ := zg HB hg; clear HB; have HB := n0_; have BK422 := n1_; have GW422 := n2_; have GE422 := n3_; clear n0_ n1_ n2_ n3_; clear hb hbox hg) | ((with_reducible refine gate_dst (N := 3) rfl ?_); (try (refine gate_guard (by rfl) ?_; dsimp only)); refine zbx 3 #[.int .i8 a1_0, .slice A1_1 l1_1.length c1_1, .slice A1_2 l1_2.length c1_2] 29 ?_; intro gb423 hg w5 hbox hb; have n0_ := zk BK422 hb; have n1_ := zbs hb; have n2_ := Aside0.mk (hbox); have n3_ := zg HB hg; have n4_ := zg HB hg; have n5_ := zn1 BK422 hg; have n6_ := zn2 BK422 hg; clear BK422; clear HB; have BK422 := n0_; have HB := n1_; have BK423 := n2_; have GW423 := n3_; have GE423 := n4_; have NB422_423 := n5_; have NB423_422 := n6_; clear n0_ n1_ n2_ n3_ n4_ n5_ n6_; clear hb hbox hg)))
 (try simp only [Act.put, List.setIfInBounds_toArray, List.set_cons_zero, List.set_cons_succ])
 go_cut [29] (fun v29 wc => ∃ (kq : Nat) (x29_2 : Bool), v29 = .bool x29_2 ∧ Aside0 (spec_SameNetwork.j0 kq x29_2 a0_0 l0_1 l0_2 a1_0 l1_1 l1_2 = some r) ∧ Aside0 (kq ≤ k) ∧ Aside0 (wc.heap[gb422]? = some (.cells #[.int .i8 a0_0, (.slice A0_1 l0_1.length c0_1), (.slice A0_2 l0_2.length c0_2)] 29 (0, 0))) ∧ Aside0 (wc.heap[gb423]? = some (.cells #[.int .i8 a1_0, (.slice A1_1 l1_1.length c1_1), (.slice A1_2 l1_2.length c1_2)] 29 (0, 0))) ∧ Aside0 (Below w.heap.size w wc))
 case first =>
  have H := HC3.out
  clear HC3
  by_cases c6 : a0_0 = a1_0
  rotate_left
  ·rw [if_neg c6] at H
   have c6b0 : (a0_0 == a1_0) = false := beq_eq_false_iff_ne.mpr c6
   have c6b1 : (a0_0 != a1_0) = true := bne_iff_ne.mpr c6
   (first | rw [c6b0] | (simp only [i64_w, i32_w]; rw [c6b0]) | (have h_ := c6b0; simp only [bne] at h_; rw [h_]) | skip)
   have H' := Aside0.mk H
   clear H
   have hnb14 := NB422_423.out
   have hnc14 := NB423_422.out
   obtain ⟨z15_0, z15_1, z15_2, y15_0, y15_1, y15_2⟩ := zB3 BK422
   obtain ⟨z16_0, z16_1, z16_2, y16_0, y16_1, y16_2⟩ := zB3 BK423
   go_wp2
   repeat (go_quiet (fail); try go_wp2)
   go_meet
   case rel => exact ⟨_, (true), zi, H', ⟨by first | omega | exact Nat.le_refl _⟩, zh BK422, zh BK423, zba⟩
  rw [if_pos c6] at H
  have c6b0 : (a0_0 == a1_0) = true := beq_iff_eq.mpr c6
  have c6b1 : (a0_0 != a1_0) = false := bne_eq_false_iff_eq.mpr c6
  clear c6
  (first | rw [c6b0] | (simp only [i64_w, i32_w]; rw [c6b0]) | (have h_ := c6b0; simp only [bne] at h_; rw [h_]) | skip)
  by_cases c7 : (l0_1.length : Int) = (l1_1.length : Int)
  rotate_left
  ·rw [if_neg c7] at H
   have c7b0 : ((l0_1.length : Int) == (l1_1.length : Int)) = false := beq_eq_false_iff_ne.mpr c7
   have c7b1 : ((l0_1.length : Int) != (l1_1.length : Int)) = true := bne_iff_ne.mpr c7
   have c7b2 : (l0_1.length == l1_1.length) = false := by first | simpa using c7 | (simp at c7 ⊢; omega)
   have H' := Aside0.mk H
   clear H
   have hnb11 := NB422_423.out
   have hnc11 := NB423_422.out
   obtain ⟨z12_0, z12_1, z12_2, y12_0, y12_1, y12_2⟩ := zB3 BK422
   obtain ⟨z13_0, z13_1, z13_2, y13_0, y13_1, y13_2⟩ := zB3 BK423
   go_wp2
   repeat (go_quiet (fail); try go_wp2)
   go_meet
   case rel => exact ⟨_, (true), zi, H', ⟨by first | omega | exact Nat.le_refl _⟩, zh BK422, zh BK423, zba⟩
  rw [if_pos c7] at H
  have c7b0 : ((l0_1.length : Int) == (l1_1.length : Int)) = true := beq_iff_eq.mpr c7
  have c7b1 : ((l0_1.length : Int) != (l1_1.length : Int)) = false := bne_eq_false_iff_eq.mpr c7
  have c7b2 : (l0_1.length == l1_1.length) = true := by first | simpa using c7 | (simp at c7 ⊢; omega)
  clear c7
  have H' := Aside0.mk H
  clear H
  have hnb8 := NB422_423.out
  have hnc8 := NB423_422.out
  obtain ⟨z9_0, z9_1, z9_2, y9_0, y9_1, y9_2⟩ := zB3 BK422
  obtain ⟨z10_0, z10_1, z10_2, y10_0, y10_1, y10_2⟩ := zB3 BK423
  go_wp2
  repeat (go_quiet (fail); try go_wp2)
  go_meet
  case rel => exact ⟨_, (((l0_2.length : Int) != (l1_2.length : Int))), zi, H', ⟨by first | omega | exact Nat.le_refl _⟩, zh BK422, zh BK423, zba⟩
 clear HC3
 try clear c1
 try clear p2
 try clear c6
 try clear c6b0
 try clear c6b1
 try clear c7
 try clear c7b0
 try clear c7b1
 try clear c7b2
 try clear c8
 try clear c9
 try clear c11
 try clear c14
 try clear z10_0 z10_1 z10_2
 try clear z12_0 z12_1 z12_2
 try clear z13_0 z13_1 z13_2
 try clear z15_0 z15_1 z15_2
 try clear z16_0 z16_1 z16_2
 try clear z9_0 z9_1 z9_2
 try clear y10_0
 try clear y10_1
 try clear y10_2
 try clear y12_0
 try clear y12_1
 try clear y12_2
 try clear y13_0
 try clear y13_1
 try clear y13_2
 try clear y15_0
 try clear y15_1
 try clear y15_2
 try clear y16_0
 try clear y16_1
 try clear y16_2
 try clear y9_0
 try clear y9_1
 try clear y9_2
 obtain ⟨kq, x29_2, rfl, HA, HJ2, BK422, BK423, HB⟩ := hcut
 cases kq with
 | zero => exact absurd HA.out (by simp [spec_SameNetwork.j0])
 | succ kj2 => ?_
 have H := HA.out
 clear HA
 simp only [spec_SameNetwork.j0] at H
 by_cases c17 : x29_2 = true
 ·subst c17
  have H1 : (some false) = some r := by rw [if_pos rfl] at H; exact H
  clear H
  have H := H1
  clear H1
  obtain rfl := Option.some.inj H
  go_wp2
  repeat (go_quiet (fail); try go_wp2)
  go_ret
  exact ⟨zv, zbo⟩
 replace c17 := Bool.eq_false_iff.mpr c17
 subst c17
 have H1 : (spec_SameNetwork.l0 kj2 0 a0_0 l0_1 l0_2 a1_0 l1_1 l1_2) = some r := by rw [if_neg (show ¬ (false = true) by decide)] at H; exact H
 clear H
 have H := H1
 clear H1
 have H' := Aside0.mk H
 clear H
 go_wp2
 repeat (go_quiet (fail); try go_wp2)
 go_loopg [5] kj2 (fun kq v5 w' => ∃ (x5_2 : Int), v5 = .int .i64 x5_2 ∧ Aside0 (spec_SameNetwork.l0 kq x5_2 a0_0 l0_1 l0_2 a1_0 l1_1 l1_2 = some r) ∧ Aside0 (kq ≤ kj2) ∧ Aside0 (w'.heap[gb422]? = some (.cells #[.int .i8 a0_0, (.slice A0_1 l0_1.length c0_1), (.slice A0_2 l0_2.length c0_2)] 29 (0, 0))) ∧ Aside0 (w'.heap[gb423]? = some (.cells #[.int .i8 a1_0, (.slice A1_1 l1_1.length c1_1), (.slice A1_2 l1_2.length c1_2)] 29 (0, 0))) ∧ Aside0 (Below w.heap.size w w'))
 case atStart => exact ⟨(0), zi, H', ⟨Nat.le_refl _⟩, zh BK422, zh BK423, zba⟩
 clear H'
 try clear c1
 try clear p2
 try clear c6
 try clear c6b0
 try clear c6b1
 try clear c7
 try clear c7b0
 try clear c7b1
 try clear c7b2
 try clear c8
 try clear c9
 try clear c11
 try clear c14
 try clear c17
 try clear z10_0 z10_1 z10_2
 try clear z12_0 z12_1 z12_2
 try clear z13_0 z13_1 z13_2
 try clear z15_0 z15_1 z15_2
 try clear z16_0 z16_1 z16_2
 try clear z9_0 z9_1 z9_2
 try clear y10_0
 try clear y10_1
 try clear y10_2
 try clear y12_0
 try clear y12_1
 try clear y12_2
 try clear y13_0
 try clear y13_1
 try clear y13_2
 try clear y15_0
 try clear y15_1
 try clear y15_2
 try clear y16_0
 try clear y16_1
 try clear y16_2
 try clear y9_0
 try clear y9_1
 try clear y9_2
 try clear p2
 obtain ⟨x5_2, rfl, HA, HK2, BK422, BK423, HB⟩ := hrel
 cases gk with
 | zero => exact absurd HA.out (by simp [spec_SameNetwork.l0])
 | succ k2 => ?_
 have H := HA.out
 clear HA
 simp only [spec_SameNetwork.l0] at H
 by_cases c18 : x5_2 < (l0_1.length : Int)
 ·rw [if_pos c18] at H
  have c18b0 : decide (x5_2 < (l0_1.length : Int)) = true := decide_eq_true c18
  clear c18
  by_cases c19 : 0 ≤ x5_2
  rotate_left
  ·rw [if_neg c19] at H
   exact absurd H (by simp)
  rw [if_pos c19] at H
  have c19b0 : decide (0 ≤ x5_2) = true := decide_eq_true c19
  clear c19
  by_cases c20 : x5_2 < (l1_1.length : Int)
  rotate_left
  ·rw [if_neg c20] at H
   exact absurd H (by simp)
  rw [if_pos c20] at H
  have c20b0 : decide (x5_2 < (l1_1.length : Int)) = true := decide_eq_true c20
  clear c20
  by_cases c21 : (!(((rd_T61 l0_1 x5_2).f0) == ((rd_T61 l1_1 x5_2).f0)) || (!(((rd_T61 l0_1 x5_2).f1) == ((rd_T61 l1_1 x5_2).f1)) || (!(((rd_T61 l0_1 x5_2).f2) == ((rd_T61 l1_1 x5_2).f2))))) = true
  rotate_left
  ·rw [if_neg c21] at H
   have c21b0 : (!(((rd_T61 l0_1 x5_2).f0) == ((rd_T61 l1_1 x5_2).f0)) || (!(((rd_T61 l0_1 x5_2).f1) == ((rd_T61 l1_1 x5_2).f1)) || (!(((rd_T61 l0_1 x5_2).f2) == ((rd_T61 l1_1 x5_2).f2))))) = false := by simpa using c21
   clear c21
   have H' := Aside0.mk H
   clear H
   have hnb25 := NB422_423.out
   have hnc25 := NB423_422.out
   obtain ⟨z26_0, z26_1, z26_2, y26_0, y26_1, y26_2⟩ := zB3 BK422
   have p424 : 0 ≤ (x5_2 : Int) := of_decide_eq_true zA
   have q424 : x5_2 < (l0_1.length : Int) := of_decide_eq_true zA
   obtain ⟨ad424, e424, hx424_0, hx424_1, hx424_2⟩ := at_T61 HR0_1.out x5_2 p424 q424
   cases e424
   replace hx424_0 := zc HB hx424_0
   replace hx424_1 := zc HB hx424_1
   replace hx424_2 := zc HB hx424_2
   replace p424 := eq_true p424
   replace q424 := eq_true q424
   obtain ⟨z27_0, z27_1, z27_2, y27_0, y27_1, y27_2⟩ := zB3 BK423
   have p425 : 0 ≤ (x5_2 : Int) := of_decide_eq_true zA
   have q425 : x5_2 < (l1_1.length : Int) := of_decide_eq_true zA
   obtain ⟨ad425, e425, hx425_0, hx425_1, hx425_2⟩ := at_T61 HR1_1.out x5_2 p425 q425
   cases e425
   replace hx425_0 := zc HB hx425_0
   replace hx425_1 := zc HB hx425_1
   replace hx425_2 := zc HB hx425_2
   replace p425 := eq_true p425
   replace q425 := eq_true q425
   go_wp2
   repeat (go_quiet (fail); try go_wp2)
   go_roundg k2
   case measure => have := HJ2.out; have := HK2.out; omega
   case rel => exact ⟨(wrap64 (x5_2 + 1)), zi, H', ⟨by have := HJ2.out; have := HK2.out; omega⟩, zh BK422, zh BK423, zba⟩
  rw [if_pos c21] at H
  have c21b0 : (!(((rd_T61 l0_1 x5_2).f0) == ((rd_T61 l1_1 x5_2).f0)) || (!(((rd_T61 l0_1 x5_2).f1) == ((rd_T61 l1_1 x5_2).f1)) || (!(((rd_T61 l0_1 x5_2).f2) == ((rd_T61 l1_1 x5_2).f2))))) = true := c21
  clear c21
  obtain rfl := Option.some.inj H
  have hnb22 := NB422_423.out
  have hnc22 := NB423_422.out
  obtain ⟨z23_0, z23_1, z23_2, y23_0, y23_1, y23_2⟩ := zB3 BK422
  have p424 : 0 ≤ (x5_2 : Int) := of_decide_eq_true zA
  have q424 : x5_2 < (l0_1.length : Int) := of_decide_eq_true zA
  obtain ⟨ad424, e424, hx424_0, hx424_1, hx424_2⟩ := at_T61 HR0_1.out x5_2 p424 q424
  cases e424
  replace hx424_0 := zc HB hx424_0
  replace hx424_1 := zc HB hx424_1
  replace hx424_2 := zc HB hx424_2
  replace p424 := eq_true p424
  replace q424 := eq_true q424
  obtain ⟨z24_0, z24_1, z24_2, y24_0, y24_1, y24_2⟩ := zB3 BK423
  have p425 : 0 ≤ (x5_2 : Int) := of_decide_eq_true zA
  have q425 : x5_2 < (l1_1.length : Int) := of_decide_eq_true zA
  obtain ⟨ad425, e425, hx425_0, hx425_1, hx425_2⟩ := at_T61 HR1_1.out x5_2 p425 q425
  cases e425
  replace hx425_0 := zc HB hx425_0
  replace hx425_1 := zc HB hx425_1
  replace hx425_2 := zc HB hx425_2
  replace p425 := eq_true p425
  replace q425 := eq_true q425
  go_wp2
  repeat (go_quiet (fail); try go_wp2)
  go_ret
  exact ⟨zv, zbo⟩
 rw [if_neg c18] at H
 have c18b0 : decide (x5_2 < (l0_1.length : Int)) = false := decide_eq_false c18
 clear c18
 have H' := Aside0.mk H
 clear H
 have hnb28 := NB422_423.out
 have hnc28 := NB423_422.out
 obtain ⟨z29_0, z29_1, z29_2, y29_0, y29_1, y29_2⟩ := zB3 BK422
 go_wp2
 repeat (go_quiet (fail); try go_wp2)
 go_loopg [6] k2 (fun kq v6 w' => ∃ (x6_3 : Int), v6 = .int .i64 x6_3 ∧ Aside0 (spec_SameNetwork.l1 kq x6_3 a0_0 l0_1 l0_2 a1_0 l1_1 l1_2 = some r) ∧ Aside0 (kq ≤ k2) ∧ Aside0 (w'.heap[gb422]? = some (.cells #[.int .i8 a0_0, (.slice A0_1 l0_1.length c0_1), (.slice A0_2 l0_2.length c0_2)] 29 (0, 0))) ∧ Aside0 (w'.heap[gb423]? = some (.cells #[.int .i8 a1_0, (.slice A1_1 l1_1.length c1_1), (.slice A1_2 l1_2.length c1_2)] 29 (0, 0))) ∧ Aside0 (Below w.heap.size w w'))
 case atStart => exact ⟨(0), zi, H', ⟨Nat.le_refl _⟩, zh BK422, zh BK423, zba⟩
 clear H'
 try clear c1
 try clear c2
 try clear p2
 try clear p4
 try clear q4
 try clear hx4
 try clear c6
 try clear c6b0
 try clear c6b1
 try clear p6
 try clear c7
 try clear c7b0
 try clear c7b1
 try clear c7b2
 try clear c8
 try clear c9
 try clear c11
 try clear c14
 try clear c17
 try clear c18
 try clear c18b0
 try clear c19
 try clear c19b0
 try clear c20
 try clear c20b0
 try clear c21
 try clear c21b0
 try clear c22
 try clear c25
 try clear c28
 try clear z10_0 z10_1 z10_2
 try clear z12_0 z12_1 z12_2
 try clear z13_0 z13_1 z13_2
 try clear z15_0 z15_1 z15_2
 try clear z16_0 z16_1 z16_2
 try clear z23_0 z23_1 z23_2
 try clear z24_0 z24_1 z24_2
 try clear z26_0 z26_1 z26_2
 try clear z27_0 z27_1 z27_2
 try clear z29_0 z29_1 z29_2
 try clear z9_0 z9_1 z9_2
 try clear y10_0
 try clear y10_1
 try clear y10_2
 try clear y12_0
 try clear y12_1
 try clear y12_2
 try clear y13_0
 try clear y13_1
 try clear y13_2
 try clear y15_0
 try clear y15_1
 try clear y15_2
 try clear y16_0
 try clear y16_1
 try clear y16_2
 try clear y23_0
 try clear y23_1
 try clear y23_2
 try clear y24_0
 try clear y24_1
 try clear y24_2
 try clear y26_0
 try clear y26_1
 try clear y26_2
 try clear y27_0
 try clear y27_1
 try clear y27_2
 try clear y29_0
 try clear y29_1
 try clear y29_2
 try clear y9_0
 try clear y9_1
 try clear y9_2
 try clear hx424_0
 try clear hx424_1
 try clear hx424_2
 try clear hx425_0
 try clear hx425_1
 try clear hx425_2
 try clear p2
 try clear p424
 try clear p425
 try clear q424
 try clear q425
 obtain ⟨x6_3, rfl, HA, HK3, BK422, BK423, HB⟩ := hrel
 cases gk with
 | zero => exact absurd HA.out (by simp [spec_SameNetwork.l1])
 | succ k3 => ?_
 have H := HA.out
 clear HA
 simp only [spec_SameNetwork.l1] at H
 by_cases c30 : x6_3 < (l0_2.length : Int)
 rotate_left
 ·rw [if_neg c30] at H
  have c30b0 : decide (x6_3 < (l0_2.length : Int)) = false := decide_eq_false c30
  clear c30
  obtain rfl := Option.some.inj H
  have hnb40 := NB422_423.out
  have hnc40 := NB423_422.out
  obtain ⟨z41_0, z41_1, z41_2, y41_0, y41_1, y41_2⟩ := zB3 BK422
  go_wp2
  repeat (go_quiet (fail); try go_wp2)
  go_ret
  exact ⟨zv, zbo⟩
 rw [if_pos c30] at H
 have c30b0 : decide (x6_3 < (l0_2.length : Int)) = true := decide_eq_true c30
 clear c30
 by_cases c31 : 0 ≤ x6_3
 rotate_left
 ·rw [if_neg c31] at H
  exact absurd H (by simp)
 rw [if_pos c31] at H
 have c31b0 : decide (0 ≤ x6_3) = true := decide_eq_true c31
 clear c31
 by_cases c32 : x6_3 < (l1_2.length : Int)
 rotate_left
 ·rw [if_neg c32] at H
  exact absurd H (by simp)
 rw [if_pos c32] at H
 have c32b0 : decide (x6_3 < (l1_2.length : Int)) = true := decide_eq_true c32
 clear c32
 by_cases c33 : (rd l0_2 x6_3) = (rd l1_2 x6_3)
 rotate_left
 ·rw [if_neg c33] at H
  have c33b0 : ((rd l0_2 x6_3) == (rd l1_2 x6_3)) = false := beq_eq_false_iff_ne.mpr c33
  have c33b1 : ((rd l0_2 x6_3) != (rd l1_2 x6_3)) = true := bne_iff_ne.mpr c33
  obtain rfl := Option.some.inj H
  have hnb37 := NB422_423.out
  have hnc37 := NB423_422.out
  obtain ⟨z38_0, z38_1, z38_2, y38_0, y38_1, y38_2⟩ := zB3 BK422
  have p426 : 0 ≤ (x6_3 : Int) := of_decide_eq_true zA
  have q426 : x6_3 < (l0_2.length : Int) := of_decide_eq_true zA
  obtain ⟨ad426, e426, hx426_0⟩ := Kd.at_int HR0_2.out x6_3 p426 q426
  cases e426
  replace hx426_0 := zc HB hx426_0
  replace p426 := eq_true p426
  replace q426 := eq_true q426
  obtain ⟨z39_0, z39_1, z39_2, y39_0, y39_1, y39_2⟩ := zB3 BK423
  have p427 : 0 ≤ (x6_3 : Int) := of_decide_eq_true zA
  have q427 : x6_3 < (l1_2.length : Int) := of_decide_eq_true zA
  obtain ⟨ad427, e427, hx427_0⟩ := Kd.at_int HR1_2.out x6_3 p427 q427
  cases e427
  replace hx427_0 := zc HB hx427_0
  replace p427 := eq_true p427
  replace q427 := eq_true q427
  go_wp2
  repeat (go_quiet (fail); try go_wp2)
  go_ret
  exact ⟨zv, zbo⟩
 rw [if_pos c33] at H
 have c33b0 : ((rd l0_2 x6_3) == (rd l1_2 x6_3)) = true := beq_iff_eq.mpr c33
 have c33b1 : ((rd l0_2 x6_3) != (rd l1_2 x6_3)) = false := bne_eq_false_iff_eq.mpr c33
 clear c33
 have H' := Aside0.mk H
 clear H
 have hnb34 := NB422_423.out
 have hnc34 := NB423_422.out
 obtain ⟨z35_0, z35_1, z35_2, y35_0, y35_1, y35_2⟩ := zB3 BK422
 have p426 : 0 ≤ (x6_3 : Int) := of_decide_eq_true zA
 have q426 : x6_3 < (l0_2.length : Int) := of_decide_eq_true zA
 obtain ⟨ad426, e426, hx426_0⟩ := Kd.at_int HR0_2.out x6_3 p426 q426
 cases e426
 replace hx426_0 := zc HB hx426_0
 replace p426 := eq_true p426
 replace q426 := eq_true q426
 obtain ⟨z36_0, z36_1, z36_2, y36_0, y36_1, y36_2⟩ := zB3 BK423
 have p427 : 0 ≤ (x6_3 : Int) := of_decide_eq_true zA
 have q427 : x6_3 < (l1_2.length : Int) := of_decide_eq_true zA
 obtain ⟨ad427, e427, hx427_0⟩ := Kd.at_int HR1_2.out x6_3 p427 q427
 cases e427
 replace hx427_0 := zc HB hx427_0
 replace p427 := eq_true p427
 replace q427 := eq_true q427
 go_wp2
 repeat (go_quiet (fail); try go_wp2)
 go_roundg k3
 case measure => have := HJ2.out; have := HK2.out; have := HK3.out; omega
 case rel => exact ⟨(wrap64 (x6_3 + 1)), zi, H', ⟨by have := HJ2.out; have := HK2.out; have := HK3.out; omega⟩, zh BK422, zh BK423, zba⟩
def impl_Network_outputTables.l0 : Nat → List Int → List Int → List Int → Int → Int → Option (List Int)
  | 0, _, _, _, _, _ => none
  | k + 1, x3, x4, x13, x14, x15 => if x15 < x14 then (if 0 ≤ x15 then (if x15 < (x13.length : Int) then (if 0 ≤ (rd x13 x15) then (if (rd x13 x15) < (x3.length : Int) then (if x4.length < 17592186044416 then (impl_Network_outputTables.l0 k x3 (x4 ++ [rd x3 (rd x13 x15)]) x13 x14 (wrap64 (x15 + 1))) else (none)) else (none)) else (none)) else (none)) else (none)) else (some x4)
def impl_Network_outputTables.f (k : Nat) (l0 : List (S29)) : Option (List Int) := (impl_Network_tables.f k l0).bind fun t428 => (if 0 < (l0.length : Int) then (impl_Network_outputTables.l0 k t428 (([] : List Int)) ((rd_T29 l0 0).f2) (((rd_T29 l0 0).f2).length : Int) 0) else (none))
theorem impl_Network_outputTables.mono_l : ∀ k, (∀ y0 y1 y2 y3 y4, LeO (impl_Network_outputTables.l0 k y0 y1 y2 y3 y4) (impl_Network_outputTables.l0 (k + 1) y0 y1 y2 y3 y4))
  | 0 => fun _ _ _ _ _ r h => by simp [impl_Network_outputTables.l0] at h
  | k + 1 => by
    have ih0 := impl_Network_outputTables.mono_l k
    · intro y0 y1 y2 y3 y4
      unfold impl_Network_outputTables.l0
      repeat' first | (with_reducible first | apply ih0 | apply impl_Network_tables.mono | exact LeO.refl _ | exact LeO.none _ | refine LeO.ite ?_ ?_ | refine LeO.bind ?_ (fun _ => ?_)) | apply ih0 | apply impl_Network_tables.mono | exact LeO.none _ | refine LeO.ite ?_ ?_ | refine LeO.bind ?_ (fun _ => ?_)
theorem impl_Network_outputTables.mono : ∀ a0 k, LeO (impl_Network_outputTables.f k a0) (impl_Network_outputTables.f (k + 1) a0) := by
 intro a0 k
 have ih0 := impl_Network_outputTables.mono_l k
 unfold impl_Network_outputTables.f
 repeat' first | (with_reducible first | apply ih0 | apply impl_Network_tables.mono | exact LeO.refl _ | exact LeO.none _ | refine LeO.ite ?_ ?_ | refine LeO.bind ?_ (fun _ => ?_)) | apply ih0 | apply impl_Network_tables.mono | exact LeO.none _ | refine LeO.ite ?_ ?_ | refine LeO.bind ?_ (fun _ => ?_)
theorem impl_Network_outputTables.calls (k : Nat) (adp0 : Addr) (l0 : List (S29)) (r : List Int) (w : World) (hr0 : Kd.C k29 w (some adp0) l0.length l0) (h : impl_Network_outputTables.f k l0 = some r) :
    Calls Try.prog 31 #[.pointer (some adp0)] w fun e w' => ∃ v0_ : Value, e = .returned (v0_) ∧ Kd.R (Kd.int .u64) 66 w' w.heap.size (fun _ => True) v0_ r ∧ Below w.heap.size w w' := by
 have HR0 := Aside0.mk hr0
 clear hr0
 have HB := Aside0.mk (Below.refl w.heap.size w)
 have H : ((impl_Network_tables.f k l0).bind fun t428 => (if 0 < (l0.length : Int) then (impl_Network_outputTables.l0 k t428 (([] : List Int)) ((rd_T29 l0 0).f2) (((rd_T29 l0 0).f2).length : Int) 0) else (none))) = some r := h
 clear h
 replace H := zob H
 obtain ⟨t428, A20, H⟩ := H
 replace H : (if 0 < (l0.length : Int) then (impl_Network_outputTables.l0 k t428 (([] : List Int)) ((rd_T29 l0 0).f2) (((rd_T29 l0 0).f2).length : Int) 0) else (none)) = some r := H
 have A2 := Aside0.mk A20
 clear A20
 obtain ⟨y431, hy431⟩ : ∃ y_ : List Int, y_ = (([] : List Int)) := ⟨_, rfl⟩
 replace H : (if 0 < (l0.length : Int) then (impl_Network_outputTables.l0 k t428 y431 ((rd_T29 l0 0).f2) (((rd_T29 l0 0).f2).length : Int) 0) else (none)) = some r := by first | (rw [hy431]; with_reducible exact H) | (have H2_ := (Option.bind_some _ _).symm.trans H; rw [hy431]; with_reducible exact H2_) | (have H2_ := (Option.bind_some _ _).symm.trans H; with_reducible exact H2_) | with_reducible exact H | (rw [hy431]; exact H) | exact H
 have Ny431 := Aside0.mk hy431
 clear hy431
 by_cases c3 : 0 < (l0.length : Int)
 rotate_left
 ·rw [if_neg c3] at H
  exact absurd H (by simp)
 rw [if_pos c3] at H
 have c3b0 : decide (0 < (l0.length : Int)) = true := decide_eq_true c3
 have c3b1 : decide (0 < l0.length) = true := decide_eq_true (by omega)
 clear c3
 have H' := Aside0.mk H
 clear H
 go_enter Try.func31, Try.ntmps31
 go_wp2_with (first | ((with_reducible refine gate_callee (f := 49) rfl ?_); refine goesL_ (some 8) rfl rfl Try.func49 (by kernel_rfl) rfl #[.pointer (some adp0)] rfl zm ?_; (with_reducible refine (impl_Network_tables.calls k _ l0 t428 _ ?side1 A2.out).mono ?_); (case side1 => repeat (first | exact HR0.out | (with_reducible refine Kd.C_alloc ?_ _) | (with_reducible refine Kd.C_drewN ?_ _) | (with_reducible refine Kd.C_drew ?_))); rintro e w4 ⟨v429, rfl, ho0, hb⟩; refine ⟨_, rfl, ?_⟩; have n_ : _ ∧ _ := ⟨Aside0.mk (Kd.R_lower ho0 (zz HB)), zb HB hb⟩; clear HB; obtain ⟨HO430, HB⟩ := n_; (try clear hb); (try clear hb2); (try clear hk); (try clear hi); (try clear ho0)) | ((with_reducible refine gate_dst (N := 9) rfl ?_); refine Kd.R_lit (Kd.int .u64) _ 66 ?hg (N := 9) ?hd (xs := ([] : List Int)) (inner := []) (ok := fun _ => True) (okp := fun _ => True) ?hr ?hp (fun _ hk => hk) trivial (Below.refl _ _) (Nat.le_refl _) (by simp) ?_; (case hd => rfl); (case hg => rfl); (case hr => exact zgs); (case hp => exact (Reps.none _ _)); intro v432 w5 ho6 hb hg_ hnew_; clear hg_ hnew_; (first | rw [← Ny431.out] at ho6 | (simp only [Int.reduceToNat] at ho6; rw [← Ny431.out] at ho6)); have n_ : _ ∧ _ ∧ _ := ⟨Aside0.mk (Kd.R_elder' (ze HO430).out (Kd.R_base ho6) hb), Aside0.mk (Kd.R_lower (Kd.R_new' ho6 (Kd.R_lt (ze HO430).out)) (zz HB)), zb HB hb⟩; clear HO430 HB; obtain ⟨HO430, HO433, HB⟩ := n_; clear hb ho6; have p434 : 0 ≤ (0 : Int) := (by omega); have q434 : 0 < (l0.length : Int) := of_decide_eq_true zA; obtain ⟨ad434, A434_1, c434_1, A434_2, c434_2, e434, hx434_0, hx434_1, hx434_2, hl434_1, hi434_1, hl434_2, hi434_2⟩ := at_T29 HR0.out 0 p434 q434; obtain rfl : adp0 = ad434 := (by injection e434); have qi434 : (0 < l0.length) = True := eq_true (by omega); (try simp only [z00, Nat.zero_mul, Addr.add_zero'] at hx434_0 hx434_1 hx434_2); replace hx434_0 := zc HB hx434_0; replace hx434_1 := zc HB hx434_1; replace hx434_2 := zc HB hx434_2; have HR434_1 := Aside0.mk hi434_1; have HC434_1 := Aside0.mk hl434_1; clear hi434_1 hl434_1; have HR434_2 := Aside0.mk hi434_2; have HC434_2 := Aside0.mk hl434_2; clear hi434_2 hl434_2; replace p434 := eq_true p434; replace q434 := eq_true q434))
 go_loopg [4, 15] k (fun kq v4 v15 w' => ∃ (x4_1 : List Int) (x15_1 : Int), v15 = .int .i64 x15_1 ∧ Aside0 (impl_Network_outputTables.l0 kq t428 x4_1 ((rd_T29 l0 0).f2) (((rd_T29 l0 0).f2).length : Int) x15_1 = some r) ∧ Aside0 (kq ≤ k) ∧ Aside0 (Kd.R (Kd.int .u64) 66 w' w.heap.size (fun k_ => some k_ ≠ (v4 : Value).ownBlock) v429 t428) ∧ Aside0 (Kd.R (Kd.int .u64) 66 w' w.heap.size (fun k_ => some k_ ≠ (v429 : Value).ownBlock) v4 x4_1) ∧ Aside0 (Below w.heap.size w w'))
 case atStart => exact ⟨(y431), (0), zi, H', ⟨Nat.le_refl _⟩, ⟨by (with_reducible repeat (first | apply Kd.R_alloc | apply Kd.R_drewN | apply Kd.R_drew)); exact Kd.R_mono HO430.out (fun _ hk => hk.2)⟩, ⟨by (with_reducible repeat (first | apply Kd.R_alloc | apply Kd.R_drewN | apply Kd.R_drew)); exact Kd.R_mono HO433.out (fun _ hk => hk.2)⟩, zl HB⟩
 clear H'
 try clear p2
 try clear c3
 try clear c3b0
 try clear c3b1
 try clear c4
 try clear p4
 try clear q4
 try clear hx4
 try clear qi4
 try clear hx434_0
 try clear hx434_1
 try clear hx434_2
 try clear p434
 try clear q434
 obtain ⟨x4_1, x15_1, rfl, HA, HK1, HO_3, HO_4, HB⟩ := hrel
 cases gk with
 | zero => exact absurd HA.out (by simp [impl_Network_outputTables.l0])
 | succ k1 => ?_
 have H := HA.out
 clear HA
 simp only [impl_Network_outputTables.l0] at H
 by_cases c7 : x15_1 < (((rd_T29 l0 0).f2).length : Int)
 rotate_left
 ·rw [if_neg c7] at H
  have c7b0 : decide (x15_1 < (((rd_T29 l0 0).f2).length : Int)) = false := decide_eq_false c7
  clear c7
  obtain rfl := Option.some.inj H
  go_wp2
  go_ret
  exact ⟨_, zv, by (with_reducible repeat (first | apply Kd.R_alloc | apply Kd.R_drewN | apply Kd.R_drew)); exact Kd.R_mono HO_4.out (fun _ hk => trivial), zbo⟩
 rw [if_pos c7] at H
 have c7b0 : decide (x15_1 < (((rd_T29 l0 0).f2).length : Int)) = true := decide_eq_true c7
 clear c7
 by_cases c8 : 0 ≤ x15_1
 rotate_left
 ·rw [if_neg c8] at H
  exact absurd H (by simp)
 rw [if_pos c8] at H
 have c8b0 : decide (0 ≤ x15_1) = true := decide_eq_true c8
 clear c8
 by_cases c9 : x15_1 < (((rd_T29 l0 0).f2).length : Int)
 rotate_left
 ·rw [if_neg c9] at H
  exact absurd H (by simp)
 rw [if_pos c9] at H
 have c9b0 : decide (x15_1 < (((rd_T29 l0 0).f2).length : Int)) = true := decide_eq_true c9
 clear c9
 by_cases c10 : 0 ≤ (rd ((rd_T29 l0 0).f2) x15_1)
 rotate_left
 ·rw [if_neg c10] at H
  exact absurd H (by simp)
 rw [if_pos c10] at H
 have c10b0 : decide (0 ≤ (rd ((rd_T29 l0 0).f2) x15_1)) = true := decide_eq_true c10
 clear c10
 by_cases c11 : (rd ((rd_T29 l0 0).f2) x15_1) < (t428.length : Int)
 rotate_left
 ·rw [if_neg c11] at H
  exact absurd H (by simp)
 rw [if_pos c11] at H
 have c11b0 : decide ((rd ((rd_T29 l0 0).f2) x15_1) < (t428.length : Int)) = true := decide_eq_true c11
 clear c11
 by_cases c12 : x4_1.length < 17592186044416
 rotate_left
 ·rw [if_neg c12] at H
  exact absurd H (by simp)
 rw [if_pos c12] at H
 have LMc12 := Aside0.mk c12
 clear c12
 obtain ⟨y437, hy437⟩ : ∃ y_ : List Int, y_ = (x4_1 ++ [rd t428 (rd ((rd_T29 l0 0).f2) x15_1)]) := ⟨_, rfl⟩
 replace H : (impl_Network_outputTables.l0 k1 t428 y437 ((rd_T29 l0 0).f2) (((rd_T29 l0 0).f2).length : Int) (wrap64 (x15_1 + 1))) = some r := by first | (rw [hy437]; with_reducible exact H) | (have H2_ := (Option.bind_some _ _).symm.trans H; rw [hy437]; with_reducible exact H2_) | (have H2_ := (Option.bind_some _ _).symm.trans H; with_reducible exact H2_) | with_reducible exact H | (rw [hy437]; exact H) | exact H
 have Ny437 := Aside0.mk hy437
 clear hy437
 have H' := Aside0.mk H
 clear H
 have p435 : 0 ≤ (x15_1 : Int) := of_decide_eq_true zA
 have q435 : x15_1 < (((rd_T29 l0 0).f2).length : Int) := of_decide_eq_true zA
 obtain ⟨ad435, e435, hx435_0⟩ := Kd.at_int HR434_2.out x15_1 p435 q435
 cases e435
 replace hx435_0 := zc HB hx435_0
 replace p435 := eq_true p435
 replace q435 := eq_true q435
 obtain ⟨Ao13, co13, eo13⟩ := Kd.R_slice HO_3.out
 subst eo13
 have p436 : 0 ≤ ((rd ((rd_T29 l0 0).f2) x15_1) : Int) := of_decide_eq_true zA
 have q436 : (rd ((rd_T29 l0 0).f2) x15_1) < (t428.length : Int) := of_decide_eq_true zA
 obtain ⟨ad436, e436, hx436_0⟩ := Kd.at_int (Kd.R_reads' HO_3.out).2.2 (rd ((rd_T29 l0 0).f2) x15_1) p436 q436
 cases e436
 replace p436 := eq_true p436
 replace q436 := eq_true q436
 go_wp2_with (first | ((with_reducible refine gate_builtin (b := .append) (xs := #[.tmp 19, .tmp 24]) rfl ?_); at_builtin; refine Kd.R_append (Kd.int .u64) (w0 := w) w.heap.size rfl (.tmp 19) (.tmp 24) 64 66 (.int .u64 0) 8 rfl Try.underlying64 info66 rfl (by decide) (by omega) u4 x4_1 (rd t428 (rd ((rd_T29 l0 0).f2) x15_1)) [.int .u64 (rd t428 (rd ((rd_T29 l0 0).f2) x15_1))] (fun k_ => some k_ ≠ (.slice (some ad436) t428.length co13 : Value).ownBlock) (fun _ => False) rfl rfl ?aP (fun _ hk => hk.elim) ?aF ?aO ?aB ?aS ?aL ?_; (case aP => exact rfl); (case aB => exact (zl HB).out); (case aF => exact (fun k_ hk => Kd.fresh' (Kd.R_lt (ze HO_3).out) k_ hk)); (case aO => exact (ze HO_4).out); (case aS => exact (zz HB)); (case aL => have := LMc12.out; omega); intro v438 w14 ho hb hg hat; rw [← Ny437.out] at ho; have n_ : _ ∧ _ ∧ _ := ⟨Aside0.mk (Kd.R_after (ok := (fun _ => True)) (by (with_reducible repeat (first | apply Kd.R_alloc | apply Kd.R_drewN | apply Kd.R_drew)); exact Kd.R_mono HO_3.out (fun _ hk => ⟨trivial, hk⟩)) hg hat), Aside0.mk (hb), Aside0.mk (ho)⟩; clear HO_3 HB HO_4; obtain ⟨HO_3, HB, HO439⟩ := n_; clear ho hb hg hat))
 go_roundg k1
 case measure => have := HK1.out; omega
 case rel => exact ⟨(y437), (wrap64 (x15_1 + 1)), zi, H', ⟨by have := HK1.out; omega⟩, ⟨by (with_reducible repeat (first | apply Kd.R_alloc | apply Kd.R_drewN | apply Kd.R_drew)); exact Kd.R_mono HO_3.out (fun _ hk => hk.2)⟩, ze HO439, zl HB⟩
def impl_bit_uint64.f (a0 : Int) (a1 : Int) : Option (Bool) := if 0 ≤ a1 then (some ((Go.bits .and .u64 (shr .u64 a0 a1) 1) == 1)) else (none)
theorem impl_bit_uint64.calls (a0 : Int) (a1 : Int) (r : Bool) (w : World) (h : impl_bit_uint64.f a0 a1 = some r) :
    Calls Try.prog 32 #[.int .u64 a0, .int .i64 a1] w fun e w' => e = .returned (.bool r) ∧ Drawn0 w w' := by
 have H : (if 0 ≤ a1 then (some ((Go.bits .and .u64 (shr .u64 a0 a1) 1) == 1)) else (none)) = some r := h
 clear h
 by_cases c3 : 0 ≤ a1
 rotate_left
 ·rw [if_neg c3] at H
  exact absurd H (by simp)
 rw [if_pos c3] at H
 have c3b0 := eq_true c3
 have c3b1 : decide (0 ≤ a1) = true := decide_eq_true c3
 clear c3
 obtain ⟨ji4, hji4⟩ : ∃ j_ : Int, (shr .u64 a0 a1) = j_ := ⟨_, rfl⟩
 replace H : (some ((Go.bits .and .u64 (ji4) 1) == 1)) = some r := by first | (rw [hji4] at H; exact H) | (simp only [hji4] at H ⊢; exact H)
 have hji4_ : (a0 / 2 ^ min a1.toNat 64) = ji4 := hji4
 have hji4z : a1 ≤ 64 → (a0 / 2 ^ a1.toNat) = ji4 := shr_small hji4
 obtain rfl := Option.some.inj H
 go_enter Try.func32, Try.ntmps32
 go_wp2
 go_ret
 exact ⟨by first | rfl | (simp; done) | (simp only [← hji4] <;> (first | rfl | simp)) | (simp [*]; done) | (exact congrArg (Value.int .i64) (wrap_eq (by omega))), zdr⟩
end Go.Proofs.Ytkflenibdijnaaa.PFnAdders
