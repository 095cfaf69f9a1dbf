-- WRITTEN by xprint.py, a program of this session's. Not trusted: Lean checks it.
-- packed by pack.py
import Derived.Test.YtkflenibdijnaaaPFnAddersx0
import Derived.Test.YtkflenibdijnaaaPFnAddersx2
import Derived.Test.YtkflenibdijnaaaTFnAddersa
namespace Go.Proofs.Ytkflenibdijnaaa.PFnAdders
open Go.RowKit Go.Proofs.YtkflenibdijnaaaW.PrintWords Go.Proofs.YtkflenibdijnaaaW.PrintLast Go.Proofs.YtkflenibdijnaaaW.PrintMore Go.Proofs.YtkflenibdijnaaaX
attribute [local go_sem] max2_int min2_int max_two min_two max_three min_three max_four min_four   -- for this text's walks alone
set_option maxHeartbeats 8000000
set_option maxRecDepth 100000
set_option linter.unusedVariables false
set_option linter.unusedSimpArgs false

mutual
def impl_ValidNetwork.j0 : Nat → Bool → Int → List (S61) → List Int → Option (Bool)
  | 0, _, _, _, _ => none
  | k + 1, x23, x134000, x134001, x134002 => if x23 = true then (some false) else (impl_ValidNetwork.l0 k x134001 (x134001.length : Int) 0 x134000 x134001 x134002)
def impl_ValidNetwork.l0 : Nat → List (S61) → Int → Int → Int → List (S61) → List Int → Option (Bool)
  | 0, _, _, _, _, _, _ => none
  | k + 1, x25, x26, x27, x134000, x134001, x134002 => if x27 < x26 then (if 0 ≤ x27 then (if x27 < (x25.length : Int) then ((impl_Node_ok.f k ((rd_T61 x25 x27).f0) ((rd_T61 x25 x27).f1) ((rd_T61 x25 x27).f2) (wrap64 (x134000)) x27).bind fun t139 => (if t139 = true then (impl_ValidNetwork.l0 k x25 x26 (wrap64 (x27 + 1)) x134000 x134001 x134002) else (some false))) else (none)) else (none)) else ((slices_ContainsFunc__impl_ValidNetwork_1.f k x134002 [(⟨x134000, x134001, x134002⟩ : S29)]).bind fun t140 => (some (!t140)))
end
def impl_ValidNetwork.f (k : Nat) (a0_0 : Int) (l0_1 : List (S61)) (l0_2 : List Int) : Option (Bool) := (impl_in.f (wrap64 (a0_0)) 1 6).bind fun t134 => (if t134 = true then ((impl_in.f (l0_1.length : Int) 1 80).bind fun t135 => (if t135 = true then ((impl_in.f (l0_2.length : Int) 1 8).bind fun t136 => (impl_ValidNetwork.j0 k (!t136) a0_0 l0_1 l0_2)) else (impl_ValidNetwork.j0 k true a0_0 l0_1 l0_2))) else (impl_ValidNetwork.j0 k true a0_0 l0_1 l0_2))
theorem impl_ValidNetwork.mono_l : ∀ k, (∀ y0 y1 y2 y3, LeO (impl_ValidNetwork.j0 k y0 y1 y2 y3) (impl_ValidNetwork.j0 (k + 1) y0 y1 y2 y3)) ∧ (∀ y0 y1 y2 y3 y4 y5, LeO (impl_ValidNetwork.l0 k y0 y1 y2 y3 y4 y5) (impl_ValidNetwork.l0 (k + 1) y0 y1 y2 y3 y4 y5))
  | 0 => ⟨fun _ _ _ _ r h => by simp [impl_ValidNetwork.j0] at h, fun _ _ _ _ _ _ r h => by simp [impl_ValidNetwork.l0] at h⟩
  | k + 1 => by
    obtain ⟨ih0, ih1⟩ := impl_ValidNetwork.mono_l k
    refine ⟨?_, ?_⟩
    · intro y0 y1 y2 y3
      unfold impl_ValidNetwork.j0
      repeat' first | (with_reducible first | apply ih0 | apply ih1 | apply impl_Node_ok.mono | apply slices_ContainsFunc__impl_ValidNetwork_1.mono | exact LeO.refl _ | exact LeO.none _ | refine LeO.ite ?_ ?_ | refine LeO.bind ?_ (fun _ => ?_)) | apply ih0 | apply ih1 | apply impl_Node_ok.mono | apply slices_ContainsFunc__impl_ValidNetwork_1.mono | exact LeO.none _ | refine LeO.ite ?_ ?_ | refine LeO.bind ?_ (fun _ => ?_)
    · intro y0 y1 y2 y3 y4 y5
      unfold impl_ValidNetwork.l0
      repeat' first | (with_reducible first | apply ih0 | apply ih1 | apply impl_Node_ok.mono | apply slices_ContainsFunc__impl_ValidNetwork_1.mono | exact LeO.refl _ | exact LeO.none _ | refine LeO.ite ?_ ?_ | refine LeO.bind ?_ (fun _ => ?_)) | apply ih0 | apply ih1 | apply impl_Node_ok.mono | apply slices_ContainsFunc__impl_ValidNetwork_1.mono | exact LeO.none _ | refine LeO.ite ?_ ?_ | refine LeO.bind ?_ (fun _ => ?_)
theorem impl_ValidNetwork.mono : ∀ a0 a1 a2 k, LeO (impl_ValidNetwork.f k a0 a1 a2) (impl_ValidNetwork.f (k + 1) a0 a1 a2) := by
 intro a0 a1 a2 k
 obtain ⟨ih0, ih1⟩ := impl_ValidNetwork.mono_l k
 unfold impl_ValidNetwork.f
 repeat' first | (with_reducible first | apply ih0 | apply ih1 | apply impl_Node_ok.mono | apply slices_ContainsFunc__impl_ValidNetwork_1.mono | exact LeO.refl _ | exact LeO.none _ | refine LeO.ite ?_ ?_ | refine LeO.bind ?_ (fun _ => ?_)) | apply ih0 | apply ih1 | apply impl_Node_ok.mono | apply slices_ContainsFunc__impl_ValidNetwork_1.mono | exact LeO.none _ | refine LeO.ite ?_ ?_ | refine LeO.bind ?_ (fun _ => ?_)
theorem impl_ValidNetwork.calls (k : Nat) (a0_0 : Int) (A0_1 : Option Addr) (c0_1 : Nat) (l0_1 : List (S61)) (A0_2 : Option Addr) (c0_2 : Nat) (l0_2 : List Int) (r : Bool) (w : World) (hr0_1 : Kd.C k61 w A0_1 l0_1.length l0_1) (hc0_1 : l0_1.length ≤ c0_1) (hr0_2 : Kd.C (Kd.int .i16) w A0_2 l0_2.length l0_2) (hc0_2 : l0_2.length ≤ c0_2) (h : impl_ValidNetwork.f k a0_0 l0_1 l0_2 = some r) :
    Calls Try.prog 29 #[.agg #[.int .i8 a0_0, .slice A0_1 l0_1.length c0_1, .slice A0_2 l0_2.length c0_2]] w fun e w' => e = .returned (.bool r) ∧ Below w.heap.size w w' := by
 have hu29 := Try.underlying29
 have hu61 := Try.underlying61
 have HR0_1 := Aside0.mk hr0_1
 have HC0_1 := Aside0.mk hc0_1
 clear hr0_1 hc0_1
 have HR0_2 := Aside0.mk hr0_2
 have HC0_2 := Aside0.mk hc0_2
 clear hr0_2 hc0_2
 have HB := Aside0.mk (Below.refl w.heap.size w)
 have H : ((impl_in.f (wrap64 (a0_0)) 1 6).bind fun t134 => (if t134 = true then ((impl_in.f (l0_1.length : Int) 1 80).bind fun t135 => (if t135 = true then ((impl_in.f (l0_2.length : Int) 1 8).bind fun t136 => (impl_ValidNetwork.j0 k (!t136) a0_0 l0_1 l0_2)) else (impl_ValidNetwork.j0 k true a0_0 l0_1 l0_2))) else (impl_ValidNetwork.j0 k true a0_0 l0_1 l0_2))) = some r := h
 clear h
 have HC2 := Aside0.mk H
 clear H
 go_enter Try.func29, Try.ntmps29
 go_upto_region 1 with (first | ((with_reducible refine gate_dst (N := 1) rfl ?_); (try (refine gate_guard (by rfl) ?_; dsimp only)); refine zbx 1 #[.int .i8 a0_0, .slice A0_1 l0_1.length c0_1, .slice A0_2 l0_2.length c0_2] 29 ?_; intro gb133 hg w3 hbox hb; have n_ : _ ∧ _ ∧ _ ∧ _ := ⟨zb HB hb, Aside0.mk (hbox), zg HB hg, zg HB hg⟩; clear HB; obtain ⟨HB, BK133, GW133, GE133⟩ := n_; clear hb hbox hg))
 (try simp only [Act.put, List.setIfInBounds_toArray, List.set_cons_zero, List.set_cons_succ])
 go_cut [23] (fun v23 wc => ∃ (kq : Nat) (x23_1 : Bool), v23 = .bool x23_1 ∧ Aside0 (impl_ValidNetwork.j0 kq x23_1 a0_0 l0_1 l0_2 = some r) ∧ Aside0 (kq ≤ k) ∧ Aside0 (wc.heap[gb133]? = some (.cells #[.int .i8 a0_0, (.slice A0_1 l0_1.length c0_1), (.slice A0_2 l0_2.length c0_2)] 29 (0, 0))) ∧ Aside0 (Below w.heap.size w wc))
 case first =>
  have H := HC2.out
  clear HC2
  replace H := zob H
  obtain ⟨t134, A40, H⟩ := H
  replace H : (if t134 = true then ((impl_in.f (l0_1.length : Int) 1 80).bind fun t135 => (if t135 = true then ((impl_in.f (l0_2.length : Int) 1 8).bind fun t136 => (impl_ValidNetwork.j0 k (!t136) a0_0 l0_1 l0_2)) else (impl_ValidNetwork.j0 k true a0_0 l0_1 l0_2))) else (impl_ValidNetwork.j0 k true a0_0 l0_1 l0_2)) = some r := H
  have A4 := Aside0.mk A40
  clear A40
  by_cases c5 : t134 = true
  rotate_left
  ·replace c5 := Bool.eq_false_iff.mpr c5
   subst c5
   have H1 : (impl_ValidNetwork.j0 k true a0_0 l0_1 l0_2) = some r := by rw [if_neg (show ¬ (false = true) by decide)] at H; exact H
   clear H
   have H := H1
   clear H1
   have H' := Aside0.mk H
   clear H
   obtain ⟨z11_0, z11_1, z11_2, y11_0, y11_1, y11_2⟩ := zB3 BK133
   go_wp2_with (first | ((with_reducible refine gate_callee (f := 16) rfl ?_); refine goesL_ (some 8) rfl rfl Try.func16 (by kernel_rfl) rfl #[.int .i64 (wrap64 (a0_0)), .int .i64 1, .int .i64 6] rfl zm ?_; (with_reducible refine (impl_in.calls (wrap64 (a0_0)) 1 6 false _ A4.out).mono ?_); rintro e w' ⟨rfl, ⟨nd, rfl⟩⟩; refine ⟨_, rfl, ?_⟩))
   go_meet
   case rel => exact ⟨_, (true), zi, H', ⟨by first | omega | exact Nat.le_refl _⟩, zh BK133, zba⟩
  subst c5
  have H1 : ((impl_in.f (l0_1.length : Int) 1 80).bind fun t135 => (if t135 = true then ((impl_in.f (l0_2.length : Int) 1 8).bind fun t136 => (impl_ValidNetwork.j0 k (!t136) a0_0 l0_1 l0_2)) else (impl_ValidNetwork.j0 k true a0_0 l0_1 l0_2))) = some r := by rw [if_pos rfl] at H; exact H
  clear H
  have H := H1
  clear H1
  replace H := zob H
  obtain ⟨t135, A60, H⟩ := H
  replace H : (if t135 = true then ((impl_in.f (l0_2.length : Int) 1 8).bind fun t136 => (impl_ValidNetwork.j0 k (!t136) a0_0 l0_1 l0_2)) else (impl_ValidNetwork.j0 k true a0_0 l0_1 l0_2)) = some r := H
  have A6 := Aside0.mk A60
  clear A60
  by_cases c7 : t135 = true
  rotate_left
  ·replace c7 := Bool.eq_false_iff.mpr c7
   subst c7
   have H1 : (impl_ValidNetwork.j0 k true a0_0 l0_1 l0_2) = some r := by rw [if_neg (show ¬ (false = true) by decide)] at H; exact H
   clear H
   have H := H1
   clear H1
   have H' := Aside0.mk H
   clear H
   obtain ⟨z10_0, z10_1, z10_2, y10_0, y10_1, y10_2⟩ := zB3 BK133
   go_wp2_with (first | ((with_reducible refine gate_callee (f := 16) rfl ?_); refine goesL_ (some 8) rfl rfl Try.func16 (by kernel_rfl) rfl #[.int .i64 (wrap64 (a0_0)), .int .i64 1, .int .i64 6] rfl zm ?_; (with_reducible refine (impl_in.calls (wrap64 (a0_0)) 1 6 true _ A4.out).mono ?_); rintro e w' ⟨rfl, ⟨nd, rfl⟩⟩; refine ⟨_, rfl, ?_⟩) | (go_at_call 16; (with_reducible refine (impl_in.calls (l0_1.length : Int) 1 80 false _ A6.out).mono ?_); rintro e w' ⟨rfl, ⟨nd, rfl⟩⟩))
   go_meet
   case rel => exact ⟨_, (true), zi, H', ⟨by first | omega | exact Nat.le_refl _⟩, zh BK133, zba⟩
  subst c7
  have H1 : ((impl_in.f (l0_2.length : Int) 1 8).bind fun t136 => (impl_ValidNetwork.j0 k (!t136) a0_0 l0_1 l0_2)) = some r := by rw [if_pos rfl] at H; exact H
  clear H
  have H := H1
  clear H1
  replace H := zob H
  obtain ⟨t136, A80, H⟩ := H
  replace H : (impl_ValidNetwork.j0 k (!t136) a0_0 l0_1 l0_2) = some r := H
  have A8 := Aside0.mk A80
  clear A80
  have H' := Aside0.mk H
  clear H
  obtain ⟨z9_0, z9_1, z9_2, y9_0, y9_1, y9_2⟩ := zB3 BK133
  go_wp2_with (first | ((with_reducible refine gate_callee (f := 16) rfl ?_); refine goesL_ (some 8) rfl rfl Try.func16 (by kernel_rfl) rfl #[.int .i64 (wrap64 (a0_0)), .int .i64 1, .int .i64 6] rfl zm ?_; (with_reducible refine (impl_in.calls (wrap64 (a0_0)) 1 6 true _ A4.out).mono ?_); rintro e w' ⟨rfl, ⟨nd, rfl⟩⟩; refine ⟨_, rfl, ?_⟩) | (go_at_call 16; (with_reducible refine (impl_in.calls (l0_1.length : Int) 1 80 true _ A6.out).mono ?_); rintro e w' ⟨rfl, ⟨nd, rfl⟩⟩) | (go_at_call 16; (with_reducible refine (impl_in.calls (l0_2.length : Int) 1 8 t136 _ A8.out).mono ?_); rintro e w' ⟨rfl, ⟨nd, rfl⟩⟩))
  go_meet
  case rel => exact ⟨_, (!t136), zi, H', ⟨by first | omega | exact Nat.le_refl _⟩, zh BK133, zba⟩
 clear HC2
 try clear c1
 try clear c2
 try clear p2
 try clear c5
 try clear p6
 try clear c7
 try clear z10_0 z10_1 z10_2
 try clear z11_0 z11_1 z11_2
 try clear z9_0 z9_1 z9_2
 try clear y10_0
 try clear y10_1
 try clear y10_2
 try clear y11_0
 try clear y11_1
 try clear y11_2
 try clear y9_0
 try clear y9_1
 try clear y9_2
 obtain ⟨kq, x23_1, rfl, HA, HJ1, BK133, HB⟩ := hcut
 cases kq with
 | zero => exact absurd HA.out (by simp [impl_ValidNetwork.j0])
 | succ kj1 => ?_
 have H := HA.out
 clear HA
 simp only [impl_ValidNetwork.j0] at H
 by_cases c12 : x23_1 = true
 ·subst c12
  have H1 : (some false) = some r := by rw [if_pos rfl] at H; exact H
  clear H
  have H := H1
  clear H1
  obtain rfl := Option.some.inj H
  go_wp2
  go_ret
  exact ⟨zv, zbo⟩
 replace c12 := Bool.eq_false_iff.mpr c12
 subst c12
 have H1 : (impl_ValidNetwork.l0 kj1 l0_1 (l0_1.length : Int) 0 a0_0 l0_1 l0_2) = some r := by rw [if_neg (show ¬ (false = true) by decide)] at H; exact H
 clear H
 have H := H1
 clear H1
 have H' := Aside0.mk H
 clear H
 obtain ⟨z13_0, z13_1, z13_2, y13_0, y13_1, y13_2⟩ := zB3 BK133
 go_wp2
 go_loopg [27] kj1 (fun kq v27 w' => ∃ (x27_2 : Int), v27 = .int .i64 x27_2 ∧ Aside0 (impl_ValidNetwork.l0 kq l0_1 (l0_1.length : Int) x27_2 a0_0 l0_1 l0_2 = some r) ∧ Aside0 (kq ≤ kj1) ∧ Aside0 (w'.heap[gb133]? = some (.cells #[.int .i8 a0_0, (.slice A0_1 l0_1.length c0_1), (.slice A0_2 l0_2.length c0_2)] 29 (0, 0))) ∧ Aside0 (Below w.heap.size w w'))
 case atStart => exact ⟨(0), zi, H', ⟨Nat.le_refl _⟩, zh BK133, zba⟩
 clear H'
 try clear c1
 try clear c2
 try clear p2
 try clear c5
 try clear p6
 try clear c7
 try clear c12
 try clear z10_0 z10_1 z10_2
 try clear z11_0 z11_1 z11_2
 try clear z13_0 z13_1 z13_2
 try clear z9_0 z9_1 z9_2
 try clear y10_0
 try clear y10_1
 try clear y10_2
 try clear y11_0
 try clear y11_1
 try clear y11_2
 try clear y13_0
 try clear y13_1
 try clear y13_2
 try clear y9_0
 try clear y9_1
 try clear y9_2
 try clear p2
 try clear p6
 obtain ⟨x27_2, rfl, HA, HK2, BK133, HB⟩ := hrel
 cases gk with
 | zero => exact absurd HA.out (by simp [impl_ValidNetwork.l0])
 | succ k2 => ?_
 have H := HA.out
 clear HA
 simp only [impl_ValidNetwork.l0] at H
 by_cases c14 : x27_2 < (l0_1.length : Int)
 rotate_left
 ·rw [if_neg c14] at H
  have c14b0 : decide (x27_2 < (l0_1.length : Int)) = false := decide_eq_false c14
  clear c14
  replace H := zob H
  obtain ⟨t140, A290, H⟩ := H
  replace H : (some (!t140)) = some r := H
  have A29 := Aside0.mk A290
  clear A290
  obtain rfl := Option.some.inj H
  obtain ⟨z30_0, z30_1, z30_2, y30_0, y30_1, y30_2⟩ := zB3 BK133
  go_wp2_with (first | ((with_reducible refine gate_callee (f := 47) rfl ?_); refine goesL_ (some 43) rfl rfl Try.func47 (by kernel_rfl) rfl #[.slice A0_2 l0_2.length c0_2, .func (.func 48) #[] #[.pointer (some ⟨gb133, 0, none⟩)]] rfl zm ?_; (with_reducible refine (slices_ContainsFunc__impl_ValidNetwork_1.calls k2 _ _ l0_2 _ [(⟨a0_0, l0_1, l0_2⟩ : S29)] t140 _ ?side1 ?side2 ?side3 A29.out).mono ?_); (case side1 => exact zcc HB HR0_2.out); (case side2 => exact HC0_2.out); (case side3 => refine ro_of_blk (T := 29) (cs := #[.int .i8 a0_0, .slice A0_1 l0_1.length c0_1, .slice A0_2 l0_2.length c0_2]) (zh BK133).out ?_; exact k29_mk _ (⟨a0_0, l0_1, l0_2⟩ : S29) (by exact HC0_1.out) (by exact zcc HB HR0_1.out) (by exact HC0_2.out) (by exact zcc HB HR0_2.out)); rintro e w' ⟨rfl, ⟨nd, rfl⟩⟩; refine ⟨_, rfl, ?_⟩))
  go_ret
  exact ⟨zv, zbo⟩
 rw [if_pos c14] at H
 have c14b0 : decide (x27_2 < (l0_1.length : Int)) = true := decide_eq_true c14
 clear c14
 by_cases c15 : 0 ≤ x27_2
 rotate_left
 ·rw [if_neg c15] at H
  exact absurd H (by simp)
 rw [if_pos c15] at H
 have c15b0 : decide (0 ≤ x27_2) = true := decide_eq_true c15
 clear c15
 by_cases c16 : x27_2 < (l0_1.length : Int)
 rotate_left
 ·rw [if_neg c16] at H
  exact absurd H (by simp)
 rw [if_pos c16] at H
 have c16b0 : decide (x27_2 < (l0_1.length : Int)) = true := decide_eq_true c16
 clear c16
 replace H := zob H
 obtain ⟨t139, A170, H⟩ := H
 replace H : (if t139 = true then (impl_ValidNetwork.l0 k2 l0_1 (l0_1.length : Int) (wrap64 (x27_2 + 1)) a0_0 l0_1 l0_2) else (some false)) = some r := H
 have A17 := Aside0.mk A170
 clear A170
 by_cases c18 : t139 = true
 ·subst c18
  have H1 : (impl_ValidNetwork.l0 k2 l0_1 (l0_1.length : Int) (wrap64 (x27_2 + 1)) a0_0 l0_1 l0_2) = some r := by rw [if_pos rfl] at H; exact H
  clear H
  have H := H1
  clear H1
  have H' := Aside0.mk H
  clear H
  have p137 : 0 ≤ (x27_2 : Int) := of_decide_eq_true zA
  have q137 : x27_2 < (l0_1.length : Int) := of_decide_eq_true zA
  obtain ⟨ad137, e137, hx137_0, hx137_1, hx137_2⟩ := at_T61 HR0_1.out x27_2 p137 q137
  cases e137
  replace hx137_0 := zc HB hx137_0
  replace hx137_1 := zc HB hx137_1
  replace hx137_2 := zc HB hx137_2
  replace p137 := eq_true p137
  replace q137 := eq_true q137
  go_wp2_with (first | ((with_reducible refine gate_dst (N := 4) rfl ?_); (try (refine gate_guard (by rfl) ?_; dsimp only)); refine zbx 4 #[.int .i8 0, .int .i16 0, .int .i16 0] 61 ?_; intro gb138 hg w19 hbox hb; have n_ : _ ∧ _ ∧ _ ∧ _ ∧ _ ∧ _ ∧ _ := ⟨zk BK133 hb, zbs hb, Aside0.mk (hbox), zg HB hg, zg HB hg, zn1 BK133 hg, zn2 BK133 hg⟩; clear BK133 HB; obtain ⟨BK133, HB, BK138, GW138, GE138, NB133_138, NB138_133⟩ := n_; clear hb hbox hg; have hnb20 := NB138_133.out; have hnc20 := NB133_138.out; obtain ⟨z21_0, z21_1, z21_2, y21_0, y21_1, y21_2⟩ := zB3 BK138; obtain ⟨z22_0, z22_1, z22_2, y22_0, y22_1, y22_2⟩ := zB3 BK133) | ((with_reducible refine gate_callee (f := 46) rfl ?_); refine goesL_ (some 37) rfl rfl Try.func46 (by kernel_rfl) rfl #[.agg #[.int .i8 ((rd_T61 l0_1 x27_2).f0), .int .i16 ((rd_T61 l0_1 x27_2).f1), .int .i16 ((rd_T61 l0_1 x27_2).f2)], .int .i64 (wrap64 (a0_0)), .int .i64 x27_2] rfl zm ?_; (with_reducible refine (impl_Node_ok.calls k2 ((rd_T61 l0_1 x27_2).f0) ((rd_T61 l0_1 x27_2).f1) ((rd_T61 l0_1 x27_2).f2) (wrap64 (a0_0)) x27_2 true _ A17.out).mono ?_); rintro e w23 ⟨rfl, hb⟩; refine ⟨_, rfl, ?_⟩; have n_ : _ ∧ _ ∧ _ := ⟨zfb BK133 NB133_138 hb, Aside0.mk (blk_below (g := gb138) (o := .cells #[.int .i8 ((rd_T61 l0_1 x27_2).f0), .int .i16 ((rd_T61 l0_1 x27_2).f1), .int .i16 ((rd_T61 l0_1 x27_2).f2)] 61 (0, 0)) (zp BK138) hb), zbs hb⟩; clear BK133 BK138 HB; obtain ⟨BK133, BK138, HB⟩ := n_; (try clear hb); (try clear hb2); (try clear hk); (try clear hi)))
  go_roundg k2
  case measure => have := HJ1.out; have := HK2.out; omega
  case rel => exact ⟨(wrap64 (x27_2 + 1)), zi, H', ⟨by have := HJ1.out; have := HK2.out; omega⟩, zh BK133, zba⟩
 replace c18 := Bool.eq_false_iff.mpr c18
 subst c18
 have H1 : (some false) = some r := by rw [if_neg (show ¬ (false = true) by decide)] at H; exact H
 clear H
 have H := H1
 clear H1
 obtain rfl := Option.some.inj H
 have p137 : 0 ≤ (x27_2 : Int) := of_decide_eq_true zA
 have q137 : x27_2 < (l0_1.length : Int) := of_decide_eq_true zA
 obtain ⟨ad137, e137, hx137_0, hx137_1, hx137_2⟩ := at_T61 HR0_1.out x27_2 p137 q137
 cases e137
 replace hx137_0 := zc HB hx137_0
 replace hx137_1 := zc HB hx137_1
 replace hx137_2 := zc HB hx137_2
 replace p137 := eq_true p137
 replace q137 := eq_true q137
 go_wp2_with (first | ((with_reducible refine gate_dst (N := 4) rfl ?_); (try (refine gate_guard (by rfl) ?_; dsimp only)); refine zbx 4 #[.int .i8 0, .int .i16 0, .int .i16 0] 61 ?_; intro gb138 hg w24 hbox hb; have n_ : _ ∧ _ ∧ _ ∧ _ ∧ _ ∧ _ ∧ _ := ⟨zk BK133 hb, zbs hb, Aside0.mk (hbox), zg HB hg, zg HB hg, zn1 BK133 hg, zn2 BK133 hg⟩; clear BK133 HB; obtain ⟨BK133, HB, BK138, GW138, GE138, NB133_138, NB138_133⟩ := n_; clear hb hbox hg; have hnb25 := NB138_133.out; have hnc25 := NB133_138.out; obtain ⟨z26_0, z26_1, z26_2, y26_0, y26_1, y26_2⟩ := zB3 BK138; obtain ⟨z27_0, z27_1, z27_2, y27_0, y27_1, y27_2⟩ := zB3 BK133) | ((with_reducible refine gate_callee (f := 46) rfl ?_); refine goesL_ (some 37) rfl rfl Try.func46 (by kernel_rfl) rfl #[.agg #[.int .i8 ((rd_T61 l0_1 x27_2).f0), .int .i16 ((rd_T61 l0_1 x27_2).f1), .int .i16 ((rd_T61 l0_1 x27_2).f2)], .int .i64 (wrap64 (a0_0)), .int .i64 x27_2] rfl zm ?_; (with_reducible refine (impl_Node_ok.calls k2 ((rd_T61 l0_1 x27_2).f0) ((rd_T61 l0_1 x27_2).f1) ((rd_T61 l0_1 x27_2).f2) (wrap64 (a0_0)) x27_2 false _ A17.out).mono ?_); rintro e w28 ⟨rfl, hb⟩; refine ⟨_, rfl, ?_⟩; have n_ : _ ∧ _ ∧ _ := ⟨zfb BK133 NB133_138 hb, Aside0.mk (blk_below (g := gb138) (o := .cells #[.int .i8 ((rd_T61 l0_1 x27_2).f0), .int .i16 ((rd_T61 l0_1 x27_2).f1), .int .i16 ((rd_T61 l0_1 x27_2).f2)] 61 (0, 0)) (zp BK138) hb), zbs hb⟩; clear BK133 BK138 HB; obtain ⟨BK133, BK138, HB⟩ := n_; (try clear hb); (try clear hb2); (try clear hk); (try clear hi)))
 go_ret
 exact ⟨zv, zbo⟩
def impl_rows.f (a0 : Int) : Option (Int) := if 0 ≤ a0 then (some (shl .i64 1 a0)) else (none)
theorem impl_rows.calls (a0 : Int) (r : Int) (w : World) (h : impl_rows.f a0 = some r) :
    Calls Try.prog 30 #[.int .i64 a0] w fun e w' => e = .returned (.int .i64 r) ∧ Drawn0 w w' := by
 have H : (if 0 ≤ a0 then (some (shl .i64 1 a0)) else (none)) = some r := h
 clear h
 by_cases c2 : 0 ≤ a0
 rotate_left
 ·rw [if_neg c2] at H
  exact absurd H (by simp)
 rw [if_pos c2] at H
 have c2b0 := eq_true c2
 have c2b1 : decide (0 ≤ a0) = true := decide_eq_true c2
 clear c2
 obtain ⟨ji3, hji3⟩ : ∃ j_ : Int, (shl .i64 1 a0) = j_ := ⟨_, rfl⟩
 replace H : (some ji3) = some r := by first | (rw [hji3] at H; exact H) | (simp only [hji3] at H ⊢; exact H)
 have hji3_ : (IntKind.i64.wrap (1 * 2 ^ min a0.toNat 64)) = ji3 := hji3
 have hji3z : a0 ≤ 64 → (IntKind.i64.wrap (1 * 2 ^ a0.toNat)) = ji3 := shl_small hji3
 have hji3u : (IntKind.i64.wrap (2 ^ min a0.toNat 64)) = ji3 := by have h_ := hji3_; rw [Int.one_mul] at h_; exact h_
 have hji3v : a0 ≤ 64 → (IntKind.i64.wrap (2 ^ a0.toNat)) = ji3 := fun hle_ => by have h_ := hji3z hle_; rw [Int.one_mul] at h_; exact h_
 have hji3y : (wrap64 (1 * 2 ^ min a0.toNat 64)) = ji3 := (i64_w _).symm.trans hji3_
 have hji3x : a0 ≤ 64 → (wrap64 (1 * 2 ^ a0.toNat)) = ji3 := fun h_ => (i64_w _).symm.trans (hji3z h_)
 obtain rfl := Option.some.inj H
 go_enter Try.func30, Try.ntmps30
 go_wp2
 go_ret
 exact ⟨by first | rfl | (simp; done) | (simp only [← hji3] <;> (first | rfl | simp)) | (simp [*]; done) | (exact congrArg (Value.int .i64) (wrap_eq (by omega))), zdr⟩
def impl_bit_int64.f (a0 : Int) (a1 : Int) : Option (Bool) := if 0 ≤ a1 then (some ((Go.bits .and .i64 (shr .i64 a0 a1) 1) == 1)) else (none)
theorem impl_bit_int64.calls (a0 : Int) (a1 : Int) (r : Bool) (w : World) (h : impl_bit_int64.f a0 a1 = some r) :
    Calls Try.prog 63 #[.int .i64 a0, .int .i64 a1] w fun e w' => e = .returned (.bool r) ∧ Drawn0 w w' := by
 have H : (if 0 ≤ a1 then (some ((Go.bits .and .i64 (shr .i64 a0 a1) 1) == 1)) else (none)) = some r := h
 clear h
 by_cases c3 : 0 ≤ a1
 rotate_left
 ·rw [if_neg c3] at H
  exact absurd H (by simp)
 rw [if_pos c3] at H
 have c3b0 := eq_true c3
 have c3b1 : decide (0 ≤ a1) = true := decide_eq_true c3
 clear c3
 obtain ⟨ji4, hji4⟩ : ∃ j_ : Int, (shr .i64 a0 a1) = j_ := ⟨_, rfl⟩
 replace H : (some ((Go.bits .and .i64 (ji4) 1) == 1)) = some r := by first | (rw [hji4] at H; exact H) | (simp only [hji4] at H ⊢; exact H)
 have hji4_ : (a0 / 2 ^ min a1.toNat 64) = ji4 := hji4
 have hji4z : a1 ≤ 64 → (a0 / 2 ^ a1.toNat) = ji4 := shr_small hji4
 obtain rfl := Option.some.inj H
 go_enter Try.func63, Try.ntmps63
 go_wp2
 go_ret
 exact ⟨by first | rfl | (simp; done) | (simp only [← hji4] <;> (first | rfl | simp)) | (simp [*]; done) | (exact congrArg (Value.int .i64) (wrap_eq (by omega))), zdr⟩
def impl_inputTable.l0 : Nat → Int → Int → Int → Int → Option (Int)
  | 0, _, _, _, _ => none
  | k + 1, x1, x5, x8, x9 => if x9 < x8 then ((impl_bit_int64.f x9 x1).bind fun t142 => (if t142 = true then (if 0 ≤ x9 then (impl_inputTable.l0 k x1 (Go.bits .or .u64 x5 (shl .u64 1 x9)) x8 (wrap64 (x9 + 1))) else (none)) else (impl_inputTable.l0 k x1 x5 x8 (wrap64 (x9 + 1))))) else (some x5)
def impl_inputTable.f (k : Nat) (a0 : Int) (a1 : Int) : Option (Int) := (impl_rows.f a0).bind fun t141 => (impl_inputTable.l0 k a1 0 t141 0)
theorem impl_inputTable.mono_l : ∀ k, (∀ y0 y1 y2 y3, LeO (impl_inputTable.l0 k y0 y1 y2 y3) (impl_inputTable.l0 (k + 1) y0 y1 y2 y3))
  | 0 => fun _ _ _ _ r h => by simp [impl_inputTable.l0] at h
  | k + 1 => by
    have ih0 := impl_inputTable.mono_l k
    · intro y0 y1 y2 y3
      unfold impl_inputTable.l0
      repeat' first | (with_reducible first | apply ih0 | exact LeO.refl _ | exact LeO.none _ | refine LeO.ite ?_ ?_ | refine LeO.bind ?_ (fun _ => ?_)) | apply ih0 | exact LeO.none _ | refine LeO.ite ?_ ?_ | refine LeO.bind ?_ (fun _ => ?_)
theorem impl_inputTable.mono : ∀ a0 a1 k, LeO (impl_inputTable.f k a0 a1) (impl_inputTable.f (k + 1) a0 a1) := by
 intro a0 a1 k
 have ih0 := impl_inputTable.mono_l k
 unfold impl_inputTable.f
 repeat' first | (with_reducible first | apply ih0 | exact LeO.refl _ | exact LeO.none _ | refine LeO.ite ?_ ?_ | refine LeO.bind ?_ (fun _ => ?_)) | apply ih0 | exact LeO.none _ | refine LeO.ite ?_ ?_ | refine LeO.bind ?_ (fun _ => ?_)
theorem impl_inputTable.calls (k : Nat) (a0 : Int) (a1 : Int) (r : Int) (w : World) (h : impl_inputTable.f k a0 a1 = some r) :
    Calls Try.prog 58 #[.int .i64 a0, .int .i64 a1] w fun e w' => e = .returned (.int .u64 r) ∧ Drawn0 w w' := by
 have H : ((impl_rows.f a0).bind fun t141 => (impl_inputTable.l0 k a1 0 t141 0)) = some r := h
 clear h
 replace H := zob H
 obtain ⟨t141, A30, H⟩ := H
 replace H : (impl_inputTable.l0 k a1 0 t141 0) = some r := H
 have A3 := Aside0.mk A30
 clear A30
 have H' := Aside0.mk H
 clear H
 go_enter Try.func58, Try.ntmps58
 go_wp2_with (first | ((with_reducible refine gate_callee (f := 30) rfl ?_); refine goesL_ (some 8) rfl rfl Try.func30 (by kernel_rfl) rfl #[.int .i64 a0] rfl zm ?_; (with_reducible refine (impl_rows.calls a0 t141 _ A3.out).mono ?_); rintro e w' ⟨rfl, ⟨nd, rfl⟩⟩; refine ⟨_, rfl, ?_⟩))
 go_loopg [5, 9] k (fun kq v5 v9 w' => ∃ (x5_1 : Int) (x9_1 : Int), v5 = .int .u64 x5_1 ∧ v9 = .int .i64 x9_1 ∧ Aside0 (impl_inputTable.l0 kq a1 x5_1 t141 x9_1 = some r) ∧ Aside0 (kq ≤ k) ∧ Drawn0 w w')
 case atStart => exact ⟨(0), (0), zi, zi, H', ⟨Nat.le_refl _⟩, zdr⟩
 clear H'
 try clear p2
 try clear c3
 obtain ⟨x5_1, x9_1, rfl, rfl, HA, HK1, ⟨m1, rfl⟩⟩ := hrel
 cases gk with
 | zero => exact absurd HA.out (by simp [impl_inputTable.l0])
 | succ k1 => ?_
 have H := HA.out
 clear HA
 simp only [impl_inputTable.l0] at H
 by_cases c4 : x9_1 < t141
 rotate_left
 ·rw [if_neg c4] at H
  have c4b0 : decide (x9_1 < t141) = false := decide_eq_false c4
  clear c4
  obtain rfl := Option.some.inj H
  go_wp2
  go_ret
  exact ⟨zi, zdr⟩
 rw [if_pos c4] at H
 have c4b0 : decide (x9_1 < t141) = true := decide_eq_true c4
 clear c4
 replace H := zob H
 obtain ⟨t142, A50, H⟩ := H
 replace H : (if t142 = true then (if 0 ≤ x9_1 then (impl_inputTable.l0 k1 a1 (Go.bits .or .u64 x5_1 (shl .u64 1 x9_1)) t141 (wrap64 (x9_1 + 1))) else (none)) else (impl_inputTable.l0 k1 a1 x5_1 t141 (wrap64 (x9_1 + 1)))) = some r := H
 have A5 := Aside0.mk A50
 clear A50
 by_cases c6 : t142 = true
 rotate_left
 ·replace c6 := Bool.eq_false_iff.mpr c6
  subst c6
  have H1 : (impl_inputTable.l0 k1 a1 x5_1 t141 (wrap64 (x9_1 + 1))) = some r := by rw [if_neg (show ¬ (false = true) by decide)] at H; exact H
  clear H
  have H := H1
  clear H1
  have H' := Aside0.mk H
  clear H
  go_wp2_with (first | ((with_reducible refine gate_callee (f := 63) rfl ?_); refine goesL_ (some 14) rfl rfl Try.func63 (by kernel_rfl) rfl #[.int .i64 x9_1, .int .i64 a1] rfl zm ?_; (with_reducible refine (impl_bit_int64.calls x9_1 a1 false _ A5.out).mono ?_); rintro e w' ⟨rfl, ⟨nd, rfl⟩⟩; refine ⟨_, rfl, ?_⟩))
  go_roundg k1
  case measure => have := HK1.out; omega
  case rel => exact ⟨(x5_1), (wrap64 (x9_1 + 1)), zi, zi, H', ⟨by have := HK1.out; omega⟩, zdr⟩
 subst c6
 have H1 : (if 0 ≤ x9_1 then (impl_inputTable.l0 k1 a1 (Go.bits .or .u64 x5_1 (shl .u64 1 x9_1)) t141 (wrap64 (x9_1 + 1))) else (none)) = some r := by rw [if_pos rfl] at H; exact H
 clear H
 have H := H1
 clear H1
 by_cases c7 : 0 ≤ x9_1
 rotate_left
 ·rw [if_neg c7] at H
  exact absurd H (by simp)
 rw [if_pos c7] at H
 have c7b0 := eq_true c7
 have c7b1 : decide (0 ≤ x9_1) = true := decide_eq_true c7
 clear c7
 obtain ⟨ji8, hji8⟩ : ∃ j_ : Int, (shl .u64 1 x9_1) = j_ := ⟨_, rfl⟩
 replace H : (impl_inputTable.l0 k1 a1 (Go.bits .or .u64 x5_1 (ji8)) t141 (wrap64 (x9_1 + 1))) = some r := by first | (rw [hji8] at H; exact H) | (simp only [hji8] at H ⊢; exact H)
 (try rw [hji8] at A5)
 have hji8_ : (IntKind.u64.wrap (1 * 2 ^ min x9_1.toNat 64)) = ji8 := hji8
 have hji8z : x9_1 ≤ 64 → (IntKind.u64.wrap (1 * 2 ^ x9_1.toNat)) = ji8 := shl_small hji8
 have hji8u : (IntKind.u64.wrap (2 ^ min x9_1.toNat 64)) = ji8 := by have h_ := hji8_; rw [Int.one_mul] at h_; exact h_
 have hji8v : x9_1 ≤ 64 → (IntKind.u64.wrap (2 ^ x9_1.toNat)) = ji8 := fun hle_ => by have h_ := hji8z hle_; rw [Int.one_mul] at h_; exact h_
 have H' := Aside0.mk H
 clear H
 go_wp2_with (first | ((with_reducible refine gate_callee (f := 63) rfl ?_); refine goesL_ (some 14) rfl rfl Try.func63 (by kernel_rfl) rfl #[.int .i64 x9_1, .int .i64 a1] rfl zm ?_; (with_reducible refine (impl_bit_int64.calls x9_1 a1 true _ A5.out).mono ?_); rintro e w' ⟨rfl, ⟨nd, rfl⟩⟩; refine ⟨_, rfl, ?_⟩))
 go_roundg k1
 case measure => have := HK1.out; omega
 case rel => exact ⟨(Go.bits .or .u64 x5_1 (ji8)), (wrap64 (x9_1 + 1)), (by first | rfl | (simp; done) | (simp only [← hji8] <;> (first | rfl | simp)) | (simp [*]; done) | (exact congrArg (Value.int .i64) (wrap_eq (by omega)))), zi, H', ⟨by have := HK1.out; omega⟩, zdr⟩
def impl_full.f (a0 : Int) : Option (Int) := if a0 = 6 then (some 18446744073709551615) else ((impl_rows.f a0).bind fun t143 => (if 0 ≤ t143 then (some (IntKind.u64.wrap ((shl .u64 1 t143) - 1))) else (none)))
theorem impl_full.calls (a0 : Int) (r : Int) (w : World) (h : impl_full.f a0 = some r) :
    Calls Try.prog 59 #[.int .i64 a0] w fun e w' => e = .returned (.int .u64 r) ∧ Drawn0 w w' := by
 have H : (if a0 = 6 then (some 18446744073709551615) else ((impl_rows.f a0).bind fun t143 => (if 0 ≤ t143 then (some (IntKind.u64.wrap ((shl .u64 1 t143) - 1))) else (none)))) = some r := h
 clear h
 by_cases c2 : a0 = 6
 ·rw [if_pos c2] at H
  have c2b0 : (a0 == 6) = true := beq_iff_eq.mpr c2
  have c2b1 : (a0 != 6) = false := bne_eq_false_iff_eq.mpr c2
  clear c2
  obtain rfl := Option.some.inj H
  go_enter Try.func59, Try.ntmps59
  go_wp2
  go_ret
  exact ⟨zi, zdr⟩
 rw [if_neg c2] at H
 have c2b0 : (a0 == 6) = false := beq_eq_false_iff_ne.mpr c2
 have c2b1 : (a0 != 6) = true := bne_iff_ne.mpr c2
 replace H := zob H
 obtain ⟨t143, A30, H⟩ := H
 replace H : (if 0 ≤ t143 then (some (IntKind.u64.wrap ((shl .u64 1 t143) - 1))) else (none)) = some r := H
 have A3 := Aside0.mk A30
 clear A30
 by_cases c4 : 0 ≤ t143
 rotate_left
 ·rw [if_neg c4] at H
  exact absurd H (by simp)
 rw [if_pos c4] at H
 have c4b0 := eq_true c4
 have c4b1 : decide (0 ≤ t143) = true := decide_eq_true c4
 clear c4
 obtain ⟨ji5, hji5⟩ : ∃ j_ : Int, (shl .u64 1 t143) = j_ := ⟨_, rfl⟩
 replace H : (some (IntKind.u64.wrap ((ji5) - 1))) = some r := by first | (rw [hji5] at H; exact H) | (simp only [hji5] at H ⊢; exact H)
 (try rw [hji5] at A3)
 have hji5_ : (IntKind.u64.wrap (1 * 2 ^ min t143.toNat 64)) = ji5 := hji5
 have hji5z : t143 ≤ 64 → (IntKind.u64.wrap (1 * 2 ^ t143.toNat)) = ji5 := shl_small hji5
 have hji5u : (IntKind.u64.wrap (2 ^ min t143.toNat 64)) = ji5 := by have h_ := hji5_; rw [Int.one_mul] at h_; exact h_
 have hji5v : t143 ≤ 64 → (IntKind.u64.wrap (2 ^ t143.toNat)) = ji5 := fun hle_ => by have h_ := hji5z hle_; rw [Int.one_mul] at h_; exact h_
 obtain rfl := Option.some.inj H
 go_enter Try.func59, Try.ntmps59
 go_wp2_with (first | ((with_reducible refine gate_callee (f := 30) rfl ?_); refine goesL_ (some 6) rfl rfl Try.func30 (by kernel_rfl) rfl #[.int .i64 a0] rfl zm ?_; (with_reducible refine (impl_rows.calls a0 t143 _ A3.out).mono ?_); rintro e w' ⟨rfl, ⟨nd, rfl⟩⟩; refine ⟨_, rfl, ?_⟩))
 go_ret
 exact ⟨by first | rfl | (simp; done) | (simp only [← hji5] <;> (first | rfl | simp)) | (simp [*]; done) | (exact congrArg (Value.int .i64) (wrap_eq (by omega))), zdr⟩
end Go.Proofs.Ytkflenibdijnaaa.PFnAdders
