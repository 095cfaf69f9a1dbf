-- WRITTEN by xprint.py, a program of this session's. Not trusted: Lean checks it.
-- packed by pack.py
import Derived.Test.YtmpmanfoiocfgaaPFnExactSimplifyNetworkx0
import Derived.Test.YtmpmanfoiocfgaaPFnExactSimplifyNetworkx8
import Derived.Test.YtmpmanfoiocfgaaTFnExactSimplifyNetworka
namespace Go.Proofs.Ytmpmanfoiocfgaa.PFnExactSimplifyNetwork
open Go.RowKit Go.Proofs.YtmpmanfoiocfgaaW.PrintWords Go.Proofs.YtmpmanfoiocfgaaW.PrintLast Go.Proofs.YtmpmanfoiocfgaaW.PrintMore Go.Proofs.YtmpmanfoiocfgaaX
attribute [local go_sem] max2_int min2_int max_two min_two max_three min_three max_four min_four   -- for this text's walks alone
set_option maxHeartbeats 8000000
set_option maxRecDepth 100000
set_option linter.unusedVariables false
set_option linter.unusedSimpArgs false

mutual
def impl_ValidNetwork.j0 : Nat → Bool → Int → List (S81) → List Int → Option (Bool)
  | 0, _, _, _, _ => none
  | k + 1, x23, x339000, x339001, x339002 => if x23 = true then (some false) else (impl_ValidNetwork.l0 k x339001 (x339001.length : Int) 0 x339000 x339001 x339002)
def impl_ValidNetwork.l0 : Nat → List (S81) → Int → Int → Int → List (S81) → List Int → Option (Bool)
  | 0, _, _, _, _, _, _ => none
  | k + 1, x25, x26, x27, x339000, x339001, x339002 => if x27 < x26 then (if 0 ≤ x27 then (if x27 < (x25.length : Int) then ((impl_Node_ok.f k ((rd_T81 x25 x27).f0) ((rd_T81 x25 x27).f1) ((rd_T81 x25 x27).f2) (wrap64 (x339000)) x27).bind fun t344 => (if t344 = true then (impl_ValidNetwork.l0 k x25 x26 (wrap64 (x27 + 1)) x339000 x339001 x339002) else (some false))) else (none)) else (none)) else ((slices_ContainsFunc__impl_ValidNetwork_1.f k x339002 [(⟨x339000, x339001, x339002⟩ : S31)]).bind fun t345 => (some (!t345)))
end
def impl_ValidNetwork.f (k : Nat) (a0_0 : Int) (l0_1 : List (S81)) (l0_2 : List Int) : Option (Bool) := (impl_in.f (wrap64 (a0_0)) 1 6).bind fun t339 => (if t339 = true then ((impl_in.f (l0_1.length : Int) 1 80).bind fun t340 => (if t340 = true then ((impl_in.f (l0_2.length : Int) 1 8).bind fun t341 => (impl_ValidNetwork.j0 k (!t341) a0_0 l0_1 l0_2)) else (impl_ValidNetwork.j0 k true a0_0 l0_1 l0_2))) else (impl_ValidNetwork.j0 k true a0_0 l0_1 l0_2))
theorem impl_ValidNetwork.mono_l : ∀ k, (∀ y0 y1 y2 y3, LeO (impl_ValidNetwork.j0 k y0 y1 y2 y3) (impl_ValidNetwork.j0 (k + 1) y0 y1 y2 y3)) ∧ (∀ y0 y1 y2 y3 y4 y5, LeO (impl_ValidNetwork.l0 k y0 y1 y2 y3 y4 y5) (impl_ValidNetwork.l0 (k + 1) y0 y1 y2 y3 y4 y5))
  | 0 => ⟨fun _ _ _ _ r h => by simp [impl_ValidNetwork.j0] at h, fun _ _ _ _ _ _ r h => by simp [impl_ValidNetwork.l0] at h⟩
  | k + 1 => by
    obtain ⟨ih0, ih1⟩ := impl_ValidNetwork.mono_l k
    refine ⟨?_, ?_⟩
    · intro y0 y1 y2 y3
      unfold impl_ValidNetwork.j0
      repeat' first | (with_reducible first | apply ih0 | apply ih1 | apply impl_Node_ok.mono | apply slices_ContainsFunc__impl_ValidNetwork_1.mono | exact LeO.refl _ | exact LeO.none _ | refine LeO.ite ?_ ?_ | refine LeO.bind ?_ (fun _ => ?_)) | apply ih0 | apply ih1 | apply impl_Node_ok.mono | apply slices_ContainsFunc__impl_ValidNetwork_1.mono | exact LeO.none _ | refine LeO.ite ?_ ?_ | refine LeO.bind ?_ (fun _ => ?_)
    · intro y0 y1 y2 y3 y4 y5
      unfold impl_ValidNetwork.l0
      repeat' first | (with_reducible first | apply ih0 | apply ih1 | apply impl_Node_ok.mono | apply slices_ContainsFunc__impl_ValidNetwork_1.mono | exact LeO.refl _ | exact LeO.none _ | refine LeO.ite ?_ ?_ | refine LeO.bind ?_ (fun _ => ?_)) | apply ih0 | apply ih1 | apply impl_Node_ok.mono | apply slices_ContainsFunc__impl_ValidNetwork_1.mono | exact LeO.none _ | refine LeO.ite ?_ ?_ | refine LeO.bind ?_ (fun _ => ?_)
theorem impl_ValidNetwork.mono : ∀ a0 a1 a2 k, LeO (impl_ValidNetwork.f k a0 a1 a2) (impl_ValidNetwork.f (k + 1) a0 a1 a2) := by
 intro a0 a1 a2 k
 obtain ⟨ih0, ih1⟩ := impl_ValidNetwork.mono_l k
 unfold impl_ValidNetwork.f
 repeat' first | (with_reducible first | apply ih0 | apply ih1 | apply impl_Node_ok.mono | apply slices_ContainsFunc__impl_ValidNetwork_1.mono | exact LeO.refl _ | exact LeO.none _ | refine LeO.ite ?_ ?_ | refine LeO.bind ?_ (fun _ => ?_)) | apply ih0 | apply ih1 | apply impl_Node_ok.mono | apply slices_ContainsFunc__impl_ValidNetwork_1.mono | exact LeO.none _ | refine LeO.ite ?_ ?_ | refine LeO.bind ?_ (fun _ => ?_)
theorem impl_ValidNetwork.calls (k : Nat) (a0_0 : Int) (A0_1 : Option Addr) (c0_1 : Nat) (l0_1 : List (S81)) (A0_2 : Option Addr) (c0_2 : Nat) (l0_2 : List Int) (r : Bool) (w : World) (hr0_1 : Kd.C k81 w A0_1 l0_1.length l0_1) (hc0_1 : l0_1.length ≤ c0_1) (hr0_2 : Kd.C (Kd.int .i16) w A0_2 l0_2.length l0_2) (hc0_2 : l0_2.length ≤ c0_2) (h : impl_ValidNetwork.f k a0_0 l0_1 l0_2 = some r) :
    Calls Try.prog 27 #[.agg #[.int .i8 a0_0, .slice A0_1 l0_1.length c0_1, .slice A0_2 l0_2.length c0_2]] w fun e w' => e = .returned (.bool r) ∧ Below w.heap.size w w' := by
 have hu31 := Try.underlying31
 have hu81 := Try.underlying81
 have HR0_1 := Aside0.mk hr0_1
 have HC0_1 := Aside0.mk hc0_1
 clear hr0_1 hc0_1
 have HR0_2 := Aside0.mk hr0_2
 have HC0_2 := Aside0.mk hc0_2
 clear hr0_2 hc0_2
 have HB := Aside0.mk (Below.refl w.heap.size w)
 have H : ((impl_in.f (wrap64 (a0_0)) 1 6).bind fun t339 => (if t339 = true then ((impl_in.f (l0_1.length : Int) 1 80).bind fun t340 => (if t340 = true then ((impl_in.f (l0_2.length : Int) 1 8).bind fun t341 => (impl_ValidNetwork.j0 k (!t341) a0_0 l0_1 l0_2)) else (impl_ValidNetwork.j0 k true a0_0 l0_1 l0_2))) else (impl_ValidNetwork.j0 k true a0_0 l0_1 l0_2))) = some r := h
 clear h
 have HC2 := Aside0.mk H
 clear H
 go_enter Try.func27, Try.ntmps27
 go_upto_region 1 with (first | ((with_reducible refine gate_dst (N := 1) rfl ?_); (try (refine gate_guard (by rfl) ?_; dsimp only)); refine zbx 1 #[.int .i8 a0_0, .slice A0_1 l0_1.length c0_1, .slice A0_2 l0_2.length c0_2] 31 ?_; intro gb338 hg w3 hbox hb; have n_ : _ ∧ _ ∧ _ ∧ _ := ⟨zb HB hb, Aside0.mk (hbox), zg HB hg, zg HB hg⟩; clear HB; obtain ⟨HB, BK338, GW338, GE338⟩ := n_; clear hb hbox hg))
 (try simp only [Act.put, List.setIfInBounds_toArray, List.set_cons_zero, List.set_cons_succ])
 go_cut [23] (fun v23 wc => ∃ (kq : Nat) (x23_1 : Bool), v23 = .bool x23_1 ∧ Aside0 (impl_ValidNetwork.j0 kq x23_1 a0_0 l0_1 l0_2 = some r) ∧ Aside0 (kq ≤ k) ∧ Aside0 (wc.heap[gb338]? = some (.cells #[.int .i8 a0_0, (.slice A0_1 l0_1.length c0_1), (.slice A0_2 l0_2.length c0_2)] 31 (0, 0))) ∧ Aside0 (Below w.heap.size w wc))
 case first =>
  have H := HC2.out
  clear HC2
  replace H := zob H
  obtain ⟨t339, A40, H⟩ := H
  replace H : (if t339 = true then ((impl_in.f (l0_1.length : Int) 1 80).bind fun t340 => (if t340 = true then ((impl_in.f (l0_2.length : Int) 1 8).bind fun t341 => (impl_ValidNetwork.j0 k (!t341) a0_0 l0_1 l0_2)) else (impl_ValidNetwork.j0 k true a0_0 l0_1 l0_2))) else (impl_ValidNetwork.j0 k true a0_0 l0_1 l0_2)) = some r := H
  have A4 := Aside0.mk A40
  clear A40
  by_cases c5 : t339 = true
  rotate_left
  ·replace c5 := Bool.eq_false_iff.mpr c5
   subst c5
   have H1 : (impl_ValidNetwork.j0 k true a0_0 l0_1 l0_2) = some r := by rw [if_neg (show ¬ (false = true) by decide)] at H; exact H
   clear H
   have H := H1
   clear H1
   have H' := Aside0.mk H
   clear H
   obtain ⟨z11_0, z11_1, z11_2, y11_0, y11_1, y11_2⟩ := zB3 BK338
   go_wp2_with (first | ((with_reducible refine gate_callee (f := 82) rfl ?_); refine goesL_ (some 8) rfl rfl Try.func82 (by kernel_rfl) rfl #[.int .i64 (wrap64 (a0_0)), .int .i64 1, .int .i64 6] rfl zm ?_; (with_reducible refine (impl_in.calls (wrap64 (a0_0)) 1 6 false _ A4.out).mono ?_); rintro e w' ⟨rfl, ⟨nd, rfl⟩⟩; refine ⟨_, rfl, ?_⟩))
   go_meet
   case rel => exact ⟨_, (true), zi, H', ⟨by first | omega | exact Nat.le_refl _⟩, zh BK338, zba⟩
  subst c5
  have H1 : ((impl_in.f (l0_1.length : Int) 1 80).bind fun t340 => (if t340 = true then ((impl_in.f (l0_2.length : Int) 1 8).bind fun t341 => (impl_ValidNetwork.j0 k (!t341) a0_0 l0_1 l0_2)) else (impl_ValidNetwork.j0 k true a0_0 l0_1 l0_2))) = some r := by rw [if_pos rfl] at H; exact H
  clear H
  have H := H1
  clear H1
  replace H := zob H
  obtain ⟨t340, A60, H⟩ := H
  replace H : (if t340 = true then ((impl_in.f (l0_2.length : Int) 1 8).bind fun t341 => (impl_ValidNetwork.j0 k (!t341) a0_0 l0_1 l0_2)) else (impl_ValidNetwork.j0 k true a0_0 l0_1 l0_2)) = some r := H
  have A6 := Aside0.mk A60
  clear A60
  by_cases c7 : t340 = true
  rotate_left
  ·replace c7 := Bool.eq_false_iff.mpr c7
   subst c7
   have H1 : (impl_ValidNetwork.j0 k true a0_0 l0_1 l0_2) = some r := by rw [if_neg (show ¬ (false = true) by decide)] at H; exact H
   clear H
   have H := H1
   clear H1
   have H' := Aside0.mk H
   clear H
   obtain ⟨z10_0, z10_1, z10_2, y10_0, y10_1, y10_2⟩ := zB3 BK338
   go_wp2_with (first | ((with_reducible refine gate_callee (f := 82) rfl ?_); refine goesL_ (some 8) rfl rfl Try.func82 (by kernel_rfl) rfl #[.int .i64 (wrap64 (a0_0)), .int .i64 1, .int .i64 6] rfl zm ?_; (with_reducible refine (impl_in.calls (wrap64 (a0_0)) 1 6 true _ A4.out).mono ?_); rintro e w' ⟨rfl, ⟨nd, rfl⟩⟩; refine ⟨_, rfl, ?_⟩) | (go_at_call 82; (with_reducible refine (impl_in.calls (l0_1.length : Int) 1 80 false _ A6.out).mono ?_); rintro e w' ⟨rfl, ⟨nd, rfl⟩⟩))
   go_meet
   case rel => exact ⟨_, (true), zi, H', ⟨by first | omega | exact Nat.le_refl _⟩, zh BK338, zba⟩
  subst c7
  have H1 : ((impl_in.f (l0_2.length : Int) 1 8).bind fun t341 => (impl_ValidNetwork.j0 k (!t341) a0_0 l0_1 l0_2)) = some r := by rw [if_pos rfl] at H; exact H
  clear H
  have H := H1
  clear H1
  replace H := zob H
  obtain ⟨t341, A80, H⟩ := H
  replace H : (impl_ValidNetwork.j0 k (!t341) a0_0 l0_1 l0_2) = some r := H
  have A8 := Aside0.mk A80
  clear A80
  have H' := Aside0.mk H
  clear H
  obtain ⟨z9_0, z9_1, z9_2, y9_0, y9_1, y9_2⟩ := zB3 BK338
  go_wp2_with (first | ((with_reducible refine gate_callee (f := 82) rfl ?_); refine goesL_ (some 8) rfl rfl Try.func82 (by kernel_rfl) rfl #[.int .i64 (wrap64 (a0_0)), .int .i64 1, .int .i64 6] rfl zm ?_; (with_reducible refine (impl_in.calls (wrap64 (a0_0)) 1 6 true _ A4.out).mono ?_); rintro e w' ⟨rfl, ⟨nd, rfl⟩⟩; refine ⟨_, rfl, ?_⟩) | (go_at_call 82; (with_reducible refine (impl_in.calls (l0_1.length : Int) 1 80 true _ A6.out).mono ?_); rintro e w' ⟨rfl, ⟨nd, rfl⟩⟩) | (go_at_call 82; (with_reducible refine (impl_in.calls (l0_2.length : Int) 1 8 t341 _ A8.out).mono ?_); rintro e w' ⟨rfl, ⟨nd, rfl⟩⟩))
  go_meet
  case rel => exact ⟨_, (!t341), zi, H', ⟨by first | omega | exact Nat.le_refl _⟩, zh BK338, zba⟩
 clear HC2
 try clear c2
 try clear p2
 try clear c5
 try clear p6
 try clear c7
 try clear c8
 try clear z10_0 z10_1 z10_2
 try clear z11_0 z11_1 z11_2
 try clear z9_0 z9_1 z9_2
 try clear y10_0
 try clear y10_1
 try clear y10_2
 try clear y11_0
 try clear y11_1
 try clear y11_2
 try clear y9_0
 try clear y9_1
 try clear y9_2
 obtain ⟨kq, x23_1, rfl, HA, HJ1, BK338, HB⟩ := hcut
 cases kq with
 | zero => exact absurd HA.out (by simp [impl_ValidNetwork.j0])
 | succ kj1 => ?_
 have H := HA.out
 clear HA
 simp only [impl_ValidNetwork.j0] at H
 by_cases c12 : x23_1 = true
 ·subst c12
  have H1 : (some false) = some r := by rw [if_pos rfl] at H; exact H
  clear H
  have H := H1
  clear H1
  obtain rfl := Option.some.inj H
  go_wp2
  go_ret
  exact ⟨zv, zbo⟩
 replace c12 := Bool.eq_false_iff.mpr c12
 subst c12
 have H1 : (impl_ValidNetwork.l0 kj1 l0_1 (l0_1.length : Int) 0 a0_0 l0_1 l0_2) = some r := by rw [if_neg (show ¬ (false = true) by decide)] at H; exact H
 clear H
 have H := H1
 clear H1
 have H' := Aside0.mk H
 clear H
 obtain ⟨z13_0, z13_1, z13_2, y13_0, y13_1, y13_2⟩ := zB3 BK338
 go_wp2
 go_loopg [27] kj1 (fun kq v27 w' => ∃ (x27_2 : Int), v27 = .int .i64 x27_2 ∧ Aside0 (impl_ValidNetwork.l0 kq l0_1 (l0_1.length : Int) x27_2 a0_0 l0_1 l0_2 = some r) ∧ Aside0 (kq ≤ kj1) ∧ Aside0 (w'.heap[gb338]? = some (.cells #[.int .i8 a0_0, (.slice A0_1 l0_1.length c0_1), (.slice A0_2 l0_2.length c0_2)] 31 (0, 0))) ∧ Aside0 (Below w.heap.size w w'))
 case atStart => exact ⟨(0), zi, H', ⟨Nat.le_refl _⟩, zh BK338, zba⟩
 clear H'
 try clear c1
 try clear c2
 try clear p2
 try clear c5
 try clear p6
 try clear c7
 try clear c8
 try clear c12
 try clear z10_0 z10_1 z10_2
 try clear z11_0 z11_1 z11_2
 try clear z13_0 z13_1 z13_2
 try clear z9_0 z9_1 z9_2
 try clear y10_0
 try clear y10_1
 try clear y10_2
 try clear y11_0
 try clear y11_1
 try clear y11_2
 try clear y13_0
 try clear y13_1
 try clear y13_2
 try clear y9_0
 try clear y9_1
 try clear y9_2
 try clear p2
 try clear p6
 obtain ⟨x27_2, rfl, HA, HK2, BK338, HB⟩ := hrel
 cases gk with
 | zero => exact absurd HA.out (by simp [impl_ValidNetwork.l0])
 | succ k2 => ?_
 have H := HA.out
 clear HA
 simp only [impl_ValidNetwork.l0] at H
 by_cases c14 : x27_2 < (l0_1.length : Int)
 rotate_left
 ·rw [if_neg c14] at H
  have c14b0 : decide (x27_2 < (l0_1.length : Int)) = false := decide_eq_false c14
  clear c14
  replace H := zob H
  obtain ⟨t345, A290, H⟩ := H
  replace H : (some (!t345)) = some r := H
  have A29 := Aside0.mk A290
  clear A290
  obtain rfl := Option.some.inj H
  obtain ⟨z30_0, z30_1, z30_2, y30_0, y30_1, y30_2⟩ := zB3 BK338
  go_wp2_with (first | ((with_reducible refine gate_callee (f := 84) rfl ?_); refine goesL_ (some 43) rfl rfl Try.func84 (by kernel_rfl) rfl #[.slice A0_2 l0_2.length c0_2, .func (.func 85) #[] #[.pointer (some ⟨gb338, 0, none⟩)]] rfl zm ?_; (with_reducible refine (slices_ContainsFunc__impl_ValidNetwork_1.calls k2 _ _ l0_2 _ [(⟨a0_0, l0_1, l0_2⟩ : S31)] t345 _ ?side1 ?side2 ?side3 A29.out).mono ?_); (case side1 => exact zcc HB HR0_2.out); (case side2 => exact HC0_2.out); (case side3 => refine ro_of_blk (T := 31) (cs := #[.int .i8 a0_0, .slice A0_1 l0_1.length c0_1, .slice A0_2 l0_2.length c0_2]) (zh BK338).out ?_; exact k31_mk _ (⟨a0_0, l0_1, l0_2⟩ : S31) (by exact HC0_1.out) (by exact zcc HB HR0_1.out) (by exact HC0_2.out) (by exact zcc HB HR0_2.out)); rintro e w' ⟨rfl, ⟨nd, rfl⟩⟩; refine ⟨_, rfl, ?_⟩))
  go_ret
  exact ⟨zv, zbo⟩
 rw [if_pos c14] at H
 have c14b0 : decide (x27_2 < (l0_1.length : Int)) = true := decide_eq_true c14
 clear c14
 by_cases c15 : 0 ≤ x27_2
 rotate_left
 ·rw [if_neg c15] at H
  exact absurd H (by simp)
 rw [if_pos c15] at H
 have c15b0 : decide (0 ≤ x27_2) = true := decide_eq_true c15
 clear c15
 by_cases c16 : x27_2 < (l0_1.length : Int)
 rotate_left
 ·rw [if_neg c16] at H
  exact absurd H (by simp)
 rw [if_pos c16] at H
 have c16b0 : decide (x27_2 < (l0_1.length : Int)) = true := decide_eq_true c16
 clear c16
 replace H := zob H
 obtain ⟨t344, A170, H⟩ := H
 replace H : (if t344 = true then (impl_ValidNetwork.l0 k2 l0_1 (l0_1.length : Int) (wrap64 (x27_2 + 1)) a0_0 l0_1 l0_2) else (some false)) = some r := H
 have A17 := Aside0.mk A170
 clear A170
 by_cases c18 : t344 = true
 ·subst c18
  have H1 : (impl_ValidNetwork.l0 k2 l0_1 (l0_1.length : Int) (wrap64 (x27_2 + 1)) a0_0 l0_1 l0_2) = some r := by rw [if_pos rfl] at H; exact H
  clear H
  have H := H1
  clear H1
  have H' := Aside0.mk H
  clear H
  have p342 : 0 ≤ (x27_2 : Int) := of_decide_eq_true zA
  have q342 : x27_2 < (l0_1.length : Int) := of_decide_eq_true zA
  obtain ⟨ad342, e342, hx342_0, hx342_1, hx342_2⟩ := at_T81 HR0_1.out x27_2 p342 q342
  cases e342
  replace hx342_0 := zc HB hx342_0
  replace hx342_1 := zc HB hx342_1
  replace hx342_2 := zc HB hx342_2
  replace p342 := eq_true p342
  replace q342 := eq_true q342
  go_wp2_with (first | ((with_reducible refine gate_dst (N := 4) rfl ?_); (try (refine gate_guard (by rfl) ?_; dsimp only)); refine zbx 4 #[.int .i8 0, .int .i16 0, .int .i16 0] 81 ?_; intro gb343 hg w19 hbox hb; have n_ : _ ∧ _ ∧ _ ∧ _ ∧ _ ∧ _ ∧ _ := ⟨zk BK338 hb, zbs hb, Aside0.mk (hbox), zg HB hg, zg HB hg, zn1 BK338 hg, zn2 BK338 hg⟩; clear BK338 HB; obtain ⟨BK338, HB, BK343, GW343, GE343, NB338_343, NB343_338⟩ := n_; clear hb hbox hg; have hnb20 := NB343_338.out; have hnc20 := NB338_343.out; obtain ⟨z21_0, z21_1, z21_2, y21_0, y21_1, y21_2⟩ := zB3 BK343; obtain ⟨z22_0, z22_1, z22_2, y22_0, y22_1, y22_2⟩ := zB3 BK338) | ((with_reducible refine gate_callee (f := 83) rfl ?_); refine goesL_ (some 37) rfl rfl Try.func83 (by kernel_rfl) rfl #[.agg #[.int .i8 ((rd_T81 l0_1 x27_2).f0), .int .i16 ((rd_T81 l0_1 x27_2).f1), .int .i16 ((rd_T81 l0_1 x27_2).f2)], .int .i64 (wrap64 (a0_0)), .int .i64 x27_2] rfl zm ?_; (with_reducible refine (impl_Node_ok.calls k2 ((rd_T81 l0_1 x27_2).f0) ((rd_T81 l0_1 x27_2).f1) ((rd_T81 l0_1 x27_2).f2) (wrap64 (a0_0)) x27_2 true _ A17.out).mono ?_); rintro e w23 ⟨rfl, hb⟩; refine ⟨_, rfl, ?_⟩; have n_ : _ ∧ _ ∧ _ := ⟨zfb BK338 NB338_343 hb, Aside0.mk (blk_below (g := gb343) (o := .cells #[.int .i8 ((rd_T81 l0_1 x27_2).f0), .int .i16 ((rd_T81 l0_1 x27_2).f1), .int .i16 ((rd_T81 l0_1 x27_2).f2)] 81 (0, 0)) (zp BK343) hb), zbs hb⟩; clear BK338 BK343 HB; obtain ⟨BK338, BK343, HB⟩ := n_; (try clear hb); (try clear hb2); (try clear hk); (try clear hi)))
  go_roundg k2
  case measure => have := HJ1.out; have := HK2.out; omega
  case rel => exact ⟨(wrap64 (x27_2 + 1)), zi, H', ⟨by have := HJ1.out; have := HK2.out; omega⟩, zh BK338, zba⟩
 replace c18 := Bool.eq_false_iff.mpr c18
 subst c18
 have H1 : (some false) = some r := by rw [if_neg (show ¬ (false = true) by decide)] at H; exact H
 clear H
 have H := H1
 clear H1
 obtain rfl := Option.some.inj H
 have p342 : 0 ≤ (x27_2 : Int) := of_decide_eq_true zA
 have q342 : x27_2 < (l0_1.length : Int) := of_decide_eq_true zA
 obtain ⟨ad342, e342, hx342_0, hx342_1, hx342_2⟩ := at_T81 HR0_1.out x27_2 p342 q342
 cases e342
 replace hx342_0 := zc HB hx342_0
 replace hx342_1 := zc HB hx342_1
 replace hx342_2 := zc HB hx342_2
 replace p342 := eq_true p342
 replace q342 := eq_true q342
 go_wp2_with (first | ((with_reducible refine gate_dst (N := 4) rfl ?_); (try (refine gate_guard (by rfl) ?_; dsimp only)); refine zbx 4 #[.int .i8 0, .int .i16 0, .int .i16 0] 81 ?_; intro gb343 hg w24 hbox hb; have n_ : _ ∧ _ ∧ _ ∧ _ ∧ _ ∧ _ ∧ _ := ⟨zk BK338 hb, zbs hb, Aside0.mk (hbox), zg HB hg, zg HB hg, zn1 BK338 hg, zn2 BK338 hg⟩; clear BK338 HB; obtain ⟨BK338, HB, BK343, GW343, GE343, NB338_343, NB343_338⟩ := n_; clear hb hbox hg; have hnb25 := NB343_338.out; have hnc25 := NB338_343.out; obtain ⟨z26_0, z26_1, z26_2, y26_0, y26_1, y26_2⟩ := zB3 BK343; obtain ⟨z27_0, z27_1, z27_2, y27_0, y27_1, y27_2⟩ := zB3 BK338) | ((with_reducible refine gate_callee (f := 83) rfl ?_); refine goesL_ (some 37) rfl rfl Try.func83 (by kernel_rfl) rfl #[.agg #[.int .i8 ((rd_T81 l0_1 x27_2).f0), .int .i16 ((rd_T81 l0_1 x27_2).f1), .int .i16 ((rd_T81 l0_1 x27_2).f2)], .int .i64 (wrap64 (a0_0)), .int .i64 x27_2] rfl zm ?_; (with_reducible refine (impl_Node_ok.calls k2 ((rd_T81 l0_1 x27_2).f0) ((rd_T81 l0_1 x27_2).f1) ((rd_T81 l0_1 x27_2).f2) (wrap64 (a0_0)) x27_2 false _ A17.out).mono ?_); rintro e w28 ⟨rfl, hb⟩; refine ⟨_, rfl, ?_⟩; have n_ : _ ∧ _ ∧ _ := ⟨zfb BK338 NB338_343 hb, Aside0.mk (blk_below (g := gb343) (o := .cells #[.int .i8 ((rd_T81 l0_1 x27_2).f0), .int .i16 ((rd_T81 l0_1 x27_2).f1), .int .i16 ((rd_T81 l0_1 x27_2).f2)] 81 (0, 0)) (zp BK343) hb), zbs hb⟩; clear BK338 BK343 HB; obtain ⟨BK338, BK343, HB⟩ := n_; (try clear hb); (try clear hb2); (try clear hk); (try clear hi)))
 go_ret
 exact ⟨zv, zbo⟩
def impl_renamedAll.l0 : Nat → List Int → List Int → List Int → Int → Int → Option (List Int)
  | 0, _, _, _, _, _ => none
  | k + 1, x1, x5, x9, x10, x11 => if x11 < x10 then (if 0 ≤ x11 then (if x11 < (x9.length : Int) then (if 0 ≤ (rd x9 x11) then (if (rd x9 x11) < (x1.length : Int) then (if x5.length < 70368744177664 then (impl_renamedAll.l0 k x1 (x5 ++ [rd x1 (rd x9 x11)]) x9 x10 (wrap64 (x11 + 1))) else (none)) else (none)) else (none)) else (none)) else (none)) else (some x5)
def impl_renamedAll.f (k : Nat) (l0 : List Int) (l1 : List Int) : Option (List Int) := impl_renamedAll.l0 k l1 (([] : List Int)) l0 (l0.length : Int) 0
theorem impl_renamedAll.mono_l : ∀ k, (∀ y0 y1 y2 y3 y4, LeO (impl_renamedAll.l0 k y0 y1 y2 y3 y4) (impl_renamedAll.l0 (k + 1) y0 y1 y2 y3 y4))
  | 0 => fun _ _ _ _ _ r h => by simp [impl_renamedAll.l0] at h
  | k + 1 => by
    have ih0 := impl_renamedAll.mono_l k
    · intro y0 y1 y2 y3 y4
      unfold impl_renamedAll.l0
      repeat' first | (with_reducible first | apply ih0 | exact LeO.refl _ | exact LeO.none _ | refine LeO.ite ?_ ?_ | refine LeO.bind ?_ (fun _ => ?_)) | apply ih0 | exact LeO.none _ | refine LeO.ite ?_ ?_ | refine LeO.bind ?_ (fun _ => ?_)
theorem impl_renamedAll.mono : ∀ a0 a1 k, LeO (impl_renamedAll.f k a0 a1) (impl_renamedAll.f (k + 1) a0 a1) := by
 intro a0 a1 k
 have ih0 := impl_renamedAll.mono_l k
 unfold impl_renamedAll.f
 repeat' first | (with_reducible first | apply ih0 | exact LeO.refl _ | exact LeO.none _ | refine LeO.ite ?_ ?_ | refine LeO.bind ?_ (fun _ => ?_)) | apply ih0 | exact LeO.none _ | refine LeO.ite ?_ ?_ | refine LeO.bind ?_ (fun _ => ?_)
theorem impl_renamedAll.calls (k : Nat) (A0 : Option Addr) (c0 : Nat) (l0 : List Int) (A1 : Option Addr) (c1 : Nat) (l1 : List Int) (r : List Int) (w : World) (hr0 : Kd.C (Kd.int .i16) w A0 l0.length l0) (hc0 : l0.length ≤ c0) (hr1 : Kd.C (Kd.int .i16) w A1 l1.length l1) (hc1 : l1.length ≤ c1) (h : impl_renamedAll.f k l0 l1 = some r) :
    Calls Try.prog 106 #[.slice A0 l0.length c0, .slice A1 l1.length c1] w fun e w' => ∃ v0_ : Value, e = .returned (v0_) ∧ Kd.R (Kd.int .i16) 79 w' w.heap.size (fun _ => True) v0_ r ∧ Below w.heap.size w w' := by
 have HR0 := Aside0.mk hr0
 have HC0 := Aside0.mk hc0
 clear hr0 hc0
 have HR1 := Aside0.mk hr1
 have HC1 := Aside0.mk hc1
 clear hr1 hc1
 have HB := Aside0.mk (Below.refl w.heap.size w)
 have H : (impl_renamedAll.l0 k l1 (([] : List Int)) l0 (l0.length : Int) 0) = some r := h
 clear h
 obtain ⟨y346, hy346⟩ : ∃ y_ : List Int, y_ = (([] : List Int)) := ⟨_, rfl⟩
 replace H : (impl_renamedAll.l0 k l1 y346 l0 (l0.length : Int) 0) = some r := by first | (rw [hy346]; with_reducible exact H) | (have H2_ := (Option.bind_some _ _).symm.trans H; rw [hy346]; with_reducible exact H2_) | (have H2_ := (Option.bind_some _ _).symm.trans H; with_reducible exact H2_) | with_reducible exact H | (rw [hy346]; exact H) | exact H
 have Ny346 := Aside0.mk hy346
 clear hy346
 have H' := Aside0.mk H
 clear H
 go_enter Try.func106, Try.ntmps106
 go_wp2_with (first | ((with_reducible refine gate_dst (N := 8) rfl ?_); refine Kd.R_lit (Kd.int .i16) _ 79 ?hg (N := 8) ?hd (xs := ([] : List Int)) (inner := []) (ok := fun _ => True) (okp := fun _ => True) ?hr ?hp (fun _ hk => hk) trivial (Below.refl _ _) (Nat.le_refl _) (by simp) ?_; (case hd => rfl); (case hg => rfl); (case hr => exact zgs); (case hp => exact (Reps.none _ _)); intro v347 w3 ho4 hb hg_ hnew_; clear hg_ hnew_; (first | rw [← Ny346.out] at ho4 | (simp only [Int.reduceToNat] at ho4; rw [← Ny346.out] at ho4)); have n_ : _ ∧ _ := ⟨Aside0.mk (Kd.R_lower ho4 (zz HB)), zb HB hb⟩; clear HB; obtain ⟨HO348, HB⟩ := n_; clear hb ho4))
 go_loopg [5, 11] k (fun kq v5 v11 w' => ∃ (x5_1 : List Int) (x11_1 : Int), v11 = .int .i64 x11_1 ∧ Aside0 (impl_renamedAll.l0 kq l1 x5_1 l0 (l0.length : Int) x11_1 = some r) ∧ Aside0 (kq ≤ k) ∧ Aside0 (Kd.R (Kd.int .i16) 79 w' w.heap.size (fun _ => True) v5 x5_1) ∧ Aside0 (Below w.heap.size w w'))
 case atStart => exact ⟨(y346), (0), zi, H', ⟨Nat.le_refl _⟩, ze HO348, zl HB⟩
 clear H'
 try clear c1
 try clear p2
 obtain ⟨x5_1, x11_1, rfl, HA, HK1, HO_5, HB⟩ := hrel
 cases gk with
 | zero => exact absurd HA.out (by simp [impl_renamedAll.l0])
 | succ k1 => ?_
 have H := HA.out
 clear HA
 simp only [impl_renamedAll.l0] at H
 by_cases c5 : x11_1 < (l0.length : Int)
 rotate_left
 ·rw [if_neg c5] at H
  have c5b0 : decide (x11_1 < (l0.length : Int)) = false := decide_eq_false c5
  clear c5
  obtain rfl := Option.some.inj H
  go_wp2
  go_ret
  exact ⟨_, zv, by (with_reducible repeat (first | apply Kd.R_alloc | apply Kd.R_drewN | apply Kd.R_drew)); exact HO_5.out, zbo⟩
 rw [if_pos c5] at H
 have c5b0 : decide (x11_1 < (l0.length : Int)) = true := decide_eq_true c5
 clear c5
 by_cases c6 : 0 ≤ x11_1
 rotate_left
 ·rw [if_neg c6] at H
  exact absurd H (by simp)
 rw [if_pos c6] at H
 have c6b0 : decide (0 ≤ x11_1) = true := decide_eq_true c6
 clear c6
 by_cases c7 : x11_1 < (l0.length : Int)
 rotate_left
 ·rw [if_neg c7] at H
  exact absurd H (by simp)
 rw [if_pos c7] at H
 have c7b0 : decide (x11_1 < (l0.length : Int)) = true := decide_eq_true c7
 clear c7
 by_cases c8 : 0 ≤ (rd l0 x11_1)
 rotate_left
 ·rw [if_neg c8] at H
  exact absurd H (by simp)
 rw [if_pos c8] at H
 have c8b0 : decide (0 ≤ (rd l0 x11_1)) = true := decide_eq_true c8
 clear c8
 by_cases c9 : (rd l0 x11_1) < (l1.length : Int)
 rotate_left
 ·rw [if_neg c9] at H
  exact absurd H (by simp)
 rw [if_pos c9] at H
 have c9b0 : decide ((rd l0 x11_1) < (l1.length : Int)) = true := decide_eq_true c9
 clear c9
 by_cases c10 : x5_1.length < 70368744177664
 rotate_left
 ·rw [if_neg c10] at H
  exact absurd H (by simp)
 rw [if_pos c10] at H
 have LMc10 := Aside0.mk c10
 clear c10
 obtain ⟨y351, hy351⟩ : ∃ y_ : List Int, y_ = (x5_1 ++ [rd l1 (rd l0 x11_1)]) := ⟨_, rfl⟩
 replace H : (impl_renamedAll.l0 k1 l1 y351 l0 (l0.length : Int) (wrap64 (x11_1 + 1))) = some r := by first | (rw [hy351]; with_reducible exact H) | (have H2_ := (Option.bind_some _ _).symm.trans H; rw [hy351]; with_reducible exact H2_) | (have H2_ := (Option.bind_some _ _).symm.trans H; with_reducible exact H2_) | with_reducible exact H | (rw [hy351]; exact H) | exact H
 have Ny351 := Aside0.mk hy351
 clear hy351
 have H' := Aside0.mk H
 clear H
 have p349 : 0 ≤ (x11_1 : Int) := of_decide_eq_true zA
 have q349 : x11_1 < (l0.length : Int) := of_decide_eq_true zA
 obtain ⟨ad349, e349, hx349_0⟩ := Kd.at_int HR0.out x11_1 p349 q349
 cases e349
 replace hx349_0 := zc HB hx349_0
 replace p349 := eq_true p349
 replace q349 := eq_true q349
 have p350 : 0 ≤ ((rd l0 x11_1) : Int) := of_decide_eq_true zA
 have q350 : (rd l0 x11_1) < (l1.length : Int) := of_decide_eq_true zA
 obtain ⟨ad350, e350, hx350_0⟩ := Kd.at_int HR1.out (rd l0 x11_1) p350 q350
 cases e350
 replace hx350_0 := zc HB hx350_0
 replace p350 := eq_true p350
 replace q350 := eq_true q350
 go_wp2_with (first | ((with_reducible refine gate_builtin (b := .append) (xs := #[.tmp 15, .tmp 20]) rfl ?_); at_builtin; refine Kd.R_append (Kd.int .i16) (w0 := w) w.heap.size rfl (.tmp 15) (.tmp 20) 24 79 (.int .i16 0) 2 rfl Try.underlying24 info79 rfl (by decide) (by omega) u5 x5_1 (rd l1 (rd l0 x11_1)) [.int .i16 (rd l1 (rd l0 x11_1))] (fun _ => True) (fun _ => False) rfl rfl ?aP (fun _ hk => hk.elim) ?aF ?aO ?aB ?aS ?aL ?_; (case aP => exact rfl); (case aB => exact (zl HB).out); (case aF => exact (fun _ _ => trivial)); (case aO => exact (ze HO_5).out); (case aS => exact (zz HB)); (case aL => have := LMc10.out; omega); intro v352 w11 ho hb hg hat; rw [← Ny351.out] at ho; have n_ : _ ∧ _ := ⟨Aside0.mk (hb), Aside0.mk (ho)⟩; clear HB HO_5; obtain ⟨HB, HO353⟩ := n_; clear ho hb hg hat))
 go_roundg k1
 case measure => have := HK1.out; omega
 case rel => exact ⟨(y351), (wrap64 (x11_1 + 1)), zi, H', ⟨by have := HK1.out; omega⟩, ze HO353, zl HB⟩
def impl_Node_inner.f (a0_0 : Int) (a0_1 : Int) (a0_2 : Int) : Option (Bool) := if a0_0 = 2 then (some true) else (some (a0_0 == 3))
theorem impl_Node_inner.calls (a0_0 : Int) (a0_1 : Int) (a0_2 : Int) (r : Bool) (w : World) (h : impl_Node_inner.f a0_0 a0_1 a0_2 = some r) :
    Calls Try.prog 133 #[.agg #[.int .i8 a0_0, .int .i16 a0_1, .int .i16 a0_2]] w fun e w' => e = .returned (.bool r) ∧ Below w.heap.size w w' := by
 have hu81 := Try.underlying81
 have HB := Aside0.mk (Below.refl w.heap.size w)
 have H : (if a0_0 = 2 then (some true) else (some (a0_0 == 3))) = some r := h
 clear h
 by_cases c2 : a0_0 = 2
 rotate_left
 ·rw [if_neg c2] at H
  have c2b0 : (a0_0 == 2) = false := beq_eq_false_iff_ne.mpr c2
  have c2b1 : (a0_0 != 2) = true := bne_iff_ne.mpr c2
  obtain rfl := Option.some.inj H
  go_enter Try.func133, Try.ntmps133
  go_wp2_with (first | ((with_reducible refine gate_dst (N := 1) rfl ?_); refine zbx 1 #[.int .i8 a0_0, .int .i16 a0_1, .int .i16 a0_2] 81 ?_; intro gb354 hg w5 hbox hb; have n_ : _ ∧ _ ∧ _ ∧ _ := ⟨zb HB hb, Aside0.mk (hbox), zg HB hg, zg HB hg⟩; clear HB; obtain ⟨HB, BK354, GW354, GE354⟩ := n_; clear hb hbox hg; obtain ⟨z6_0, z6_1, z6_2, y6_0, y6_1, y6_2⟩ := zB3 BK354))
  go_ret
  exact ⟨zv, zbo⟩
 rw [if_pos c2] at H
 have c2b0 : (a0_0 == 2) = true := beq_iff_eq.mpr c2
 have c2b1 : (a0_0 != 2) = false := bne_eq_false_iff_eq.mpr c2
 clear c2
 obtain rfl := Option.some.inj H
 go_enter Try.func133, Try.ntmps133
 go_wp2_with (first | ((with_reducible refine gate_dst (N := 1) rfl ?_); refine zbx 1 #[.int .i8 a0_0, .int .i16 a0_1, .int .i16 a0_2] 81 ?_; intro gb354 hg w3 hbox hb; have n_ : _ ∧ _ ∧ _ ∧ _ := ⟨zb HB hb, Aside0.mk (hbox), zg HB hg, zg HB hg⟩; clear HB; obtain ⟨HB, BK354, GW354, GE354⟩ := n_; clear hb hbox hg; obtain ⟨z4_0, z4_1, z4_2, y4_0, y4_1, y4_2⟩ := zB3 BK354))
 go_ret
 exact ⟨zv, zbo⟩
def impl_Node_renamed.f (a0_0 : Int) (a0_1 : Int) (a0_2 : Int) (l1 : List Int) : Option (Int × Int × Int) := (impl_Node_inner.f a0_0 a0_1 a0_2).bind fun t329 => (if t329 = true then (if 0 ≤ a0_1 then (if a0_1 < (l1.length : Int) then (if 0 ≤ a0_2 then (if a0_2 < (l1.length : Int) then (some (a0_0, rd l1 a0_1, rd l1 a0_2)) else (none)) else (none)) else (none)) else (none)) else (some (a0_0, a0_1, a0_2)))
def impl_Node_renamed.T2 : Bool × List (List Nat × List Nat) := (true, [([], []), ([], []), ([1], [1]), ([0, 2], [0, 2]), ([3], [3]), ([], []), ([], []), ([6], [6]), ([5, 7], [5, 7]), ([8], [8]), ([0, 1, 2, 3, 4, 6, 7], []), ([10, 4, 0, 1, 2, 3, 4, 6, 7], [4, 10]), ([0, 1, 2, 3, 4, 5, 6, 7, 8, 9, 10, 11], []), ([12, 9, 11, 0, 1, 2, 3, 4, 5, 6, 7, 8, 9, 10, 11], [9, 12])])
def impl_Node_renamed.B2 : List Nat := [0, 0, 2, 7, 15, 0, 0, 64, 224, 480, 223, 1247, 4095, 8191]
theorem impl_Node_renamed.tab2 : rtab .any (opsOf Try.f107 2) = impl_Node_renamed.T2 := by kernel_rfl
theorem impl_Node_renamed.bits2 : waitsOk impl_Node_renamed.T2.2 impl_Node_renamed.B2 = true := by kernel_rfl
theorem impl_Node_renamed.calls (a0_0 : Int) (a0_1 : Int) (a0_2 : Int) (A1 : Option Addr) (c1 : Nat) (l1 : List Int) (r1 : Int) (r2 : Int) (r3 : Int) (w : World) (hr1 : Kd.C (Kd.int .i16) w A1 l1.length l1) (hc1 : l1.length ≤ c1) (h : impl_Node_renamed.f a0_0 a0_1 a0_2 l1 = some (r1, r2, r3)) :
    Calls Try.prog 107 #[.agg #[.int .i8 a0_0, .int .i16 a0_1, .int .i16 a0_2], .slice A1 l1.length c1] w fun e w' => e = .returned (.agg #[.int .i8 r1, .int .i16 r2, .int .i16 r3]) ∧ Below w.heap.size w w' := by
 have hu81 := Try.underlying81
 have HR1 := Aside0.mk hr1
 have HC1 := Aside0.mk hc1
 clear hr1 hc1
 have HB := Aside0.mk (Below.refl w.heap.size w)
 have H : ((impl_Node_inner.f a0_0 a0_1 a0_2).bind fun t329 => (if t329 = true then (if 0 ≤ a0_1 then (if a0_1 < (l1.length : Int) then (if 0 ≤ a0_2 then (if a0_2 < (l1.length : Int) then (some (a0_0, rd l1 a0_1, rd l1 a0_2)) else (none)) else (none)) else (none)) else (none)) else (some (a0_0, a0_1, a0_2)))) = some (r1, r2, r3) := h
 clear h
 replace H := zob H
 obtain ⟨t329, A30, H⟩ := H
 replace H : (if t329 = true then (if 0 ≤ a0_1 then (if a0_1 < (l1.length : Int) then (if 0 ≤ a0_2 then (if a0_2 < (l1.length : Int) then (some (a0_0, rd l1 a0_1, rd l1 a0_2)) else (none)) else (none)) else (none)) else (none)) else (some (a0_0, a0_1, a0_2))) = some (r1, r2, r3) := H
 have A3 := Aside0.mk A30
 clear A30
 by_cases c4 : t329 = true
 rotate_left
 ·replace c4 := Bool.eq_false_iff.mpr c4
  subst c4
  have H1 : (some (a0_0, a0_1, a0_2)) = some (r1, r2, r3) := by rw [if_neg (show ¬ (false = true) by decide)] at H; exact H
  clear H
  have H := H1
  clear H1
  simp only [Option.some.injEq, Prod.mk.injEq] at H
  obtain ⟨rfl, rfl, rfl⟩ := H
  go_enter Try.func107, Try.ntmps107
  go_wp2_with (first | ((with_reducible refine gate_dst (N := 2) rfl ?_); refine zbx 2 #[.int .i8 a0_0, .int .i16 a0_1, .int .i16 a0_2] 81 ?_; intro gb327 hg w16 hbox hb; have n_ : _ ∧ _ ∧ _ ∧ _ := ⟨zb HB hb, Aside0.mk (hbox), zg HB hg, zg HB hg⟩; clear HB; obtain ⟨HB, BK327, GW327, GE327⟩ := n_; clear hb hbox hg) | ((with_reducible refine gate_dst (N := 4) rfl ?_); refine zbx 4 #[.int .i8 0, .int .i16 0, .int .i16 0] 81 ?_; intro gb328 hg w17 hbox hb; have n_ : _ ∧ _ ∧ _ ∧ _ ∧ _ ∧ _ ∧ _ := ⟨zk BK327 hb, zbs hb, Aside0.mk (hbox), zg HB hg, zg HB hg, zn1 BK327 hg, zn2 BK327 hg⟩; clear BK327 HB; obtain ⟨BK327, HB, BK328, GW328, GE328, NB327_328, NB328_327⟩ := n_; clear hb hbox hg; have hnb18 := NB327_328.out; have hnc18 := NB328_327.out; obtain ⟨z19_0, z19_1, z19_2, y19_0, y19_1, y19_2⟩ := zB3 BK327) | ((with_reducible refine gate_callee (f := 133) rfl ?_); refine goesL_ (some 6) rfl rfl Try.func133 (by kernel_rfl) rfl #[.agg #[.int .i8 a0_0, .int .i16 a0_1, .int .i16 a0_2]] rfl zm ?_; (with_reducible refine (impl_Node_inner.calls a0_0 a0_1 a0_2 false _ A3.out).mono ?_); rintro e w20 ⟨rfl, hb⟩; refine ⟨_, rfl, ?_⟩; have n_ : _ ∧ _ ∧ _ := ⟨zk BK327 hb, zk BK328 hb, zbs hb⟩; clear BK327 BK328 HB; obtain ⟨BK327, BK328, HB⟩ := n_; (try clear hb); (try clear hb2); (try clear hk); (try clear hi); obtain ⟨z21_0, z21_1, z21_2, y21_0, y21_1, y21_2⟩ := zB3 BK327; obtain ⟨z22_0, z22_1, z22_2, y22_0, y22_1, y22_2⟩ := zB3 BK328))
  refine bodyPost_ret (results_cell_row rfl _ _ gb328 81 #[.int .i8 a0_0, .int .i16 a0_1, .int .i16 a0_2] (0, 0) _ rfl (zp BK328) Try.underlying81 rfl (by kernel_rfl)) rfl ?_
  exact ⟨zv, zbo⟩
 subst c4
 have H1 : (if 0 ≤ a0_1 then (if a0_1 < (l1.length : Int) then (if 0 ≤ a0_2 then (if a0_2 < (l1.length : Int) then (some (a0_0, rd l1 a0_1, rd l1 a0_2)) else (none)) else (none)) else (none)) else (none)) = some (r1, r2, r3) := by rw [if_pos rfl] at H; exact H
 clear H
 have H := H1
 clear H1
 by_cases c5 : 0 ≤ a0_1
 rotate_left
 ·rw [if_neg c5] at H
  exact absurd H (by simp)
 rw [if_pos c5] at H
 have c5b0 : decide (0 ≤ a0_1) = true := decide_eq_true c5
 clear c5
 by_cases c6 : a0_1 < (l1.length : Int)
 rotate_left
 ·rw [if_neg c6] at H
  exact absurd H (by simp)
 rw [if_pos c6] at H
 have c6b0 : decide (a0_1 < (l1.length : Int)) = true := decide_eq_true c6
 clear c6
 by_cases c7 : 0 ≤ a0_2
 rotate_left
 ·rw [if_neg c7] at H
  exact absurd H (by simp)
 rw [if_pos c7] at H
 have c7b0 : decide (0 ≤ a0_2) = true := decide_eq_true c7
 clear c7
 by_cases c8 : a0_2 < (l1.length : Int)
 rotate_left
 ·rw [if_neg c8] at H
  exact absurd H (by simp)
 rw [if_pos c8] at H
 have c8b0 : decide (a0_2 < (l1.length : Int)) = true := decide_eq_true c8
 clear c8
 simp only [Option.some.injEq, Prod.mk.injEq] at H
 obtain ⟨rfl, rfl, rfl⟩ := H
 go_enter Try.func107, Try.ntmps107
 go_wp2_with (first | ((with_reducible refine gate_dst (N := 2) rfl ?_); refine zbx 2 #[.int .i8 a0_0, .int .i16 a0_1, .int .i16 a0_2] 81 ?_; intro gb327 hg w9 hbox hb; have n_ : _ ∧ _ ∧ _ ∧ _ := ⟨zb HB hb, Aside0.mk (hbox), zg HB hg, zg HB hg⟩; clear HB; obtain ⟨HB, BK327, GW327, GE327⟩ := n_; clear hb hbox hg) | ((with_reducible refine gate_dst (N := 4) rfl ?_); refine zbx 4 #[.int .i8 0, .int .i16 0, .int .i16 0] 81 ?_; intro gb328 hg w10 hbox hb; have n_ : _ ∧ _ ∧ _ ∧ _ ∧ _ ∧ _ ∧ _ := ⟨zk BK327 hb, zbs hb, Aside0.mk (hbox), zg HB hg, zg HB hg, zn1 BK327 hg, zn2 BK327 hg⟩; clear BK327 HB; obtain ⟨BK327, HB, BK328, GW328, GE328, NB327_328, NB328_327⟩ := n_; clear hb hbox hg; have hnb11 := NB327_328.out; have hnc11 := NB328_327.out; obtain ⟨z12_0, z12_1, z12_2, y12_0, y12_1, y12_2⟩ := zB3 BK327) | ((with_reducible refine gate_callee (f := 133) rfl ?_); refine goesL_ (some 6) rfl rfl Try.func133 (by kernel_rfl) rfl #[.agg #[.int .i8 a0_0, .int .i16 a0_1, .int .i16 a0_2]] rfl zm ?_; (with_reducible refine (impl_Node_inner.calls a0_0 a0_1 a0_2 true _ A3.out).mono ?_); rintro e w13 ⟨rfl, hb⟩; refine ⟨_, rfl, ?_⟩; have n_ : _ ∧ _ ∧ _ := ⟨zk BK327 hb, zk BK328 hb, zbs hb⟩; clear BK327 BK328 HB; obtain ⟨BK327, BK328, HB⟩ := n_; (try clear hb); (try clear hb2); (try clear hk); (try clear hi); obtain ⟨z14_0, z14_1, z14_2, y14_0, y14_1, y14_2⟩ := zB3 BK327; have p330 : 0 ≤ (a0_1 : Int) := of_decide_eq_true zA; have q330 : a0_1 < (l1.length : Int) := of_decide_eq_true zA; obtain ⟨ad330, e330, hx330_0⟩ := Kd.at_int HR1.out a0_1 p330 q330; cases e330; have hxw_ := hx330_0; replace hx330_0 := zc HB hx330_0; replace p330 := eq_true p330; replace q330 := eq_true q330; have p331 : 0 ≤ (a0_2 : Int) := of_decide_eq_true zA; have q331 : a0_2 < (l1.length : Int) := of_decide_eq_true zA; obtain ⟨ad331, e331, hx331_0⟩ := Kd.at_int HR1.out a0_2 p331 q331; obtain rfl : ad330 = ad331 := (by injection e331); have hxv_ := hx331_0; replace hx331_0 := zc HB hx331_0; replace p331 := eq_true p331; replace q331 := eq_true q331; obtain ⟨z15_0, z15_1, z15_2, y15_0, y15_1, y15_2⟩ := zB3 BK328))
 have NF_ : gb327 ≠ (ad330.add (a0_1 : Int).toNat).block := by have h1 := World.block_lt_of_cell? w _ hxw_; have h2 := GE327.out; omega
 have NG_ : gb327 ≠ (ad330.add (a0_2 : Int).toNat).block := by have h1 := World.block_lt_of_cell? w _ hxv_; have h2 := GE327.out; omega
 clear hxw_ hxv_
 have B7 : Aside0 (w13.drew.heap[gb327]? = some (.cells #[.int .i8 a0_0, .int .i16 a0_1, .int .i16 a0_2] 81 (0, 0))) := ⟨blk_drew BK327.out⟩
 have B8 : Aside0 (w13.drew.heap[gb328]? = some (.cells #[.int .i8 0, .int .i16 0, .int .i16 0] 81 (0, 0))) := ⟨blk_drew BK328.out⟩
 have HB7 : Aside0 (Below w.heap.size w w13.drew) := ⟨below_drew1 HB.out⟩
 refine start_ (n := 14) (S := fun w' => w'.cell? (ad330.add (a0_1 : Int).toNat) = some (.int .i16 (rd l1 a0_1)) ∧ w'.cell? (ad330.add (a0_2 : Int).toNat) = some (.int .i16 (rd l1 a0_2))) (ds := []) (zq 14 0) (by kernel_rfl) rfl rfl ⟨hx330_0, hx331_0⟩ (fun hHeld => ?_); refine with_tabW impl_Node_renamed.tab2 impl_Node_renamed.bits2 (fun HT_ HW_ => ?_)
 clear BK327 BK328 HB hx330_0 hx331_0 z14_0 y14_0 z14_1 y14_1 z14_2 y14_2 z15_0 y15_0 z15_1 y15_1 z15_2 y15_2
 generalize w13.drew = w14 at B7 B8 HB7 hHeld ⊢
 have BK327 := B7
 have BK328 := B8
 have HB := HB7
 clear B7 B8 HB7
 have z14_0 : w14.cell? ⟨gb327, 0, none⟩ = some (.int .i8 a0_0) := (blk_cell BK327.out 0).trans rfl
 have z15_0 : w14.cell? ⟨gb328, 0, none⟩ = some (.int .i8 0) := (blk_cell BK328.out 0).trans rfl
 have z14_1 : w14.cell? ⟨gb327, 1, none⟩ = some (.int .i16 a0_1) := (blk_cell BK327.out 1).trans rfl
 have z15_1 : w14.cell? ⟨gb328, 1, none⟩ = some (.int .i16 0) := (blk_cell BK328.out 1).trans rfl
 have z14_2 : w14.cell? ⟨gb327, 2, none⟩ = some (.int .i16 a0_2) := (blk_cell BK327.out 2).trans rfl
 have z15_2 : w14.cell? ⟨gb328, 2, none⟩ = some (.int .i16 0) := (blk_cell BK328.out 2).trans rfl
 have y14_0 := blk_frozen BK327.out 0
 have y15_0 := blk_frozen BK328.out 0
 have y14_1 := blk_frozen BK327.out 1
 have y15_1 := blk_frozen BK328.out 1
 have y14_2 := blk_frozen BK327.out 2
 have y15_2 := blk_frozen BK328.out 2
 refine zpu 0 (some 7) (zq 14 1) HT_ ?_
 refine zpu 1 (some 8) (zq 14 3) HT_ ?_
 refine zpu 5 (some 12) (zq 14 35) HT_ ?_
 refine zpu 6 (some 13) (zq 14 99) HT_ ?_
 refine two_ (i := 2) (j := 7) (Ni := some 9) (Nj := some 14) (zq 14 103) (zq 14 227) rfl rfl rfl rfl (two_of HT_.out (by kernel_rfl)) (by simp) (by simp) (fun K hK => ?_) (fun K hK => ?_)
 rotate_left
 ·refine value_ (w1 := ?_) (v := ?_) (by rfl) rfl ?_ ?_
  rotate_left 2
  ·go_simp
   constructor
   rotate_left
   ·rfl
   rfl
  refine hK.out _ _ hHeld (fun hHeld => ?_)
  clear hK K
  refine norm_ (a' := ?_) ?_ ?_
  rotate_left
  ·show Act.put _ (some 14) _ = _
   exact zap
  refine zpu 8 (some 15) (zq 14 483) HT_ ?_
  refine ztk 9 (some 16) (zq 14 995) HT_ HW_ rfl hHeld (Or.inl ⟨by rfl, by (rintro w' ⟨s0, s1⟩; go_simp; with_reducible rfl)⟩) ?_
  refine one_ (i := 2) (N := some 9) (zq 14 999) rfl rfl (one_of HT_.out (by kernel_rfl)) (by simp) (fun K hK => ?_)
  refine value_ (w1 := ?_) (v := ?_) (by rfl) rfl ?_ ?_
  rotate_left 2
  ·go_simp
   constructor
   rotate_left
   ·rfl
   rfl
  refine hK.out _ _ hHeld (fun hHeld => ?_)
  clear hK K
  refine norm_ (a' := ?_) ?_ ?_
  rotate_left
  ·show Act.put _ (some 9) _ = _
   exact zap
  refine zpu 3 (some 10) (zq 14 1007) HT_ ?_
  refine ztk 4 (some 11) (zq 14 1023) HT_ HW_ rfl hHeld (Or.inl ⟨by rfl, by (rintro w' ⟨s0, s1⟩; go_simp; with_reducible rfl)⟩) ?_
  refine zpu 10 (some 17) (zq 14 2047) HT_ ?_
  refine one_ (i := 11) (N := none) (zq 14 4095) rfl rfl (one_of HT_.out (by kernel_rfl)) (by simp) (fun K hK => ?_)
  refine skip_ (w1 := ?_) (by rfl) rfl ?_ ?_
  rotate_left
  ·go_simp
   rfl
  refine hK.out _ _ ⟨(World.cell?_setCell_far _ _ _ _ NF_).trans hHeld.1, (World.cell?_setCell_far _ _ _ _ NG_).trans hHeld.2⟩ (fun hHeld => ?_)
  clear hK K
  refine zpu 12 (some 18) (zq 14 8191) HT_ ?_
  refine one_ (i := 13) (N := none) (zq 14 16383) rfl rfl (one_of HT_.out (by kernel_rfl)) (by simp) (fun K hK => ?_)
  refine skip_ (w1 := ?_) (by rfl) rfl ?_ ?_
  rotate_left
  ·go_simp
   rfl
  refine hK.out _ _ ⟨(World.cell?_setCell_far _ _ _ _ NF_).trans hHeld.1, (World.cell?_setCell_far _ _ _ _ NG_).trans hHeld.2⟩ (fun hHeld => ?_)
  clear hK K
  refine done_ (done_of HT_.out (by kernel_rfl)) ?_
  clear hHeld HT_ HW_
  try go_wp2_with (first | fail)
  refine bodyPost_ret (results_cell_row rfl _ _ gb328 81 #[.int .i8 a0_0, .int .i16 (rd l1 a0_1), .int .i16 (rd l1 a0_2)] (0, 0) _ rfl (by (with_reducible repeat (first | refine blk_drewN ?_ _ | refine blk_drew ?_ | refine blk_alloc ?_ _)); refine blk_put (cs := #[.int .i8 a0_0, .int .i16 (rd l1 a0_1), .int .i16 0]) ?_ 2 _ rfl; (with_reducible repeat (first | refine blk_drewN ?_ _ | refine blk_drew ?_ | refine blk_alloc ?_ _)); refine blk_put (cs := #[.int .i8 a0_0, .int .i16 0, .int .i16 0]) ?_ 1 _ rfl; (with_reducible repeat (first | refine blk_drewN ?_ _ | refine blk_drew ?_ | refine blk_alloc ?_ _)); refine blk_put (cs := #[.int .i8 0, .int .i16 0, .int .i16 0]) ?_ 0 _ rfl; (with_reducible repeat (first | refine blk_drewN ?_ _ | refine blk_drew ?_ | refine blk_alloc ?_ _)); refine blk_far ?_ NB328_327.out _; (with_reducible repeat (first | refine blk_drewN ?_ _ | refine blk_drew ?_ | refine blk_alloc ?_ _)); refine blk_far ?_ NB328_327.out _; (with_reducible repeat (first | refine blk_drewN ?_ _ | refine blk_drew ?_ | refine blk_alloc ?_ _)); exact BK328.out) Try.underlying81 rfl (by kernel_rfl)) rfl ?_
  exact ⟨zv, zbo⟩
 refine value_ (w1 := ?_) (v := ?_) (by rfl) rfl ?_ ?_
 rotate_left 2
 ·go_simp
  constructor
  rotate_left
  ·rfl
  rfl
 refine hK.out _ _ hHeld (fun hHeld => ?_)
 clear hK K
 refine norm_ (a' := ?_) ?_ ?_
 rotate_left
 ·show Act.put _ (some 9) _ = _
  exact zap
 refine zpu 3 (some 10) (zq 14 111) HT_ ?_
 refine ztk 4 (some 11) (zq 14 127) HT_ HW_ rfl hHeld (Or.inl ⟨by rfl, by (rintro w' ⟨s0, s1⟩; go_simp; with_reducible rfl)⟩) ?_
 refine one_ (i := 7) (N := some 14) (zq 14 255) rfl rfl (one_of HT_.out (by kernel_rfl)) (by simp) (fun K hK => ?_)
 refine value_ (w1 := ?_) (v := ?_) (by rfl) rfl ?_ ?_
 rotate_left 2
 ·go_simp
  constructor
  rotate_left
  ·rfl
  rfl
 refine hK.out _ _ hHeld (fun hHeld => ?_)
 clear hK K
 refine norm_ (a' := ?_) ?_ ?_
 rotate_left
 ·show Act.put _ (some 14) _ = _
  exact zap
 refine zpu 8 (some 15) (zq 14 511) HT_ ?_
 refine ztk 9 (some 16) (zq 14 1023) HT_ HW_ rfl hHeld (Or.inl ⟨by rfl, by (rintro w' ⟨s0, s1⟩; go_simp; with_reducible rfl)⟩) ?_
 refine zpu 10 (some 17) (zq 14 2047) HT_ ?_
 refine one_ (i := 11) (N := none) (zq 14 4095) rfl rfl (one_of HT_.out (by kernel_rfl)) (by simp) (fun K hK => ?_)
 refine skip_ (w1 := ?_) (by rfl) rfl ?_ ?_
 rotate_left
 ·go_simp
  rfl
 refine hK.out _ _ ⟨(World.cell?_setCell_far _ _ _ _ NF_).trans hHeld.1, (World.cell?_setCell_far _ _ _ _ NG_).trans hHeld.2⟩ (fun hHeld => ?_)
 clear hK K
 refine zpu 12 (some 18) (zq 14 8191) HT_ ?_
 refine one_ (i := 13) (N := none) (zq 14 16383) rfl rfl (one_of HT_.out (by kernel_rfl)) (by simp) (fun K hK => ?_)
 refine skip_ (w1 := ?_) (by rfl) rfl ?_ ?_
 rotate_left
 ·go_simp
  rfl
 refine hK.out _ _ ⟨(World.cell?_setCell_far _ _ _ _ NF_).trans hHeld.1, (World.cell?_setCell_far _ _ _ _ NG_).trans hHeld.2⟩ (fun hHeld => ?_)
 clear hK K
 refine done_ (done_of HT_.out (by kernel_rfl)) ?_
 clear hHeld HT_ HW_
 try go_wp2_with (first | fail)
 refine bodyPost_ret (results_cell_row rfl _ _ gb328 81 #[.int .i8 a0_0, .int .i16 (rd l1 a0_1), .int .i16 (rd l1 a0_2)] (0, 0) _ rfl (by (with_reducible repeat (first | refine blk_drewN ?_ _ | refine blk_drew ?_ | refine blk_alloc ?_ _)); refine blk_put (cs := #[.int .i8 a0_0, .int .i16 (rd l1 a0_1), .int .i16 0]) ?_ 2 _ rfl; (with_reducible repeat (first | refine blk_drewN ?_ _ | refine blk_drew ?_ | refine blk_alloc ?_ _)); refine blk_put (cs := #[.int .i8 a0_0, .int .i16 0, .int .i16 0]) ?_ 1 _ rfl; (with_reducible repeat (first | refine blk_drewN ?_ _ | refine blk_drew ?_ | refine blk_alloc ?_ _)); refine blk_put (cs := #[.int .i8 0, .int .i16 0, .int .i16 0]) ?_ 0 _ rfl; (with_reducible repeat (first | refine blk_drewN ?_ _ | refine blk_drew ?_ | refine blk_alloc ?_ _)); refine blk_far ?_ NB328_327.out _; (with_reducible repeat (first | refine blk_drewN ?_ _ | refine blk_drew ?_ | refine blk_alloc ?_ _)); refine blk_far ?_ NB328_327.out _; (with_reducible repeat (first | refine blk_drewN ?_ _ | refine blk_drew ?_ | refine blk_alloc ?_ _)); exact BK328.out) Try.underlying81 rfl (by kernel_rfl)) rfl ?_
 exact ⟨zv, zbo⟩
-- NOT PRINTED: function 142 (impl_Node_1)

-- NOT PRINTED: function 132 (impl_Node)

end Go.Proofs.Ytmpmanfoiocfgaa.PFnExactSimplifyNetwork
