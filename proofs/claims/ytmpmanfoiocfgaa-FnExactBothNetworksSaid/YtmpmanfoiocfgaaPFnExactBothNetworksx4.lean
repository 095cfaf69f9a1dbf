-- WRITTEN by xprint.py, a program of this session's. Not trusted: Lean checks it.
-- packed by pack.py
import Derived.Test.YtmpmanfoiocfgaaPFnExactBothNetworksx0
import Derived.Test.YtmpmanfoiocfgaaPFnExactBothNetworksx3
import Derived.Test.YtmpmanfoiocfgaaTFnExactBothNetworksa
namespace Go.Proofs.Ytmpmanfoiocfgaa.PFnExactBothNetworks
open Go.RowKit Go.Proofs.YtmpmanfoiocfgaaW.PrintWords Go.Proofs.YtmpmanfoiocfgaaW.PrintLast Go.Proofs.YtmpmanfoiocfgaaW.PrintMore Go.Proofs.YtmpmanfoiocfgaaX
attribute [local go_sem] max2_int min2_int max_two min_two max_three min_three max_four min_four   -- for this text's walks alone
set_option maxHeartbeats 8000000
set_option maxRecDepth 100000
set_option linter.unusedVariables false
set_option linter.unusedSimpArgs false

mutual
def spec_l04Ok.j0 : Nat → List (S31) → Bool → Option (Bool)
  | 0, _, _ => none
  | k + 1, x0, x29 => if x29 = true then (some false) else (spec_l04Ok.l0 k x0 0)
def spec_l04Ok.l0 : Nat → List (S31) → Int → Option (Bool)
  | 0, _, _ => none
  | k + 1, x0, x3 => if 0 < (x0.length : Int) then (if x3 < (((rd_T31 x0 0).f1).length : Int) then ((spec_l04Node.f x0 x3).bind fun t167 => (if t167 = true then (spec_l04Ok.l0 k x0 (wrap64 (x3 + 1))) else (some false))) else (spec_l04Ok.l1 k x0 0)) else (none)
def spec_l04Ok.l1 : Nat → List (S31) → Int → Option (Bool)
  | 0, _, _ => none
  | k + 1, x0, x4 => if 0 < (x0.length : Int) then (if x4 < (((rd_T31 x0 0).f2).length : Int) then (if 0 ≤ x4 then (if (rd ((rd_T31 x0 0).f2) x4) < 0 then (some false) else (if (wrap64 (rd ((rd_T31 x0 0).f2) x4)) ≥ (((rd_T31 x0 0).f1).length : Int) then (some false) else (spec_l04Ok.l1 k x0 (wrap64 (x4 + 1))))) else (none)) else (some true)) else (none)
end
def spec_l04Ok.f (k : Nat) (l0 : List (S31)) : Option (Bool) := if 0 < (l0.length : Int) then ((spec_l00In.f (wrap64 ((rd_T31 l0 0).f0)) 1 6).bind fun t161 => (if t161 = true then ((spec_l00In.f (((rd_T31 l0 0).f1).length : Int) 1 80).bind fun t163 => (if t163 = true then ((spec_l00In.f (((rd_T31 l0 0).f2).length : Int) 1 8).bind fun t165 => (spec_l04Ok.j0 k l0 (!t165))) else (spec_l04Ok.j0 k l0 true))) else (spec_l04Ok.j0 k l0 true))) else (none)
theorem spec_l04Ok.mono_l : ∀ k, (∀ y0 y1, LeO (spec_l04Ok.j0 k y0 y1) (spec_l04Ok.j0 (k + 1) y0 y1)) ∧ (∀ y0 y1, LeO (spec_l04Ok.l0 k y0 y1) (spec_l04Ok.l0 (k + 1) y0 y1)) ∧ (∀ y0 y1, LeO (spec_l04Ok.l1 k y0 y1) (spec_l04Ok.l1 (k + 1) y0 y1))
  | 0 => ⟨fun _ _ r h => by simp [spec_l04Ok.j0] at h, fun _ _ r h => by simp [spec_l04Ok.l0] at h, fun _ _ r h => by simp [spec_l04Ok.l1] at h⟩
  | k + 1 => by
    obtain ⟨ih0, ih1, ih2⟩ := spec_l04Ok.mono_l k
    refine ⟨?_, ?_, ?_⟩
    · intro y0 y1
      unfold spec_l04Ok.j0
      repeat' first | (with_reducible first | apply ih0 | apply ih1 | apply ih2 | exact LeO.refl _ | exact LeO.none _ | refine LeO.ite ?_ ?_ | refine LeO.bind ?_ (fun _ => ?_)) | apply ih0 | apply ih1 | apply ih2 | exact LeO.none _ | refine LeO.ite ?_ ?_ | refine LeO.bind ?_ (fun _ => ?_)
    · intro y0 y1
      unfold spec_l04Ok.l0
      repeat' first | (with_reducible first | apply ih0 | apply ih1 | apply ih2 | exact LeO.refl _ | exact LeO.none _ | refine LeO.ite ?_ ?_ | refine LeO.bind ?_ (fun _ => ?_)) | apply ih0 | apply ih1 | apply ih2 | exact LeO.none _ | refine LeO.ite ?_ ?_ | refine LeO.bind ?_ (fun _ => ?_)
    · intro y0 y1
      unfold spec_l04Ok.l1
      repeat' first | (with_reducible first | apply ih0 | apply ih1 | apply ih2 | exact LeO.refl _ | exact LeO.none _ | refine LeO.ite ?_ ?_ | refine LeO.bind ?_ (fun _ => ?_)) | apply ih0 | apply ih1 | apply ih2 | exact LeO.none _ | refine LeO.ite ?_ ?_ | refine LeO.bind ?_ (fun _ => ?_)
theorem spec_l04Ok.mono : ∀ a0 k, LeO (spec_l04Ok.f k a0) (spec_l04Ok.f (k + 1) a0) := by
 intro a0 k
 obtain ⟨ih0, ih1, ih2⟩ := spec_l04Ok.mono_l k
 unfold spec_l04Ok.f
 repeat' first | (with_reducible first | apply ih0 | apply ih1 | apply ih2 | exact LeO.refl _ | exact LeO.none _ | refine LeO.ite ?_ ?_ | refine LeO.bind ?_ (fun _ => ?_)) | apply ih0 | apply ih1 | apply ih2 | exact LeO.none _ | refine LeO.ite ?_ ?_ | refine LeO.bind ?_ (fun _ => ?_)
theorem spec_l04Ok.calls (k : Nat) (adp0 : Addr) (l0 : List (S31)) (r : Bool) (w : World) (hr0 : Kd.C k31 w (some adp0) l0.length l0) (h : spec_l04Ok.f k l0 = some r) :
    Calls Try.prog 81 #[.pointer (some adp0)] w fun e w' => e = .returned (.bool r) ∧ Below w.heap.size w w' := by
 have HR0 := Aside0.mk hr0
 clear hr0
 have HB := Aside0.mk (Below.refl w.heap.size w)
 have H : (if 0 < (l0.length : Int) then ((spec_l00In.f (wrap64 ((rd_T31 l0 0).f0)) 1 6).bind fun t161 => (if t161 = true then ((spec_l00In.f (((rd_T31 l0 0).f1).length : Int) 1 80).bind fun t163 => (if t163 = true then ((spec_l00In.f (((rd_T31 l0 0).f2).length : Int) 1 8).bind fun t165 => (spec_l04Ok.j0 k l0 (!t165))) else (spec_l04Ok.j0 k l0 true))) else (spec_l04Ok.j0 k l0 true))) else (none)) = some r := h
 clear h
 have HC2 := Aside0.mk H
 clear H
 go_enter Try.func81, Try.ntmps81
 go_upto_region 1 with (fail)
 repeat (go_quiet (fail); go_upto_region 1 with (fail))
 go_cut [29] (fun v29 wc => ∃ (kq : Nat) (x29_1 : Bool), v29 = .bool x29_1 ∧ Aside0 (spec_l04Ok.j0 kq l0 x29_1 = some r) ∧ Aside0 (kq ≤ k) ∧ Aside0 (Below w.heap.size w wc))
 case first =>
  have H := HC2.out
  clear HC2
  by_cases c3 : 0 < (l0.length : Int)
  rotate_left
  ·rw [if_neg c3] at H
   exact absurd H (by simp)
  rw [if_pos c3] at H
  have c3b0 : decide (0 < (l0.length : Int)) = true := decide_eq_true c3
  have c3b1 : decide (0 < l0.length) = true := decide_eq_true (by omega)
  clear c3
  (first | rw [c3b0] | (simp only [i64_w, i32_w]; rw [c3b0]) | (have h_ := c3b0; simp only [bne] at h_; rw [h_]) | skip)
  replace H := zob H
  obtain ⟨t161, A40, H⟩ := H
  replace H : (if t161 = true then ((spec_l00In.f (((rd_T31 l0 0).f1).length : Int) 1 80).bind fun t163 => (if t163 = true then ((spec_l00In.f (((rd_T31 l0 0).f2).length : Int) 1 8).bind fun t165 => (spec_l04Ok.j0 k l0 (!t165))) else (spec_l04Ok.j0 k l0 true))) else (spec_l04Ok.j0 k l0 true)) = some r := H
  have A4 := Aside0.mk A40
  clear A40
  by_cases c5 : t161 = true
  rotate_left
  ·replace c5 := Bool.eq_false_iff.mpr c5
   subst c5
   have H1 : (spec_l04Ok.j0 k l0 true) = some r := by rw [if_neg (show ¬ (false = true) by decide)] at H; exact H
   clear H
   have H := H1
   clear H1
   have H' := Aside0.mk H
   clear H
   have p160 : 0 ≤ (0 : Int) := (by omega)
   have q160 : 0 < (l0.length : Int) := of_decide_eq_true zA
   obtain ⟨ad160, A160_1, c160_1, A160_2, c160_2, e160, hx160_0, hx160_1, hx160_2, hl160_1, hi160_1, hl160_2, hi160_2⟩ := at_T31 HR0.out 0 p160 q160
   obtain rfl : adp0 = ad160 := (by injection e160)
   have qi160 : (0 < l0.length) = True := eq_true (by omega)
   try simp only [z00, Nat.zero_mul, Addr.add_zero'] at hx160_0 hx160_1 hx160_2
   replace hx160_0 := zc HB hx160_0
   replace hx160_1 := zc HB hx160_1
   replace hx160_2 := zc HB hx160_2
   have HR160_1 := Aside0.mk hi160_1
   have HC160_1 := Aside0.mk hl160_1
   clear hi160_1 hl160_1
   have HR160_2 := Aside0.mk hi160_2
   have HC160_2 := Aside0.mk hl160_2
   clear hi160_2 hl160_2
   replace p160 := eq_true p160
   replace q160 := eq_true q160
   go_wp2_with (first | (go_at_call 87; (with_reducible refine (spec_l00In.calls (wrap64 ((rd_T31 l0 0).f0)) 1 6 false _ A4.out).mono ?_); rintro e w' ⟨rfl, ⟨nd, rfl⟩⟩; (try first | exact ⟨rfl, _, World.drewN_drewN _ _ _⟩ | exact ⟨rfl, _, Eq.trans (World.drewN_drewN _ _ _) (congrArg (World.drewN _) (Nat.add_assoc _ _ _))⟩)) | go_quiet (first | (go_at_call 87; (with_reducible refine (spec_l00In.calls (wrap64 ((rd_T31 l0 0).f0)) 1 6 false _ A4.out).mono ?_); rintro e w' ⟨rfl, ⟨nd, rfl⟩⟩; (try first | exact ⟨rfl, _, World.drewN_drewN _ _ _⟩ | exact ⟨rfl, _, Eq.trans (World.drewN_drewN _ _ _) (congrArg (World.drewN _) (Nat.add_assoc _ _ _))⟩))))
   go_meet
   case rel => exact ⟨_, (true), zi, H', ⟨by first | omega | exact Nat.le_refl _⟩, zl HB⟩
  subst c5
  have H1 : ((spec_l00In.f (((rd_T31 l0 0).f1).length : Int) 1 80).bind fun t163 => (if t163 = true then ((spec_l00In.f (((rd_T31 l0 0).f2).length : Int) 1 8).bind fun t165 => (spec_l04Ok.j0 k l0 (!t165))) else (spec_l04Ok.j0 k l0 true))) = some r := by rw [if_pos rfl] at H; exact H
  clear H
  have H := H1
  clear H1
  replace H := zob H
  obtain ⟨t163, A60, H⟩ := H
  replace H : (if t163 = true then ((spec_l00In.f (((rd_T31 l0 0).f2).length : Int) 1 8).bind fun t165 => (spec_l04Ok.j0 k l0 (!t165))) else (spec_l04Ok.j0 k l0 true)) = some r := H
  have A6 := Aside0.mk A60
  clear A60
  by_cases c7 : t163 = true
  rotate_left
  ·replace c7 := Bool.eq_false_iff.mpr c7
   subst c7
   have H1 : (spec_l04Ok.j0 k l0 true) = some r := by rw [if_neg (show ¬ (false = true) by decide)] at H; exact H
   clear H
   have H := H1
   clear H1
   have H' := Aside0.mk H
   clear H
   have p160 : 0 ≤ (0 : Int) := (by omega)
   have q160 : 0 < (l0.length : Int) := of_decide_eq_true zA
   obtain ⟨ad160, A160_1, c160_1, A160_2, c160_2, e160, hx160_0, hx160_1, hx160_2, hl160_1, hi160_1, hl160_2, hi160_2⟩ := at_T31 HR0.out 0 p160 q160
   obtain rfl : adp0 = ad160 := (by injection e160)
   have qi160 : (0 < l0.length) = True := eq_true (by omega)
   try simp only [z00, Nat.zero_mul, Addr.add_zero'] at hx160_0 hx160_1 hx160_2
   replace hx160_0 := zc HB hx160_0
   replace hx160_1 := zc HB hx160_1
   replace hx160_2 := zc HB hx160_2
   have HR160_1 := Aside0.mk hi160_1
   have HC160_1 := Aside0.mk hl160_1
   clear hi160_1 hl160_1
   have HR160_2 := Aside0.mk hi160_2
   have HC160_2 := Aside0.mk hl160_2
   clear hi160_2 hl160_2
   replace p160 := eq_true p160
   replace q160 := eq_true q160
   go_wp2_with (first | (go_at_call 87; (with_reducible refine (spec_l00In.calls (wrap64 ((rd_T31 l0 0).f0)) 1 6 true _ A4.out).mono ?_); rintro e w' ⟨rfl, ⟨nd, rfl⟩⟩; (try first | exact ⟨rfl, _, World.drewN_drewN _ _ _⟩ | exact ⟨rfl, _, Eq.trans (World.drewN_drewN _ _ _) (congrArg (World.drewN _) (Nat.add_assoc _ _ _))⟩); have p162 : 0 ≤ (0 : Int) := (by omega); have q162 : 0 < (l0.length : Int) := of_decide_eq_true zA; obtain ⟨ad162, A162_1, c162_1, A162_2, c162_2, e162, hx162_0, hx162_1, hx162_2, hl162_1, hi162_1, hl162_2, hi162_2⟩ := at_T31 HR0.out 0 p162 q162; obtain rfl : adp0 = ad162 := (by injection e162); have qi162 : (0 < l0.length) = True := eq_true (by omega); (try simp only [z00, Nat.zero_mul, Addr.add_zero'] at hx162_0 hx162_1 hx162_2); replace hx162_0 := zc HB hx162_0; replace hx162_1 := zc HB hx162_1; replace hx162_2 := zc HB hx162_2; have HR162_1 := Aside0.mk hi162_1; have HC162_1 := Aside0.mk hl162_1; clear hi162_1 hl162_1; have HR162_2 := Aside0.mk hi162_2; have HC162_2 := Aside0.mk hl162_2; clear hi162_2 hl162_2; replace p162 := eq_true p162; replace q162 := eq_true q162; have ea_ := Option.some.inj (hx160_1.symm.trans hx162_1); injection ea_ with ea_ en_ ec_; subst ea_; subst ec_; clear en_; have ea_ := Option.some.inj (hx160_2.symm.trans hx162_2); injection ea_ with ea_ en_ ec_; subst ea_; subst ec_; clear en_) | (go_at_call 87; (with_reducible refine (spec_l00In.calls (((rd_T31 l0 0).f1).length : Int) 1 80 false _ A6.out).mono ?_); rintro e w' ⟨rfl, ⟨nd, rfl⟩⟩; (try first | exact ⟨rfl, _, World.drewN_drewN _ _ _⟩ | exact ⟨rfl, _, Eq.trans (World.drewN_drewN _ _ _) (congrArg (World.drewN _) (Nat.add_assoc _ _ _))⟩)) | go_quiet (first | (go_at_call 87; (with_reducible refine (spec_l00In.calls (wrap64 ((rd_T31 l0 0).f0)) 1 6 true _ A4.out).mono ?_); rintro e w' ⟨rfl, ⟨nd, rfl⟩⟩; (try first | exact ⟨rfl, _, World.drewN_drewN _ _ _⟩ | exact ⟨rfl, _, Eq.trans (World.drewN_drewN _ _ _) (congrArg (World.drewN _) (Nat.add_assoc _ _ _))⟩); have p162 : 0 ≤ (0 : Int) := (by omega); have q162 : 0 < (l0.length : Int) := of_decide_eq_true zA; obtain ⟨ad162, A162_1, c162_1, A162_2, c162_2, e162, hx162_0, hx162_1, hx162_2, hl162_1, hi162_1, hl162_2, hi162_2⟩ := at_T31 HR0.out 0 p162 q162; obtain rfl : adp0 = ad162 := (by injection e162); have qi162 : (0 < l0.length) = True := eq_true (by omega); (try simp only [z00, Nat.zero_mul, Addr.add_zero'] at hx162_0 hx162_1 hx162_2); replace hx162_0 := zc HB hx162_0; replace hx162_1 := zc HB hx162_1; replace hx162_2 := zc HB hx162_2; have HR162_1 := Aside0.mk hi162_1; have HC162_1 := Aside0.mk hl162_1; clear hi162_1 hl162_1; have HR162_2 := Aside0.mk hi162_2; have HC162_2 := Aside0.mk hl162_2; clear hi162_2 hl162_2; replace p162 := eq_true p162; replace q162 := eq_true q162; have ea_ := Option.some.inj (hx160_1.symm.trans hx162_1); injection ea_ with ea_ en_ ec_; subst ea_; subst ec_; clear en_; have ea_ := Option.some.inj (hx160_2.symm.trans hx162_2); injection ea_ with ea_ en_ ec_; subst ea_; subst ec_; clear en_) | (go_at_call 87; (with_reducible refine (spec_l00In.calls (((rd_T31 l0 0).f1).length : Int) 1 80 false _ A6.out).mono ?_); rintro e w' ⟨rfl, ⟨nd, rfl⟩⟩; (try first | exact ⟨rfl, _, World.drewN_drewN _ _ _⟩ | exact ⟨rfl, _, Eq.trans (World.drewN_drewN _ _ _) (congrArg (World.drewN _) (Nat.add_assoc _ _ _))⟩))))
   go_meet
   case rel => exact ⟨_, (true), zi, H', ⟨by first | omega | exact Nat.le_refl _⟩, zl HB⟩
  subst c7
  have H1 : ((spec_l00In.f (((rd_T31 l0 0).f2).length : Int) 1 8).bind fun t165 => (spec_l04Ok.j0 k l0 (!t165))) = some r := by rw [if_pos rfl] at H; exact H
  clear H
  have H := H1
  clear H1
  replace H := zob H
  obtain ⟨t165, A80, H⟩ := H
  replace H : (spec_l04Ok.j0 k l0 (!t165)) = some r := H
  have A8 := Aside0.mk A80
  clear A80
  have H' := Aside0.mk H
  clear H
  have p160 : 0 ≤ (0 : Int) := (by omega)
  have q160 : 0 < (l0.length : Int) := of_decide_eq_true zA
  obtain ⟨ad160, A160_1, c160_1, A160_2, c160_2, e160, hx160_0, hx160_1, hx160_2, hl160_1, hi160_1, hl160_2, hi160_2⟩ := at_T31 HR0.out 0 p160 q160
  obtain rfl : adp0 = ad160 := (by injection e160)
  have qi160 : (0 < l0.length) = True := eq_true (by omega)
  try simp only [z00, Nat.zero_mul, Addr.add_zero'] at hx160_0 hx160_1 hx160_2
  replace hx160_0 := zc HB hx160_0
  replace hx160_1 := zc HB hx160_1
  replace hx160_2 := zc HB hx160_2
  have HR160_1 := Aside0.mk hi160_1
  have HC160_1 := Aside0.mk hl160_1
  clear hi160_1 hl160_1
  have HR160_2 := Aside0.mk hi160_2
  have HC160_2 := Aside0.mk hl160_2
  clear hi160_2 hl160_2
  replace p160 := eq_true p160
  replace q160 := eq_true q160
  go_wp2_with (first | (go_at_call 87; (with_reducible refine (spec_l00In.calls (wrap64 ((rd_T31 l0 0).f0)) 1 6 true _ A4.out).mono ?_); rintro e w' ⟨rfl, ⟨nd, rfl⟩⟩; (try first | exact ⟨rfl, _, World.drewN_drewN _ _ _⟩ | exact ⟨rfl, _, Eq.trans (World.drewN_drewN _ _ _) (congrArg (World.drewN _) (Nat.add_assoc _ _ _))⟩); have p162 : 0 ≤ (0 : Int) := (by omega); have q162 : 0 < (l0.length : Int) := of_decide_eq_true zA; obtain ⟨ad162, A162_1, c162_1, A162_2, c162_2, e162, hx162_0, hx162_1, hx162_2, hl162_1, hi162_1, hl162_2, hi162_2⟩ := at_T31 HR0.out 0 p162 q162; obtain rfl : adp0 = ad162 := (by injection e162); have qi162 : (0 < l0.length) = True := eq_true (by omega); (try simp only [z00, Nat.zero_mul, Addr.add_zero'] at hx162_0 hx162_1 hx162_2); replace hx162_0 := zc HB hx162_0; replace hx162_1 := zc HB hx162_1; replace hx162_2 := zc HB hx162_2; have HR162_1 := Aside0.mk hi162_1; have HC162_1 := Aside0.mk hl162_1; clear hi162_1 hl162_1; have HR162_2 := Aside0.mk hi162_2; have HC162_2 := Aside0.mk hl162_2; clear hi162_2 hl162_2; replace p162 := eq_true p162; replace q162 := eq_true q162; have ea_ := Option.some.inj (hx160_1.symm.trans hx162_1); injection ea_ with ea_ en_ ec_; subst ea_; subst ec_; clear en_; have ea_ := Option.some.inj (hx160_2.symm.trans hx162_2); injection ea_ with ea_ en_ ec_; subst ea_; subst ec_; clear en_) | (go_at_call 87; (with_reducible refine (spec_l00In.calls (((rd_T31 l0 0).f1).length : Int) 1 80 true _ A6.out).mono ?_); rintro e w' ⟨rfl, ⟨nd, rfl⟩⟩; (try first | exact ⟨rfl, _, World.drewN_drewN _ _ _⟩ | exact ⟨rfl, _, Eq.trans (World.drewN_drewN _ _ _) (congrArg (World.drewN _) (Nat.add_assoc _ _ _))⟩); have p164 : 0 ≤ (0 : Int) := (by omega); have q164 : 0 < (l0.length : Int) := of_decide_eq_true zA; obtain ⟨ad164, A164_1, c164_1, A164_2, c164_2, e164, hx164_0, hx164_1, hx164_2, hl164_1, hi164_1, hl164_2, hi164_2⟩ := at_T31 HR0.out 0 p164 q164; obtain rfl : adp0 = ad164 := (by injection e164); have qi164 : (0 < l0.length) = True := eq_true (by omega); (try simp only [z00, Nat.zero_mul, Addr.add_zero'] at hx164_0 hx164_1 hx164_2); replace hx164_0 := zc HB hx164_0; replace hx164_1 := zc HB hx164_1; replace hx164_2 := zc HB hx164_2; have HR164_1 := Aside0.mk hi164_1; have HC164_1 := Aside0.mk hl164_1; clear hi164_1 hl164_1; have HR164_2 := Aside0.mk hi164_2; have HC164_2 := Aside0.mk hl164_2; clear hi164_2 hl164_2; replace p164 := eq_true p164; replace q164 := eq_true q164; have ea_ := Option.some.inj (hx160_1.symm.trans hx164_1); injection ea_ with ea_ en_ ec_; subst ea_; subst ec_; clear en_; have ea_ := Option.some.inj (hx160_2.symm.trans hx164_2); injection ea_ with ea_ en_ ec_; subst ea_; subst ec_; clear en_) | (go_at_call 87; (with_reducible refine (spec_l00In.calls (((rd_T31 l0 0).f2).length : Int) 1 8 t165 _ A8.out).mono ?_); rintro e w' ⟨rfl, ⟨nd, rfl⟩⟩; (try first | exact ⟨rfl, _, World.drewN_drewN _ _ _⟩ | exact ⟨rfl, _, Eq.trans (World.drewN_drewN _ _ _) (congrArg (World.drewN _) (Nat.add_assoc _ _ _))⟩)) | go_quiet (first | (go_at_call 87; (with_reducible refine (spec_l00In.calls (wrap64 ((rd_T31 l0 0).f0)) 1 6 true _ A4.out).mono ?_); rintro e w' ⟨rfl, ⟨nd, rfl⟩⟩; (try first | exact ⟨rfl, _, World.drewN_drewN _ _ _⟩ | exact ⟨rfl, _, Eq.trans (World.drewN_drewN _ _ _) (congrArg (World.drewN _) (Nat.add_assoc _ _ _))⟩); have p162 : 0 ≤ (0 : Int) := (by omega); have q162 : 0 < (l0.length : Int) := of_decide_eq_true zA; obtain ⟨ad162, A162_1, c162_1, A162_2, c162_2, e162, hx162_0, hx162_1, hx162_2, hl162_1, hi162_1, hl162_2, hi162_2⟩ := at_T31 HR0.out 0 p162 q162; obtain rfl : adp0 = ad162 := (by injection e162); have qi162 : (0 < l0.length) = True := eq_true (by omega); (try simp only [z00, Nat.zero_mul, Addr.add_zero'] at hx162_0 hx162_1 hx162_2); replace hx162_0 := zc HB hx162_0; replace hx162_1 := zc HB hx162_1; replace hx162_2 := zc HB hx162_2; have HR162_1 := Aside0.mk hi162_1; have HC162_1 := Aside0.mk hl162_1; clear hi162_1 hl162_1; have HR162_2 := Aside0.mk hi162_2; have HC162_2 := Aside0.mk hl162_2; clear hi162_2 hl162_2; replace p162 := eq_true p162; replace q162 := eq_true q162; have ea_ := Option.some.inj (hx160_1.symm.trans hx162_1); injection ea_ with ea_ en_ ec_; subst ea_; subst ec_; clear en_; have ea_ := Option.some.inj (hx160_2.symm.trans hx162_2); injection ea_ with ea_ en_ ec_; subst ea_; subst ec_; clear en_) | (go_at_call 87; (with_reducible refine (spec_l00In.calls (((rd_T31 l0 0).f1).length : Int) 1 80 true _ A6.out).mono ?_); rintro e w' ⟨rfl, ⟨nd, rfl⟩⟩; (try first | exact ⟨rfl, _, World.drewN_drewN _ _ _⟩ | exact ⟨rfl, _, Eq.trans (World.drewN_drewN _ _ _) (congrArg (World.drewN _) (Nat.add_assoc _ _ _))⟩); have p164 : 0 ≤ (0 : Int) := (by omega); have q164 : 0 < (l0.length : Int) := of_decide_eq_true zA; obtain ⟨ad164, A164_1, c164_1, A164_2, c164_2, e164, hx164_0, hx164_1, hx164_2, hl164_1, hi164_1, hl164_2, hi164_2⟩ := at_T31 HR0.out 0 p164 q164; obtain rfl : adp0 = ad164 := (by injection e164); have qi164 : (0 < l0.length) = True := eq_true (by omega); (try simp only [z00, Nat.zero_mul, Addr.add_zero'] at hx164_0 hx164_1 hx164_2); replace hx164_0 := zc HB hx164_0; replace hx164_1 := zc HB hx164_1; replace hx164_2 := zc HB hx164_2; have HR164_1 := Aside0.mk hi164_1; have HC164_1 := Aside0.mk hl164_1; clear hi164_1 hl164_1; have HR164_2 := Aside0.mk hi164_2; have HC164_2 := Aside0.mk hl164_2; clear hi164_2 hl164_2; replace p164 := eq_true p164; replace q164 := eq_true q164; have ea_ := Option.some.inj (hx160_1.symm.trans hx164_1); injection ea_ with ea_ en_ ec_; subst ea_; subst ec_; clear en_; have ea_ := Option.some.inj (hx160_2.symm.trans hx164_2); injection ea_ with ea_ en_ ec_; subst ea_; subst ec_; clear en_) | (go_at_call 87; (with_reducible refine (spec_l00In.calls (((rd_T31 l0 0).f2).length : Int) 1 8 t165 _ A8.out).mono ?_); rintro e w' ⟨rfl, ⟨nd, rfl⟩⟩; (try first | exact ⟨rfl, _, World.drewN_drewN _ _ _⟩ | exact ⟨rfl, _, Eq.trans (World.drewN_drewN _ _ _) (congrArg (World.drewN _) (Nat.add_assoc _ _ _))⟩))))
  go_meet
  case rel => exact ⟨_, (!t165), zi, H', ⟨by first | omega | exact Nat.le_refl _⟩, zl HB⟩
 clear HC2
 try clear c1
 try clear p1
 try clear q1
 try clear hx1
 try clear qi1
 try clear p2
 try clear c3
 try clear c3b0
 try clear c3b1
 try clear c5
 try clear p6
 try clear c7
 try clear c8
 try clear hx160_0
 try clear hx160_1
 try clear hx160_2
 try clear hx162_0
 try clear hx162_1
 try clear hx162_2
 try clear hx164_0
 try clear hx164_1
 try clear hx164_2
 try clear p160
 try clear p162
 try clear p164
 try clear q160
 try clear q162
 try clear q164
 obtain ⟨kq, x29_1, rfl, HA, HJ1, HB⟩ := hcut
 cases kq with
 | zero => exact absurd HA.out (by simp [spec_l04Ok.j0])
 | succ kj1 => ?_
 have H := HA.out
 clear HA
 simp only [spec_l04Ok.j0] at H
 by_cases c9 : x29_1 = true
 ·subst c9
  have H1 : (some false) = some r := by rw [if_pos rfl] at H; exact H
  clear H
  have H := H1
  clear H1
  obtain rfl := Option.some.inj H
  go_wp2
  repeat (go_quiet (fail); try go_wp2)
  go_ret
  exact ⟨zv, zbo⟩
 replace c9 := Bool.eq_false_iff.mpr c9
 subst c9
 have H1 : (spec_l04Ok.l0 kj1 l0 0) = some r := by rw [if_neg (show ¬ (false = true) by decide)] at H; exact H
 clear H
 have H := H1
 clear H1
 have H' := Aside0.mk H
 clear H
 go_wp2
 repeat (go_quiet (fail); try go_wp2)
 go_loopg [3] kj1 (fun kq v3 w' => ∃ (x3_2 : Int), v3 = .int .i64 x3_2 ∧ Aside0 (spec_l04Ok.l0 kq l0 x3_2 = some r) ∧ Aside0 (kq ≤ kj1) ∧ Aside0 (Below w.heap.size w w'))
 case atStart => exact ⟨(0), zi, H', ⟨Nat.le_refl _⟩, zl HB⟩
 clear H'
 try clear c1
 try clear p1
 try clear q1
 try clear hx1
 try clear qi1
 try clear p2
 try clear c3
 try clear c3b0
 try clear c3b1
 try clear c5
 try clear p6
 try clear c7
 try clear c8
 try clear c9
 try clear hx160_0
 try clear hx160_1
 try clear hx160_2
 try clear hx162_0
 try clear hx162_1
 try clear hx162_2
 try clear hx164_0
 try clear hx164_1
 try clear hx164_2
 try clear p1
 try clear p160
 try clear p162
 try clear p164
 try clear p2
 try clear p6
 try clear q1
 try clear q160
 try clear q162
 try clear q164
 obtain ⟨x3_2, rfl, HA, HK2, HB⟩ := hrel
 cases gk with
 | zero => exact absurd HA.out (by simp [spec_l04Ok.l0])
 | succ k2 => ?_
 have H := HA.out
 clear HA
 simp only [spec_l04Ok.l0] at H
 by_cases c10 : 0 < (l0.length : Int)
 rotate_left
 ·rw [if_neg c10] at H
  exact absurd H (by simp)
 rw [if_pos c10] at H
 have c10b0 : decide (0 < (l0.length : Int)) = true := decide_eq_true c10
 have c10b1 : decide (0 < l0.length) = true := decide_eq_true (by omega)
 clear c10
 by_cases c11 : x3_2 < (((rd_T31 l0 0).f1).length : Int)
 ·rw [if_pos c11] at H
  have c11b0 : decide (x3_2 < (((rd_T31 l0 0).f1).length : Int)) = true := decide_eq_true c11
  clear c11
  replace H := zob H
  obtain ⟨t167, A120, H⟩ := H
  replace H : (if t167 = true then (spec_l04Ok.l0 k2 l0 (wrap64 (x3_2 + 1))) else (some false)) = some r := H
  have A12 := Aside0.mk A120
  clear A120
  by_cases c13 : t167 = true
  ·subst c13
   have H1 : (spec_l04Ok.l0 k2 l0 (wrap64 (x3_2 + 1))) = some r := by rw [if_pos rfl] at H; exact H
   clear H
   have H := H1
   clear H1
   have H' := Aside0.mk H
   clear H
   have p166 : 0 ≤ (0 : Int) := (by omega)
   have q166 : 0 < (l0.length : Int) := of_decide_eq_true zA
   obtain ⟨ad166, A166_1, c166_1, A166_2, c166_2, e166, hx166_0, hx166_1, hx166_2, hl166_1, hi166_1, hl166_2, hi166_2⟩ := at_T31 HR0.out 0 p166 q166
   obtain rfl : adp0 = ad166 := (by injection e166)
   have qi166 : (0 < l0.length) = True := eq_true (by omega)
   try simp only [z00, Nat.zero_mul, Addr.add_zero'] at hx166_0 hx166_1 hx166_2
   replace hx166_0 := zc HB hx166_0
   replace hx166_1 := zc HB hx166_1
   replace hx166_2 := zc HB hx166_2
   have HR166_1 := Aside0.mk hi166_1
   have HC166_1 := Aside0.mk hl166_1
   clear hi166_1 hl166_1
   have HR166_2 := Aside0.mk hi166_2
   have HC166_2 := Aside0.mk hl166_2
   clear hi166_2 hl166_2
   replace p166 := eq_true p166
   replace q166 := eq_true q166
   go_wp2_with (first | (go_at_call 125; (with_reducible refine (spec_l04Node.calls _ l0 x3_2 true _ ?side1 A12.out).mono ?_); (case side1 => exact zcc HB HR0.out); rintro e w14 ⟨rfl, hb⟩; have n0_ := zb HB hb; clear HB; have HB := n0_; clear n0_; (try clear hb); (try clear hb2); (try clear hk); (try clear hi)) | go_quiet (first | (go_at_call 125; (with_reducible refine (spec_l04Node.calls _ l0 x3_2 true _ ?side1 A12.out).mono ?_); (case side1 => exact zcc HB HR0.out); rintro e w14 ⟨rfl, hb⟩; have n0_ := zb HB hb; clear HB; have HB := n0_; clear n0_; (try clear hb); (try clear hb2); (try clear hk); (try clear hi))))
   go_roundg k2
   case measure => have := HJ1.out; have := HK2.out; omega
   case rel => exact ⟨(wrap64 (x3_2 + 1)), zi, H', ⟨by have := HJ1.out; have := HK2.out; omega⟩, zl HB⟩
  replace c13 := Bool.eq_false_iff.mpr c13
  subst c13
  have H1 : (some false) = some r := by rw [if_neg (show ¬ (false = true) by decide)] at H; exact H
  clear H
  have H := H1
  clear H1
  obtain rfl := Option.some.inj H
  have p166 : 0 ≤ (0 : Int) := (by omega)
  have q166 : 0 < (l0.length : Int) := of_decide_eq_true zA
  obtain ⟨ad166, A166_1, c166_1, A166_2, c166_2, e166, hx166_0, hx166_1, hx166_2, hl166_1, hi166_1, hl166_2, hi166_2⟩ := at_T31 HR0.out 0 p166 q166
  obtain rfl : adp0 = ad166 := (by injection e166)
  have qi166 : (0 < l0.length) = True := eq_true (by omega)
  try simp only [z00, Nat.zero_mul, Addr.add_zero'] at hx166_0 hx166_1 hx166_2
  replace hx166_0 := zc HB hx166_0
  replace hx166_1 := zc HB hx166_1
  replace hx166_2 := zc HB hx166_2
  have HR166_1 := Aside0.mk hi166_1
  have HC166_1 := Aside0.mk hl166_1
  clear hi166_1 hl166_1
  have HR166_2 := Aside0.mk hi166_2
  have HC166_2 := Aside0.mk hl166_2
  clear hi166_2 hl166_2
  replace p166 := eq_true p166
  replace q166 := eq_true q166
  go_wp2_with (first | (go_at_call 125; (with_reducible refine (spec_l04Node.calls _ l0 x3_2 false _ ?side1 A12.out).mono ?_); (case side1 => exact zcc HB HR0.out); rintro e w15 ⟨rfl, hb⟩; have n0_ := zb HB hb; clear HB; have HB := n0_; clear n0_; (try clear hb); (try clear hb2); (try clear hk); (try clear hi)) | go_quiet (first | (go_at_call 125; (with_reducible refine (spec_l04Node.calls _ l0 x3_2 false _ ?side1 A12.out).mono ?_); (case side1 => exact zcc HB HR0.out); rintro e w15 ⟨rfl, hb⟩; have n0_ := zb HB hb; clear HB; have HB := n0_; clear n0_; (try clear hb); (try clear hb2); (try clear hk); (try clear hi))))
  go_ret
  exact ⟨zv, zbo⟩
 rw [if_neg c11] at H
 have c11b0 : decide (x3_2 < (((rd_T31 l0 0).f1).length : Int)) = false := decide_eq_false c11
 clear c11
 have H' := Aside0.mk H
 clear H
 have p166 : 0 ≤ (0 : Int) := (by omega)
 have q166 : 0 < (l0.length : Int) := of_decide_eq_true zA
 obtain ⟨ad166, A166_1, c166_1, A166_2, c166_2, e166, hx166_0, hx166_1, hx166_2, hl166_1, hi166_1, hl166_2, hi166_2⟩ := at_T31 HR0.out 0 p166 q166
 obtain rfl : adp0 = ad166 := (by injection e166)
 have qi166 : (0 < l0.length) = True := eq_true (by omega)
 try simp only [z00, Nat.zero_mul, Addr.add_zero'] at hx166_0 hx166_1 hx166_2
 replace hx166_0 := zc HB hx166_0
 replace hx166_1 := zc HB hx166_1
 replace hx166_2 := zc HB hx166_2
 have HR166_1 := Aside0.mk hi166_1
 have HC166_1 := Aside0.mk hl166_1
 clear hi166_1 hl166_1
 have HR166_2 := Aside0.mk hi166_2
 have HC166_2 := Aside0.mk hl166_2
 clear hi166_2 hl166_2
 replace p166 := eq_true p166
 replace q166 := eq_true q166
 go_wp2
 repeat (go_quiet (fail); try go_wp2)
 go_loopg [4] k2 (fun kq v4 w' => ∃ (x4_3 : Int), v4 = .int .i64 x4_3 ∧ Aside0 (spec_l04Ok.l1 kq l0 x4_3 = some r) ∧ Aside0 (kq ≤ k2) ∧ Aside0 (Below w.heap.size w w'))
 case atStart => exact ⟨(0), zi, H', ⟨Nat.le_refl _⟩, zl HB⟩
 clear H'
 try clear c1
 try clear p1
 try clear q1
 try clear hx1
 try clear qi1
 try clear p2
 try clear c3
 try clear c3b0
 try clear c3b1
 try clear c5
 try clear p6
 try clear c7
 try clear c8
 try clear c9
 try clear c10
 try clear c10b0
 try clear c10b1
 try clear c11
 try clear c11b0
 try clear c13
 try clear hx160_0
 try clear hx160_1
 try clear hx160_2
 try clear hx162_0
 try clear hx162_1
 try clear hx162_2
 try clear hx164_0
 try clear hx164_1
 try clear hx164_2
 try clear hx166_0
 try clear hx166_1
 try clear hx166_2
 try clear p1
 try clear p160
 try clear p162
 try clear p164
 try clear p166
 try clear p2
 try clear p6
 try clear q1
 try clear q160
 try clear q162
 try clear q164
 try clear q166
 obtain ⟨x4_3, rfl, HA, HK3, HB⟩ := hrel
 cases gk with
 | zero => exact absurd HA.out (by simp [spec_l04Ok.l1])
 | succ k3 => ?_
 have H := HA.out
 clear HA
 simp only [spec_l04Ok.l1] at H
 by_cases c16 : 0 < (l0.length : Int)
 rotate_left
 ·rw [if_neg c16] at H
  exact absurd H (by simp)
 rw [if_pos c16] at H
 have c16b0 : decide (0 < (l0.length : Int)) = true := decide_eq_true c16
 have c16b1 : decide (0 < l0.length) = true := decide_eq_true (by omega)
 clear c16
 by_cases c17 : x4_3 < (((rd_T31 l0 0).f2).length : Int)
 rotate_left
 ·rw [if_neg c17] at H
  have c17b0 : decide (x4_3 < (((rd_T31 l0 0).f2).length : Int)) = false := decide_eq_false c17
  clear c17
  obtain rfl := Option.some.inj H
  have p168 : 0 ≤ (0 : Int) := (by omega)
  have q168 : 0 < (l0.length : Int) := of_decide_eq_true zA
  obtain ⟨ad168, A168_1, c168_1, A168_2, c168_2, e168, hx168_0, hx168_1, hx168_2, hl168_1, hi168_1, hl168_2, hi168_2⟩ := at_T31 HR0.out 0 p168 q168
  obtain rfl : adp0 = ad168 := (by injection e168)
  have qi168 : (0 < l0.length) = True := eq_true (by omega)
  try simp only [z00, Nat.zero_mul, Addr.add_zero'] at hx168_0 hx168_1 hx168_2
  replace hx168_0 := zc HB hx168_0
  replace hx168_1 := zc HB hx168_1
  replace hx168_2 := zc HB hx168_2
  have HR168_1 := Aside0.mk hi168_1
  have HC168_1 := Aside0.mk hl168_1
  clear hi168_1 hl168_1
  have HR168_2 := Aside0.mk hi168_2
  have HC168_2 := Aside0.mk hl168_2
  clear hi168_2 hl168_2
  replace p168 := eq_true p168
  replace q168 := eq_true q168
  go_wp2
  repeat (go_quiet (fail); try go_wp2)
  go_ret
  exact ⟨zv, zbo⟩
 rw [if_pos c17] at H
 have c17b0 : decide (x4_3 < (((rd_T31 l0 0).f2).length : Int)) = true := decide_eq_true c17
 clear c17
 by_cases c18 : 0 ≤ x4_3
 rotate_left
 ·rw [if_neg c18] at H
  exact absurd H (by simp)
 rw [if_pos c18] at H
 have c18b0 : decide (0 ≤ x4_3) = true := decide_eq_true c18
 clear c18
 by_cases c19 : (rd ((rd_T31 l0 0).f2) x4_3) < 0
 ·rw [if_pos c19] at H
  have c19b0 : decide ((rd ((rd_T31 l0 0).f2) x4_3) < 0) = true := decide_eq_true c19
  clear c19
  obtain rfl := Option.some.inj H
  have p168 : 0 ≤ (0 : Int) := (by omega)
  have q168 : 0 < (l0.length : Int) := of_decide_eq_true zA
  obtain ⟨ad168, A168_1, c168_1, A168_2, c168_2, e168, hx168_0, hx168_1, hx168_2, hl168_1, hi168_1, hl168_2, hi168_2⟩ := at_T31 HR0.out 0 p168 q168
  obtain rfl : adp0 = ad168 := (by injection e168)
  have qi168 : (0 < l0.length) = True := eq_true (by omega)
  try simp only [z00, Nat.zero_mul, Addr.add_zero'] at hx168_0 hx168_1 hx168_2
  replace hx168_0 := zc HB hx168_0
  replace hx168_1 := zc HB hx168_1
  replace hx168_2 := zc HB hx168_2
  have HR168_1 := Aside0.mk hi168_1
  have HC168_1 := Aside0.mk hl168_1
  clear hi168_1 hl168_1
  have HR168_2 := Aside0.mk hi168_2
  have HC168_2 := Aside0.mk hl168_2
  clear hi168_2 hl168_2
  replace p168 := eq_true p168
  replace q168 := eq_true q168
  have p169 : 0 ≤ (0 : Int) := (by omega)
  have q169 : 0 < (l0.length : Int) := of_decide_eq_true zA
  obtain ⟨ad169, A169_1, c169_1, A169_2, c169_2, e169, hx169_0, hx169_1, hx169_2, hl169_1, hi169_1, hl169_2, hi169_2⟩ := at_T31 HR0.out 0 p169 q169
  obtain rfl : adp0 = ad169 := (by injection e169)
  have qi169 : (0 < l0.length) = True := eq_true (by omega)
  try simp only [z00, Nat.zero_mul, Addr.add_zero'] at hx169_0 hx169_1 hx169_2
  replace hx169_0 := zc HB hx169_0
  replace hx169_1 := zc HB hx169_1
  replace hx169_2 := zc HB hx169_2
  have HR169_1 := Aside0.mk hi169_1
  have HC169_1 := Aside0.mk hl169_1
  clear hi169_1 hl169_1
  have HR169_2 := Aside0.mk hi169_2
  have HC169_2 := Aside0.mk hl169_2
  clear hi169_2 hl169_2
  replace p169 := eq_true p169
  replace q169 := eq_true q169
  have ea_ := Option.some.inj (hx168_1.symm.trans hx169_1)
  injection ea_ with ea_ en_ ec_
  subst ea_
  subst ec_
  clear en_
  have ea_ := Option.some.inj (hx168_2.symm.trans hx169_2)
  injection ea_ with ea_ en_ ec_
  subst ea_
  subst ec_
  clear en_
  have p170 : 0 ≤ (x4_3 : Int) := of_decide_eq_true zA
  have q170 : x4_3 < (((rd_T31 l0 0).f2).length : Int) := of_decide_eq_true zA
  obtain ⟨ad170, e170, hx170_0⟩ := Kd.at_int HR169_2.out x4_3 p170 q170
  cases e170
  replace hx170_0 := zc HB hx170_0
  replace p170 := eq_true p170
  replace q170 := eq_true q170
  go_wp2
  repeat (go_quiet (fail); try go_wp2)
  go_ret
  exact ⟨zv, zbo⟩
 rw [if_neg c19] at H
 have c19b0 : decide ((rd ((rd_T31 l0 0).f2) x4_3) < 0) = false := decide_eq_false c19
 clear c19
 by_cases c20 : (wrap64 (rd ((rd_T31 l0 0).f2) x4_3)) ≥ (((rd_T31 l0 0).f1).length : Int)
 ·rw [if_pos c20] at H
  have c20b0 : decide ((((rd_T31 l0 0).f1).length : Int) ≤ (wrap64 (rd ((rd_T31 l0 0).f2) x4_3))) = true := decide_eq_true c20
  clear c20
  obtain rfl := Option.some.inj H
  have p168 : 0 ≤ (0 : Int) := (by omega)
  have q168 : 0 < (l0.length : Int) := of_decide_eq_true zA
  obtain ⟨ad168, A168_1, c168_1, A168_2, c168_2, e168, hx168_0, hx168_1, hx168_2, hl168_1, hi168_1, hl168_2, hi168_2⟩ := at_T31 HR0.out 0 p168 q168
  obtain rfl : adp0 = ad168 := (by injection e168)
  have qi168 : (0 < l0.length) = True := eq_true (by omega)
  try simp only [z00, Nat.zero_mul, Addr.add_zero'] at hx168_0 hx168_1 hx168_2
  replace hx168_0 := zc HB hx168_0
  replace hx168_1 := zc HB hx168_1
  replace hx168_2 := zc HB hx168_2
  have HR168_1 := Aside0.mk hi168_1
  have HC168_1 := Aside0.mk hl168_1
  clear hi168_1 hl168_1
  have HR168_2 := Aside0.mk hi168_2
  have HC168_2 := Aside0.mk hl168_2
  clear hi168_2 hl168_2
  replace p168 := eq_true p168
  replace q168 := eq_true q168
  have p169 : 0 ≤ (0 : Int) := (by omega)
  have q169 : 0 < (l0.length : Int) := of_decide_eq_true zA
  obtain ⟨ad169, A169_1, c169_1, A169_2, c169_2, e169, hx169_0, hx169_1, hx169_2, hl169_1, hi169_1, hl169_2, hi169_2⟩ := at_T31 HR0.out 0 p169 q169
  obtain rfl : adp0 = ad169 := (by injection e169)
  have qi169 : (0 < l0.length) = True := eq_true (by omega)
  try simp only [z00, Nat.zero_mul, Addr.add_zero'] at hx169_0 hx169_1 hx169_2
  replace hx169_0 := zc HB hx169_0
  replace hx169_1 := zc HB hx169_1
  replace hx169_2 := zc HB hx169_2
  have HR169_1 := Aside0.mk hi169_1
  have HC169_1 := Aside0.mk hl169_1
  clear hi169_1 hl169_1
  have HR169_2 := Aside0.mk hi169_2
  have HC169_2 := Aside0.mk hl169_2
  clear hi169_2 hl169_2
  replace p169 := eq_true p169
  replace q169 := eq_true q169
  have ea_ := Option.some.inj (hx168_1.symm.trans hx169_1)
  injection ea_ with ea_ en_ ec_
  subst ea_
  subst ec_
  clear en_
  have ea_ := Option.some.inj (hx168_2.symm.trans hx169_2)
  injection ea_ with ea_ en_ ec_
  subst ea_
  subst ec_
  clear en_
  have p170 : 0 ≤ (x4_3 : Int) := of_decide_eq_true zA
  have q170 : x4_3 < (((rd_T31 l0 0).f2).length : Int) := of_decide_eq_true zA
  obtain ⟨ad170, e170, hx170_0⟩ := Kd.at_int HR169_2.out x4_3 p170 q170
  cases e170
  replace hx170_0 := zc HB hx170_0
  replace p170 := eq_true p170
  replace q170 := eq_true q170
  have p171 : 0 ≤ (0 : Int) := (by omega)
  have q171 : 0 < (l0.length : Int) := of_decide_eq_true zA
  obtain ⟨ad171, A171_1, c171_1, A171_2, c171_2, e171, hx171_0, hx171_1, hx171_2, hl171_1, hi171_1, hl171_2, hi171_2⟩ := at_T31 HR0.out 0 p171 q171
  obtain rfl : adp0 = ad171 := (by injection e171)
  have qi171 : (0 < l0.length) = True := eq_true (by omega)
  try simp only [z00, Nat.zero_mul, Addr.add_zero'] at hx171_0 hx171_1 hx171_2
  replace hx171_0 := zc HB hx171_0
  replace hx171_1 := zc HB hx171_1
  replace hx171_2 := zc HB hx171_2
  have HR171_1 := Aside0.mk hi171_1
  have HC171_1 := Aside0.mk hl171_1
  clear hi171_1 hl171_1
  have HR171_2 := Aside0.mk hi171_2
  have HC171_2 := Aside0.mk hl171_2
  clear hi171_2 hl171_2
  replace p171 := eq_true p171
  replace q171 := eq_true q171
  have ea_ := Option.some.inj (hx168_1.symm.trans hx171_1)
  injection ea_ with ea_ en_ ec_
  subst ea_
  subst ec_
  clear en_
  have ea_ := Option.some.inj (hx168_2.symm.trans hx171_2)
  injection ea_ with ea_ en_ ec_
  subst ea_
  subst ec_
  clear en_
  have p172 : 0 ≤ (x4_3 : Int) := of_decide_eq_true zA
  have q172 : x4_3 < (((rd_T31 l0 0).f2).length : Int) := of_decide_eq_true zA
  obtain ⟨ad172, e172, hx172_0⟩ := Kd.at_int HR171_2.out x4_3 p172 q172
  obtain rfl : ad170 = ad172 := (by injection e172)
  replace hx172_0 := zc HB hx172_0
  replace p172 := eq_true p172
  replace q172 := eq_true q172
  have p173 : 0 ≤ (0 : Int) := (by omega)
  have q173 : 0 < (l0.length : Int) := of_decide_eq_true zA
  obtain ⟨ad173, A173_1, c173_1, A173_2, c173_2, e173, hx173_0, hx173_1, hx173_2, hl173_1, hi173_1, hl173_2, hi173_2⟩ := at_T31 HR0.out 0 p173 q173
  obtain rfl : adp0 = ad173 := (by injection e173)
  have qi173 : (0 < l0.length) = True := eq_true (by omega)
  try simp only [z00, Nat.zero_mul, Addr.add_zero'] at hx173_0 hx173_1 hx173_2
  replace hx173_0 := zc HB hx173_0
  replace hx173_1 := zc HB hx173_1
  replace hx173_2 := zc HB hx173_2
  have HR173_1 := Aside0.mk hi173_1
  have HC173_1 := Aside0.mk hl173_1
  clear hi173_1 hl173_1
  have HR173_2 := Aside0.mk hi173_2
  have HC173_2 := Aside0.mk hl173_2
  clear hi173_2 hl173_2
  replace p173 := eq_true p173
  replace q173 := eq_true q173
  have ea_ := Option.some.inj (hx168_1.symm.trans hx173_1)
  injection ea_ with ea_ en_ ec_
  subst ea_
  subst ec_
  clear en_
  have ea_ := Option.some.inj (hx168_2.symm.trans hx173_2)
  injection ea_ with ea_ en_ ec_
  subst ea_
  subst ec_
  clear en_
  go_wp2
  repeat (go_quiet (fail); try go_wp2)
  go_ret
  exact ⟨zv, zbo⟩
 rw [if_neg c20] at H
 have c20b0 : decide ((((rd_T31 l0 0).f1).length : Int) ≤ (wrap64 (rd ((rd_T31 l0 0).f2) x4_3))) = false := decide_eq_false c20
 clear c20
 have H' := Aside0.mk H
 clear H
 have p168 : 0 ≤ (0 : Int) := (by omega)
 have q168 : 0 < (l0.length : Int) := of_decide_eq_true zA
 obtain ⟨ad168, A168_1, c168_1, A168_2, c168_2, e168, hx168_0, hx168_1, hx168_2, hl168_1, hi168_1, hl168_2, hi168_2⟩ := at_T31 HR0.out 0 p168 q168
 obtain rfl : adp0 = ad168 := (by injection e168)
 have qi168 : (0 < l0.length) = True := eq_true (by omega)
 try simp only [z00, Nat.zero_mul, Addr.add_zero'] at hx168_0 hx168_1 hx168_2
 replace hx168_0 := zc HB hx168_0
 replace hx168_1 := zc HB hx168_1
 replace hx168_2 := zc HB hx168_2
 have HR168_1 := Aside0.mk hi168_1
 have HC168_1 := Aside0.mk hl168_1
 clear hi168_1 hl168_1
 have HR168_2 := Aside0.mk hi168_2
 have HC168_2 := Aside0.mk hl168_2
 clear hi168_2 hl168_2
 replace p168 := eq_true p168
 replace q168 := eq_true q168
 have p169 : 0 ≤ (0 : Int) := (by omega)
 have q169 : 0 < (l0.length : Int) := of_decide_eq_true zA
 obtain ⟨ad169, A169_1, c169_1, A169_2, c169_2, e169, hx169_0, hx169_1, hx169_2, hl169_1, hi169_1, hl169_2, hi169_2⟩ := at_T31 HR0.out 0 p169 q169
 obtain rfl : adp0 = ad169 := (by injection e169)
 have qi169 : (0 < l0.length) = True := eq_true (by omega)
 try simp only [z00, Nat.zero_mul, Addr.add_zero'] at hx169_0 hx169_1 hx169_2
 replace hx169_0 := zc HB hx169_0
 replace hx169_1 := zc HB hx169_1
 replace hx169_2 := zc HB hx169_2
 have HR169_1 := Aside0.mk hi169_1
 have HC169_1 := Aside0.mk hl169_1
 clear hi169_1 hl169_1
 have HR169_2 := Aside0.mk hi169_2
 have HC169_2 := Aside0.mk hl169_2
 clear hi169_2 hl169_2
 replace p169 := eq_true p169
 replace q169 := eq_true q169
 have ea_ := Option.some.inj (hx168_1.symm.trans hx169_1)
 injection ea_ with ea_ en_ ec_
 subst ea_
 subst ec_
 clear en_
 have ea_ := Option.some.inj (hx168_2.symm.trans hx169_2)
 injection ea_ with ea_ en_ ec_
 subst ea_
 subst ec_
 clear en_
 have p170 : 0 ≤ (x4_3 : Int) := of_decide_eq_true zA
 have q170 : x4_3 < (((rd_T31 l0 0).f2).length : Int) := of_decide_eq_true zA
 obtain ⟨ad170, e170, hx170_0⟩ := Kd.at_int HR169_2.out x4_3 p170 q170
 cases e170
 replace hx170_0 := zc HB hx170_0
 replace p170 := eq_true p170
 replace q170 := eq_true q170
 have p171 : 0 ≤ (0 : Int) := (by omega)
 have q171 : 0 < (l0.length : Int) := of_decide_eq_true zA
 obtain ⟨ad171, A171_1, c171_1, A171_2, c171_2, e171, hx171_0, hx171_1, hx171_2, hl171_1, hi171_1, hl171_2, hi171_2⟩ := at_T31 HR0.out 0 p171 q171
 obtain rfl : adp0 = ad171 := (by injection e171)
 have qi171 : (0 < l0.length) = True := eq_true (by omega)
 try simp only [z00, Nat.zero_mul, Addr.add_zero'] at hx171_0 hx171_1 hx171_2
 replace hx171_0 := zc HB hx171_0
 replace hx171_1 := zc HB hx171_1
 replace hx171_2 := zc HB hx171_2
 have HR171_1 := Aside0.mk hi171_1
 have HC171_1 := Aside0.mk hl171_1
 clear hi171_1 hl171_1
 have HR171_2 := Aside0.mk hi171_2
 have HC171_2 := Aside0.mk hl171_2
 clear hi171_2 hl171_2
 replace p171 := eq_true p171
 replace q171 := eq_true q171
 have ea_ := Option.some.inj (hx168_1.symm.trans hx171_1)
 injection ea_ with ea_ en_ ec_
 subst ea_
 subst ec_
 clear en_
 have ea_ := Option.some.inj (hx168_2.symm.trans hx171_2)
 injection ea_ with ea_ en_ ec_
 subst ea_
 subst ec_
 clear en_
 have p172 : 0 ≤ (x4_3 : Int) := of_decide_eq_true zA
 have q172 : x4_3 < (((rd_T31 l0 0).f2).length : Int) := of_decide_eq_true zA
 obtain ⟨ad172, e172, hx172_0⟩ := Kd.at_int HR171_2.out x4_3 p172 q172
 obtain rfl : ad170 = ad172 := (by injection e172)
 replace hx172_0 := zc HB hx172_0
 replace p172 := eq_true p172
 replace q172 := eq_true q172
 have p173 : 0 ≤ (0 : Int) := (by omega)
 have q173 : 0 < (l0.length : Int) := of_decide_eq_true zA
 obtain ⟨ad173, A173_1, c173_1, A173_2, c173_2, e173, hx173_0, hx173_1, hx173_2, hl173_1, hi173_1, hl173_2, hi173_2⟩ := at_T31 HR0.out 0 p173 q173
 obtain rfl : adp0 = ad173 := (by injection e173)
 have qi173 : (0 < l0.length) = True := eq_true (by omega)
 try simp only [z00, Nat.zero_mul, Addr.add_zero'] at hx173_0 hx173_1 hx173_2
 replace hx173_0 := zc HB hx173_0
 replace hx173_1 := zc HB hx173_1
 replace hx173_2 := zc HB hx173_2
 have HR173_1 := Aside0.mk hi173_1
 have HC173_1 := Aside0.mk hl173_1
 clear hi173_1 hl173_1
 have HR173_2 := Aside0.mk hi173_2
 have HC173_2 := Aside0.mk hl173_2
 clear hi173_2 hl173_2
 replace p173 := eq_true p173
 replace q173 := eq_true q173
 have ea_ := Option.some.inj (hx168_1.symm.trans hx173_1)
 injection ea_ with ea_ en_ ec_
 subst ea_
 subst ec_
 clear en_
 have ea_ := Option.some.inj (hx168_2.symm.trans hx173_2)
 injection ea_ with ea_ en_ ec_
 subst ea_
 subst ec_
 clear en_
 go_wp2
 repeat (go_quiet (fail); try go_wp2)
 go_roundg k3
 case measure => have := HJ1.out; have := HK2.out; have := HK3.out; omega
 case rel => exact ⟨(wrap64 (x4_3 + 1)), zi, H', ⟨by have := HJ1.out; have := HK2.out; have := HK3.out; omega⟩, zl HB⟩
end Go.Proofs.Ytmpmanfoiocfgaa.PFnExactBothNetworks
