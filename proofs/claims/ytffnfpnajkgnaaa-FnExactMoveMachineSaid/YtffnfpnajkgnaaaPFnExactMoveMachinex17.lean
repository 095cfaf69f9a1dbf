-- WRITTEN by xprint.py, a program of this session's. Not trusted: Lean checks it.
-- packed by pack.py
import Derived.Test.YtffnfpnajkgnaaaPFnExactMoveMachinex0
import Derived.Test.YtffnfpnajkgnaaaPFnExactMoveMachinex14
import Derived.Test.YtffnfpnajkgnaaaPFnExactMoveMachinex15
import Derived.Test.YtffnfpnajkgnaaaPFnExactMoveMachinex16
import Derived.Test.YtffnfpnajkgnaaaTFnExactMoveMachinea
namespace Go.Proofs.Ytffnfpnajkgnaaa.PFnExactMoveMachine
open Go.RowKit Go.Proofs.YtffnfpnajkgnaaaW.PrintWords Go.Proofs.YtffnfpnajkgnaaaW.PrintLast Go.Proofs.YtffnfpnajkgnaaaW.PrintMore Go.Proofs.YtffnfpnajkgnaaaX
attribute [local go_sem] max2_int min2_int max_two min_two max_three min_three max_four min_four   -- for this text's walks alone
set_option maxHeartbeats 8000000
set_option maxRecDepth 100000
set_option linter.unusedVariables false
set_option linter.unusedSimpArgs false

mutual
def impl_ValidMachine.j0 : Nat → Bool → Int → Int → List (S91) → List (S116) → List (S74) → Option (Bool)
  | 0, _, _, _, _, _, _ => none
  | k + 1, x29, x396000, x396001, x396002, x396003, x396004 => if x29 = true then (some false) else (impl_ValidMachine.l0 k x396003 (x396003.length : Int) 0 x396000 x396001 x396002 x396003 x396004)
def impl_ValidMachine.l0 : Nat → List (S116) → Int → Int → Int → Int → List (S91) → List (S116) → List (S74) → Option (Bool)
  | 0, _, _, _, _, _, _, _, _ => none
  | k + 1, x31, x32, x33, x396000, x396001, x396002, x396003, x396004 => if x33 < x32 then (if 0 ≤ x33 then (if x33 < (x31.length : Int) then ((impl_isSide.f (wrap64 ((rd_T116 x31 x33).f1))).bind fun t402 => (if t402 = true then ((impl_Board_at.f k [(⟨x396000, x396001, x396002⟩ : S37)] ((rd_T116 x31 x33).f0.f0) ((rd_T116 x31 x33).f0.f1)).bind fun t403 => (if t403 < 0 then (some false) else (if x33 ≤ (x396003.length : Int) then ((impl_Port_147.f k (x396003.take (x33 : Int).toNat) ((rd_T116 x31 x33).f0.f0) ((rd_T116 x31 x33).f0.f1) ((rd_T116 x31 x33).f1)).bind fun t408 => (if t408 = true then (some false) else (impl_ValidMachine.l0 k x31 x32 (wrap64 (x33 + 1)) x396000 x396001 x396002 x396003 x396004))) else (none)))) else (some false))) else (none)) else (none)) else ((slices_ContainsFunc__impl_ValidMachine_1.f k x396004 [(⟨(⟨x396000, x396001, x396002⟩ : S37), x396003, x396004⟩ : S41)]).bind fun t399 => (some (!t399)))
end
def impl_ValidMachine.f (k : Nat) (a0_0 : Int) (a0_1 : Int) (l0_2 : List (S91)) (l0_3 : List (S116)) (l0_4 : List (S74)) : Option (Bool) := (impl_ValidBoard.f k a0_0 a0_1 l0_2).bind fun t396 => (if t396 = true then (if (l0_2.length : Int) > 60 then (impl_ValidMachine.j0 k true a0_0 a0_1 l0_2 l0_3 l0_4) else ((impl_in.f (l0_3.length : Int) 1 6).bind fun t397 => (if t397 = true then ((impl_in.f (l0_4.length : Int) 1 8).bind fun t398 => (impl_ValidMachine.j0 k (!t398) a0_0 a0_1 l0_2 l0_3 l0_4)) else (impl_ValidMachine.j0 k true a0_0 a0_1 l0_2 l0_3 l0_4)))) else (impl_ValidMachine.j0 k true a0_0 a0_1 l0_2 l0_3 l0_4))
theorem impl_ValidMachine.mono_l : ∀ k, (∀ y0 y1 y2 y3 y4 y5, LeO (impl_ValidMachine.j0 k y0 y1 y2 y3 y4 y5) (impl_ValidMachine.j0 (k + 1) y0 y1 y2 y3 y4 y5)) ∧ (∀ y0 y1 y2 y3 y4 y5 y6 y7, LeO (impl_ValidMachine.l0 k y0 y1 y2 y3 y4 y5 y6 y7) (impl_ValidMachine.l0 (k + 1) y0 y1 y2 y3 y4 y5 y6 y7))
  | 0 => ⟨fun _ _ _ _ _ _ r h => by simp [impl_ValidMachine.j0] at h, fun _ _ _ _ _ _ _ _ r h => by simp [impl_ValidMachine.l0] at h⟩
  | k + 1 => by
    obtain ⟨ih0, ih1⟩ := impl_ValidMachine.mono_l k
    refine ⟨?_, ?_⟩
    · intro y0 y1 y2 y3 y4 y5
      unfold impl_ValidMachine.j0
      repeat' first | (with_reducible first | apply ih0 | apply ih1 | apply impl_Board_at.mono | apply impl_Port_147.mono | apply impl_ValidBoard.mono | apply slices_ContainsFunc__impl_ValidMachine_1.mono | exact LeO.refl _ | exact LeO.none _ | refine LeO.ite ?_ ?_ | refine LeO.bind ?_ (fun _ => ?_)) | apply ih0 | apply ih1 | apply impl_Board_at.mono | apply impl_Port_147.mono | apply impl_ValidBoard.mono | apply slices_ContainsFunc__impl_ValidMachine_1.mono | exact LeO.none _ | refine LeO.ite ?_ ?_ | refine LeO.bind ?_ (fun _ => ?_)
    · intro y0 y1 y2 y3 y4 y5 y6 y7
      unfold impl_ValidMachine.l0
      repeat' first | (with_reducible first | apply ih0 | apply ih1 | apply impl_Board_at.mono | apply impl_Port_147.mono | apply impl_ValidBoard.mono | apply slices_ContainsFunc__impl_ValidMachine_1.mono | exact LeO.refl _ | exact LeO.none _ | refine LeO.ite ?_ ?_ | refine LeO.bind ?_ (fun _ => ?_)) | apply ih0 | apply ih1 | apply impl_Board_at.mono | apply impl_Port_147.mono | apply impl_ValidBoard.mono | apply slices_ContainsFunc__impl_ValidMachine_1.mono | exact LeO.none _ | refine LeO.ite ?_ ?_ | refine LeO.bind ?_ (fun _ => ?_)
theorem impl_ValidMachine.mono : ∀ a0 a1 a2 a3 a4 k, LeO (impl_ValidMachine.f k a0 a1 a2 a3 a4) (impl_ValidMachine.f (k + 1) a0 a1 a2 a3 a4) := by
 intro a0 a1 a2 a3 a4 k
 obtain ⟨ih0, ih1⟩ := impl_ValidMachine.mono_l k
 unfold impl_ValidMachine.f
 repeat' first | (with_reducible first | apply ih0 | apply ih1 | apply impl_Board_at.mono | apply impl_Port_147.mono | apply impl_ValidBoard.mono | apply slices_ContainsFunc__impl_ValidMachine_1.mono | exact LeO.refl _ | exact LeO.none _ | refine LeO.ite ?_ ?_ | refine LeO.bind ?_ (fun _ => ?_)) | apply ih0 | apply ih1 | apply impl_Board_at.mono | apply impl_Port_147.mono | apply impl_ValidBoard.mono | apply slices_ContainsFunc__impl_ValidMachine_1.mono | exact LeO.none _ | refine LeO.ite ?_ ?_ | refine LeO.bind ?_ (fun _ => ?_)
def impl_ValidMachine.T6 : Bool × List (List Nat × List Nat) := (true, [([], []), ([0], [0]), ([1], [1]), ([2], [2]), ([3], [3]), ([4, 3], [4]), ([5], [5]), ([5], [5]), ([7, 5], [5, 7]), ([6, 8, 5, 5], [5, 6, 8]), ([9, 5], [5, 9]), ([5, 10], [5, 10]), ([11, 9], [11]), ([12], [12]), ([13, 12], [12, 13]), ([12], [12]), ([14, 15, 12], [12, 14, 15]), ([12], [12]), ([16, 17, 12, 12], [12, 16, 17]), ([12, 18], [12, 18])])
def impl_ValidMachine.B6 : List Nat := [0, 1, 3, 7, 15, 31, 63, 63, 191, 511, 1023, 2047, 4095, 8191, 16383, 8191, 65535, 8191, 262143, 524287]
theorem impl_ValidMachine.tab6 : rtab .any (opsOf Try.f79 6) = impl_ValidMachine.T6 := by kernel_rfl
theorem impl_ValidMachine.bits6 : waitsOk impl_ValidMachine.T6.2 impl_ValidMachine.B6 = true := by kernel_rfl
theorem impl_ValidMachine.calls (k : Nat) (a0_0 : Int) (a0_1 : Int) (A0_2 : Option Addr) (c0_2 : Nat) (l0_2 : List (S91)) (A0_3 : Option Addr) (c0_3 : Nat) (l0_3 : List (S116)) (A0_4 : Option Addr) (c0_4 : Nat) (l0_4 : List (S74)) (r : Bool) (w : World) (hr0_2 : Kd.C k91 w A0_2 l0_2.length l0_2) (hc0_2 : l0_2.length ≤ c0_2) (hr0_3 : Kd.C k116 w A0_3 l0_3.length l0_3) (hc0_3 : l0_3.length ≤ c0_3) (hr0_4 : Kd.C k74 w A0_4 l0_4.length l0_4) (hc0_4 : l0_4.length ≤ c0_4) (h : impl_ValidMachine.f k a0_0 a0_1 l0_2 l0_3 l0_4 = some r) :
    Calls Try.prog 79 #[.agg #[.int .i8 a0_0, .int .i8 a0_1, .slice A0_2 l0_2.length c0_2, .slice A0_3 l0_3.length c0_3, .slice A0_4 l0_4.length c0_4]] w fun e w' => e = .returned (.bool r) ∧ Below w.heap.size w w' := by
 have hu41 := Try.underlying41
 have hu37 := Try.underlying37
 have hu116 := Try.underlying116
 have hu74 := Try.underlying74
 have HR0_2 := Aside0.mk hr0_2
 have HC0_2 := Aside0.mk hc0_2
 clear hr0_2 hc0_2
 have HR0_3 := Aside0.mk hr0_3
 have HC0_3 := Aside0.mk hc0_3
 clear hr0_3 hc0_3
 have HR0_4 := Aside0.mk hr0_4
 have HC0_4 := Aside0.mk hc0_4
 clear hr0_4 hc0_4
 have HB := Aside0.mk (Below.refl w.heap.size w)
 have H : ((impl_ValidBoard.f k a0_0 a0_1 l0_2).bind fun t396 => (if t396 = true then (if (l0_2.length : Int) > 60 then (impl_ValidMachine.j0 k true a0_0 a0_1 l0_2 l0_3 l0_4) else ((impl_in.f (l0_3.length : Int) 1 6).bind fun t397 => (if t397 = true then ((impl_in.f (l0_4.length : Int) 1 8).bind fun t398 => (impl_ValidMachine.j0 k (!t398) a0_0 a0_1 l0_2 l0_3 l0_4)) else (impl_ValidMachine.j0 k true a0_0 a0_1 l0_2 l0_3 l0_4)))) else (impl_ValidMachine.j0 k true a0_0 a0_1 l0_2 l0_3 l0_4))) = some r := h
 clear h
 have HC2 := Aside0.mk H
 clear H
 go_enter Try.func79, Try.ntmps79
 go_upto_region 1 with (first | ((with_reducible refine gate_dst (N := 1) rfl ?_); (try (refine gate_guard (by rfl) ?_; dsimp only)); refine zbx 1 #[.int .i8 a0_0, .int .i8 a0_1, .slice A0_2 l0_2.length c0_2, .slice A0_3 l0_3.length c0_3, .slice A0_4 l0_4.length c0_4] 41 ?_; intro gb395 hg w3 hbox hb; have n_ : _ ∧ _ ∧ _ ∧ _ := ⟨zb HB hb, Aside0.mk (hbox), zg HB hg, zg HB hg⟩; clear HB; obtain ⟨HB, BK395, GW395, GE395⟩ := n_; clear hb hbox hg))
 (try simp only [Act.put, List.setIfInBounds_toArray, List.set_cons_zero, List.set_cons_succ])
 go_cut [29] (fun v29 wc => ∃ (kq : Nat) (x29_1 : Bool), v29 = .bool x29_1 ∧ Aside0 (impl_ValidMachine.j0 kq x29_1 a0_0 a0_1 l0_2 l0_3 l0_4 = some r) ∧ Aside0 (kq ≤ k) ∧ Aside0 (wc.heap[gb395]? = some (.cells #[.int .i8 a0_0, .int .i8 a0_1, (.slice A0_2 l0_2.length c0_2), (.slice A0_3 l0_3.length c0_3), (.slice A0_4 l0_4.length c0_4)] 41 (0, 0))) ∧ Aside0 (Below w.heap.size w wc))
 case first =>
  have H := HC2.out
  clear HC2
  replace H := zob H
  obtain ⟨t396, A40, H⟩ := H
  replace H : (if t396 = true then (if (l0_2.length : Int) > 60 then (impl_ValidMachine.j0 k true a0_0 a0_1 l0_2 l0_3 l0_4) else ((impl_in.f (l0_3.length : Int) 1 6).bind fun t397 => (if t397 = true then ((impl_in.f (l0_4.length : Int) 1 8).bind fun t398 => (impl_ValidMachine.j0 k (!t398) a0_0 a0_1 l0_2 l0_3 l0_4)) else (impl_ValidMachine.j0 k true a0_0 a0_1 l0_2 l0_3 l0_4)))) else (impl_ValidMachine.j0 k true a0_0 a0_1 l0_2 l0_3 l0_4)) = some r := H
  have A4 := Aside0.mk A40
  clear A40
  by_cases c5 : t396 = true
  rotate_left
  ·replace c5 := Bool.eq_false_iff.mpr c5
   subst c5
   have H1 : (impl_ValidMachine.j0 k true a0_0 a0_1 l0_2 l0_3 l0_4) = some r := by rw [if_neg (show ¬ (false = true) by decide)] at H; exact H
   clear H
   have H := H1
   clear H1
   have H' := Aside0.mk H
   clear H
   obtain ⟨z19_0, z19_1, z19_2, z19_3, z19_4, y19_0, y19_1, y19_2, y19_3, y19_4⟩ := zB5 BK395
   go_wp2_with (first | ((with_reducible refine gate_callee (f := 43) rfl ?_); refine goesL_ (some 7) rfl rfl Try.func43 (by kernel_rfl) rfl #[.agg #[.int .i8 a0_0, .int .i8 a0_1, .slice A0_2 l0_2.length c0_2]] rfl zm ?_; (with_reducible refine (impl_ValidBoard.calls k a0_0 a0_1 _ _ l0_2 false _ ?side1 ?side2 A4.out).mono ?_); (case side1 => exact zcc HB HR0_2.out); (case side2 => exact HC0_2.out); rintro e w20 ⟨rfl, hb⟩; refine ⟨_, rfl, ?_⟩; have n_ : _ ∧ _ := ⟨zk BK395 hb, zbs hb⟩; clear BK395 HB; obtain ⟨BK395, HB⟩ := n_; (try clear hb); (try clear hb2); (try clear hk); (try clear hi)))
   go_meet
   case rel => exact ⟨_, (true), zi, H', ⟨by first | omega | exact Nat.le_refl _⟩, zh BK395, zba⟩
  subst c5
  have H1 : (if (l0_2.length : Int) > 60 then (impl_ValidMachine.j0 k true a0_0 a0_1 l0_2 l0_3 l0_4) else ((impl_in.f (l0_3.length : Int) 1 6).bind fun t397 => (if t397 = true then ((impl_in.f (l0_4.length : Int) 1 8).bind fun t398 => (impl_ValidMachine.j0 k (!t398) a0_0 a0_1 l0_2 l0_3 l0_4)) else (impl_ValidMachine.j0 k true a0_0 a0_1 l0_2 l0_3 l0_4)))) = some r := by rw [if_pos rfl] at H; exact H
  clear H
  have H := H1
  clear H1
  by_cases c6 : (l0_2.length : Int) > 60
  ·rw [if_pos c6] at H
   have c6b0 : decide (60 < (l0_2.length : Int)) = true := decide_eq_true c6
   have c6b1 : decide (60 < l0_2.length) = true := decide_eq_true (by omega)
   clear c6
   (first | rw [c6b0] | (simp only [i64_w, i32_w]; rw [c6b0]) | (have h_ := c6b0; simp only [bne] at h_; rw [h_]) | skip)
   have H' := Aside0.mk H
   clear H
   obtain ⟨z7_0, z7_1, z7_2, z7_3, z7_4, y7_0, y7_1, y7_2, y7_3, y7_4⟩ := zB5 BK395
   go_wp2_with (first | ((with_reducible refine gate_callee (f := 43) rfl ?_); refine goesL_ (some 7) rfl rfl Try.func43 (by kernel_rfl) rfl #[.agg #[.int .i8 a0_0, .int .i8 a0_1, .slice A0_2 l0_2.length c0_2]] rfl zm ?_; (with_reducible refine (impl_ValidBoard.calls k a0_0 a0_1 _ _ l0_2 true _ ?side1 ?side2 A4.out).mono ?_); (case side1 => exact zcc HB HR0_2.out); (case side2 => exact HC0_2.out); rintro e w8 ⟨rfl, hb⟩; refine ⟨_, rfl, ?_⟩; have n_ : _ ∧ _ := ⟨zk BK395 hb, zbs hb⟩; clear BK395 HB; obtain ⟨BK395, HB⟩ := n_; (try clear hb); (try clear hb2); (try clear hk); (try clear hi); obtain ⟨z9_0, z9_1, z9_2, z9_3, z9_4, y9_0, y9_1, y9_2, y9_3, y9_4⟩ := zB5 BK395))
   go_meet
   case rel => exact ⟨_, (true), zi, H', ⟨by first | omega | exact Nat.le_refl _⟩, zh BK395, zba⟩
  rw [if_neg c6] at H
  have c6b0 : decide (60 < (l0_2.length : Int)) = false := decide_eq_false c6
  have c6b1 : decide (60 < l0_2.length) = false := decide_eq_false (by omega)
  clear c6
  (first | rw [c6b0] | (simp only [i64_w, i32_w]; rw [c6b0]) | (have h_ := c6b0; simp only [bne] at h_; rw [h_]) | skip)
  replace H := zob H
  obtain ⟨t397, A100, H⟩ := H
  replace H : (if t397 = true then ((impl_in.f (l0_4.length : Int) 1 8).bind fun t398 => (impl_ValidMachine.j0 k (!t398) a0_0 a0_1 l0_2 l0_3 l0_4)) else (impl_ValidMachine.j0 k true a0_0 a0_1 l0_2 l0_3 l0_4)) = some r := H
  have A10 := Aside0.mk A100
  clear A100
  by_cases c11 : t397 = true
  rotate_left
  ·replace c11 := Bool.eq_false_iff.mpr c11
   subst c11
   have H1 : (impl_ValidMachine.j0 k true a0_0 a0_1 l0_2 l0_3 l0_4) = some r := by rw [if_neg (show ¬ (false = true) by decide)] at H; exact H
   clear H
   have H := H1
   clear H1
   have H' := Aside0.mk H
   clear H
   obtain ⟨z16_0, z16_1, z16_2, z16_3, z16_4, y16_0, y16_1, y16_2, y16_3, y16_4⟩ := zB5 BK395
   go_wp2_with (first | ((with_reducible refine gate_callee (f := 43) rfl ?_); refine goesL_ (some 7) rfl rfl Try.func43 (by kernel_rfl) rfl #[.agg #[.int .i8 a0_0, .int .i8 a0_1, .slice A0_2 l0_2.length c0_2]] rfl zm ?_; (with_reducible refine (impl_ValidBoard.calls k a0_0 a0_1 _ _ l0_2 true _ ?side1 ?side2 A4.out).mono ?_); (case side1 => exact zcc HB HR0_2.out); (case side2 => exact HC0_2.out); rintro e w17 ⟨rfl, hb⟩; refine ⟨_, rfl, ?_⟩; have n_ : _ ∧ _ := ⟨zk BK395 hb, zbs hb⟩; clear BK395 HB; obtain ⟨BK395, HB⟩ := n_; (try clear hb); (try clear hb2); (try clear hk); (try clear hi); obtain ⟨z18_0, z18_1, z18_2, z18_3, z18_4, y18_0, y18_1, y18_2, y18_3, y18_4⟩ := zB5 BK395) | (go_at_call 98; (with_reducible refine (impl_in.calls (l0_3.length : Int) 1 6 false _ A10.out).mono ?_); rintro e w' ⟨rfl, ⟨nd, rfl⟩⟩))
   go_meet
   case rel => exact ⟨_, (true), zi, H', ⟨by first | omega | exact Nat.le_refl _⟩, zh BK395, zba⟩
  subst c11
  have H1 : ((impl_in.f (l0_4.length : Int) 1 8).bind fun t398 => (impl_ValidMachine.j0 k (!t398) a0_0 a0_1 l0_2 l0_3 l0_4)) = some r := by rw [if_pos rfl] at H; exact H
  clear H
  have H := H1
  clear H1
  replace H := zob H
  obtain ⟨t398, A120, H⟩ := H
  replace H : (impl_ValidMachine.j0 k (!t398) a0_0 a0_1 l0_2 l0_3 l0_4) = some r := H
  have A12 := Aside0.mk A120
  clear A120
  have H' := Aside0.mk H
  clear H
  obtain ⟨z13_0, z13_1, z13_2, z13_3, z13_4, y13_0, y13_1, y13_2, y13_3, y13_4⟩ := zB5 BK395
  go_wp2_with (first | ((with_reducible refine gate_callee (f := 43) rfl ?_); refine goesL_ (some 7) rfl rfl Try.func43 (by kernel_rfl) rfl #[.agg #[.int .i8 a0_0, .int .i8 a0_1, .slice A0_2 l0_2.length c0_2]] rfl zm ?_; (with_reducible refine (impl_ValidBoard.calls k a0_0 a0_1 _ _ l0_2 true _ ?side1 ?side2 A4.out).mono ?_); (case side1 => exact zcc HB HR0_2.out); (case side2 => exact HC0_2.out); rintro e w14 ⟨rfl, hb⟩; refine ⟨_, rfl, ?_⟩; have n_ : _ ∧ _ := ⟨zk BK395 hb, zbs hb⟩; clear BK395 HB; obtain ⟨BK395, HB⟩ := n_; (try clear hb); (try clear hb2); (try clear hk); (try clear hi); obtain ⟨z15_0, z15_1, z15_2, z15_3, z15_4, y15_0, y15_1, y15_2, y15_3, y15_4⟩ := zB5 BK395) | (go_at_call 98; (with_reducible refine (impl_in.calls (l0_3.length : Int) 1 6 true _ A10.out).mono ?_); rintro e w' ⟨rfl, ⟨nd, rfl⟩⟩) | (go_at_call 98; (with_reducible refine (impl_in.calls (l0_4.length : Int) 1 8 t398 _ A12.out).mono ?_); rintro e w' ⟨rfl, ⟨nd, rfl⟩⟩))
  go_meet
  case rel => exact ⟨_, (!t398), zi, H', ⟨by first | omega | exact Nat.le_refl _⟩, zh BK395, zba⟩
 clear HC2
 try clear c1
 try clear p2
 try clear c4
 try clear c5
 try clear c6
 try clear c6b0
 try clear c6b1
 try clear c7
 try clear c11
 try clear z13_0 z13_1 z13_2 z13_3 z13_4
 try clear z15_0 z15_1 z15_2 z15_3 z15_4
 try clear z16_0 z16_1 z16_2 z16_3 z16_4
 try clear z18_0 z18_1 z18_2 z18_3 z18_4
 try clear z19_0 z19_1 z19_2 z19_3 z19_4
 try clear z7_0 z7_1 z7_2 z7_3 z7_4
 try clear z9_0 z9_1 z9_2 z9_3 z9_4
 try clear y13_0
 try clear y13_1
 try clear y13_2
 try clear y13_3
 try clear y13_4
 try clear y15_0
 try clear y15_1
 try clear y15_2
 try clear y15_3
 try clear y15_4
 try clear y16_0
 try clear y16_1
 try clear y16_2
 try clear y16_3
 try clear y16_4
 try clear y18_0
 try clear y18_1
 try clear y18_2
 try clear y18_3
 try clear y18_4
 try clear y19_0
 try clear y19_1
 try clear y19_2
 try clear y19_3
 try clear y19_4
 try clear y7_0
 try clear y7_1
 try clear y7_2
 try clear y7_3
 try clear y7_4
 try clear y9_0
 try clear y9_1
 try clear y9_2
 try clear y9_3
 try clear y9_4
 obtain ⟨kq, x29_1, rfl, HA, HJ1, BK395, HB⟩ := hcut
 cases kq with
 | zero => exact absurd HA.out (by simp [impl_ValidMachine.j0])
 | succ kj1 => ?_
 have H := HA.out
 clear HA
 simp only [impl_ValidMachine.j0] at H
 by_cases c21 : x29_1 = true
 ·subst c21
  have H1 : (some false) = some r := by rw [if_pos rfl] at H; exact H
  clear H
  have H := H1
  clear H1
  obtain rfl := Option.some.inj H
  go_wp2
  go_ret
  exact ⟨zv, zbo⟩
 replace c21 := Bool.eq_false_iff.mpr c21
 subst c21
 have H1 : (impl_ValidMachine.l0 kj1 l0_3 (l0_3.length : Int) 0 a0_0 a0_1 l0_2 l0_3 l0_4) = some r := by rw [if_neg (show ¬ (false = true) by decide)] at H; exact H
 clear H
 have H := H1
 clear H1
 have H' := Aside0.mk H
 clear H
 obtain ⟨z22_0, z22_1, z22_2, z22_3, z22_4, y22_0, y22_1, y22_2, y22_3, y22_4⟩ := zB5 BK395
 go_wp2
 go_loopg [33] kj1 (fun kq v33 w' => ∃ (x33_2 : Int), v33 = .int .i64 x33_2 ∧ Aside0 (impl_ValidMachine.l0 kq l0_3 (l0_3.length : Int) x33_2 a0_0 a0_1 l0_2 l0_3 l0_4 = some r) ∧ Aside0 (kq ≤ kj1) ∧ Aside0 (w'.heap[gb395]? = some (.cells #[.int .i8 a0_0, .int .i8 a0_1, (.slice A0_2 l0_2.length c0_2), (.slice A0_3 l0_3.length c0_3), (.slice A0_4 l0_4.length c0_4)] 41 (0, 0))) ∧ Aside0 (Below w.heap.size w w'))
 case atStart => exact ⟨(0), zi, H', ⟨Nat.le_refl _⟩, zh BK395, zba⟩
 clear H'
 try clear c1
 try clear c2
 try clear p2
 try clear c4
 try clear c5
 try clear c6
 try clear c6b0
 try clear c6b1
 try clear c7
 try clear c11
 try clear c21
 try clear z13_0 z13_1 z13_2 z13_3 z13_4
 try clear z15_0 z15_1 z15_2 z15_3 z15_4
 try clear z16_0 z16_1 z16_2 z16_3 z16_4
 try clear z18_0 z18_1 z18_2 z18_3 z18_4
 try clear z19_0 z19_1 z19_2 z19_3 z19_4
 try clear z22_0 z22_1 z22_2 z22_3 z22_4
 try clear z7_0 z7_1 z7_2 z7_3 z7_4
 try clear z9_0 z9_1 z9_2 z9_3 z9_4
 try clear y13_0
 try clear y13_1
 try clear y13_2
 try clear y13_3
 try clear y13_4
 try clear y15_0
 try clear y15_1
 try clear y15_2
 try clear y15_3
 try clear y15_4
 try clear y16_0
 try clear y16_1
 try clear y16_2
 try clear y16_3
 try clear y16_4
 try clear y18_0
 try clear y18_1
 try clear y18_2
 try clear y18_3
 try clear y18_4
 try clear y19_0
 try clear y19_1
 try clear y19_2
 try clear y19_3
 try clear y19_4
 try clear y22_0
 try clear y22_1
 try clear y22_2
 try clear y22_3
 try clear y22_4
 try clear y7_0
 try clear y7_1
 try clear y7_2
 try clear y7_3
 try clear y7_4
 try clear y9_0
 try clear y9_1
 try clear y9_2
 try clear y9_3
 try clear y9_4
 try clear p2
 obtain ⟨x33_2, rfl, HA, HK2, BK395, HB⟩ := hrel
 cases gk with
 | zero => exact absurd HA.out (by simp [impl_ValidMachine.l0])
 | succ k2 => ?_
 have H := HA.out
 clear HA
 simp only [impl_ValidMachine.l0] at H
 by_cases c23 : x33_2 < (l0_3.length : Int)
 rotate_left
 ·rw [if_neg c23] at H
  have c23b0 : decide (x33_2 < (l0_3.length : Int)) = false := decide_eq_false c23
  clear c23
  replace H := zob H
  obtain ⟨t399, A610, H⟩ := H
  replace H : (some (!t399)) = some r := H
  have A61 := Aside0.mk A610
  clear A610
  obtain rfl := Option.some.inj H
  obtain ⟨z62_0, z62_1, z62_2, z62_3, z62_4, y62_0, y62_1, y62_2, y62_3, y62_4⟩ := zB5 BK395
  go_wp2_with (first | ((with_reducible refine gate_callee (f := 148) rfl ?_); refine goesL_ (some 62) rfl rfl Try.func148 (by kernel_rfl) rfl #[.slice A0_4 l0_4.length c0_4, .func (.func 149) #[] #[.pointer (some ⟨gb395, 0, none⟩)]] rfl zm ?_; (with_reducible refine (slices_ContainsFunc__impl_ValidMachine_1.calls k2 _ _ l0_4 _ [(⟨(⟨a0_0, a0_1, l0_2⟩ : S37), l0_3, l0_4⟩ : S41)] t399 _ ?side1 ?side2 ?side3 A61.out).mono ?_); (case side1 => exact zcc HB HR0_4.out); (case side2 => exact HC0_4.out); (case side3 => refine ro_of_blk (T := 41) (cs := #[.int .i8 a0_0, .int .i8 a0_1, .slice A0_2 l0_2.length c0_2, .slice A0_3 l0_3.length c0_3, .slice A0_4 l0_4.length c0_4]) (zh BK395).out ?_; exact k41_mk _ (⟨(⟨a0_0, a0_1, l0_2⟩ : S37), l0_3, l0_4⟩ : S41) (by exact HC0_2.out) (by exact zcc HB HR0_2.out) (by exact HC0_3.out) (by exact zcc HB HR0_3.out) (by exact HC0_4.out) (by exact zcc HB HR0_4.out)); rintro e w63 ⟨rfl, hb⟩; refine ⟨_, rfl, ?_⟩; have n_ : _ ∧ _ := ⟨zk BK395 hb, zbs hb⟩; clear BK395 HB; obtain ⟨BK395, HB⟩ := n_; (try clear hb); (try clear hb2); (try clear hk); (try clear hi)))
  go_ret
  exact ⟨zv, zbo⟩
 rw [if_pos c23] at H
 have c23b0 : decide (x33_2 < (l0_3.length : Int)) = true := decide_eq_true c23
 clear c23
 by_cases c24 : 0 ≤ x33_2
 rotate_left
 ·rw [if_neg c24] at H
  exact absurd H (by simp)
 rw [if_pos c24] at H
 have c24b0 : decide (0 ≤ x33_2) = true := decide_eq_true c24
 clear c24
 by_cases c25 : x33_2 < (l0_3.length : Int)
 rotate_left
 ·rw [if_neg c25] at H
  exact absurd H (by simp)
 rw [if_pos c25] at H
 have c25b0 : decide (x33_2 < (l0_3.length : Int)) = true := decide_eq_true c25
 clear c25
 replace H := zob H
 obtain ⟨t402, A260, H⟩ := H
 replace H : (if t402 = true then ((impl_Board_at.f k2 [(⟨a0_0, a0_1, l0_2⟩ : S37)] ((rd_T116 l0_3 x33_2).f0.f0) ((rd_T116 l0_3 x33_2).f0.f1)).bind fun t403 => (if t403 < 0 then (some false) else (if x33_2 ≤ (l0_3.length : Int) then ((impl_Port_147.f k2 (l0_3.take (x33_2 : Int).toNat) ((rd_T116 l0_3 x33_2).f0.f0) ((rd_T116 l0_3 x33_2).f0.f1) ((rd_T116 l0_3 x33_2).f1)).bind fun t408 => (if t408 = true then (some false) else (impl_ValidMachine.l0 k2 l0_3 (l0_3.length : Int) (wrap64 (x33_2 + 1)) a0_0 a0_1 l0_2 l0_3 l0_4))) else (none)))) else (some false)) = some r := H
 have A26 := Aside0.mk A260
 clear A260
 by_cases c27 : t402 = true
 rotate_left
 ·replace c27 := Bool.eq_false_iff.mpr c27
  subst c27
  have H1 : (some false) = some r := by rw [if_neg (show ¬ (false = true) by decide)] at H; exact H
  clear H
  have H := H1
  clear H1
  obtain rfl := Option.some.inj H
  have p400 : 0 ≤ (x33_2 : Int) := of_decide_eq_true zA
  have q400 : x33_2 < (l0_3.length : Int) := of_decide_eq_true zA
  obtain ⟨ad400, e400, hx400_0, hx400_1, hx400_2⟩ := at_T116 HR0_3.out x33_2 p400 q400
  cases e400
  replace hx400_0 := zc HB hx400_0
  replace hx400_1 := zc HB hx400_1
  replace hx400_2 := zc HB hx400_2
  replace p400 := eq_true p400
  replace q400 := eq_true q400
  try go_wp2_with (first | ((with_reducible refine gate_dst (N := 4) rfl ?_); (try (refine gate_guard (by rfl) ?_; dsimp only)); refine zbx 4 #[.int .i8 0, .int .i8 0, .int .i8 0] 116 ?_; intro gb401 hg w56 hbox hb; have n_ : _ ∧ _ ∧ _ ∧ _ ∧ _ ∧ _ ∧ _ := ⟨zk BK395 hb, zbs hb, Aside0.mk (hbox), zg HB hg, zg HB hg, zn1 BK395 hg, zn2 BK395 hg⟩; clear BK395 HB; obtain ⟨BK395, HB, BK401, GW401, GE401, NB395_401, NB401_395⟩ := n_; clear hb hbox hg; have hnb57 := NB401_395.out; have hnc57 := NB395_401.out; obtain ⟨z58_0, z58_1, z58_2, y58_0, y58_1, y58_2⟩ := zB3 BK401))
  have n0_ : Aside0 ((((w56.setCell ⟨gb401, 0, none⟩ (.int .i8 ((rd_T116 l0_3 x33_2).f0.f0))).setCell ⟨gb401, 1, none⟩ (.int .i8 ((rd_T116 l0_3 x33_2).f0.f1))).setCell ⟨gb401, 2, none⟩ (.int .i8 ((rd_T116 l0_3 x33_2).f1))).heap[gb395]? = some (.cells #[.int .i8 a0_0, .int .i8 a0_1, .slice A0_2 l0_2.length c0_2, .slice (some ad400) l0_3.length c0_3, .slice A0_4 l0_4.length c0_4] 41 (0, 0))) := zf BK395 NB395_401
  have n1_ : Aside0 ((((w56.setCell ⟨gb401, 0, none⟩ (.int .i8 ((rd_T116 l0_3 x33_2).f0.f0))).setCell ⟨gb401, 1, none⟩ (.int .i8 ((rd_T116 l0_3 x33_2).f0.f1))).setCell ⟨gb401, 2, none⟩ (.int .i8 ((rd_T116 l0_3 x33_2).f1))).heap[gb401]? = some (.cells #[.int .i8 ((rd_T116 l0_3 x33_2).f0.f0), .int .i8 ((rd_T116 l0_3 x33_2).f0.f1), .int .i8 ((rd_T116 l0_3 x33_2).f1)] 116 (0, 0))) := ⟨zp BK401⟩
  have n2_ : Aside0 (Below w.heap.size w (((w56.setCell ⟨gb401, 0, none⟩ (.int .i8 ((rd_T116 l0_3 x33_2).f0.f0))).setCell ⟨gb401, 1, none⟩ (.int .i8 ((rd_T116 l0_3 x33_2).f0.f1))).setCell ⟨gb401, 2, none⟩ (.int .i8 ((rd_T116 l0_3 x33_2).f1)))) := zba
  (try clear BK395)
  (try clear BK401)
  (try clear HB)
  generalize (((w56.setCell ⟨gb401, 0, none⟩ (.int .i8 ((rd_T116 l0_3 x33_2).f0.f0))).setCell ⟨gb401, 1, none⟩ (.int .i8 ((rd_T116 l0_3 x33_2).f0.f1))).setCell ⟨gb401, 2, none⟩ (.int .i8 ((rd_T116 l0_3 x33_2).f1))) = w59 at n0_ n1_ n2_ ⊢
  have BK395 := n0_
  have BK401 := n1_
  have HB := n2_
  clear n0_ n1_ n2_
  have n_ : _ ∧ _ ∧ _ := ⟨Aside0.mk (blk_drew BK395.out), Aside0.mk (blk_drew BK401.out), Aside0.mk (below_drew1 HB.out)⟩
  clear BK395 BK401 HB
  obtain ⟨BK395, BK401, HB⟩ := n_
  refine start_ (n := 20) (S := fun w' => w'.cell? ⟨gb401, 0, none⟩ = some (.int .i8 ((rd_T116 l0_3 x33_2).f0.f0)) ∧ w'.cell? ⟨gb401, 1, none⟩ = some (.int .i8 ((rd_T116 l0_3 x33_2).f0.f1)) ∧ w'.cell? ⟨gb401, 2, none⟩ = some (.int .i8 ((rd_T116 l0_3 x33_2).f1))) (ds := []) (zq 20 0) (by kernel_rfl) rfl rfl ⟨(blk_cell BK401.out 0).trans rfl, (blk_cell BK401.out 1).trans rfl, (blk_cell BK401.out 2).trans rfl⟩ (fun hHeld => ?_); refine with_tabW impl_ValidMachine.tab6 impl_ValidMachine.bits6 (fun HT_ HW_ => ?_)
  generalize w59.drew = w60 at BK395 BK401 HB hHeld ⊢
  refine zpu 0 (some 38) (zq 20 1) HT_ ?_
  refine ztk 1 (some 39) (zq 20 3) HT_ HW_ rfl hHeld (Or.inl ⟨by rfl, by (rintro w' ⟨s0, s1, s2⟩; go_simp; with_reducible rfl)⟩) ?_
  refine zpu 2 (some 40) (zq 20 7) HT_ ?_
  refine one_ (i := 3) (N := some 41) (zq 20 15) rfl rfl (one_of HT_.out (by kernel_rfl)) (by decide) (fun K hK => ?_)
  refine goes_ Try.func146 (by kernel_rfl) rfl #[.int .i64 (wrap64 ((rd_T116 l0_3 x33_2).f1))] (by rfl) rfl rfl zm ?_
  with_reducible refine (impl_isSide.calls (wrap64 ((rd_T116 l0_3 x33_2).f1)) false _ A26.out).mono ?_
  rintro e w' ⟨rfl, ⟨nd, rfl⟩⟩
  refine ⟨_, rfl, ?_⟩
  refine hK.out _ _ ⟨(blk_cell BK401.out 0).trans rfl, (blk_cell BK401.out 1).trans rfl, (blk_cell BK401.out 2).trans rfl⟩ (fun hHeld => ?_)
  clear hK K
  refine norm_ (a' := ?_) ?_ ?_
  rotate_left
  ·show Act.put _ (some 41) _ = _
   exact zap
  refine zpu 4 (some 42) (zq 20 31) HT_ ?_
  refine zpu 5 (some 43) (zq 20 63) HT_ ?_
  refine zpn 6 (some 44) (zq 20 127) HT_ ?_
  refine zpn 7 (some 45) (zq 20 255) HT_ ?_
  refine zpn 8 (some 46) (zq 20 511) HT_ ?_
  refine zpn 9 (some 47) (zq 20 1023) HT_ ?_
  refine zpn 10 (some 48) (zq 20 2047) HT_ ?_
  refine zpu 11 (some 49) (zq 20 4095) HT_ ?_
  refine zpu 12 (some 50) (zq 20 8191) HT_ ?_
  refine zpn 13 (some 51) (zq 20 16383) HT_ ?_
  refine zpn 14 (some 52) (zq 20 32767) HT_ ?_
  refine zpn 15 (some 53) (zq 20 65535) HT_ ?_
  refine zpn 16 (some 54) (zq 20 131071) HT_ ?_
  refine zpn 17 (some 55) (zq 20 262143) HT_ ?_
  refine zpn 18 (some 56) (zq 20 524287) HT_ ?_
  refine zpu 19 (some 57) (zq 20 1048575) HT_ ?_
  refine done_ (done_of HT_.out (by kernel_rfl)) ?_
  try go_wp2
  go_ret
  exact ⟨zv, zbo⟩
 subst c27
 have H1 : ((impl_Board_at.f k2 [(⟨a0_0, a0_1, l0_2⟩ : S37)] ((rd_T116 l0_3 x33_2).f0.f0) ((rd_T116 l0_3 x33_2).f0.f1)).bind fun t403 => (if t403 < 0 then (some false) else (if x33_2 ≤ (l0_3.length : Int) then ((impl_Port_147.f k2 (l0_3.take (x33_2 : Int).toNat) ((rd_T116 l0_3 x33_2).f0.f0) ((rd_T116 l0_3 x33_2).f0.f1) ((rd_T116 l0_3 x33_2).f1)).bind fun t408 => (if t408 = true then (some false) else (impl_ValidMachine.l0 k2 l0_3 (l0_3.length : Int) (wrap64 (x33_2 + 1)) a0_0 a0_1 l0_2 l0_3 l0_4))) else (none)))) = some r := by rw [if_pos rfl] at H; exact H
 clear H
 have H := H1
 clear H1
 replace H := zob H
 obtain ⟨t403, A280, H⟩ := H
 replace H : (if t403 < 0 then (some false) else (if x33_2 ≤ (l0_3.length : Int) then ((impl_Port_147.f k2 (l0_3.take (x33_2 : Int).toNat) ((rd_T116 l0_3 x33_2).f0.f0) ((rd_T116 l0_3 x33_2).f0.f1) ((rd_T116 l0_3 x33_2).f1)).bind fun t408 => (if t408 = true then (some false) else (impl_ValidMachine.l0 k2 l0_3 (l0_3.length : Int) (wrap64 (x33_2 + 1)) a0_0 a0_1 l0_2 l0_3 l0_4))) else (none))) = some r := H
 have A28 := Aside0.mk A280
 clear A280
 by_cases c29 : t403 < 0
 ·rw [if_pos c29] at H
  have c29b0 : decide (t403 < 0) = true := decide_eq_true c29
  clear c29
  obtain rfl := Option.some.inj H
  have p400 : 0 ≤ (x33_2 : Int) := of_decide_eq_true zA
  have q400 : x33_2 < (l0_3.length : Int) := of_decide_eq_true zA
  obtain ⟨ad400, e400, hx400_0, hx400_1, hx400_2⟩ := at_T116 HR0_3.out x33_2 p400 q400
  cases e400
  replace hx400_0 := zc HB hx400_0
  replace hx400_1 := zc HB hx400_1
  replace hx400_2 := zc HB hx400_2
  replace p400 := eq_true p400
  replace q400 := eq_true q400
  try go_wp2_with (first | ((with_reducible refine gate_dst (N := 4) rfl ?_); (try (refine gate_guard (by rfl) ?_; dsimp only)); refine zbx 4 #[.int .i8 0, .int .i8 0, .int .i8 0] 116 ?_; intro gb401 hg w30 hbox hb; have n_ : _ ∧ _ ∧ _ ∧ _ ∧ _ ∧ _ ∧ _ := ⟨zk BK395 hb, zbs hb, Aside0.mk (hbox), zg HB hg, zg HB hg, zn1 BK395 hg, zn2 BK395 hg⟩; clear BK395 HB; obtain ⟨BK395, HB, BK401, GW401, GE401, NB395_401, NB401_395⟩ := n_; clear hb hbox hg; have hnb31 := NB401_395.out; have hnc31 := NB395_401.out; obtain ⟨z32_0, z32_1, z32_2, y32_0, y32_1, y32_2⟩ := zB3 BK401))
  have n0_ : Aside0 ((((w30.setCell ⟨gb401, 0, none⟩ (.int .i8 ((rd_T116 l0_3 x33_2).f0.f0))).setCell ⟨gb401, 1, none⟩ (.int .i8 ((rd_T116 l0_3 x33_2).f0.f1))).setCell ⟨gb401, 2, none⟩ (.int .i8 ((rd_T116 l0_3 x33_2).f1))).heap[gb395]? = some (.cells #[.int .i8 a0_0, .int .i8 a0_1, .slice A0_2 l0_2.length c0_2, .slice (some ad400) l0_3.length c0_3, .slice A0_4 l0_4.length c0_4] 41 (0, 0))) := zf BK395 NB395_401
  have n1_ : Aside0 ((((w30.setCell ⟨gb401, 0, none⟩ (.int .i8 ((rd_T116 l0_3 x33_2).f0.f0))).setCell ⟨gb401, 1, none⟩ (.int .i8 ((rd_T116 l0_3 x33_2).f0.f1))).setCell ⟨gb401, 2, none⟩ (.int .i8 ((rd_T116 l0_3 x33_2).f1))).heap[gb401]? = some (.cells #[.int .i8 ((rd_T116 l0_3 x33_2).f0.f0), .int .i8 ((rd_T116 l0_3 x33_2).f0.f1), .int .i8 ((rd_T116 l0_3 x33_2).f1)] 116 (0, 0))) := ⟨zp BK401⟩
  have n2_ : Aside0 (Below w.heap.size w (((w30.setCell ⟨gb401, 0, none⟩ (.int .i8 ((rd_T116 l0_3 x33_2).f0.f0))).setCell ⟨gb401, 1, none⟩ (.int .i8 ((rd_T116 l0_3 x33_2).f0.f1))).setCell ⟨gb401, 2, none⟩ (.int .i8 ((rd_T116 l0_3 x33_2).f1)))) := zba
  (try clear BK395)
  (try clear BK401)
  (try clear HB)
  generalize (((w30.setCell ⟨gb401, 0, none⟩ (.int .i8 ((rd_T116 l0_3 x33_2).f0.f0))).setCell ⟨gb401, 1, none⟩ (.int .i8 ((rd_T116 l0_3 x33_2).f0.f1))).setCell ⟨gb401, 2, none⟩ (.int .i8 ((rd_T116 l0_3 x33_2).f1))) = w33 at n0_ n1_ n2_ ⊢
  have BK395 := n0_
  have BK401 := n1_
  have HB := n2_
  clear n0_ n1_ n2_
  have n_ : _ ∧ _ ∧ _ := ⟨Aside0.mk (blk_drew BK395.out), Aside0.mk (blk_drew BK401.out), Aside0.mk (below_drew1 HB.out)⟩
  clear BK395 BK401 HB
  obtain ⟨BK395, BK401, HB⟩ := n_
  refine start_ (n := 20) (S := fun w' => w'.cell? ⟨gb401, 0, none⟩ = some (.int .i8 ((rd_T116 l0_3 x33_2).f0.f0)) ∧ w'.cell? ⟨gb401, 1, none⟩ = some (.int .i8 ((rd_T116 l0_3 x33_2).f0.f1)) ∧ w'.cell? ⟨gb401, 2, none⟩ = some (.int .i8 ((rd_T116 l0_3 x33_2).f1))) (ds := []) (zq 20 0) (by kernel_rfl) rfl rfl ⟨(blk_cell BK401.out 0).trans rfl, (blk_cell BK401.out 1).trans rfl, (blk_cell BK401.out 2).trans rfl⟩ (fun hHeld => ?_); refine with_tabW impl_ValidMachine.tab6 impl_ValidMachine.bits6 (fun HT_ HW_ => ?_)
  generalize w33.drew = w34 at BK395 BK401 HB hHeld ⊢
  refine zpu 0 (some 38) (zq 20 1) HT_ ?_
  refine ztk 1 (some 39) (zq 20 3) HT_ HW_ rfl hHeld (Or.inl ⟨by rfl, by (rintro w' ⟨s0, s1, s2⟩; go_simp; with_reducible rfl)⟩) ?_
  refine zpu 2 (some 40) (zq 20 7) HT_ ?_
  refine one_ (i := 3) (N := some 41) (zq 20 15) rfl rfl (one_of HT_.out (by kernel_rfl)) (by decide) (fun K hK => ?_)
  refine goes_ Try.func146 (by kernel_rfl) rfl #[.int .i64 (wrap64 ((rd_T116 l0_3 x33_2).f1))] (by rfl) rfl rfl zm ?_
  with_reducible refine (impl_isSide.calls (wrap64 ((rd_T116 l0_3 x33_2).f1)) true _ A26.out).mono ?_
  rintro e w' ⟨rfl, ⟨nd, rfl⟩⟩
  refine ⟨_, rfl, ?_⟩
  refine hK.out _ _ ⟨(blk_cell BK401.out 0).trans rfl, (blk_cell BK401.out 1).trans rfl, (blk_cell BK401.out 2).trans rfl⟩ (fun hHeld => ?_)
  clear hK K
  refine norm_ (a' := ?_) ?_ ?_
  rotate_left
  ·show Act.put _ (some 41) _ = _
   exact zap
  refine zpu 4 (some 42) (zq 20 31) HT_ ?_
  refine zpu 5 (some 43) (zq 20 63) HT_ ?_
  refine zpu 6 (some 44) (zq 20 127) HT_ ?_
  refine zpu 7 (some 45) (zq 20 255) HT_ ?_
  refine ztk 8 (some 46) (zq 20 511) HT_ HW_ rfl hHeld (Or.inl ⟨by rfl, by (rintro w' ⟨s0, s1, s2⟩; go_simp; with_reducible rfl)⟩) ?_
  refine one_ (i := 9) (N := some 47) (zq 20 1023) rfl rfl (one_of HT_.out (by kernel_rfl)) (by decide) (fun K hK => ?_)
  refine goes_ Try.func119 (by kernel_rfl) rfl #[.pointer (some ⟨gb395, 0, none⟩), .agg #[.int .i8 ((rd_T116 l0_3 x33_2).f0.f0), .int .i8 ((rd_T116 l0_3 x33_2).f0.f1)]] (by rfl) rfl rfl zm ?_
  with_reducible refine (impl_Board_at.calls k2 _ [(⟨a0_0, a0_1, l0_2⟩ : S37)] ((rd_T116 l0_3 x33_2).f0.f0) ((rd_T116 l0_3 x33_2).f0.f1) t403 _ ?side1 A28.out).mono ?_
  (case side1 => refine ro_of_part (T := 41) (cs := #[.int .i8 a0_0, .int .i8 a0_1, .slice A0_2 l0_2.length c0_2, .slice (some ad400) l0_3.length c0_3, .slice A0_4 l0_4.length c0_4]) (o := 0) (n := 3) (zh BK395).out ?_; exact k37_mk _ (⟨a0_0, a0_1, l0_2⟩ : S37) (by exact HC0_2.out) (by repeat (first | exact (Kd.C_below HR0_2.out zbo) | (with_reducible refine Kd.C_alloc ?_ _) | (with_reducible refine Kd.C_drewN ?_ _) | (with_reducible refine Kd.C_drew ?_))))
  rintro e w35 ⟨rfl, hb⟩
  refine ⟨_, rfl, ?_⟩
  have n_ : _ ∧ _ ∧ _ := ⟨zk BK395 hb, zk BK401 hb, zbs hb⟩
  clear BK395 BK401 HB
  obtain ⟨BK395, BK401, HB⟩ := n_
  (try clear hb)
  (try clear hb2)
  (try clear hk)
  (try clear hi)
  refine hK.out _ _ ⟨(blk_cell BK401.out 0).trans rfl, (blk_cell BK401.out 1).trans rfl, (blk_cell BK401.out 2).trans rfl⟩ (fun hHeld => ?_)
  clear hK K
  refine norm_ (a' := ?_) ?_ ?_
  rotate_left
  ·show Act.put _ (some 47) _ = _
   exact zap
  refine zpu 10 (some 48) (zq 20 2047) HT_ ?_
  refine zpu 11 (some 49) (zq 20 4095) HT_ ?_
  refine zpu 12 (some 50) (zq 20 8191) HT_ ?_
  refine zpn 13 (some 51) (zq 20 16383) HT_ ?_
  refine zpn 14 (some 52) (zq 20 32767) HT_ ?_
  refine zpn 15 (some 53) (zq 20 65535) HT_ ?_
  refine zpn 16 (some 54) (zq 20 131071) HT_ ?_
  refine zpn 17 (some 55) (zq 20 262143) HT_ ?_
  refine zpn 18 (some 56) (zq 20 524287) HT_ ?_
  refine zpu 19 (some 57) (zq 20 1048575) HT_ ?_
  refine done_ (done_of HT_.out (by kernel_rfl)) ?_
  try go_wp2
  go_ret
  exact ⟨zv, zbo⟩
 rw [if_neg c29] at H
 have c29b0 : decide (t403 < 0) = false := decide_eq_false c29
 clear c29
 have c36b0 := eq_true (of_decide_eq_true zA : 0 ≤ x33_2)
 by_cases c37 : x33_2 ≤ (l0_3.length : Int)
 rotate_left
 ·rw [if_neg c37] at H
  exact absurd H (by simp)
 rw [if_pos c37] at H
 have c37b0 := eq_true c37
 have c37b1 : decide (x33_2 ≤ (l0_3.length : Int)) = true := decide_eq_true c37
 clear c37
 obtain ⟨y404, hy404⟩ : ∃ y_ : List (S116), y_ = (l0_3.take (x33_2 : Int).toNat) := ⟨_, rfl⟩
 replace H : ((impl_Port_147.f k2 y404 ((rd_T116 l0_3 x33_2).f0.f0) ((rd_T116 l0_3 x33_2).f0.f1) ((rd_T116 l0_3 x33_2).f1)).bind fun t408 => (if t408 = true then (some false) else (impl_ValidMachine.l0 k2 l0_3 (l0_3.length : Int) (wrap64 (x33_2 + 1)) a0_0 a0_1 l0_2 l0_3 l0_4))) = some r := by first | (rw [hy404]; with_reducible exact H) | (have H2_ := (Option.bind_some _ _).symm.trans H; rw [hy404]; with_reducible exact H2_) | (have H2_ := (Option.bind_some _ _).symm.trans H; with_reducible exact H2_) | with_reducible exact H | (rw [hy404]; exact H) | exact H
 have Ny404 := Aside0.mk hy404
 clear hy404
 replace H := zob H
 obtain ⟨t408, A380, H⟩ := H
 replace H : (if t408 = true then (some false) else (impl_ValidMachine.l0 k2 l0_3 (l0_3.length : Int) (wrap64 (x33_2 + 1)) a0_0 a0_1 l0_2 l0_3 l0_4)) = some r := H
 have A38 := Aside0.mk A380
 clear A380
 by_cases c39 : t408 = true
 ·subst c39
  have H1 : (some false) = some r := by rw [if_pos rfl] at H; exact H
  clear H
  have H := H1
  clear H1
  obtain rfl := Option.some.inj H
  have p400 : 0 ≤ (x33_2 : Int) := of_decide_eq_true zA
  have q400 : x33_2 < (l0_3.length : Int) := of_decide_eq_true zA
  obtain ⟨ad400, e400, hx400_0, hx400_1, hx400_2⟩ := at_T116 HR0_3.out x33_2 p400 q400
  cases e400
  replace hx400_0 := zc HB hx400_0
  replace hx400_1 := zc HB hx400_1
  replace hx400_2 := zc HB hx400_2
  replace p400 := eq_true p400
  replace q400 := eq_true q400
  try go_wp2_with (first | ((with_reducible refine gate_dst (N := 4) rfl ?_); (try (refine gate_guard (by rfl) ?_; dsimp only)); refine zbx 4 #[.int .i8 0, .int .i8 0, .int .i8 0] 116 ?_; intro gb401 hg w40 hbox hb; have n_ : _ ∧ _ ∧ _ ∧ _ ∧ _ ∧ _ ∧ _ := ⟨zk BK395 hb, zbs hb, Aside0.mk (hbox), zg HB hg, zg HB hg, zn1 BK395 hg, zn2 BK395 hg⟩; clear BK395 HB; obtain ⟨BK395, HB, BK401, GW401, GE401, NB395_401, NB401_395⟩ := n_; clear hb hbox hg; have hnb41 := NB401_395.out; have hnc41 := NB395_401.out; obtain ⟨z42_0, z42_1, z42_2, y42_0, y42_1, y42_2⟩ := zB3 BK401))
  have n0_ : Aside0 ((((w40.setCell ⟨gb401, 0, none⟩ (.int .i8 ((rd_T116 l0_3 x33_2).f0.f0))).setCell ⟨gb401, 1, none⟩ (.int .i8 ((rd_T116 l0_3 x33_2).f0.f1))).setCell ⟨gb401, 2, none⟩ (.int .i8 ((rd_T116 l0_3 x33_2).f1))).heap[gb395]? = some (.cells #[.int .i8 a0_0, .int .i8 a0_1, .slice A0_2 l0_2.length c0_2, .slice (some ad400) l0_3.length c0_3, .slice A0_4 l0_4.length c0_4] 41 (0, 0))) := zf BK395 NB395_401
  have n1_ : Aside0 ((((w40.setCell ⟨gb401, 0, none⟩ (.int .i8 ((rd_T116 l0_3 x33_2).f0.f0))).setCell ⟨gb401, 1, none⟩ (.int .i8 ((rd_T116 l0_3 x33_2).f0.f1))).setCell ⟨gb401, 2, none⟩ (.int .i8 ((rd_T116 l0_3 x33_2).f1))).heap[gb401]? = some (.cells #[.int .i8 ((rd_T116 l0_3 x33_2).f0.f0), .int .i8 ((rd_T116 l0_3 x33_2).f0.f1), .int .i8 ((rd_T116 l0_3 x33_2).f1)] 116 (0, 0))) := ⟨zp BK401⟩
  have n2_ : Aside0 (Below w.heap.size w (((w40.setCell ⟨gb401, 0, none⟩ (.int .i8 ((rd_T116 l0_3 x33_2).f0.f0))).setCell ⟨gb401, 1, none⟩ (.int .i8 ((rd_T116 l0_3 x33_2).f0.f1))).setCell ⟨gb401, 2, none⟩ (.int .i8 ((rd_T116 l0_3 x33_2).f1)))) := zba
  (try clear BK395)
  (try clear BK401)
  (try clear HB)
  generalize (((w40.setCell ⟨gb401, 0, none⟩ (.int .i8 ((rd_T116 l0_3 x33_2).f0.f0))).setCell ⟨gb401, 1, none⟩ (.int .i8 ((rd_T116 l0_3 x33_2).f0.f1))).setCell ⟨gb401, 2, none⟩ (.int .i8 ((rd_T116 l0_3 x33_2).f1))) = w43 at n0_ n1_ n2_ ⊢
  have BK395 := n0_
  have BK401 := n1_
  have HB := n2_
  clear n0_ n1_ n2_
  have n_ : _ ∧ _ ∧ _ := ⟨Aside0.mk (blk_drew BK395.out), Aside0.mk (blk_drew BK401.out), Aside0.mk (below_drew1 HB.out)⟩
  clear BK395 BK401 HB
  obtain ⟨BK395, BK401, HB⟩ := n_
  refine start_ (n := 20) (S := fun w' => w'.cell? ⟨gb401, 0, none⟩ = some (.int .i8 ((rd_T116 l0_3 x33_2).f0.f0)) ∧ w'.cell? ⟨gb401, 1, none⟩ = some (.int .i8 ((rd_T116 l0_3 x33_2).f0.f1)) ∧ w'.cell? ⟨gb401, 2, none⟩ = some (.int .i8 ((rd_T116 l0_3 x33_2).f1)) ∧ w'.cell? ⟨gb395, 0, none⟩ = some (.int .i8 a0_0) ∧ w'.cell? ⟨gb395, 1, none⟩ = some (.int .i8 a0_1) ∧ w'.cell? ⟨gb395, 2, none⟩ = some (.slice A0_2 l0_2.length c0_2) ∧ w'.cell? ⟨gb395, 3, none⟩ = some (.slice (some ad400) l0_3.length c0_3) ∧ w'.cell? ⟨gb395, 4, none⟩ = some (.slice A0_4 l0_4.length c0_4)) (ds := []) (zq 20 0) (by kernel_rfl) rfl rfl ⟨(blk_cell BK401.out 0).trans rfl, (blk_cell BK401.out 1).trans rfl, (blk_cell BK401.out 2).trans rfl, (blk_cell BK395.out 0).trans rfl, (blk_cell BK395.out 1).trans rfl, (blk_cell BK395.out 2).trans rfl, (blk_cell BK395.out 3).trans rfl, (blk_cell BK395.out 4).trans rfl⟩ (fun hHeld => ?_); refine with_tabW impl_ValidMachine.tab6 impl_ValidMachine.bits6 (fun HT_ HW_ => ?_)
  generalize w43.drew = w44 at BK395 BK401 HB hHeld ⊢
  refine zpu 0 (some 38) (zq 20 1) HT_ ?_
  refine ztk 1 (some 39) (zq 20 3) HT_ HW_ rfl hHeld (Or.inl ⟨by rfl, by (rintro w' ⟨s0, s1, s2, s3, s4, s5, s6, s7⟩; go_simp; with_reducible rfl)⟩) ?_
  refine zpu 2 (some 40) (zq 20 7) HT_ ?_
  refine one_ (i := 3) (N := some 41) (zq 20 15) rfl rfl (one_of HT_.out (by kernel_rfl)) (by decide) (fun K hK => ?_)
  refine goes_ Try.func146 (by kernel_rfl) rfl #[.int .i64 (wrap64 ((rd_T116 l0_3 x33_2).f1))] (by rfl) rfl rfl zm ?_
  with_reducible refine (impl_isSide.calls (wrap64 ((rd_T116 l0_3 x33_2).f1)) true _ A26.out).mono ?_
  rintro e w' ⟨rfl, ⟨nd, rfl⟩⟩
  refine ⟨_, rfl, ?_⟩
  refine hK.out _ _ ⟨(blk_cell BK401.out 0).trans rfl, (blk_cell BK401.out 1).trans rfl, (blk_cell BK401.out 2).trans rfl, (blk_cell BK395.out 0).trans rfl, (blk_cell BK395.out 1).trans rfl, (blk_cell BK395.out 2).trans rfl, (blk_cell BK395.out 3).trans rfl, (blk_cell BK395.out 4).trans rfl⟩ (fun hHeld => ?_)
  clear hK K
  refine norm_ (a' := ?_) ?_ ?_
  rotate_left
  ·show Act.put _ (some 41) _ = _
   exact zap
  refine zpu 4 (some 42) (zq 20 31) HT_ ?_
  refine zpu 5 (some 43) (zq 20 63) HT_ ?_
  refine zpu 6 (some 44) (zq 20 127) HT_ ?_
  refine zpu 7 (some 45) (zq 20 255) HT_ ?_
  refine ztk 8 (some 46) (zq 20 511) HT_ HW_ rfl hHeld (Or.inl ⟨by rfl, by (rintro w' ⟨s0, s1, s2, s3, s4, s5, s6, s7⟩; go_simp; with_reducible rfl)⟩) ?_
  refine one_ (i := 9) (N := some 47) (zq 20 1023) rfl rfl (one_of HT_.out (by kernel_rfl)) (by decide) (fun K hK => ?_)
  refine goes_ Try.func119 (by kernel_rfl) rfl #[.pointer (some ⟨gb395, 0, none⟩), .agg #[.int .i8 ((rd_T116 l0_3 x33_2).f0.f0), .int .i8 ((rd_T116 l0_3 x33_2).f0.f1)]] (by rfl) rfl rfl zm ?_
  with_reducible refine (impl_Board_at.calls k2 _ [(⟨a0_0, a0_1, l0_2⟩ : S37)] ((rd_T116 l0_3 x33_2).f0.f0) ((rd_T116 l0_3 x33_2).f0.f1) t403 _ ?side1 A28.out).mono ?_
  (case side1 => refine ro_of_part (T := 41) (cs := #[.int .i8 a0_0, .int .i8 a0_1, .slice A0_2 l0_2.length c0_2, .slice (some ad400) l0_3.length c0_3, .slice A0_4 l0_4.length c0_4]) (o := 0) (n := 3) (zh BK395).out ?_; exact k37_mk _ (⟨a0_0, a0_1, l0_2⟩ : S37) (by exact HC0_2.out) (by repeat (first | exact (Kd.C_below HR0_2.out zbo) | (with_reducible refine Kd.C_alloc ?_ _) | (with_reducible refine Kd.C_drewN ?_ _) | (with_reducible refine Kd.C_drew ?_))))
  rintro e w45 ⟨rfl, hb⟩
  refine ⟨_, rfl, ?_⟩
  have n_ : _ ∧ _ ∧ _ := ⟨zk BK395 hb, zk BK401 hb, zbs hb⟩
  clear BK395 BK401 HB
  obtain ⟨BK395, BK401, HB⟩ := n_
  (try clear hb)
  (try clear hb2)
  (try clear hk)
  (try clear hi)
  have q46 : (x33_2 : Int) ≤ ((l0_3.length : Int) : Int) := of_decide_eq_true zA
  obtain ⟨i046, hi046, _, hsz46, _⟩ := info_parts info116
  have hroom46 : l0_3.length ≤ c0_3 := HC0_3.out
  have hC46 : Kd.C k116 _ (some ad400) l0_3.length l0_3 := HR0_3.out
  have hcut46 := cut_to (P := Try.prog) 38 116 .i64 Try.underlying38 hi046 (some ad400) l0_3.length c0_3 x33_2 (of_decide_eq_true zA) q46 hroom46
  have hr46 := Kd.C_take (m := (x33_2 : Int).toNat) hC46 (by omega)
  have hy46 : y404.length = (x33_2 : Int).toNat := (by rw [Ny404.out, List.length_take]; omega)
  rw [← Ny404.out] at hr46
  rw [← hy46] at hcut46
  have HR407 := Aside0.mk hr46
  have HC407 := Aside0.mk (show y404.length ≤ c0_3 from by omega)
  clear hr46 hC46 hroom46 hi046 hsz46
  have KY46 := Aside0.mk hy46
  clear hy46
  replace q46 := eq_true q46
  refine hK.out _ _ ⟨(blk_cell BK401.out 0).trans rfl, (blk_cell BK401.out 1).trans rfl, (blk_cell BK401.out 2).trans rfl, (blk_cell BK395.out 0).trans rfl, (blk_cell BK395.out 1).trans rfl, (blk_cell BK395.out 2).trans rfl, (blk_cell BK395.out 3).trans rfl, (blk_cell BK395.out 4).trans rfl⟩ (fun hHeld => ?_)
  clear hK K
  refine norm_ (a' := ?_) ?_ ?_
  rotate_left
  ·show Act.put _ (some 47) _ = _
   exact zap
  refine zpu 10 (some 48) (zq 20 2047) HT_ ?_
  refine zpu 11 (some 49) (zq 20 4095) HT_ ?_
  refine zpu 12 (some 50) (zq 20 8191) HT_ ?_
  refine zpu 13 (some 51) (zq 20 16383) HT_ ?_
  refine zpu 15 (some 53) (zq 20 49151) HT_ ?_
  refine ztk 14 (some 52) (zq 20 65535) HT_ HW_ rfl hHeld (Or.inl ⟨by rfl, by (rintro w' ⟨s0, s1, s2, s3, s4, s5, s6, s7⟩; go_simp; with_reducible rfl)⟩) ?_
  refine zpu 16 (some 54) (zq 20 131071) HT_ ?_
  refine ztk 17 (some 55) (zq 20 262143) HT_ HW_ rfl hHeld (Or.inl ⟨by rfl, by (rintro w' ⟨s0, s1, s2, s3, s4, s5, s6, s7⟩; go_simp; with_reducible rfl)⟩) ?_
  refine one_ (i := 18) (N := some 56) (zq 20 524287) rfl rfl (one_of HT_.out (by kernel_rfl)) (by decide) (fun K hK => ?_)
  refine goes_ Try.func147 (by kernel_rfl) rfl #[.slice (some ad400) y404.length c0_3, .agg #[.int .i8 ((rd_T116 l0_3 x33_2).f0.f0), .int .i8 ((rd_T116 l0_3 x33_2).f0.f1), .int .i8 ((rd_T116 l0_3 x33_2).f1)]] (by rfl) rfl rfl zm ?_
  with_reducible refine (impl_Port_147.calls k2 _ _ y404 ((rd_T116 l0_3 x33_2).f0.f0) ((rd_T116 l0_3 x33_2).f0.f1) ((rd_T116 l0_3 x33_2).f1) true _ ?side1 ?side2 A38.out).mono ?_
  (case side1 => exact zcc HB HR407.out)
  (case side2 => exact HC407.out)
  rintro e w47 ⟨rfl, hb⟩
  refine ⟨_, rfl, ?_⟩
  have n_ : _ ∧ _ ∧ _ := ⟨zk BK395 hb, zk BK401 hb, zbs hb⟩
  clear BK395 BK401 HB
  obtain ⟨BK395, BK401, HB⟩ := n_
  (try clear hb)
  (try clear hb2)
  (try clear hk)
  (try clear hi)
  refine hK.out _ _ ⟨(blk_cell BK401.out 0).trans rfl, (blk_cell BK401.out 1).trans rfl, (blk_cell BK401.out 2).trans rfl, (blk_cell BK395.out 0).trans rfl, (blk_cell BK395.out 1).trans rfl, (blk_cell BK395.out 2).trans rfl, (blk_cell BK395.out 3).trans rfl, (blk_cell BK395.out 4).trans rfl⟩ (fun hHeld => ?_)
  clear hK K
  refine norm_ (a' := ?_) ?_ ?_
  rotate_left
  ·show Act.put _ (some 56) _ = _
   exact zap
  refine zpu 19 (some 57) (zq 20 1048575) HT_ ?_
  refine done_ (done_of HT_.out (by kernel_rfl)) ?_
  try go_wp2
  go_ret
  exact ⟨zv, zbo⟩
 replace c39 := Bool.eq_false_iff.mpr c39
 subst c39
 have H1 : (impl_ValidMachine.l0 k2 l0_3 (l0_3.length : Int) (wrap64 (x33_2 + 1)) a0_0 a0_1 l0_2 l0_3 l0_4) = some r := by rw [if_neg (show ¬ (false = true) by decide)] at H; exact H
 clear H
 have H := H1
 clear H1
 have H' := Aside0.mk H
 clear H
 have p400 : 0 ≤ (x33_2 : Int) := of_decide_eq_true zA
 have q400 : x33_2 < (l0_3.length : Int) := of_decide_eq_true zA
 obtain ⟨ad400, e400, hx400_0, hx400_1, hx400_2⟩ := at_T116 HR0_3.out x33_2 p400 q400
 cases e400
 replace hx400_0 := zc HB hx400_0
 replace hx400_1 := zc HB hx400_1
 replace hx400_2 := zc HB hx400_2
 replace p400 := eq_true p400
 replace q400 := eq_true q400
 try go_wp2_with (first | ((with_reducible refine gate_dst (N := 4) rfl ?_); (try (refine gate_guard (by rfl) ?_; dsimp only)); refine zbx 4 #[.int .i8 0, .int .i8 0, .int .i8 0] 116 ?_; intro gb401 hg w48 hbox hb; have n_ : _ ∧ _ ∧ _ ∧ _ ∧ _ ∧ _ ∧ _ := ⟨zk BK395 hb, zbs hb, Aside0.mk (hbox), zg HB hg, zg HB hg, zn1 BK395 hg, zn2 BK395 hg⟩; clear BK395 HB; obtain ⟨BK395, HB, BK401, GW401, GE401, NB395_401, NB401_395⟩ := n_; clear hb hbox hg; have hnb49 := NB401_395.out; have hnc49 := NB395_401.out; obtain ⟨z50_0, z50_1, z50_2, y50_0, y50_1, y50_2⟩ := zB3 BK401))
 have n0_ : Aside0 ((((w48.setCell ⟨gb401, 0, none⟩ (.int .i8 ((rd_T116 l0_3 x33_2).f0.f0))).setCell ⟨gb401, 1, none⟩ (.int .i8 ((rd_T116 l0_3 x33_2).f0.f1))).setCell ⟨gb401, 2, none⟩ (.int .i8 ((rd_T116 l0_3 x33_2).f1))).heap[gb395]? = some (.cells #[.int .i8 a0_0, .int .i8 a0_1, .slice A0_2 l0_2.length c0_2, .slice (some ad400) l0_3.length c0_3, .slice A0_4 l0_4.length c0_4] 41 (0, 0))) := zf BK395 NB395_401
 have n1_ : Aside0 ((((w48.setCell ⟨gb401, 0, none⟩ (.int .i8 ((rd_T116 l0_3 x33_2).f0.f0))).setCell ⟨gb401, 1, none⟩ (.int .i8 ((rd_T116 l0_3 x33_2).f0.f1))).setCell ⟨gb401, 2, none⟩ (.int .i8 ((rd_T116 l0_3 x33_2).f1))).heap[gb401]? = some (.cells #[.int .i8 ((rd_T116 l0_3 x33_2).f0.f0), .int .i8 ((rd_T116 l0_3 x33_2).f0.f1), .int .i8 ((rd_T116 l0_3 x33_2).f1)] 116 (0, 0))) := ⟨zp BK401⟩
 have n2_ : Aside0 (Below w.heap.size w (((w48.setCell ⟨gb401, 0, none⟩ (.int .i8 ((rd_T116 l0_3 x33_2).f0.f0))).setCell ⟨gb401, 1, none⟩ (.int .i8 ((rd_T116 l0_3 x33_2).f0.f1))).setCell ⟨gb401, 2, none⟩ (.int .i8 ((rd_T116 l0_3 x33_2).f1)))) := zba
 (try clear BK395)
 (try clear BK401)
 (try clear HB)
 generalize (((w48.setCell ⟨gb401, 0, none⟩ (.int .i8 ((rd_T116 l0_3 x33_2).f0.f0))).setCell ⟨gb401, 1, none⟩ (.int .i8 ((rd_T116 l0_3 x33_2).f0.f1))).setCell ⟨gb401, 2, none⟩ (.int .i8 ((rd_T116 l0_3 x33_2).f1))) = w51 at n0_ n1_ n2_ ⊢
 have BK395 := n0_
 have BK401 := n1_
 have HB := n2_
 clear n0_ n1_ n2_
 have n_ : _ ∧ _ ∧ _ := ⟨Aside0.mk (blk_drew BK395.out), Aside0.mk (blk_drew BK401.out), Aside0.mk (below_drew1 HB.out)⟩
 clear BK395 BK401 HB
 obtain ⟨BK395, BK401, HB⟩ := n_
 refine start_ (n := 20) (S := fun w' => w'.cell? ⟨gb401, 0, none⟩ = some (.int .i8 ((rd_T116 l0_3 x33_2).f0.f0)) ∧ w'.cell? ⟨gb401, 1, none⟩ = some (.int .i8 ((rd_T116 l0_3 x33_2).f0.f1)) ∧ w'.cell? ⟨gb401, 2, none⟩ = some (.int .i8 ((rd_T116 l0_3 x33_2).f1)) ∧ w'.cell? ⟨gb395, 0, none⟩ = some (.int .i8 a0_0) ∧ w'.cell? ⟨gb395, 1, none⟩ = some (.int .i8 a0_1) ∧ w'.cell? ⟨gb395, 2, none⟩ = some (.slice A0_2 l0_2.length c0_2) ∧ w'.cell? ⟨gb395, 3, none⟩ = some (.slice (some ad400) l0_3.length c0_3) ∧ w'.cell? ⟨gb395, 4, none⟩ = some (.slice A0_4 l0_4.length c0_4)) (ds := []) (zq 20 0) (by kernel_rfl) rfl rfl ⟨(blk_cell BK401.out 0).trans rfl, (blk_cell BK401.out 1).trans rfl, (blk_cell BK401.out 2).trans rfl, (blk_cell BK395.out 0).trans rfl, (blk_cell BK395.out 1).trans rfl, (blk_cell BK395.out 2).trans rfl, (blk_cell BK395.out 3).trans rfl, (blk_cell BK395.out 4).trans rfl⟩ (fun hHeld => ?_); refine with_tabW impl_ValidMachine.tab6 impl_ValidMachine.bits6 (fun HT_ HW_ => ?_)
 generalize w51.drew = w52 at BK395 BK401 HB hHeld ⊢
 refine zpu 0 (some 38) (zq 20 1) HT_ ?_
 refine ztk 1 (some 39) (zq 20 3) HT_ HW_ rfl hHeld (Or.inl ⟨by rfl, by (rintro w' ⟨s0, s1, s2, s3, s4, s5, s6, s7⟩; go_simp; with_reducible rfl)⟩) ?_
 refine zpu 2 (some 40) (zq 20 7) HT_ ?_
 refine one_ (i := 3) (N := some 41) (zq 20 15) rfl rfl (one_of HT_.out (by kernel_rfl)) (by decide) (fun K hK => ?_)
 refine goes_ Try.func146 (by kernel_rfl) rfl #[.int .i64 (wrap64 ((rd_T116 l0_3 x33_2).f1))] (by rfl) rfl rfl zm ?_
 with_reducible refine (impl_isSide.calls (wrap64 ((rd_T116 l0_3 x33_2).f1)) true _ A26.out).mono ?_
 rintro e w' ⟨rfl, ⟨nd, rfl⟩⟩
 refine ⟨_, rfl, ?_⟩
 refine hK.out _ _ ⟨(blk_cell BK401.out 0).trans rfl, (blk_cell BK401.out 1).trans rfl, (blk_cell BK401.out 2).trans rfl, (blk_cell BK395.out 0).trans rfl, (blk_cell BK395.out 1).trans rfl, (blk_cell BK395.out 2).trans rfl, (blk_cell BK395.out 3).trans rfl, (blk_cell BK395.out 4).trans rfl⟩ (fun hHeld => ?_)
 clear hK K
 refine norm_ (a' := ?_) ?_ ?_
 rotate_left
 ·show Act.put _ (some 41) _ = _
  exact zap
 refine zpu 4 (some 42) (zq 20 31) HT_ ?_
 refine zpu 5 (some 43) (zq 20 63) HT_ ?_
 refine zpu 6 (some 44) (zq 20 127) HT_ ?_
 refine zpu 7 (some 45) (zq 20 255) HT_ ?_
 refine ztk 8 (some 46) (zq 20 511) HT_ HW_ rfl hHeld (Or.inl ⟨by rfl, by (rintro w' ⟨s0, s1, s2, s3, s4, s5, s6, s7⟩; go_simp; with_reducible rfl)⟩) ?_
 refine one_ (i := 9) (N := some 47) (zq 20 1023) rfl rfl (one_of HT_.out (by kernel_rfl)) (by decide) (fun K hK => ?_)
 refine goes_ Try.func119 (by kernel_rfl) rfl #[.pointer (some ⟨gb395, 0, none⟩), .agg #[.int .i8 ((rd_T116 l0_3 x33_2).f0.f0), .int .i8 ((rd_T116 l0_3 x33_2).f0.f1)]] (by rfl) rfl rfl zm ?_
 with_reducible refine (impl_Board_at.calls k2 _ [(⟨a0_0, a0_1, l0_2⟩ : S37)] ((rd_T116 l0_3 x33_2).f0.f0) ((rd_T116 l0_3 x33_2).f0.f1) t403 _ ?side1 A28.out).mono ?_
 (case side1 => refine ro_of_part (T := 41) (cs := #[.int .i8 a0_0, .int .i8 a0_1, .slice A0_2 l0_2.length c0_2, .slice (some ad400) l0_3.length c0_3, .slice A0_4 l0_4.length c0_4]) (o := 0) (n := 3) (zh BK395).out ?_; exact k37_mk _ (⟨a0_0, a0_1, l0_2⟩ : S37) (by exact HC0_2.out) (by repeat (first | exact (Kd.C_below HR0_2.out zbo) | (with_reducible refine Kd.C_alloc ?_ _) | (with_reducible refine Kd.C_drewN ?_ _) | (with_reducible refine Kd.C_drew ?_))))
 rintro e w53 ⟨rfl, hb⟩
 refine ⟨_, rfl, ?_⟩
 have n_ : _ ∧ _ ∧ _ := ⟨zk BK395 hb, zk BK401 hb, zbs hb⟩
 clear BK395 BK401 HB
 obtain ⟨BK395, BK401, HB⟩ := n_
 (try clear hb)
 (try clear hb2)
 (try clear hk)
 (try clear hi)
 have q54 : (x33_2 : Int) ≤ ((l0_3.length : Int) : Int) := of_decide_eq_true zA
 obtain ⟨i054, hi054, _, hsz54, _⟩ := info_parts info116
 have hroom54 : l0_3.length ≤ c0_3 := HC0_3.out
 have hC54 : Kd.C k116 _ (some ad400) l0_3.length l0_3 := HR0_3.out
 have hcut54 := cut_to (P := Try.prog) 38 116 .i64 Try.underlying38 hi054 (some ad400) l0_3.length c0_3 x33_2 (of_decide_eq_true zA) q54 hroom54
 have hr54 := Kd.C_take (m := (x33_2 : Int).toNat) hC54 (by omega)
 have hy54 : y404.length = (x33_2 : Int).toNat := (by rw [Ny404.out, List.length_take]; omega)
 rw [← Ny404.out] at hr54
 rw [← hy54] at hcut54
 have HR407 := Aside0.mk hr54
 have HC407 := Aside0.mk (show y404.length ≤ c0_3 from by omega)
 clear hr54 hC54 hroom54 hi054 hsz54
 have KY54 := Aside0.mk hy54
 clear hy54
 replace q54 := eq_true q54
 refine hK.out _ _ ⟨(blk_cell BK401.out 0).trans rfl, (blk_cell BK401.out 1).trans rfl, (blk_cell BK401.out 2).trans rfl, (blk_cell BK395.out 0).trans rfl, (blk_cell BK395.out 1).trans rfl, (blk_cell BK395.out 2).trans rfl, (blk_cell BK395.out 3).trans rfl, (blk_cell BK395.out 4).trans rfl⟩ (fun hHeld => ?_)
 clear hK K
 refine norm_ (a' := ?_) ?_ ?_
 rotate_left
 ·show Act.put _ (some 47) _ = _
  exact zap
 refine zpu 10 (some 48) (zq 20 2047) HT_ ?_
 refine zpu 11 (some 49) (zq 20 4095) HT_ ?_
 refine zpu 12 (some 50) (zq 20 8191) HT_ ?_
 refine zpu 13 (some 51) (zq 20 16383) HT_ ?_
 refine zpu 15 (some 53) (zq 20 49151) HT_ ?_
 refine ztk 14 (some 52) (zq 20 65535) HT_ HW_ rfl hHeld (Or.inl ⟨by rfl, by (rintro w' ⟨s0, s1, s2, s3, s4, s5, s6, s7⟩; go_simp; with_reducible rfl)⟩) ?_
 refine zpu 16 (some 54) (zq 20 131071) HT_ ?_
 refine ztk 17 (some 55) (zq 20 262143) HT_ HW_ rfl hHeld (Or.inl ⟨by rfl, by (rintro w' ⟨s0, s1, s2, s3, s4, s5, s6, s7⟩; go_simp; with_reducible rfl)⟩) ?_
 refine one_ (i := 18) (N := some 56) (zq 20 524287) rfl rfl (one_of HT_.out (by kernel_rfl)) (by decide) (fun K hK => ?_)
 refine goes_ Try.func147 (by kernel_rfl) rfl #[.slice (some ad400) y404.length c0_3, .agg #[.int .i8 ((rd_T116 l0_3 x33_2).f0.f0), .int .i8 ((rd_T116 l0_3 x33_2).f0.f1), .int .i8 ((rd_T116 l0_3 x33_2).f1)]] (by rfl) rfl rfl zm ?_
 with_reducible refine (impl_Port_147.calls k2 _ _ y404 ((rd_T116 l0_3 x33_2).f0.f0) ((rd_T116 l0_3 x33_2).f0.f1) ((rd_T116 l0_3 x33_2).f1) false _ ?side1 ?side2 A38.out).mono ?_
 (case side1 => exact zcc HB HR407.out)
 (case side2 => exact HC407.out)
 rintro e w55 ⟨rfl, hb⟩
 refine ⟨_, rfl, ?_⟩
 have n_ : _ ∧ _ ∧ _ := ⟨zk BK395 hb, zk BK401 hb, zbs hb⟩
 clear BK395 BK401 HB
 obtain ⟨BK395, BK401, HB⟩ := n_
 (try clear hb)
 (try clear hb2)
 (try clear hk)
 (try clear hi)
 refine hK.out _ _ ⟨(blk_cell BK401.out 0).trans rfl, (blk_cell BK401.out 1).trans rfl, (blk_cell BK401.out 2).trans rfl, (blk_cell BK395.out 0).trans rfl, (blk_cell BK395.out 1).trans rfl, (blk_cell BK395.out 2).trans rfl, (blk_cell BK395.out 3).trans rfl, (blk_cell BK395.out 4).trans rfl⟩ (fun hHeld => ?_)
 clear hK K
 refine norm_ (a' := ?_) ?_ ?_
 rotate_left
 ·show Act.put _ (some 56) _ = _
  exact zap
 refine zpu 19 (some 57) (zq 20 1048575) HT_ ?_
 refine done_ (done_of HT_.out (by kernel_rfl)) ?_
 try go_wp2
 go_roundg k2
 case measure => have := HJ1.out; have := HK2.out; omega
 case rel => exact ⟨(wrap64 (x33_2 + 1)), zi, H', ⟨by have := HJ1.out; have := HK2.out; omega⟩, zh BK395, zba⟩
end Go.Proofs.Ytffnfpnajkgnaaa.PFnExactMoveMachine
