-- WRITTEN by xprint.py, a program of this session's. Not trusted: Lean checks it.
-- packed by pack.py
import Derived.Test.YtffnfpnajkgnaaaPFnExactMoveMachinex0
import Derived.Test.YtffnfpnajkgnaaaPFnExactMoveMachinex14
import Derived.Test.YtffnfpnajkgnaaaPFnExactMoveMachinex15
import Derived.Test.YtffnfpnajkgnaaaPFnExactMoveMachinex17
import Derived.Test.YtffnfpnajkgnaaaPFnExactMoveMachinex18
import Derived.Test.YtffnfpnajkgnaaaTFnExactMoveMachinea
namespace Go.Proofs.Ytffnfpnajkgnaaa.PFnExactMoveMachine
open Go.RowKit Go.Proofs.YtffnfpnajkgnaaaW.PrintWords Go.Proofs.YtffnfpnajkgnaaaW.PrintLast Go.Proofs.YtffnfpnajkgnaaaW.PrintMore Go.Proofs.YtffnfpnajkgnaaaX
attribute [local go_sem] max2_int min2_int max_two min_two max_three min_three max_four min_four   -- for this text's walks alone
set_option maxHeartbeats 8000000
set_option maxRecDepth 100000
set_option linter.unusedVariables false
set_option linter.unusedSimpArgs false

mutual
def impl_MoveMachine.l0 : Nat → Int → Int → Int → Int → Int → Int → List (S91) → List (S116) → List (S74) → Option (Int × Int × (List (S91)) × (List (S116)) × (List (S74)) × Int)
  | 0, _, _, _, _, _, _, _, _, _ => none
  | k + 1, x1, x2, x35, x36, x447000, x447001, x447002, x447003, x447004 => if x36 < x35 then (if 0 ≤ x36 then (if x36 < (x447003.length : Int) then ((impl_Cell_shifted.f ((rd_T116 x447003 x36).f0.f0) ((rd_T116 x447003 x36).f0.f1) x1 x2).bind fun bt448 => (impl_MoveMachine.l0 k x1 x2 x35 (wrap64 (x36 + 1)) x447000 x447001 x447002 (x447003.set (x36 : Int).toNat (⟨(⟨bt448.1, bt448.2⟩ : S74), (rd_T116 x447003 x36).f1⟩ : S116)) x447004)) else (none)) else (none)) else (impl_MoveMachine.l1 k x1 x2 (x447004.length : Int) 0 x447000 x447001 x447002 x447003 x447004)
def impl_MoveMachine.l1 : Nat → Int → Int → Int → Int → Int → Int → List (S91) → List (S116) → List (S74) → Option (Int × Int × (List (S91)) × (List (S116)) × (List (S74)) × Int)
  | 0, _, _, _, _, _, _, _, _, _ => none
  | k + 1, x1, x2, x56, x57, x447000, x447001, x447002, x447003, x447004 => if x57 < x56 then (if 0 ≤ x57 then (if x57 < (x447004.length : Int) then ((impl_Cell_shifted.f ((rd_T74 x447004 x57).f0) ((rd_T74 x447004 x57).f1) x1 x2).bind fun bt452 => (impl_MoveMachine.l1 k x1 x2 x56 (wrap64 (x57 + 1)) x447000 x447001 x447002 x447003 (x447004.set (x57 : Int).toNat (⟨bt452.1, bt452.2⟩ : S74)))) else (none)) else (none)) else (some (x447000, x447001, x447002, x447003, x447004, 0))
end
def impl_MoveMachine.f (k : Nat) (a0_0 : Int) (a0_1 : Int) (l0_2 : List (S91)) (l0_3 : List (S116)) (l0_4 : List (S74)) (a1 : Int) (a2 : Int) : Option (Int × Int × (List (S91)) × (List (S116)) × (List (S74)) × Int) := (impl_ValidMachine.f k a0_0 a0_1 l0_2 l0_3 l0_4).bind fun t427 => (if t427 = true then ((impl_MoveBoard.f k a0_0 a0_1 l0_2 a1 a2).bind fun bt428 => (if bt428.2.2.2 = 0 then ((impl_cloneMachine.f a0_0 a0_1 l0_2 l0_3 l0_4).bind fun bt435 => (impl_MoveMachine.l0 k a1 a2 (bt435.2.2.2.1.length : Int) 0 bt428.1 bt428.2.1 bt428.2.2.1 bt435.2.2.2.1 bt435.2.2.2.2)) else (some (0, 0, ([] : List (S91)), ([] : List (S116)), ([] : List (S74)), bt428.2.2.2)))) else (some (0, 0, ([] : List (S91)), ([] : List (S116)), ([] : List (S74)), 1)))
theorem impl_MoveMachine.mono_l : ∀ k, (∀ y0 y1 y2 y3 y4 y5 y6 y7 y8, LeO (impl_MoveMachine.l0 k y0 y1 y2 y3 y4 y5 y6 y7 y8) (impl_MoveMachine.l0 (k + 1) y0 y1 y2 y3 y4 y5 y6 y7 y8)) ∧ (∀ y0 y1 y2 y3 y4 y5 y6 y7 y8, LeO (impl_MoveMachine.l1 k y0 y1 y2 y3 y4 y5 y6 y7 y8) (impl_MoveMachine.l1 (k + 1) y0 y1 y2 y3 y4 y5 y6 y7 y8))
  | 0 => ⟨fun _ _ _ _ _ _ _ _ _ r h => by simp [impl_MoveMachine.l0] at h, fun _ _ _ _ _ _ _ _ _ r h => by simp [impl_MoveMachine.l1] at h⟩
  | k + 1 => by
    obtain ⟨ih0, ih1⟩ := impl_MoveMachine.mono_l k
    refine ⟨?_, ?_⟩
    · intro y0 y1 y2 y3 y4 y5 y6 y7 y8
      unfold impl_MoveMachine.l0
      repeat' first | (with_reducible first | apply ih0 | apply ih1 | apply impl_MoveBoard.mono | apply impl_ValidMachine.mono | exact LeO.refl _ | exact LeO.none _ | refine LeO.ite ?_ ?_ | refine LeO.bind ?_ (fun _ => ?_)) | apply ih0 | apply ih1 | apply impl_MoveBoard.mono | apply impl_ValidMachine.mono | exact LeO.none _ | refine LeO.ite ?_ ?_ | refine LeO.bind ?_ (fun _ => ?_)
    · intro y0 y1 y2 y3 y4 y5 y6 y7 y8
      unfold impl_MoveMachine.l1
      repeat' first | (with_reducible first | apply ih0 | apply ih1 | apply impl_MoveBoard.mono | apply impl_ValidMachine.mono | exact LeO.refl _ | exact LeO.none _ | refine LeO.ite ?_ ?_ | refine LeO.bind ?_ (fun _ => ?_)) | apply ih0 | apply ih1 | apply impl_MoveBoard.mono | apply impl_ValidMachine.mono | exact LeO.none _ | refine LeO.ite ?_ ?_ | refine LeO.bind ?_ (fun _ => ?_)
theorem impl_MoveMachine.mono : ∀ a0 a1 a2 a3 a4 a5 a6 k, LeO (impl_MoveMachine.f k a0 a1 a2 a3 a4 a5 a6) (impl_MoveMachine.f (k + 1) a0 a1 a2 a3 a4 a5 a6) := by
 intro a0 a1 a2 a3 a4 a5 a6 k
 obtain ⟨ih0, ih1⟩ := impl_MoveMachine.mono_l k
 unfold impl_MoveMachine.f
 repeat' first | (with_reducible first | apply ih0 | apply ih1 | apply impl_MoveBoard.mono | apply impl_ValidMachine.mono | exact LeO.refl _ | exact LeO.none _ | refine LeO.ite ?_ ?_ | refine LeO.bind ?_ (fun _ => ?_)) | apply ih0 | apply ih1 | apply impl_MoveBoard.mono | apply impl_ValidMachine.mono | exact LeO.none _ | refine LeO.ite ?_ ?_ | refine LeO.bind ?_ (fun _ => ?_)
def impl_MoveMachine.T11 : Bool × List (List Nat × List Nat) := (true, [([], []), ([0], [0]), ([], []), ([], []), ([3], [3]), ([], []), ([4, 5], [4, 5]), ([6], [6]), ([7], [7]), ([], []), ([], []), ([8, 9, 10], [8, 9, 10]), ([1, 2, 0, 1, 2, 3, 4, 5, 6, 7, 8, 9, 10, 11], [1, 2]), ([12, 0, 1, 2, 3, 4, 5, 6, 7, 8, 9, 10, 11], [12]), ([13, 11, 11, 0, 1, 2, 3, 4, 5, 6, 7, 8, 9, 10, 11], [11, 13])])
def impl_MoveMachine.B11 : List Nat := [0, 1, 0, 0, 8, 0, 56, 120, 248, 0, 0, 2040, 4095, 8191, 16383]
theorem impl_MoveMachine.tab11 : rtab .any (opsOf Try.f38 11) = impl_MoveMachine.T11 := by kernel_rfl
theorem impl_MoveMachine.bits11 : waitsOk impl_MoveMachine.T11.2 impl_MoveMachine.B11 = true := by kernel_rfl
def impl_MoveMachine.T16 : Bool × List (List Nat × List Nat) := (true, [([], []), ([0], [0]), ([], []), ([], []), ([3], [3]), ([], []), ([4, 5], [4, 5]), ([6], [6]), ([], []), ([], []), ([7, 8, 9], [7, 8, 9]), ([1, 2, 0, 1, 2, 3, 4, 5, 6, 7, 8, 9, 10], [1, 2]), ([11, 10, 10, 0, 1, 2, 3, 4, 5, 6, 7, 8, 9, 10], [10, 11])])
def impl_MoveMachine.B16 : List Nat := [0, 1, 0, 0, 8, 0, 56, 120, 0, 0, 1016, 2047, 4095]
theorem impl_MoveMachine.tab16 : rtab .any (opsOf Try.f38 16) = impl_MoveMachine.T16 := by kernel_rfl
theorem impl_MoveMachine.bits16 : waitsOk impl_MoveMachine.T16.2 impl_MoveMachine.B16 = true := by kernel_rfl
theorem impl_MoveMachine.calls (k : Nat) (a0_0 : Int) (a0_1 : Int) (A0_2 : Option Addr) (c0_2 : Nat) (l0_2 : List (S91)) (A0_3 : Option Addr) (c0_3 : Nat) (l0_3 : List (S116)) (A0_4 : Option Addr) (c0_4 : Nat) (l0_4 : List (S74)) (a1 : Int) (a2 : Int) (r1 : Int) (r2 : Int) (r3 : List (S91)) (r4 : List (S116)) (r5 : List (S74)) (r6 : Int) (w : World) (hr0_2 : Kd.C k91 w A0_2 l0_2.length l0_2) (hc0_2 : l0_2.length ≤ c0_2) (hr0_3 : Kd.C k116 w A0_3 l0_3.length l0_3) (hc0_3 : l0_3.length ≤ c0_3) (hr0_4 : Kd.C k74 w A0_4 l0_4.length l0_4) (hc0_4 : l0_4.length ≤ c0_4) (h : impl_MoveMachine.f k a0_0 a0_1 l0_2 l0_3 l0_4 a1 a2 = some (r1, r2, r3, r4, r5, r6)) :
    Calls Try.prog 38 #[.agg #[.int .i8 a0_0, .int .i8 a0_1, .slice A0_2 l0_2.length c0_2, .slice A0_3 l0_3.length c0_3, .slice A0_4 l0_4.length c0_4], .int .i64 a1, .int .i64 a2] w fun e w' => ∃ v2_ v3_ v4_ : Value, e = .returned (.tuple #[.agg #[.int .i8 r1, .int .i8 r2, v2_, v3_, v4_], .int .i64 r6]) ∧ Kd.R k91 91 w' w.heap.size (fun _ => True) v2_ r3 ∧ Kd.R k116 116 w' w.heap.size (fun _ => True) v3_ r4 ∧ Kd.R k74 74 w' w.heap.size (fun _ => True) v4_ r5 ∧ Below w.heap.size w w' := by
 have hu41 := Try.underlying41
 have hu37 := Try.underlying37
 have hu74 := Try.underlying74
 have HR0_2 := Aside0.mk hr0_2
 have HC0_2 := Aside0.mk hc0_2
 clear hr0_2 hc0_2
 have HR0_3 := Aside0.mk hr0_3
 have HC0_3 := Aside0.mk hc0_3
 clear hr0_3 hc0_3
 have HR0_4 := Aside0.mk hr0_4
 have HC0_4 := Aside0.mk hc0_4
 clear hr0_4 hc0_4
 have HB := Aside0.mk (Below.refl w.heap.size w)
 have H : ((impl_ValidMachine.f k a0_0 a0_1 l0_2 l0_3 l0_4).bind fun t427 => (if t427 = true then ((impl_MoveBoard.f k a0_0 a0_1 l0_2 a1 a2).bind fun bt428 => (if bt428.2.2.2 = 0 then ((impl_cloneMachine.f a0_0 a0_1 l0_2 l0_3 l0_4).bind fun bt435 => (impl_MoveMachine.l0 k a1 a2 (bt435.2.2.2.1.length : Int) 0 bt428.1 bt428.2.1 bt428.2.2.1 bt435.2.2.2.1 bt435.2.2.2.2)) else (some (0, 0, ([] : List (S91)), ([] : List (S116)), ([] : List (S74)), bt428.2.2.2)))) else (some (0, 0, ([] : List (S91)), ([] : List (S116)), ([] : List (S74)), 1)))) = some (r1, r2, r3, r4, r5, r6) := h
 clear h
 replace H := zob H
 obtain ⟨t427, A40, H⟩ := H
 replace H : (if t427 = true then ((impl_MoveBoard.f k a0_0 a0_1 l0_2 a1 a2).bind fun bt428 => (if bt428.2.2.2 = 0 then ((impl_cloneMachine.f a0_0 a0_1 l0_2 l0_3 l0_4).bind fun bt435 => (impl_MoveMachine.l0 k a1 a2 (bt435.2.2.2.1.length : Int) 0 bt428.1 bt428.2.1 bt428.2.2.1 bt435.2.2.2.1 bt435.2.2.2.2)) else (some (0, 0, ([] : List (S91)), ([] : List (S116)), ([] : List (S74)), bt428.2.2.2)))) else (some (0, 0, ([] : List (S91)), ([] : List (S116)), ([] : List (S74)), 1))) = some (r1, r2, r3, r4, r5, r6) := H
 have A4 := Aside0.mk A40
 clear A40
 by_cases c5 : t427 = true
 rotate_left
 ·replace c5 := Bool.eq_false_iff.mpr c5
  subst c5
  have H1 : (some (0, 0, ([] : List (S91)), ([] : List (S116)), ([] : List (S74)), 1)) = some (r1, r2, r3, r4, r5, r6) := by rw [if_neg (show ¬ (false = true) by decide)] at H; exact H
  clear H
  have H := H1
  clear H1
  simp only [Option.some.injEq, Prod.mk.injEq] at H
  obtain ⟨rfl, rfl, rfl, rfl, rfl, rfl⟩ := H
  go_enter Try.func38, Try.ntmps38
  go_wp2_with (first | ((with_reducible refine gate_dst (N := 3) rfl ?_); refine zbx 3 #[.int .i8 a0_0, .int .i8 a0_1, .slice A0_2 l0_2.length c0_2, .slice A0_3 l0_3.length c0_3, .slice A0_4 l0_4.length c0_4] 41 ?_; intro gb425 hg w76 hbox hb; have n_ : _ ∧ _ ∧ _ ∧ _ := ⟨zb HB hb, Aside0.mk (hbox), zg HB hg, zg HB hg⟩; clear HB; obtain ⟨HB, BK425, GW425, GE425⟩ := n_; clear hb hbox hg) | ((with_reducible refine gate_dst (N := 6) rfl ?_); refine zbx 6 #[.int .i8 0, .int .i8 0, .slice none 0 0, .slice none 0 0, .slice none 0 0] 41 ?_; intro gb426 hg w77 hbox hb; have n_ : _ ∧ _ ∧ _ ∧ _ ∧ _ ∧ _ ∧ _ := ⟨zk BK425 hb, zbs hb, Aside0.mk (hbox), zg HB hg, zg HB hg, zn1 BK425 hg, zn2 BK425 hg⟩; clear BK425 HB; obtain ⟨BK425, HB, BK426, GW426, GE426, NB425_426, NB426_425⟩ := n_; clear hb hbox hg; have hnb78 := NB425_426.out; have hnc78 := NB426_425.out; obtain ⟨z79_0, z79_1, z79_2, z79_3, z79_4, y79_0, y79_1, y79_2, y79_3, y79_4⟩ := zB5 BK425) | ((with_reducible refine gate_callee (f := 79) rfl ?_); refine goesL_ (some 14) rfl rfl Try.func79 (by kernel_rfl) rfl #[.agg #[.int .i8 a0_0, .int .i8 a0_1, .slice A0_2 l0_2.length c0_2, .slice A0_3 l0_3.length c0_3, .slice A0_4 l0_4.length c0_4]] rfl zm ?_; (with_reducible refine (impl_ValidMachine.calls k a0_0 a0_1 _ _ l0_2 _ _ l0_3 _ _ l0_4 false _ ?side1 ?side2 ?side3 ?side4 ?side5 ?side6 A4.out).mono ?_); (case side1 => exact zcc HB HR0_2.out); (case side2 => exact HC0_2.out); (case side3 => exact zcc HB HR0_3.out); (case side4 => exact HC0_3.out); (case side5 => exact zcc HB HR0_4.out); (case side6 => exact HC0_4.out); rintro e w80 ⟨rfl, hb⟩; refine ⟨_, rfl, ?_⟩; have n_ : _ ∧ _ ∧ _ := ⟨zk BK425 hb, zk BK426 hb, zbs hb⟩; clear BK425 BK426 HB; obtain ⟨BK425, BK426, HB⟩ := n_; (try clear hb); (try clear hb2); (try clear hk); (try clear hi); obtain ⟨z81_0, z81_1, z81_2, z81_3, z81_4, y81_0, y81_1, y81_2, y81_3, y81_4⟩ := zB5 BK426))
  refine bodyPost_ret (results_ct rfl _ _ gb426 41 #[.int .i8 0, .int .i8 0, .slice none 0 0, .slice none 0 0, .slice none 0 0] (0, 0) _ rfl (zp BK426) Try.underlying41 rfl (by kernel_rfl)) rfl ?_
  exact ⟨_, _, _, zv, by first | exact Kd.R_nil _ _ _ _ _ | exact Kd.N_nil _ _ _ _ _ | exact Kd.V_nil _ _ _ _ _ | exact Kd.Q_nil _ _ _ _ _ | exact Kd.S_nil _ _ _ _ _, by first | exact Kd.R_nil _ _ _ _ _ | exact Kd.N_nil _ _ _ _ _ | exact Kd.V_nil _ _ _ _ _ | exact Kd.Q_nil _ _ _ _ _ | exact Kd.S_nil _ _ _ _ _, by first | exact Kd.R_nil _ _ _ _ _ | exact Kd.N_nil _ _ _ _ _ | exact Kd.V_nil _ _ _ _ _ | exact Kd.Q_nil _ _ _ _ _ | exact Kd.S_nil _ _ _ _ _, zbo⟩
 subst c5
 have H1 : ((impl_MoveBoard.f k a0_0 a0_1 l0_2 a1 a2).bind fun bt428 => (if bt428.2.2.2 = 0 then ((impl_cloneMachine.f a0_0 a0_1 l0_2 l0_3 l0_4).bind fun bt435 => (impl_MoveMachine.l0 k a1 a2 (bt435.2.2.2.1.length : Int) 0 bt428.1 bt428.2.1 bt428.2.2.1 bt435.2.2.2.1 bt435.2.2.2.2)) else (some (0, 0, ([] : List (S91)), ([] : List (S116)), ([] : List (S74)), bt428.2.2.2)))) = some (r1, r2, r3, r4, r5, r6) := by rw [if_pos rfl] at H; exact H
 clear H
 have H := H1
 clear H1
 replace H := zob H
 obtain ⟨⟨t428, t429, t430, t433⟩, A60, H⟩ := H
 replace H : (if t433 = 0 then ((impl_cloneMachine.f a0_0 a0_1 l0_2 l0_3 l0_4).bind fun bt435 => (impl_MoveMachine.l0 k a1 a2 (bt435.2.2.2.1.length : Int) 0 t428 t429 t430 bt435.2.2.2.1 bt435.2.2.2.2)) else (some (0, 0, ([] : List (S91)), ([] : List (S116)), ([] : List (S74)), t433))) = some (r1, r2, r3, r4, r5, r6) := H
 have A6 := Aside0.mk A60
 clear A60
 by_cases c7 : t433 = 0
 rotate_left
 ·rw [if_neg c7] at H
  have c7b0 : (t433 == 0) = false := beq_eq_false_iff_ne.mpr c7
  have c7b1 : (t433 != 0) = true := bne_iff_ne.mpr c7
  simp only [Option.some.injEq, Prod.mk.injEq] at H
  obtain ⟨rfl, rfl, rfl, rfl, rfl, rfl⟩ := H
  go_enter Try.func38, Try.ntmps38
  go_wp2_with (first | ((with_reducible refine gate_dst (N := 3) rfl ?_); refine zbx 3 #[.int .i8 a0_0, .int .i8 a0_1, .slice A0_2 l0_2.length c0_2, .slice A0_3 l0_3.length c0_3, .slice A0_4 l0_4.length c0_4] 41 ?_; intro gb425 hg w63 hbox hb; have n_ : _ ∧ _ ∧ _ ∧ _ := ⟨zb HB hb, Aside0.mk (hbox), zg HB hg, zg HB hg⟩; clear HB; obtain ⟨HB, BK425, GW425, GE425⟩ := n_; clear hb hbox hg) | ((with_reducible refine gate_dst (N := 6) rfl ?_); refine zbx 6 #[.int .i8 0, .int .i8 0, .slice none 0 0, .slice none 0 0, .slice none 0 0] 41 ?_; intro gb426 hg w64 hbox hb; have n_ : _ ∧ _ ∧ _ ∧ _ ∧ _ ∧ _ ∧ _ := ⟨zk BK425 hb, zbs hb, Aside0.mk (hbox), zg HB hg, zg HB hg, zn1 BK425 hg, zn2 BK425 hg⟩; clear BK425 HB; obtain ⟨BK425, HB, BK426, GW426, GE426, NB425_426, NB426_425⟩ := n_; clear hb hbox hg; have hnb65 := NB425_426.out; have hnc65 := NB426_425.out; obtain ⟨z66_0, z66_1, z66_2, z66_3, z66_4, y66_0, y66_1, y66_2, y66_3, y66_4⟩ := zB5 BK425) | ((with_reducible refine gate_callee (f := 79) rfl ?_); refine goesL_ (some 14) rfl rfl Try.func79 (by kernel_rfl) rfl #[.agg #[.int .i8 a0_0, .int .i8 a0_1, .slice A0_2 l0_2.length c0_2, .slice A0_3 l0_3.length c0_3, .slice A0_4 l0_4.length c0_4]] rfl zm ?_; (with_reducible refine (impl_ValidMachine.calls k a0_0 a0_1 _ _ l0_2 _ _ l0_3 _ _ l0_4 true _ ?side1 ?side2 ?side3 ?side4 ?side5 ?side6 A4.out).mono ?_); (case side1 => exact zcc HB HR0_2.out); (case side2 => exact HC0_2.out); (case side3 => exact zcc HB HR0_3.out); (case side4 => exact HC0_3.out); (case side5 => exact zcc HB HR0_4.out); (case side6 => exact HC0_4.out); rintro e w67 ⟨rfl, hb⟩; refine ⟨_, rfl, ?_⟩; have n_ : _ ∧ _ ∧ _ := ⟨zk BK425 hb, zk BK426 hb, zbs hb⟩; clear BK425 BK426 HB; obtain ⟨BK425, BK426, HB⟩ := n_; (try clear hb); (try clear hb2); (try clear hk); (try clear hi); obtain ⟨z68_0, z68_1, z68_2, z68_3, z68_4, y68_0, y68_1, y68_2, y68_3, y68_4⟩ := zB5 BK425) | ((with_reducible refine gate_callee (f := 63) rfl ?_); refine goesL_ (some 22) rfl rfl Try.func63 (by kernel_rfl) rfl #[.agg #[.int .i8 a0_0, .int .i8 a0_1, .slice A0_2 l0_2.length c0_2], .int .i64 a1, .int .i64 a2] rfl zm ?_; (with_reducible refine (impl_MoveBoard.calls k a0_0 a0_1 _ _ l0_2 a1 a2 t428 t429 t430 t433 _ ?side1 ?side2 A6.out).mono ?_); (case side1 => exact zcc HB HR0_2.out); (case side2 => exact HC0_2.out); rintro e w69 ⟨v431, rfl, ho0, hb⟩; refine ⟨_, rfl, ?_⟩; have n_ : _ ∧ _ ∧ _ ∧ _ := ⟨Aside0.mk (Kd.R_lower ho0 (zz HB)), zk BK425 hb, zk BK426 hb, zbs hb⟩; clear BK425 BK426 HB; obtain ⟨HO432, BK425, BK426, HB⟩ := n_; (try clear hb); (try clear hb2); (try clear hk); (try clear hi); (try clear ho0)) | ((with_reducible refine gate_dst (N := 8) rfl ?_); refine zbx 8 #[.int .i8 0, .int .i8 0, .slice none 0 0] 37 ?_; intro gb434 hg w70 hbox hb; have n_ : _ ∧ _ ∧ _ ∧ _ ∧ _ ∧ _ ∧ _ ∧ _ ∧ _ ∧ _ ∧ _ := ⟨zr HO432 hb, zk BK425 hb, zk BK426 hb, zbs hb, Aside0.mk (hbox), zg HB hg, zg HB hg, zn1 BK425 hg, zn2 BK425 hg, zn1 BK426 hg, zn2 BK426 hg⟩; clear HO432 BK425 BK426 HB; obtain ⟨HO432, BK425, BK426, HB, BK434, GW434, GE434, NB425_434, NB434_425, NB426_434, NB434_426⟩ := n_; clear hb hbox hg; have hnb71 := NB434_425.out; have hnc71 := NB425_434.out; have hnb72 := NB434_426.out; have hnc72 := NB426_434.out; obtain ⟨z73_0, z73_1, z73_2, y73_0, y73_1, y73_2⟩ := zB3 BK434; obtain ⟨Ao74, co74, eo74⟩ := Kd.R_slice HO432.out; subst eo74; obtain ⟨z75_0, z75_1, z75_2, z75_3, z75_4, y75_0, y75_1, y75_2, y75_3, y75_4⟩ := zB5 BK426))
  refine bodyPost_ret (results_ct rfl _ _ gb426 41 #[.int .i8 0, .int .i8 0, .slice none 0 0, .slice none 0 0, .slice none 0 0] (0, 0) _ rfl (by (with_reducible repeat (first | refine blk_drewN ?_ _ | refine blk_drew ?_ | refine blk_alloc ?_ _)); refine blk_put (cs := #[.int .i8 0, .int .i8 0, .slice none 0 0, .slice none 0 0, .slice none 0 0]) ?_ 4 _ rfl; (with_reducible repeat (first | refine blk_drewN ?_ _ | refine blk_drew ?_ | refine blk_alloc ?_ _)); refine blk_put (cs := #[.int .i8 0, .int .i8 0, .slice none 0 0, .slice none 0 0, .slice none 0 0]) ?_ 3 _ rfl; (with_reducible repeat (first | refine blk_drewN ?_ _ | refine blk_drew ?_ | refine blk_alloc ?_ _)); refine blk_put (cs := #[.int .i8 0, .int .i8 0, .slice none 0 0, .slice none 0 0, .slice none 0 0]) ?_ 2 _ rfl; (with_reducible repeat (first | refine blk_drewN ?_ _ | refine blk_drew ?_ | refine blk_alloc ?_ _)); refine blk_put (cs := #[.int .i8 0, .int .i8 0, .slice none 0 0, .slice none 0 0, .slice none 0 0]) ?_ 1 _ rfl; (with_reducible repeat (first | refine blk_drewN ?_ _ | refine blk_drew ?_ | refine blk_alloc ?_ _)); refine blk_put (cs := #[.int .i8 0, .int .i8 0, .slice none 0 0, .slice none 0 0, .slice none 0 0]) ?_ 0 _ rfl; (with_reducible repeat (first | refine blk_drewN ?_ _ | refine blk_drew ?_ | refine blk_alloc ?_ _)); refine blk_far ?_ NB426_434.out _; (with_reducible repeat (first | refine blk_drewN ?_ _ | refine blk_drew ?_ | refine blk_alloc ?_ _)); refine blk_far ?_ NB426_434.out _; (with_reducible repeat (first | refine blk_drewN ?_ _ | refine blk_drew ?_ | refine blk_alloc ?_ _)); refine blk_far ?_ NB426_434.out _; (with_reducible repeat (first | refine blk_drewN ?_ _ | refine blk_drew ?_ | refine blk_alloc ?_ _)); exact BK426.out) Try.underlying41 rfl (by kernel_rfl)) rfl ?_
  exact ⟨_, _, _, zv, by first | exact Kd.R_nil _ _ _ _ _ | exact Kd.N_nil _ _ _ _ _ | exact Kd.V_nil _ _ _ _ _ | exact Kd.Q_nil _ _ _ _ _ | exact Kd.S_nil _ _ _ _ _, by first | exact Kd.R_nil _ _ _ _ _ | exact Kd.N_nil _ _ _ _ _ | exact Kd.V_nil _ _ _ _ _ | exact Kd.Q_nil _ _ _ _ _ | exact Kd.S_nil _ _ _ _ _, by first | exact Kd.R_nil _ _ _ _ _ | exact Kd.N_nil _ _ _ _ _ | exact Kd.V_nil _ _ _ _ _ | exact Kd.Q_nil _ _ _ _ _ | exact Kd.S_nil _ _ _ _ _, zbo⟩
 rw [if_pos c7] at H
 have c7b0 : (t433 == 0) = true := beq_iff_eq.mpr c7
 have c7b1 : (t433 != 0) = false := bne_eq_false_iff_eq.mpr c7
 clear c7
 replace H := zob H
 obtain ⟨⟨t435, t436, t437, t440, t443⟩, A80, H⟩ := H
 replace H : (impl_MoveMachine.l0 k a1 a2 (t440.length : Int) 0 t428 t429 t430 t440 t443) = some (r1, r2, r3, r4, r5, r6) := H
 have A8 := Aside0.mk A80
 clear A80
 have H' := Aside0.mk H
 clear H
 go_enter Try.func38, Try.ntmps38
 go_wp2_with (first | ((with_reducible refine gate_dst (N := 3) rfl ?_); refine zbx 3 #[.int .i8 a0_0, .int .i8 a0_1, .slice A0_2 l0_2.length c0_2, .slice A0_3 l0_3.length c0_3, .slice A0_4 l0_4.length c0_4] 41 ?_; intro gb425 hg w9 hbox hb; have n_ : _ ∧ _ ∧ _ ∧ _ := ⟨zb HB hb, Aside0.mk (hbox), zg HB hg, zg HB hg⟩; clear HB; obtain ⟨HB, BK425, GW425, GE425⟩ := n_; clear hb hbox hg) | ((with_reducible refine gate_dst (N := 6) rfl ?_); refine zbx 6 #[.int .i8 0, .int .i8 0, .slice none 0 0, .slice none 0 0, .slice none 0 0] 41 ?_; intro gb426 hg w10 hbox hb; have n_ : _ ∧ _ ∧ _ ∧ _ ∧ _ ∧ _ ∧ _ := ⟨zk BK425 hb, zbs hb, Aside0.mk (hbox), zg HB hg, zg HB hg, zn1 BK425 hg, zn2 BK425 hg⟩; clear BK425 HB; obtain ⟨BK425, HB, BK426, GW426, GE426, NB425_426, NB426_425⟩ := n_; clear hb hbox hg; have hnb11 := NB425_426.out; have hnc11 := NB426_425.out; obtain ⟨z12_0, z12_1, z12_2, z12_3, z12_4, y12_0, y12_1, y12_2, y12_3, y12_4⟩ := zB5 BK425) | ((with_reducible refine gate_callee (f := 79) rfl ?_); refine goesL_ (some 14) rfl rfl Try.func79 (by kernel_rfl) rfl #[.agg #[.int .i8 a0_0, .int .i8 a0_1, .slice A0_2 l0_2.length c0_2, .slice A0_3 l0_3.length c0_3, .slice A0_4 l0_4.length c0_4]] rfl zm ?_; (with_reducible refine (impl_ValidMachine.calls k a0_0 a0_1 _ _ l0_2 _ _ l0_3 _ _ l0_4 true _ ?side1 ?side2 ?side3 ?side4 ?side5 ?side6 A4.out).mono ?_); (case side1 => exact zcc HB HR0_2.out); (case side2 => exact HC0_2.out); (case side3 => exact zcc HB HR0_3.out); (case side4 => exact HC0_3.out); (case side5 => exact zcc HB HR0_4.out); (case side6 => exact HC0_4.out); rintro e w13 ⟨rfl, hb⟩; refine ⟨_, rfl, ?_⟩; have n_ : _ ∧ _ ∧ _ := ⟨zk BK425 hb, zk BK426 hb, zbs hb⟩; clear BK425 BK426 HB; obtain ⟨BK425, BK426, HB⟩ := n_; (try clear hb); (try clear hb2); (try clear hk); (try clear hi); obtain ⟨z14_0, z14_1, z14_2, z14_3, z14_4, y14_0, y14_1, y14_2, y14_3, y14_4⟩ := zB5 BK425) | ((with_reducible refine gate_callee (f := 63) rfl ?_); refine goesL_ (some 22) rfl rfl Try.func63 (by kernel_rfl) rfl #[.agg #[.int .i8 a0_0, .int .i8 a0_1, .slice A0_2 l0_2.length c0_2], .int .i64 a1, .int .i64 a2] rfl zm ?_; (with_reducible refine (impl_MoveBoard.calls k a0_0 a0_1 _ _ l0_2 a1 a2 t428 t429 t430 t433 _ ?side1 ?side2 A6.out).mono ?_); (case side1 => exact zcc HB HR0_2.out); (case side2 => exact HC0_2.out); rintro e w15 ⟨v431, rfl, ho0, hb⟩; refine ⟨_, rfl, ?_⟩; have n_ : _ ∧ _ ∧ _ ∧ _ := ⟨Aside0.mk (Kd.R_lower ho0 (zz HB)), zk BK425 hb, zk BK426 hb, zbs hb⟩; clear BK425 BK426 HB; obtain ⟨HO432, BK425, BK426, HB⟩ := n_; (try clear hb); (try clear hb2); (try clear hk); (try clear hi); (try clear ho0)) | ((with_reducible refine gate_dst (N := 8) rfl ?_); refine zbx 8 #[.int .i8 0, .int .i8 0, .slice none 0 0] 37 ?_; intro gb434 hg w16 hbox hb; have n_ : _ ∧ _ ∧ _ ∧ _ ∧ _ ∧ _ ∧ _ ∧ _ ∧ _ ∧ _ ∧ _ := ⟨zr HO432 hb, zk BK425 hb, zk BK426 hb, zbs hb, Aside0.mk (hbox), zg HB hg, zg HB hg, zn1 BK425 hg, zn2 BK425 hg, zn1 BK426 hg, zn2 BK426 hg⟩; clear HO432 BK425 BK426 HB; obtain ⟨HO432, BK425, BK426, HB, BK434, GW434, GE434, NB425_434, NB434_425, NB426_434, NB434_426⟩ := n_; clear hb hbox hg; have hnb17 := NB434_425.out; have hnc17 := NB425_434.out; have hnb18 := NB434_426.out; have hnc18 := NB426_434.out; obtain ⟨z19_0, z19_1, z19_2, y19_0, y19_1, y19_2⟩ := zB3 BK434; obtain ⟨Ao20, co20, eo20⟩ := Kd.R_slice HO432.out; subst eo20; obtain ⟨z21_0, z21_1, z21_2, z21_3, z21_4, y21_0, y21_1, y21_2, y21_3, y21_4⟩ := zB5 BK425) | ((with_reducible refine gate_callee (f := 101) rfl ?_); refine goesL_ (some 30) rfl rfl Try.func101 (by kernel_rfl) rfl #[.agg #[.int .i8 a0_0, .int .i8 a0_1, .slice A0_2 l0_2.length c0_2, .slice A0_3 l0_3.length c0_3, .slice A0_4 l0_4.length c0_4]] rfl zm ?_; (with_reducible refine (impl_cloneMachine.calls a0_0 a0_1 _ _ l0_2 _ _ l0_3 _ _ l0_4 t435 t436 t437 t440 t443 _ ?side1 ?side2 ?side3 ?side4 ?side5 ?side6 A8.out).mono ?_); (case side1 => exact Kd.C_below HR0_2.out zbo); (case side2 => exact HC0_2.out); (case side3 => exact Kd.C_below HR0_3.out zbo); (case side4 => exact HC0_3.out); (case side5 => exact Kd.C_below HR0_4.out zbo); (case side6 => exact HC0_4.out); rintro e w22 ⟨v438, v441, v444, rfl, ho0, ho1, ho2, hb⟩; refine ⟨_, rfl, ?_⟩; have n_ : _ ∧ _ ∧ _ ∧ _ ∧ _ ∧ _ ∧ _ ∧ _ := ⟨Aside0.mk (Kd.R_elder' (zs HO432 BK434).out (Kd.R_base ho0) hb), Aside0.mk (Kd.R_lower (Kd.R_new' ho0 (Kd.R_lt (zs HO432 BK434).out)) (zz HB)), Aside0.mk (Kd.R_lower ho1 (zz HB)), Aside0.mk (Kd.R_lower ho2 (zz HB)), zfb BK425 NB425_434 hb, zfb BK426 NB426_434 hb, Aside0.mk (blk_below (g := gb434) (o := .cells #[.int .i8 t428, .int .i8 t429, .slice Ao20 t430.length co20] 37 (0, 0)) (zp BK434) hb), zbs hb⟩; clear HO432 BK425 BK426 BK434 HB; obtain ⟨HO432, HO439, HO442, HO445, BK425, BK426, BK434, HB⟩ := n_; (try clear hb); (try clear hb2); (try clear hk); (try clear hi); (try clear ho0); (try clear ho1); (try clear ho2)) | ((with_reducible refine gate_dst (N := 10) rfl ?_); refine zbx 10 #[.int .i8 0, .int .i8 0, .slice none 0 0, .slice none 0 0, .slice none 0 0] 41 ?_; intro gb446 hg w23 hbox hb; have n_ : _ ∧ _ ∧ _ ∧ _ ∧ _ ∧ _ ∧ _ ∧ _ ∧ _ ∧ _ ∧ _ ∧ _ ∧ _ ∧ _ ∧ _ ∧ _ ∧ _ := ⟨zr HO432 hb, zr HO439 hb, zr HO442 hb, zr HO445 hb, zk BK425 hb, zk BK426 hb, zk BK434 hb, zbs hb, Aside0.mk (hbox), zg HB hg, zg HB hg, zn1 BK425 hg, zn2 BK425 hg, zn1 BK426 hg, zn2 BK426 hg, zn1 BK434 hg, zn2 BK434 hg⟩; clear HO432 HO439 HO442 HO445 BK425 BK426 BK434 HB; obtain ⟨HO432, HO439, HO442, HO445, BK425, BK426, BK434, HB, BK446, GW446, GE446, NB425_446, NB446_425, NB426_446, NB446_426, NB434_446, NB446_434⟩ := n_; clear hb hbox hg; have hnb24 := NB446_425.out; have hnc24 := NB425_446.out; have hnb25 := NB446_426.out; have hnc25 := NB426_446.out; have hnb26 := NB446_434.out; have hnc26 := NB434_446.out; obtain ⟨z27_0, z27_1, z27_2, z27_3, z27_4, y27_0, y27_1, y27_2, y27_3, y27_4⟩ := zB5 BK446; obtain ⟨Ao28, co28, eo28⟩ := Kd.R_slice HO439.out; subst eo28; obtain ⟨Ao29, co29, eo29⟩ := Kd.R_slice HO442.out; subst eo29; obtain ⟨Ao30, co30, eo30⟩ := Kd.R_slice HO445.out; subst eo30; obtain ⟨z31_0, z31_1, z31_2, y31_0, y31_1, y31_2⟩ := zB3 BK434))
 go_loopg [36] k (fun kq v36 w' => ∃ (x36_1 : Int) (x447003_1 : List (S116)) (u447003 : Value), v36 = .int .i64 x36_1 ∧ Aside0 (impl_MoveMachine.l0 kq a1 a2 (t440.length : Int) x36_1 t428 t429 t430 x447003_1 t443 = some (r1, r2, r3, r4, r5, r6)) ∧ Aside0 (kq ≤ k) ∧ Aside0 (Kd.R k91 91 w' w.heap.size (fun _ => True) (.slice Ao20 t430.length co20) t430) ∧ Aside0 (Kd.R k91 91 w' w.heap.size (fun _ => True) (.slice Ao20 t430.length co20) t430) ∧ Aside0 (Kd.R k116 116 w' w.heap.size (fun _ => True) u447003 x447003_1) ∧ Aside0 (Kd.R k74 74 w' w.heap.size (fun _ => True) (.slice Ao30 t443.length co30) t443) ∧ Aside0 (w'.heap[gb425]? = some (.cells #[.int .i8 a0_0, .int .i8 a0_1, (.slice A0_2 l0_2.length c0_2), (.slice A0_3 l0_3.length c0_3), (.slice A0_4 l0_4.length c0_4)] 41 (0, 0))) ∧ Aside0 (w'.heap[gb426]? = some (.cells #[.int .i8 0, .int .i8 0, (.slice none 0 0), (.slice none 0 0), (.slice none 0 0)] 41 (0, 0))) ∧ Aside0 (w'.heap[gb434]? = some (.cells #[.int .i8 t428, .int .i8 t429, (.slice Ao20 t430.length co20)] 37 (0, 0))) ∧ Aside0 (w'.heap[gb446]? = some (.cells #[.int .i8 t428, .int .i8 t429, (.slice Ao20 t430.length co20), u447003, (.slice Ao30 t443.length co30)] 41 (0, 0))) ∧ Aside0 (Below w.heap.size w w'))
 case atStart => exact ⟨(0), (t440), (.slice Ao29 t440.length co29), zi, H', ⟨Nat.le_refl _⟩, ⟨Kd.R_mono (zs HO432 BK446).out (fun _ hk => trivial)⟩, ⟨Kd.R_mono (zs HO432 BK446).out (fun _ hk => trivial)⟩, ⟨Kd.R_mono (zs HO442 BK446).out (fun _ hk => trivial)⟩, ⟨Kd.R_mono (zs HO445 BK446).out (fun _ hk => trivial)⟩, zf BK425 NB425_446, zf BK426 NB426_446, zf BK434 NB434_446, ⟨zp BK446⟩, zba⟩
 clear H'
 try clear c1
 try clear c2
 try clear p2
 try clear c3
 try clear c5
 try clear c6
 try clear c7
 try clear c7b0
 try clear c7b1
 try clear c10
 try clear c11
 try clear c17
 try clear c18
 try clear c24
 try clear c25
 try clear c26
 try clear z12_0 z12_1 z12_2 z12_3 z12_4
 try clear z14_0 z14_1 z14_2 z14_3 z14_4
 try clear z19_0 z19_1 z19_2
 try clear z21_0 z21_1 z21_2 z21_3 z21_4
 try clear z27_0 z27_1 z27_2 z27_3 z27_4
 try clear z31_0 z31_1 z31_2
 try clear y12_0
 try clear y12_1
 try clear y12_2
 try clear y12_3
 try clear y12_4
 try clear y14_0
 try clear y14_1
 try clear y14_2
 try clear y14_3
 try clear y14_4
 try clear y19_0
 try clear y19_1
 try clear y19_2
 try clear y21_0
 try clear y21_1
 try clear y21_2
 try clear y21_3
 try clear y21_4
 try clear y27_0
 try clear y27_1
 try clear y27_2
 try clear y27_3
 try clear y27_4
 try clear y31_0
 try clear y31_1
 try clear y31_2
 obtain ⟨x36_1, x447003_1, u447003, rfl, HA, HK1, HO_435002, HO_447002, HO_447003, HO_447004, BK425, BK426, BK434, BK446, HB⟩ := hrel
 cases gk with
 | zero => exact absurd HA.out (by simp [impl_MoveMachine.l0])
 | succ k1 => ?_
 have H := HA.out
 clear HA
 simp only [impl_MoveMachine.l0] at H
 by_cases c32 : x36_1 < (t440.length : Int)
 ·rw [if_pos c32] at H
  have c32b0 : decide (x36_1 < (t440.length : Int)) = true := decide_eq_true c32
  clear c32
  by_cases c33 : 0 ≤ x36_1
  rotate_left
  ·rw [if_neg c33] at H
   exact absurd H (by simp)
  rw [if_pos c33] at H
  have c33b0 : decide (0 ≤ x36_1) = true := decide_eq_true c33
  clear c33
  by_cases c34 : x36_1 < (x447003_1.length : Int)
  rotate_left
  ·rw [if_neg c34] at H
   exact absurd H (by simp)
  rw [if_pos c34] at H
  have c34b0 : decide (x36_1 < (x447003_1.length : Int)) = true := decide_eq_true c34
  clear c34
  replace H := zob H
  obtain ⟨⟨t448, t449⟩, A350, H⟩ := H
  replace H : (impl_MoveMachine.l0 k1 a1 a2 (t440.length : Int) (wrap64 (x36_1 + 1)) t428 t429 t430 (x447003_1.set (x36_1 : Int).toNat (⟨(⟨t448, t449⟩ : S74), (rd_T116 x447003_1 x36_1).f1⟩ : S116)) t443) = some (r1, r2, r3, r4, r5, r6) := H
  have A35 := Aside0.mk A350
  clear A350
  obtain ⟨y450, hy450⟩ : ∃ y_ : List (S116), y_ = (x447003_1.set (x36_1 : Int).toNat (⟨(⟨t448, t449⟩ : S74), (rd_T116 x447003_1 x36_1).f1⟩ : S116)) := ⟨_, rfl⟩
  replace H : (impl_MoveMachine.l0 k1 a1 a2 (t440.length : Int) (wrap64 (x36_1 + 1)) t428 t429 t430 y450 t443) = some (r1, r2, r3, r4, r5, r6) := by first | (rw [hy450]; with_reducible exact H) | (have H2_ := (Option.bind_some _ _).symm.trans H; rw [hy450]; with_reducible exact H2_) | (have H2_ := (Option.bind_some _ _).symm.trans H; with_reducible exact H2_) | with_reducible exact H | (rw [hy450]; exact H) | exact H
  have Ny450 := Aside0.mk hy450
  clear hy450
  have H' := Aside0.mk H
  clear H
  try go_wp2
  have n_ : _ ∧ _ ∧ _ ∧ _ ∧ _ ∧ _ ∧ _ ∧ _ ∧ _ := ⟨Aside0.mk (Kd.R_drew HO_435002.out), Aside0.mk (Kd.R_drew HO_447002.out), Aside0.mk (Kd.R_drew HO_447003.out), Aside0.mk (Kd.R_drew HO_447004.out), Aside0.mk (blk_drew BK425.out), Aside0.mk (blk_drew BK426.out), Aside0.mk (blk_drew BK434.out), Aside0.mk (blk_drew BK446.out), Aside0.mk (below_drew1 HB.out)⟩
  clear HO_435002 HO_447002 HO_447003 HO_447004 BK425 BK426 BK434 BK446 HB
  obtain ⟨HO_435002, HO_447002, HO_447003, HO_447004, BK425, BK426, BK434, BK446, HB⟩ := n_
  obtain ⟨Ao38, co38, eo38⟩ := Kd.R_slice HO_447003.out
  (first | subst eo38 | (injection eo38 with f1_ f2_ f3_; have f4_ := f1_.symm; have f5_ := f3_.symm; clear f1_ f2_ f3_; subst f4_; subst f5_))
  have p447 : 0 ≤ (x36_1 : Int) := of_decide_eq_true zA
  have q447 : x36_1 < (x447003_1.length : Int) := of_decide_eq_true zA
  obtain ⟨ad447, e447, hx447_0, hx447_1, hx447_2⟩ := at_T116 (Kd.R_reads' HO_447003.out).2.2 x36_1 p447 q447
  cases e447
  replace p447 := eq_true p447
  replace q447 := eq_true q447
  refine start_ (n := 15) (S := fun w' => w'.cell? ⟨gb446, 0, none⟩ = some (.int .i8 t428) ∧ w'.cell? ⟨gb446, 1, none⟩ = some (.int .i8 t429) ∧ w'.cell? ⟨gb446, 2, none⟩ = some (.slice Ao20 t430.length co20) ∧ w'.cell? ⟨gb446, 3, none⟩ = some (.slice (some ad447) x447003_1.length co38) ∧ w'.cell? ⟨gb446, 4, none⟩ = some (.slice Ao30 t443.length co30) ∧ w'.cell? (ad447.add ((x36_1).toNat * 3)) = some (.int .i8 ((rd_T116 x447003_1 x36_1).f0.f0)) ∧ w'.cell? ⟨(ad447.add ((x36_1).toNat * 3)).block, (ad447.add ((x36_1).toNat * 3)).off + 1, none⟩ = some (.int .i8 ((rd_T116 x447003_1 x36_1).f0.f1)) ∧ w'.cell? ⟨(ad447.add ((x36_1).toNat * 3)).block, (ad447.add ((x36_1).toNat * 3)).off + 2, none⟩ = some (.int .i8 ((rd_T116 x447003_1 x36_1).f1))) (ds := [14]) (zq 15 0) (by kernel_rfl) rfl rfl ⟨(blk_cell BK446.out 0).trans rfl, (blk_cell BK446.out 1).trans rfl, (blk_cell BK446.out 2).trans rfl, (blk_cell BK446.out 3).trans rfl, (blk_cell BK446.out 4).trans rfl, hx447_0, hx447_1, hx447_2⟩ (fun hHeld => ?_); refine with_tabW impl_MoveMachine.tab11 impl_MoveMachine.bits11 (fun HT_ HW_ => ?_)
  generalize wr.drew = w37 at HO_435002 HO_447002 HO_447003 HO_447004 BK425 BK426 BK434 BK446 HB hx447_0 hx447_1 hx447_2 hHeld ⊢
  refine zpu 0 (some 39) (zq 15 1) HT_ ?_
  refine zpu 2 (some 41) (zq 15 5) HT_ ?_
  refine zpu 3 (some 42) (zq 15 13) HT_ ?_
  refine zpu 5 (some 44) (zq 15 45) HT_ ?_
  refine zpu 9 (some 48) (zq 15 557) HT_ ?_
  refine zpu 10 (some 49) (zq 15 1581) HT_ ?_
  refine ztk 1 (some 40) (zq 15 1583) HT_ HW_ rfl hHeld (Or.inl ⟨by rfl, by (rintro w' ⟨s0, s1, s2, s3, s4, s5, s6, s7⟩; go_simp; with_reducible rfl)⟩) ?_
  refine ztk 4 (some 43) (zq 15 1599) HT_ HW_ rfl hHeld (Or.inl ⟨by rfl, by (rintro w' ⟨s0, s1, s2, s3, s4, s5, s6, s7⟩; go_simp; with_reducible rfl)⟩) ?_
  refine zpu 6 (some 45) (zq 15 1663) HT_ ?_
  refine zpu 7 (some 46) (zq 15 1791) HT_ ?_
  refine ztk 8 (some 47) (zq 15 2047) HT_ HW_ rfl hHeld (Or.inl ⟨by rfl, by (rintro w' ⟨s0, s1, s2, s3, s4, s5, s6, s7⟩; go_simp; with_reducible rfl)⟩) ?_
  refine one_ (i := 11) (N := some 50) (zq 15 4095) rfl rfl (one_of HT_.out (by kernel_rfl)) (by decide) (fun K hK => ?_)
  refine goes_ Try.func102 (by kernel_rfl) rfl #[.agg #[.int .i8 ((rd_T116 x447003_1 x36_1).f0.f0), .int .i8 ((rd_T116 x447003_1 x36_1).f0.f1)], .int .i64 a1, .int .i64 a2] (by rfl) rfl rfl zm ?_
  with_reducible refine (impl_Cell_shifted.calls ((rd_T116 x447003_1 x36_1).f0.f0) ((rd_T116 x447003_1 x36_1).f0.f1) a1 a2 t448 t449 _ A35.out).mono ?_
  rintro e w39 ⟨rfl, hb⟩
  have HS5_ := (hb.cell (World.block_lt_of_cell? _ _ (hHeld.2.2.2.2.2.1))).trans (hHeld.2.2.2.2.2.1)
  have HS6_ := (hb.cell (World.block_lt_of_cell? _ _ (hHeld.2.2.2.2.2.2.1))).trans (hHeld.2.2.2.2.2.2.1)
  have HS7_ := (hb.cell (World.block_lt_of_cell? _ _ (hHeld.2.2.2.2.2.2.2))).trans (hHeld.2.2.2.2.2.2.2)
  refine ⟨_, rfl, ?_⟩
  have n_ : _ ∧ _ ∧ _ ∧ _ ∧ _ ∧ _ ∧ _ ∧ _ ∧ _ := ⟨zr HO_435002 hb, zr HO_447002 hb, zr HO_447003 hb, zr HO_447004 hb, zk BK425 hb, zk BK426 hb, zk BK434 hb, zk BK446 hb, zbs hb⟩
  clear HO_435002 HO_447002 HO_447003 HO_447004 BK425 BK426 BK434 BK446 HB
  obtain ⟨HO_435002, HO_447002, HO_447003, HO_447004, BK425, BK426, BK434, BK446, HB⟩ := n_
  (try clear hb)
  (try clear hb2)
  (try clear hk)
  (try clear hi)
  have p36 : 0 ≤ (x36_1 : Int) := of_decide_eq_true zA
  have q36 : (x36_1 : Int) < ((x447003_1.length : Int) : Int) := of_decide_eq_true zA
  obtain ⟨go36, co36, eo36, gb36, gl36, cl36, HG36⟩ := Kd.R_form HO_447003.out (by omega)
  (first | cases eo36 | (injection eo36 with ea_ en_ ec_; (first | subst ea_ | (injection ea_ with ea_; subst ea_)); subst ec_; clear en_))
  have GB36 := Aside0.mk gb36
  have GG36 := Aside0.mk HG36
  clear gb36 gl36 HG36
  (first | simp only [add_plain] at hx447_0 | skip)
  (first | simp only [add_plain] at hx447_1 | skip)
  (first | simp only [add_plain] at hx447_2 | skip)
  obtain ⟨ce36, hcl36, hM36, hcc36, hfr36⟩ := Kd.R_elem HO_447003.out z116 (x36_1 : Int) p36 q36
  obtain rfl := k116_openM hM36
  have hx36_0 : World.cell? _ ⟨go36, (x36_1 : Int).toNat * 3, none⟩ = some (.int .i8 ((rd_T116 x447003_1 x36_1).f0.f0)) := hcc36 0 _ rfl
  have hx36_1 : World.cell? _ ⟨go36, (x36_1 : Int).toNat * 3 + 1, none⟩ = some (.int .i8 ((rd_T116 x447003_1 x36_1).f0.f1)) := hcc36 1 _ rfl
  have hx36_2 : World.cell? _ ⟨go36, (x36_1 : Int).toNat * 3 + 2, none⟩ = some (.int .i8 ((rd_T116 x447003_1 x36_1).f1)) := hcc36 2 _ rfl
  have hf36_0 : World.frozen? _ ⟨go36, (x36_1 : Int).toNat * 3, none⟩ = false := hfr36 0
  have hf36_1 : World.frozen? _ ⟨go36, (x36_1 : Int).toNat * 3 + 1, none⟩ = false := hfr36 1
  have hf36_2 : World.frozen? _ ⟨go36, (x36_1 : Int).toNat * 3 + 2, none⟩ = false := hfr36 2
  clear hcl36 hcc36 hfr36 hM36
  replace p36 := eq_true p36
  replace q36 := eq_true q36
  obtain ⟨ce40, hcl40, hM40, hcc40, hfr40⟩ := Kd.R_elem HO_447003.out z116 (x36_1 : Int) (of_decide_eq_true zA) (zlt (x36_1 : Int) (x447003_1.length : Int) (Kd.R_reads' HO_447003.out).1)
  obtain rfl := k116_openM hM40
  have HP40 := (Kd.R_seg HO_447003.out (x36_1 : Int) (of_decide_eq_true zA) (zlt (x36_1 : Int) (x447003_1.length : Int) (Kd.R_reads' HO_447003.out).1) (seg := [.int .i8 t448, .int .i8 t449]) (j := 0) hcl40 hcc40 (show 2 ≤ 3 from by decide) (x' := (⟨(⟨t448, t449⟩ : S74), (rd_T116 x447003_1 x36_1).f1⟩ : S116)) (k116_mkM _ _ _ (⟨(⟨t448, t449⟩ : S74), (rd_T116 x447003_1 x36_1).f1⟩ : S116) ) (fun _ hk => hk)).1
  rw [← Ny450.out] at HP40
  have HQ40 := Aside0.mk HP40
  clear hcl40 hcc40 hfr40 hM40 HP40
  refine hK.out _ _ ⟨(blk_cell BK446.out 0).trans rfl, (blk_cell BK446.out 1).trans rfl, (blk_cell BK446.out 2).trans rfl, (blk_cell BK446.out 3).trans rfl, (blk_cell BK446.out 4).trans rfl, HS5_, HS6_, HS7_⟩ (fun hHeld => ?_)
  clear hK K
  refine norm_ (a' := ?_) ?_ ?_
  rotate_left
  ·show Act.put _ (some 50) _ = _
   exact zap
  refine zpu 12 (some 51) (zq 15 8191) HT_ ?_
  refine zpu 13 (some 52) (zq 15 16383) HT_ ?_
  refine last_ (i := 14) (N := none) (zq 15 32767) rfl rfl (one_of HT_.out (by kernel_rfl)) (by decide) (fun K hK => ?_)
  refine skip_ (w1 := ?_) (by rfl) rfl ?_ ?_
  rotate_left
  ·go_simp
   rfl
  refine hK.out _ _ ?_
  clear hK K
  refine done_ (done_of HT_.out (by kernel_rfl)) ?_
  try go_wp2
  go_roundg k1
  case measure => have := HK1.out; omega
  case rel => exact ⟨(wrap64 (x36_1 + 1)), (y450), (.slice (some ⟨go36, 0, none⟩) x447003_1.length co38), zi, H', ⟨by have := HK1.out; omega⟩, ⟨by (with_reducible repeat (first | apply Kd.R_alloc | apply Kd.R_drewN | apply Kd.R_drew)); exact Kd.R_mono (Kd.R_far (p := ⟨go36, (x36_1 : Int).toNat * 3 + 1, none⟩) (Kd.R_far (p := ⟨go36, (x36_1 : Int).toNat * 3, none⟩) (Kd.R_types HO_435002.out GG36.out (by decide)) (fun _ hk => hk.2) (.int .i8 t448)) (fun _ hk => hk.2) (.int .i8 t449)) (fun _ hk => trivial)⟩, ⟨by (with_reducible repeat (first | apply Kd.R_alloc | apply Kd.R_drewN | apply Kd.R_drew)); exact Kd.R_mono (Kd.R_far (p := ⟨go36, (x36_1 : Int).toNat * 3 + 1, none⟩) (Kd.R_far (p := ⟨go36, (x36_1 : Int).toNat * 3, none⟩) (Kd.R_types HO_447002.out GG36.out (by decide)) (fun _ hk => hk.2) (.int .i8 t448)) (fun _ hk => hk.2) (.int .i8 t449)) (fun _ hk => trivial)⟩, ⟨HQ40.out⟩, ⟨by (with_reducible repeat (first | apply Kd.R_alloc | apply Kd.R_drewN | apply Kd.R_drew)); exact Kd.R_mono (Kd.R_far (p := ⟨go36, (x36_1 : Int).toNat * 3 + 1, none⟩) (Kd.R_far (p := ⟨go36, (x36_1 : Int).toNat * 3, none⟩) (Kd.R_types HO_447004.out GG36.out (by decide)) (fun _ hk => hk.2) (.int .i8 t448)) (fun _ hk => hk.2) (.int .i8 t449)) (fun _ hk => trivial)⟩, ⟨(zf BK425 ⟨by have h_ := Kd.R_ne HO_447003.out BK425.out (by decide); intro e_; exact h_ (by rw [e_]; rfl)⟩).out⟩, ⟨(zf BK426 ⟨by have h_ := Kd.R_ne HO_447003.out BK426.out (by decide); intro e_; exact h_ (by rw [e_]; rfl)⟩).out⟩, ⟨(zf BK434 ⟨by have h_ := Kd.R_ne HO_447003.out BK434.out (by decide); intro e_; exact h_ (by rw [e_]; rfl)⟩).out⟩, ⟨(zf BK446 ⟨by have h_ := Kd.R_ne HO_447003.out BK446.out (by decide); intro e_; exact h_ (by rw [e_]; rfl)⟩).out⟩, zba⟩
 rw [if_neg c32] at H
 have c32b0 : decide (x36_1 < (t440.length : Int)) = false := decide_eq_false c32
 clear c32
 have H' := Aside0.mk H
 clear H
 have hnb41 := NB446_425.out
 have hnc41 := NB425_446.out
 have hnb42 := NB446_426.out
 have hnc42 := NB426_446.out
 have hnb43 := NB446_434.out
 have hnc43 := NB434_446.out
 obtain ⟨z44_0, z44_1, z44_2, z44_3, z44_4, y44_0, y44_1, y44_2, y44_3, y44_4⟩ := zB5 BK446
 go_wp2
 go_loopg [57] k1 (fun kq v57 w' => ∃ (x57_2 : Int) (x447004_2 : List (S74)) (u447004 : Value), v57 = .int .i64 x57_2 ∧ Aside0 (impl_MoveMachine.l1 kq a1 a2 (t443.length : Int) x57_2 t428 t429 t430 x447003_1 x447004_2 = some (r1, r2, r3, r4, r5, r6)) ∧ Aside0 (kq ≤ k1) ∧ Aside0 (Kd.R k91 91 w' w.heap.size (fun _ => True) (.slice Ao20 t430.length co20) t430) ∧ Aside0 (Kd.R k91 91 w' w.heap.size (fun _ => True) (.slice Ao20 t430.length co20) t430) ∧ Aside0 (Kd.R k116 116 w' w.heap.size (fun _ => True) u447003 x447003_1) ∧ Aside0 (Kd.R k74 74 w' w.heap.size (fun _ => True) u447004 x447004_2) ∧ Aside0 (w'.heap[gb425]? = some (.cells #[.int .i8 a0_0, .int .i8 a0_1, (.slice A0_2 l0_2.length c0_2), (.slice A0_3 l0_3.length c0_3), (.slice A0_4 l0_4.length c0_4)] 41 (0, 0))) ∧ Aside0 (w'.heap[gb426]? = some (.cells #[.int .i8 0, .int .i8 0, (.slice none 0 0), (.slice none 0 0), (.slice none 0 0)] 41 (0, 0))) ∧ Aside0 (w'.heap[gb434]? = some (.cells #[.int .i8 t428, .int .i8 t429, (.slice Ao20 t430.length co20)] 37 (0, 0))) ∧ Aside0 (w'.heap[gb446]? = some (.cells #[.int .i8 t428, .int .i8 t429, (.slice Ao20 t430.length co20), u447003, u447004] 41 (0, 0))) ∧ Aside0 (Below w.heap.size w w'))
 case atStart => exact ⟨(0), (t443), (.slice Ao30 t443.length co30), zi, H', ⟨Nat.le_refl _⟩, ze HO_435002, ze HO_447002, ze HO_447003, ze HO_447004, zh BK425, zh BK426, zh BK434, zh BK446, zba⟩
 clear H'
 try clear c1
 try clear c2
 try clear p2
 try clear c3
 try clear p3
 try clear q3
 try clear hx3
 try clear hf3
 try clear c4
 try clear p4
 try clear q4
 try clear hx4
 try clear c5
 try clear c6
 try clear p6
 try clear c7
 try clear c7b0
 try clear c7b1
 try clear c10
 try clear c11
 try clear c17
 try clear c18
 try clear c24
 try clear c25
 try clear c26
 try clear c32
 try clear c32b0
 try clear c33
 try clear c33b0
 try clear c34
 try clear c34b0
 try clear c36
 try clear p36
 try clear q36
 try clear hx36
 try clear hf36
 try clear c38
 try clear c40
 try clear c41
 try clear c42
 try clear c43
 try clear p44
 try clear q44
 try clear hx44
 try clear z12_0 z12_1 z12_2 z12_3 z12_4
 try clear z14_0 z14_1 z14_2 z14_3 z14_4
 try clear z19_0 z19_1 z19_2
 try clear z21_0 z21_1 z21_2 z21_3 z21_4
 try clear z27_0 z27_1 z27_2 z27_3 z27_4
 try clear z31_0 z31_1 z31_2
 try clear z44_0 z44_1 z44_2 z44_3 z44_4
 try clear y12_0
 try clear y12_1
 try clear y12_2
 try clear y12_3
 try clear y12_4
 try clear y14_0
 try clear y14_1
 try clear y14_2
 try clear y14_3
 try clear y14_4
 try clear y19_0
 try clear y19_1
 try clear y19_2
 try clear y21_0
 try clear y21_1
 try clear y21_2
 try clear y21_3
 try clear y21_4
 try clear y27_0
 try clear y27_1
 try clear y27_2
 try clear y27_3
 try clear y27_4
 try clear y31_0
 try clear y31_1
 try clear y31_2
 try clear y44_0
 try clear y44_1
 try clear y44_2
 try clear y44_3
 try clear y44_4
 try clear hx36_0
 try clear hx36_1
 try clear hx36_2
 try clear hx447_0
 try clear hx447_1
 try clear hx447_2
 try clear p2
 try clear p36
 try clear p447
 try clear q36
 try clear q447
 obtain ⟨x57_2, x447004_2, u447004, rfl, HA, HK2, HO_435002, HO_447002, HO_447003, HO_447004, BK425, BK426, BK434, BK446, HB⟩ := hrel
 cases gk with
 | zero => exact absurd HA.out (by simp [impl_MoveMachine.l1])
 | succ k2 => ?_
 have H := HA.out
 clear HA
 simp only [impl_MoveMachine.l1] at H
 by_cases c45 : x57_2 < (t443.length : Int)
 rotate_left
 ·rw [if_neg c45] at H
  have c45b0 : decide (x57_2 < (t443.length : Int)) = false := decide_eq_false c45
  clear c45
  simp only [Option.some.injEq, Prod.mk.injEq] at H
  obtain ⟨rfl, rfl, rfl, rfl, rfl, rfl⟩ := H
  have hnb54 := NB446_425.out
  have hnc54 := NB425_446.out
  have hnb55 := NB446_426.out
  have hnc55 := NB426_446.out
  have hnb56 := NB446_434.out
  have hnc56 := NB434_446.out
  obtain ⟨z57_0, z57_1, z57_2, z57_3, z57_4, y57_0, y57_1, y57_2, y57_3, y57_4⟩ := zB5 BK446
  have hnb58 := NB426_425.out
  have hnc58 := NB425_426.out
  have hnb59 := NB426_434.out
  have hnc59 := NB434_426.out
  obtain ⟨z60_0, z60_1, z60_2, z60_3, z60_4, y60_0, y60_1, y60_2, y60_3, y60_4⟩ := zB5 BK426
  obtain ⟨Ao61, co61, eo61⟩ := Kd.R_slice HO_447003.out
  subst eo61
  obtain ⟨Ao62, co62, eo62⟩ := Kd.R_slice HO_447004.out
  subst eo62
  go_wp2
  refine bodyPost_ret (results_ct rfl _ _ gb426 41 #[.int .i8 t428, .int .i8 t429, .slice Ao20 t430.length co20, .slice Ao61 x447003_1.length co61, .slice Ao62 x447004_2.length co62] (0, 0) _ rfl (zp BK426) Try.underlying41 rfl (by kernel_rfl)) rfl ?_
  exact ⟨_, _, _, zv, Kd.R_mono (zs HO_447002 BK426).out (fun _ hk => trivial), Kd.R_mono (zs HO_447003 BK426).out (fun _ hk => trivial), Kd.R_mono (zs HO_447004 BK426).out (fun _ hk => trivial), zbo⟩
 rw [if_pos c45] at H
 have c45b0 : decide (x57_2 < (t443.length : Int)) = true := decide_eq_true c45
 clear c45
 by_cases c46 : 0 ≤ x57_2
 rotate_left
 ·rw [if_neg c46] at H
  exact absurd H (by simp)
 rw [if_pos c46] at H
 have c46b0 : decide (0 ≤ x57_2) = true := decide_eq_true c46
 clear c46
 by_cases c47 : x57_2 < (x447004_2.length : Int)
 rotate_left
 ·rw [if_neg c47] at H
  exact absurd H (by simp)
 rw [if_pos c47] at H
 have c47b0 : decide (x57_2 < (x447004_2.length : Int)) = true := decide_eq_true c47
 clear c47
 replace H := zob H
 obtain ⟨⟨t452, t453⟩, A480, H⟩ := H
 replace H : (impl_MoveMachine.l1 k2 a1 a2 (t443.length : Int) (wrap64 (x57_2 + 1)) t428 t429 t430 x447003_1 (x447004_2.set (x57_2 : Int).toNat (⟨t452, t453⟩ : S74))) = some (r1, r2, r3, r4, r5, r6) := H
 have A48 := Aside0.mk A480
 clear A480
 obtain ⟨y454, hy454⟩ : ∃ y_ : List (S74), y_ = (x447004_2.set (x57_2 : Int).toNat (⟨t452, t453⟩ : S74)) := ⟨_, rfl⟩
 replace H : (impl_MoveMachine.l1 k2 a1 a2 (t443.length : Int) (wrap64 (x57_2 + 1)) t428 t429 t430 x447003_1 y454) = some (r1, r2, r3, r4, r5, r6) := by first | (rw [hy454]; with_reducible exact H) | (have H2_ := (Option.bind_some _ _).symm.trans H; rw [hy454]; with_reducible exact H2_) | (have H2_ := (Option.bind_some _ _).symm.trans H; with_reducible exact H2_) | with_reducible exact H | (rw [hy454]; exact H) | exact H
 have Ny454 := Aside0.mk hy454
 clear hy454
 have H' := Aside0.mk H
 clear H
 try go_wp2
 have n_ : _ ∧ _ ∧ _ ∧ _ ∧ _ ∧ _ ∧ _ ∧ _ ∧ _ := ⟨Aside0.mk (Kd.R_drew HO_435002.out), Aside0.mk (Kd.R_drew HO_447002.out), Aside0.mk (Kd.R_drew HO_447003.out), Aside0.mk (Kd.R_drew HO_447004.out), Aside0.mk (blk_drew BK425.out), Aside0.mk (blk_drew BK426.out), Aside0.mk (blk_drew BK434.out), Aside0.mk (blk_drew BK446.out), Aside0.mk (below_drew1 HB.out)⟩
 clear HO_435002 HO_447002 HO_447003 HO_447004 BK425 BK426 BK434 BK446 HB
 obtain ⟨HO_435002, HO_447002, HO_447003, HO_447004, BK425, BK426, BK434, BK446, HB⟩ := n_
 obtain ⟨Ao51, co51, eo51⟩ := Kd.R_slice HO_447004.out
 (first | subst eo51 | (injection eo51 with f1_ f2_ f3_; have f4_ := f1_.symm; have f5_ := f3_.symm; clear f1_ f2_ f3_; subst f4_; subst f5_))
 have p451 : 0 ≤ (x57_2 : Int) := of_decide_eq_true zA
 have q451 : x57_2 < (x447004_2.length : Int) := of_decide_eq_true zA
 obtain ⟨ad451, e451, hx451_0, hx451_1⟩ := at_T74 (Kd.R_reads' HO_447004.out).2.2 x57_2 p451 q451
 cases e451
 replace p451 := eq_true p451
 replace q451 := eq_true q451
 refine start_ (n := 13) (S := fun w' => w'.cell? ⟨gb446, 0, none⟩ = some (.int .i8 t428) ∧ w'.cell? ⟨gb446, 1, none⟩ = some (.int .i8 t429) ∧ w'.cell? ⟨gb446, 2, none⟩ = some (.slice Ao20 t430.length co20) ∧ w'.cell? ⟨gb446, 3, none⟩ = some (u447003) ∧ w'.cell? ⟨gb446, 4, none⟩ = some (.slice (some ad451) x447004_2.length co51) ∧ w'.cell? (ad451.add ((x57_2).toNat * 2)) = some (.int .i8 ((rd_T74 x447004_2 x57_2).f0)) ∧ w'.cell? ⟨(ad451.add ((x57_2).toNat * 2)).block, (ad451.add ((x57_2).toNat * 2)).off + 1, none⟩ = some (.int .i8 ((rd_T74 x447004_2 x57_2).f1))) (ds := [12]) (zq 13 0) (by kernel_rfl) rfl rfl ⟨(blk_cell BK446.out 0).trans rfl, (blk_cell BK446.out 1).trans rfl, (blk_cell BK446.out 2).trans rfl, (blk_cell BK446.out 3).trans rfl, (blk_cell BK446.out 4).trans rfl, hx451_0, hx451_1⟩ (fun hHeld => ?_); refine with_tabW impl_MoveMachine.tab16 impl_MoveMachine.bits16 (fun HT_ HW_ => ?_)
 generalize wr.drew = w50 at HO_435002 HO_447002 HO_447003 HO_447004 BK425 BK426 BK434 BK446 HB hx451_0 hx451_1 hHeld ⊢
 refine zpu 0 (some 60) (zq 13 1) HT_ ?_
 refine zpu 2 (some 62) (zq 13 5) HT_ ?_
 refine zpu 3 (some 63) (zq 13 13) HT_ ?_
 refine zpu 5 (some 65) (zq 13 45) HT_ ?_
 refine zpu 8 (some 68) (zq 13 301) HT_ ?_
 refine zpu 9 (some 69) (zq 13 813) HT_ ?_
 refine ztk 1 (some 61) (zq 13 815) HT_ HW_ rfl hHeld (Or.inl ⟨by rfl, by (rintro w' ⟨s0, s1, s2, s3, s4, s5, s6⟩; go_simp; with_reducible rfl)⟩) ?_
 refine ztk 4 (some 64) (zq 13 831) HT_ HW_ rfl hHeld (Or.inl ⟨by rfl, by (rintro w' ⟨s0, s1, s2, s3, s4, s5, s6⟩; go_simp; with_reducible rfl)⟩) ?_
 refine zpu 6 (some 66) (zq 13 895) HT_ ?_
 refine ztk 7 (some 67) (zq 13 1023) HT_ HW_ rfl hHeld (Or.inl ⟨by rfl, by (rintro w' ⟨s0, s1, s2, s3, s4, s5, s6⟩; go_simp; with_reducible rfl)⟩) ?_
 refine one_ (i := 10) (N := some 70) (zq 13 2047) rfl rfl (one_of HT_.out (by kernel_rfl)) (by decide) (fun K hK => ?_)
 refine goes_ Try.func102 (by kernel_rfl) rfl #[.agg #[.int .i8 ((rd_T74 x447004_2 x57_2).f0), .int .i8 ((rd_T74 x447004_2 x57_2).f1)], .int .i64 a1, .int .i64 a2] (by rfl) rfl rfl zm ?_
 with_reducible refine (impl_Cell_shifted.calls ((rd_T74 x447004_2 x57_2).f0) ((rd_T74 x447004_2 x57_2).f1) a1 a2 t452 t453 _ A48.out).mono ?_
 rintro e w52 ⟨rfl, hb⟩
 have HS5_ := (hb.cell (World.block_lt_of_cell? _ _ (hHeld.2.2.2.2.2.1))).trans (hHeld.2.2.2.2.2.1)
 have HS6_ := (hb.cell (World.block_lt_of_cell? _ _ (hHeld.2.2.2.2.2.2))).trans (hHeld.2.2.2.2.2.2)
 refine ⟨_, rfl, ?_⟩
 have n_ : _ ∧ _ ∧ _ ∧ _ ∧ _ ∧ _ ∧ _ ∧ _ ∧ _ := ⟨zr HO_435002 hb, zr HO_447002 hb, zr HO_447003 hb, zr HO_447004 hb, zk BK425 hb, zk BK426 hb, zk BK434 hb, zk BK446 hb, zbs hb⟩
 clear HO_435002 HO_447002 HO_447003 HO_447004 BK425 BK426 BK434 BK446 HB
 obtain ⟨HO_435002, HO_447002, HO_447003, HO_447004, BK425, BK426, BK434, BK446, HB⟩ := n_
 (try clear hb)
 (try clear hb2)
 (try clear hk)
 (try clear hi)
 have p49 : 0 ≤ (x57_2 : Int) := of_decide_eq_true zA
 have q49 : (x57_2 : Int) < ((x447004_2.length : Int) : Int) := of_decide_eq_true zA
 obtain ⟨go49, co49, eo49, gb49, gl49, cl49, HG49⟩ := Kd.R_form HO_447004.out (by omega)
 (first | cases eo49 | (injection eo49 with ea_ en_ ec_; (first | subst ea_ | (injection ea_ with ea_; subst ea_)); subst ec_; clear en_))
 have GB49 := Aside0.mk gb49
 have GG49 := Aside0.mk HG49
 clear gb49 gl49 HG49
 (first | simp only [add_plain] at hx451_0 | skip)
 (first | simp only [add_plain] at hx451_1 | skip)
 obtain ⟨ce49, hcl49, hM49, hcc49, hfr49⟩ := Kd.R_elem HO_447004.out z74 (x57_2 : Int) p49 q49
 obtain rfl := k74_openM hM49
 have hx49_0 : World.cell? _ ⟨go49, (x57_2 : Int).toNat * 2, none⟩ = some (.int .i8 ((rd_T74 x447004_2 x57_2).f0)) := hcc49 0 _ rfl
 have hx49_1 : World.cell? _ ⟨go49, (x57_2 : Int).toNat * 2 + 1, none⟩ = some (.int .i8 ((rd_T74 x447004_2 x57_2).f1)) := hcc49 1 _ rfl
 have hf49_0 : World.frozen? _ ⟨go49, (x57_2 : Int).toNat * 2, none⟩ = false := hfr49 0
 have hf49_1 : World.frozen? _ ⟨go49, (x57_2 : Int).toNat * 2 + 1, none⟩ = false := hfr49 1
 clear hcl49 hcc49 hfr49 hM49
 replace p49 := eq_true p49
 replace q49 := eq_true q49
 obtain ⟨ce53, hcl53, hM53, hcc53, hfr53⟩ := Kd.R_elem HO_447004.out z74 (x57_2 : Int) (of_decide_eq_true zA) (zlt (x57_2 : Int) (x447004_2.length : Int) (Kd.R_reads' HO_447004.out).1)
 obtain rfl := k74_openM hM53
 have HP53 := (Kd.R_seg HO_447004.out (x57_2 : Int) (of_decide_eq_true zA) (zlt (x57_2 : Int) (x447004_2.length : Int) (Kd.R_reads' HO_447004.out).1) (seg := [.int .i8 t452, .int .i8 t453]) (j := 0) hcl53 hcc53 (show 2 ≤ 2 from by decide) (x' := (⟨t452, t453⟩ : S74)) (k74_mkM _ _ _ (⟨t452, t453⟩ : S74) ) (fun _ hk => hk)).1
 rw [← Ny454.out] at HP53
 have HQ53 := Aside0.mk HP53
 clear hcl53 hcc53 hfr53 hM53 HP53
 refine hK.out _ _ ⟨(blk_cell BK446.out 0).trans rfl, (blk_cell BK446.out 1).trans rfl, (blk_cell BK446.out 2).trans rfl, (blk_cell BK446.out 3).trans rfl, (blk_cell BK446.out 4).trans rfl, HS5_, HS6_⟩ (fun hHeld => ?_)
 clear hK K
 refine norm_ (a' := ?_) ?_ ?_
 rotate_left
 ·show Act.put _ (some 70) _ = _
  exact zap
 refine zpu 11 (some 71) (zq 13 4095) HT_ ?_
 refine last_ (i := 12) (N := none) (zq 13 8191) rfl rfl (one_of HT_.out (by kernel_rfl)) (by decide) (fun K hK => ?_)
 refine skip_ (w1 := ?_) (by rfl) rfl ?_ ?_
 rotate_left
 ·go_simp
  rfl
 refine hK.out _ _ ?_
 clear hK K
 refine done_ (done_of HT_.out (by kernel_rfl)) ?_
 try go_wp2
 go_roundg k2
 case measure => have := HK1.out; have := HK2.out; omega
 case rel => exact ⟨(wrap64 (x57_2 + 1)), (y454), (.slice (some ⟨go49, 0, none⟩) x447004_2.length co51), zi, H', ⟨by have := HK1.out; have := HK2.out; omega⟩, ⟨by (with_reducible repeat (first | apply Kd.R_alloc | apply Kd.R_drewN | apply Kd.R_drew)); exact Kd.R_mono (Kd.R_far (p := ⟨go49, (x57_2 : Int).toNat * 2 + 1, none⟩) (Kd.R_far (p := ⟨go49, (x57_2 : Int).toNat * 2, none⟩) (Kd.R_types HO_435002.out GG49.out (by decide)) (fun _ hk => hk.2) (.int .i8 t452)) (fun _ hk => hk.2) (.int .i8 t453)) (fun _ hk => trivial)⟩, ⟨by (with_reducible repeat (first | apply Kd.R_alloc | apply Kd.R_drewN | apply Kd.R_drew)); exact Kd.R_mono (Kd.R_far (p := ⟨go49, (x57_2 : Int).toNat * 2 + 1, none⟩) (Kd.R_far (p := ⟨go49, (x57_2 : Int).toNat * 2, none⟩) (Kd.R_types HO_447002.out GG49.out (by decide)) (fun _ hk => hk.2) (.int .i8 t452)) (fun _ hk => hk.2) (.int .i8 t453)) (fun _ hk => trivial)⟩, ⟨by (with_reducible repeat (first | apply Kd.R_alloc | apply Kd.R_drewN | apply Kd.R_drew)); exact Kd.R_mono (Kd.R_far (p := ⟨go49, (x57_2 : Int).toNat * 2 + 1, none⟩) (Kd.R_far (p := ⟨go49, (x57_2 : Int).toNat * 2, none⟩) (Kd.R_types HO_447003.out GG49.out (by decide)) (fun _ hk => hk.2) (.int .i8 t452)) (fun _ hk => hk.2) (.int .i8 t453)) (fun _ hk => trivial)⟩, ⟨HQ53.out⟩, ⟨(zf BK425 ⟨by have h_ := Kd.R_ne HO_447004.out BK425.out (by decide); intro e_; exact h_ (by rw [e_]; rfl)⟩).out⟩, ⟨(zf BK426 ⟨by have h_ := Kd.R_ne HO_447004.out BK426.out (by decide); intro e_; exact h_ (by rw [e_]; rfl)⟩).out⟩, ⟨(zf BK434 ⟨by have h_ := Kd.R_ne HO_447004.out BK434.out (by decide); intro e_; exact h_ (by rw [e_]; rfl)⟩).out⟩, ⟨(zf BK446 ⟨by have h_ := Kd.R_ne HO_447004.out BK446.out (by decide); intro e_; exact h_ (by rw [e_]; rfl)⟩).out⟩, zba⟩
end Go.Proofs.Ytffnfpnajkgnaaa.PFnExactMoveMachine
