-- WRITTEN by xprint.py, a program of this session's. Not trusted: Lean checks it.
-- packed by pack.py
import Derived.Test.YtffnfpnajkgnaaaPFnExactMoveMachinex0
import Derived.Test.YtffnfpnajkgnaaaPFnExactMoveMachinex10
import Derived.Test.YtffnfpnajkgnaaaPFnExactMoveMachinex11
import Derived.Test.YtffnfpnajkgnaaaPFnExactMoveMachinex12
import Derived.Test.YtffnfpnajkgnaaaTFnExactMoveMachinea
namespace Go.Proofs.Ytffnfpnajkgnaaa.PFnExactMoveMachine
open Go.RowKit Go.Proofs.YtffnfpnajkgnaaaW.PrintWords Go.Proofs.YtffnfpnajkgnaaaW.PrintLast Go.Proofs.YtffnfpnajkgnaaaW.PrintMore Go.Proofs.YtffnfpnajkgnaaaX
attribute [local go_sem] max2_int min2_int max_two min_two max_three min_three max_four min_four   -- for this text's walks alone
set_option maxHeartbeats 8000000
set_option maxRecDepth 100000
set_option linter.unusedVariables false
set_option linter.unusedSimpArgs false

mutual
def spec_MoveMachine.l0 : Nat → Int → Int → Int → Int → Int → List (S91) → List (S116) → List (S74) → Option (Int × Int × (List (S91)) × (List (S116)) × (List (S74)) × Int)
  | 0, _, _, _, _, _, _, _, _ => none
  | k + 1, x1, x2, x11, x335000, x335001, x335002, x335003, x335004 => if x11 < (x335003.length : Int) then (if 0 ≤ x11 then ((some (x335003.set (x11 : Int).toNat (⟨(⟨IntKind.i8.wrap (((rd_T116 x335003 x11).f0.f0) + (IntKind.i8.wrap (x1))), (rd_T116 x335003 x11).f0.f1⟩ : S74), (rd_T116 x335003 x11).f1⟩ : S116) : List (S116))).bind fun y336 => (spec_MoveMachine.l0 k x1 x2 (wrap64 (x11 + 1)) x335000 x335001 x335002 (y336.set (x11 : Int).toNat (⟨(⟨(rd_T116 y336 x11).f0.f0, IntKind.i8.wrap (((rd_T116 y336 x11).f0.f1) + (IntKind.i8.wrap (x2)))⟩ : S74), (rd_T116 y336 x11).f1⟩ : S116)) x335004)) else (none)) else (spec_MoveMachine.l1 k x1 x2 0 x335000 x335001 x335002 x335003 x335004)
def spec_MoveMachine.l1 : Nat → Int → Int → Int → Int → Int → List (S91) → List (S116) → List (S74) → Option (Int × Int × (List (S91)) × (List (S116)) × (List (S74)) × Int)
  | 0, _, _, _, _, _, _, _, _ => none
  | k + 1, x1, x2, x12, x335000, x335001, x335002, x335003, x335004 => if x12 < (x335004.length : Int) then (if 0 ≤ x12 then ((some (x335004.set (x12 : Int).toNat (⟨IntKind.i8.wrap (((rd_T74 x335004 x12).f0) + (IntKind.i8.wrap (x1))), (rd_T74 x335004 x12).f1⟩ : S74) : List (S74))).bind fun y340 => (spec_MoveMachine.l1 k x1 x2 (wrap64 (x12 + 1)) x335000 x335001 x335002 x335003 (y340.set (x12 : Int).toNat (⟨(rd_T74 y340 x12).f0, IntKind.i8.wrap (((rd_T74 y340 x12).f1) + (IntKind.i8.wrap (x2)))⟩ : S74)))) else (none)) else (some (x335000, x335001, x335002, x335003, x335004, 0))
end
def spec_MoveMachine.f (k : Nat) (a0_0 : Int) (a0_1 : Int) (l0_2 : List (S91)) (l0_3 : List (S116)) (l0_4 : List (S74)) (a1 : Int) (a2 : Int) : Option (Int × Int × (List (S91)) × (List (S116)) × (List (S74)) × Int) := (spec_l03Ok.f k [(⟨(⟨a0_0, a0_1, l0_2⟩ : S37), l0_3, l0_4⟩ : S41)]).bind fun t315 => (if t315 = true then ((spec_MoveBoard.f k a0_0 a0_1 l0_2 a1 a2).bind fun bt316 => (if bt316.2.2.2 = 0 then ((spec_l03Copy.f [(⟨(⟨a0_0, a0_1, l0_2⟩ : S37), l0_3, l0_4⟩ : S41)]).bind fun bt323 => (spec_MoveMachine.l0 k a1 a2 0 bt316.1 bt316.2.1 bt316.2.2.1 bt323.2.2.2.1 bt323.2.2.2.2)) else (some (0, 0, ([] : List (S91)), ([] : List (S116)), ([] : List (S74)), bt316.2.2.2)))) else (some (0, 0, ([] : List (S91)), ([] : List (S116)), ([] : List (S74)), 1)))
theorem spec_MoveMachine.mono_l : ∀ k, (∀ y0 y1 y2 y3 y4 y5 y6 y7, LeO (spec_MoveMachine.l0 k y0 y1 y2 y3 y4 y5 y6 y7) (spec_MoveMachine.l0 (k + 1) y0 y1 y2 y3 y4 y5 y6 y7)) ∧ (∀ y0 y1 y2 y3 y4 y5 y6 y7, LeO (spec_MoveMachine.l1 k y0 y1 y2 y3 y4 y5 y6 y7) (spec_MoveMachine.l1 (k + 1) y0 y1 y2 y3 y4 y5 y6 y7))
  | 0 => ⟨fun _ _ _ _ _ _ _ _ r h => by simp [spec_MoveMachine.l0] at h, fun _ _ _ _ _ _ _ _ r h => by simp [spec_MoveMachine.l1] at h⟩
  | k + 1 => by
    obtain ⟨ih0, ih1⟩ := spec_MoveMachine.mono_l k
    refine ⟨?_, ?_⟩
    · intro y0 y1 y2 y3 y4 y5 y6 y7
      unfold spec_MoveMachine.l0
      repeat' first | (with_reducible first | apply ih0 | apply ih1 | apply spec_MoveBoard.mono | apply spec_l03Ok.mono | exact LeO.refl _ | exact LeO.none _ | refine LeO.ite ?_ ?_ | refine LeO.bind ?_ (fun _ => ?_)) | apply ih0 | apply ih1 | apply spec_MoveBoard.mono | apply spec_l03Ok.mono | exact LeO.none _ | refine LeO.ite ?_ ?_ | refine LeO.bind ?_ (fun _ => ?_)
    · intro y0 y1 y2 y3 y4 y5 y6 y7
      unfold spec_MoveMachine.l1
      repeat' first | (with_reducible first | apply ih0 | apply ih1 | apply spec_MoveBoard.mono | apply spec_l03Ok.mono | exact LeO.refl _ | exact LeO.none _ | refine LeO.ite ?_ ?_ | refine LeO.bind ?_ (fun _ => ?_)) | apply ih0 | apply ih1 | apply spec_MoveBoard.mono | apply spec_l03Ok.mono | exact LeO.none _ | refine LeO.ite ?_ ?_ | refine LeO.bind ?_ (fun _ => ?_)
theorem spec_MoveMachine.mono : ∀ a0 a1 a2 a3 a4 a5 a6 k, LeO (spec_MoveMachine.f k a0 a1 a2 a3 a4 a5 a6) (spec_MoveMachine.f (k + 1) a0 a1 a2 a3 a4 a5 a6) := by
 intro a0 a1 a2 a3 a4 a5 a6 k
 obtain ⟨ih0, ih1⟩ := spec_MoveMachine.mono_l k
 unfold spec_MoveMachine.f
 repeat' first | (with_reducible first | apply ih0 | apply ih1 | apply spec_MoveBoard.mono | apply spec_l03Ok.mono | exact LeO.refl _ | exact LeO.none _ | refine LeO.ite ?_ ?_ | refine LeO.bind ?_ (fun _ => ?_)) | apply ih0 | apply ih1 | apply spec_MoveBoard.mono | apply spec_l03Ok.mono | exact LeO.none _ | refine LeO.ite ?_ ?_ | refine LeO.bind ?_ (fun _ => ?_)
def spec_MoveMachine.T11 : Bool × List (List Nat × List Nat) := (true, [([], []), ([0], [0]), ([], []), ([1, 2], [1, 2]), ([3], [3]), ([4], [4]), ([5], [5]), ([], []), ([7], [7]), ([6, 8], [6, 8]), ([1, 2], [1, 2]), ([10], [10]), ([11, 0, 1, 2, 3, 4, 5, 6, 7, 8, 9], [11]), ([12, 9, 0, 1, 2, 3, 4, 5, 6, 7, 8, 9], [9, 12])])
def spec_MoveMachine.B11 : List Nat := [0, 1, 0, 7, 15, 31, 63, 0, 128, 511, 7, 1031, 4095, 8191]
theorem spec_MoveMachine.tab11 : rtab .any (opsOf Try.f37 11) = spec_MoveMachine.T11 := by kernel_rfl
theorem spec_MoveMachine.bits11 : waitsOk spec_MoveMachine.T11.2 spec_MoveMachine.B11 = true := by kernel_rfl
def spec_MoveMachine.T12 : Bool × List (List Nat × List Nat) := (true, [([], []), ([0], [0]), ([], []), ([1, 2], [1, 2]), ([3], [3]), ([4], [4]), ([5], [5]), ([], []), ([7], [7]), ([6, 8], [6, 8]), ([1, 2], [1, 2]), ([10], [10]), ([11, 0, 1, 2, 3, 4, 5, 6, 7, 8, 9], [11]), ([12, 9, 0, 1, 2, 3, 4, 5, 6, 7, 8, 9], [9, 12])])
def spec_MoveMachine.B12 : List Nat := [0, 1, 0, 7, 15, 31, 63, 0, 128, 511, 7, 1031, 4095, 8191]
theorem spec_MoveMachine.tab12 : rtab .any (opsOf Try.f37 12) = spec_MoveMachine.T12 := by kernel_rfl
theorem spec_MoveMachine.bits12 : waitsOk spec_MoveMachine.T12.2 spec_MoveMachine.B12 = true := by kernel_rfl
def spec_MoveMachine.T16 : Bool × List (List Nat × List Nat) := (true, [([], []), ([0], [0]), ([], []), ([1, 2], [1, 2]), ([3], [3]), ([4], [4]), ([], []), ([6], [6]), ([5, 7], [5, 7]), ([1, 2], [1, 2]), ([9, 0, 1, 2, 3, 4, 5, 6, 7, 8], [9]), ([10, 8, 0, 1, 2, 3, 4, 5, 6, 7, 8], [8, 10])])
def spec_MoveMachine.B16 : List Nat := [0, 1, 0, 7, 15, 31, 0, 64, 255, 7, 1023, 2047]
theorem spec_MoveMachine.tab16 : rtab .any (opsOf Try.f37 16) = spec_MoveMachine.T16 := by kernel_rfl
theorem spec_MoveMachine.bits16 : waitsOk spec_MoveMachine.T16.2 spec_MoveMachine.B16 = true := by kernel_rfl
def spec_MoveMachine.T17 : Bool × List (List Nat × List Nat) := (true, [([], []), ([0], [0]), ([], []), ([1, 2], [1, 2]), ([3], [3]), ([4], [4]), ([], []), ([6], [6]), ([5, 7], [5, 7]), ([1, 2], [1, 2]), ([9, 0, 1, 2, 3, 4, 5, 6, 7, 8], [9]), ([10, 8, 0, 1, 2, 3, 4, 5, 6, 7, 8], [8, 10])])
def spec_MoveMachine.B17 : List Nat := [0, 1, 0, 7, 15, 31, 0, 64, 255, 7, 1023, 2047]
theorem spec_MoveMachine.tab17 : rtab .any (opsOf Try.f37 17) = spec_MoveMachine.T17 := by kernel_rfl
theorem spec_MoveMachine.bits17 : waitsOk spec_MoveMachine.T17.2 spec_MoveMachine.B17 = true := by kernel_rfl
theorem spec_MoveMachine.calls (k : Nat) (a0_0 : Int) (a0_1 : Int) (A0_2 : Option Addr) (c0_2 : Nat) (l0_2 : List (S91)) (A0_3 : Option Addr) (c0_3 : Nat) (l0_3 : List (S116)) (A0_4 : Option Addr) (c0_4 : Nat) (l0_4 : List (S74)) (a1 : Int) (a2 : Int) (r1 : Int) (r2 : Int) (r3 : List (S91)) (r4 : List (S116)) (r5 : List (S74)) (r6 : Int) (w : World) (hr0_2 : Kd.C k91 w A0_2 l0_2.length l0_2) (hc0_2 : l0_2.length ≤ c0_2) (hr0_3 : Kd.C k116 w A0_3 l0_3.length l0_3) (hc0_3 : l0_3.length ≤ c0_3) (hr0_4 : Kd.C k74 w A0_4 l0_4.length l0_4) (hc0_4 : l0_4.length ≤ c0_4) (h : spec_MoveMachine.f k a0_0 a0_1 l0_2 l0_3 l0_4 a1 a2 = some (r1, r2, r3, r4, r5, r6)) :
    Calls Try.prog 37 #[.agg #[.int .i8 a0_0, .int .i8 a0_1, .slice A0_2 l0_2.length c0_2, .slice A0_3 l0_3.length c0_3, .slice A0_4 l0_4.length c0_4], .int .i64 a1, .int .i64 a2] w fun e w' => ∃ v2_ v3_ v4_ : Value, e = .returned (.tuple #[.agg #[.int .i8 r1, .int .i8 r2, v2_, v3_, v4_], .int .i64 r6]) ∧ Kd.R k91 91 w' w.heap.size (fun _ => True) v2_ r3 ∧ Kd.R k116 116 w' w.heap.size (fun _ => True) v3_ r4 ∧ Kd.R k74 74 w' w.heap.size (fun _ => True) v4_ r5 ∧ Below w.heap.size w w' := by
 have hu41 := Try.underlying41
 have hu37 := Try.underlying37
 have HR0_2 := Aside0.mk hr0_2
 have HC0_2 := Aside0.mk hc0_2
 clear hr0_2 hc0_2
 have HR0_3 := Aside0.mk hr0_3
 have HC0_3 := Aside0.mk hc0_3
 clear hr0_3 hc0_3
 have HR0_4 := Aside0.mk hr0_4
 have HC0_4 := Aside0.mk hc0_4
 clear hr0_4 hc0_4
 have HB := Aside0.mk (Below.refl w.heap.size w)
 have H : ((spec_l03Ok.f k [(⟨(⟨a0_0, a0_1, l0_2⟩ : S37), l0_3, l0_4⟩ : S41)]).bind fun t315 => (if t315 = true then ((spec_MoveBoard.f k a0_0 a0_1 l0_2 a1 a2).bind fun bt316 => (if bt316.2.2.2 = 0 then ((spec_l03Copy.f [(⟨(⟨a0_0, a0_1, l0_2⟩ : S37), l0_3, l0_4⟩ : S41)]).bind fun bt323 => (spec_MoveMachine.l0 k a1 a2 0 bt316.1 bt316.2.1 bt316.2.2.1 bt323.2.2.2.1 bt323.2.2.2.2)) else (some (0, 0, ([] : List (S91)), ([] : List (S116)), ([] : List (S74)), bt316.2.2.2)))) else (some (0, 0, ([] : List (S91)), ([] : List (S116)), ([] : List (S74)), 1)))) = some (r1, r2, r3, r4, r5, r6) := h
 clear h
 replace H := zob H
 obtain ⟨t315, A40, H⟩ := H
 replace H : (if t315 = true then ((spec_MoveBoard.f k a0_0 a0_1 l0_2 a1 a2).bind fun bt316 => (if bt316.2.2.2 = 0 then ((spec_l03Copy.f [(⟨(⟨a0_0, a0_1, l0_2⟩ : S37), l0_3, l0_4⟩ : S41)]).bind fun bt323 => (spec_MoveMachine.l0 k a1 a2 0 bt316.1 bt316.2.1 bt316.2.2.1 bt323.2.2.2.1 bt323.2.2.2.2)) else (some (0, 0, ([] : List (S91)), ([] : List (S116)), ([] : List (S74)), bt316.2.2.2)))) else (some (0, 0, ([] : List (S91)), ([] : List (S116)), ([] : List (S74)), 1))) = some (r1, r2, r3, r4, r5, r6) := H
 have A4 := Aside0.mk A40
 clear A40
 by_cases c5 : t315 = true
 rotate_left
 ·replace c5 := Bool.eq_false_iff.mpr c5
  subst c5
  have H1 : (some (0, 0, ([] : List (S91)), ([] : List (S116)), ([] : List (S74)), 1)) = some (r1, r2, r3, r4, r5, r6) := by rw [if_neg (show ¬ (false = true) by decide)] at H; exact H
  clear H
  have H := H1
  clear H1
  simp only [Option.some.injEq, Prod.mk.injEq] at H
  obtain ⟨rfl, rfl, rfl, rfl, rfl, rfl⟩ := H
  go_enter Try.func37, Try.ntmps37
  go_wp2_with (first | ((with_reducible refine gate_dst (N := 3) rfl ?_); refine zbx 3 #[.int .i8 a0_0, .int .i8 a0_1, .slice A0_2 l0_2.length c0_2, .slice A0_3 l0_3.length c0_3, .slice A0_4 l0_4.length c0_4] 41 ?_; intro gb313 hg w83 hbox hb; have n_ : _ ∧ _ ∧ _ ∧ _ := ⟨zb HB hb, Aside0.mk (hbox), zg HB hg, zg HB hg⟩; clear HB; obtain ⟨HB, BK313, GW313, GE313⟩ := n_; clear hb hbox hg) | ((with_reducible refine gate_dst (N := 6) rfl ?_); refine zbx 6 #[.int .i8 0, .int .i8 0, .slice none 0 0, .slice none 0 0, .slice none 0 0] 41 ?_; intro gb314 hg w84 hbox hb; have n_ : _ ∧ _ ∧ _ ∧ _ ∧ _ ∧ _ ∧ _ := ⟨zk BK313 hb, zbs hb, Aside0.mk (hbox), zg HB hg, zg HB hg, zn1 BK313 hg, zn2 BK313 hg⟩; clear BK313 HB; obtain ⟨BK313, HB, BK314, GW314, GE314, NB313_314, NB314_313⟩ := n_; clear hb hbox hg) | ((with_reducible refine gate_callee (f := 99) rfl ?_); refine goesL_ (some 13) rfl rfl Try.func99 (by kernel_rfl) rfl #[.pointer (some ⟨gb313, 0, none⟩)] rfl zm ?_; (with_reducible refine (spec_l03Ok.calls k _ [(⟨(⟨a0_0, a0_1, l0_2⟩ : S37), l0_3, l0_4⟩ : S41)] false _ ?side1 A4.out).mono ?_); (case side1 => refine ro_of_blk (T := 41) (cs := #[.int .i8 a0_0, .int .i8 a0_1, .slice A0_2 l0_2.length c0_2, .slice A0_3 l0_3.length c0_3, .slice A0_4 l0_4.length c0_4]) (zh BK313).out ?_; exact k41_mk _ (⟨(⟨a0_0, a0_1, l0_2⟩ : S37), l0_3, l0_4⟩ : S41) (by exact HC0_2.out) (by exact zcc HB HR0_2.out) (by exact HC0_3.out) (by exact zcc HB HR0_3.out) (by exact HC0_4.out) (by exact zcc HB HR0_4.out)); rintro e w85 ⟨rfl, hb⟩; refine ⟨_, rfl, ?_⟩; have n_ : _ ∧ _ ∧ _ := ⟨zk BK313 hb, zk BK314 hb, zbs hb⟩; clear BK313 BK314 HB; obtain ⟨BK313, BK314, HB⟩ := n_; (try clear hb); (try clear hb2); (try clear hk); (try clear hi); have hnb86 := NB314_313.out; have hnc86 := NB313_314.out; obtain ⟨z87_0, z87_1, z87_2, z87_3, z87_4, y87_0, y87_1, y87_2, y87_3, y87_4⟩ := zB5 BK314))
  refine bodyPost_ret (results_ct rfl _ _ gb314 41 #[.int .i8 0, .int .i8 0, .slice none 0 0, .slice none 0 0, .slice none 0 0] (0, 0) _ rfl (zp BK314) Try.underlying41 rfl (by kernel_rfl)) rfl ?_
  exact ⟨_, _, _, zv, by first | exact Kd.R_nil _ _ _ _ _ | exact Kd.N_nil _ _ _ _ _ | exact Kd.V_nil _ _ _ _ _ | exact Kd.Q_nil _ _ _ _ _ | exact Kd.S_nil _ _ _ _ _, by first | exact Kd.R_nil _ _ _ _ _ | exact Kd.N_nil _ _ _ _ _ | exact Kd.V_nil _ _ _ _ _ | exact Kd.Q_nil _ _ _ _ _ | exact Kd.S_nil _ _ _ _ _, by first | exact Kd.R_nil _ _ _ _ _ | exact Kd.N_nil _ _ _ _ _ | exact Kd.V_nil _ _ _ _ _ | exact Kd.Q_nil _ _ _ _ _ | exact Kd.S_nil _ _ _ _ _, zbo⟩
 subst c5
 have H1 : ((spec_MoveBoard.f k a0_0 a0_1 l0_2 a1 a2).bind fun bt316 => (if bt316.2.2.2 = 0 then ((spec_l03Copy.f [(⟨(⟨a0_0, a0_1, l0_2⟩ : S37), l0_3, l0_4⟩ : S41)]).bind fun bt323 => (spec_MoveMachine.l0 k a1 a2 0 bt316.1 bt316.2.1 bt316.2.2.1 bt323.2.2.2.1 bt323.2.2.2.2)) else (some (0, 0, ([] : List (S91)), ([] : List (S116)), ([] : List (S74)), bt316.2.2.2)))) = some (r1, r2, r3, r4, r5, r6) := by rw [if_pos rfl] at H; exact H
 clear H
 have H := H1
 clear H1
 replace H := zob H
 obtain ⟨⟨t316, t317, t318, t321⟩, A60, H⟩ := H
 replace H : (if t321 = 0 then ((spec_l03Copy.f [(⟨(⟨a0_0, a0_1, l0_2⟩ : S37), l0_3, l0_4⟩ : S41)]).bind fun bt323 => (spec_MoveMachine.l0 k a1 a2 0 t316 t317 t318 bt323.2.2.2.1 bt323.2.2.2.2)) else (some (0, 0, ([] : List (S91)), ([] : List (S116)), ([] : List (S74)), t321))) = some (r1, r2, r3, r4, r5, r6) := H
 have A6 := Aside0.mk A60
 clear A60
 by_cases c7 : t321 = 0
 rotate_left
 ·rw [if_neg c7] at H
  have c7b0 : (t321 == 0) = false := beq_eq_false_iff_ne.mpr c7
  have c7b1 : (t321 != 0) = true := bne_iff_ne.mpr c7
  simp only [Option.some.injEq, Prod.mk.injEq] at H
  obtain ⟨rfl, rfl, rfl, rfl, rfl, rfl⟩ := H
  go_enter Try.func37, Try.ntmps37
  go_wp2_with (first | ((with_reducible refine gate_dst (N := 3) rfl ?_); refine zbx 3 #[.int .i8 a0_0, .int .i8 a0_1, .slice A0_2 l0_2.length c0_2, .slice A0_3 l0_3.length c0_3, .slice A0_4 l0_4.length c0_4] 41 ?_; intro gb313 hg w71 hbox hb; have n_ : _ ∧ _ ∧ _ ∧ _ := ⟨zb HB hb, Aside0.mk (hbox), zg HB hg, zg HB hg⟩; clear HB; obtain ⟨HB, BK313, GW313, GE313⟩ := n_; clear hb hbox hg) | ((with_reducible refine gate_dst (N := 6) rfl ?_); refine zbx 6 #[.int .i8 0, .int .i8 0, .slice none 0 0, .slice none 0 0, .slice none 0 0] 41 ?_; intro gb314 hg w72 hbox hb; have n_ : _ ∧ _ ∧ _ ∧ _ ∧ _ ∧ _ ∧ _ := ⟨zk BK313 hb, zbs hb, Aside0.mk (hbox), zg HB hg, zg HB hg, zn1 BK313 hg, zn2 BK313 hg⟩; clear BK313 HB; obtain ⟨BK313, HB, BK314, GW314, GE314, NB313_314, NB314_313⟩ := n_; clear hb hbox hg) | ((with_reducible refine gate_callee (f := 99) rfl ?_); refine goesL_ (some 13) rfl rfl Try.func99 (by kernel_rfl) rfl #[.pointer (some ⟨gb313, 0, none⟩)] rfl zm ?_; (with_reducible refine (spec_l03Ok.calls k _ [(⟨(⟨a0_0, a0_1, l0_2⟩ : S37), l0_3, l0_4⟩ : S41)] true _ ?side1 A4.out).mono ?_); (case side1 => refine ro_of_blk (T := 41) (cs := #[.int .i8 a0_0, .int .i8 a0_1, .slice A0_2 l0_2.length c0_2, .slice A0_3 l0_3.length c0_3, .slice A0_4 l0_4.length c0_4]) (zh BK313).out ?_; exact k41_mk _ (⟨(⟨a0_0, a0_1, l0_2⟩ : S37), l0_3, l0_4⟩ : S41) (by exact HC0_2.out) (by exact zcc HB HR0_2.out) (by exact HC0_3.out) (by exact zcc HB HR0_3.out) (by exact HC0_4.out) (by exact zcc HB HR0_4.out)); rintro e w73 ⟨rfl, hb⟩; refine ⟨_, rfl, ?_⟩; have n_ : _ ∧ _ ∧ _ := ⟨zk BK313 hb, zk BK314 hb, zbs hb⟩; clear BK313 BK314 HB; obtain ⟨BK313, BK314, HB⟩ := n_; (try clear hb); (try clear hb2); (try clear hk); (try clear hi); have hnb74 := NB313_314.out; have hnc74 := NB314_313.out; obtain ⟨z75_0, z75_1, z75_2, z75_3, z75_4, y75_0, y75_1, y75_2, y75_3, y75_4⟩ := zB5 BK313) | ((with_reducible refine gate_callee (f := 62) rfl ?_); refine goesL_ (some 21) rfl rfl Try.func62 (by kernel_rfl) rfl #[.agg #[.int .i8 a0_0, .int .i8 a0_1, .slice A0_2 l0_2.length c0_2], .int .i64 a1, .int .i64 a2] rfl zm ?_; (with_reducible refine (spec_MoveBoard.calls k a0_0 a0_1 _ _ l0_2 a1 a2 t316 t317 t318 t321 _ ?side1 ?side2 A6.out).mono ?_); (case side1 => exact zcc HB HR0_2.out); (case side2 => exact HC0_2.out); rintro e w76 ⟨v319, rfl, ho0, hb⟩; refine ⟨_, rfl, ?_⟩; have n_ : _ ∧ _ ∧ _ ∧ _ := ⟨Aside0.mk (Kd.R_lower ho0 (zz HB)), zk BK313 hb, zk BK314 hb, zbs hb⟩; clear BK313 BK314 HB; obtain ⟨HO320, BK313, BK314, HB⟩ := n_; (try clear hb); (try clear hb2); (try clear hk); (try clear hi); (try clear ho0)) | ((with_reducible refine gate_dst (N := 8) rfl ?_); refine zbx 8 #[.int .i8 0, .int .i8 0, .slice none 0 0] 37 ?_; intro gb322 hg w77 hbox hb; have n_ : _ ∧ _ ∧ _ ∧ _ ∧ _ ∧ _ ∧ _ ∧ _ ∧ _ ∧ _ ∧ _ := ⟨zr HO320 hb, zk BK313 hb, zk BK314 hb, zbs hb, Aside0.mk (hbox), zg HB hg, zg HB hg, zn1 BK313 hg, zn2 BK313 hg, zn1 BK314 hg, zn2 BK314 hg⟩; clear HO320 BK313 BK314 HB; obtain ⟨HO320, BK313, BK314, HB, BK322, GW322, GE322, NB313_322, NB322_313, NB314_322, NB322_314⟩ := n_; clear hb hbox hg; have hnb78 := NB322_313.out; have hnc78 := NB313_322.out; have hnb79 := NB322_314.out; have hnc79 := NB314_322.out; obtain ⟨z80_0, z80_1, z80_2, y80_0, y80_1, y80_2⟩ := zB3 BK322; obtain ⟨Ao81, co81, eo81⟩ := Kd.R_slice HO320.out; subst eo81; obtain ⟨z82_0, z82_1, z82_2, z82_3, z82_4, y82_0, y82_1, y82_2, y82_3, y82_4⟩ := zB5 BK314))
  refine bodyPost_ret (results_ct rfl _ _ gb314 41 #[.int .i8 0, .int .i8 0, .slice none 0 0, .slice none 0 0, .slice none 0 0] (0, 0) _ rfl (by (with_reducible repeat (first | refine blk_drewN ?_ _ | refine blk_drew ?_ | refine blk_alloc ?_ _)); refine blk_put (cs := #[.int .i8 0, .int .i8 0, .slice none 0 0, .slice none 0 0, .slice none 0 0]) ?_ 4 _ rfl; (with_reducible repeat (first | refine blk_drewN ?_ _ | refine blk_drew ?_ | refine blk_alloc ?_ _)); refine blk_put (cs := #[.int .i8 0, .int .i8 0, .slice none 0 0, .slice none 0 0, .slice none 0 0]) ?_ 3 _ rfl; (with_reducible repeat (first | refine blk_drewN ?_ _ | refine blk_drew ?_ | refine blk_alloc ?_ _)); refine blk_put (cs := #[.int .i8 0, .int .i8 0, .slice none 0 0, .slice none 0 0, .slice none 0 0]) ?_ 2 _ rfl; (with_reducible repeat (first | refine blk_drewN ?_ _ | refine blk_drew ?_ | refine blk_alloc ?_ _)); refine blk_put (cs := #[.int .i8 0, .int .i8 0, .slice none 0 0, .slice none 0 0, .slice none 0 0]) ?_ 1 _ rfl; (with_reducible repeat (first | refine blk_drewN ?_ _ | refine blk_drew ?_ | refine blk_alloc ?_ _)); refine blk_put (cs := #[.int .i8 0, .int .i8 0, .slice none 0 0, .slice none 0 0, .slice none 0 0]) ?_ 0 _ rfl; (with_reducible repeat (first | refine blk_drewN ?_ _ | refine blk_drew ?_ | refine blk_alloc ?_ _)); refine blk_far ?_ NB314_322.out _; (with_reducible repeat (first | refine blk_drewN ?_ _ | refine blk_drew ?_ | refine blk_alloc ?_ _)); refine blk_far ?_ NB314_322.out _; (with_reducible repeat (first | refine blk_drewN ?_ _ | refine blk_drew ?_ | refine blk_alloc ?_ _)); refine blk_far ?_ NB314_322.out _; (with_reducible repeat (first | refine blk_drewN ?_ _ | refine blk_drew ?_ | refine blk_alloc ?_ _)); exact BK314.out) Try.underlying41 rfl (by kernel_rfl)) rfl ?_
  exact ⟨_, _, _, zv, by first | exact Kd.R_nil _ _ _ _ _ | exact Kd.N_nil _ _ _ _ _ | exact Kd.V_nil _ _ _ _ _ | exact Kd.Q_nil _ _ _ _ _ | exact Kd.S_nil _ _ _ _ _, by first | exact Kd.R_nil _ _ _ _ _ | exact Kd.N_nil _ _ _ _ _ | exact Kd.V_nil _ _ _ _ _ | exact Kd.Q_nil _ _ _ _ _ | exact Kd.S_nil _ _ _ _ _, by first | exact Kd.R_nil _ _ _ _ _ | exact Kd.N_nil _ _ _ _ _ | exact Kd.V_nil _ _ _ _ _ | exact Kd.Q_nil _ _ _ _ _ | exact Kd.S_nil _ _ _ _ _, zbo⟩
 rw [if_pos c7] at H
 have c7b0 : (t321 == 0) = true := beq_iff_eq.mpr c7
 have c7b1 : (t321 != 0) = false := bne_eq_false_iff_eq.mpr c7
 clear c7
 replace H := zob H
 obtain ⟨⟨t323, t324, t325, t328, t331⟩, A80, H⟩ := H
 replace H : (spec_MoveMachine.l0 k a1 a2 0 t316 t317 t318 t328 t331) = some (r1, r2, r3, r4, r5, r6) := H
 have A8 := Aside0.mk A80
 clear A80
 have H' := Aside0.mk H
 clear H
 go_enter Try.func37, Try.ntmps37
 go_wp2_with (first | ((with_reducible refine gate_dst (N := 3) rfl ?_); refine zbx 3 #[.int .i8 a0_0, .int .i8 a0_1, .slice A0_2 l0_2.length c0_2, .slice A0_3 l0_3.length c0_3, .slice A0_4 l0_4.length c0_4] 41 ?_; intro gb313 hg w9 hbox hb; have n_ : _ ∧ _ ∧ _ ∧ _ := ⟨zb HB hb, Aside0.mk (hbox), zg HB hg, zg HB hg⟩; clear HB; obtain ⟨HB, BK313, GW313, GE313⟩ := n_; clear hb hbox hg) | ((with_reducible refine gate_dst (N := 6) rfl ?_); refine zbx 6 #[.int .i8 0, .int .i8 0, .slice none 0 0, .slice none 0 0, .slice none 0 0] 41 ?_; intro gb314 hg w10 hbox hb; have n_ : _ ∧ _ ∧ _ ∧ _ ∧ _ ∧ _ ∧ _ := ⟨zk BK313 hb, zbs hb, Aside0.mk (hbox), zg HB hg, zg HB hg, zn1 BK313 hg, zn2 BK313 hg⟩; clear BK313 HB; obtain ⟨BK313, HB, BK314, GW314, GE314, NB313_314, NB314_313⟩ := n_; clear hb hbox hg) | ((with_reducible refine gate_callee (f := 99) rfl ?_); refine goesL_ (some 13) rfl rfl Try.func99 (by kernel_rfl) rfl #[.pointer (some ⟨gb313, 0, none⟩)] rfl zm ?_; (with_reducible refine (spec_l03Ok.calls k _ [(⟨(⟨a0_0, a0_1, l0_2⟩ : S37), l0_3, l0_4⟩ : S41)] true _ ?side1 A4.out).mono ?_); (case side1 => refine ro_of_blk (T := 41) (cs := #[.int .i8 a0_0, .int .i8 a0_1, .slice A0_2 l0_2.length c0_2, .slice A0_3 l0_3.length c0_3, .slice A0_4 l0_4.length c0_4]) (zh BK313).out ?_; exact k41_mk _ (⟨(⟨a0_0, a0_1, l0_2⟩ : S37), l0_3, l0_4⟩ : S41) (by exact HC0_2.out) (by exact zcc HB HR0_2.out) (by exact HC0_3.out) (by exact zcc HB HR0_3.out) (by exact HC0_4.out) (by exact zcc HB HR0_4.out)); rintro e w11 ⟨rfl, hb⟩; refine ⟨_, rfl, ?_⟩; have n_ : _ ∧ _ ∧ _ := ⟨zk BK313 hb, zk BK314 hb, zbs hb⟩; clear BK313 BK314 HB; obtain ⟨BK313, BK314, HB⟩ := n_; (try clear hb); (try clear hb2); (try clear hk); (try clear hi); have hnb12 := NB313_314.out; have hnc12 := NB314_313.out; obtain ⟨z13_0, z13_1, z13_2, z13_3, z13_4, y13_0, y13_1, y13_2, y13_3, y13_4⟩ := zB5 BK313) | ((with_reducible refine gate_callee (f := 62) rfl ?_); refine goesL_ (some 21) rfl rfl Try.func62 (by kernel_rfl) rfl #[.agg #[.int .i8 a0_0, .int .i8 a0_1, .slice A0_2 l0_2.length c0_2], .int .i64 a1, .int .i64 a2] rfl zm ?_; (with_reducible refine (spec_MoveBoard.calls k a0_0 a0_1 _ _ l0_2 a1 a2 t316 t317 t318 t321 _ ?side1 ?side2 A6.out).mono ?_); (case side1 => exact zcc HB HR0_2.out); (case side2 => exact HC0_2.out); rintro e w14 ⟨v319, rfl, ho0, hb⟩; refine ⟨_, rfl, ?_⟩; have n_ : _ ∧ _ ∧ _ ∧ _ := ⟨Aside0.mk (Kd.R_lower ho0 (zz HB)), zk BK313 hb, zk BK314 hb, zbs hb⟩; clear BK313 BK314 HB; obtain ⟨HO320, BK313, BK314, HB⟩ := n_; (try clear hb); (try clear hb2); (try clear hk); (try clear hi); (try clear ho0)) | ((with_reducible refine gate_dst (N := 8) rfl ?_); refine zbx 8 #[.int .i8 0, .int .i8 0, .slice none 0 0] 37 ?_; intro gb322 hg w15 hbox hb; have n_ : _ ∧ _ ∧ _ ∧ _ ∧ _ ∧ _ ∧ _ ∧ _ ∧ _ ∧ _ ∧ _ := ⟨zr HO320 hb, zk BK313 hb, zk BK314 hb, zbs hb, Aside0.mk (hbox), zg HB hg, zg HB hg, zn1 BK313 hg, zn2 BK313 hg, zn1 BK314 hg, zn2 BK314 hg⟩; clear HO320 BK313 BK314 HB; obtain ⟨HO320, BK313, BK314, HB, BK322, GW322, GE322, NB313_322, NB322_313, NB314_322, NB322_314⟩ := n_; clear hb hbox hg; have hnb16 := NB322_313.out; have hnc16 := NB313_322.out; have hnb17 := NB322_314.out; have hnc17 := NB314_322.out; obtain ⟨z18_0, z18_1, z18_2, y18_0, y18_1, y18_2⟩ := zB3 BK322; obtain ⟨Ao19, co19, eo19⟩ := Kd.R_slice HO320.out; subst eo19) | ((with_reducible refine gate_callee (f := 100) rfl ?_); refine goesL_ (some 28) rfl rfl Try.func100 (by kernel_rfl) rfl #[.pointer (some ⟨gb313, 0, none⟩)] rfl zm ?_; (with_reducible refine (spec_l03Copy.calls _ [(⟨(⟨a0_0, a0_1, l0_2⟩ : S37), l0_3, l0_4⟩ : S41)] t323 t324 t325 t328 t331 _ ?side1 A8.out).mono ?_); (case side1 => refine ro_of_blk (T := 41) (cs := #[.int .i8 a0_0, .int .i8 a0_1, .slice A0_2 l0_2.length c0_2, .slice A0_3 l0_3.length c0_3, .slice A0_4 l0_4.length c0_4]) (zf BK313 NB313_322).out ?_; exact k41_mk _ (⟨(⟨a0_0, a0_1, l0_2⟩ : S37), l0_3, l0_4⟩ : S41) (by exact HC0_2.out) (by exact Kd.C_below HR0_2.out zbo) (by exact HC0_3.out) (by exact Kd.C_below HR0_3.out zbo) (by exact HC0_4.out) (by exact Kd.C_below HR0_4.out zbo)); rintro e w20 ⟨v326, v329, v332, rfl, ho0, ho1, ho2, hb⟩; refine ⟨_, rfl, ?_⟩; have n_ : _ ∧ _ ∧ _ ∧ _ ∧ _ ∧ _ ∧ _ ∧ _ := ⟨Aside0.mk (Kd.R_elder' (zs HO320 BK322).out (Kd.R_base ho0) hb), Aside0.mk (Kd.R_lower (Kd.R_new' ho0 (Kd.R_lt (zs HO320 BK322).out)) (zz HB)), Aside0.mk (Kd.R_lower ho1 (zz HB)), Aside0.mk (Kd.R_lower ho2 (zz HB)), zfb BK313 NB313_322 hb, zfb BK314 NB314_322 hb, Aside0.mk (blk_below (g := gb322) (o := .cells #[.int .i8 t316, .int .i8 t317, .slice Ao19 t318.length co19] 37 (0, 0)) (zp BK322) hb), zbs hb⟩; clear HO320 BK313 BK314 BK322 HB; obtain ⟨HO320, HO327, HO330, HO333, BK313, BK314, BK322, HB⟩ := n_; (try clear hb); (try clear hb2); (try clear hk); (try clear hi); (try clear ho0); (try clear ho1); (try clear ho2)) | ((with_reducible refine gate_dst (N := 10) rfl ?_); refine zbx 10 #[.int .i8 0, .int .i8 0, .slice none 0 0, .slice none 0 0, .slice none 0 0] 41 ?_; intro gb334 hg w21 hbox hb; have n_ : _ ∧ _ ∧ _ ∧ _ ∧ _ ∧ _ ∧ _ ∧ _ ∧ _ ∧ _ ∧ _ ∧ _ ∧ _ ∧ _ ∧ _ ∧ _ ∧ _ := ⟨zr HO320 hb, zr HO327 hb, zr HO330 hb, zr HO333 hb, zk BK313 hb, zk BK314 hb, zk BK322 hb, zbs hb, Aside0.mk (hbox), zg HB hg, zg HB hg, zn1 BK313 hg, zn2 BK313 hg, zn1 BK314 hg, zn2 BK314 hg, zn1 BK322 hg, zn2 BK322 hg⟩; clear HO320 HO327 HO330 HO333 BK313 BK314 BK322 HB; obtain ⟨HO320, HO327, HO330, HO333, BK313, BK314, BK322, HB, BK334, GW334, GE334, NB313_334, NB334_313, NB314_334, NB334_314, NB322_334, NB334_322⟩ := n_; clear hb hbox hg; have hnb22 := NB334_313.out; have hnc22 := NB313_334.out; have hnb23 := NB334_314.out; have hnc23 := NB314_334.out; have hnb24 := NB334_322.out; have hnc24 := NB322_334.out; obtain ⟨z25_0, z25_1, z25_2, z25_3, z25_4, y25_0, y25_1, y25_2, y25_3, y25_4⟩ := zB5 BK334; obtain ⟨Ao26, co26, eo26⟩ := Kd.R_slice HO327.out; subst eo26; obtain ⟨Ao27, co27, eo27⟩ := Kd.R_slice HO330.out; subst eo27; obtain ⟨Ao28, co28, eo28⟩ := Kd.R_slice HO333.out; subst eo28; obtain ⟨z29_0, z29_1, z29_2, y29_0, y29_1, y29_2⟩ := zB3 BK322))
 go_loopg [11] k (fun kq v11 w' => ∃ (x11_1 : Int) (x335003_1 : List (S116)) (u335003 : Value), v11 = .int .i64 x11_1 ∧ Aside0 (spec_MoveMachine.l0 kq a1 a2 x11_1 t316 t317 t318 x335003_1 t331 = some (r1, r2, r3, r4, r5, r6)) ∧ Aside0 (kq ≤ k) ∧ Aside0 (Kd.R k91 91 w' w.heap.size (fun _ => True) (.slice Ao19 t318.length co19) t318) ∧ Aside0 (Kd.R k91 91 w' w.heap.size (fun _ => True) (.slice Ao19 t318.length co19) t318) ∧ Aside0 (Kd.R k116 116 w' w.heap.size (fun _ => True) u335003 x335003_1) ∧ Aside0 (Kd.R k74 74 w' w.heap.size (fun _ => True) (.slice Ao28 t331.length co28) t331) ∧ Aside0 (w'.heap[gb313]? = some (.cells #[.int .i8 a0_0, .int .i8 a0_1, (.slice A0_2 l0_2.length c0_2), (.slice A0_3 l0_3.length c0_3), (.slice A0_4 l0_4.length c0_4)] 41 (0, 0))) ∧ Aside0 (w'.heap[gb314]? = some (.cells #[.int .i8 0, .int .i8 0, (.slice none 0 0), (.slice none 0 0), (.slice none 0 0)] 41 (0, 0))) ∧ Aside0 (w'.heap[gb322]? = some (.cells #[.int .i8 t316, .int .i8 t317, (.slice Ao19 t318.length co19)] 37 (0, 0))) ∧ Aside0 (w'.heap[gb334]? = some (.cells #[.int .i8 t316, .int .i8 t317, (.slice Ao19 t318.length co19), u335003, (.slice Ao28 t331.length co28)] 41 (0, 0))) ∧ Aside0 (Below w.heap.size w w'))
 case atStart => exact ⟨(0), (t328), (.slice Ao27 t328.length co27), zi, H', ⟨Nat.le_refl _⟩, ⟨Kd.R_mono (zs HO320 BK334).out (fun _ hk => trivial)⟩, ⟨Kd.R_mono (zs HO320 BK334).out (fun _ hk => trivial)⟩, ⟨Kd.R_mono (zs HO330 BK334).out (fun _ hk => trivial)⟩, ⟨Kd.R_mono (zs HO333 BK334).out (fun _ hk => trivial)⟩, zf BK313 NB313_334, zf BK314 NB314_334, zf BK322 NB322_334, ⟨zp BK334⟩, zba⟩
 clear H'
 try clear c1
 try clear c2
 try clear p2
 try clear c3
 try clear c5
 try clear c6
 try clear c7
 try clear c7b0
 try clear c7b1
 try clear c9
 try clear c10
 try clear c12
 try clear c16
 try clear c17
 try clear c22
 try clear c23
 try clear c24
 try clear z13_0 z13_1 z13_2 z13_3 z13_4
 try clear z18_0 z18_1 z18_2
 try clear z25_0 z25_1 z25_2 z25_3 z25_4
 try clear z29_0 z29_1 z29_2
 try clear y13_0
 try clear y13_1
 try clear y13_2
 try clear y13_3
 try clear y13_4
 try clear y18_0
 try clear y18_1
 try clear y18_2
 try clear y25_0
 try clear y25_1
 try clear y25_2
 try clear y25_3
 try clear y25_4
 try clear y29_0
 try clear y29_1
 try clear y29_2
 obtain ⟨x11_1, x335003_1, u335003, rfl, HA, HK1, HO_323002, HO_335002, HO_335003, HO_335004, BK313, BK314, BK322, BK334, HB⟩ := hrel
 cases gk with
 | zero => exact absurd HA.out (by simp [spec_MoveMachine.l0])
 | succ k1 => ?_
 have H := HA.out
 clear HA
 simp only [spec_MoveMachine.l0] at H
 by_cases c30 : x11_1 < (x335003_1.length : Int)
 ·rw [if_pos c30] at H
  have c30b0 : decide (x11_1 < (x335003_1.length : Int)) = true := decide_eq_true c30
  clear c30
  by_cases c31 : 0 ≤ x11_1
  rotate_left
  ·rw [if_neg c31] at H
   exact absurd H (by simp)
  rw [if_pos c31] at H
  have c31b0 : decide (0 ≤ x11_1) = true := decide_eq_true c31
  clear c31
  obtain ⟨y336, hy336⟩ : ∃ y_ : List (S116), y_ = (x335003_1.set (x11_1 : Int).toNat (⟨(⟨IntKind.i8.wrap (((rd_T116 x335003_1 x11_1).f0.f0) + (IntKind.i8.wrap (a1))), (rd_T116 x335003_1 x11_1).f0.f1⟩ : S74), (rd_T116 x335003_1 x11_1).f1⟩ : S116)) := ⟨_, rfl⟩
  replace H : (spec_MoveMachine.l0 k1 a1 a2 (wrap64 (x11_1 + 1)) t316 t317 t318 (y336.set (x11_1 : Int).toNat (⟨(⟨(rd_T116 y336 x11_1).f0.f0, IntKind.i8.wrap (((rd_T116 y336 x11_1).f0.f1) + (IntKind.i8.wrap (a2)))⟩ : S74), (rd_T116 y336 x11_1).f1⟩ : S116)) t331) = some (r1, r2, r3, r4, r5, r6) := by first | (rw [hy336]; with_reducible exact H) | (have H2_ := (Option.bind_some _ _).symm.trans H; rw [hy336]; with_reducible exact H2_) | (have H2_ := (Option.bind_some _ _).symm.trans H; with_reducible exact H2_) | with_reducible exact H | (rw [hy336]; exact H) | exact H
  have Ny336 := Aside0.mk hy336
  clear hy336
  obtain ⟨y338, hy338⟩ : ∃ y_ : List (S116), y_ = (y336.set (x11_1 : Int).toNat (⟨(⟨(rd_T116 y336 x11_1).f0.f0, IntKind.i8.wrap (((rd_T116 y336 x11_1).f0.f1) + (IntKind.i8.wrap (a2)))⟩ : S74), (rd_T116 y336 x11_1).f1⟩ : S116)) := ⟨_, rfl⟩
  replace H : (spec_MoveMachine.l0 k1 a1 a2 (wrap64 (x11_1 + 1)) t316 t317 t318 y338 t331) = some (r1, r2, r3, r4, r5, r6) := by first | (rw [hy338]; with_reducible exact H) | (have H2_ := (Option.bind_some _ _).symm.trans H; rw [hy338]; with_reducible exact H2_) | (have H2_ := (Option.bind_some _ _).symm.trans H; with_reducible exact H2_) | with_reducible exact H | (rw [hy338]; exact H) | exact H
  have Ny338 := Aside0.mk hy338
  clear hy338
  have H' := Aside0.mk H
  clear H
  have hnb34 := NB334_313.out
  have hnc34 := NB313_334.out
  have hnb35 := NB334_314.out
  have hnc35 := NB314_334.out
  have hnb36 := NB334_322.out
  have hnc36 := NB322_334.out
  obtain ⟨z37_0, z37_1, z37_2, z37_3, z37_4, y37_0, y37_1, y37_2, y37_3, y37_4⟩ := zB5 BK334
  obtain ⟨Ao38, co38, eo38⟩ := Kd.R_slice HO_335003.out
  subst eo38
  try go_wp2
  have n_ : _ ∧ _ ∧ _ ∧ _ ∧ _ ∧ _ ∧ _ ∧ _ ∧ _ := ⟨Aside0.mk (Kd.R_drew HO_323002.out), Aside0.mk (Kd.R_drew HO_335002.out), Aside0.mk (Kd.R_drew HO_335003.out), Aside0.mk (Kd.R_drew HO_335004.out), Aside0.mk (blk_drew BK313.out), Aside0.mk (blk_drew BK314.out), Aside0.mk (blk_drew BK322.out), Aside0.mk (blk_drew BK334.out), Aside0.mk (below_drew1 HB.out)⟩
  clear HO_323002 HO_335002 HO_335003 HO_335004 BK313 BK314 BK322 BK334 HB
  obtain ⟨HO_323002, HO_335002, HO_335003, HO_335004, BK313, BK314, BK322, BK334, HB⟩ := n_
  have p335 : 0 ≤ (x11_1 : Int) := of_decide_eq_true zA
  have q335 : x11_1 < (x335003_1.length : Int) := of_decide_eq_true zA
  obtain ⟨ad335, e335, hx335_0, hx335_1, hx335_2⟩ := at_T116 (Kd.R_reads' HO_335003.out).2.2 x11_1 p335 q335
  cases e335
  replace p335 := eq_true p335
  replace q335 := eq_true q335
  have p32 : 0 ≤ (x11_1 : Int) := of_decide_eq_true zA
  have q32 : (x11_1 : Int) < ((x335003_1.length : Int) : Int) := of_decide_eq_true zA
  obtain ⟨go32, co32, eo32, gb32, gl32, cl32, HG32⟩ := Kd.R_form HO_335003.out (by omega)
  (first | cases eo32 | (injection eo32 with ea_ en_ ec_; (first | subst ea_ | (injection ea_ with ea_; subst ea_)); subst ec_; clear en_))
  have GB32 := Aside0.mk gb32
  have GG32 := Aside0.mk HG32
  clear gb32 gl32 HG32
  (first | simp only [add_plain] at hx335_0 | skip)
  (first | simp only [add_plain] at hx335_1 | skip)
  (first | simp only [add_plain] at hx335_2 | skip)
  obtain ⟨ce32, hcl32, hM32, hcc32, hfr32⟩ := Kd.R_elem HO_335003.out z116 (x11_1 : Int) p32 q32
  obtain rfl := k116_openM hM32
  have hx32_0 : World.cell? _ ⟨go32, (x11_1 : Int).toNat * 3, none⟩ = some (.int .i8 ((rd_T116 x335003_1 x11_1).f0.f0)) := hcc32 0 _ rfl
  have hx32_1 : World.cell? _ ⟨go32, (x11_1 : Int).toNat * 3 + 1, none⟩ = some (.int .i8 ((rd_T116 x335003_1 x11_1).f0.f1)) := hcc32 1 _ rfl
  have hx32_2 : World.cell? _ ⟨go32, (x11_1 : Int).toNat * 3 + 2, none⟩ = some (.int .i8 ((rd_T116 x335003_1 x11_1).f1)) := hcc32 2 _ rfl
  have hf32_0 : World.frozen? _ ⟨go32, (x11_1 : Int).toNat * 3, none⟩ = false := hfr32 0
  have hf32_1 : World.frozen? _ ⟨go32, (x11_1 : Int).toNat * 3 + 1, none⟩ = false := hfr32 1
  have hf32_2 : World.frozen? _ ⟨go32, (x11_1 : Int).toNat * 3 + 2, none⟩ = false := hfr32 2
  clear hcl32 hcc32 hfr32 hM32
  replace p32 := eq_true p32
  replace q32 := eq_true q32
  obtain ⟨ce40, hcl40, hM40, hcc40, hfr40⟩ := Kd.R_elem HO_335003.out z116 (x11_1 : Int) (of_decide_eq_true zA) (zlt (x11_1 : Int) (x335003_1.length : Int) (Kd.R_reads' HO_335003.out).1)
  obtain rfl := k116_openM hM40
  have HP40 := (Kd.R_seg HO_335003.out (x11_1 : Int) (of_decide_eq_true zA) (zlt (x11_1 : Int) (x335003_1.length : Int) (Kd.R_reads' HO_335003.out).1) (seg := [.int .i8 (IntKind.i8.wrap (((rd_T116 x335003_1 x11_1).f0.f0) + (IntKind.i8.wrap (a1))))]) (j := 0) hcl40 hcc40 (show 1 ≤ 3 from by decide) (x' := (⟨(⟨IntKind.i8.wrap (((rd_T116 x335003_1 x11_1).f0.f0) + (IntKind.i8.wrap (a1))), (rd_T116 x335003_1 x11_1).f0.f1⟩ : S74), (rd_T116 x335003_1 x11_1).f1⟩ : S116)) (k116_mkM _ _ _ (⟨(⟨IntKind.i8.wrap (((rd_T116 x335003_1 x11_1).f0.f0) + (IntKind.i8.wrap (a1))), (rd_T116 x335003_1 x11_1).f0.f1⟩ : S74), (rd_T116 x335003_1 x11_1).f1⟩ : S116) ) (fun _ hk => hk)).1
  rw [← Ny336.out] at HP40
  have HQ40 := Aside0.mk HP40
  clear hcl40 hcc40 hfr40 hM40 HP40
  refine start_ (n := 14) (S := fun w' => w'.cell? ⟨gb334, 0, none⟩ = some (.int .i8 t316) ∧ w'.cell? ⟨gb334, 1, none⟩ = some (.int .i8 t317) ∧ w'.cell? ⟨gb334, 2, none⟩ = some (.slice Ao19 t318.length co19) ∧ w'.cell? ⟨gb334, 3, none⟩ = some (.slice (some ⟨go32, 0, none⟩) x335003_1.length co38) ∧ w'.cell? ⟨gb334, 4, none⟩ = some (.slice Ao28 t331.length co28) ∧ w'.cell? ⟨go32, ((x11_1).toNat * 3), none⟩ = some (.int .i8 ((rd_T116 x335003_1 x11_1).f0.f0)) ∧ w'.cell? ⟨go32, ((x11_1).toNat * 3) + 1, none⟩ = some (.int .i8 ((rd_T116 x335003_1 x11_1).f0.f1)) ∧ w'.cell? ⟨go32, ((x11_1).toNat * 3) + 2, none⟩ = some (.int .i8 ((rd_T116 x335003_1 x11_1).f1))) (ds := [13]) (zq 14 0) (by kernel_rfl) rfl rfl ⟨(blk_cell BK334.out 0).trans rfl, (blk_cell BK334.out 1).trans rfl, (blk_cell BK334.out 2).trans rfl, (blk_cell BK334.out 3).trans rfl, (blk_cell BK334.out 4).trans rfl, hx335_0, hx335_1, hx335_2⟩ (fun hHeld => ?_); refine with_tabW spec_MoveMachine.tab11 spec_MoveMachine.bits11 (fun HT_ HW_ => ?_)
  generalize wr.drew = w39 at HO_323002 HO_335002 HO_335003 HO_335004 BK313 BK314 BK322 BK334 HB GG32 HQ40 hf32_0 hf32_1 hf32_2 hx32_0 hx32_1 hx32_2 hx335_0 hx335_1 hx335_2 hHeld ⊢
  refine zpu 0 (some 38) (zq 14 1) HT_ ?_
  refine zpu 2 (some 40) (zq 14 5) HT_ ?_
  refine zpu 7 (some 45) (zq 14 133) HT_ ?_
  refine zpu 8 (some 46) (zq 14 389) HT_ ?_
  refine ztk 1 (some 39) (zq 14 391) HT_ HW_ rfl hHeld (Or.inl ⟨by rfl, by (rintro w' ⟨s0, s1, s2, s3, s4, s5, s6, s7⟩; go_simp; with_reducible rfl)⟩) ?_
  refine zpu 3 (some 41) (zq 14 399) HT_ ?_
  refine zpu 4 (some 42) (zq 14 415) HT_ ?_
  refine zpu 5 (some 43) (zq 14 447) HT_ ?_
  refine zpu 10 (some 48) (zq 14 1471) HT_ ?_
  refine zpu 11 (some 49) (zq 14 3519) HT_ ?_
  refine ztk 6 (some 44) (zq 14 3583) HT_ HW_ rfl hHeld (Or.inl ⟨by rfl, by (rintro w' ⟨s0, s1, s2, s3, s4, s5, s6, s7⟩; go_simp; with_reducible rfl)⟩) ?_
  refine zpu 9 (some 47) (zq 14 4095) HT_ ?_
  refine zpu 12 (some 50) (zq 14 8191) HT_ ?_
  refine last_ (i := 13) (N := none) (zq 14 16383) rfl rfl (one_of HT_.out (by kernel_rfl)) (by decide) (fun K hK => ?_)
  refine skip_ (w1 := ?_) (by rfl) rfl ?_ ?_
  rotate_left
  ·go_simp
   rfl
  refine hK.out _ _ ?_
  clear hK K
  refine done_ (done_of HT_.out (by kernel_rfl)) ?_
  try go_wp2
  have n0_ : Aside0 (Kd.R k91 91 (w39.setCell ⟨go32, (x11_1 : Int).toNat * 3, none⟩ (.int .i8 (IntKind.i8.wrap (((rd_T116 x335003_1 x11_1).f0.f0) + (IntKind.i8.wrap (a1)))))) w.heap.size (fun _ => True) (.slice Ao19 t318.length co19) t318) := ⟨by (with_reducible repeat (first | apply Kd.R_alloc | apply Kd.R_drewN | apply Kd.R_drew)); exact Kd.R_mono (Kd.R_far (p := ⟨go32, (x11_1 : Int).toNat * 3, none⟩) (Kd.R_types HO_323002.out GG32.out (by decide)) (fun _ hk => hk.2) (.int .i8 (IntKind.i8.wrap (((rd_T116 x335003_1 x11_1).f0.f0) + (IntKind.i8.wrap (a1)))))) (fun _ hk => trivial)⟩
  have n1_ : Aside0 (Kd.R k91 91 (w39.setCell ⟨go32, (x11_1 : Int).toNat * 3, none⟩ (.int .i8 (IntKind.i8.wrap (((rd_T116 x335003_1 x11_1).f0.f0) + (IntKind.i8.wrap (a1)))))) w.heap.size (fun _ => True) (.slice Ao19 t318.length co19) t318) := ⟨by (with_reducible repeat (first | apply Kd.R_alloc | apply Kd.R_drewN | apply Kd.R_drew)); exact Kd.R_mono (Kd.R_far (p := ⟨go32, (x11_1 : Int).toNat * 3, none⟩) (Kd.R_types HO_335002.out GG32.out (by decide)) (fun _ hk => hk.2) (.int .i8 (IntKind.i8.wrap (((rd_T116 x335003_1 x11_1).f0.f0) + (IntKind.i8.wrap (a1)))))) (fun _ hk => trivial)⟩
  have n2_ : Aside0 (Kd.R k116 116 (w39.setCell ⟨go32, (x11_1 : Int).toNat * 3, none⟩ (.int .i8 (IntKind.i8.wrap (((rd_T116 x335003_1 x11_1).f0.f0) + (IntKind.i8.wrap (a1)))))) w.heap.size (fun _ => True) (.slice (some ⟨go32, 0, none⟩) x335003_1.length co38) y336) := ⟨HQ40.out⟩
  have n3_ : Aside0 (Kd.R k74 74 (w39.setCell ⟨go32, (x11_1 : Int).toNat * 3, none⟩ (.int .i8 (IntKind.i8.wrap (((rd_T116 x335003_1 x11_1).f0.f0) + (IntKind.i8.wrap (a1)))))) w.heap.size (fun _ => True) (.slice Ao28 t331.length co28) t331) := ⟨by (with_reducible repeat (first | apply Kd.R_alloc | apply Kd.R_drewN | apply Kd.R_drew)); exact Kd.R_mono (Kd.R_far (p := ⟨go32, (x11_1 : Int).toNat * 3, none⟩) (Kd.R_types HO_335004.out GG32.out (by decide)) (fun _ hk => hk.2) (.int .i8 (IntKind.i8.wrap (((rd_T116 x335003_1 x11_1).f0.f0) + (IntKind.i8.wrap (a1)))))) (fun _ hk => trivial)⟩
  have n4_ : Aside0 ((w39.setCell ⟨go32, (x11_1 : Int).toNat * 3, none⟩ (.int .i8 (IntKind.i8.wrap (((rd_T116 x335003_1 x11_1).f0.f0) + (IntKind.i8.wrap (a1)))))).heap[gb313]? = some (.cells #[.int .i8 a0_0, .int .i8 a0_1, .slice A0_2 l0_2.length c0_2, .slice A0_3 l0_3.length c0_3, .slice A0_4 l0_4.length c0_4] 41 (0, 0))) := ⟨(zf BK313 ⟨by have h_ := Kd.R_ne HO_335003.out BK313.out (by decide); intro e_; exact h_ (by rw [e_]; rfl)⟩).out⟩
  have n5_ : Aside0 ((w39.setCell ⟨go32, (x11_1 : Int).toNat * 3, none⟩ (.int .i8 (IntKind.i8.wrap (((rd_T116 x335003_1 x11_1).f0.f0) + (IntKind.i8.wrap (a1)))))).heap[gb314]? = some (.cells #[.int .i8 0, .int .i8 0, .slice none 0 0, .slice none 0 0, .slice none 0 0] 41 (0, 0))) := ⟨(zf BK314 ⟨by have h_ := Kd.R_ne HO_335003.out BK314.out (by decide); intro e_; exact h_ (by rw [e_]; rfl)⟩).out⟩
  have n6_ : Aside0 ((w39.setCell ⟨go32, (x11_1 : Int).toNat * 3, none⟩ (.int .i8 (IntKind.i8.wrap (((rd_T116 x335003_1 x11_1).f0.f0) + (IntKind.i8.wrap (a1)))))).heap[gb322]? = some (.cells #[.int .i8 t316, .int .i8 t317, .slice Ao19 t318.length co19] 37 (0, 0))) := ⟨(zf BK322 ⟨by have h_ := Kd.R_ne HO_335003.out BK322.out (by decide); intro e_; exact h_ (by rw [e_]; rfl)⟩).out⟩
  have n7_ : Aside0 ((w39.setCell ⟨go32, (x11_1 : Int).toNat * 3, none⟩ (.int .i8 (IntKind.i8.wrap (((rd_T116 x335003_1 x11_1).f0.f0) + (IntKind.i8.wrap (a1)))))).heap[gb334]? = some (.cells #[.int .i8 t316, .int .i8 t317, .slice Ao19 t318.length co19, .slice (some ⟨go32, 0, none⟩) x335003_1.length co38, .slice Ao28 t331.length co28] 41 (0, 0))) := ⟨(zf BK334 ⟨by have h_ := Kd.R_ne HO_335003.out BK334.out (by decide); intro e_; exact h_ (by rw [e_]; rfl)⟩).out⟩
  have n8_ : Aside0 (Below w.heap.size w (w39.setCell ⟨go32, (x11_1 : Int).toNat * 3, none⟩ (.int .i8 (IntKind.i8.wrap (((rd_T116 x335003_1 x11_1).f0.f0) + (IntKind.i8.wrap (a1))))))) := zba
  (try clear HO_323002)
  (try clear HO_335002)
  (try clear HO_335003)
  (try clear HO_335004)
  (try clear BK313)
  (try clear BK314)
  (try clear BK322)
  (try clear BK334)
  (try clear HB)
  generalize (w39.setCell ⟨go32, (x11_1 : Int).toNat * 3, none⟩ (.int .i8 (IntKind.i8.wrap (((rd_T116 x335003_1 x11_1).f0.f0) + (IntKind.i8.wrap (a1)))))) = w41 at n0_ n1_ n2_ n3_ n4_ n5_ n6_ n7_ n8_ ⊢
  have HO_323002 := n0_
  have HO_335002 := n1_
  have HO_335003 := n2_
  have HO_335004 := n3_
  have BK313 := n4_
  have BK314 := n5_
  have BK322 := n6_
  have BK334 := n7_
  have HB := n8_
  clear n0_ n1_ n2_ n3_ n4_ n5_ n6_ n7_ n8_
  have n_ : _ ∧ _ ∧ _ ∧ _ ∧ _ ∧ _ ∧ _ ∧ _ ∧ _ := ⟨Aside0.mk (Kd.R_drew HO_323002.out), Aside0.mk (Kd.R_drew HO_335002.out), Aside0.mk (Kd.R_drew HO_335003.out), Aside0.mk (Kd.R_drew HO_335004.out), Aside0.mk (blk_drew BK313.out), Aside0.mk (blk_drew BK314.out), Aside0.mk (blk_drew BK322.out), Aside0.mk (blk_drew BK334.out), Aside0.mk (below_drew1 HB.out)⟩
  clear HO_323002 HO_335002 HO_335003 HO_335004 BK313 BK314 BK322 BK334 HB
  obtain ⟨HO_323002, HO_335002, HO_335003, HO_335004, BK313, BK314, BK322, BK334, HB⟩ := n_
  have p337 : 0 ≤ (x11_1 : Int) := of_decide_eq_true zA
  have q337 : x11_1 < (y336.length : Int) := (by have h_ : (x11_1 : Int) < ((x335003_1.length : Int) : Int) := of_decide_eq_true zA; first | (have e_ := (Kd.R_reads' HO_335003.out).1; omega) | simpa only [Ny336.out, List.length_set] using h_)
  have ql337 : ((x11_1 : Int) < ((x335003_1.length : Int) : Int)) = True := eq_true (of_decide_eq_true zA)
  obtain ⟨ad337, e337, hx337_0, hx337_1, hx337_2⟩ := at_T116 (Kd.R_reads' HO_335003.out).2.2 x11_1 p337 q337
  obtain rfl : (⟨go32, 0, none⟩ : Addr) = ad337 := (by injection e337)
  (first | simp only [add_plain] at hx337_0 | simp only [add_at] at hx337_0 | simp only [Addr.add, Nat.zero_add] at hx337_0 | skip)
  (first | simp only [add_plain] at hx337_1 | simp only [add_at] at hx337_1 | simp only [Addr.add, Nat.zero_add] at hx337_1 | skip)
  (first | simp only [add_plain] at hx337_2 | simp only [add_at] at hx337_2 | simp only [Addr.add, Nat.zero_add] at hx337_2 | skip)
  replace p337 := eq_true p337
  replace q337 := eq_true q337
  have p33 : 0 ≤ (x11_1 : Int) := of_decide_eq_true zA
  have q33 : (x11_1 : Int) < ((x335003_1.length : Int) : Int) := of_decide_eq_true zA
  obtain ⟨ce33, hcl33, hM33, hcc33, hfr33⟩ := Kd.R_elem HO_335003.out z116 (x11_1 : Int) p33 q33
  obtain rfl := k116_openM hM33
  have hx33_0 : World.cell? _ ⟨go32, (x11_1 : Int).toNat * 3, none⟩ = some (.int .i8 ((rd_T116 y336 x11_1).f0.f0)) := hcc33 0 _ rfl
  have hx33_1 : World.cell? _ ⟨go32, (x11_1 : Int).toNat * 3 + 1, none⟩ = some (.int .i8 ((rd_T116 y336 x11_1).f0.f1)) := hcc33 1 _ rfl
  have hx33_2 : World.cell? _ ⟨go32, (x11_1 : Int).toNat * 3 + 2, none⟩ = some (.int .i8 ((rd_T116 y336 x11_1).f1)) := hcc33 2 _ rfl
  have hf33_0 : World.frozen? _ ⟨go32, (x11_1 : Int).toNat * 3, none⟩ = false := hfr33 0
  have hf33_1 : World.frozen? _ ⟨go32, (x11_1 : Int).toNat * 3 + 1, none⟩ = false := hfr33 1
  have hf33_2 : World.frozen? _ ⟨go32, (x11_1 : Int).toNat * 3 + 2, none⟩ = false := hfr33 2
  clear hcl33 hcc33 hfr33 hM33
  clear GG32
  obtain ⟨_, hgg33x⟩ := Kd.R_typed HO_335003.out go32 rfl
  have GG32 := Aside0.mk hgg33x
  clear hgg33x
  replace p33 := eq_true p33
  replace q33 := eq_true q33
  obtain ⟨ce43, hcl43, hM43, hcc43, hfr43⟩ := Kd.R_elem HO_335003.out z116 (x11_1 : Int) (of_decide_eq_true zA) (zlt (x11_1 : Int) (x335003_1.length : Int) (Kd.R_reads' HO_335003.out).1)
  obtain rfl := k116_openM hM43
  have HP43 := (Kd.R_seg HO_335003.out (x11_1 : Int) (of_decide_eq_true zA) (zlt (x11_1 : Int) (x335003_1.length : Int) (Kd.R_reads' HO_335003.out).1) (seg := [.int .i8 (IntKind.i8.wrap (((rd_T116 y336 x11_1).f0.f1) + (IntKind.i8.wrap (a2))))]) (j := 1) hcl43 hcc43 (show 2 ≤ 3 from by decide) (x' := (⟨(⟨(rd_T116 y336 x11_1).f0.f0, IntKind.i8.wrap (((rd_T116 y336 x11_1).f0.f1) + (IntKind.i8.wrap (a2)))⟩ : S74), (rd_T116 y336 x11_1).f1⟩ : S116)) (k116_mkM _ _ _ (⟨(⟨(rd_T116 y336 x11_1).f0.f0, IntKind.i8.wrap (((rd_T116 y336 x11_1).f0.f1) + (IntKind.i8.wrap (a2)))⟩ : S74), (rd_T116 y336 x11_1).f1⟩ : S116) ) (fun _ hk => hk)).1
  rw [← Ny338.out] at HP43
  have HQ43 := Aside0.mk HP43
  clear hcl43 hcc43 hfr43 hM43 HP43
  refine start_ (n := 14) (S := fun w' => w'.cell? ⟨gb334, 0, none⟩ = some (.int .i8 t316) ∧ w'.cell? ⟨gb334, 1, none⟩ = some (.int .i8 t317) ∧ w'.cell? ⟨gb334, 2, none⟩ = some (.slice Ao19 t318.length co19) ∧ w'.cell? ⟨gb334, 3, none⟩ = some (.slice (some ⟨go32, 0, none⟩) x335003_1.length co38) ∧ w'.cell? ⟨gb334, 4, none⟩ = some (.slice Ao28 t331.length co28) ∧ w'.cell? ⟨go32, (x11_1).toNat * 3, none⟩ = some (.int .i8 ((rd_T116 y336 x11_1).f0.f0)) ∧ w'.cell? ⟨go32, (x11_1).toNat * 3 + 1, none⟩ = some (.int .i8 ((rd_T116 y336 x11_1).f0.f1)) ∧ w'.cell? ⟨go32, (x11_1).toNat * 3 + 2, none⟩ = some (.int .i8 ((rd_T116 y336 x11_1).f1))) (ds := [13]) (zq 14 0) (by kernel_rfl) rfl rfl ⟨(blk_cell BK334.out 0).trans rfl, (blk_cell BK334.out 1).trans rfl, (blk_cell BK334.out 2).trans rfl, (blk_cell BK334.out 3).trans rfl, (blk_cell BK334.out 4).trans rfl, hx337_0, hx337_1, hx337_2⟩ (fun hHeld => ?_); refine with_tabW spec_MoveMachine.tab12 spec_MoveMachine.bits12 (fun HT_ HW_ => ?_)
  generalize w41.drew = w42 at HO_323002 HO_335002 HO_335003 HO_335004 BK313 BK314 BK322 BK334 HB GG32 HQ40 HQ43 hf33_0 hf33_1 hf33_2 hx337_0 hx337_1 hx337_2 hx33_0 hx33_1 hx33_2 hHeld ⊢
  refine zpu 0 (some 51) (zq 14 1) HT_ ?_
  refine zpu 2 (some 53) (zq 14 5) HT_ ?_
  refine zpu 7 (some 58) (zq 14 133) HT_ ?_
  refine zpu 8 (some 59) (zq 14 389) HT_ ?_
  refine ztk 1 (some 52) (zq 14 391) HT_ HW_ rfl hHeld (Or.inl ⟨by rfl, by (rintro w' ⟨s0, s1, s2, s3, s4, s5, s6, s7⟩; go_simp; with_reducible rfl)⟩) ?_
  refine zpu 3 (some 54) (zq 14 399) HT_ ?_
  refine zpu 4 (some 55) (zq 14 415) HT_ ?_
  refine zpu 5 (some 56) (zq 14 447) HT_ ?_
  refine zpu 10 (some 61) (zq 14 1471) HT_ ?_
  refine zpu 11 (some 62) (zq 14 3519) HT_ ?_
  refine ztk 6 (some 57) (zq 14 3583) HT_ HW_ rfl hHeld (Or.inl ⟨by rfl, by (rintro w' ⟨s0, s1, s2, s3, s4, s5, s6, s7⟩; go_simp; with_reducible rfl)⟩) ?_
  refine zpu 9 (some 60) (zq 14 4095) HT_ ?_
  refine zpu 12 (some 63) (zq 14 8191) HT_ ?_
  refine last_ (i := 13) (N := none) (zq 14 16383) rfl rfl (one_of HT_.out (by kernel_rfl)) (by decide) (fun K hK => ?_)
  refine skip_ (w1 := ?_) (by rfl) rfl ?_ ?_
  rotate_left
  ·go_simp
   rfl
  refine hK.out _ _ ?_
  clear hK K
  refine done_ (done_of HT_.out (by kernel_rfl)) ?_
  try go_wp2
  go_roundg k1
  case measure => have := HK1.out; omega
  case rel => exact ⟨(wrap64 (x11_1 + 1)), (y338), (.slice (some ⟨go32, 0, none⟩) x335003_1.length co38), zi, H', ⟨by have := HK1.out; omega⟩, ⟨by (with_reducible repeat (first | apply Kd.R_alloc | apply Kd.R_drewN | apply Kd.R_drew)); exact Kd.R_mono (Kd.R_far (p := ⟨go32, (x11_1 : Int).toNat * 3 + 1, none⟩) (Kd.R_types HO_323002.out GG32.out (by decide)) (fun _ hk => hk.2) (.int .i8 (IntKind.i8.wrap (((rd_T116 y336 x11_1).f0.f1) + (IntKind.i8.wrap (a2)))))) (fun _ hk => trivial)⟩, ⟨by (with_reducible repeat (first | apply Kd.R_alloc | apply Kd.R_drewN | apply Kd.R_drew)); exact Kd.R_mono (Kd.R_far (p := ⟨go32, (x11_1 : Int).toNat * 3 + 1, none⟩) (Kd.R_types HO_335002.out GG32.out (by decide)) (fun _ hk => hk.2) (.int .i8 (IntKind.i8.wrap (((rd_T116 y336 x11_1).f0.f1) + (IntKind.i8.wrap (a2)))))) (fun _ hk => trivial)⟩, ⟨HQ43.out⟩, ⟨by (with_reducible repeat (first | apply Kd.R_alloc | apply Kd.R_drewN | apply Kd.R_drew)); exact Kd.R_mono (Kd.R_far (p := ⟨go32, (x11_1 : Int).toNat * 3 + 1, none⟩) (Kd.R_types HO_335004.out GG32.out (by decide)) (fun _ hk => hk.2) (.int .i8 (IntKind.i8.wrap (((rd_T116 y336 x11_1).f0.f1) + (IntKind.i8.wrap (a2)))))) (fun _ hk => trivial)⟩, ⟨(zf BK313 ⟨by have h_ := Kd.R_ne HO_335003.out BK313.out (by decide); intro e_; exact h_ (by rw [e_]; rfl)⟩).out⟩, ⟨(zf BK314 ⟨by have h_ := Kd.R_ne HO_335003.out BK314.out (by decide); intro e_; exact h_ (by rw [e_]; rfl)⟩).out⟩, ⟨(zf BK322 ⟨by have h_ := Kd.R_ne HO_335003.out BK322.out (by decide); intro e_; exact h_ (by rw [e_]; rfl)⟩).out⟩, ⟨(zf BK334 ⟨by have h_ := Kd.R_ne HO_335003.out BK334.out (by decide); intro e_; exact h_ (by rw [e_]; rfl)⟩).out⟩, zba⟩
 rw [if_neg c30] at H
 have c30b0 : decide (x11_1 < (x335003_1.length : Int)) = false := decide_eq_false c30
 clear c30
 have H' := Aside0.mk H
 clear H
 have hnb44 := NB334_313.out
 have hnc44 := NB313_334.out
 have hnb45 := NB334_314.out
 have hnc45 := NB314_334.out
 have hnb46 := NB334_322.out
 have hnc46 := NB322_334.out
 obtain ⟨z47_0, z47_1, z47_2, z47_3, z47_4, y47_0, y47_1, y47_2, y47_3, y47_4⟩ := zB5 BK334
 obtain ⟨Ao48, co48, eo48⟩ := Kd.R_slice HO_335003.out
 subst eo48
 go_wp2
 go_loopg [12] k1 (fun kq v12 w' => ∃ (x12_2 : Int) (x335004_2 : List (S74)) (u335004 : Value), v12 = .int .i64 x12_2 ∧ Aside0 (spec_MoveMachine.l1 kq a1 a2 x12_2 t316 t317 t318 x335003_1 x335004_2 = some (r1, r2, r3, r4, r5, r6)) ∧ Aside0 (kq ≤ k1) ∧ Aside0 (Kd.R k91 91 w' w.heap.size (fun _ => True) (.slice Ao19 t318.length co19) t318) ∧ Aside0 (Kd.R k91 91 w' w.heap.size (fun _ => True) (.slice Ao19 t318.length co19) t318) ∧ Aside0 (Kd.R k116 116 w' w.heap.size (fun _ => True) (.slice Ao48 x335003_1.length co48) x335003_1) ∧ Aside0 (Kd.R k74 74 w' w.heap.size (fun _ => True) u335004 x335004_2) ∧ Aside0 (w'.heap[gb313]? = some (.cells #[.int .i8 a0_0, .int .i8 a0_1, (.slice A0_2 l0_2.length c0_2), (.slice A0_3 l0_3.length c0_3), (.slice A0_4 l0_4.length c0_4)] 41 (0, 0))) ∧ Aside0 (w'.heap[gb314]? = some (.cells #[.int .i8 0, .int .i8 0, (.slice none 0 0), (.slice none 0 0), (.slice none 0 0)] 41 (0, 0))) ∧ Aside0 (w'.heap[gb322]? = some (.cells #[.int .i8 t316, .int .i8 t317, (.slice Ao19 t318.length co19)] 37 (0, 0))) ∧ Aside0 (w'.heap[gb334]? = some (.cells #[.int .i8 t316, .int .i8 t317, (.slice Ao19 t318.length co19), (.slice Ao48 x335003_1.length co48), u335004] 41 (0, 0))) ∧ Aside0 (Below w.heap.size w w'))
 case atStart => exact ⟨(0), (t331), (.slice Ao28 t331.length co28), zi, H', ⟨Nat.le_refl _⟩, ze HO_323002, ze HO_335002, ze HO_335003, ze HO_335004, zh BK313, zh BK314, zh BK322, zh BK334, zba⟩
 clear H'
 try clear c1
 try clear c2
 try clear p2
 try clear c3
 try clear p3
 try clear q3
 try clear hx3
 try clear hf3
 try clear c4
 try clear c5
 try clear c6
 try clear p6
 try clear c7
 try clear c7b0
 try clear c7b1
 try clear c9
 try clear c10
 try clear c12
 try clear c16
 try clear c17
 try clear c22
 try clear c23
 try clear c24
 try clear c30
 try clear c30b0
 try clear c31
 try clear c31b0
 try clear c32
 try clear p32
 try clear q32
 try clear hx32
 try clear hf32
 try clear c33
 try clear p33
 try clear q33
 try clear hx33
 try clear hf33
 try clear c34
 try clear c35
 try clear c36
 try clear c37
 try clear c40
 try clear c43
 try clear c44
 try clear c45
 try clear c46
 try clear z13_0 z13_1 z13_2 z13_3 z13_4
 try clear z18_0 z18_1 z18_2
 try clear z25_0 z25_1 z25_2 z25_3 z25_4
 try clear z29_0 z29_1 z29_2
 try clear z37_0 z37_1 z37_2 z37_3 z37_4
 try clear z47_0 z47_1 z47_2 z47_3 z47_4
 try clear y13_0
 try clear y13_1
 try clear y13_2
 try clear y13_3
 try clear y13_4
 try clear y18_0
 try clear y18_1
 try clear y18_2
 try clear y25_0
 try clear y25_1
 try clear y25_2
 try clear y25_3
 try clear y25_4
 try clear y29_0
 try clear y29_1
 try clear y29_2
 try clear y37_0
 try clear y37_1
 try clear y37_2
 try clear y37_3
 try clear y37_4
 try clear y47_0
 try clear y47_1
 try clear y47_2
 try clear y47_3
 try clear y47_4
 try clear hx32_0
 try clear hx32_1
 try clear hx32_2
 try clear hx335_0
 try clear hx335_1
 try clear hx335_2
 try clear hx337_0
 try clear hx337_1
 try clear hx337_2
 try clear hx33_0
 try clear hx33_1
 try clear hx33_2
 try clear p2
 try clear p32
 try clear p33
 try clear p335
 try clear p337
 try clear q32
 try clear q33
 try clear q335
 try clear q337
 obtain ⟨x12_2, x335004_2, u335004, rfl, HA, HK2, HO_323002, HO_335002, HO_335003, HO_335004, BK313, BK314, BK322, BK334, HB⟩ := hrel
 cases gk with
 | zero => exact absurd HA.out (by simp [spec_MoveMachine.l1])
 | succ k2 => ?_
 have H := HA.out
 clear HA
 simp only [spec_MoveMachine.l1] at H
 by_cases c49 : x12_2 < (x335004_2.length : Int)
 rotate_left
 ·rw [if_neg c49] at H
  have c49b0 : decide (x12_2 < (x335004_2.length : Int)) = false := decide_eq_false c49
  clear c49
  simp only [Option.some.injEq, Prod.mk.injEq] at H
  obtain ⟨rfl, rfl, rfl, rfl, rfl, rfl⟩ := H
  have hnb63 := NB334_313.out
  have hnc63 := NB313_334.out
  have hnb64 := NB334_314.out
  have hnc64 := NB314_334.out
  have hnb65 := NB334_322.out
  have hnc65 := NB322_334.out
  obtain ⟨z66_0, z66_1, z66_2, z66_3, z66_4, y66_0, y66_1, y66_2, y66_3, y66_4⟩ := zB5 BK334
  obtain ⟨Ao67, co67, eo67⟩ := Kd.R_slice HO_335004.out
  subst eo67
  have hnb68 := NB314_313.out
  have hnc68 := NB313_314.out
  have hnb69 := NB314_322.out
  have hnc69 := NB322_314.out
  obtain ⟨z70_0, z70_1, z70_2, z70_3, z70_4, y70_0, y70_1, y70_2, y70_3, y70_4⟩ := zB5 BK314
  go_wp2
  refine bodyPost_ret (results_ct rfl _ _ gb314 41 #[.int .i8 t316, .int .i8 t317, .slice Ao19 t318.length co19, .slice Ao48 x335003_1.length co48, .slice Ao67 x335004_2.length co67] (0, 0) _ rfl (zp BK314) Try.underlying41 rfl (by kernel_rfl)) rfl ?_
  exact ⟨_, _, _, zv, Kd.R_mono (zs HO_335002 BK314).out (fun _ hk => trivial), Kd.R_mono (zs HO_335003 BK314).out (fun _ hk => trivial), Kd.R_mono (zs HO_335004 BK314).out (fun _ hk => trivial), zbo⟩
 rw [if_pos c49] at H
 have c49b0 : decide (x12_2 < (x335004_2.length : Int)) = true := decide_eq_true c49
 clear c49
 by_cases c50 : 0 ≤ x12_2
 rotate_left
 ·rw [if_neg c50] at H
  exact absurd H (by simp)
 rw [if_pos c50] at H
 have c50b0 : decide (0 ≤ x12_2) = true := decide_eq_true c50
 clear c50
 obtain ⟨y340, hy340⟩ : ∃ y_ : List (S74), y_ = (x335004_2.set (x12_2 : Int).toNat (⟨IntKind.i8.wrap (((rd_T74 x335004_2 x12_2).f0) + (IntKind.i8.wrap (a1))), (rd_T74 x335004_2 x12_2).f1⟩ : S74)) := ⟨_, rfl⟩
 replace H : (spec_MoveMachine.l1 k2 a1 a2 (wrap64 (x12_2 + 1)) t316 t317 t318 x335003_1 (y340.set (x12_2 : Int).toNat (⟨(rd_T74 y340 x12_2).f0, IntKind.i8.wrap (((rd_T74 y340 x12_2).f1) + (IntKind.i8.wrap (a2)))⟩ : S74))) = some (r1, r2, r3, r4, r5, r6) := by first | (rw [hy340]; with_reducible exact H) | (have H2_ := (Option.bind_some _ _).symm.trans H; rw [hy340]; with_reducible exact H2_) | (have H2_ := (Option.bind_some _ _).symm.trans H; with_reducible exact H2_) | with_reducible exact H | (rw [hy340]; exact H) | exact H
 have Ny340 := Aside0.mk hy340
 clear hy340
 obtain ⟨y342, hy342⟩ : ∃ y_ : List (S74), y_ = (y340.set (x12_2 : Int).toNat (⟨(rd_T74 y340 x12_2).f0, IntKind.i8.wrap (((rd_T74 y340 x12_2).f1) + (IntKind.i8.wrap (a2)))⟩ : S74)) := ⟨_, rfl⟩
 replace H : (spec_MoveMachine.l1 k2 a1 a2 (wrap64 (x12_2 + 1)) t316 t317 t318 x335003_1 y342) = some (r1, r2, r3, r4, r5, r6) := by first | (rw [hy342]; with_reducible exact H) | (have H2_ := (Option.bind_some _ _).symm.trans H; rw [hy342]; with_reducible exact H2_) | (have H2_ := (Option.bind_some _ _).symm.trans H; with_reducible exact H2_) | with_reducible exact H | (rw [hy342]; exact H) | exact H
 have Ny342 := Aside0.mk hy342
 clear hy342
 have H' := Aside0.mk H
 clear H
 have hnb53 := NB334_313.out
 have hnc53 := NB313_334.out
 have hnb54 := NB334_314.out
 have hnc54 := NB314_334.out
 have hnb55 := NB334_322.out
 have hnc55 := NB322_334.out
 obtain ⟨z56_0, z56_1, z56_2, z56_3, z56_4, y56_0, y56_1, y56_2, y56_3, y56_4⟩ := zB5 BK334
 obtain ⟨Ao57, co57, eo57⟩ := Kd.R_slice HO_335004.out
 subst eo57
 try go_wp2
 have n_ : _ ∧ _ ∧ _ ∧ _ ∧ _ ∧ _ ∧ _ ∧ _ ∧ _ := ⟨Aside0.mk (Kd.R_drew HO_323002.out), Aside0.mk (Kd.R_drew HO_335002.out), Aside0.mk (Kd.R_drew HO_335003.out), Aside0.mk (Kd.R_drew HO_335004.out), Aside0.mk (blk_drew BK313.out), Aside0.mk (blk_drew BK314.out), Aside0.mk (blk_drew BK322.out), Aside0.mk (blk_drew BK334.out), Aside0.mk (below_drew1 HB.out)⟩
 clear HO_323002 HO_335002 HO_335003 HO_335004 BK313 BK314 BK322 BK334 HB
 obtain ⟨HO_323002, HO_335002, HO_335003, HO_335004, BK313, BK314, BK322, BK334, HB⟩ := n_
 have p339 : 0 ≤ (x12_2 : Int) := of_decide_eq_true zA
 have q339 : x12_2 < (x335004_2.length : Int) := of_decide_eq_true zA
 obtain ⟨ad339, e339, hx339_0, hx339_1⟩ := at_T74 (Kd.R_reads' HO_335004.out).2.2 x12_2 p339 q339
 cases e339
 replace p339 := eq_true p339
 replace q339 := eq_true q339
 have p51 : 0 ≤ (x12_2 : Int) := of_decide_eq_true zA
 have q51 : (x12_2 : Int) < ((x335004_2.length : Int) : Int) := of_decide_eq_true zA
 obtain ⟨go51, co51, eo51, gb51, gl51, cl51, HG51⟩ := Kd.R_form HO_335004.out (by omega)
 (first | cases eo51 | (injection eo51 with ea_ en_ ec_; (first | subst ea_ | (injection ea_ with ea_; subst ea_)); subst ec_; clear en_))
 have GB51 := Aside0.mk gb51
 have GG51 := Aside0.mk HG51
 clear gb51 gl51 HG51
 (first | simp only [add_plain] at hx339_0 | skip)
 (first | simp only [add_plain] at hx339_1 | skip)
 obtain ⟨ce51, hcl51, hM51, hcc51, hfr51⟩ := Kd.R_elem HO_335004.out z74 (x12_2 : Int) p51 q51
 obtain rfl := k74_openM hM51
 have hx51_0 : World.cell? _ ⟨go51, (x12_2 : Int).toNat * 2, none⟩ = some (.int .i8 ((rd_T74 x335004_2 x12_2).f0)) := hcc51 0 _ rfl
 have hx51_1 : World.cell? _ ⟨go51, (x12_2 : Int).toNat * 2 + 1, none⟩ = some (.int .i8 ((rd_T74 x335004_2 x12_2).f1)) := hcc51 1 _ rfl
 have hf51_0 : World.frozen? _ ⟨go51, (x12_2 : Int).toNat * 2, none⟩ = false := hfr51 0
 have hf51_1 : World.frozen? _ ⟨go51, (x12_2 : Int).toNat * 2 + 1, none⟩ = false := hfr51 1
 clear hcl51 hcc51 hfr51 hM51
 replace p51 := eq_true p51
 replace q51 := eq_true q51
 obtain ⟨ce59, hcl59, hM59, hcc59, hfr59⟩ := Kd.R_elem HO_335004.out z74 (x12_2 : Int) (of_decide_eq_true zA) (zlt (x12_2 : Int) (x335004_2.length : Int) (Kd.R_reads' HO_335004.out).1)
 obtain rfl := k74_openM hM59
 have HP59 := (Kd.R_seg HO_335004.out (x12_2 : Int) (of_decide_eq_true zA) (zlt (x12_2 : Int) (x335004_2.length : Int) (Kd.R_reads' HO_335004.out).1) (seg := [.int .i8 (IntKind.i8.wrap (((rd_T74 x335004_2 x12_2).f0) + (IntKind.i8.wrap (a1))))]) (j := 0) hcl59 hcc59 (show 1 ≤ 2 from by decide) (x' := (⟨IntKind.i8.wrap (((rd_T74 x335004_2 x12_2).f0) + (IntKind.i8.wrap (a1))), (rd_T74 x335004_2 x12_2).f1⟩ : S74)) (k74_mkM _ _ _ (⟨IntKind.i8.wrap (((rd_T74 x335004_2 x12_2).f0) + (IntKind.i8.wrap (a1))), (rd_T74 x335004_2 x12_2).f1⟩ : S74) ) (fun _ hk => hk)).1
 rw [← Ny340.out] at HP59
 have HQ59 := Aside0.mk HP59
 clear hcl59 hcc59 hfr59 hM59 HP59
 refine start_ (n := 12) (S := fun w' => w'.cell? ⟨gb334, 0, none⟩ = some (.int .i8 t316) ∧ w'.cell? ⟨gb334, 1, none⟩ = some (.int .i8 t317) ∧ w'.cell? ⟨gb334, 2, none⟩ = some (.slice Ao19 t318.length co19) ∧ w'.cell? ⟨gb334, 3, none⟩ = some (.slice Ao48 x335003_1.length co48) ∧ w'.cell? ⟨gb334, 4, none⟩ = some (.slice (some ⟨go51, 0, none⟩) x335004_2.length co57) ∧ w'.cell? ⟨go51, ((x12_2).toNat * 2), none⟩ = some (.int .i8 ((rd_T74 x335004_2 x12_2).f0)) ∧ w'.cell? ⟨go51, ((x12_2).toNat * 2) + 1, none⟩ = some (.int .i8 ((rd_T74 x335004_2 x12_2).f1))) (ds := [11]) (zq 12 0) (by kernel_rfl) rfl rfl ⟨(blk_cell BK334.out 0).trans rfl, (blk_cell BK334.out 1).trans rfl, (blk_cell BK334.out 2).trans rfl, (blk_cell BK334.out 3).trans rfl, (blk_cell BK334.out 4).trans rfl, hx339_0, hx339_1⟩ (fun hHeld => ?_); refine with_tabW spec_MoveMachine.tab16 spec_MoveMachine.bits16 (fun HT_ HW_ => ?_)
 generalize wr.drew = w58 at HO_323002 HO_335002 HO_335003 HO_335004 BK313 BK314 BK322 BK334 HB GG51 HQ59 hf51_0 hf51_1 hx339_0 hx339_1 hx51_0 hx51_1 hHeld ⊢
 refine zpu 0 (some 71) (zq 12 1) HT_ ?_
 refine zpu 2 (some 73) (zq 12 5) HT_ ?_
 refine zpu 6 (some 77) (zq 12 69) HT_ ?_
 refine zpu 7 (some 78) (zq 12 197) HT_ ?_
 refine ztk 1 (some 72) (zq 12 199) HT_ HW_ rfl hHeld (Or.inl ⟨by rfl, by (rintro w' ⟨s0, s1, s2, s3, s4, s5, s6⟩; go_simp; with_reducible rfl)⟩) ?_
 refine zpu 3 (some 74) (zq 12 207) HT_ ?_
 refine zpu 4 (some 75) (zq 12 223) HT_ ?_
 refine zpu 9 (some 80) (zq 12 735) HT_ ?_
 refine ztk 5 (some 76) (zq 12 767) HT_ HW_ rfl hHeld (Or.inl ⟨by rfl, by (rintro w' ⟨s0, s1, s2, s3, s4, s5, s6⟩; go_simp; with_reducible rfl)⟩) ?_
 refine zpu 8 (some 79) (zq 12 1023) HT_ ?_
 refine zpu 10 (some 81) (zq 12 2047) HT_ ?_
 refine last_ (i := 11) (N := none) (zq 12 4095) rfl rfl (one_of HT_.out (by kernel_rfl)) (by decide) (fun K hK => ?_)
 refine skip_ (w1 := ?_) (by rfl) rfl ?_ ?_
 rotate_left
 ·go_simp
  rfl
 refine hK.out _ _ ?_
 clear hK K
 refine done_ (done_of HT_.out (by kernel_rfl)) ?_
 try go_wp2
 have n0_ : Aside0 (Kd.R k91 91 (w58.setCell ⟨go51, (x12_2 : Int).toNat * 2, none⟩ (.int .i8 (IntKind.i8.wrap (((rd_T74 x335004_2 x12_2).f0) + (IntKind.i8.wrap (a1)))))) w.heap.size (fun _ => True) (.slice Ao19 t318.length co19) t318) := ⟨by (with_reducible repeat (first | apply Kd.R_alloc | apply Kd.R_drewN | apply Kd.R_drew)); exact Kd.R_mono (Kd.R_far (p := ⟨go51, (x12_2 : Int).toNat * 2, none⟩) (Kd.R_types HO_323002.out GG51.out (by decide)) (fun _ hk => hk.2) (.int .i8 (IntKind.i8.wrap (((rd_T74 x335004_2 x12_2).f0) + (IntKind.i8.wrap (a1)))))) (fun _ hk => trivial)⟩
 have n1_ : Aside0 (Kd.R k91 91 (w58.setCell ⟨go51, (x12_2 : Int).toNat * 2, none⟩ (.int .i8 (IntKind.i8.wrap (((rd_T74 x335004_2 x12_2).f0) + (IntKind.i8.wrap (a1)))))) w.heap.size (fun _ => True) (.slice Ao19 t318.length co19) t318) := ⟨by (with_reducible repeat (first | apply Kd.R_alloc | apply Kd.R_drewN | apply Kd.R_drew)); exact Kd.R_mono (Kd.R_far (p := ⟨go51, (x12_2 : Int).toNat * 2, none⟩) (Kd.R_types HO_335002.out GG51.out (by decide)) (fun _ hk => hk.2) (.int .i8 (IntKind.i8.wrap (((rd_T74 x335004_2 x12_2).f0) + (IntKind.i8.wrap (a1)))))) (fun _ hk => trivial)⟩
 have n2_ : Aside0 (Kd.R k116 116 (w58.setCell ⟨go51, (x12_2 : Int).toNat * 2, none⟩ (.int .i8 (IntKind.i8.wrap (((rd_T74 x335004_2 x12_2).f0) + (IntKind.i8.wrap (a1)))))) w.heap.size (fun _ => True) (.slice Ao48 x335003_1.length co48) x335003_1) := ⟨by (with_reducible repeat (first | apply Kd.R_alloc | apply Kd.R_drewN | apply Kd.R_drew)); exact Kd.R_mono (Kd.R_far (p := ⟨go51, (x12_2 : Int).toNat * 2, none⟩) (Kd.R_types HO_335003.out GG51.out (by decide)) (fun _ hk => hk.2) (.int .i8 (IntKind.i8.wrap (((rd_T74 x335004_2 x12_2).f0) + (IntKind.i8.wrap (a1)))))) (fun _ hk => trivial)⟩
 have n3_ : Aside0 (Kd.R k74 74 (w58.setCell ⟨go51, (x12_2 : Int).toNat * 2, none⟩ (.int .i8 (IntKind.i8.wrap (((rd_T74 x335004_2 x12_2).f0) + (IntKind.i8.wrap (a1)))))) w.heap.size (fun _ => True) (.slice (some ⟨go51, 0, none⟩) x335004_2.length co57) y340) := ⟨HQ59.out⟩
 have n4_ : Aside0 ((w58.setCell ⟨go51, (x12_2 : Int).toNat * 2, none⟩ (.int .i8 (IntKind.i8.wrap (((rd_T74 x335004_2 x12_2).f0) + (IntKind.i8.wrap (a1)))))).heap[gb313]? = some (.cells #[.int .i8 a0_0, .int .i8 a0_1, .slice A0_2 l0_2.length c0_2, .slice A0_3 l0_3.length c0_3, .slice A0_4 l0_4.length c0_4] 41 (0, 0))) := ⟨(zf BK313 ⟨by have h_ := Kd.R_ne HO_335004.out BK313.out (by decide); intro e_; exact h_ (by rw [e_]; rfl)⟩).out⟩
 have n5_ : Aside0 ((w58.setCell ⟨go51, (x12_2 : Int).toNat * 2, none⟩ (.int .i8 (IntKind.i8.wrap (((rd_T74 x335004_2 x12_2).f0) + (IntKind.i8.wrap (a1)))))).heap[gb314]? = some (.cells #[.int .i8 0, .int .i8 0, .slice none 0 0, .slice none 0 0, .slice none 0 0] 41 (0, 0))) := ⟨(zf BK314 ⟨by have h_ := Kd.R_ne HO_335004.out BK314.out (by decide); intro e_; exact h_ (by rw [e_]; rfl)⟩).out⟩
 have n6_ : Aside0 ((w58.setCell ⟨go51, (x12_2 : Int).toNat * 2, none⟩ (.int .i8 (IntKind.i8.wrap (((rd_T74 x335004_2 x12_2).f0) + (IntKind.i8.wrap (a1)))))).heap[gb322]? = some (.cells #[.int .i8 t316, .int .i8 t317, .slice Ao19 t318.length co19] 37 (0, 0))) := ⟨(zf BK322 ⟨by have h_ := Kd.R_ne HO_335004.out BK322.out (by decide); intro e_; exact h_ (by rw [e_]; rfl)⟩).out⟩
 have n7_ : Aside0 ((w58.setCell ⟨go51, (x12_2 : Int).toNat * 2, none⟩ (.int .i8 (IntKind.i8.wrap (((rd_T74 x335004_2 x12_2).f0) + (IntKind.i8.wrap (a1)))))).heap[gb334]? = some (.cells #[.int .i8 t316, .int .i8 t317, .slice Ao19 t318.length co19, .slice Ao48 x335003_1.length co48, .slice (some ⟨go51, 0, none⟩) x335004_2.length co57] 41 (0, 0))) := ⟨(zf BK334 ⟨by have h_ := Kd.R_ne HO_335004.out BK334.out (by decide); intro e_; exact h_ (by rw [e_]; rfl)⟩).out⟩
 have n8_ : Aside0 (Below w.heap.size w (w58.setCell ⟨go51, (x12_2 : Int).toNat * 2, none⟩ (.int .i8 (IntKind.i8.wrap (((rd_T74 x335004_2 x12_2).f0) + (IntKind.i8.wrap (a1))))))) := zba
 (try clear HO_323002)
 (try clear HO_335002)
 (try clear HO_335003)
 (try clear HO_335004)
 (try clear BK313)
 (try clear BK314)
 (try clear BK322)
 (try clear BK334)
 (try clear HB)
 generalize (w58.setCell ⟨go51, (x12_2 : Int).toNat * 2, none⟩ (.int .i8 (IntKind.i8.wrap (((rd_T74 x335004_2 x12_2).f0) + (IntKind.i8.wrap (a1)))))) = w60 at n0_ n1_ n2_ n3_ n4_ n5_ n6_ n7_ n8_ ⊢
 have HO_323002 := n0_
 have HO_335002 := n1_
 have HO_335003 := n2_
 have HO_335004 := n3_
 have BK313 := n4_
 have BK314 := n5_
 have BK322 := n6_
 have BK334 := n7_
 have HB := n8_
 clear n0_ n1_ n2_ n3_ n4_ n5_ n6_ n7_ n8_
 have n_ : _ ∧ _ ∧ _ ∧ _ ∧ _ ∧ _ ∧ _ ∧ _ ∧ _ := ⟨Aside0.mk (Kd.R_drew HO_323002.out), Aside0.mk (Kd.R_drew HO_335002.out), Aside0.mk (Kd.R_drew HO_335003.out), Aside0.mk (Kd.R_drew HO_335004.out), Aside0.mk (blk_drew BK313.out), Aside0.mk (blk_drew BK314.out), Aside0.mk (blk_drew BK322.out), Aside0.mk (blk_drew BK334.out), Aside0.mk (below_drew1 HB.out)⟩
 clear HO_323002 HO_335002 HO_335003 HO_335004 BK313 BK314 BK322 BK334 HB
 obtain ⟨HO_323002, HO_335002, HO_335003, HO_335004, BK313, BK314, BK322, BK334, HB⟩ := n_
 have p341 : 0 ≤ (x12_2 : Int) := of_decide_eq_true zA
 have q341 : x12_2 < (y340.length : Int) := (by have h_ : (x12_2 : Int) < ((x335004_2.length : Int) : Int) := of_decide_eq_true zA; first | (have e_ := (Kd.R_reads' HO_335004.out).1; omega) | simpa only [Ny340.out, List.length_set] using h_)
 have ql341 : ((x12_2 : Int) < ((x335004_2.length : Int) : Int)) = True := eq_true (of_decide_eq_true zA)
 obtain ⟨ad341, e341, hx341_0, hx341_1⟩ := at_T74 (Kd.R_reads' HO_335004.out).2.2 x12_2 p341 q341
 obtain rfl : (⟨go51, 0, none⟩ : Addr) = ad341 := (by injection e341)
 (first | simp only [add_plain] at hx341_0 | simp only [add_at] at hx341_0 | simp only [Addr.add, Nat.zero_add] at hx341_0 | skip)
 (first | simp only [add_plain] at hx341_1 | simp only [add_at] at hx341_1 | simp only [Addr.add, Nat.zero_add] at hx341_1 | skip)
 replace p341 := eq_true p341
 replace q341 := eq_true q341
 have p52 : 0 ≤ (x12_2 : Int) := of_decide_eq_true zA
 have q52 : (x12_2 : Int) < ((x335004_2.length : Int) : Int) := of_decide_eq_true zA
 obtain ⟨ce52, hcl52, hM52, hcc52, hfr52⟩ := Kd.R_elem HO_335004.out z74 (x12_2 : Int) p52 q52
 obtain rfl := k74_openM hM52
 have hx52_0 : World.cell? _ ⟨go51, (x12_2 : Int).toNat * 2, none⟩ = some (.int .i8 ((rd_T74 y340 x12_2).f0)) := hcc52 0 _ rfl
 have hx52_1 : World.cell? _ ⟨go51, (x12_2 : Int).toNat * 2 + 1, none⟩ = some (.int .i8 ((rd_T74 y340 x12_2).f1)) := hcc52 1 _ rfl
 have hf52_0 : World.frozen? _ ⟨go51, (x12_2 : Int).toNat * 2, none⟩ = false := hfr52 0
 have hf52_1 : World.frozen? _ ⟨go51, (x12_2 : Int).toNat * 2 + 1, none⟩ = false := hfr52 1
 clear hcl52 hcc52 hfr52 hM52
 clear GG51
 obtain ⟨_, hgg52x⟩ := Kd.R_typed HO_335004.out go51 rfl
 have GG51 := Aside0.mk hgg52x
 clear hgg52x
 replace p52 := eq_true p52
 replace q52 := eq_true q52
 obtain ⟨ce62, hcl62, hM62, hcc62, hfr62⟩ := Kd.R_elem HO_335004.out z74 (x12_2 : Int) (of_decide_eq_true zA) (zlt (x12_2 : Int) (x335004_2.length : Int) (Kd.R_reads' HO_335004.out).1)
 obtain rfl := k74_openM hM62
 have HP62 := (Kd.R_seg HO_335004.out (x12_2 : Int) (of_decide_eq_true zA) (zlt (x12_2 : Int) (x335004_2.length : Int) (Kd.R_reads' HO_335004.out).1) (seg := [.int .i8 (IntKind.i8.wrap (((rd_T74 y340 x12_2).f1) + (IntKind.i8.wrap (a2))))]) (j := 1) hcl62 hcc62 (show 2 ≤ 2 from by decide) (x' := (⟨(rd_T74 y340 x12_2).f0, IntKind.i8.wrap (((rd_T74 y340 x12_2).f1) + (IntKind.i8.wrap (a2)))⟩ : S74)) (k74_mkM _ _ _ (⟨(rd_T74 y340 x12_2).f0, IntKind.i8.wrap (((rd_T74 y340 x12_2).f1) + (IntKind.i8.wrap (a2)))⟩ : S74) ) (fun _ hk => hk)).1
 rw [← Ny342.out] at HP62
 have HQ62 := Aside0.mk HP62
 clear hcl62 hcc62 hfr62 hM62 HP62
 refine start_ (n := 12) (S := fun w' => w'.cell? ⟨gb334, 0, none⟩ = some (.int .i8 t316) ∧ w'.cell? ⟨gb334, 1, none⟩ = some (.int .i8 t317) ∧ w'.cell? ⟨gb334, 2, none⟩ = some (.slice Ao19 t318.length co19) ∧ w'.cell? ⟨gb334, 3, none⟩ = some (.slice Ao48 x335003_1.length co48) ∧ w'.cell? ⟨gb334, 4, none⟩ = some (.slice (some ⟨go51, 0, none⟩) x335004_2.length co57) ∧ w'.cell? ⟨go51, (x12_2).toNat * 2, none⟩ = some (.int .i8 ((rd_T74 y340 x12_2).f0)) ∧ w'.cell? ⟨go51, (x12_2).toNat * 2 + 1, none⟩ = some (.int .i8 ((rd_T74 y340 x12_2).f1))) (ds := [11]) (zq 12 0) (by kernel_rfl) rfl rfl ⟨(blk_cell BK334.out 0).trans rfl, (blk_cell BK334.out 1).trans rfl, (blk_cell BK334.out 2).trans rfl, (blk_cell BK334.out 3).trans rfl, (blk_cell BK334.out 4).trans rfl, hx341_0, hx341_1⟩ (fun hHeld => ?_); refine with_tabW spec_MoveMachine.tab17 spec_MoveMachine.bits17 (fun HT_ HW_ => ?_)
 generalize w60.drew = w61 at HO_323002 HO_335002 HO_335003 HO_335004 BK313 BK314 BK322 BK334 HB GG51 HQ59 HQ62 hf52_0 hf52_1 hx341_0 hx341_1 hx52_0 hx52_1 hHeld ⊢
 refine zpu 0 (some 82) (zq 12 1) HT_ ?_
 refine zpu 2 (some 84) (zq 12 5) HT_ ?_
 refine zpu 6 (some 88) (zq 12 69) HT_ ?_
 refine zpu 7 (some 89) (zq 12 197) HT_ ?_
 refine ztk 1 (some 83) (zq 12 199) HT_ HW_ rfl hHeld (Or.inl ⟨by rfl, by (rintro w' ⟨s0, s1, s2, s3, s4, s5, s6⟩; go_simp; with_reducible rfl)⟩) ?_
 refine zpu 3 (some 85) (zq 12 207) HT_ ?_
 refine zpu 4 (some 86) (zq 12 223) HT_ ?_
 refine zpu 9 (some 91) (zq 12 735) HT_ ?_
 refine ztk 5 (some 87) (zq 12 767) HT_ HW_ rfl hHeld (Or.inl ⟨by rfl, by (rintro w' ⟨s0, s1, s2, s3, s4, s5, s6⟩; go_simp; with_reducible rfl)⟩) ?_
 refine zpu 8 (some 90) (zq 12 1023) HT_ ?_
 refine zpu 10 (some 92) (zq 12 2047) HT_ ?_
 refine last_ (i := 11) (N := none) (zq 12 4095) rfl rfl (one_of HT_.out (by kernel_rfl)) (by decide) (fun K hK => ?_)
 refine skip_ (w1 := ?_) (by rfl) rfl ?_ ?_
 rotate_left
 ·go_simp
  rfl
 refine hK.out _ _ ?_
 clear hK K
 refine done_ (done_of HT_.out (by kernel_rfl)) ?_
 try go_wp2
 go_roundg k2
 case measure => have := HK1.out; have := HK2.out; omega
 case rel => exact ⟨(wrap64 (x12_2 + 1)), (y342), (.slice (some ⟨go51, 0, none⟩) x335004_2.length co57), zi, H', ⟨by have := HK1.out; have := HK2.out; omega⟩, ⟨by (with_reducible repeat (first | apply Kd.R_alloc | apply Kd.R_drewN | apply Kd.R_drew)); exact Kd.R_mono (Kd.R_far (p := ⟨go51, (x12_2 : Int).toNat * 2 + 1, none⟩) (Kd.R_types HO_323002.out GG51.out (by decide)) (fun _ hk => hk.2) (.int .i8 (IntKind.i8.wrap (((rd_T74 y340 x12_2).f1) + (IntKind.i8.wrap (a2)))))) (fun _ hk => trivial)⟩, ⟨by (with_reducible repeat (first | apply Kd.R_alloc | apply Kd.R_drewN | apply Kd.R_drew)); exact Kd.R_mono (Kd.R_far (p := ⟨go51, (x12_2 : Int).toNat * 2 + 1, none⟩) (Kd.R_types HO_335002.out GG51.out (by decide)) (fun _ hk => hk.2) (.int .i8 (IntKind.i8.wrap (((rd_T74 y340 x12_2).f1) + (IntKind.i8.wrap (a2)))))) (fun _ hk => trivial)⟩, ⟨by (with_reducible repeat (first | apply Kd.R_alloc | apply Kd.R_drewN | apply Kd.R_drew)); exact Kd.R_mono (Kd.R_far (p := ⟨go51, (x12_2 : Int).toNat * 2 + 1, none⟩) (Kd.R_types HO_335003.out GG51.out (by decide)) (fun _ hk => hk.2) (.int .i8 (IntKind.i8.wrap (((rd_T74 y340 x12_2).f1) + (IntKind.i8.wrap (a2)))))) (fun _ hk => trivial)⟩, ⟨HQ62.out⟩, ⟨(zf BK313 ⟨by have h_ := Kd.R_ne HO_335004.out BK313.out (by decide); intro e_; exact h_ (by rw [e_]; rfl)⟩).out⟩, ⟨(zf BK314 ⟨by have h_ := Kd.R_ne HO_335004.out BK314.out (by decide); intro e_; exact h_ (by rw [e_]; rfl)⟩).out⟩, ⟨(zf BK322 ⟨by have h_ := Kd.R_ne HO_335004.out BK322.out (by decide); intro e_; exact h_ (by rw [e_]; rfl)⟩).out⟩, ⟨(zf BK334 ⟨by have h_ := Kd.R_ne HO_335004.out BK334.out (by decide); intro e_; exact h_ (by rw [e_]; rfl)⟩).out⟩, zba⟩
end Go.Proofs.Ytffnfpnajkgnaaa.PFnExactMoveMachine
