-- WRITTEN by xprint.py, a program of this session's. Not trusted: Lean checks it.
-- packed by pack.py
import Derived.Test.YtffnfpnajkgnaaaPFnExactMoveMachinex0
import Derived.Test.YtffnfpnajkgnaaaPFnExactMoveMachinex14
import Derived.Test.YtffnfpnajkgnaaaTFnExactMoveMachinea
namespace Go.Proofs.Ytffnfpnajkgnaaa.PFnExactMoveMachine
open Go.RowKit Go.Proofs.YtffnfpnajkgnaaaW.PrintWords Go.Proofs.YtffnfpnajkgnaaaW.PrintLast Go.Proofs.YtffnfpnajkgnaaaW.PrintMore Go.Proofs.YtffnfpnajkgnaaaX
attribute [local go_sem] max2_int min2_int max_two min_two max_three min_three max_four min_four   -- for this text's walks alone
set_option maxHeartbeats 8000000
set_option maxRecDepth 100000
set_option linter.unusedVariables false
set_option linter.unusedSimpArgs false

def impl_Port_162.f (l0 : List (S116)) : Option ((List (S116))) := (some (([] : List (S116)) : List (S116))).bind fun y405 => (if y405.length + l0.length < 46912496118442 then (some (y405 ++ l0)) else (none))
theorem impl_Port_162.calls (A0 : Option Addr) (c0 : Nat) (l0 : List (S116)) (r : List (S116)) (w : World) (hr0 : Kd.C k116 w A0 l0.length l0) (hc0 : l0.length ≤ c0) (h : impl_Port_162.f l0 = some r) :
    Calls Try.prog 162 #[.slice A0 l0.length c0] w fun e w' => ∃ v0_ : Value, e = .returned (v0_) ∧ Kd.R k116 116 w' w.heap.size (fun _ => True) v0_ r ∧ Below w.heap.size w w' := by
 rcases A0 with _ | ad0
 ·have hl : l0 = [] := List.eq_nil_iff_length_eq_zero.2 (by rcases Nat.eq_zero_or_pos l0.length with h0 | h0; exact h0; obtain ⟨ad, e, _⟩ := hr0.2.2 h0; cases e)
  subst hl
  obtain rfl : r = [] := by simpa [impl_Port_162.f] using h.symm
  have hn_ := fun W : World => Lib.run_eql_slice_nil W 38 _ none 0 c0 0 0 Try.underlying38
  go_enter Try.func162, Try.ntmps162
  go_wp2
  go_ret
  exact ⟨_, rfl, Kd.R_nil _ _ _ _ _, Below.refl _ _⟩
 have hn_ := fun W : World => Lib.run_eql_slice_nil W 38 _ (some ad0) l0.length c0 0 0 Try.underlying38
 have HR0 := Aside0.mk hr0
 have HC0 := Aside0.mk hc0
 clear hr0 hc0
 have HB := Aside0.mk (Below.refl w.heap.size w)
 have H : ((some (([] : List (S116)) : List (S116))).bind fun y405 => (if y405.length + l0.length < 46912496118442 then (some (y405 ++ l0)) else (none))) = some r := h
 clear h
 obtain ⟨y405, hy405⟩ : ∃ y_ : List (S116), y_ = (([] : List (S116))) := ⟨_, rfl⟩
 replace H : (if y405.length + l0.length < 46912496118442 then (some (y405 ++ l0)) else (none)) = some r := by first | (rw [hy405]; with_reducible exact H) | (have H2_ := (Option.bind_some _ _).symm.trans H; rw [hy405]; with_reducible exact H2_) | (have H2_ := (Option.bind_some _ _).symm.trans H; with_reducible exact H2_) | with_reducible exact H | (rw [hy405]; exact H) | exact H
 have Ny405 := Aside0.mk hy405
 clear hy405
 by_cases c2 : y405.length + l0.length < 46912496118442
 rotate_left
 ·rw [if_neg c2] at H
  exact absurd H (by simp)
 rw [if_pos c2] at H
 have LMc2 := Aside0.mk c2
 clear c2
 obtain ⟨y408, hy408⟩ : ∃ y_ : List (S116), y_ = (y405 ++ l0) := ⟨_, rfl⟩
 replace H : (some y408) = some r := by first | (rw [hy408]; with_reducible exact H) | (have H2_ := (Option.bind_some _ _).symm.trans H; rw [hy408]; with_reducible exact H2_) | (have H2_ := (Option.bind_some _ _).symm.trans H; with_reducible exact H2_) | with_reducible exact H | (rw [hy408]; exact H) | exact H
 have Ny408 := Aside0.mk hy408
 clear hy408
 obtain rfl := Option.some.inj H
 go_enter Try.func162, Try.ntmps162
 go_wp2_with (first | ((with_reducible refine gate_dst (N := 5) rfl ?_); refine Kd.R_lit k116 _ 116 ?hg (N := 5) ?hd (xs := ([] : List (S116))) (inner := []) (ok := fun _ => True) (okp := fun _ => True) ?hr ?hp (fun _ hk => hk) trivial (Below.refl _ _) (Nat.le_refl _) (by simp) ?_; (case hd => rfl); (case hg => rfl); (case hr => exact zgs); (case hp => exact (Reps.none _ _)); intro v406 w3 ho4 hb hg_ hnew_; clear hg_ hnew_; (first | rw [← Ny405.out] at ho4 | (simp only [Int.reduceToNat] at ho4; rw [← Ny405.out] at ho4)); have n_ : _ ∧ _ := ⟨Aside0.mk (Kd.R_lower ho4 (zz HB)), zb HB hb⟩; clear HB; obtain ⟨HO407, HB⟩ := n_; clear hb ho4) | ((with_reducible refine gate_builtin (b := .append) (xs := #[.tmp 5, .tmp 6]) rfl ?_); at_builtin; refine Kd.R_append_rows k116 (w0 := w) w.heap.size rfl (.tmp 5) (.tmp 6) 38 116 (.agg #[(.int .i8 0), (.int .i8 0), (.int .i8 0)]) 3 rfl Try.underlying38 info116 rfl (by decide) (by omega) v406 y405 l0 _ _ _ (fun _ => True) (fun _ => False) rfl rfl ?aO ?aR (fun _ _ h => h) (fun _ h => h.elim) ?aF ?aB ?aS ?aL ?_; (case aR => exact zcc HB HR0.out); (case aB => exact (zl HB).out); (case aF => exact (fun _ _ => trivial)); (case aO => exact (ze HO407).out); (case aS => exact (zz HB)); (case aL => have := LMc2.out; omega); intro v409 w5 ho hb hg hat; rw [← Ny408.out] at ho; have n_ : _ ∧ _ := ⟨Aside0.mk (hb), Aside0.mk (ho)⟩; clear HB HO407; obtain ⟨HB, HO410⟩ := n_; clear ho hb hg hat))
 go_ret
 exact ⟨_, zv, by (with_reducible repeat (first | apply Kd.R_alloc | apply Kd.R_drewN | apply Kd.R_drew)); exact HO410.out, zbo⟩
def impl_Cell_163.f (l0 : List (S74)) : Option ((List (S74))) := (some (([] : List (S74)) : List (S74))).bind fun y411 => (if y411.length + l0.length < 70368744177664 then (some (y411 ++ l0)) else (none))
theorem impl_Cell_163.calls (A0 : Option Addr) (c0 : Nat) (l0 : List (S74)) (r : List (S74)) (w : World) (hr0 : Kd.C k74 w A0 l0.length l0) (hc0 : l0.length ≤ c0) (h : impl_Cell_163.f l0 = some r) :
    Calls Try.prog 163 #[.slice A0 l0.length c0] w fun e w' => ∃ v0_ : Value, e = .returned (v0_) ∧ Kd.R k74 74 w' w.heap.size (fun _ => True) v0_ r ∧ Below w.heap.size w w' := by
 rcases A0 with _ | ad0
 ·have hl : l0 = [] := List.eq_nil_iff_length_eq_zero.2 (by rcases Nat.eq_zero_or_pos l0.length with h0 | h0; exact h0; obtain ⟨ad, e, _⟩ := hr0.2.2 h0; cases e)
  subst hl
  obtain rfl : r = [] := by simpa [impl_Cell_163.f] using h.symm
  have hn_ := fun W : World => Lib.run_eql_slice_nil W 39 _ none 0 c0 0 0 Try.underlying39
  go_enter Try.func163, Try.ntmps163
  go_wp2
  go_ret
  exact ⟨_, rfl, Kd.R_nil _ _ _ _ _, Below.refl _ _⟩
 have hn_ := fun W : World => Lib.run_eql_slice_nil W 39 _ (some ad0) l0.length c0 0 0 Try.underlying39
 have HR0 := Aside0.mk hr0
 have HC0 := Aside0.mk hc0
 clear hr0 hc0
 have HB := Aside0.mk (Below.refl w.heap.size w)
 have H : ((some (([] : List (S74)) : List (S74))).bind fun y411 => (if y411.length + l0.length < 70368744177664 then (some (y411 ++ l0)) else (none))) = some r := h
 clear h
 obtain ⟨y411, hy411⟩ : ∃ y_ : List (S74), y_ = (([] : List (S74))) := ⟨_, rfl⟩
 replace H : (if y411.length + l0.length < 70368744177664 then (some (y411 ++ l0)) else (none)) = some r := by first | (rw [hy411]; with_reducible exact H) | (have H2_ := (Option.bind_some _ _).symm.trans H; rw [hy411]; with_reducible exact H2_) | (have H2_ := (Option.bind_some _ _).symm.trans H; with_reducible exact H2_) | with_reducible exact H | (rw [hy411]; exact H) | exact H
 have Ny411 := Aside0.mk hy411
 clear hy411
 by_cases c2 : y411.length + l0.length < 70368744177664
 rotate_left
 ·rw [if_neg c2] at H
  exact absurd H (by simp)
 rw [if_pos c2] at H
 have LMc2 := Aside0.mk c2
 clear c2
 obtain ⟨y414, hy414⟩ : ∃ y_ : List (S74), y_ = (y411 ++ l0) := ⟨_, rfl⟩
 replace H : (some y414) = some r := by first | (rw [hy414]; with_reducible exact H) | (have H2_ := (Option.bind_some _ _).symm.trans H; rw [hy414]; with_reducible exact H2_) | (have H2_ := (Option.bind_some _ _).symm.trans H; with_reducible exact H2_) | with_reducible exact H | (rw [hy414]; exact H) | exact H
 have Ny414 := Aside0.mk hy414
 clear hy414
 obtain rfl := Option.some.inj H
 go_enter Try.func163, Try.ntmps163
 go_wp2_with (first | ((with_reducible refine gate_dst (N := 5) rfl ?_); refine Kd.R_lit k74 _ 74 ?hg (N := 5) ?hd (xs := ([] : List (S74))) (inner := []) (ok := fun _ => True) (okp := fun _ => True) ?hr ?hp (fun _ hk => hk) trivial (Below.refl _ _) (Nat.le_refl _) (by simp) ?_; (case hd => rfl); (case hg => rfl); (case hr => exact zgs); (case hp => exact (Reps.none _ _)); intro v412 w3 ho4 hb hg_ hnew_; clear hg_ hnew_; (first | rw [← Ny411.out] at ho4 | (simp only [Int.reduceToNat] at ho4; rw [← Ny411.out] at ho4)); have n_ : _ ∧ _ := ⟨Aside0.mk (Kd.R_lower ho4 (zz HB)), zb HB hb⟩; clear HB; obtain ⟨HO413, HB⟩ := n_; clear hb ho4) | ((with_reducible refine gate_builtin (b := .append) (xs := #[.tmp 5, .tmp 6]) rfl ?_); at_builtin; refine Kd.R_append_rows k74 (w0 := w) w.heap.size rfl (.tmp 5) (.tmp 6) 39 74 (.agg #[(.int .i8 0), (.int .i8 0)]) 2 rfl Try.underlying39 info74 rfl (by decide) (by omega) v412 y411 l0 _ _ _ (fun _ => True) (fun _ => False) rfl rfl ?aO ?aR (fun _ _ h => h) (fun _ h => h.elim) ?aF ?aB ?aS ?aL ?_; (case aR => exact zcc HB HR0.out); (case aB => exact (zl HB).out); (case aF => exact (fun _ _ => trivial)); (case aO => exact (ze HO413).out); (case aS => exact (zz HB)); (case aL => have := LMc2.out; omega); intro v415 w5 ho hb hg hat; rw [← Ny414.out] at ho; have n_ : _ ∧ _ := ⟨Aside0.mk (hb), Aside0.mk (ho)⟩; clear HB HO413; obtain ⟨HB, HO416⟩ := n_; clear ho hb hg hat))
 go_ret
 exact ⟨_, zv, by (with_reducible repeat (first | apply Kd.R_alloc | apply Kd.R_drewN | apply Kd.R_drew)); exact HO416.out, zbo⟩
def impl_cloneMachine.f (a0_0 : Int) (a0_1 : Int) (l0_2 : List (S91)) (l0_3 : List (S116)) (l0_4 : List (S74)) : Option (Int × Int × (List (S91)) × (List (S116)) × (List (S74))) := (impl_Piece_113.f l0_2).bind fun t411 => ((impl_Board_with.f [(⟨a0_0, a0_1, l0_2⟩ : S37)] t411).bind fun bt414 => ((impl_Port_162.f l0_3).bind fun t419 => ((impl_Cell_163.f l0_4).bind fun t422 => (some (bt414.1, bt414.2, t411, t419, t422)))))
def impl_cloneMachine.T1 : Bool × List (List Nat × List Nat) := (true, [([], []), ([], []), ([1], [1]), ([2], [2]), ([3], [3]), ([0, 4, 4], [0, 4]), ([], []), ([6], [6]), ([7, 5], [7]), ([], []), ([9], [9]), ([10, 8], [10]), ([5, 8, 11], [5, 8, 11]), ([12, 11, 0, 1, 2, 3, 4, 5, 6, 7, 8, 9, 10, 11, 12], [12])])
def impl_cloneMachine.B1 : List Nat := [0, 0, 2, 6, 14, 31, 0, 64, 255, 0, 512, 2047, 4095, 8191]
theorem impl_cloneMachine.tab1 : rtab .any (opsOf Try.f101 1) = impl_cloneMachine.T1 := by kernel_rfl
theorem impl_cloneMachine.bits1 : waitsOk impl_cloneMachine.T1.2 impl_cloneMachine.B1 = true := by kernel_rfl
theorem impl_cloneMachine.calls (a0_0 : Int) (a0_1 : Int) (A0_2 : Option Addr) (c0_2 : Nat) (l0_2 : List (S91)) (A0_3 : Option Addr) (c0_3 : Nat) (l0_3 : List (S116)) (A0_4 : Option Addr) (c0_4 : Nat) (l0_4 : List (S74)) (r1 : Int) (r2 : Int) (r3 : List (S91)) (r4 : List (S116)) (r5 : List (S74)) (w : World) (hr0_2 : Kd.C k91 w A0_2 l0_2.length l0_2) (hc0_2 : l0_2.length ≤ c0_2) (hr0_3 : Kd.C k116 w A0_3 l0_3.length l0_3) (hc0_3 : l0_3.length ≤ c0_3) (hr0_4 : Kd.C k74 w A0_4 l0_4.length l0_4) (hc0_4 : l0_4.length ≤ c0_4) (h : impl_cloneMachine.f a0_0 a0_1 l0_2 l0_3 l0_4 = some (r1, r2, r3, r4, r5)) :
    Calls Try.prog 101 #[.agg #[.int .i8 a0_0, .int .i8 a0_1, .slice A0_2 l0_2.length c0_2, .slice A0_3 l0_3.length c0_3, .slice A0_4 l0_4.length c0_4]] w fun e w' => ∃ v2_ v3_ v4_ : Value, e = .returned (.agg #[.int .i8 r1, .int .i8 r2, v2_, v3_, v4_]) ∧ Kd.R k91 91 w' w.heap.size (fun _ => True) v2_ r3 ∧ Kd.R k116 116 w' w.heap.size (fun _ => True) v3_ r4 ∧ Kd.R k74 74 w' w.heap.size (fun _ => True) v4_ r5 ∧ Below w.heap.size w w' := by
 have hu41 := Try.underlying41
 have HR0_2 := Aside0.mk hr0_2
 have HC0_2 := Aside0.mk hc0_2
 clear hr0_2 hc0_2
 have HR0_3 := Aside0.mk hr0_3
 have HC0_3 := Aside0.mk hc0_3
 clear hr0_3 hc0_3
 have HR0_4 := Aside0.mk hr0_4
 have HC0_4 := Aside0.mk hc0_4
 clear hr0_4 hc0_4
 have HB := Aside0.mk (Below.refl w.heap.size w)
 have H : ((impl_Piece_113.f l0_2).bind fun t411 => ((impl_Board_with.f [(⟨a0_0, a0_1, l0_2⟩ : S37)] t411).bind fun bt414 => ((impl_Port_162.f l0_3).bind fun t419 => ((impl_Cell_163.f l0_4).bind fun t422 => (some (bt414.1, bt414.2, t411, t419, t422)))))) = some (r1, r2, r3, r4, r5) := h
 clear h
 replace H := zob H
 obtain ⟨t411, A20, H⟩ := H
 replace H : ((impl_Board_with.f [(⟨a0_0, a0_1, l0_2⟩ : S37)] t411).bind fun bt414 => ((impl_Port_162.f l0_3).bind fun t419 => ((impl_Cell_163.f l0_4).bind fun t422 => (some (bt414.1, bt414.2, t411, t419, t422))))) = some (r1, r2, r3, r4, r5) := H
 have A2 := Aside0.mk A20
 clear A20
 replace H := zob H
 obtain ⟨⟨t414, t415⟩, A30, H⟩ := H
 replace H : ((impl_Port_162.f l0_3).bind fun t419 => ((impl_Cell_163.f l0_4).bind fun t422 => (some (t414, t415, t411, t419, t422)))) = some (r1, r2, r3, r4, r5) := H
 have A3 := Aside0.mk A30
 clear A30
 replace H := zob H
 obtain ⟨t419, A40, H⟩ := H
 replace H : ((impl_Cell_163.f l0_4).bind fun t422 => (some (t414, t415, t411, t419, t422))) = some (r1, r2, r3, r4, r5) := H
 have A4 := Aside0.mk A40
 clear A40
 replace H := zob H
 obtain ⟨t422, A50, H⟩ := H
 replace H : (some (t414, t415, t411, t419, t422)) = some (r1, r2, r3, r4, r5) := H
 have A5 := Aside0.mk A50
 clear A50
 simp only [Option.some.injEq, Prod.mk.injEq] at H
 obtain ⟨rfl, rfl, rfl, rfl, rfl⟩ := H
 go_enter Try.func101, Try.ntmps101
 try go_wp2_with (first | ((with_reducible refine gate_dst (N := 1) rfl ?_); refine zbx 1 #[.int .i8 a0_0, .int .i8 a0_1, .slice A0_2 l0_2.length c0_2, .slice A0_3 l0_3.length c0_3, .slice A0_4 l0_4.length c0_4] 41 ?_; intro gb409 hg w6 hbox hb; have n_ : _ ∧ _ ∧ _ ∧ _ := ⟨zb HB hb, Aside0.mk (hbox), zg HB hg, zg HB hg⟩; clear HB; obtain ⟨HB, BK409, GW409, GE409⟩ := n_; clear hb hbox hg) | ((with_reducible refine gate_dst (N := 2) rfl ?_); refine zbx 2 #[.int .i8 0, .int .i8 0, .slice none 0 0, .slice none 0 0, .slice none 0 0] 41 ?_; intro gb410 hg w7 hbox hb; have n_ : _ ∧ _ ∧ _ ∧ _ ∧ _ ∧ _ ∧ _ := ⟨zk BK409 hb, zbs hb, Aside0.mk (hbox), zg HB hg, zg HB hg, zn1 BK409 hg, zn2 BK409 hg⟩; clear BK409 HB; obtain ⟨BK409, HB, BK410, GW410, GE410, NB409_410, NB410_409⟩ := n_; clear hb hbox hg))
 have n_ : _ ∧ _ ∧ _ := ⟨Aside0.mk (blk_drew BK409.out), Aside0.mk (blk_drew BK410.out), Aside0.mk (below_drew1 HB.out)⟩
 clear BK409 BK410 HB
 obtain ⟨BK409, BK410, HB⟩ := n_
 refine start_ (n := 14) (S := fun w' => w'.cell? ⟨gb409, 0, none⟩ = some (.int .i8 a0_0) ∧ w'.cell? ⟨gb409, 1, none⟩ = some (.int .i8 a0_1) ∧ w'.cell? ⟨gb409, 2, none⟩ = some (.slice A0_2 l0_2.length c0_2) ∧ w'.cell? ⟨gb409, 3, none⟩ = some (.slice A0_3 l0_3.length c0_3) ∧ w'.cell? ⟨gb409, 4, none⟩ = some (.slice A0_4 l0_4.length c0_4)) (ds := []) (zq 14 0) (by kernel_rfl) rfl rfl ⟨(blk_cell BK409.out 0).trans rfl, (blk_cell BK409.out 1).trans rfl, (blk_cell BK409.out 2).trans rfl, (blk_cell BK409.out 3).trans rfl, (blk_cell BK409.out 4).trans rfl⟩ (fun hHeld => ?_); refine with_tabW impl_cloneMachine.tab1 impl_cloneMachine.bits1 (fun HT_ HW_ => ?_)
 generalize w7.drew = w8 at BK409 BK410 HB hHeld ⊢
 refine zpu 0 (some 3) (zq 14 1) HT_ ?_
 refine zpu 1 (some 4) (zq 14 3) HT_ ?_
 refine zpu 2 (some 5) (zq 14 7) HT_ ?_
 refine zpu 6 (some 9) (zq 14 71) HT_ ?_
 refine zpu 9 (some 12) (zq 14 583) HT_ ?_
 refine ztk 3 (some 6) (zq 14 591) HT_ HW_ rfl hHeld (Or.inl ⟨by rfl, by (rintro w' ⟨s0, s1, s2, s3, s4⟩; go_simp; with_reducible rfl)⟩) ?_
 refine ztk 7 (some 10) (zq 14 719) HT_ HW_ rfl hHeld (Or.inl ⟨by rfl, by (rintro w' ⟨s0, s1, s2, s3, s4⟩; go_simp; with_reducible rfl)⟩) ?_
 refine ztk 10 (some 13) (zq 14 1743) HT_ HW_ rfl hHeld (Or.inl ⟨by rfl, by (rintro w' ⟨s0, s1, s2, s3, s4⟩; go_simp; with_reducible rfl)⟩) ?_
 refine one_ (i := 4) (N := some 7) (zq 14 1759) rfl rfl (one_of HT_.out (by kernel_rfl)) (by decide) (fun K hK => ?_)
 refine goes_ Try.func113 (by kernel_rfl) rfl #[.slice A0_2 l0_2.length c0_2] (by rfl) rfl rfl zm ?_
 with_reducible refine (impl_Piece_113.calls _ _ l0_2 t411 _ ?side1 ?side2 A2.out).mono ?_
 (case side1 => exact zcc HB HR0_2.out)
 (case side2 => exact HC0_2.out)
 rintro e w9 ⟨v412, rfl, ho0, hb⟩
 refine ⟨_, rfl, ?_⟩
 have n_ : _ ∧ _ ∧ _ ∧ _ := ⟨Aside0.mk (Kd.R_lower ho0 (zz HB)), zk BK409 hb, zk BK410 hb, zbs hb⟩
 clear BK409 BK410 HB
 obtain ⟨HO413, BK409, BK410, HB⟩ := n_
 (try clear hb)
 (try clear hb2)
 (try clear hk)
 (try clear hi)
 (try clear ho0)
 obtain ⟨Ao10, co10, eo10⟩ := Kd.R_slice HO413.out
 (first | subst eo10 | (injection eo10 with f1_ f2_ f3_; have f4_ := f1_.symm; have f5_ := f3_.symm; clear f1_ f2_ f3_; subst f4_; subst f5_))
 refine hK.out _ _ ⟨(blk_cell BK409.out 0).trans rfl, (blk_cell BK409.out 1).trans rfl, (blk_cell BK409.out 2).trans rfl, (blk_cell BK409.out 3).trans rfl, (blk_cell BK409.out 4).trans rfl⟩ (fun hHeld => ?_)
 clear hK K
 refine norm_ (a' := ?_) ?_ ?_
 rotate_left
 ·show Act.put _ (some 7) _ = _
  exact zap
 refine one_ (i := 5) (N := some 8) (zq 14 1791) rfl rfl (one_of HT_.out (by kernel_rfl)) (by decide) (fun K hK => ?_)
 refine goes_ Try.func112 (by kernel_rfl) rfl #[.pointer (some ⟨gb409, 0, none⟩), .slice Ao10 t411.length co10] (by rfl) rfl rfl zm ?_
 with_reducible refine (impl_Board_with.calls _ [(⟨a0_0, a0_1, l0_2⟩ : S37)] _ _ t411 t414 t415 _ ?side1 ?side2 ?side3 A3.out).mono ?_
 (case side1 => refine ro_of_part (T := 41) (cs := #[.int .i8 a0_0, .int .i8 a0_1, .slice A0_2 l0_2.length c0_2, .slice A0_3 l0_3.length c0_3, .slice A0_4 l0_4.length c0_4]) (o := 0) (n := 3) (zh BK409).out ?_; exact k37_mk _ (⟨a0_0, a0_1, l0_2⟩ : S37) (by exact HC0_2.out) (by exact zcc HB HR0_2.out))
 (case side2 => exact zrc HO413)
 (case side3 => exact (Kd.R_reads' HO413.out).2.1)
 rintro e w11 ⟨rfl, hb⟩
 refine ⟨_, rfl, ?_⟩
 have n_ : _ ∧ _ ∧ _ ∧ _ := ⟨zr HO413 hb, zk BK409 hb, zk BK410 hb, zbs hb⟩
 clear HO413 BK409 BK410 HB
 obtain ⟨HO413, BK409, BK410, HB⟩ := n_
 (try clear hb)
 (try clear hb2)
 (try clear hk)
 (try clear hi)
 refine hK.out _ _ ⟨(blk_cell BK409.out 0).trans rfl, (blk_cell BK409.out 1).trans rfl, (blk_cell BK409.out 2).trans rfl, (blk_cell BK409.out 3).trans rfl, (blk_cell BK409.out 4).trans rfl⟩ (fun hHeld => ?_)
 clear hK K
 refine norm_ (a' := ?_) ?_ ?_
 rotate_left
 ·show Act.put _ (some 8) _ = _
  exact zap
 refine one_ (i := 8) (N := some 11) (zq 14 2047) rfl rfl (one_of HT_.out (by kernel_rfl)) (by decide) (fun K hK => ?_)
 refine goes_ Try.func162 (by kernel_rfl) rfl #[.slice A0_3 l0_3.length c0_3] (by rfl) rfl rfl zm ?_
 with_reducible refine (impl_Port_162.calls _ _ l0_3 t419 _ ?side1 ?side2 A4.out).mono ?_
 (case side1 => exact zcc HB HR0_3.out)
 (case side2 => exact HC0_3.out)
 rintro e w12 ⟨v420, rfl, ho0, hb⟩
 refine ⟨_, rfl, ?_⟩
 have n_ : _ ∧ _ ∧ _ ∧ _ ∧ _ := ⟨zr HO413 hb, Aside0.mk (Kd.R_lower ho0 (zz HB)), zk BK409 hb, zk BK410 hb, zbs hb⟩
 clear HO413 BK409 BK410 HB
 obtain ⟨HO413, HO421, BK409, BK410, HB⟩ := n_
 (try clear hb)
 (try clear hb2)
 (try clear hk)
 (try clear hi)
 (try clear ho0)
 refine hK.out _ _ ⟨(blk_cell BK409.out 0).trans rfl, (blk_cell BK409.out 1).trans rfl, (blk_cell BK409.out 2).trans rfl, (blk_cell BK409.out 3).trans rfl, (blk_cell BK409.out 4).trans rfl⟩ (fun hHeld => ?_)
 clear hK K
 refine norm_ (a' := ?_) ?_ ?_
 rotate_left
 ·show Act.put _ (some 11) _ = _
  exact zap
 refine one_ (i := 11) (N := some 14) (zq 14 4095) rfl rfl (one_of HT_.out (by kernel_rfl)) (by decide) (fun K hK => ?_)
 refine goes_ Try.func163 (by kernel_rfl) rfl #[.slice A0_4 l0_4.length c0_4] (by rfl) rfl rfl zm ?_
 with_reducible refine (impl_Cell_163.calls _ _ l0_4 t422 _ ?side1 ?side2 A5.out).mono ?_
 (case side1 => exact zcc HB HR0_4.out)
 (case side2 => exact HC0_4.out)
 rintro e w13 ⟨v423, rfl, ho0, hb⟩
 refine ⟨_, rfl, ?_⟩
 have n_ : _ ∧ _ ∧ _ ∧ _ ∧ _ ∧ _ := ⟨zr HO413 hb, zr HO421 hb, Aside0.mk (Kd.R_lower ho0 (zz HB)), zk BK409 hb, zk BK410 hb, zbs hb⟩
 clear HO413 HO421 BK409 BK410 HB
 obtain ⟨HO413, HO421, HO424, BK409, BK410, HB⟩ := n_
 (try clear hb)
 (try clear hb2)
 (try clear hk)
 (try clear hi)
 (try clear ho0)
 obtain ⟨Ao14, co14, eo14⟩ := Kd.R_slice HO424.out
 (first | subst eo14 | (injection eo14 with f1_ f2_ f3_; have f4_ := f1_.symm; have f5_ := f3_.symm; clear f1_ f2_ f3_; subst f4_; subst f5_))
 obtain ⟨Ao15, co15, eo15⟩ := Kd.R_slice HO421.out
 (first | subst eo15 | (injection eo15 with f1_ f2_ f3_; have f4_ := f1_.symm; have f5_ := f3_.symm; clear f1_ f2_ f3_; subst f4_; subst f5_))
 refine hK.out _ _ ⟨(blk_cell BK409.out 0).trans rfl, (blk_cell BK409.out 1).trans rfl, (blk_cell BK409.out 2).trans rfl, (blk_cell BK409.out 3).trans rfl, (blk_cell BK409.out 4).trans rfl⟩ (fun hHeld => ?_)
 clear hK K
 refine norm_ (a' := ?_) ?_ ?_
 rotate_left
 ·show Act.put _ (some 14) _ = _
  exact zap
 refine zpu 12 (some 15) (zq 14 8191) HT_ ?_
 refine one_ (i := 13) (N := none) (zq 14 16383) rfl rfl (one_of HT_.out (by kernel_rfl)) (by decide) (fun K hK => ?_)
 have hs16 : w13.cell? ⟨gb410, 0, none⟩ = some (.int .i8 0) := (blk_cell BK410.out 0).trans rfl
 have hfs16 := blk_frozen BK410.out 0
 have hns16_0 := NB409_410.out
 have hms16_0 := NB410_409.out
 have hs17 : w13.cell? ⟨gb410, 1, none⟩ = some (.int .i8 0) := (blk_cell BK410.out 1).trans rfl
 have hfs17 := blk_frozen BK410.out 1
 have hns17_0 := NB409_410.out
 have hms17_0 := NB410_409.out
 have hs18 : w13.cell? ⟨gb410, 2, none⟩ = some (.slice none 0 0) := (blk_cell BK410.out 2).trans rfl
 have hfs18 := blk_frozen BK410.out 2
 have hns18_0 := NB409_410.out
 have hms18_0 := NB410_409.out
 have hs19 : w13.cell? ⟨gb410, 3, none⟩ = some (.slice none 0 0) := (blk_cell BK410.out 3).trans rfl
 have hfs19 := blk_frozen BK410.out 3
 have hns19_0 := NB409_410.out
 have hms19_0 := NB410_409.out
 have hs20 : w13.cell? ⟨gb410, 4, none⟩ = some (.slice none 0 0) := (blk_cell BK410.out 4).trans rfl
 have hfs20 := blk_frozen BK410.out 4
 have hns20_0 := NB409_410.out
 have hms20_0 := NB410_409.out
 refine skip_ (w1 := ?_) (by rfl) rfl ?_ ?_
 rotate_left
 ·go_simp
  rfl
 refine hK.out _ _ ⟨((cell_far (p := ⟨gb410, _, none⟩) NB409_410.out _).trans (((cell_far (p := ⟨gb410, _, none⟩) NB409_410.out _).trans (((cell_far (p := ⟨gb410, _, none⟩) NB409_410.out _).trans (((cell_far (p := ⟨gb410, _, none⟩) NB409_410.out _).trans (((cell_far (p := ⟨gb410, _, none⟩) NB409_410.out _).trans (hHeld.1)))))))))), ((cell_far (p := ⟨gb410, _, none⟩) NB409_410.out _).trans (((cell_far (p := ⟨gb410, _, none⟩) NB409_410.out _).trans (((cell_far (p := ⟨gb410, _, none⟩) NB409_410.out _).trans (((cell_far (p := ⟨gb410, _, none⟩) NB409_410.out _).trans (((cell_far (p := ⟨gb410, _, none⟩) NB409_410.out _).trans (hHeld.2.1)))))))))), ((cell_far (p := ⟨gb410, _, none⟩) NB409_410.out _).trans (((cell_far (p := ⟨gb410, _, none⟩) NB409_410.out _).trans (((cell_far (p := ⟨gb410, _, none⟩) NB409_410.out _).trans (((cell_far (p := ⟨gb410, _, none⟩) NB409_410.out _).trans (((cell_far (p := ⟨gb410, _, none⟩) NB409_410.out _).trans (hHeld.2.2.1)))))))))), ((cell_far (p := ⟨gb410, _, none⟩) NB409_410.out _).trans (((cell_far (p := ⟨gb410, _, none⟩) NB409_410.out _).trans (((cell_far (p := ⟨gb410, _, none⟩) NB409_410.out _).trans (((cell_far (p := ⟨gb410, _, none⟩) NB409_410.out _).trans (((cell_far (p := ⟨gb410, _, none⟩) NB409_410.out _).trans (hHeld.2.2.2.1)))))))))), ((cell_far (p := ⟨gb410, _, none⟩) NB409_410.out _).trans (((cell_far (p := ⟨gb410, _, none⟩) NB409_410.out _).trans (((cell_far (p := ⟨gb410, _, none⟩) NB409_410.out _).trans (((cell_far (p := ⟨gb410, _, none⟩) NB409_410.out _).trans (((cell_far (p := ⟨gb410, _, none⟩) NB409_410.out _).trans (hHeld.2.2.2.2))))))))))⟩ (fun hHeld => ?_)
 clear hK K
 refine done_ (done_of HT_.out (by kernel_rfl)) ?_
 try go_wp2
 refine bodyPost_ret (results_cell_row rfl _ _ gb410 41 #[.int .i8 t414, .int .i8 t415, .slice Ao10 t411.length co10, .slice Ao15 t419.length co15, .slice Ao14 t422.length co14] (0, 0) _ rfl (zp BK410) Try.underlying41 rfl (by kernel_rfl)) rfl ?_
 exact ⟨_, _, _, zv, Kd.R_mono (zs HO413 BK410).out (fun _ hk => trivial), Kd.R_mono (zs HO421 BK410).out (fun _ hk => trivial), Kd.R_mono (zs HO424 BK410).out (fun _ hk => trivial), zbo⟩
end Go.Proofs.Ytffnfpnajkgnaaa.PFnExactMoveMachine
