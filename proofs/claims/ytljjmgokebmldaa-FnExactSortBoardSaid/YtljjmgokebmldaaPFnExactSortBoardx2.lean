-- WRITTEN by xprint.py, a program of this session's. Not trusted: Lean checks it.
-- packed by pack.py
import Derived.Test.YtljjmgokebmldaaPFnExactSortBoardx0
import Derived.Test.YtljjmgokebmldaaPFnExactSortBoardx1
import Derived.Test.YtljjmgokebmldaaTFnExactSortBoarda
namespace Go.Proofs.Ytljjmgokebmldaa.PFnExactSortBoard
open Go.RowKit Go.Proofs.YtljjmgokebmldaaW.PrintWords Go.Proofs.YtljjmgokebmldaaW.PrintLast Go.Proofs.YtljjmgokebmldaaW.PrintMore Go.Proofs.YtljjmgokebmldaaX
attribute [local go_sem] max2_int min2_int max_two min_two max_three min_three max_four min_four   -- for this text's walks alone
set_option maxHeartbeats 8000000
set_option maxRecDepth 100000
set_option linter.unusedVariables false
set_option linter.unusedSimpArgs false

attribute [local go_sem high] eqA41
def laws_szPieceS.f (l0 : List (S59)) (a1 : Int) : Option (Int) := if (wrap64 (a1 - (l0.length : Int))) < 0 then (some (-1)) else (some (wrap64 (a1 - (l0.length : Int))))
theorem laws_szPieceS.calls (A0 : Option Addr) (c0 : Nat) (l0 : List (S59)) (a1 : Int) (r : Int) (w : World) (hr0 : Kd.C k59 w A0 l0.length l0) (hc0 : l0.length ≤ c0) (h : laws_szPieceS.f l0 a1 = some r) :
    Calls Try.prog 11 #[.slice A0 l0.length c0, .int .i64 a1] w fun e w' => e = .returned (.int .i64 r) ∧ Drawn0 w w' := by
 have HR0 := Aside0.mk hr0
 have HC0 := Aside0.mk hc0
 clear hr0 hc0
 have H : (if (wrap64 (a1 - (l0.length : Int))) < 0 then (some (-1)) else (some (wrap64 (a1 - (l0.length : Int))))) = some r := h
 clear h
 by_cases c3 : (wrap64 (a1 - (l0.length : Int))) < 0
 ·rw [if_pos c3] at H
  have c3b0 : decide ((wrap64 (a1 - (l0.length : Int))) < 0) = true := decide_eq_true c3
  clear c3
  obtain rfl := Option.some.inj H
  go_enter Try.func11, Try.ntmps11
  go_wp2
  go_ret
  exact ⟨zi, zdr⟩
 rw [if_neg c3] at H
 have c3b0 : decide ((wrap64 (a1 - (l0.length : Int))) < 0) = false := decide_eq_false c3
 clear c3
 obtain rfl := Option.some.inj H
 go_enter Try.func11, Try.ntmps11
 go_wp2
 go_ret
 exact ⟨zi, zdr⟩
def laws_szBoard.f (a0_0 : Int) (a0_1 : Int) (l0_2 : List (S59)) (a1 : Int) : Option (Int) := (laws_szPieceS.f l0_2 a1).bind fun t102 => (if t102 < 0 then (some (-1)) else (some t102))
theorem laws_szBoard.calls (a0_0 : Int) (a0_1 : Int) (A0_2 : Option Addr) (c0_2 : Nat) (l0_2 : List (S59)) (a1 : Int) (r : Int) (w : World) (hr0_2 : Kd.C k59 w A0_2 l0_2.length l0_2) (hc0_2 : l0_2.length ≤ c0_2) (h : laws_szBoard.f a0_0 a0_1 l0_2 a1 = some r) :
    Calls Try.prog 4 #[.agg #[.int .i8 a0_0, .int .i8 a0_1, .slice A0_2 l0_2.length c0_2], .int .i64 a1] w fun e w' => e = .returned (.int .i64 r) ∧ Below w.heap.size w w' := by
 have hu25 := Try.underlying25
 have HR0_2 := Aside0.mk hr0_2
 have HC0_2 := Aside0.mk hc0_2
 clear hr0_2 hc0_2
 have HB := Aside0.mk (Below.refl w.heap.size w)
 have H : ((laws_szPieceS.f l0_2 a1).bind fun t102 => (if t102 < 0 then (some (-1)) else (some t102))) = some r := h
 clear h
 replace H := zob H
 obtain ⟨t102, A30, H⟩ := H
 replace H : (if t102 < 0 then (some (-1)) else (some t102)) = some r := H
 have A3 := Aside0.mk A30
 clear A30
 by_cases c4 : t102 < 0
 ·rw [if_pos c4] at H
  have c4b0 : decide (t102 < 0) = true := decide_eq_true c4
  clear c4
  obtain rfl := Option.some.inj H
  go_enter Try.func4, Try.ntmps4
  go_wp2_with (first | ((with_reducible refine gate_dst (N := 2) rfl ?_); refine zbx 2 #[.int .i8 a0_0, .int .i8 a0_1, .slice A0_2 l0_2.length c0_2] 25 ?_; intro gb101 hg w5 hbox hb; have n_ : _ ∧ _ ∧ _ ∧ _ := ⟨zb HB hb, Aside0.mk (hbox), zg HB hg, zg HB hg⟩; clear HB; obtain ⟨HB, BK101, GW101, GE101⟩ := n_; clear hb hbox hg; obtain ⟨z6_0, z6_1, z6_2, y6_0, y6_1, y6_2⟩ := zB3 BK101) | ((with_reducible refine gate_callee (f := 11) rfl ?_); refine goesL_ (some 8) rfl rfl Try.func11 (by kernel_rfl) rfl #[.slice A0_2 l0_2.length c0_2, .int .i64 a1] rfl zm ?_; (with_reducible refine (laws_szPieceS.calls _ _ l0_2 a1 t102 _ ?side1 ?side2 A3.out).mono ?_); (case side1 => exact zcc HB HR0_2.out); (case side2 => exact HC0_2.out); rintro e w' ⟨rfl, ⟨nd, rfl⟩⟩; refine ⟨_, rfl, ?_⟩))
  go_ret
  exact ⟨zv, zbo⟩
 rw [if_neg c4] at H
 have c4b0 : decide (t102 < 0) = false := decide_eq_false c4
 clear c4
 obtain rfl := Option.some.inj H
 go_enter Try.func4, Try.ntmps4
 go_wp2_with (first | ((with_reducible refine gate_dst (N := 2) rfl ?_); refine zbx 2 #[.int .i8 a0_0, .int .i8 a0_1, .slice A0_2 l0_2.length c0_2] 25 ?_; intro gb101 hg w7 hbox hb; have n_ : _ ∧ _ ∧ _ ∧ _ := ⟨zb HB hb, Aside0.mk (hbox), zg HB hg, zg HB hg⟩; clear HB; obtain ⟨HB, BK101, GW101, GE101⟩ := n_; clear hb hbox hg; obtain ⟨z8_0, z8_1, z8_2, y8_0, y8_1, y8_2⟩ := zB3 BK101) | ((with_reducible refine gate_callee (f := 11) rfl ?_); refine goesL_ (some 8) rfl rfl Try.func11 (by kernel_rfl) rfl #[.slice A0_2 l0_2.length c0_2, .int .i64 a1] rfl zm ?_; (with_reducible refine (laws_szPieceS.calls _ _ l0_2 a1 t102 _ ?side1 ?side2 A3.out).mono ?_); (case side1 => exact zcc HB HR0_2.out); (case side2 => exact HC0_2.out); rintro e w' ⟨rfl, ⟨nd, rfl⟩⟩; refine ⟨_, rfl, ?_⟩))
 go_ret
 exact ⟨zv, zbo⟩
def spec_l01Find.l0 : Nat → List (S29) → Int → Int → Int → Option (Int)
  | 0, _, _, _, _ => none
  | k + 1, x0, x5, x104000, x104001 => if 0 < (x0.length : Int) then (if x5 < (((rd_T29 x0 0).f2).length : Int) then (if 0 ≤ x5 then (if (((rd_T43 ((rd_T29 x0 0).f2) x5).f0.f0) == x104000 && (((rd_T43 ((rd_T29 x0 0).f2) x5).f0.f1) == x104001)) = true then (some x5) else (spec_l01Find.l0 k x0 (wrap64 (x5 + 1)) x104000 x104001)) else (none)) else (some (-1))) else (none)
def spec_l01Find.f (k : Nat) (l0 : List (S29)) (a1_0 : Int) (a1_1 : Int) : Option (Int) := spec_l01Find.l0 k l0 0 a1_0 a1_1
theorem spec_l01Find.mono_l : ∀ k, (∀ y0 y1 y2 y3, LeO (spec_l01Find.l0 k y0 y1 y2 y3) (spec_l01Find.l0 (k + 1) y0 y1 y2 y3))
  | 0 => fun _ _ _ _ r h => by simp [spec_l01Find.l0] at h
  | k + 1 => by
    have ih0 := spec_l01Find.mono_l k
    · intro y0 y1 y2 y3
      unfold spec_l01Find.l0
      repeat' first | (with_reducible first | apply ih0 | exact LeO.refl _ | exact LeO.none _ | refine LeO.ite ?_ ?_ | refine LeO.bind ?_ (fun _ => ?_)) | apply ih0 | exact LeO.none _ | refine LeO.ite ?_ ?_ | refine LeO.bind ?_ (fun _ => ?_)
theorem spec_l01Find.mono : ∀ a0 a1 a2 k, LeO (spec_l01Find.f k a0 a1 a2) (spec_l01Find.f (k + 1) a0 a1 a2) := by
 intro a0 a1 a2 k
 have ih0 := spec_l01Find.mono_l k
 unfold spec_l01Find.f
 repeat' first | (with_reducible first | apply ih0 | exact LeO.refl _ | exact LeO.none _ | refine LeO.ite ?_ ?_ | refine LeO.bind ?_ (fun _ => ?_)) | apply ih0 | exact LeO.none _ | refine LeO.ite ?_ ?_ | refine LeO.bind ?_ (fun _ => ?_)
theorem spec_l01Find.calls (k : Nat) (adp0 : Addr) (l0 : List (S29)) (a1_0 : Int) (a1_1 : Int) (r : Int) (w : World) (hr0 : Kd.C k29 w (some adp0) l0.length l0) (h : spec_l01Find.f k l0 a1_0 a1_1 = some r) :
    Calls Try.prog 13 #[.pointer (some adp0), .agg #[.int .i8 a1_0, .int .i8 a1_1]] w fun e w' => e = .returned (.int .i64 r) ∧ Below w.heap.size w w' := by
 have hu41 := Try.underlying41
 have HR0 := Aside0.mk hr0
 clear hr0
 have HB := Aside0.mk (Below.refl w.heap.size w)
 have H : (spec_l01Find.l0 k l0 0 a1_0 a1_1) = some r := h
 clear h
 have H' := Aside0.mk H
 clear H
 go_enter Try.func13, Try.ntmps13
 go_wp2_with (first | ((with_reducible refine gate_dst (N := 3) rfl ?_); refine zbx 3 #[.int .i8 a1_0, .int .i8 a1_1] 41 ?_; intro gb103 hg w3 hbox hb; have n_ : _ ∧ _ ∧ _ ∧ _ := ⟨zb HB hb, Aside0.mk (hbox), zg HB hg, zg HB hg⟩; clear HB; obtain ⟨HB, BK103, GW103, GE103⟩ := n_; clear hb hbox hg) | go_quiet (fail))
 go_loopg [5] k (fun kq v5 w' => ∃ (x5_1 : Int), v5 = .int .i64 x5_1 ∧ Aside0 (spec_l01Find.l0 kq l0 x5_1 a1_0 a1_1 = some r) ∧ Aside0 (kq ≤ k) ∧ Aside0 (w'.heap[gb103]? = some (.cells #[.int .i8 a1_0, .int .i8 a1_1] 41 (0, 0))) ∧ Aside0 (Below w.heap.size w w'))
 case atStart => exact ⟨(0), zi, H', ⟨Nat.le_refl _⟩, zh BK103, zba⟩
 clear H'
 try clear c1
 try clear p2
 obtain ⟨x5_1, rfl, HA, HK1, BK103, HB⟩ := hrel
 cases gk with
 | zero => exact absurd HA.out (by simp [spec_l01Find.l0])
 | succ k1 => ?_
 have H := HA.out
 clear HA
 simp only [spec_l01Find.l0] at H
 by_cases c4 : 0 < (l0.length : Int)
 rotate_left
 ·rw [if_neg c4] at H
  exact absurd H (by simp)
 rw [if_pos c4] at H
 have c4b0 : decide (0 < (l0.length : Int)) = true := decide_eq_true c4
 have c4b1 : decide (0 < l0.length) = true := decide_eq_true (by omega)
 clear c4
 by_cases c5 : x5_1 < (((rd_T29 l0 0).f2).length : Int)
 rotate_left
 ·rw [if_neg c5] at H
  have c5b0 : decide (x5_1 < (((rd_T29 l0 0).f2).length : Int)) = false := decide_eq_false c5
  clear c5
  obtain rfl := Option.some.inj H
  have p104 : 0 ≤ (0 : Int) := (by omega)
  have q104 : 0 < (l0.length : Int) := of_decide_eq_true zA
  obtain ⟨ad104, A104_2, c104_2, e104, hx104_0, hx104_1, hx104_2, hl104_2, hi104_2⟩ := at_T29 HR0.out 0 p104 q104
  obtain rfl : adp0 = ad104 := (by injection e104)
  have qi104 : (0 < l0.length) = True := eq_true (by omega)
  try simp only [z00, Nat.zero_mul, Addr.add_zero'] at hx104_0 hx104_1 hx104_2
  replace hx104_0 := zc HB hx104_0
  replace hx104_1 := zc HB hx104_1
  replace hx104_2 := zc HB hx104_2
  have HR104_2 := Aside0.mk hi104_2
  have HC104_2 := Aside0.mk hl104_2
  clear hi104_2 hl104_2
  replace p104 := eq_true p104
  replace q104 := eq_true q104
  go_wp2
  repeat (go_quiet (fail); try go_wp2)
  go_ret
  exact ⟨zv, zbo⟩
 rw [if_pos c5] at H
 have c5b0 : decide (x5_1 < (((rd_T29 l0 0).f2).length : Int)) = true := decide_eq_true c5
 clear c5
 by_cases c6 : 0 ≤ x5_1
 rotate_left
 ·rw [if_neg c6] at H
  exact absurd H (by simp)
 rw [if_pos c6] at H
 have c6b0 : decide (0 ≤ x5_1) = true := decide_eq_true c6
 clear c6
 by_cases c7 : (((rd_T43 ((rd_T29 l0 0).f2) x5_1).f0.f0) == a1_0 && (((rd_T43 ((rd_T29 l0 0).f2) x5_1).f0.f1) == a1_1)) = true
 ·rw [if_pos c7] at H
  have c7b0 : (((rd_T43 ((rd_T29 l0 0).f2) x5_1).f0.f0) == a1_0 && (((rd_T43 ((rd_T29 l0 0).f2) x5_1).f0.f1) == a1_1)) = true := c7
  (try (have c7b1 : decide (((rd_T43 ((rd_T29 l0 0).f2) x5_1).f0.f0) = a1_0 && (((rd_T43 ((rd_T29 l0 0).f2) x5_1).f0.f1) == a1_1)) = true := by first | (simpa using c7) | (have h_ := c7; revert h_; cases ((rd_T43 ((rd_T29 l0 0).f2) x5_1).f0.f0) <;> cases a1_0 && (((rd_T43 ((rd_T29 l0 0).f2) x5_1).f0.f1) == a1_1) <;> decide)))
  (try (have c7b2 : (((rd_T43 ((rd_T29 l0 0).f2) x5_1).f0.f0) == a1_0 && (((rd_T43 ((rd_T29 l0 0).f2) x5_1).f0.f1) == a1_1)) = true := by first | (simpa using c7) | (have h_ := c7; revert h_; cases ((rd_T43 ((rd_T29 l0 0).f2) x5_1).f0.f0) <;> cases a1_0 && (((rd_T43 ((rd_T29 l0 0).f2) x5_1).f0.f1) == a1_1) <;> decide)))
  clear c7
  obtain rfl := Option.some.inj H
  have p104 : 0 ≤ (0 : Int) := (by omega)
  have q104 : 0 < (l0.length : Int) := of_decide_eq_true zA
  obtain ⟨ad104, A104_2, c104_2, e104, hx104_0, hx104_1, hx104_2, hl104_2, hi104_2⟩ := at_T29 HR0.out 0 p104 q104
  obtain rfl : adp0 = ad104 := (by injection e104)
  have qi104 : (0 < l0.length) = True := eq_true (by omega)
  try simp only [z00, Nat.zero_mul, Addr.add_zero'] at hx104_0 hx104_1 hx104_2
  replace hx104_0 := zc HB hx104_0
  replace hx104_1 := zc HB hx104_1
  replace hx104_2 := zc HB hx104_2
  have HR104_2 := Aside0.mk hi104_2
  have HC104_2 := Aside0.mk hl104_2
  clear hi104_2 hl104_2
  replace p104 := eq_true p104
  replace q104 := eq_true q104
  have p105 : 0 ≤ (0 : Int) := (by omega)
  have q105 : 0 < (l0.length : Int) := of_decide_eq_true zA
  obtain ⟨ad105, A105_2, c105_2, e105, hx105_0, hx105_1, hx105_2, hl105_2, hi105_2⟩ := at_T29 HR0.out 0 p105 q105
  obtain rfl : adp0 = ad105 := (by injection e105)
  have qi105 : (0 < l0.length) = True := eq_true (by omega)
  try simp only [z00, Nat.zero_mul, Addr.add_zero'] at hx105_0 hx105_1 hx105_2
  replace hx105_0 := zc HB hx105_0
  replace hx105_1 := zc HB hx105_1
  replace hx105_2 := zc HB hx105_2
  have HR105_2 := Aside0.mk hi105_2
  have HC105_2 := Aside0.mk hl105_2
  clear hi105_2 hl105_2
  replace p105 := eq_true p105
  replace q105 := eq_true q105
  have ea_ := Option.some.inj (hx104_2.symm.trans hx105_2)
  injection ea_ with ea_ en_ ec_
  subst ea_
  subst ec_
  clear en_
  have p106 : 0 ≤ (x5_1 : Int) := of_decide_eq_true zA
  have q106 : x5_1 < (((rd_T29 l0 0).f2).length : Int) := of_decide_eq_true zA
  obtain ⟨ad106, e106, hx106_0, hx106_1, hx106_2, hx106_3, hx106_4⟩ := at_T43 HR105_2.out x5_1 p106 q106
  cases e106
  replace hx106_0 := zc HB hx106_0
  replace hx106_1 := zc HB hx106_1
  replace hx106_2 := zc HB hx106_2
  replace hx106_3 := zc HB hx106_3
  replace hx106_4 := zc HB hx106_4
  replace p106 := eq_true p106
  replace q106 := eq_true q106
  obtain ⟨z8_0, z8_1, y8_0, y8_1⟩ := zB2 BK103
  go_wp2
  repeat (go_quiet (fail); try go_wp2)
  go_ret
  exact ⟨zv, zbo⟩
 rw [if_neg c7] at H
 have c7b0 : (((rd_T43 ((rd_T29 l0 0).f2) x5_1).f0.f0) == a1_0 && (((rd_T43 ((rd_T29 l0 0).f2) x5_1).f0.f1) == a1_1)) = false := by simpa using c7
 (try (have c7b1 : decide (((rd_T43 ((rd_T29 l0 0).f2) x5_1).f0.f0) = a1_0 && (((rd_T43 ((rd_T29 l0 0).f2) x5_1).f0.f1) == a1_1)) = false := by first | (simpa using c7) | (have h_ := c7; revert h_; cases ((rd_T43 ((rd_T29 l0 0).f2) x5_1).f0.f0) <;> cases a1_0 && (((rd_T43 ((rd_T29 l0 0).f2) x5_1).f0.f1) == a1_1) <;> decide)))
 (try (have c7b2 : (((rd_T43 ((rd_T29 l0 0).f2) x5_1).f0.f0) == a1_0 && (((rd_T43 ((rd_T29 l0 0).f2) x5_1).f0.f1) == a1_1)) = false := by first | (simpa using c7) | (have h_ := c7; revert h_; cases ((rd_T43 ((rd_T29 l0 0).f2) x5_1).f0.f0) <;> cases a1_0 && (((rd_T43 ((rd_T29 l0 0).f2) x5_1).f0.f1) == a1_1) <;> decide)))
 (try (have c7b3 : ¬ (((rd_T43 ((rd_T29 l0 0).f2) x5_1).f0.f0) = a1_0 && (((rd_T43 ((rd_T29 l0 0).f2) x5_1).f0.f1) == a1_1)) := by simpa using c7))
 clear c7
 have H' := Aside0.mk H
 clear H
 have p104 : 0 ≤ (0 : Int) := (by omega)
 have q104 : 0 < (l0.length : Int) := of_decide_eq_true zA
 obtain ⟨ad104, A104_2, c104_2, e104, hx104_0, hx104_1, hx104_2, hl104_2, hi104_2⟩ := at_T29 HR0.out 0 p104 q104
 obtain rfl : adp0 = ad104 := (by injection e104)
 have qi104 : (0 < l0.length) = True := eq_true (by omega)
 try simp only [z00, Nat.zero_mul, Addr.add_zero'] at hx104_0 hx104_1 hx104_2
 replace hx104_0 := zc HB hx104_0
 replace hx104_1 := zc HB hx104_1
 replace hx104_2 := zc HB hx104_2
 have HR104_2 := Aside0.mk hi104_2
 have HC104_2 := Aside0.mk hl104_2
 clear hi104_2 hl104_2
 replace p104 := eq_true p104
 replace q104 := eq_true q104
 have p105 : 0 ≤ (0 : Int) := (by omega)
 have q105 : 0 < (l0.length : Int) := of_decide_eq_true zA
 obtain ⟨ad105, A105_2, c105_2, e105, hx105_0, hx105_1, hx105_2, hl105_2, hi105_2⟩ := at_T29 HR0.out 0 p105 q105
 obtain rfl : adp0 = ad105 := (by injection e105)
 have qi105 : (0 < l0.length) = True := eq_true (by omega)
 try simp only [z00, Nat.zero_mul, Addr.add_zero'] at hx105_0 hx105_1 hx105_2
 replace hx105_0 := zc HB hx105_0
 replace hx105_1 := zc HB hx105_1
 replace hx105_2 := zc HB hx105_2
 have HR105_2 := Aside0.mk hi105_2
 have HC105_2 := Aside0.mk hl105_2
 clear hi105_2 hl105_2
 replace p105 := eq_true p105
 replace q105 := eq_true q105
 have ea_ := Option.some.inj (hx104_2.symm.trans hx105_2)
 injection ea_ with ea_ en_ ec_
 subst ea_
 subst ec_
 clear en_
 have p106 : 0 ≤ (x5_1 : Int) := of_decide_eq_true zA
 have q106 : x5_1 < (((rd_T29 l0 0).f2).length : Int) := of_decide_eq_true zA
 obtain ⟨ad106, e106, hx106_0, hx106_1, hx106_2, hx106_3, hx106_4⟩ := at_T43 HR105_2.out x5_1 p106 q106
 cases e106
 replace hx106_0 := zc HB hx106_0
 replace hx106_1 := zc HB hx106_1
 replace hx106_2 := zc HB hx106_2
 replace hx106_3 := zc HB hx106_3
 replace hx106_4 := zc HB hx106_4
 replace p106 := eq_true p106
 replace q106 := eq_true q106
 obtain ⟨z9_0, z9_1, y9_0, y9_1⟩ := zB2 BK103
 go_wp2
 repeat (go_quiet (fail); try go_wp2)
 go_roundg k1
 case measure => have := HK1.out; omega
 case rel => exact ⟨(wrap64 (x5_1 + 1)), zi, H', ⟨by have := HK1.out; omega⟩, zh BK103, zba⟩
def spec_l00In.f (a0 : Int) (a1 : Int) (a2 : Int) : Option (Bool) := if a0 ≥ a1 then (some (decide (a0 ≤ a2))) else (some false)
theorem spec_l00In.calls (a0 : Int) (a1 : Int) (a2 : Int) (r : Bool) (w : World) (h : spec_l00In.f a0 a1 a2 = some r) :
    Calls Try.prog 24 #[.int .i64 a0, .int .i64 a1, .int .i64 a2] w fun e w' => e = .returned (.bool r) ∧ Drawn0 w w' := by
 have H : (if a0 ≥ a1 then (some (decide (a0 ≤ a2))) else (some false)) = some r := h
 clear h
 by_cases c4 : a0 ≥ a1
 ·rw [if_pos c4] at H
  have c4b0 : decide (a1 ≤ a0) = true := decide_eq_true c4
  clear c4
  obtain rfl := Option.some.inj H
  go_enter Try.func24, Try.ntmps24
  go_wp2
  go_ret
  exact ⟨zi, zdr⟩
 rw [if_neg c4] at H
 have c4b0 : decide (a1 ≤ a0) = false := decide_eq_false c4
 clear c4
 obtain rfl := Option.some.inj H
 go_enter Try.func24, Try.ntmps24
 go_wp2
 go_ret
 exact ⟨zi, zdr⟩
def spec_l01In.f (a0_0 : Int) (a0_1 : Int) (a1 : Int) (a2 : Int) : Option (Bool) := (spec_l00In.f (wrap64 (a0_0)) 0 (wrap64 (a1 - 1))).bind fun t108 => (if t108 = true then ((spec_l00In.f (wrap64 (a0_1)) 0 (wrap64 (a2 - 1))).bind fun t109 => (some t109)) else (some false))
theorem spec_l01In.calls (a0_0 : Int) (a0_1 : Int) (a1 : Int) (a2 : Int) (r : Bool) (w : World) (h : spec_l01In.f a0_0 a0_1 a1 a2 = some r) :
    Calls Try.prog 26 #[.agg #[.int .i8 a0_0, .int .i8 a0_1], .int .i64 a1, .int .i64 a2] w fun e w' => e = .returned (.bool r) ∧ Below w.heap.size w w' := by
 have hu41 := Try.underlying41
 have HB := Aside0.mk (Below.refl w.heap.size w)
 have H : ((spec_l00In.f (wrap64 (a0_0)) 0 (wrap64 (a1 - 1))).bind fun t108 => (if t108 = true then ((spec_l00In.f (wrap64 (a0_1)) 0 (wrap64 (a2 - 1))).bind fun t109 => (some t109)) else (some false))) = some r := h
 clear h
 replace H := zob H
 obtain ⟨t108, A40, H⟩ := H
 replace H : (if t108 = true then ((spec_l00In.f (wrap64 (a0_1)) 0 (wrap64 (a2 - 1))).bind fun t109 => (some t109)) else (some false)) = some r := H
 have A4 := Aside0.mk A40
 clear A40
 by_cases c5 : t108 = true
 rotate_left
 ·replace c5 := Bool.eq_false_iff.mpr c5
  subst c5
  have H1 : (some false) = some r := by rw [if_neg (show ¬ (false = true) by decide)] at H; exact H
  clear H
  have H := H1
  clear H1
  obtain rfl := Option.some.inj H
  go_enter Try.func26, Try.ntmps26
  go_wp2_with (first | ((with_reducible refine gate_dst (N := 3) rfl ?_); refine zbx 3 #[.int .i8 a0_0, .int .i8 a0_1] 41 ?_; intro gb107 hg w9 hbox hb; have n_ : _ ∧ _ ∧ _ ∧ _ := ⟨zb HB hb, Aside0.mk (hbox), zg HB hg, zg HB hg⟩; clear HB; obtain ⟨HB, BK107, GW107, GE107⟩ := n_; clear hb hbox hg; obtain ⟨z10_0, z10_1, y10_0, y10_1⟩ := zB2 BK107) | ((with_reducible refine gate_callee (f := 24) rfl ?_); refine goesL_ (some 12) rfl rfl Try.func24 (by kernel_rfl) rfl #[.int .i64 (wrap64 (a0_0)), .int .i64 0, .int .i64 (wrap64 (a1 - 1))] rfl zm ?_; (with_reducible refine (spec_l00In.calls (wrap64 (a0_0)) 0 (wrap64 (a1 - 1)) false _ A4.out).mono ?_); rintro e w' ⟨rfl, ⟨nd, rfl⟩⟩; refine ⟨_, rfl, ?_⟩))
  go_ret
  exact ⟨zv, zbo⟩
 subst c5
 have H1 : ((spec_l00In.f (wrap64 (a0_1)) 0 (wrap64 (a2 - 1))).bind fun t109 => (some t109)) = some r := by rw [if_pos rfl] at H; exact H
 clear H
 have H := H1
 clear H1
 replace H := zob H
 obtain ⟨t109, A60, H⟩ := H
 replace H : (some t109) = some r := H
 have A6 := Aside0.mk A60
 clear A60
 obtain rfl := Option.some.inj H
 go_enter Try.func26, Try.ntmps26
 go_wp2_with (first | ((with_reducible refine gate_dst (N := 3) rfl ?_); refine zbx 3 #[.int .i8 a0_0, .int .i8 a0_1] 41 ?_; intro gb107 hg w7 hbox hb; have n_ : _ ∧ _ ∧ _ ∧ _ := ⟨zb HB hb, Aside0.mk (hbox), zg HB hg, zg HB hg⟩; clear HB; obtain ⟨HB, BK107, GW107, GE107⟩ := n_; clear hb hbox hg; obtain ⟨z8_0, z8_1, y8_0, y8_1⟩ := zB2 BK107) | ((with_reducible refine gate_callee (f := 24) rfl ?_); refine goesL_ (some 12) rfl rfl Try.func24 (by kernel_rfl) rfl #[.int .i64 (wrap64 (a0_0)), .int .i64 0, .int .i64 (wrap64 (a1 - 1))] rfl zm ?_; (with_reducible refine (spec_l00In.calls (wrap64 (a0_0)) 0 (wrap64 (a1 - 1)) true _ A4.out).mono ?_); rintro e w' ⟨rfl, ⟨nd, rfl⟩⟩; refine ⟨_, rfl, ?_⟩) | (go_at_call 24; (with_reducible refine (spec_l00In.calls (wrap64 (a0_1)) 0 (wrap64 (a2 - 1)) t109 _ A6.out).mono ?_); rintro e w' ⟨rfl, ⟨nd, rfl⟩⟩))
 go_ret
 exact ⟨zv, zbo⟩
def spec_l01Piece.f (l0 : List (S43)) : Option (Bool) := if 0 < (l0.length : Int) then ((spec_l00In.f (wrap64 ((rd_T43 l0 0).f1)) 0 5).bind fun t111 => (if t111 = true then ((spec_l00In.f (wrap64 ((rd_T43 l0 0).f2)) 0 3).bind fun t113 => (if t113 = true then ((spec_l00In.f (wrap64 ((rd_T43 l0 0).f3)) 1 9).bind fun t115 => (if t115 = true then ((spec_l01In.f ((rd_T43 l0 0).f0.f0) ((rd_T43 l0 0).f0.f1) 24 24).bind fun t117 => (some t117)) else (some false))) else (some false))) else (some false))) else (none)
theorem spec_l01Piece.calls (adp0 : Addr) (l0 : List (S43)) (r : Bool) (w : World) (hr0 : Kd.C k43 w (some adp0) l0.length l0) (h : spec_l01Piece.f l0 = some r) :
    Calls Try.prog 25 #[.pointer (some adp0)] w fun e w' => e = .returned (.bool r) ∧ Below w.heap.size w w' := by
 have hu41 := Try.underlying41
 have HR0 := Aside0.mk hr0
 clear hr0
 have HB := Aside0.mk (Below.refl w.heap.size w)
 have H : (if 0 < (l0.length : Int) then ((spec_l00In.f (wrap64 ((rd_T43 l0 0).f1)) 0 5).bind fun t111 => (if t111 = true then ((spec_l00In.f (wrap64 ((rd_T43 l0 0).f2)) 0 3).bind fun t113 => (if t113 = true then ((spec_l00In.f (wrap64 ((rd_T43 l0 0).f3)) 1 9).bind fun t115 => (if t115 = true then ((spec_l01In.f ((rd_T43 l0 0).f0.f0) ((rd_T43 l0 0).f0.f1) 24 24).bind fun t117 => (some t117)) else (some false))) else (some false))) else (some false))) else (none)) = some r := h
 clear h
 by_cases c2 : 0 < (l0.length : Int)
 rotate_left
 ·rw [if_neg c2] at H
  exact absurd H (by simp)
 rw [if_pos c2] at H
 have c2b0 : decide (0 < (l0.length : Int)) = true := decide_eq_true c2
 have c2b1 : decide (0 < l0.length) = true := decide_eq_true (by omega)
 clear c2
 replace H := zob H
 obtain ⟨t111, A30, H⟩ := H
 replace H : (if t111 = true then ((spec_l00In.f (wrap64 ((rd_T43 l0 0).f2)) 0 3).bind fun t113 => (if t113 = true then ((spec_l00In.f (wrap64 ((rd_T43 l0 0).f3)) 1 9).bind fun t115 => (if t115 = true then ((spec_l01In.f ((rd_T43 l0 0).f0.f0) ((rd_T43 l0 0).f0.f1) 24 24).bind fun t117 => (some t117)) else (some false))) else (some false))) else (some false)) = some r := H
 have A3 := Aside0.mk A30
 clear A30
 by_cases c4 : t111 = true
 rotate_left
 ·replace c4 := Bool.eq_false_iff.mpr c4
  subst c4
  have H1 : (some false) = some r := by rw [if_neg (show ¬ (false = true) by decide)] at H; exact H
  clear H
  have H := H1
  clear H1
  obtain rfl := Option.some.inj H
  have p110 : 0 ≤ (0 : Int) := (by omega)
  have q110 : 0 < (l0.length : Int) := of_decide_eq_true zA
  obtain ⟨ad110, e110, hx110_0, hx110_1, hx110_2, hx110_3, hx110_4⟩ := at_T43 HR0.out 0 p110 q110
  obtain rfl : adp0 = ad110 := (by injection e110)
  have qi110 : (0 < l0.length) = True := eq_true (by omega)
  try simp only [z00, Nat.zero_mul, Addr.add_zero'] at hx110_0 hx110_1 hx110_2 hx110_3 hx110_4
  replace p110 := eq_true p110
  replace q110 := eq_true q110
  go_enter Try.func25, Try.ntmps25
  go_wp2_with (first | ((with_reducible refine gate_callee (f := 24) rfl ?_); refine goesL_ (some 8) rfl rfl Try.func24 (by kernel_rfl) rfl #[.int .i64 (wrap64 ((rd_T43 l0 0).f1)), .int .i64 0, .int .i64 5] rfl zm ?_; (with_reducible refine (spec_l00In.calls (wrap64 ((rd_T43 l0 0).f1)) 0 5 false _ A3.out).mono ?_); rintro e w' ⟨rfl, ⟨nd, rfl⟩⟩; refine ⟨_, rfl, ?_⟩))
  go_ret
  exact ⟨zv, zbo⟩
 subst c4
 have H1 : ((spec_l00In.f (wrap64 ((rd_T43 l0 0).f2)) 0 3).bind fun t113 => (if t113 = true then ((spec_l00In.f (wrap64 ((rd_T43 l0 0).f3)) 1 9).bind fun t115 => (if t115 = true then ((spec_l01In.f ((rd_T43 l0 0).f0.f0) ((rd_T43 l0 0).f0.f1) 24 24).bind fun t117 => (some t117)) else (some false))) else (some false))) = some r := by rw [if_pos rfl] at H; exact H
 clear H
 have H := H1
 clear H1
 replace H := zob H
 obtain ⟨t113, A50, H⟩ := H
 replace H : (if t113 = true then ((spec_l00In.f (wrap64 ((rd_T43 l0 0).f3)) 1 9).bind fun t115 => (if t115 = true then ((spec_l01In.f ((rd_T43 l0 0).f0.f0) ((rd_T43 l0 0).f0.f1) 24 24).bind fun t117 => (some t117)) else (some false))) else (some false)) = some r := H
 have A5 := Aside0.mk A50
 clear A50
 by_cases c6 : t113 = true
 rotate_left
 ·replace c6 := Bool.eq_false_iff.mpr c6
  subst c6
  have H1 : (some false) = some r := by rw [if_neg (show ¬ (false = true) by decide)] at H; exact H
  clear H
  have H := H1
  clear H1
  obtain rfl := Option.some.inj H
  have p110 : 0 ≤ (0 : Int) := (by omega)
  have q110 : 0 < (l0.length : Int) := of_decide_eq_true zA
  obtain ⟨ad110, e110, hx110_0, hx110_1, hx110_2, hx110_3, hx110_4⟩ := at_T43 HR0.out 0 p110 q110
  obtain rfl : adp0 = ad110 := (by injection e110)
  have qi110 : (0 < l0.length) = True := eq_true (by omega)
  try simp only [z00, Nat.zero_mul, Addr.add_zero'] at hx110_0 hx110_1 hx110_2 hx110_3 hx110_4
  replace p110 := eq_true p110
  replace q110 := eq_true q110
  go_enter Try.func25, Try.ntmps25
  go_wp2_with (first | ((with_reducible refine gate_callee (f := 24) rfl ?_); refine goesL_ (some 8) rfl rfl Try.func24 (by kernel_rfl) rfl #[.int .i64 (wrap64 ((rd_T43 l0 0).f1)), .int .i64 0, .int .i64 5] rfl zm ?_; (with_reducible refine (spec_l00In.calls (wrap64 ((rd_T43 l0 0).f1)) 0 5 true _ A3.out).mono ?_); rintro e w' ⟨rfl, ⟨nd, rfl⟩⟩; refine ⟨_, rfl, ?_⟩; have p112 : 0 ≤ (0 : Int) := (by omega); have q112 : 0 < (l0.length : Int) := of_decide_eq_true zA; obtain ⟨ad112, e112, hx112_0, hx112_1, hx112_2, hx112_3, hx112_4⟩ := at_T43 HR0.out 0 p112 q112; obtain rfl : adp0 = ad112 := (by injection e112); have qi112 : (0 < l0.length) = True := eq_true (by omega); (try simp only [z00, Nat.zero_mul, Addr.add_zero'] at hx112_0 hx112_1 hx112_2 hx112_3 hx112_4); replace p112 := eq_true p112; replace q112 := eq_true q112) | (go_at_call 24; (with_reducible refine (spec_l00In.calls (wrap64 ((rd_T43 l0 0).f2)) 0 3 false _ A5.out).mono ?_); rintro e w' ⟨rfl, ⟨nd, rfl⟩⟩))
  go_ret
  exact ⟨zv, zbo⟩
 subst c6
 have H1 : ((spec_l00In.f (wrap64 ((rd_T43 l0 0).f3)) 1 9).bind fun t115 => (if t115 = true then ((spec_l01In.f ((rd_T43 l0 0).f0.f0) ((rd_T43 l0 0).f0.f1) 24 24).bind fun t117 => (some t117)) else (some false))) = some r := by rw [if_pos rfl] at H; exact H
 clear H
 have H := H1
 clear H1
 replace H := zob H
 obtain ⟨t115, A70, H⟩ := H
 replace H : (if t115 = true then ((spec_l01In.f ((rd_T43 l0 0).f0.f0) ((rd_T43 l0 0).f0.f1) 24 24).bind fun t117 => (some t117)) else (some false)) = some r := H
 have A7 := Aside0.mk A70
 clear A70
 by_cases c8 : t115 = true
 rotate_left
 ·replace c8 := Bool.eq_false_iff.mpr c8
  subst c8
  have H1 : (some false) = some r := by rw [if_neg (show ¬ (false = true) by decide)] at H; exact H
  clear H
  have H := H1
  clear H1
  obtain rfl := Option.some.inj H
  have p110 : 0 ≤ (0 : Int) := (by omega)
  have q110 : 0 < (l0.length : Int) := of_decide_eq_true zA
  obtain ⟨ad110, e110, hx110_0, hx110_1, hx110_2, hx110_3, hx110_4⟩ := at_T43 HR0.out 0 p110 q110
  obtain rfl : adp0 = ad110 := (by injection e110)
  have qi110 : (0 < l0.length) = True := eq_true (by omega)
  try simp only [z00, Nat.zero_mul, Addr.add_zero'] at hx110_0 hx110_1 hx110_2 hx110_3 hx110_4
  replace p110 := eq_true p110
  replace q110 := eq_true q110
  go_enter Try.func25, Try.ntmps25
  go_wp2_with (first | ((with_reducible refine gate_callee (f := 24) rfl ?_); refine goesL_ (some 8) rfl rfl Try.func24 (by kernel_rfl) rfl #[.int .i64 (wrap64 ((rd_T43 l0 0).f1)), .int .i64 0, .int .i64 5] rfl zm ?_; (with_reducible refine (spec_l00In.calls (wrap64 ((rd_T43 l0 0).f1)) 0 5 true _ A3.out).mono ?_); rintro e w' ⟨rfl, ⟨nd, rfl⟩⟩; refine ⟨_, rfl, ?_⟩; have p112 : 0 ≤ (0 : Int) := (by omega); have q112 : 0 < (l0.length : Int) := of_decide_eq_true zA; obtain ⟨ad112, e112, hx112_0, hx112_1, hx112_2, hx112_3, hx112_4⟩ := at_T43 HR0.out 0 p112 q112; obtain rfl : adp0 = ad112 := (by injection e112); have qi112 : (0 < l0.length) = True := eq_true (by omega); (try simp only [z00, Nat.zero_mul, Addr.add_zero'] at hx112_0 hx112_1 hx112_2 hx112_3 hx112_4); replace p112 := eq_true p112; replace q112 := eq_true q112) | (go_at_call 24; (with_reducible refine (spec_l00In.calls (wrap64 ((rd_T43 l0 0).f2)) 0 3 true _ A5.out).mono ?_); rintro e w' ⟨rfl, ⟨nd, rfl⟩⟩; have p114 : 0 ≤ (0 : Int) := (by omega); have q114 : 0 < (l0.length : Int) := of_decide_eq_true zA; obtain ⟨ad114, e114, hx114_0, hx114_1, hx114_2, hx114_3, hx114_4⟩ := at_T43 HR0.out 0 p114 q114; obtain rfl : adp0 = ad114 := (by injection e114); have qi114 : (0 < l0.length) = True := eq_true (by omega); (try simp only [z00, Nat.zero_mul, Addr.add_zero'] at hx114_0 hx114_1 hx114_2 hx114_3 hx114_4); replace p114 := eq_true p114; replace q114 := eq_true q114) | (go_at_call 24; (with_reducible refine (spec_l00In.calls (wrap64 ((rd_T43 l0 0).f3)) 1 9 false _ A7.out).mono ?_); rintro e w' ⟨rfl, ⟨nd, rfl⟩⟩))
  go_ret
  exact ⟨zv, zbo⟩
 subst c8
 have H1 : ((spec_l01In.f ((rd_T43 l0 0).f0.f0) ((rd_T43 l0 0).f0.f1) 24 24).bind fun t117 => (some t117)) = some r := by rw [if_pos rfl] at H; exact H
 clear H
 have H := H1
 clear H1
 replace H := zob H
 obtain ⟨t117, A90, H⟩ := H
 replace H : (some t117) = some r := H
 have A9 := Aside0.mk A90
 clear A90
 obtain rfl := Option.some.inj H
 have p110 : 0 ≤ (0 : Int) := (by omega)
 have q110 : 0 < (l0.length : Int) := of_decide_eq_true zA
 obtain ⟨ad110, e110, hx110_0, hx110_1, hx110_2, hx110_3, hx110_4⟩ := at_T43 HR0.out 0 p110 q110
 obtain rfl : adp0 = ad110 := (by injection e110)
 have qi110 : (0 < l0.length) = True := eq_true (by omega)
 try simp only [z00, Nat.zero_mul, Addr.add_zero'] at hx110_0 hx110_1 hx110_2 hx110_3 hx110_4
 replace p110 := eq_true p110
 replace q110 := eq_true q110
 go_enter Try.func25, Try.ntmps25
 go_wp2_with (first | ((with_reducible refine gate_callee (f := 24) rfl ?_); refine goesL_ (some 8) rfl rfl Try.func24 (by kernel_rfl) rfl #[.int .i64 (wrap64 ((rd_T43 l0 0).f1)), .int .i64 0, .int .i64 5] rfl zm ?_; (with_reducible refine (spec_l00In.calls (wrap64 ((rd_T43 l0 0).f1)) 0 5 true _ A3.out).mono ?_); rintro e w' ⟨rfl, ⟨nd, rfl⟩⟩; refine ⟨_, rfl, ?_⟩; have p112 : 0 ≤ (0 : Int) := (by omega); have q112 : 0 < (l0.length : Int) := of_decide_eq_true zA; obtain ⟨ad112, e112, hx112_0, hx112_1, hx112_2, hx112_3, hx112_4⟩ := at_T43 HR0.out 0 p112 q112; obtain rfl : adp0 = ad112 := (by injection e112); have qi112 : (0 < l0.length) = True := eq_true (by omega); (try simp only [z00, Nat.zero_mul, Addr.add_zero'] at hx112_0 hx112_1 hx112_2 hx112_3 hx112_4); replace p112 := eq_true p112; replace q112 := eq_true q112) | (go_at_call 24; (with_reducible refine (spec_l00In.calls (wrap64 ((rd_T43 l0 0).f2)) 0 3 true _ A5.out).mono ?_); rintro e w' ⟨rfl, ⟨nd, rfl⟩⟩; have p114 : 0 ≤ (0 : Int) := (by omega); have q114 : 0 < (l0.length : Int) := of_decide_eq_true zA; obtain ⟨ad114, e114, hx114_0, hx114_1, hx114_2, hx114_3, hx114_4⟩ := at_T43 HR0.out 0 p114 q114; obtain rfl : adp0 = ad114 := (by injection e114); have qi114 : (0 < l0.length) = True := eq_true (by omega); (try simp only [z00, Nat.zero_mul, Addr.add_zero'] at hx114_0 hx114_1 hx114_2 hx114_3 hx114_4); replace p114 := eq_true p114; replace q114 := eq_true q114) | (go_at_call 24; (with_reducible refine (spec_l00In.calls (wrap64 ((rd_T43 l0 0).f3)) 1 9 true _ A7.out).mono ?_); rintro e w' ⟨rfl, ⟨nd, rfl⟩⟩; have p116 : 0 ≤ (0 : Int) := (by omega); have q116 : 0 < (l0.length : Int) := of_decide_eq_true zA; obtain ⟨ad116, e116, hx116_0, hx116_1, hx116_2, hx116_3, hx116_4⟩ := at_T43 HR0.out 0 p116 q116; obtain rfl : adp0 = ad116 := (by injection e116); have qi116 : (0 < l0.length) = True := eq_true (by omega); (try simp only [z00, Nat.zero_mul, Addr.add_zero'] at hx116_0 hx116_1 hx116_2 hx116_3 hx116_4); replace p116 := eq_true p116; replace q116 := eq_true q116) | (go_at_call 26; (with_reducible refine (spec_l01In.calls ((rd_T43 l0 0).f0.f0) ((rd_T43 l0 0).f0.f1) 24 24 t117 _ A9.out).mono ?_); rintro e w10 ⟨rfl, hb⟩; have n0_ := zb HB hb; clear HB; have HB := n0_; clear n0_; (try clear hb); (try clear hb2); (try clear hk); (try clear hi)))
 go_ret
 exact ⟨zv, zbo⟩
end Go.Proofs.Ytljjmgokebmldaa.PFnExactSortBoard
