-- WRITTEN by xprint.py, a program of this session's. Not trusted: Lean checks it.
-- packed by pack.py
import Derived.Test.YtffnfpnajkgnaaaPFnExactMoveMachinex0
import Derived.Test.YtffnfpnajkgnaaaTFnExactMoveMachinea
namespace Go.Proofs.Ytffnfpnajkgnaaa.PFnExactMoveMachine
open Go.RowKit Go.Proofs.YtffnfpnajkgnaaaW.PrintWords Go.Proofs.YtffnfpnajkgnaaaW.PrintLast Go.Proofs.YtffnfpnajkgnaaaW.PrintMore Go.Proofs.YtffnfpnajkgnaaaX
attribute [local go_sem] max2_int min2_int max_two min_two max_three min_three max_four min_four   -- for this text's walks alone
set_option maxHeartbeats 8000000
set_option maxRecDepth 100000
set_option linter.unusedVariables false
set_option linter.unusedSimpArgs false

def laws_szPieceS.f (l0 : List (S88)) (a1 : Int) : Option (Int) := if (wrap64 (a1 - (l0.length : Int))) < 0 then (some (-1)) else (some (wrap64 (a1 - (l0.length : Int))))
theorem laws_szPieceS.calls (A0 : Option Addr) (c0 : Nat) (l0 : List (S88)) (a1 : Int) (r : Int) (w : World) (hr0 : Kd.C k88 w A0 l0.length l0) (hc0 : l0.length ≤ c0) (h : laws_szPieceS.f l0 a1 = some r) :
    Calls Try.prog 105 #[.slice A0 l0.length c0, .int .i64 a1] w fun e w' => e = .returned (.int .i64 r) ∧ Drawn0 w w' := by
 have HR0 := Aside0.mk hr0
 have HC0 := Aside0.mk hc0
 clear hr0 hc0
 have H : (if (wrap64 (a1 - (l0.length : Int))) < 0 then (some (-1)) else (some (wrap64 (a1 - (l0.length : Int))))) = some r := h
 clear h
 by_cases c3 : (wrap64 (a1 - (l0.length : Int))) < 0
 ·rw [if_pos c3] at H
  have c3b0 : decide ((wrap64 (a1 - (l0.length : Int))) < 0) = true := decide_eq_true c3
  clear c3
  obtain rfl := Option.some.inj H
  go_enter Try.func105, Try.ntmps105
  go_wp2
  go_ret
  exact ⟨zi, zdr⟩
 rw [if_neg c3] at H
 have c3b0 : decide ((wrap64 (a1 - (l0.length : Int))) < 0) = false := decide_eq_false c3
 clear c3
 obtain rfl := Option.some.inj H
 go_enter Try.func105, Try.ntmps105
 go_wp2
 go_ret
 exact ⟨zi, zdr⟩
def laws_szBoard.f (a0_0 : Int) (a0_1 : Int) (l0_2 : List (S88)) (a1 : Int) : Option (Int) := (laws_szPieceS.f l0_2 a1).bind fun t102 => (if t102 < 0 then (some (-1)) else (some t102))
theorem laws_szBoard.calls (a0_0 : Int) (a0_1 : Int) (A0_2 : Option Addr) (c0_2 : Nat) (l0_2 : List (S88)) (a1 : Int) (r : Int) (w : World) (hr0_2 : Kd.C k88 w A0_2 l0_2.length l0_2) (hc0_2 : l0_2.length ≤ c0_2) (h : laws_szBoard.f a0_0 a0_1 l0_2 a1 = some r) :
    Calls Try.prog 40 #[.agg #[.int .i8 a0_0, .int .i8 a0_1, .slice A0_2 l0_2.length c0_2], .int .i64 a1] w fun e w' => e = .returned (.int .i64 r) ∧ Below w.heap.size w w' := by
 have hu25 := Try.underlying25
 have HR0_2 := Aside0.mk hr0_2
 have HC0_2 := Aside0.mk hc0_2
 clear hr0_2 hc0_2
 have HB := Aside0.mk (Below.refl w.heap.size w)
 have H : ((laws_szPieceS.f l0_2 a1).bind fun t102 => (if t102 < 0 then (some (-1)) else (some t102))) = some r := h
 clear h
 replace H := zob H
 obtain ⟨t102, A30, H⟩ := H
 replace H : (if t102 < 0 then (some (-1)) else (some t102)) = some r := H
 have A3 := Aside0.mk A30
 clear A30
 by_cases c4 : t102 < 0
 ·rw [if_pos c4] at H
  have c4b0 : decide (t102 < 0) = true := decide_eq_true c4
  clear c4
  obtain rfl := Option.some.inj H
  go_enter Try.func40, Try.ntmps40
  go_wp2_with (first | ((with_reducible refine gate_dst (N := 2) rfl ?_); refine zbx 2 #[.int .i8 a0_0, .int .i8 a0_1, .slice A0_2 l0_2.length c0_2] 25 ?_; intro gb101 hg w5 hbox hb; have n_ : _ ∧ _ ∧ _ ∧ _ := ⟨zb HB hb, Aside0.mk (hbox), zg HB hg, zg HB hg⟩; clear HB; obtain ⟨HB, BK101, GW101, GE101⟩ := n_; clear hb hbox hg; obtain ⟨z6_0, z6_1, z6_2, y6_0, y6_1, y6_2⟩ := zB3 BK101) | ((with_reducible refine gate_callee (f := 105) rfl ?_); refine goesL_ (some 8) rfl rfl Try.func105 (by kernel_rfl) rfl #[.slice A0_2 l0_2.length c0_2, .int .i64 a1] rfl zm ?_; (with_reducible refine (laws_szPieceS.calls _ _ l0_2 a1 t102 _ ?side1 ?side2 A3.out).mono ?_); (case side1 => exact zcc HB HR0_2.out); (case side2 => exact HC0_2.out); rintro e w' ⟨rfl, ⟨nd, rfl⟩⟩; refine ⟨_, rfl, ?_⟩))
  go_ret
  exact ⟨zv, zbo⟩
 rw [if_neg c4] at H
 have c4b0 : decide (t102 < 0) = false := decide_eq_false c4
 clear c4
 obtain rfl := Option.some.inj H
 go_enter Try.func40, Try.ntmps40
 go_wp2_with (first | ((with_reducible refine gate_dst (N := 2) rfl ?_); refine zbx 2 #[.int .i8 a0_0, .int .i8 a0_1, .slice A0_2 l0_2.length c0_2] 25 ?_; intro gb101 hg w7 hbox hb; have n_ : _ ∧ _ ∧ _ ∧ _ := ⟨zb HB hb, Aside0.mk (hbox), zg HB hg, zg HB hg⟩; clear HB; obtain ⟨HB, BK101, GW101, GE101⟩ := n_; clear hb hbox hg; obtain ⟨z8_0, z8_1, z8_2, y8_0, y8_1, y8_2⟩ := zB3 BK101) | ((with_reducible refine gate_callee (f := 105) rfl ?_); refine goesL_ (some 8) rfl rfl Try.func105 (by kernel_rfl) rfl #[.slice A0_2 l0_2.length c0_2, .int .i64 a1] rfl zm ?_; (with_reducible refine (laws_szPieceS.calls _ _ l0_2 a1 t102 _ ?side1 ?side2 A3.out).mono ?_); (case side1 => exact zcc HB HR0_2.out); (case side2 => exact HC0_2.out); rintro e w' ⟨rfl, ⟨nd, rfl⟩⟩; refine ⟨_, rfl, ?_⟩))
 go_ret
 exact ⟨zv, zbo⟩
def laws_szPortS.f (l0 : List (S182)) (a1 : Int) : Option (Int) := if (wrap64 (a1 - (l0.length : Int))) < 0 then (some (-1)) else (some (wrap64 (a1 - (l0.length : Int))))
theorem laws_szPortS.calls (A0 : Option Addr) (c0 : Nat) (l0 : List (S182)) (a1 : Int) (r : Int) (w : World) (hr0 : Kd.C k182 w A0 l0.length l0) (hc0 : l0.length ≤ c0) (h : laws_szPortS.f l0 a1 = some r) :
    Calls Try.prog 83 #[.slice A0 l0.length c0, .int .i64 a1] w fun e w' => e = .returned (.int .i64 r) ∧ Drawn0 w w' := by
 have HR0 := Aside0.mk hr0
 have HC0 := Aside0.mk hc0
 clear hr0 hc0
 have H : (if (wrap64 (a1 - (l0.length : Int))) < 0 then (some (-1)) else (some (wrap64 (a1 - (l0.length : Int))))) = some r := h
 clear h
 by_cases c3 : (wrap64 (a1 - (l0.length : Int))) < 0
 ·rw [if_pos c3] at H
  have c3b0 : decide ((wrap64 (a1 - (l0.length : Int))) < 0) = true := decide_eq_true c3
  clear c3
  obtain rfl := Option.some.inj H
  go_enter Try.func83, Try.ntmps83
  go_wp2
  go_ret
  exact ⟨zi, zdr⟩
 rw [if_neg c3] at H
 have c3b0 : decide ((wrap64 (a1 - (l0.length : Int))) < 0) = false := decide_eq_false c3
 clear c3
 obtain rfl := Option.some.inj H
 go_enter Try.func83, Try.ntmps83
 go_wp2
 go_ret
 exact ⟨zi, zdr⟩
def laws_szCellS.f (l0 : List (S71)) (a1 : Int) : Option (Int) := if (wrap64 (a1 - (l0.length : Int))) < 0 then (some (-1)) else (some (wrap64 (a1 - (l0.length : Int))))
theorem laws_szCellS.calls (A0 : Option Addr) (c0 : Nat) (l0 : List (S71)) (a1 : Int) (r : Int) (w : World) (hr0 : Kd.C k71 w A0 l0.length l0) (hc0 : l0.length ≤ c0) (h : laws_szCellS.f l0 a1 = some r) :
    Calls Try.prog 84 #[.slice A0 l0.length c0, .int .i64 a1] w fun e w' => e = .returned (.int .i64 r) ∧ Drawn0 w w' := by
 have HR0 := Aside0.mk hr0
 have HC0 := Aside0.mk hc0
 clear hr0 hc0
 have H : (if (wrap64 (a1 - (l0.length : Int))) < 0 then (some (-1)) else (some (wrap64 (a1 - (l0.length : Int))))) = some r := h
 clear h
 by_cases c3 : (wrap64 (a1 - (l0.length : Int))) < 0
 ·rw [if_pos c3] at H
  have c3b0 : decide ((wrap64 (a1 - (l0.length : Int))) < 0) = true := decide_eq_true c3
  clear c3
  obtain rfl := Option.some.inj H
  go_enter Try.func84, Try.ntmps84
  go_wp2
  go_ret
  exact ⟨zi, zdr⟩
 rw [if_neg c3] at H
 have c3b0 : decide ((wrap64 (a1 - (l0.length : Int))) < 0) = false := decide_eq_false c3
 clear c3
 obtain rfl := Option.some.inj H
 go_enter Try.func84, Try.ntmps84
 go_wp2
 go_ret
 exact ⟨zi, zdr⟩
def laws_szMachine.f (a0_0 : Int) (a0_1 : Int) (l0_2 : List (S88)) (l0_3 : List (S182)) (l0_4 : List (S71)) (a1 : Int) : Option (Int) := (laws_szBoard.f a0_0 a0_1 l0_2 a1).bind fun t104 => (if t104 < 0 then (some (-1)) else ((laws_szPortS.f l0_3 t104).bind fun t105 => (if t105 < 0 then (some (-1)) else ((laws_szCellS.f l0_4 t105).bind fun t106 => (if t106 < 0 then (some (-1)) else (some t106))))))
theorem laws_szMachine.calls (a0_0 : Int) (a0_1 : Int) (A0_2 : Option Addr) (c0_2 : Nat) (l0_2 : List (S88)) (A0_3 : Option Addr) (c0_3 : Nat) (l0_3 : List (S182)) (A0_4 : Option Addr) (c0_4 : Nat) (l0_4 : List (S71)) (a1 : Int) (r : Int) (w : World) (hr0_2 : Kd.C k88 w A0_2 l0_2.length l0_2) (hc0_2 : l0_2.length ≤ c0_2) (hr0_3 : Kd.C k182 w A0_3 l0_3.length l0_3) (hc0_3 : l0_3.length ≤ c0_3) (hr0_4 : Kd.C k71 w A0_4 l0_4.length l0_4) (hc0_4 : l0_4.length ≤ c0_4) (h : laws_szMachine.f a0_0 a0_1 l0_2 l0_3 l0_4 a1 = some r) :
    Calls Try.prog 21 #[.agg #[.int .i8 a0_0, .int .i8 a0_1, .slice A0_2 l0_2.length c0_2, .slice A0_3 l0_3.length c0_3, .slice A0_4 l0_4.length c0_4], .int .i64 a1] w fun e w' => e = .returned (.int .i64 r) ∧ Below w.heap.size w w' := by
 have hu29 := Try.underlying29
 have hu25 := Try.underlying25
 have HR0_2 := Aside0.mk hr0_2
 have HC0_2 := Aside0.mk hc0_2
 clear hr0_2 hc0_2
 have HR0_3 := Aside0.mk hr0_3
 have HC0_3 := Aside0.mk hc0_3
 clear hr0_3 hc0_3
 have HR0_4 := Aside0.mk hr0_4
 have HC0_4 := Aside0.mk hc0_4
 clear hr0_4 hc0_4
 have HB := Aside0.mk (Below.refl w.heap.size w)
 have H : ((laws_szBoard.f a0_0 a0_1 l0_2 a1).bind fun t104 => (if t104 < 0 then (some (-1)) else ((laws_szPortS.f l0_3 t104).bind fun t105 => (if t105 < 0 then (some (-1)) else ((laws_szCellS.f l0_4 t105).bind fun t106 => (if t106 < 0 then (some (-1)) else (some t106))))))) = some r := h
 clear h
 replace H := zob H
 obtain ⟨t104, A30, H⟩ := H
 replace H : (if t104 < 0 then (some (-1)) else ((laws_szPortS.f l0_3 t104).bind fun t105 => (if t105 < 0 then (some (-1)) else ((laws_szCellS.f l0_4 t105).bind fun t106 => (if t106 < 0 then (some (-1)) else (some t106)))))) = some r := H
 have A3 := Aside0.mk A30
 clear A30
 by_cases c4 : t104 < 0
 ·rw [if_pos c4] at H
  have c4b0 : decide (t104 < 0) = true := decide_eq_true c4
  clear c4
  obtain rfl := Option.some.inj H
  go_enter Try.func21, Try.ntmps21
  go_wp2_with (first | ((with_reducible refine gate_dst (N := 2) rfl ?_); refine zbx 2 #[.int .i8 a0_0, .int .i8 a0_1, .slice A0_2 l0_2.length c0_2, .slice A0_3 l0_3.length c0_3, .slice A0_4 l0_4.length c0_4] 29 ?_; intro gb103 hg w5 hbox hb; have n_ : _ ∧ _ ∧ _ ∧ _ := ⟨zb HB hb, Aside0.mk (hbox), zg HB hg, zg HB hg⟩; clear HB; obtain ⟨HB, BK103, GW103, GE103⟩ := n_; clear hb hbox hg; obtain ⟨z6_0, z6_1, z6_2, z6_3, z6_4, y6_0, y6_1, y6_2, y6_3, y6_4⟩ := zB5 BK103) | ((with_reducible refine gate_callee (f := 40) rfl ?_); refine goesL_ (some 8) rfl rfl Try.func40 (by kernel_rfl) rfl #[.agg #[.int .i8 a0_0, .int .i8 a0_1, .slice A0_2 l0_2.length c0_2], .int .i64 a1] rfl zm ?_; (with_reducible refine (laws_szBoard.calls a0_0 a0_1 _ _ l0_2 a1 t104 _ ?side1 ?side2 A3.out).mono ?_); (case side1 => exact zcc HB HR0_2.out); (case side2 => exact HC0_2.out); rintro e w7 ⟨rfl, hb⟩; refine ⟨_, rfl, ?_⟩; have n_ : _ ∧ _ := ⟨zk BK103 hb, zbs hb⟩; clear BK103 HB; obtain ⟨BK103, HB⟩ := n_; (try clear hb); (try clear hb2); (try clear hk); (try clear hi)))
  go_ret
  exact ⟨zv, zbo⟩
 rw [if_neg c4] at H
 have c4b0 : decide (t104 < 0) = false := decide_eq_false c4
 clear c4
 replace H := zob H
 obtain ⟨t105, A80, H⟩ := H
 replace H : (if t105 < 0 then (some (-1)) else ((laws_szCellS.f l0_4 t105).bind fun t106 => (if t106 < 0 then (some (-1)) else (some t106)))) = some r := H
 have A8 := Aside0.mk A80
 clear A80
 by_cases c9 : t105 < 0
 ·rw [if_pos c9] at H
  have c9b0 : decide (t105 < 0) = true := decide_eq_true c9
  clear c9
  obtain rfl := Option.some.inj H
  go_enter Try.func21, Try.ntmps21
  go_wp2_with (first | ((with_reducible refine gate_dst (N := 2) rfl ?_); refine zbx 2 #[.int .i8 a0_0, .int .i8 a0_1, .slice A0_2 l0_2.length c0_2, .slice A0_3 l0_3.length c0_3, .slice A0_4 l0_4.length c0_4] 29 ?_; intro gb103 hg w10 hbox hb; have n_ : _ ∧ _ ∧ _ ∧ _ := ⟨zb HB hb, Aside0.mk (hbox), zg HB hg, zg HB hg⟩; clear HB; obtain ⟨HB, BK103, GW103, GE103⟩ := n_; clear hb hbox hg; obtain ⟨z11_0, z11_1, z11_2, z11_3, z11_4, y11_0, y11_1, y11_2, y11_3, y11_4⟩ := zB5 BK103) | ((with_reducible refine gate_callee (f := 40) rfl ?_); refine goesL_ (some 8) rfl rfl Try.func40 (by kernel_rfl) rfl #[.agg #[.int .i8 a0_0, .int .i8 a0_1, .slice A0_2 l0_2.length c0_2], .int .i64 a1] rfl zm ?_; (with_reducible refine (laws_szBoard.calls a0_0 a0_1 _ _ l0_2 a1 t104 _ ?side1 ?side2 A3.out).mono ?_); (case side1 => exact zcc HB HR0_2.out); (case side2 => exact HC0_2.out); rintro e w12 ⟨rfl, hb⟩; refine ⟨_, rfl, ?_⟩; have n_ : _ ∧ _ := ⟨zk BK103 hb, zbs hb⟩; clear BK103 HB; obtain ⟨BK103, HB⟩ := n_; (try clear hb); (try clear hb2); (try clear hk); (try clear hi); obtain ⟨z13_0, z13_1, z13_2, z13_3, z13_4, y13_0, y13_1, y13_2, y13_3, y13_4⟩ := zB5 BK103) | ((with_reducible refine gate_callee (f := 83) rfl ?_); refine goesL_ (some 14) rfl rfl Try.func83 (by kernel_rfl) rfl #[.slice A0_3 l0_3.length c0_3, .int .i64 t104] rfl zm ?_; (with_reducible refine (laws_szPortS.calls _ _ l0_3 t104 t105 _ ?side1 ?side2 A8.out).mono ?_); (case side1 => exact zcc HB HR0_3.out); (case side2 => exact HC0_3.out); rintro e w' ⟨rfl, ⟨nd, rfl⟩⟩; refine ⟨_, rfl, ?_⟩))
  go_ret
  exact ⟨zv, zbo⟩
 rw [if_neg c9] at H
 have c9b0 : decide (t105 < 0) = false := decide_eq_false c9
 clear c9
 replace H := zob H
 obtain ⟨t106, A140, H⟩ := H
 replace H : (if t106 < 0 then (some (-1)) else (some t106)) = some r := H
 have A14 := Aside0.mk A140
 clear A140
 by_cases c15 : t106 < 0
 ·rw [if_pos c15] at H
  have c15b0 : decide (t106 < 0) = true := decide_eq_true c15
  clear c15
  obtain rfl := Option.some.inj H
  go_enter Try.func21, Try.ntmps21
  go_wp2_with (first | ((with_reducible refine gate_dst (N := 2) rfl ?_); refine zbx 2 #[.int .i8 a0_0, .int .i8 a0_1, .slice A0_2 l0_2.length c0_2, .slice A0_3 l0_3.length c0_3, .slice A0_4 l0_4.length c0_4] 29 ?_; intro gb103 hg w16 hbox hb; have n_ : _ ∧ _ ∧ _ ∧ _ := ⟨zb HB hb, Aside0.mk (hbox), zg HB hg, zg HB hg⟩; clear HB; obtain ⟨HB, BK103, GW103, GE103⟩ := n_; clear hb hbox hg; obtain ⟨z17_0, z17_1, z17_2, z17_3, z17_4, y17_0, y17_1, y17_2, y17_3, y17_4⟩ := zB5 BK103) | ((with_reducible refine gate_callee (f := 40) rfl ?_); refine goesL_ (some 8) rfl rfl Try.func40 (by kernel_rfl) rfl #[.agg #[.int .i8 a0_0, .int .i8 a0_1, .slice A0_2 l0_2.length c0_2], .int .i64 a1] rfl zm ?_; (with_reducible refine (laws_szBoard.calls a0_0 a0_1 _ _ l0_2 a1 t104 _ ?side1 ?side2 A3.out).mono ?_); (case side1 => exact zcc HB HR0_2.out); (case side2 => exact HC0_2.out); rintro e w18 ⟨rfl, hb⟩; refine ⟨_, rfl, ?_⟩; have n_ : _ ∧ _ := ⟨zk BK103 hb, zbs hb⟩; clear BK103 HB; obtain ⟨BK103, HB⟩ := n_; (try clear hb); (try clear hb2); (try clear hk); (try clear hi); obtain ⟨z19_0, z19_1, z19_2, z19_3, z19_4, y19_0, y19_1, y19_2, y19_3, y19_4⟩ := zB5 BK103) | ((with_reducible refine gate_callee (f := 83) rfl ?_); refine goesL_ (some 14) rfl rfl Try.func83 (by kernel_rfl) rfl #[.slice A0_3 l0_3.length c0_3, .int .i64 t104] rfl zm ?_; (with_reducible refine (laws_szPortS.calls _ _ l0_3 t104 t105 _ ?side1 ?side2 A8.out).mono ?_); (case side1 => exact zcc HB HR0_3.out); (case side2 => exact HC0_3.out); rintro e w' ⟨rfl, ⟨nd, rfl⟩⟩; refine ⟨_, rfl, ?_⟩) | ((with_reducible refine gate_callee (f := 84) rfl ?_); refine goesL_ (some 20) rfl rfl Try.func84 (by kernel_rfl) rfl #[.slice A0_4 l0_4.length c0_4, .int .i64 t105] rfl zm ?_; (with_reducible refine (laws_szCellS.calls _ _ l0_4 t105 t106 _ ?side1 ?side2 A14.out).mono ?_); (case side1 => repeat (first | exact (Kd.C_below HR0_4.out zbo) | (with_reducible refine Kd.C_alloc ?_ _) | (with_reducible refine Kd.C_drewN ?_ _) | (with_reducible refine Kd.C_drew ?_))); (case side2 => exact HC0_4.out); rintro e w' ⟨rfl, ⟨nd, rfl⟩⟩; refine ⟨_, rfl, ?_⟩))
  go_ret
  exact ⟨zv, zbo⟩
 rw [if_neg c15] at H
 have c15b0 : decide (t106 < 0) = false := decide_eq_false c15
 clear c15
 obtain rfl := Option.some.inj H
 go_enter Try.func21, Try.ntmps21
 go_wp2_with (first | ((with_reducible refine gate_dst (N := 2) rfl ?_); refine zbx 2 #[.int .i8 a0_0, .int .i8 a0_1, .slice A0_2 l0_2.length c0_2, .slice A0_3 l0_3.length c0_3, .slice A0_4 l0_4.length c0_4] 29 ?_; intro gb103 hg w20 hbox hb; have n_ : _ ∧ _ ∧ _ ∧ _ := ⟨zb HB hb, Aside0.mk (hbox), zg HB hg, zg HB hg⟩; clear HB; obtain ⟨HB, BK103, GW103, GE103⟩ := n_; clear hb hbox hg; obtain ⟨z21_0, z21_1, z21_2, z21_3, z21_4, y21_0, y21_1, y21_2, y21_3, y21_4⟩ := zB5 BK103) | ((with_reducible refine gate_callee (f := 40) rfl ?_); refine goesL_ (some 8) rfl rfl Try.func40 (by kernel_rfl) rfl #[.agg #[.int .i8 a0_0, .int .i8 a0_1, .slice A0_2 l0_2.length c0_2], .int .i64 a1] rfl zm ?_; (with_reducible refine (laws_szBoard.calls a0_0 a0_1 _ _ l0_2 a1 t104 _ ?side1 ?side2 A3.out).mono ?_); (case side1 => exact zcc HB HR0_2.out); (case side2 => exact HC0_2.out); rintro e w22 ⟨rfl, hb⟩; refine ⟨_, rfl, ?_⟩; have n_ : _ ∧ _ := ⟨zk BK103 hb, zbs hb⟩; clear BK103 HB; obtain ⟨BK103, HB⟩ := n_; (try clear hb); (try clear hb2); (try clear hk); (try clear hi); obtain ⟨z23_0, z23_1, z23_2, z23_3, z23_4, y23_0, y23_1, y23_2, y23_3, y23_4⟩ := zB5 BK103) | ((with_reducible refine gate_callee (f := 83) rfl ?_); refine goesL_ (some 14) rfl rfl Try.func83 (by kernel_rfl) rfl #[.slice A0_3 l0_3.length c0_3, .int .i64 t104] rfl zm ?_; (with_reducible refine (laws_szPortS.calls _ _ l0_3 t104 t105 _ ?side1 ?side2 A8.out).mono ?_); (case side1 => exact zcc HB HR0_3.out); (case side2 => exact HC0_3.out); rintro e w' ⟨rfl, ⟨nd, rfl⟩⟩; refine ⟨_, rfl, ?_⟩) | ((with_reducible refine gate_callee (f := 84) rfl ?_); refine goesL_ (some 20) rfl rfl Try.func84 (by kernel_rfl) rfl #[.slice A0_4 l0_4.length c0_4, .int .i64 t105] rfl zm ?_; (with_reducible refine (laws_szCellS.calls _ _ l0_4 t105 t106 _ ?side1 ?side2 A14.out).mono ?_); (case side1 => repeat (first | exact (Kd.C_below HR0_4.out zbo) | (with_reducible refine Kd.C_alloc ?_ _) | (with_reducible refine Kd.C_drewN ?_ _) | (with_reducible refine Kd.C_drew ?_))); (case side2 => exact HC0_4.out); rintro e w' ⟨rfl, ⟨nd, rfl⟩⟩; refine ⟨_, rfl, ?_⟩))
 go_ret
 exact ⟨zv, zbo⟩
def laws_toCell.l0 : Nat → Int → Int → Int → Int → Int → Option (Int × Int)
  | 0, _, _, _, _, _ => none
  | k + 1, x4, x108000, x108001, x110000, x110001 => if x4 < 2 then (if x4 = 0 then (laws_toCell.l0 k (wrap64 (x4 + 1)) x108000 x108001 x108000 x110001) else (if x4 = 1 then (laws_toCell.l0 k (wrap64 (x4 + 1)) x108000 x108001 x110000 x108001) else (none))) else (some (x110000, x110001))
def laws_toCell.f (k : Nat) (a0_0 : Int) (a0_1 : Int) : Option (Int × Int) := laws_toCell.l0 k 0 a0_0 a0_1 0 0
theorem laws_toCell.mono_l : ∀ k, (∀ y0 y1 y2 y3 y4, LeO (laws_toCell.l0 k y0 y1 y2 y3 y4) (laws_toCell.l0 (k + 1) y0 y1 y2 y3 y4))
  | 0 => fun _ _ _ _ _ r h => by simp [laws_toCell.l0] at h
  | k + 1 => by
    have ih0 := laws_toCell.mono_l k
    · intro y0 y1 y2 y3 y4
      unfold laws_toCell.l0
      repeat' first | (with_reducible first | apply ih0 | exact LeO.refl _ | exact LeO.none _ | refine LeO.ite ?_ ?_ | refine LeO.bind ?_ (fun _ => ?_)) | apply ih0 | exact LeO.none _ | refine LeO.ite ?_ ?_ | refine LeO.bind ?_ (fun _ => ?_)
theorem laws_toCell.mono : ∀ a0 a1 k, LeO (laws_toCell.f k a0 a1) (laws_toCell.f (k + 1) a0 a1) := by
 intro a0 a1 k
 have ih0 := laws_toCell.mono_l k
 unfold laws_toCell.f
 repeat' first | (with_reducible first | apply ih0 | exact LeO.refl _ | exact LeO.none _ | refine LeO.ite ?_ ?_ | refine LeO.bind ?_ (fun _ => ?_)) | apply ih0 | exact LeO.none _ | refine LeO.ite ?_ ?_ | refine LeO.bind ?_ (fun _ => ?_)
theorem laws_toCell.calls (k : Nat) (a0_0 : Int) (a0_1 : Int) (r1 : Int) (r2 : Int) (w : World) (h : laws_toCell.f k a0_0 a0_1 = some (r1, r2)) :
    Calls Try.prog 53 #[.agg #[.int .i8 a0_0, .int .i8 a0_1]] w fun e w' => e = .returned (.agg #[.int .i8 r1, .int .i8 r2]) ∧ Below w.heap.size w w' := by
 have hu71 := Try.underlying71
 have hu74 := Try.underlying74
 have HB := Aside0.mk (Below.refl w.heap.size w)
 have H : (laws_toCell.l0 k 0 a0_0 a0_1 0 0) = some (r1, r2) := h
 clear h
 have H' := Aside0.mk H
 clear H
 go_enter Try.func53, Try.ntmps53
 go_wp2_with (first | ((with_reducible refine gate_dst (N := 1) rfl ?_); refine zbx 1 #[.int .i8 a0_0, .int .i8 a0_1] 71 ?_; intro gb107 hg w2 hbox hb; have n_ : _ ∧ _ ∧ _ ∧ _ := ⟨zb HB hb, Aside0.mk (hbox), zg HB hg, zg HB hg⟩; clear HB; obtain ⟨HB, BK107, GW107, GE107⟩ := n_; clear hb hbox hg) | ((with_reducible refine gate_dst (N := 2) rfl ?_); refine zbx 2 #[.int .i8 0, .int .i8 0] 74 ?_; intro gb108 hg w3 hbox hb; have n_ : _ ∧ _ ∧ _ ∧ _ ∧ _ ∧ _ ∧ _ := ⟨zk BK107 hb, zbs hb, Aside0.mk (hbox), zg HB hg, zg HB hg, zn1 BK107 hg, zn2 BK107 hg⟩; clear BK107 HB; obtain ⟨BK107, HB, BK108, GW108, GE108, NB107_108, NB108_107⟩ := n_; clear hb hbox hg) | ((with_reducible refine gate_dst (N := 3) rfl ?_); refine zbx 3 #[.int .i8 0, .int .i8 0] 74 ?_; intro gb109 hg w4 hbox hb; have n_ : _ ∧ _ ∧ _ ∧ _ ∧ _ ∧ _ ∧ _ ∧ _ ∧ _ ∧ _ := ⟨zk BK107 hb, zk BK108 hb, zbs hb, Aside0.mk (hbox), zg HB hg, zg HB hg, zn1 BK107 hg, zn2 BK107 hg, zn1 BK108 hg, zn2 BK108 hg⟩; clear BK107 BK108 HB; obtain ⟨BK107, BK108, HB, BK109, GW109, GE109, NB107_109, NB109_107, NB108_109, NB109_108⟩ := n_; clear hb hbox hg))
 go_loopg [4] k (fun kq v4 w' => ∃ (x4_1 : Int) (x110000_1 : Int) (x110001_1 : Int), v4 = .int .i64 x4_1 ∧ Aside0 (laws_toCell.l0 kq x4_1 a0_0 a0_1 x110000_1 x110001_1 = some (r1, r2)) ∧ Aside0 (kq ≤ k) ∧ Aside0 (w'.heap[gb107]? = some (.cells #[.int .i8 a0_0, .int .i8 a0_1] 71 (0, 0))) ∧ Aside0 (w'.heap[gb108]? = some (.cells #[.int .i8 0, .int .i8 0] 74 (0, 0))) ∧ Aside0 (w'.heap[gb109]? = some (.cells #[.int .i8 x110000_1, .int .i8 x110001_1] 74 (0, 0))) ∧ Aside0 (Below w.heap.size w w'))
 case atStart => exact ⟨(0), (0), (0), zi, H', ⟨Nat.le_refl _⟩, zh BK107, zh BK108, zh BK109, zba⟩
 clear H'
 try clear p2
 obtain ⟨x4_1, x110000_1, x110001_1, rfl, HA, HK1, BK107, BK108, BK109, HB⟩ := hrel
 cases gk with
 | zero => exact absurd HA.out (by simp [laws_toCell.l0])
 | succ k1 => ?_
 have H := HA.out
 clear HA
 simp only [laws_toCell.l0] at H
 by_cases c5 : x4_1 < 2
 rotate_left
 ·rw [if_neg c5] at H
  have c5b0 : decide (x4_1 < 2) = false := decide_eq_false c5
  clear c5
  simp only [Option.some.injEq, Prod.mk.injEq] at H
  obtain ⟨rfl, rfl⟩ := H
  have hnb22 := NB109_107.out
  have hnc22 := NB107_109.out
  have hnb23 := NB109_108.out
  have hnc23 := NB108_109.out
  obtain ⟨z24_0, z24_1, y24_0, y24_1⟩ := zB2 BK109
  have hnb25 := NB108_107.out
  have hnc25 := NB107_108.out
  obtain ⟨z26_0, z26_1, y26_0, y26_1⟩ := zB2 BK108
  go_wp2
  refine bodyPost_ret (results_cell_row rfl _ _ gb108 74 #[.int .i8 x110000_1, .int .i8 x110001_1] (0, 0) _ rfl (zp BK108) Try.underlying74 rfl (by kernel_rfl)) rfl ?_
  exact ⟨zv, zbo⟩
 rw [if_pos c5] at H
 have c5b0 : decide (x4_1 < 2) = true := decide_eq_true c5
 clear c5
 by_cases c6 : x4_1 = 0
 ·rw [if_pos c6] at H
  have Ac6 : Aside0 (x4_1 = 0) := ⟨c6⟩
  clear c6
  have ar7e : x4_1 = 0 := by first | exact (show Aside0 (x4_1 = 0) by assumption).out | exact beq_iff_eq.mp (by assumption) | omega
  have ar7n : (x4_1).toNat = 0 := by rw [ar7e]; rfl
  have ar7l : decide (0 ≤ x4_1) = true := decide_eq_true (by omega)
  have ar7L := eq_true (of_decide_eq_true ar7l)
  have ar7h : decide (x4_1 < 2) = true := decide_eq_true (by omega)
  have ar7H := eq_true (of_decide_eq_true ar7h)
  clear ar7e
  have ar8e : x4_1 = 0 := by first | exact (show Aside0 (x4_1 = 0) by assumption).out | exact beq_iff_eq.mp (by assumption) | omega
  have ar8n : (x4_1).toNat = 0 := by rw [ar8e]; rfl
  have ar8l : decide (0 ≤ x4_1) = true := decide_eq_true (by omega)
  have ar8L := eq_true (of_decide_eq_true ar8l)
  have ar8h : decide (x4_1 < 2) = true := decide_eq_true (by omega)
  have ar8H := eq_true (of_decide_eq_true ar8h)
  clear ar8e
  have H' := Aside0.mk H
  clear H
  have hnb9 := NB107_108.out
  have hnc9 := NB108_107.out
  have hnb10 := NB107_109.out
  have hnc10 := NB109_107.out
  obtain ⟨z11_0, z11_1, y11_0, y11_1⟩ := zB2 BK107
  have hnb12 := NB109_108.out
  have hnc12 := NB108_109.out
  obtain ⟨z13_0, z13_1, y13_0, y13_1⟩ := zB2 BK109
  go_wp2
  go_roundg k1
  case measure => have := HK1.out; omega
  case rel => exact ⟨(wrap64 (x4_1 + 1)), (a0_0), (x110001_1), zi, H', ⟨by have := HK1.out; omega⟩, zf BK107 NB107_109, zf BK108 NB108_109, ⟨zp BK109⟩, zba⟩
 rw [if_neg c6] at H
 clear c6
 by_cases c14 : x4_1 = 1
 rotate_left
 ·rw [if_neg c14] at H
  exact absurd H (by simp)
 rw [if_pos c14] at H
 have Ac14 : Aside0 (x4_1 = 1) := ⟨c14⟩
 clear c14
 have ar15e : x4_1 = 1 := by first | exact (show Aside0 (x4_1 = 1) by assumption).out | exact beq_iff_eq.mp (by assumption) | omega
 have ar15n : (x4_1).toNat = 1 := by rw [ar15e]; rfl
 have ar15l : decide (0 ≤ x4_1) = true := decide_eq_true (by omega)
 have ar15L := eq_true (of_decide_eq_true ar15l)
 have ar15h : decide (x4_1 < 2) = true := decide_eq_true (by omega)
 have ar15H := eq_true (of_decide_eq_true ar15h)
 clear ar15e
 have ar16e : x4_1 = 1 := by first | exact (show Aside0 (x4_1 = 1) by assumption).out | exact beq_iff_eq.mp (by assumption) | omega
 have ar16n : (x4_1).toNat = 1 := by rw [ar16e]; rfl
 have ar16l : decide (0 ≤ x4_1) = true := decide_eq_true (by omega)
 have ar16L := eq_true (of_decide_eq_true ar16l)
 have ar16h : decide (x4_1 < 2) = true := decide_eq_true (by omega)
 have ar16H := eq_true (of_decide_eq_true ar16h)
 clear ar16e
 have H' := Aside0.mk H
 clear H
 have hnb17 := NB107_108.out
 have hnc17 := NB108_107.out
 have hnb18 := NB107_109.out
 have hnc18 := NB109_107.out
 obtain ⟨z19_0, z19_1, y19_0, y19_1⟩ := zB2 BK107
 have hnb20 := NB109_108.out
 have hnc20 := NB108_109.out
 obtain ⟨z21_0, z21_1, y21_0, y21_1⟩ := zB2 BK109
 go_wp2
 go_roundg k1
 case measure => have := HK1.out; omega
 case rel => exact ⟨(wrap64 (x4_1 + 1)), (x110000_1), (a0_1), zi, H', ⟨by have := HK1.out; omega⟩, zf BK107 NB107_109, zf BK108 NB108_109, ⟨zp BK109⟩, zba⟩
def laws_toPiece.f (k : Nat) (a0_0 : Int) (a0_1 : Int) (a0_2 : Int) (a0_3 : Int) (a0_4 : Int) : Option (Int × Int × Int × Int × Int) := (laws_toCell.f k a0_0 a0_1).bind fun bt113 => (some (bt113.1, bt113.2, a0_2, a0_3, a0_4))
theorem laws_toPiece.mono : ∀ a0 a1 a2 a3 a4 k, LeO (laws_toPiece.f k a0 a1 a2 a3 a4) (laws_toPiece.f (k + 1) a0 a1 a2 a3 a4) := by
 intro a0 a1 a2 a3 a4 k
 unfold laws_toPiece.f
 repeat' first | (with_reducible first | apply laws_toCell.mono | exact LeO.refl _ | exact LeO.none _ | refine LeO.ite ?_ ?_ | refine LeO.bind ?_ (fun _ => ?_)) | apply laws_toCell.mono | exact LeO.none _ | refine LeO.ite ?_ ?_ | refine LeO.bind ?_ (fun _ => ?_)
theorem laws_toPiece.calls (k : Nat) (a0_0 : Int) (a0_1 : Int) (a0_2 : Int) (a0_3 : Int) (a0_4 : Int) (r1 : Int) (r2 : Int) (r3 : Int) (r4 : Int) (r5 : Int) (w : World) (h : laws_toPiece.f k a0_0 a0_1 a0_2 a0_3 a0_4 = some (r1, r2, r3, r4, r5)) :
    Calls Try.prog 65 #[.agg #[.int .i8 a0_0, .int .i8 a0_1, .int .i8 a0_2, .int .i8 a0_3, .int .i8 a0_4]] w fun e w' => e = .returned (.agg #[.int .i8 r1, .int .i8 r2, .int .i8 r3, .int .i8 r4, .int .i8 r5]) ∧ Below w.heap.size w w' := by
 have hu88 := Try.underlying88
 have hu91 := Try.underlying91
 have hu71 := Try.underlying71
 have hu74 := Try.underlying74
 have HB := Aside0.mk (Below.refl w.heap.size w)
 have H : ((laws_toCell.f k a0_0 a0_1).bind fun bt113 => (some (bt113.1, bt113.2, a0_2, a0_3, a0_4))) = some (r1, r2, r3, r4, r5) := h
 clear h
 replace H := zob H
 obtain ⟨⟨t113, t114⟩, A20, H⟩ := H
 replace H : (some (t113, t114, a0_2, a0_3, a0_4)) = some (r1, r2, r3, r4, r5) := H
 have A2 := Aside0.mk A20
 clear A20
 simp only [Option.some.injEq, Prod.mk.injEq] at H
 obtain ⟨rfl, rfl, rfl, rfl, rfl⟩ := H
 go_enter Try.func65, Try.ntmps65
 go_wp2_with (first | ((with_reducible refine gate_dst (N := 1) rfl ?_); refine zbx 1 #[.int .i8 a0_0, .int .i8 a0_1, .int .i8 a0_2, .int .i8 a0_3, .int .i8 a0_4] 88 ?_; intro gb110 hg w3 hbox hb; have n_ : _ ∧ _ ∧ _ ∧ _ := ⟨zb HB hb, Aside0.mk (hbox), zg HB hg, zg HB hg⟩; clear HB; obtain ⟨HB, BK110, GW110, GE110⟩ := n_; clear hb hbox hg) | ((with_reducible refine gate_dst (N := 2) rfl ?_); refine zbx 2 #[.int .i8 0, .int .i8 0, .int .i8 0, .int .i8 0, .int .i8 0] 91 ?_; intro gb111 hg w4 hbox hb; have n_ : _ ∧ _ ∧ _ ∧ _ ∧ _ ∧ _ ∧ _ := ⟨zk BK110 hb, zbs hb, Aside0.mk (hbox), zg HB hg, zg HB hg, zn1 BK110 hg, zn2 BK110 hg⟩; clear BK110 HB; obtain ⟨BK110, HB, BK111, GW111, GE111, NB110_111, NB111_110⟩ := n_; clear hb hbox hg) | ((with_reducible refine gate_dst (N := 3) rfl ?_); refine zbx 3 #[.int .i8 0, .int .i8 0, .int .i8 0, .int .i8 0, .int .i8 0] 91 ?_; intro gb112 hg w5 hbox hb; have n_ : _ ∧ _ ∧ _ ∧ _ ∧ _ ∧ _ ∧ _ ∧ _ ∧ _ ∧ _ := ⟨zk BK110 hb, zk BK111 hb, zbs hb, Aside0.mk (hbox), zg HB hg, zg HB hg, zn1 BK110 hg, zn2 BK110 hg, zn1 BK111 hg, zn2 BK111 hg⟩; clear BK110 BK111 HB; obtain ⟨BK110, BK111, HB, BK112, GW112, GE112, NB110_112, NB112_110, NB111_112, NB112_111⟩ := n_; clear hb hbox hg; have hnb6 := NB110_111.out; have hnc6 := NB111_110.out; have hnb7 := NB110_112.out; have hnc7 := NB112_110.out; obtain ⟨z8_0, z8_1, z8_2, z8_3, z8_4, y8_0, y8_1, y8_2, y8_3, y8_4⟩ := zB5 BK110) | ((with_reducible refine gate_callee (f := 53) rfl ?_); refine goesL_ (some 6) rfl rfl Try.func53 (by kernel_rfl) rfl #[.agg #[.int .i8 a0_0, .int .i8 a0_1]] rfl zm ?_; (with_reducible refine (laws_toCell.calls k a0_0 a0_1 t113 t114 _ A2.out).mono ?_); rintro e w9 ⟨rfl, hb⟩; refine ⟨_, rfl, ?_⟩; have n_ : _ ∧ _ ∧ _ ∧ _ := ⟨zk BK110 hb, zk BK111 hb, zk BK112 hb, zbs hb⟩; clear BK110 BK111 BK112 HB; obtain ⟨BK110, BK111, BK112, HB⟩ := n_; (try clear hb); (try clear hb2); (try clear hk); (try clear hi); have hnb10 := NB112_111.out; have hnc10 := NB111_112.out; obtain ⟨z11_0, z11_1, z11_2, z11_3, z11_4, y11_0, y11_1, y11_2, y11_3, y11_4⟩ := zB5 BK112; obtain ⟨z12_0, z12_1, z12_2, z12_3, z12_4, y12_0, y12_1, y12_2, y12_3, y12_4⟩ := zB5 BK110; obtain ⟨z13_0, z13_1, z13_2, z13_3, z13_4, y13_0, y13_1, y13_2, y13_3, y13_4⟩ := zB5 BK111))
 refine bodyPost_ret (results_cell_row rfl _ _ gb111 91 #[.int .i8 t113, .int .i8 t114, .int .i8 a0_2, .int .i8 a0_3, .int .i8 a0_4] (0, 0) _ rfl (by (with_reducible repeat (first | refine blk_drewN ?_ _ | refine blk_drew ?_ | refine blk_alloc ?_ _)); refine blk_put (cs := #[.int .i8 t113, .int .i8 t114, .int .i8 a0_2, .int .i8 a0_3, .int .i8 0]) ?_ 4 _ rfl; (with_reducible repeat (first | refine blk_drewN ?_ _ | refine blk_drew ?_ | refine blk_alloc ?_ _)); refine blk_put (cs := #[.int .i8 t113, .int .i8 t114, .int .i8 a0_2, .int .i8 0, .int .i8 0]) ?_ 3 _ rfl; (with_reducible repeat (first | refine blk_drewN ?_ _ | refine blk_drew ?_ | refine blk_alloc ?_ _)); refine blk_put (cs := #[.int .i8 t113, .int .i8 t114, .int .i8 0, .int .i8 0, .int .i8 0]) ?_ 2 _ rfl; (with_reducible repeat (first | refine blk_drewN ?_ _ | refine blk_drew ?_ | refine blk_alloc ?_ _)); refine blk_put (cs := #[.int .i8 t113, .int .i8 0, .int .i8 0, .int .i8 0, .int .i8 0]) ?_ 1 _ rfl; (with_reducible repeat (first | refine blk_drewN ?_ _ | refine blk_drew ?_ | refine blk_alloc ?_ _)); refine blk_put (cs := #[.int .i8 0, .int .i8 0, .int .i8 0, .int .i8 0, .int .i8 0]) ?_ 0 _ rfl; (with_reducible repeat (first | refine blk_drewN ?_ _ | refine blk_drew ?_ | refine blk_alloc ?_ _)); refine blk_far ?_ NB111_112.out _; (with_reducible repeat (first | refine blk_drewN ?_ _ | refine blk_drew ?_ | refine blk_alloc ?_ _)); refine blk_far ?_ NB111_112.out _; (with_reducible repeat (first | refine blk_drewN ?_ _ | refine blk_drew ?_ | refine blk_alloc ?_ _)); refine blk_far ?_ NB111_112.out _; (with_reducible repeat (first | refine blk_drewN ?_ _ | refine blk_drew ?_ | refine blk_alloc ?_ _)); refine blk_far ?_ NB111_112.out _; (with_reducible repeat (first | refine blk_drewN ?_ _ | refine blk_drew ?_ | refine blk_alloc ?_ _)); refine blk_far ?_ NB111_112.out _; (with_reducible repeat (first | refine blk_drewN ?_ _ | refine blk_drew ?_ | refine blk_alloc ?_ _)); exact BK111.out) Try.underlying91 rfl (by kernel_rfl)) rfl ?_
 exact ⟨zv, zbo⟩
def laws_toPieceS.l0 : Nat → List (S88) → List (S91) → Int → Option ((List (S91)))
  | 0, _, _, _ => none
  | k + 1, x0, x3, x4 => if x4 < (x0.length : Int) then (if 0 ≤ x4 then ((laws_toPiece.f k ((rd_T88 x0 x4).f0.f0) ((rd_T88 x0 x4).f0.f1) ((rd_T88 x0 x4).f1) ((rd_T88 x0 x4).f2) ((rd_T88 x0 x4).f3)).bind fun bt119 => (if x4 < (x3.length : Int) then (laws_toPieceS.l0 k x0 (x3.set (x4 : Int).toNat (⟨(⟨bt119.1, bt119.2.1⟩ : S74), bt119.2.2.1, bt119.2.2.2.1, bt119.2.2.2.2⟩ : S91)) (wrap64 (x4 + 1))) else (none))) else (none)) else (some x3)
def laws_toPieceS.f (k : Nat) (l0 : List (S88)) : Option ((List (S91))) := if 0 ≤ (l0.length : Int) then (if ((l0.length : Int) : Int).toNat ≤ 56294995342131 then (laws_toPieceS.l0 k l0 (List.replicate ((l0.length : Int) : Int).toNat z91) 0) else (none)) else (none)
theorem laws_toPieceS.mono_l : ∀ k, (∀ y0 y1 y2, LeO (laws_toPieceS.l0 k y0 y1 y2) (laws_toPieceS.l0 (k + 1) y0 y1 y2))
  | 0 => fun _ _ _ r h => by simp [laws_toPieceS.l0] at h
  | k + 1 => by
    have ih0 := laws_toPieceS.mono_l k
    · intro y0 y1 y2
      unfold laws_toPieceS.l0
      repeat' first | (with_reducible first | apply ih0 | apply laws_toPiece.mono | exact LeO.refl _ | exact LeO.none _ | refine LeO.ite ?_ ?_ | refine LeO.bind ?_ (fun _ => ?_)) | apply ih0 | apply laws_toPiece.mono | exact LeO.none _ | refine LeO.ite ?_ ?_ | refine LeO.bind ?_ (fun _ => ?_)
theorem laws_toPieceS.mono : ∀ a0 k, LeO (laws_toPieceS.f k a0) (laws_toPieceS.f (k + 1) a0) := by
 intro a0 k
 have ih0 := laws_toPieceS.mono_l k
 unfold laws_toPieceS.f
 repeat' first | (with_reducible first | apply ih0 | apply laws_toPiece.mono | exact LeO.refl _ | exact LeO.none _ | refine LeO.ite ?_ ?_ | refine LeO.bind ?_ (fun _ => ?_)) | apply ih0 | apply laws_toPiece.mono | exact LeO.none _ | refine LeO.ite ?_ ?_ | refine LeO.bind ?_ (fun _ => ?_)
theorem laws_toPieceS.calls (k : Nat) (A0 : Option Addr) (c0 : Nat) (l0 : List (S88)) (r : List (S91)) (w : World) (hr0 : Kd.C k88 w A0 l0.length l0) (hc0 : l0.length ≤ c0) (h : laws_toPieceS.f k l0 = some r) :
    Calls Try.prog 107 #[.slice A0 l0.length c0] w fun e w' => ∃ v0_ : Value, e = .returned (v0_) ∧ Kd.R k91 91 w' w.heap.size (fun _ => True) v0_ r ∧ Below w.heap.size w w' := by
 have hu88 := Try.underlying88
 have hu91 := Try.underlying91
 have HR0 := Aside0.mk hr0
 have HC0 := Aside0.mk hc0
 clear hr0 hc0
 have HB := Aside0.mk (Below.refl w.heap.size w)
 have H : (if 0 ≤ (l0.length : Int) then (if ((l0.length : Int) : Int).toNat ≤ 56294995342131 then (laws_toPieceS.l0 k l0 (List.replicate ((l0.length : Int) : Int).toNat z91) 0) else (none)) else (none)) = some r := h
 clear h
 by_cases c2 : 0 ≤ (l0.length : Int)
 rotate_left
 ·rw [if_neg c2] at H
  exact absurd H (by simp)
 rw [if_pos c2] at H
 have c2b0 := eq_true c2
 have c2b1 : decide (0 ≤ (l0.length : Int)) = true := decide_eq_true c2
 clear c2
 by_cases c3 : ((l0.length : Int) : Int).toNat ≤ 56294995342131
 rotate_left
 ·rw [if_neg c3] at H
  exact absurd H (by simp)
 rw [if_pos c3] at H
 have c3b0 := eq_true c3
 have c3b1 : decide (((l0.length : Int) : Int).toNat ≤ 56294995342131) = true := decide_eq_true c3
 clear c3
 obtain ⟨y115, hy115⟩ : ∃ y_ : List (S91), y_ = (List.replicate ((l0.length : Int) : Int).toNat z91) := ⟨_, rfl⟩
 replace H : (laws_toPieceS.l0 k l0 y115 0) = some r := by first | (rw [hy115]; with_reducible exact H) | (have H2_ := (Option.bind_some _ _).symm.trans H; rw [hy115]; with_reducible exact H2_) | (have H2_ := (Option.bind_some _ _).symm.trans H; with_reducible exact H2_) | with_reducible exact H | (rw [hy115]; exact H) | exact H
 have Ny115 := Aside0.mk hy115
 clear hy115
 have H' := Aside0.mk H
 clear H
 go_enter Try.func107, Try.ntmps107
 go_wp2_with (first | ((with_reducible refine gate_dst (N := 7) rfl ?_); refine Kd.R_make k91 _ 91 rfl (N := 7) rfl 35 _ _ rfl (l0.length : Int) rfl rfl Try.underlying35 (.agg #[(.int .i8 0), (.int .i8 0), (.int .i8 0), (.int .i8 0), (.int .i8 0)]) 5 info91 rfl (by decide) (by omega) z91 (ok := fun _ => True) (okp := fun _ => True) (k91_mkM _ _ _ z91 ) (fun _ hk => hk) trivial (of_decide_eq_true zA) (Nat.le_trans (Nat.mul_le_mul_right _ (of_decide_eq_true zA : (l0.length : Int).toNat ≤ 56294995342131)) (by omega)) (Below.refl _ _) (Nat.le_refl _) ?_; intro v116 w4 ho5 hb hg_ hnew_; clear hg_ hnew_; (first | rw [← Ny115.out] at ho5 | (simp only [Int.reduceToNat] at ho5; rw [← Ny115.out] at ho5)); have n_ : _ ∧ _ := ⟨Aside0.mk (Kd.R_lower ho5 (zz HB)), zb HB hb⟩; clear HB; obtain ⟨HO117, HB⟩ := n_; clear hb ho5))
 go_loopg [4] k (fun kq v4 w' => ∃ (x3_1 : List (S91)) (x4_1 : Int), v4 = .int .i64 x4_1 ∧ Aside0 (laws_toPieceS.l0 kq l0 x3_1 x4_1 = some r) ∧ Aside0 (kq ≤ k) ∧ Aside0 (Kd.R k91 91 w' w.heap.size (fun _ => True) v116 x3_1) ∧ Aside0 (Below w.heap.size w w'))
 case atStart => exact ⟨(y115), (0), zi, H', ⟨Nat.le_refl _⟩, ze HO117, zl HB⟩
 clear H'
 try clear c1
 try clear c2
 try clear c2b0
 try clear c2b1
 try clear p2
 try clear c3
 try clear c3b0
 try clear c3b1
 obtain ⟨x3_1, x4_1, rfl, HA, HK1, HO_3, HB⟩ := hrel
 cases gk with
 | zero => exact absurd HA.out (by simp [laws_toPieceS.l0])
 | succ k1 => ?_
 have H := HA.out
 clear HA
 simp only [laws_toPieceS.l0] at H
 by_cases c6 : x4_1 < (l0.length : Int)
 rotate_left
 ·rw [if_neg c6] at H
  have c6b0 : decide (x4_1 < (l0.length : Int)) = false := decide_eq_false c6
  clear c6
  obtain rfl := Option.some.inj H
  go_wp2
  go_ret
  exact ⟨_, zv, by (with_reducible repeat (first | apply Kd.R_alloc | apply Kd.R_drewN | apply Kd.R_drew)); exact HO_3.out, zbo⟩
 rw [if_pos c6] at H
 have c6b0 : decide (x4_1 < (l0.length : Int)) = true := decide_eq_true c6
 clear c6
 by_cases c7 : 0 ≤ x4_1
 rotate_left
 ·rw [if_neg c7] at H
  exact absurd H (by simp)
 rw [if_pos c7] at H
 have c7b0 : decide (0 ≤ x4_1) = true := decide_eq_true c7
 clear c7
 replace H := zob H
 obtain ⟨⟨t119, t120, t121, t122, t123⟩, A80, H⟩ := H
 replace H : (if x4_1 < (x3_1.length : Int) then (laws_toPieceS.l0 k1 l0 (x3_1.set (x4_1 : Int).toNat (⟨(⟨t119, t120⟩ : S74), t121, t122, t123⟩ : S91)) (wrap64 (x4_1 + 1))) else (none)) = some r := H
 have A8 := Aside0.mk A80
 clear A80
 by_cases c9 : x4_1 < (x3_1.length : Int)
 rotate_left
 ·rw [if_neg c9] at H
  exact absurd H (by simp)
 rw [if_pos c9] at H
 have c9b0 : decide (x4_1 < (x3_1.length : Int)) = true := decide_eq_true c9
 clear c9
 obtain ⟨y124, hy124⟩ : ∃ y_ : List (S91), y_ = (x3_1.set (x4_1 : Int).toNat (⟨(⟨t119, t120⟩ : S74), t121, t122, t123⟩ : S91)) := ⟨_, rfl⟩
 replace H : (laws_toPieceS.l0 k1 l0 y124 (wrap64 (x4_1 + 1))) = some r := by first | (rw [hy124]; with_reducible exact H) | (have H2_ := (Option.bind_some _ _).symm.trans H; rw [hy124]; with_reducible exact H2_) | (have H2_ := (Option.bind_some _ _).symm.trans H; with_reducible exact H2_) | with_reducible exact H | (rw [hy124]; exact H) | exact H
 have Ny124 := Aside0.mk hy124
 clear hy124
 have H' := Aside0.mk H
 clear H
 have p118 : 0 ≤ (x4_1 : Int) := of_decide_eq_true zA
 have q118 : x4_1 < (l0.length : Int) := of_decide_eq_true zA
 obtain ⟨ad118, e118, hx118_0, hx118_1, hx118_2, hx118_3, hx118_4⟩ := at_T88 HR0.out x4_1 p118 q118
 cases e118
 replace hx118_0 := zc HB hx118_0
 replace hx118_1 := zc HB hx118_1
 replace hx118_2 := zc HB hx118_2
 replace hx118_3 := zc HB hx118_3
 replace hx118_4 := zc HB hx118_4
 replace p118 := eq_true p118
 replace q118 := eq_true q118
 go_wp2_with (first | ((with_reducible refine gate_callee (f := 65) rfl ?_); refine goesL_ (some 20) rfl rfl Try.func65 (by kernel_rfl) rfl #[.agg #[.int .i8 ((rd_T88 l0 x4_1).f0.f0), .int .i8 ((rd_T88 l0 x4_1).f0.f1), .int .i8 ((rd_T88 l0 x4_1).f1), .int .i8 ((rd_T88 l0 x4_1).f2), .int .i8 ((rd_T88 l0 x4_1).f3)]] rfl zm ?_; (with_reducible refine (laws_toPiece.calls k1 ((rd_T88 l0 x4_1).f0.f0) ((rd_T88 l0 x4_1).f0.f1) ((rd_T88 l0 x4_1).f1) ((rd_T88 l0 x4_1).f2) ((rd_T88 l0 x4_1).f3) t119 t120 t121 t122 t123 _ A8.out).mono ?_); rintro e w11 ⟨rfl, hb⟩; refine ⟨_, rfl, ?_⟩; have n_ : _ ∧ _ := ⟨zr HO_3 hb, zb HB hb⟩; clear HO_3 HB; obtain ⟨HO_3, HB⟩ := n_; (try clear hb); (try clear hb2); (try clear hk); (try clear hi); have p10 : 0 ≤ (x4_1 : Int) := of_decide_eq_true zA; have q10 : (x4_1 : Int) < ((x3_1.length : Int) : Int) := of_decide_eq_true zA; obtain ⟨go10, co10, eo10, gb10, gl10, cl10, HG10⟩ := Kd.R_form HO_3.out (by omega); (first | cases eo10 | (injection eo10 with ea_ en_ ec_; (first | subst ea_ | (injection ea_ with ea_; subst ea_)); subst ec_; clear en_)); have GB10 := Aside0.mk gb10; have GG10 := Aside0.mk HG10; clear gb10 gl10 HG10; obtain ⟨ce10, hcl10, hM10, hcc10, hfr10⟩ := Kd.R_elem HO_3.out z91 (x4_1 : Int) p10 q10; obtain rfl := k91_openM hM10; have hx10_0 : w11.cell? ⟨go10, (x4_1 : Int).toNat * 5, none⟩ = some (.int .i8 ((rd_T91 x3_1 x4_1).f0.f0)) := hcc10 0 _ rfl; have hx10_1 : w11.cell? ⟨go10, (x4_1 : Int).toNat * 5 + 1, none⟩ = some (.int .i8 ((rd_T91 x3_1 x4_1).f0.f1)) := hcc10 1 _ rfl; have hx10_2 : w11.cell? ⟨go10, (x4_1 : Int).toNat * 5 + 2, none⟩ = some (.int .i8 ((rd_T91 x3_1 x4_1).f1)) := hcc10 2 _ rfl; have hx10_3 : w11.cell? ⟨go10, (x4_1 : Int).toNat * 5 + 3, none⟩ = some (.int .i8 ((rd_T91 x3_1 x4_1).f2)) := hcc10 3 _ rfl; have hx10_4 : w11.cell? ⟨go10, (x4_1 : Int).toNat * 5 + 4, none⟩ = some (.int .i8 ((rd_T91 x3_1 x4_1).f3)) := hcc10 4 _ rfl; have hf10_0 : w11.frozen? ⟨go10, (x4_1 : Int).toNat * 5, none⟩ = false := hfr10 0; have hf10_1 : w11.frozen? ⟨go10, (x4_1 : Int).toNat * 5 + 1, none⟩ = false := hfr10 1; have hf10_2 : w11.frozen? ⟨go10, (x4_1 : Int).toNat * 5 + 2, none⟩ = false := hfr10 2; have hf10_3 : w11.frozen? ⟨go10, (x4_1 : Int).toNat * 5 + 3, none⟩ = false := hfr10 3; have hf10_4 : w11.frozen? ⟨go10, (x4_1 : Int).toNat * 5 + 4, none⟩ = false := hfr10 4; clear hcl10 hcc10 hfr10 hM10; replace p10 := eq_true p10; replace q10 := eq_true q10; have HX12 := Aside0.mk (show Kd.R k91 91 w11 w.heap.size (fun _ => True) (.slice (some ⟨go10, 0, none⟩) x3_1.length co10) x3_1 from (ze HO_3).out); obtain ⟨ce12, hcl12, hM12, hcc12, hfr12⟩ := Kd.R_elem HX12.out z91 (x4_1 : Int) (of_decide_eq_true zA) (zlt (x4_1 : Int) (x3_1.length : Int) (Kd.R_reads' HO_3.out).1); obtain rfl := k91_openM hM12; have HP12 := Kd.R_seg HX12.out (x4_1 : Int) (of_decide_eq_true zA) (zlt (x4_1 : Int) (x3_1.length : Int) (Kd.R_reads' HO_3.out).1) (seg := [.int .i8 t119, .int .i8 t120, .int .i8 t121, .int .i8 t122, .int .i8 t123]) (j := 0) hcl12 hcc12 (show 5 ≤ 5 from by decide) (x' := (⟨(⟨t119, t120⟩ : S74), t121, t122, t123⟩ : S91)) (k91_mkM _ _ _ (⟨(⟨t119, t120⟩ : S74), t121, t122, t123⟩ : S91) ) (fun _ hk => hk); have hx12_0 := hcc12 0 _ rfl; (try simp only [show (k91).sz = 5 from rfl, Nat.mul_one, Nat.add_zero] at hx12_0); have hf12_0 := hfr12 0; (try simp only [show (k91).sz = 5 from rfl, Nat.mul_one, Nat.add_zero] at hf12_0); have hx12_1 := hcc12 1 _ rfl; (try simp only [show (k91).sz = 5 from rfl, Nat.mul_one, Nat.add_zero] at hx12_1); have hf12_1 := hfr12 1; (try simp only [show (k91).sz = 5 from rfl, Nat.mul_one, Nat.add_zero] at hf12_1); have hx12_2 := hcc12 2 _ rfl; (try simp only [show (k91).sz = 5 from rfl, Nat.mul_one, Nat.add_zero] at hx12_2); have hf12_2 := hfr12 2; (try simp only [show (k91).sz = 5 from rfl, Nat.mul_one, Nat.add_zero] at hf12_2); have hx12_3 := hcc12 3 _ rfl; (try simp only [show (k91).sz = 5 from rfl, Nat.mul_one, Nat.add_zero] at hx12_3); have hf12_3 := hfr12 3; (try simp only [show (k91).sz = 5 from rfl, Nat.mul_one, Nat.add_zero] at hf12_3); have hx12_4 := hcc12 4 _ rfl; (try simp only [show (k91).sz = 5 from rfl, Nat.mul_one, Nat.add_zero] at hx12_4); have hf12_4 := hfr12 4; (try simp only [show (k91).sz = 5 from rfl, Nat.mul_one, Nat.add_zero] at hf12_4); clear hcl12 hcc12 hfr12 hM12) | ((with_reducible refine gate_store (t := 91) (p := 21) rfl ?_); refine store_event (t := 91) (p := 21) (v := ?vo_w13) (w1 := (((((w11.setCell ⟨go10, (x4_1 : Int).toNat * 5, none⟩ (.int .i8 t119)).setCell ⟨go10, (x4_1 : Int).toNat * 5 + 1, none⟩ (.int .i8 t120)).setCell ⟨go10, (x4_1 : Int).toNat * 5 + 2, none⟩ (.int .i8 t121)).setCell ⟨go10, (x4_1 : Int).toNat * 5 + 3, none⟩ (.int .i8 t122)).setCell ⟨go10, (x4_1 : Int).toNat * 5 + 4, none⟩ (.int .i8 t123))) ?hg ?ho ?hn ?hr ?_; (case ho => rfl); (case hg => rfl); (case hn => rfl); (case hr => exact zgs); intro w13 hw; have hg : w11.grownBy w13 (some go10) := (by rw [hw]; exact HP12.2); have hp_ : Kd.R k91 91 w13 w.heap.size (fun _ => True) (.slice (some ⟨go10, 0, none⟩) x3_1.length co10) y124 := (by rw [hw, Ny124.out]; exact HP12.1); clear HP12; have n_ : _ ∧ _ := ⟨Aside0.mk (hp_), Aside0.mk ((by rw [hw]; exact below_set (below_set (below_set (below_set (below_set (HB.out) GB10.out) GB10.out) GB10.out) GB10.out) GB10.out : Below w.heap.size w w13))⟩; clear HO_3 HB; obtain ⟨HO_3, HB⟩ := n_; clear hg hw hp_))
 go_roundg k1
 case measure => have := HK1.out; omega
 case rel => exact ⟨(y124), (wrap64 (x4_1 + 1)), zi, H', ⟨by have := HK1.out; omega⟩, ze HO_3, zl HB⟩
def laws_toBoard.f (k : Nat) (a0_0 : Int) (a0_1 : Int) (l0_2 : List (S88)) : Option (Int × Int × (List (S91))) := (laws_toPieceS.f k l0_2).bind fun t128 => (some (a0_0, a0_1, t128))
theorem laws_toBoard.mono : ∀ a0 a1 a2 k, LeO (laws_toBoard.f k a0 a1 a2) (laws_toBoard.f (k + 1) a0 a1 a2) := by
 intro a0 a1 a2 k
 unfold laws_toBoard.f
 repeat' first | (with_reducible first | apply laws_toPieceS.mono | exact LeO.refl _ | exact LeO.none _ | refine LeO.ite ?_ ?_ | refine LeO.bind ?_ (fun _ => ?_)) | apply laws_toPieceS.mono | exact LeO.none _ | refine LeO.ite ?_ ?_ | refine LeO.bind ?_ (fun _ => ?_)
theorem laws_toBoard.calls (k : Nat) (a0_0 : Int) (a0_1 : Int) (A0_2 : Option Addr) (c0_2 : Nat) (l0_2 : List (S88)) (r1 : Int) (r2 : Int) (r3 : List (S91)) (w : World) (hr0_2 : Kd.C k88 w A0_2 l0_2.length l0_2) (hc0_2 : l0_2.length ≤ c0_2) (h : laws_toBoard.f k a0_0 a0_1 l0_2 = some (r1, r2, r3)) :
    Calls Try.prog 42 #[.agg #[.int .i8 a0_0, .int .i8 a0_1, .slice A0_2 l0_2.length c0_2]] w fun e w' => ∃ v2_ : Value, e = .returned (.agg #[.int .i8 r1, .int .i8 r2, v2_]) ∧ Kd.R k91 91 w' w.heap.size (fun _ => True) v2_ r3 ∧ Below w.heap.size w w' := by
 have hu25 := Try.underlying25
 have hu37 := Try.underlying37
 have HR0_2 := Aside0.mk hr0_2
 have HC0_2 := Aside0.mk hc0_2
 clear hr0_2 hc0_2
 have HB := Aside0.mk (Below.refl w.heap.size w)
 have H : ((laws_toPieceS.f k l0_2).bind fun t128 => (some (a0_0, a0_1, t128))) = some (r1, r2, r3) := h
 clear h
 replace H := zob H
 obtain ⟨t128, A20, H⟩ := H
 replace H : (some (a0_0, a0_1, t128)) = some (r1, r2, r3) := H
 have A2 := Aside0.mk A20
 clear A20
 simp only [Option.some.injEq, Prod.mk.injEq] at H
 obtain ⟨rfl, rfl, rfl⟩ := H
 go_enter Try.func42, Try.ntmps42
 go_wp2_with (first | ((with_reducible refine gate_dst (N := 1) rfl ?_); refine zbx 1 #[.int .i8 a0_0, .int .i8 a0_1, .slice A0_2 l0_2.length c0_2] 25 ?_; intro gb125 hg w3 hbox hb; have n_ : _ ∧ _ ∧ _ ∧ _ := ⟨zb HB hb, Aside0.mk (hbox), zg HB hg, zg HB hg⟩; clear HB; obtain ⟨HB, BK125, GW125, GE125⟩ := n_; clear hb hbox hg) | ((with_reducible refine gate_dst (N := 2) rfl ?_); refine zbx 2 #[.int .i8 0, .int .i8 0, .slice none 0 0] 37 ?_; intro gb126 hg w4 hbox hb; have n_ : _ ∧ _ ∧ _ ∧ _ ∧ _ ∧ _ ∧ _ := ⟨zk BK125 hb, zbs hb, Aside0.mk (hbox), zg HB hg, zg HB hg, zn1 BK125 hg, zn2 BK125 hg⟩; clear BK125 HB; obtain ⟨BK125, HB, BK126, GW126, GE126, NB125_126, NB126_125⟩ := n_; clear hb hbox hg) | ((with_reducible refine gate_dst (N := 3) rfl ?_); refine zbx 3 #[.int .i8 0, .int .i8 0, .slice none 0 0] 37 ?_; intro gb127 hg w5 hbox hb; have n_ : _ ∧ _ ∧ _ ∧ _ ∧ _ ∧ _ ∧ _ ∧ _ ∧ _ ∧ _ := ⟨zk BK125 hb, zk BK126 hb, zbs hb, Aside0.mk (hbox), zg HB hg, zg HB hg, zn1 BK125 hg, zn2 BK125 hg, zn1 BK126 hg, zn2 BK126 hg⟩; clear BK125 BK126 HB; obtain ⟨BK125, BK126, HB, BK127, GW127, GE127, NB125_127, NB127_125, NB126_127, NB127_126⟩ := n_; clear hb hbox hg; have hnb6 := NB125_126.out; have hnc6 := NB126_125.out; have hnb7 := NB125_127.out; have hnc7 := NB127_125.out; obtain ⟨z8_0, z8_1, z8_2, y8_0, y8_1, y8_2⟩ := zB3 BK125; have hnb9 := NB127_126.out; have hnc9 := NB126_127.out; obtain ⟨z10_0, z10_1, z10_2, y10_0, y10_1, y10_2⟩ := zB3 BK127) | ((with_reducible refine gate_callee (f := 107) rfl ?_); refine goesL_ (some 12) rfl rfl Try.func107 (by kernel_rfl) rfl #[.slice A0_2 l0_2.length c0_2] rfl zm ?_; (with_reducible refine (laws_toPieceS.calls k _ _ l0_2 t128 _ ?side1 ?side2 A2.out).mono ?_); (case side1 => exact Kd.C_below HR0_2.out zbo); (case side2 => exact HC0_2.out); rintro e w11 ⟨v129, rfl, ho0, hb⟩; refine ⟨_, rfl, ?_⟩; have n_ : _ ∧ _ ∧ _ ∧ _ ∧ _ := ⟨Aside0.mk (Kd.R_lower ho0 (zz HB)), zfb BK125 NB125_127 hb, zfb BK126 NB126_127 hb, Aside0.mk (blk_below (g := gb127) (o := .cells #[.int .i8 a0_0, .int .i8 a0_1, .slice none 0 0] 37 (0, 0)) (zp BK127) hb), zbs hb⟩; clear BK125 BK126 BK127 HB; obtain ⟨HO130, BK125, BK126, BK127, HB⟩ := n_; (try clear hb); (try clear hb2); (try clear hk); (try clear hi); (try clear ho0); obtain ⟨Ao12, co12, eo12⟩ := Kd.R_slice HO130.out; subst eo12; obtain ⟨z13_0, z13_1, z13_2, y13_0, y13_1, y13_2⟩ := zB3 BK127; obtain ⟨z14_0, z14_1, z14_2, y14_0, y14_1, y14_2⟩ := zB3 BK126))
 refine bodyPost_ret (results_cell_row rfl _ _ gb126 37 #[.int .i8 a0_0, .int .i8 a0_1, .slice Ao12 t128.length co12] (0, 0) _ rfl (by (with_reducible repeat (first | refine blk_drewN ?_ _ | refine blk_drew ?_ | refine blk_alloc ?_ _)); refine blk_put (cs := #[.int .i8 a0_0, .int .i8 a0_1, .slice none 0 0]) ?_ 2 _ rfl; (with_reducible repeat (first | refine blk_drewN ?_ _ | refine blk_drew ?_ | refine blk_alloc ?_ _)); refine blk_put (cs := #[.int .i8 a0_0, .int .i8 0, .slice none 0 0]) ?_ 1 _ rfl; (with_reducible repeat (first | refine blk_drewN ?_ _ | refine blk_drew ?_ | refine blk_alloc ?_ _)); refine blk_put (cs := #[.int .i8 0, .int .i8 0, .slice none 0 0]) ?_ 0 _ rfl; (with_reducible repeat (first | refine blk_drewN ?_ _ | refine blk_drew ?_ | refine blk_alloc ?_ _)); refine blk_far ?_ NB126_127.out _; (with_reducible repeat (first | refine blk_drewN ?_ _ | refine blk_drew ?_ | refine blk_alloc ?_ _)); exact BK126.out) Try.underlying37 rfl (by kernel_rfl)) rfl ?_
 exact ⟨_, zv, by (with_reducible repeat (first | apply Kd.R_alloc | apply Kd.R_drewN | apply Kd.R_drew)); exact Kd.R_mono (Kd.R_far (p := ⟨gb126, 2, none⟩) (Kd.R_far (p := ⟨gb126, 1, none⟩) (Kd.R_far (p := ⟨gb126, 0, none⟩) (Kd.R_far (p := ⟨gb127, 2, none⟩) (Kd.R_types (Kd.R_types HO130.out BK127.out (by decide)) BK126.out (by decide)) (fun _ hk => hk.1.2) (.slice Ao12 t128.length co12)) (fun _ hk => hk.2) (.int .i8 a0_0)) (fun _ hk => hk.2) (.int .i8 a0_1)) (fun _ hk => hk.2) (.slice Ao12 t128.length co12)) (fun _ hk => trivial), zbo⟩
def laws_toPort.f (k : Nat) (a0_0 : Int) (a0_1 : Int) (a0_2 : Int) : Option (Int × Int × Int) := (laws_toCell.f k a0_0 a0_1).bind fun bt134 => (some (bt134.1, bt134.2, a0_2))
theorem laws_toPort.mono : ∀ a0 a1 a2 k, LeO (laws_toPort.f k a0 a1 a2) (laws_toPort.f (k + 1) a0 a1 a2) := by
 intro a0 a1 a2 k
 unfold laws_toPort.f
 repeat' first | (with_reducible first | apply laws_toCell.mono | exact LeO.refl _ | exact LeO.none _ | refine LeO.ite ?_ ?_ | refine LeO.bind ?_ (fun _ => ?_)) | apply laws_toCell.mono | exact LeO.none _ | refine LeO.ite ?_ ?_ | refine LeO.bind ?_ (fun _ => ?_)
theorem laws_toPort.calls (k : Nat) (a0_0 : Int) (a0_1 : Int) (a0_2 : Int) (r1 : Int) (r2 : Int) (r3 : Int) (w : World) (h : laws_toPort.f k a0_0 a0_1 a0_2 = some (r1, r2, r3)) :
    Calls Try.prog 155 #[.agg #[.int .i8 a0_0, .int .i8 a0_1, .int .i8 a0_2]] w fun e w' => e = .returned (.agg #[.int .i8 r1, .int .i8 r2, .int .i8 r3]) ∧ Below w.heap.size w w' := by
 have hu182 := Try.underlying182
 have hu116 := Try.underlying116
 have hu71 := Try.underlying71
 have hu74 := Try.underlying74
 have HB := Aside0.mk (Below.refl w.heap.size w)
 have H : ((laws_toCell.f k a0_0 a0_1).bind fun bt134 => (some (bt134.1, bt134.2, a0_2))) = some (r1, r2, r3) := h
 clear h
 replace H := zob H
 obtain ⟨⟨t134, t135⟩, A20, H⟩ := H
 replace H : (some (t134, t135, a0_2)) = some (r1, r2, r3) := H
 have A2 := Aside0.mk A20
 clear A20
 simp only [Option.some.injEq, Prod.mk.injEq] at H
 obtain ⟨rfl, rfl, rfl⟩ := H
 go_enter Try.func155, Try.ntmps155
 go_wp2_with (first | ((with_reducible refine gate_dst (N := 1) rfl ?_); refine zbx 1 #[.int .i8 a0_0, .int .i8 a0_1, .int .i8 a0_2] 182 ?_; intro gb131 hg w3 hbox hb; have n_ : _ ∧ _ ∧ _ ∧ _ := ⟨zb HB hb, Aside0.mk (hbox), zg HB hg, zg HB hg⟩; clear HB; obtain ⟨HB, BK131, GW131, GE131⟩ := n_; clear hb hbox hg) | ((with_reducible refine gate_dst (N := 2) rfl ?_); refine zbx 2 #[.int .i8 0, .int .i8 0, .int .i8 0] 116 ?_; intro gb132 hg w4 hbox hb; have n_ : _ ∧ _ ∧ _ ∧ _ ∧ _ ∧ _ ∧ _ := ⟨zk BK131 hb, zbs hb, Aside0.mk (hbox), zg HB hg, zg HB hg, zn1 BK131 hg, zn2 BK131 hg⟩; clear BK131 HB; obtain ⟨BK131, HB, BK132, GW132, GE132, NB131_132, NB132_131⟩ := n_; clear hb hbox hg) | ((with_reducible refine gate_dst (N := 3) rfl ?_); refine zbx 3 #[.int .i8 0, .int .i8 0, .int .i8 0] 116 ?_; intro gb133 hg w5 hbox hb; have n_ : _ ∧ _ ∧ _ ∧ _ ∧ _ ∧ _ ∧ _ ∧ _ ∧ _ ∧ _ := ⟨zk BK131 hb, zk BK132 hb, zbs hb, Aside0.mk (hbox), zg HB hg, zg HB hg, zn1 BK131 hg, zn2 BK131 hg, zn1 BK132 hg, zn2 BK132 hg⟩; clear BK131 BK132 HB; obtain ⟨BK131, BK132, HB, BK133, GW133, GE133, NB131_133, NB133_131, NB132_133, NB133_132⟩ := n_; clear hb hbox hg; have hnb6 := NB131_132.out; have hnc6 := NB132_131.out; have hnb7 := NB131_133.out; have hnc7 := NB133_131.out; obtain ⟨z8_0, z8_1, z8_2, y8_0, y8_1, y8_2⟩ := zB3 BK131) | ((with_reducible refine gate_callee (f := 53) rfl ?_); refine goesL_ (some 6) rfl rfl Try.func53 (by kernel_rfl) rfl #[.agg #[.int .i8 a0_0, .int .i8 a0_1]] rfl zm ?_; (with_reducible refine (laws_toCell.calls k a0_0 a0_1 t134 t135 _ A2.out).mono ?_); rintro e w9 ⟨rfl, hb⟩; refine ⟨_, rfl, ?_⟩; have n_ : _ ∧ _ ∧ _ ∧ _ := ⟨zk BK131 hb, zk BK132 hb, zk BK133 hb, zbs hb⟩; clear BK131 BK132 BK133 HB; obtain ⟨BK131, BK132, BK133, HB⟩ := n_; (try clear hb); (try clear hb2); (try clear hk); (try clear hi); have hnb10 := NB133_132.out; have hnc10 := NB132_133.out; obtain ⟨z11_0, z11_1, z11_2, y11_0, y11_1, y11_2⟩ := zB3 BK133; obtain ⟨z12_0, z12_1, z12_2, y12_0, y12_1, y12_2⟩ := zB3 BK131; obtain ⟨z13_0, z13_1, z13_2, y13_0, y13_1, y13_2⟩ := zB3 BK132))
 refine bodyPost_ret (results_cell_row rfl _ _ gb132 116 #[.int .i8 t134, .int .i8 t135, .int .i8 a0_2] (0, 0) _ rfl (by (with_reducible repeat (first | refine blk_drewN ?_ _ | refine blk_drew ?_ | refine blk_alloc ?_ _)); refine blk_put (cs := #[.int .i8 t134, .int .i8 t135, .int .i8 0]) ?_ 2 _ rfl; (with_reducible repeat (first | refine blk_drewN ?_ _ | refine blk_drew ?_ | refine blk_alloc ?_ _)); refine blk_put (cs := #[.int .i8 t134, .int .i8 0, .int .i8 0]) ?_ 1 _ rfl; (with_reducible repeat (first | refine blk_drewN ?_ _ | refine blk_drew ?_ | refine blk_alloc ?_ _)); refine blk_put (cs := #[.int .i8 0, .int .i8 0, .int .i8 0]) ?_ 0 _ rfl; (with_reducible repeat (first | refine blk_drewN ?_ _ | refine blk_drew ?_ | refine blk_alloc ?_ _)); refine blk_far ?_ NB132_133.out _; (with_reducible repeat (first | refine blk_drewN ?_ _ | refine blk_drew ?_ | refine blk_alloc ?_ _)); refine blk_far ?_ NB132_133.out _; (with_reducible repeat (first | refine blk_drewN ?_ _ | refine blk_drew ?_ | refine blk_alloc ?_ _)); refine blk_far ?_ NB132_133.out _; (with_reducible repeat (first | refine blk_drewN ?_ _ | refine blk_drew ?_ | refine blk_alloc ?_ _)); exact BK132.out) Try.underlying116 rfl (by kernel_rfl)) rfl ?_
 exact ⟨zv, zbo⟩
def laws_toPortS.l0 : Nat → List (S182) → List (S116) → Int → Option ((List (S116)))
  | 0, _, _, _ => none
  | k + 1, x0, x3, x4 => if x4 < (x0.length : Int) then (if 0 ≤ x4 then ((laws_toPort.f k ((rd_T182 x0 x4).f0.f0) ((rd_T182 x0 x4).f0.f1) ((rd_T182 x0 x4).f1)).bind fun bt140 => (if x4 < (x3.length : Int) then (laws_toPortS.l0 k x0 (x3.set (x4 : Int).toNat (⟨(⟨bt140.1, bt140.2.1⟩ : S74), bt140.2.2⟩ : S116)) (wrap64 (x4 + 1))) else (none))) else (none)) else (some x3)
def laws_toPortS.f (k : Nat) (l0 : List (S182)) : Option ((List (S116))) := if 0 ≤ (l0.length : Int) then (if ((l0.length : Int) : Int).toNat ≤ 93824992236885 then (laws_toPortS.l0 k l0 (List.replicate ((l0.length : Int) : Int).toNat z116) 0) else (none)) else (none)
theorem laws_toPortS.mono_l : ∀ k, (∀ y0 y1 y2, LeO (laws_toPortS.l0 k y0 y1 y2) (laws_toPortS.l0 (k + 1) y0 y1 y2))
  | 0 => fun _ _ _ r h => by simp [laws_toPortS.l0] at h
  | k + 1 => by
    have ih0 := laws_toPortS.mono_l k
    · intro y0 y1 y2
      unfold laws_toPortS.l0
      repeat' first | (with_reducible first | apply ih0 | apply laws_toPort.mono | exact LeO.refl _ | exact LeO.none _ | refine LeO.ite ?_ ?_ | refine LeO.bind ?_ (fun _ => ?_)) | apply ih0 | apply laws_toPort.mono | exact LeO.none _ | refine LeO.ite ?_ ?_ | refine LeO.bind ?_ (fun _ => ?_)
theorem laws_toPortS.mono : ∀ a0 k, LeO (laws_toPortS.f k a0) (laws_toPortS.f (k + 1) a0) := by
 intro a0 k
 have ih0 := laws_toPortS.mono_l k
 unfold laws_toPortS.f
 repeat' first | (with_reducible first | apply ih0 | apply laws_toPort.mono | exact LeO.refl _ | exact LeO.none _ | refine LeO.ite ?_ ?_ | refine LeO.bind ?_ (fun _ => ?_)) | apply ih0 | apply laws_toPort.mono | exact LeO.none _ | refine LeO.ite ?_ ?_ | refine LeO.bind ?_ (fun _ => ?_)
theorem laws_toPortS.calls (k : Nat) (A0 : Option Addr) (c0 : Nat) (l0 : List (S182)) (r : List (S116)) (w : World) (hr0 : Kd.C k182 w A0 l0.length l0) (hc0 : l0.length ≤ c0) (h : laws_toPortS.f k l0 = some r) :
    Calls Try.prog 87 #[.slice A0 l0.length c0] w fun e w' => ∃ v0_ : Value, e = .returned (v0_) ∧ Kd.R k116 116 w' w.heap.size (fun _ => True) v0_ r ∧ Below w.heap.size w w' := by
 have hu182 := Try.underlying182
 have hu116 := Try.underlying116
 have HR0 := Aside0.mk hr0
 have HC0 := Aside0.mk hc0
 clear hr0 hc0
 have HB := Aside0.mk (Below.refl w.heap.size w)
 have H : (if 0 ≤ (l0.length : Int) then (if ((l0.length : Int) : Int).toNat ≤ 93824992236885 then (laws_toPortS.l0 k l0 (List.replicate ((l0.length : Int) : Int).toNat z116) 0) else (none)) else (none)) = some r := h
 clear h
 by_cases c2 : 0 ≤ (l0.length : Int)
 rotate_left
 ·rw [if_neg c2] at H
  exact absurd H (by simp)
 rw [if_pos c2] at H
 have c2b0 := eq_true c2
 have c2b1 : decide (0 ≤ (l0.length : Int)) = true := decide_eq_true c2
 clear c2
 by_cases c3 : ((l0.length : Int) : Int).toNat ≤ 93824992236885
 rotate_left
 ·rw [if_neg c3] at H
  exact absurd H (by simp)
 rw [if_pos c3] at H
 have c3b0 := eq_true c3
 have c3b1 : decide (((l0.length : Int) : Int).toNat ≤ 93824992236885) = true := decide_eq_true c3
 clear c3
 obtain ⟨y136, hy136⟩ : ∃ y_ : List (S116), y_ = (List.replicate ((l0.length : Int) : Int).toNat z116) := ⟨_, rfl⟩
 replace H : (laws_toPortS.l0 k l0 y136 0) = some r := by first | (rw [hy136]; with_reducible exact H) | (have H2_ := (Option.bind_some _ _).symm.trans H; rw [hy136]; with_reducible exact H2_) | (have H2_ := (Option.bind_some _ _).symm.trans H; with_reducible exact H2_) | with_reducible exact H | (rw [hy136]; exact H) | exact H
 have Ny136 := Aside0.mk hy136
 clear hy136
 have H' := Aside0.mk H
 clear H
 go_enter Try.func87, Try.ntmps87
 go_wp2_with (first | ((with_reducible refine gate_dst (N := 7) rfl ?_); refine Kd.R_make k116 _ 116 rfl (N := 7) rfl 38 _ _ rfl (l0.length : Int) rfl rfl Try.underlying38 (.agg #[(.int .i8 0), (.int .i8 0), (.int .i8 0)]) 3 info116 rfl (by decide) (by omega) z116 (ok := fun _ => True) (okp := fun _ => True) (k116_mkM _ _ _ z116 ) (fun _ hk => hk) trivial (of_decide_eq_true zA) (Nat.le_trans (Nat.mul_le_mul_right _ (of_decide_eq_true zA : (l0.length : Int).toNat ≤ 93824992236885)) (by omega)) (Below.refl _ _) (Nat.le_refl _) ?_; intro v137 w4 ho5 hb hg_ hnew_; clear hg_ hnew_; (first | rw [← Ny136.out] at ho5 | (simp only [Int.reduceToNat] at ho5; rw [← Ny136.out] at ho5)); have n_ : _ ∧ _ := ⟨Aside0.mk (Kd.R_lower ho5 (zz HB)), zb HB hb⟩; clear HB; obtain ⟨HO138, HB⟩ := n_; clear hb ho5))
 go_loopg [4] k (fun kq v4 w' => ∃ (x3_1 : List (S116)) (x4_1 : Int), v4 = .int .i64 x4_1 ∧ Aside0 (laws_toPortS.l0 kq l0 x3_1 x4_1 = some r) ∧ Aside0 (kq ≤ k) ∧ Aside0 (Kd.R k116 116 w' w.heap.size (fun _ => True) v137 x3_1) ∧ Aside0 (Below w.heap.size w w'))
 case atStart => exact ⟨(y136), (0), zi, H', ⟨Nat.le_refl _⟩, ze HO138, zl HB⟩
 clear H'
 try clear c2
 try clear c2b0
 try clear c2b1
 try clear p2
 try clear c3
 try clear c3b0
 try clear c3b1
 obtain ⟨x3_1, x4_1, rfl, HA, HK1, HO_3, HB⟩ := hrel
 cases gk with
 | zero => exact absurd HA.out (by simp [laws_toPortS.l0])
 | succ k1 => ?_
 have H := HA.out
 clear HA
 simp only [laws_toPortS.l0] at H
 by_cases c6 : x4_1 < (l0.length : Int)
 rotate_left
 ·rw [if_neg c6] at H
  have c6b0 : decide (x4_1 < (l0.length : Int)) = false := decide_eq_false c6
  clear c6
  obtain rfl := Option.some.inj H
  go_wp2
  go_ret
  exact ⟨_, zv, by (with_reducible repeat (first | apply Kd.R_alloc | apply Kd.R_drewN | apply Kd.R_drew)); exact HO_3.out, zbo⟩
 rw [if_pos c6] at H
 have c6b0 : decide (x4_1 < (l0.length : Int)) = true := decide_eq_true c6
 clear c6
 by_cases c7 : 0 ≤ x4_1
 rotate_left
 ·rw [if_neg c7] at H
  exact absurd H (by simp)
 rw [if_pos c7] at H
 have c7b0 : decide (0 ≤ x4_1) = true := decide_eq_true c7
 clear c7
 replace H := zob H
 obtain ⟨⟨t140, t141, t142⟩, A80, H⟩ := H
 replace H : (if x4_1 < (x3_1.length : Int) then (laws_toPortS.l0 k1 l0 (x3_1.set (x4_1 : Int).toNat (⟨(⟨t140, t141⟩ : S74), t142⟩ : S116)) (wrap64 (x4_1 + 1))) else (none)) = some r := H
 have A8 := Aside0.mk A80
 clear A80
 by_cases c9 : x4_1 < (x3_1.length : Int)
 rotate_left
 ·rw [if_neg c9] at H
  exact absurd H (by simp)
 rw [if_pos c9] at H
 have c9b0 : decide (x4_1 < (x3_1.length : Int)) = true := decide_eq_true c9
 clear c9
 obtain ⟨y143, hy143⟩ : ∃ y_ : List (S116), y_ = (x3_1.set (x4_1 : Int).toNat (⟨(⟨t140, t141⟩ : S74), t142⟩ : S116)) := ⟨_, rfl⟩
 replace H : (laws_toPortS.l0 k1 l0 y143 (wrap64 (x4_1 + 1))) = some r := by first | (rw [hy143]; with_reducible exact H) | (have H2_ := (Option.bind_some _ _).symm.trans H; rw [hy143]; with_reducible exact H2_) | (have H2_ := (Option.bind_some _ _).symm.trans H; with_reducible exact H2_) | with_reducible exact H | (rw [hy143]; exact H) | exact H
 have Ny143 := Aside0.mk hy143
 clear hy143
 have H' := Aside0.mk H
 clear H
 have p139 : 0 ≤ (x4_1 : Int) := of_decide_eq_true zA
 have q139 : x4_1 < (l0.length : Int) := of_decide_eq_true zA
 obtain ⟨ad139, e139, hx139_0, hx139_1, hx139_2⟩ := at_T182 HR0.out x4_1 p139 q139
 cases e139
 replace hx139_0 := zc HB hx139_0
 replace hx139_1 := zc HB hx139_1
 replace hx139_2 := zc HB hx139_2
 replace p139 := eq_true p139
 replace q139 := eq_true q139
 go_wp2_with (first | ((with_reducible refine gate_callee (f := 155) rfl ?_); refine goesL_ (some 20) rfl rfl Try.func155 (by kernel_rfl) rfl #[.agg #[.int .i8 ((rd_T182 l0 x4_1).f0.f0), .int .i8 ((rd_T182 l0 x4_1).f0.f1), .int .i8 ((rd_T182 l0 x4_1).f1)]] rfl zm ?_; (with_reducible refine (laws_toPort.calls k1 ((rd_T182 l0 x4_1).f0.f0) ((rd_T182 l0 x4_1).f0.f1) ((rd_T182 l0 x4_1).f1) t140 t141 t142 _ A8.out).mono ?_); rintro e w11 ⟨rfl, hb⟩; refine ⟨_, rfl, ?_⟩; have n_ : _ ∧ _ := ⟨zr HO_3 hb, zb HB hb⟩; clear HO_3 HB; obtain ⟨HO_3, HB⟩ := n_; (try clear hb); (try clear hb2); (try clear hk); (try clear hi); have p10 : 0 ≤ (x4_1 : Int) := of_decide_eq_true zA; have q10 : (x4_1 : Int) < ((x3_1.length : Int) : Int) := of_decide_eq_true zA; obtain ⟨go10, co10, eo10, gb10, gl10, cl10, HG10⟩ := Kd.R_form HO_3.out (by omega); (first | cases eo10 | (injection eo10 with ea_ en_ ec_; (first | subst ea_ | (injection ea_ with ea_; subst ea_)); subst ec_; clear en_)); have GB10 := Aside0.mk gb10; have GG10 := Aside0.mk HG10; clear gb10 gl10 HG10; obtain ⟨ce10, hcl10, hM10, hcc10, hfr10⟩ := Kd.R_elem HO_3.out z116 (x4_1 : Int) p10 q10; obtain rfl := k116_openM hM10; have hx10_0 : w11.cell? ⟨go10, (x4_1 : Int).toNat * 3, none⟩ = some (.int .i8 ((rd_T116 x3_1 x4_1).f0.f0)) := hcc10 0 _ rfl; have hx10_1 : w11.cell? ⟨go10, (x4_1 : Int).toNat * 3 + 1, none⟩ = some (.int .i8 ((rd_T116 x3_1 x4_1).f0.f1)) := hcc10 1 _ rfl; have hx10_2 : w11.cell? ⟨go10, (x4_1 : Int).toNat * 3 + 2, none⟩ = some (.int .i8 ((rd_T116 x3_1 x4_1).f1)) := hcc10 2 _ rfl; have hf10_0 : w11.frozen? ⟨go10, (x4_1 : Int).toNat * 3, none⟩ = false := hfr10 0; have hf10_1 : w11.frozen? ⟨go10, (x4_1 : Int).toNat * 3 + 1, none⟩ = false := hfr10 1; have hf10_2 : w11.frozen? ⟨go10, (x4_1 : Int).toNat * 3 + 2, none⟩ = false := hfr10 2; clear hcl10 hcc10 hfr10 hM10; replace p10 := eq_true p10; replace q10 := eq_true q10; have HX12 := Aside0.mk (show Kd.R k116 116 w11 w.heap.size (fun _ => True) (.slice (some ⟨go10, 0, none⟩) x3_1.length co10) x3_1 from (ze HO_3).out); obtain ⟨ce12, hcl12, hM12, hcc12, hfr12⟩ := Kd.R_elem HX12.out z116 (x4_1 : Int) (of_decide_eq_true zA) (zlt (x4_1 : Int) (x3_1.length : Int) (Kd.R_reads' HO_3.out).1); obtain rfl := k116_openM hM12; have HP12 := Kd.R_seg HX12.out (x4_1 : Int) (of_decide_eq_true zA) (zlt (x4_1 : Int) (x3_1.length : Int) (Kd.R_reads' HO_3.out).1) (seg := [.int .i8 t140, .int .i8 t141, .int .i8 t142]) (j := 0) hcl12 hcc12 (show 3 ≤ 3 from by decide) (x' := (⟨(⟨t140, t141⟩ : S74), t142⟩ : S116)) (k116_mkM _ _ _ (⟨(⟨t140, t141⟩ : S74), t142⟩ : S116) ) (fun _ hk => hk); have hx12_0 := hcc12 0 _ rfl; (try simp only [show (k116).sz = 3 from rfl, Nat.mul_one, Nat.add_zero] at hx12_0); have hf12_0 := hfr12 0; (try simp only [show (k116).sz = 3 from rfl, Nat.mul_one, Nat.add_zero] at hf12_0); have hx12_1 := hcc12 1 _ rfl; (try simp only [show (k116).sz = 3 from rfl, Nat.mul_one, Nat.add_zero] at hx12_1); have hf12_1 := hfr12 1; (try simp only [show (k116).sz = 3 from rfl, Nat.mul_one, Nat.add_zero] at hf12_1); have hx12_2 := hcc12 2 _ rfl; (try simp only [show (k116).sz = 3 from rfl, Nat.mul_one, Nat.add_zero] at hx12_2); have hf12_2 := hfr12 2; (try simp only [show (k116).sz = 3 from rfl, Nat.mul_one, Nat.add_zero] at hf12_2); clear hcl12 hcc12 hfr12 hM12) | ((with_reducible refine gate_store (t := 116) (p := 21) rfl ?_); refine store_event (t := 116) (p := 21) (v := ?vo_w13) (w1 := (((w11.setCell ⟨go10, (x4_1 : Int).toNat * 3, none⟩ (.int .i8 t140)).setCell ⟨go10, (x4_1 : Int).toNat * 3 + 1, none⟩ (.int .i8 t141)).setCell ⟨go10, (x4_1 : Int).toNat * 3 + 2, none⟩ (.int .i8 t142))) ?hg ?ho ?hn ?hr ?_; (case ho => rfl); (case hg => rfl); (case hn => rfl); (case hr => exact zgs); intro w13 hw; have hg : w11.grownBy w13 (some go10) := (by rw [hw]; exact HP12.2); have hp_ : Kd.R k116 116 w13 w.heap.size (fun _ => True) (.slice (some ⟨go10, 0, none⟩) x3_1.length co10) y143 := (by rw [hw, Ny143.out]; exact HP12.1); clear HP12; have n_ : _ ∧ _ := ⟨Aside0.mk (hp_), Aside0.mk ((by rw [hw]; exact below_set (below_set (below_set (HB.out) GB10.out) GB10.out) GB10.out : Below w.heap.size w w13))⟩; clear HO_3 HB; obtain ⟨HO_3, HB⟩ := n_; clear hg hw hp_))
 go_roundg k1
 case measure => have := HK1.out; omega
 case rel => exact ⟨(y143), (wrap64 (x4_1 + 1)), zi, H', ⟨by have := HK1.out; omega⟩, ze HO_3, zl HB⟩
def laws_toCellS.l0 : Nat → List (S71) → List (S74) → Int → Option ((List (S74)))
  | 0, _, _, _ => none
  | k + 1, x0, x3, x4 => if x4 < (x0.length : Int) then (if 0 ≤ x4 then ((laws_toCell.f k ((rd_T71 x0 x4).f0) ((rd_T71 x0 x4).f1)).bind fun bt148 => (if x4 < (x3.length : Int) then (laws_toCellS.l0 k x0 (x3.set (x4 : Int).toNat (⟨bt148.1, bt148.2⟩ : S74)) (wrap64 (x4 + 1))) else (none))) else (none)) else (some x3)
def laws_toCellS.f (k : Nat) (l0 : List (S71)) : Option ((List (S74))) := if 0 ≤ (l0.length : Int) then (if ((l0.length : Int) : Int).toNat ≤ 140737488355328 then (laws_toCellS.l0 k l0 (List.replicate ((l0.length : Int) : Int).toNat z74) 0) else (none)) else (none)
theorem laws_toCellS.mono_l : ∀ k, (∀ y0 y1 y2, LeO (laws_toCellS.l0 k y0 y1 y2) (laws_toCellS.l0 (k + 1) y0 y1 y2))
  | 0 => fun _ _ _ r h => by simp [laws_toCellS.l0] at h
  | k + 1 => by
    have ih0 := laws_toCellS.mono_l k
    · intro y0 y1 y2
      unfold laws_toCellS.l0
      repeat' first | (with_reducible first | apply ih0 | apply laws_toCell.mono | exact LeO.refl _ | exact LeO.none _ | refine LeO.ite ?_ ?_ | refine LeO.bind ?_ (fun _ => ?_)) | apply ih0 | apply laws_toCell.mono | exact LeO.none _ | refine LeO.ite ?_ ?_ | refine LeO.bind ?_ (fun _ => ?_)
theorem laws_toCellS.mono : ∀ a0 k, LeO (laws_toCellS.f k a0) (laws_toCellS.f (k + 1) a0) := by
 intro a0 k
 have ih0 := laws_toCellS.mono_l k
 unfold laws_toCellS.f
 repeat' first | (with_reducible first | apply ih0 | apply laws_toCell.mono | exact LeO.refl _ | exact LeO.none _ | refine LeO.ite ?_ ?_ | refine LeO.bind ?_ (fun _ => ?_)) | apply ih0 | apply laws_toCell.mono | exact LeO.none _ | refine LeO.ite ?_ ?_ | refine LeO.bind ?_ (fun _ => ?_)
theorem laws_toCellS.calls (k : Nat) (A0 : Option Addr) (c0 : Nat) (l0 : List (S71)) (r : List (S74)) (w : World) (hr0 : Kd.C k71 w A0 l0.length l0) (hc0 : l0.length ≤ c0) (h : laws_toCellS.f k l0 = some r) :
    Calls Try.prog 88 #[.slice A0 l0.length c0] w fun e w' => ∃ v0_ : Value, e = .returned (v0_) ∧ Kd.R k74 74 w' w.heap.size (fun _ => True) v0_ r ∧ Below w.heap.size w w' := by
 have hu71 := Try.underlying71
 have hu74 := Try.underlying74
 have HR0 := Aside0.mk hr0
 have HC0 := Aside0.mk hc0
 clear hr0 hc0
 have HB := Aside0.mk (Below.refl w.heap.size w)
 have H : (if 0 ≤ (l0.length : Int) then (if ((l0.length : Int) : Int).toNat ≤ 140737488355328 then (laws_toCellS.l0 k l0 (List.replicate ((l0.length : Int) : Int).toNat z74) 0) else (none)) else (none)) = some r := h
 clear h
 by_cases c2 : 0 ≤ (l0.length : Int)
 rotate_left
 ·rw [if_neg c2] at H
  exact absurd H (by simp)
 rw [if_pos c2] at H
 have c2b0 := eq_true c2
 have c2b1 : decide (0 ≤ (l0.length : Int)) = true := decide_eq_true c2
 clear c2
 by_cases c3 : ((l0.length : Int) : Int).toNat ≤ 140737488355328
 rotate_left
 ·rw [if_neg c3] at H
  exact absurd H (by simp)
 rw [if_pos c3] at H
 have c3b0 := eq_true c3
 have c3b1 : decide (((l0.length : Int) : Int).toNat ≤ 140737488355328) = true := decide_eq_true c3
 clear c3
 obtain ⟨y144, hy144⟩ : ∃ y_ : List (S74), y_ = (List.replicate ((l0.length : Int) : Int).toNat z74) := ⟨_, rfl⟩
 replace H : (laws_toCellS.l0 k l0 y144 0) = some r := by first | (rw [hy144]; with_reducible exact H) | (have H2_ := (Option.bind_some _ _).symm.trans H; rw [hy144]; with_reducible exact H2_) | (have H2_ := (Option.bind_some _ _).symm.trans H; with_reducible exact H2_) | with_reducible exact H | (rw [hy144]; exact H) | exact H
 have Ny144 := Aside0.mk hy144
 clear hy144
 have H' := Aside0.mk H
 clear H
 go_enter Try.func88, Try.ntmps88
 go_wp2_with (first | ((with_reducible refine gate_dst (N := 7) rfl ?_); refine Kd.R_make k74 _ 74 rfl (N := 7) rfl 39 _ _ rfl (l0.length : Int) rfl rfl Try.underlying39 (.agg #[(.int .i8 0), (.int .i8 0)]) 2 info74 rfl (by decide) (by omega) z74 (ok := fun _ => True) (okp := fun _ => True) (k74_mkM _ _ _ z74 ) (fun _ hk => hk) trivial (of_decide_eq_true zA) (Nat.le_trans (Nat.mul_le_mul_right _ (of_decide_eq_true zA : (l0.length : Int).toNat ≤ 140737488355328)) (by omega)) (Below.refl _ _) (Nat.le_refl _) ?_; intro v145 w4 ho5 hb hg_ hnew_; clear hg_ hnew_; (first | rw [← Ny144.out] at ho5 | (simp only [Int.reduceToNat] at ho5; rw [← Ny144.out] at ho5)); have n_ : _ ∧ _ := ⟨Aside0.mk (Kd.R_lower ho5 (zz HB)), zb HB hb⟩; clear HB; obtain ⟨HO146, HB⟩ := n_; clear hb ho5))
 go_loopg [4] k (fun kq v4 w' => ∃ (x3_1 : List (S74)) (x4_1 : Int), v4 = .int .i64 x4_1 ∧ Aside0 (laws_toCellS.l0 kq l0 x3_1 x4_1 = some r) ∧ Aside0 (kq ≤ k) ∧ Aside0 (Kd.R k74 74 w' w.heap.size (fun _ => True) v145 x3_1) ∧ Aside0 (Below w.heap.size w w'))
 case atStart => exact ⟨(y144), (0), zi, H', ⟨Nat.le_refl _⟩, ze HO146, zl HB⟩
 clear H'
 try clear c2
 try clear c2b0
 try clear c2b1
 try clear p2
 try clear c3
 try clear c3b0
 try clear c3b1
 obtain ⟨x3_1, x4_1, rfl, HA, HK1, HO_3, HB⟩ := hrel
 cases gk with
 | zero => exact absurd HA.out (by simp [laws_toCellS.l0])
 | succ k1 => ?_
 have H := HA.out
 clear HA
 simp only [laws_toCellS.l0] at H
 by_cases c6 : x4_1 < (l0.length : Int)
 rotate_left
 ·rw [if_neg c6] at H
  have c6b0 : decide (x4_1 < (l0.length : Int)) = false := decide_eq_false c6
  clear c6
  obtain rfl := Option.some.inj H
  go_wp2
  go_ret
  exact ⟨_, zv, by (with_reducible repeat (first | apply Kd.R_alloc | apply Kd.R_drewN | apply Kd.R_drew)); exact HO_3.out, zbo⟩
 rw [if_pos c6] at H
 have c6b0 : decide (x4_1 < (l0.length : Int)) = true := decide_eq_true c6
 clear c6
 by_cases c7 : 0 ≤ x4_1
 rotate_left
 ·rw [if_neg c7] at H
  exact absurd H (by simp)
 rw [if_pos c7] at H
 have c7b0 : decide (0 ≤ x4_1) = true := decide_eq_true c7
 clear c7
 replace H := zob H
 obtain ⟨⟨t148, t149⟩, A80, H⟩ := H
 replace H : (if x4_1 < (x3_1.length : Int) then (laws_toCellS.l0 k1 l0 (x3_1.set (x4_1 : Int).toNat (⟨t148, t149⟩ : S74)) (wrap64 (x4_1 + 1))) else (none)) = some r := H
 have A8 := Aside0.mk A80
 clear A80
 by_cases c9 : x4_1 < (x3_1.length : Int)
 rotate_left
 ·rw [if_neg c9] at H
  exact absurd H (by simp)
 rw [if_pos c9] at H
 have c9b0 : decide (x4_1 < (x3_1.length : Int)) = true := decide_eq_true c9
 clear c9
 obtain ⟨y150, hy150⟩ : ∃ y_ : List (S74), y_ = (x3_1.set (x4_1 : Int).toNat (⟨t148, t149⟩ : S74)) := ⟨_, rfl⟩
 replace H : (laws_toCellS.l0 k1 l0 y150 (wrap64 (x4_1 + 1))) = some r := by first | (rw [hy150]; with_reducible exact H) | (have H2_ := (Option.bind_some _ _).symm.trans H; rw [hy150]; with_reducible exact H2_) | (have H2_ := (Option.bind_some _ _).symm.trans H; with_reducible exact H2_) | with_reducible exact H | (rw [hy150]; exact H) | exact H
 have Ny150 := Aside0.mk hy150
 clear hy150
 have H' := Aside0.mk H
 clear H
 have p147 : 0 ≤ (x4_1 : Int) := of_decide_eq_true zA
 have q147 : x4_1 < (l0.length : Int) := of_decide_eq_true zA
 obtain ⟨ad147, e147, hx147_0, hx147_1⟩ := at_T71 HR0.out x4_1 p147 q147
 cases e147
 replace hx147_0 := zc HB hx147_0
 replace hx147_1 := zc HB hx147_1
 replace p147 := eq_true p147
 replace q147 := eq_true q147
 go_wp2_with (first | ((with_reducible refine gate_callee (f := 53) rfl ?_); refine goesL_ (some 20) rfl rfl Try.func53 (by kernel_rfl) rfl #[.agg #[.int .i8 ((rd_T71 l0 x4_1).f0), .int .i8 ((rd_T71 l0 x4_1).f1)]] rfl zm ?_; (with_reducible refine (laws_toCell.calls k1 ((rd_T71 l0 x4_1).f0) ((rd_T71 l0 x4_1).f1) t148 t149 _ A8.out).mono ?_); rintro e w11 ⟨rfl, hb⟩; refine ⟨_, rfl, ?_⟩; have n_ : _ ∧ _ := ⟨zr HO_3 hb, zb HB hb⟩; clear HO_3 HB; obtain ⟨HO_3, HB⟩ := n_; (try clear hb); (try clear hb2); (try clear hk); (try clear hi); have p10 : 0 ≤ (x4_1 : Int) := of_decide_eq_true zA; have q10 : (x4_1 : Int) < ((x3_1.length : Int) : Int) := of_decide_eq_true zA; obtain ⟨go10, co10, eo10, gb10, gl10, cl10, HG10⟩ := Kd.R_form HO_3.out (by omega); (first | cases eo10 | (injection eo10 with ea_ en_ ec_; (first | subst ea_ | (injection ea_ with ea_; subst ea_)); subst ec_; clear en_)); have GB10 := Aside0.mk gb10; have GG10 := Aside0.mk HG10; clear gb10 gl10 HG10; obtain ⟨ce10, hcl10, hM10, hcc10, hfr10⟩ := Kd.R_elem HO_3.out z74 (x4_1 : Int) p10 q10; obtain rfl := k74_openM hM10; have hx10_0 : w11.cell? ⟨go10, (x4_1 : Int).toNat * 2, none⟩ = some (.int .i8 ((rd_T74 x3_1 x4_1).f0)) := hcc10 0 _ rfl; have hx10_1 : w11.cell? ⟨go10, (x4_1 : Int).toNat * 2 + 1, none⟩ = some (.int .i8 ((rd_T74 x3_1 x4_1).f1)) := hcc10 1 _ rfl; have hf10_0 : w11.frozen? ⟨go10, (x4_1 : Int).toNat * 2, none⟩ = false := hfr10 0; have hf10_1 : w11.frozen? ⟨go10, (x4_1 : Int).toNat * 2 + 1, none⟩ = false := hfr10 1; clear hcl10 hcc10 hfr10 hM10; replace p10 := eq_true p10; replace q10 := eq_true q10; have HX12 := Aside0.mk (show Kd.R k74 74 w11 w.heap.size (fun _ => True) (.slice (some ⟨go10, 0, none⟩) x3_1.length co10) x3_1 from (ze HO_3).out); obtain ⟨ce12, hcl12, hM12, hcc12, hfr12⟩ := Kd.R_elem HX12.out z74 (x4_1 : Int) (of_decide_eq_true zA) (zlt (x4_1 : Int) (x3_1.length : Int) (Kd.R_reads' HO_3.out).1); obtain rfl := k74_openM hM12; have HP12 := Kd.R_seg HX12.out (x4_1 : Int) (of_decide_eq_true zA) (zlt (x4_1 : Int) (x3_1.length : Int) (Kd.R_reads' HO_3.out).1) (seg := [.int .i8 t148, .int .i8 t149]) (j := 0) hcl12 hcc12 (show 2 ≤ 2 from by decide) (x' := (⟨t148, t149⟩ : S74)) (k74_mkM _ _ _ (⟨t148, t149⟩ : S74) ) (fun _ hk => hk); have hx12_0 := hcc12 0 _ rfl; (try simp only [show (k74).sz = 2 from rfl, Nat.mul_one, Nat.add_zero] at hx12_0); have hf12_0 := hfr12 0; (try simp only [show (k74).sz = 2 from rfl, Nat.mul_one, Nat.add_zero] at hf12_0); have hx12_1 := hcc12 1 _ rfl; (try simp only [show (k74).sz = 2 from rfl, Nat.mul_one, Nat.add_zero] at hx12_1); have hf12_1 := hfr12 1; (try simp only [show (k74).sz = 2 from rfl, Nat.mul_one, Nat.add_zero] at hf12_1); clear hcl12 hcc12 hfr12 hM12) | ((with_reducible refine gate_store (t := 74) (p := 21) rfl ?_); refine store_event (t := 74) (p := 21) (v := ?vo_w13) (w1 := ((w11.setCell ⟨go10, (x4_1 : Int).toNat * 2, none⟩ (.int .i8 t148)).setCell ⟨go10, (x4_1 : Int).toNat * 2 + 1, none⟩ (.int .i8 t149))) ?hg ?ho ?hn ?hr ?_; (case ho => rfl); (case hg => rfl); (case hn => rfl); (case hr => exact zgs); intro w13 hw; have hg : w11.grownBy w13 (some go10) := (by rw [hw]; exact HP12.2); have hp_ : Kd.R k74 74 w13 w.heap.size (fun _ => True) (.slice (some ⟨go10, 0, none⟩) x3_1.length co10) y150 := (by rw [hw, Ny150.out]; exact HP12.1); clear HP12; have n_ : _ ∧ _ := ⟨Aside0.mk (hp_), Aside0.mk ((by rw [hw]; exact below_set (below_set (HB.out) GB10.out) GB10.out : Below w.heap.size w w13))⟩; clear HO_3 HB; obtain ⟨HO_3, HB⟩ := n_; clear hg hw hp_))
 go_roundg k1
 case measure => have := HK1.out; omega
 case rel => exact ⟨(y150), (wrap64 (x4_1 + 1)), zi, H', ⟨by have := HK1.out; omega⟩, ze HO_3, zl HB⟩
end Go.Proofs.Ytffnfpnajkgnaaa.PFnExactMoveMachine
