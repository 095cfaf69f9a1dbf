-- WRITTEN by xprint.py, a program of this session's. Not trusted: Lean checks it.
-- packed by pack.py
import Derived.Test.YtffnfpnajkgnaaaPFnExactPushesForx0
import Derived.Test.YtffnfpnajkgnaaaPFnExactPushesForx1
import Derived.Test.YtffnfpnajkgnaaaTFnExactPushesFora
namespace Go.Proofs.Ytffnfpnajkgnaaa.PFnExactPushesFor
open Go.RowKit Go.Proofs.YtffnfpnajkgnaaaW.PrintWords Go.Proofs.YtffnfpnajkgnaaaW.PrintLast Go.Proofs.YtffnfpnajkgnaaaW.PrintMore Go.Proofs.YtffnfpnajkgnaaaX
attribute [local go_sem] max2_int min2_int max_two min_two max_three min_three max_four min_four   -- for this text's walks alone
set_option linter.unusedVariables false
set_option linter.unusedSimpArgs false

attribute [local go_sem high] eqA74
/-! ### laws_szPieceS: function 105 -/
def laws_szPieceS.f (l0 : List (S88)) (a1 : Int) : Option (Int) := if (wrap64 (a1 - (l0.length : Int))) < 0 then (some (-1)) else (some (wrap64 (a1 - (l0.length : Int))))
set_option maxHeartbeats 8000000 in
set_option maxRecDepth 100000 in
theorem laws_szPieceS.calls (A0 : Option Addr) (c0 : Nat) (l0 : List (S88)) (a1 : Int) (r : Int) (w : World) (hr0 : Kd.C k88 w A0 l0.length l0) (hc0 : l0.length ≤ c0) (h : laws_szPieceS.f l0 a1 = some r) :
    Calls Try.prog 105 #[.slice A0 l0.length c0, .int .i64 a1] w fun e w' => e = .returned (.int .i64 r) ∧ Drawn0 w w' := by
 have HR0 := Aside0.mk hr0
 have HC0 := Aside0.mk hc0
 clear hr0 hc0
 have H : (if (wrap64 (a1 - (l0.length : Int))) < 0 then (some (-1)) else (some (wrap64 (a1 - (l0.length : Int))))) = some r := h
 clear h
 by_cases c3 : (wrap64 (a1 - (l0.length : Int))) < 0
 ·rw [if_pos c3] at H
  have c3b0 : decide ((wrap64 (a1 - (l0.length : Int))) < 0) = true := decide_eq_true c3
  clear c3
  obtain rfl := Option.some.inj H
  go_enter Try.func105, Try.ntmps105
  go_wp2
  go_ret
  exact ⟨by first | rfl | (simp; done) | (simp [*]; done) | (exact congrArg (Value.int .i64) (wrap_eq (by omega))), by repeat (first | exact Drawn0.refl _ | apply Drawn0.step)⟩
 rw [if_neg c3] at H
 have c3b0 : decide ((wrap64 (a1 - (l0.length : Int))) < 0) = false := decide_eq_false c3
 clear c3
 obtain rfl := Option.some.inj H
 go_enter Try.func105, Try.ntmps105
 go_wp2
 go_ret
 exact ⟨by first | rfl | (simp; done) | (simp [*]; done) | (exact congrArg (Value.int .i64) (wrap_eq (by omega))), by repeat (first | exact Drawn0.refl _ | apply Drawn0.step)⟩
/-! ### laws_szBoard: function 40 -/
def laws_szBoard.f (a0_0 : Int) (a0_1 : Int) (l0_2 : List (S88)) (a1 : Int) : Option (Int) := (laws_szPieceS.f l0_2 a1).bind fun t102 => (if t102 < 0 then (some (-1)) else (some t102))
set_option maxHeartbeats 8000000 in
set_option maxRecDepth 100000 in
theorem laws_szBoard.calls (a0_0 : Int) (a0_1 : Int) (A0_2 : Option Addr) (c0_2 : Nat) (l0_2 : List (S88)) (a1 : Int) (r : Int) (w : World) (hr0_2 : Kd.C k88 w A0_2 l0_2.length l0_2) (hc0_2 : l0_2.length ≤ c0_2) (h : laws_szBoard.f a0_0 a0_1 l0_2 a1 = some r) :
    Calls Try.prog 40 #[.agg #[.int .i8 a0_0, .int .i8 a0_1, .slice A0_2 l0_2.length c0_2], .int .i64 a1] w fun e w' => e = .returned (.int .i64 r) ∧ Below w.heap.size w w' := by
 have hu25 := Try.underlying25
 have HR0_2 := Aside0.mk hr0_2
 have HC0_2 := Aside0.mk hc0_2
 clear hr0_2 hc0_2
 have HB := Aside0.mk (Below.refl w.heap.size w)
 have H : ((laws_szPieceS.f l0_2 a1).bind fun t102 => (if t102 < 0 then (some (-1)) else (some t102))) = some r := h
 clear h
 replace H := Option.bind_eq_some_iff.mp H
 obtain ⟨t102, A30, H⟩ := H
 replace H : (if t102 < 0 then (some (-1)) else (some t102)) = some r := H
 have A3 := Aside0.mk A30
 clear A30
 by_cases c4 : t102 < 0
 ·rw [if_pos c4] at H
  have c4b0 : decide (t102 < 0) = true := decide_eq_true c4
  clear c4
  obtain rfl := Option.some.inj H
  go_enter Try.func40, Try.ntmps40
  go_wp2_with (first | ((with_reducible refine gate_dst (N := 2) rfl ?_); refine box_event ?hg (N := 2) ?hd (cs := #[.int .i8 a0_0, .int .i8 a0_1, .slice A0_2 l0_2.length c0_2]) (t := 25) ?hr ?_; (case hd => rfl); (case hg => rfl); (case hr => first | (go_simp; done) | (go_simp; rfl)); intro gb101 hg w5 hbox hb; have n_ : _ ∧ _ ∧ _ ∧ _ := ⟨zb HB hb, Aside0.mk (hbox), zg HB hg, zg HB hg⟩; clear HB; obtain ⟨HB, BK101, GW101, GE101⟩ := n_; clear hb hbox hg; obtain ⟨z6_0, z6_1, z6_2, y6_0, y6_1, y6_2⟩ := zB3 BK101) | ((with_reducible refine gate_callee (f := 105) rfl ?_); refine goesL_ (some 8) rfl rfl Try.func105 (by kernel_rfl) rfl #[.slice A0_2 l0_2.length c0_2, .int .i64 a1] rfl (by (try simp only [List.map_toArray, List.map_cons, List.map_nil]); first | done | rfl | (simp only [List.length_drop, List.length_take]; rfl)) ?_; (with_reducible refine (laws_szPieceS.calls _ _ l0_2 a1 t102 _ ?side1 ?side2 A3.out).mono ?_); (case side1 => exact zcc HB HR0_2.out); (case side2 => exact HC0_2.out); rintro e w' ⟨rfl, ⟨nd, rfl⟩⟩; refine ⟨_, rfl, ?_⟩))
  go_ret
  exact ⟨by first | rfl | (simp [errW_none, errW_some] <;> rfl) | (simp [*, errW_none, errW_some] <;> rfl), by repeat (first | (with_reducible first | exact HB.out | apply below_alloc | apply pw_below_drewN | apply below_drew1 | refine below_set ?_ GE101.out) | exact HB.out)⟩
 rw [if_neg c4] at H
 have c4b0 : decide (t102 < 0) = false := decide_eq_false c4
 clear c4
 obtain rfl := Option.some.inj H
 go_enter Try.func40, Try.ntmps40
 go_wp2_with (first | ((with_reducible refine gate_dst (N := 2) rfl ?_); refine box_event ?hg (N := 2) ?hd (cs := #[.int .i8 a0_0, .int .i8 a0_1, .slice A0_2 l0_2.length c0_2]) (t := 25) ?hr ?_; (case hd => rfl); (case hg => rfl); (case hr => first | (go_simp; done) | (go_simp; rfl)); intro gb101 hg w7 hbox hb; have n_ : _ ∧ _ ∧ _ ∧ _ := ⟨zb HB hb, Aside0.mk (hbox), zg HB hg, zg HB hg⟩; clear HB; obtain ⟨HB, BK101, GW101, GE101⟩ := n_; clear hb hbox hg; obtain ⟨z8_0, z8_1, z8_2, y8_0, y8_1, y8_2⟩ := zB3 BK101) | ((with_reducible refine gate_callee (f := 105) rfl ?_); refine goesL_ (some 8) rfl rfl Try.func105 (by kernel_rfl) rfl #[.slice A0_2 l0_2.length c0_2, .int .i64 a1] rfl (by (try simp only [List.map_toArray, List.map_cons, List.map_nil]); first | done | rfl | (simp only [List.length_drop, List.length_take]; rfl)) ?_; (with_reducible refine (laws_szPieceS.calls _ _ l0_2 a1 t102 _ ?side1 ?side2 A3.out).mono ?_); (case side1 => exact zcc HB HR0_2.out); (case side2 => exact HC0_2.out); rintro e w' ⟨rfl, ⟨nd, rfl⟩⟩; refine ⟨_, rfl, ?_⟩))
 go_ret
 exact ⟨by first | rfl | (simp [errW_none, errW_some] <;> rfl) | (simp [*, errW_none, errW_some] <;> rfl), by repeat (first | (with_reducible first | exact HB.out | apply below_alloc | apply pw_below_drewN | apply below_drew1 | refine below_set ?_ GE101.out) | exact HB.out)⟩
/-! ### laws_szPortS: function 83 -/
def laws_szPortS.f (l0 : List (S182)) (a1 : Int) : Option (Int) := if (wrap64 (a1 - (l0.length : Int))) < 0 then (some (-1)) else (some (wrap64 (a1 - (l0.length : Int))))
set_option maxHeartbeats 8000000 in
set_option maxRecDepth 100000 in
theorem laws_szPortS.calls (A0 : Option Addr) (c0 : Nat) (l0 : List (S182)) (a1 : Int) (r : Int) (w : World) (hr0 : Kd.C k182 w A0 l0.length l0) (hc0 : l0.length ≤ c0) (h : laws_szPortS.f l0 a1 = some r) :
    Calls Try.prog 83 #[.slice A0 l0.length c0, .int .i64 a1] w fun e w' => e = .returned (.int .i64 r) ∧ Drawn0 w w' := by
 have HR0 := Aside0.mk hr0
 have HC0 := Aside0.mk hc0
 clear hr0 hc0
 have H : (if (wrap64 (a1 - (l0.length : Int))) < 0 then (some (-1)) else (some (wrap64 (a1 - (l0.length : Int))))) = some r := h
 clear h
 by_cases c3 : (wrap64 (a1 - (l0.length : Int))) < 0
 ·rw [if_pos c3] at H
  have c3b0 : decide ((wrap64 (a1 - (l0.length : Int))) < 0) = true := decide_eq_true c3
  clear c3
  obtain rfl := Option.some.inj H
  go_enter Try.func83, Try.ntmps83
  go_wp2
  go_ret
  exact ⟨by first | rfl | (simp; done) | (simp [*]; done) | (exact congrArg (Value.int .i64) (wrap_eq (by omega))), by repeat (first | exact Drawn0.refl _ | apply Drawn0.step)⟩
 rw [if_neg c3] at H
 have c3b0 : decide ((wrap64 (a1 - (l0.length : Int))) < 0) = false := decide_eq_false c3
 clear c3
 obtain rfl := Option.some.inj H
 go_enter Try.func83, Try.ntmps83
 go_wp2
 go_ret
 exact ⟨by first | rfl | (simp; done) | (simp [*]; done) | (exact congrArg (Value.int .i64) (wrap_eq (by omega))), by repeat (first | exact Drawn0.refl _ | apply Drawn0.step)⟩
/-! ### laws_szCellS: function 84 -/
def laws_szCellS.f (l0 : List (S71)) (a1 : Int) : Option (Int) := if (wrap64 (a1 - (l0.length : Int))) < 0 then (some (-1)) else (some (wrap64 (a1 - (l0.length : Int))))
set_option maxHeartbeats 8000000 in
set_option maxRecDepth 100000 in
theorem laws_szCellS.calls (A0 : Option Addr) (c0 : Nat) (l0 : List (S71)) (a1 : Int) (r : Int) (w : World) (hr0 : Kd.C k71 w A0 l0.length l0) (hc0 : l0.length ≤ c0) (h : laws_szCellS.f l0 a1 = some r) :
    Calls Try.prog 84 #[.slice A0 l0.length c0, .int .i64 a1] w fun e w' => e = .returned (.int .i64 r) ∧ Drawn0 w w' := by
 have HR0 := Aside0.mk hr0
 have HC0 := Aside0.mk hc0
 clear hr0 hc0
 have H : (if (wrap64 (a1 - (l0.length : Int))) < 0 then (some (-1)) else (some (wrap64 (a1 - (l0.length : Int))))) = some r := h
 clear h
 by_cases c3 : (wrap64 (a1 - (l0.length : Int))) < 0
 ·rw [if_pos c3] at H
  have c3b0 : decide ((wrap64 (a1 - (l0.length : Int))) < 0) = true := decide_eq_true c3
  clear c3
  obtain rfl := Option.some.inj H
  go_enter Try.func84, Try.ntmps84
  go_wp2
  go_ret
  exact ⟨by first | rfl | (simp; done) | (simp [*]; done) | (exact congrArg (Value.int .i64) (wrap_eq (by omega))), by repeat (first | exact Drawn0.refl _ | apply Drawn0.step)⟩
 rw [if_neg c3] at H
 have c3b0 : decide ((wrap64 (a1 - (l0.length : Int))) < 0) = false := decide_eq_false c3
 clear c3
 obtain rfl := Option.some.inj H
 go_enter Try.func84, Try.ntmps84
 go_wp2
 go_ret
 exact ⟨by first | rfl | (simp; done) | (simp [*]; done) | (exact congrArg (Value.int .i64) (wrap_eq (by omega))), by repeat (first | exact Drawn0.refl _ | apply Drawn0.step)⟩
/-! ### laws_szMachine: function 21 -/
def laws_szMachine.f (a0_0 : Int) (a0_1 : Int) (l0_2 : List (S88)) (l0_3 : List (S182)) (l0_4 : List (S71)) (a1 : Int) : Option (Int) := (laws_szBoard.f a0_0 a0_1 l0_2 a1).bind fun t104 => (if t104 < 0 then (some (-1)) else ((laws_szPortS.f l0_3 t104).bind fun t105 => (if t105 < 0 then (some (-1)) else ((laws_szCellS.f l0_4 t105).bind fun t106 => (if t106 < 0 then (some (-1)) else (some t106))))))
set_option maxHeartbeats 8000000 in
set_option maxRecDepth 100000 in
theorem laws_szMachine.calls (a0_0 : Int) (a0_1 : Int) (A0_2 : Option Addr) (c0_2 : Nat) (l0_2 : List (S88)) (A0_3 : Option Addr) (c0_3 : Nat) (l0_3 : List (S182)) (A0_4 : Option Addr) (c0_4 : Nat) (l0_4 : List (S71)) (a1 : Int) (r : Int) (w : World) (hr0_2 : Kd.C k88 w A0_2 l0_2.length l0_2) (hc0_2 : l0_2.length ≤ c0_2) (hr0_3 : Kd.C k182 w A0_3 l0_3.length l0_3) (hc0_3 : l0_3.length ≤ c0_3) (hr0_4 : Kd.C k71 w A0_4 l0_4.length l0_4) (hc0_4 : l0_4.length ≤ c0_4) (h : laws_szMachine.f a0_0 a0_1 l0_2 l0_3 l0_4 a1 = some r) :
    Calls Try.prog 21 #[.agg #[.int .i8 a0_0, .int .i8 a0_1, .slice A0_2 l0_2.length c0_2, .slice A0_3 l0_3.length c0_3, .slice A0_4 l0_4.length c0_4], .int .i64 a1] w fun e w' => e = .returned (.int .i64 r) ∧ Below w.heap.size w w' := by
 have hu29 := Try.underlying29
 have hu25 := Try.underlying25
 have HR0_2 := Aside0.mk hr0_2
 have HC0_2 := Aside0.mk hc0_2
 clear hr0_2 hc0_2
 have HR0_3 := Aside0.mk hr0_3
 have HC0_3 := Aside0.mk hc0_3
 clear hr0_3 hc0_3
 have HR0_4 := Aside0.mk hr0_4
 have HC0_4 := Aside0.mk hc0_4
 clear hr0_4 hc0_4
 have HB := Aside0.mk (Below.refl w.heap.size w)
 have H : ((laws_szBoard.f a0_0 a0_1 l0_2 a1).bind fun t104 => (if t104 < 0 then (some (-1)) else ((laws_szPortS.f l0_3 t104).bind fun t105 => (if t105 < 0 then (some (-1)) else ((laws_szCellS.f l0_4 t105).bind fun t106 => (if t106 < 0 then (some (-1)) else (some t106))))))) = some r := h
 clear h
 replace H := Option.bind_eq_some_iff.mp H
 obtain ⟨t104, A30, H⟩ := H
 replace H : (if t104 < 0 then (some (-1)) else ((laws_szPortS.f l0_3 t104).bind fun t105 => (if t105 < 0 then (some (-1)) else ((laws_szCellS.f l0_4 t105).bind fun t106 => (if t106 < 0 then (some (-1)) else (some t106)))))) = some r := H
 have A3 := Aside0.mk A30
 clear A30
 by_cases c4 : t104 < 0
 ·rw [if_pos c4] at H
  have c4b0 : decide (t104 < 0) = true := decide_eq_true c4
  clear c4
  obtain rfl := Option.some.inj H
  go_enter Try.func21, Try.ntmps21
  go_wp2_with (first | ((with_reducible refine gate_dst (N := 2) rfl ?_); refine box_event ?hg (N := 2) ?hd (cs := #[.int .i8 a0_0, .int .i8 a0_1, .slice A0_2 l0_2.length c0_2, .slice A0_3 l0_3.length c0_3, .slice A0_4 l0_4.length c0_4]) (t := 29) ?hr ?_; (case hd => rfl); (case hg => rfl); (case hr => first | (go_simp; done) | (go_simp; rfl)); intro gb103 hg w5 hbox hb; have n_ : _ ∧ _ ∧ _ ∧ _ := ⟨zb HB hb, Aside0.mk (hbox), zg HB hg, zg HB hg⟩; clear HB; obtain ⟨HB, BK103, GW103, GE103⟩ := n_; clear hb hbox hg; obtain ⟨z6_0, z6_1, z6_2, z6_3, z6_4, y6_0, y6_1, y6_2, y6_3, y6_4⟩ := zB5 BK103) | ((with_reducible refine gate_callee (f := 40) rfl ?_); refine goesL_ (some 8) rfl rfl Try.func40 (by kernel_rfl) rfl #[.agg #[.int .i8 a0_0, .int .i8 a0_1, .slice A0_2 l0_2.length c0_2], .int .i64 a1] rfl (by (try simp only [List.map_toArray, List.map_cons, List.map_nil]); first | done | rfl | (simp only [List.length_drop, List.length_take]; rfl)) ?_; (with_reducible refine (laws_szBoard.calls a0_0 a0_1 _ _ l0_2 a1 t104 _ ?side1 ?side2 A3.out).mono ?_); (case side1 => exact zcc HB HR0_2.out); (case side2 => exact HC0_2.out); rintro e w7 ⟨rfl, hb⟩; refine ⟨_, rfl, ?_⟩; have n_ : _ ∧ _ := ⟨zk BK103 hb, zbs hb⟩; clear BK103 HB; obtain ⟨BK103, HB⟩ := n_; (try clear hb); (try clear hb2); (try clear hk); (try clear hi)))
  go_ret
  exact ⟨by first | rfl | (simp [errW_none, errW_some] <;> rfl) | (simp [*, errW_none, errW_some] <;> rfl), by repeat (first | (with_reducible first | exact HB.out | apply below_alloc | apply pw_below_drewN | apply below_drew1 | refine below_set ?_ GE103.out) | exact HB.out)⟩
 rw [if_neg c4] at H
 have c4b0 : decide (t104 < 0) = false := decide_eq_false c4
 clear c4
 replace H := Option.bind_eq_some_iff.mp H
 obtain ⟨t105, A80, H⟩ := H
 replace H : (if t105 < 0 then (some (-1)) else ((laws_szCellS.f l0_4 t105).bind fun t106 => (if t106 < 0 then (some (-1)) else (some t106)))) = some r := H
 have A8 := Aside0.mk A80
 clear A80
 by_cases c9 : t105 < 0
 ·rw [if_pos c9] at H
  have c9b0 : decide (t105 < 0) = true := decide_eq_true c9
  clear c9
  obtain rfl := Option.some.inj H
  go_enter Try.func21, Try.ntmps21
  go_wp2_with (first | ((with_reducible refine gate_dst (N := 2) rfl ?_); refine box_event ?hg (N := 2) ?hd (cs := #[.int .i8 a0_0, .int .i8 a0_1, .slice A0_2 l0_2.length c0_2, .slice A0_3 l0_3.length c0_3, .slice A0_4 l0_4.length c0_4]) (t := 29) ?hr ?_; (case hd => rfl); (case hg => rfl); (case hr => first | (go_simp; done) | (go_simp; rfl)); intro gb103 hg w10 hbox hb; have n_ : _ ∧ _ ∧ _ ∧ _ := ⟨zb HB hb, Aside0.mk (hbox), zg HB hg, zg HB hg⟩; clear HB; obtain ⟨HB, BK103, GW103, GE103⟩ := n_; clear hb hbox hg; obtain ⟨z11_0, z11_1, z11_2, z11_3, z11_4, y11_0, y11_1, y11_2, y11_3, y11_4⟩ := zB5 BK103) | ((with_reducible refine gate_callee (f := 40) rfl ?_); refine goesL_ (some 8) rfl rfl Try.func40 (by kernel_rfl) rfl #[.agg #[.int .i8 a0_0, .int .i8 a0_1, .slice A0_2 l0_2.length c0_2], .int .i64 a1] rfl (by (try simp only [List.map_toArray, List.map_cons, List.map_nil]); first | done | rfl | (simp only [List.length_drop, List.length_take]; rfl)) ?_; (with_reducible refine (laws_szBoard.calls a0_0 a0_1 _ _ l0_2 a1 t104 _ ?side1 ?side2 A3.out).mono ?_); (case side1 => exact zcc HB HR0_2.out); (case side2 => exact HC0_2.out); rintro e w12 ⟨rfl, hb⟩; refine ⟨_, rfl, ?_⟩; have n_ : _ ∧ _ := ⟨zk BK103 hb, zbs hb⟩; clear BK103 HB; obtain ⟨BK103, HB⟩ := n_; (try clear hb); (try clear hb2); (try clear hk); (try clear hi); obtain ⟨z13_0, z13_1, z13_2, z13_3, z13_4, y13_0, y13_1, y13_2, y13_3, y13_4⟩ := zB5 BK103) | ((with_reducible refine gate_callee (f := 83) rfl ?_); refine goesL_ (some 14) rfl rfl Try.func83 (by kernel_rfl) rfl #[.slice A0_3 l0_3.length c0_3, .int .i64 t104] rfl (by (try simp only [List.map_toArray, List.map_cons, List.map_nil]); first | done | rfl | (simp only [List.length_drop, List.length_take]; rfl)) ?_; (with_reducible refine (laws_szPortS.calls _ _ l0_3 t104 t105 _ ?side1 ?side2 A8.out).mono ?_); (case side1 => exact zcc HB HR0_3.out); (case side2 => exact HC0_3.out); rintro e w' ⟨rfl, ⟨nd, rfl⟩⟩; refine ⟨_, rfl, ?_⟩))
  go_ret
  exact ⟨by first | rfl | (simp [errW_none, errW_some] <;> rfl) | (simp [*, errW_none, errW_some] <;> rfl), by repeat (first | (with_reducible first | exact HB.out | apply below_alloc | apply pw_below_drewN | apply below_drew1 | refine below_set ?_ GE103.out) | exact HB.out)⟩
 rw [if_neg c9] at H
 have c9b0 : decide (t105 < 0) = false := decide_eq_false c9
 clear c9
 replace H := Option.bind_eq_some_iff.mp H
 obtain ⟨t106, A140, H⟩ := H
 replace H : (if t106 < 0 then (some (-1)) else (some t106)) = some r := H
 have A14 := Aside0.mk A140
 clear A140
 by_cases c15 : t106 < 0
 ·rw [if_pos c15] at H
  have c15b0 : decide (t106 < 0) = true := decide_eq_true c15
  clear c15
  obtain rfl := Option.some.inj H
  go_enter Try.func21, Try.ntmps21
  go_wp2_with (first | ((with_reducible refine gate_dst (N := 2) rfl ?_); refine box_event ?hg (N := 2) ?hd (cs := #[.int .i8 a0_0, .int .i8 a0_1, .slice A0_2 l0_2.length c0_2, .slice A0_3 l0_3.length c0_3, .slice A0_4 l0_4.length c0_4]) (t := 29) ?hr ?_; (case hd => rfl); (case hg => rfl); (case hr => first | (go_simp; done) | (go_simp; rfl)); intro gb103 hg w16 hbox hb; have n_ : _ ∧ _ ∧ _ ∧ _ := ⟨zb HB hb, Aside0.mk (hbox), zg HB hg, zg HB hg⟩; clear HB; obtain ⟨HB, BK103, GW103, GE103⟩ := n_; clear hb hbox hg; obtain ⟨z17_0, z17_1, z17_2, z17_3, z17_4, y17_0, y17_1, y17_2, y17_3, y17_4⟩ := zB5 BK103) | ((with_reducible refine gate_callee (f := 40) rfl ?_); refine goesL_ (some 8) rfl rfl Try.func40 (by kernel_rfl) rfl #[.agg #[.int .i8 a0_0, .int .i8 a0_1, .slice A0_2 l0_2.length c0_2], .int .i64 a1] rfl (by (try simp only [List.map_toArray, List.map_cons, List.map_nil]); first | done | rfl | (simp only [List.length_drop, List.length_take]; rfl)) ?_; (with_reducible refine (laws_szBoard.calls a0_0 a0_1 _ _ l0_2 a1 t104 _ ?side1 ?side2 A3.out).mono ?_); (case side1 => exact zcc HB HR0_2.out); (case side2 => exact HC0_2.out); rintro e w18 ⟨rfl, hb⟩; refine ⟨_, rfl, ?_⟩; have n_ : _ ∧ _ := ⟨zk BK103 hb, zbs hb⟩; clear BK103 HB; obtain ⟨BK103, HB⟩ := n_; (try clear hb); (try clear hb2); (try clear hk); (try clear hi); obtain ⟨z19_0, z19_1, z19_2, z19_3, z19_4, y19_0, y19_1, y19_2, y19_3, y19_4⟩ := zB5 BK103) | ((with_reducible refine gate_callee (f := 83) rfl ?_); refine goesL_ (some 14) rfl rfl Try.func83 (by kernel_rfl) rfl #[.slice A0_3 l0_3.length c0_3, .int .i64 t104] rfl (by (try simp only [List.map_toArray, List.map_cons, List.map_nil]); first | done | rfl | (simp only [List.length_drop, List.length_take]; rfl)) ?_; (with_reducible refine (laws_szPortS.calls _ _ l0_3 t104 t105 _ ?side1 ?side2 A8.out).mono ?_); (case side1 => exact zcc HB HR0_3.out); (case side2 => exact HC0_3.out); rintro e w' ⟨rfl, ⟨nd, rfl⟩⟩; refine ⟨_, rfl, ?_⟩) | ((with_reducible refine gate_callee (f := 84) rfl ?_); refine goesL_ (some 20) rfl rfl Try.func84 (by kernel_rfl) rfl #[.slice A0_4 l0_4.length c0_4, .int .i64 t105] rfl (by (try simp only [List.map_toArray, List.map_cons, List.map_nil]); first | done | rfl | (simp only [List.length_drop, List.length_take]; rfl)) ?_; (with_reducible refine (laws_szCellS.calls _ _ l0_4 t105 t106 _ ?side1 ?side2 A14.out).mono ?_); (case side1 => repeat (first | exact (Kd.C_below HR0_4.out (by repeat (first | (with_reducible first | exact HB.out | apply below_alloc | apply pw_below_drewN | apply below_drew1 | refine below_set ?_ GE103.out) | exact HB.out))) | (with_reducible refine Kd.C_alloc ?_ _) | (with_reducible refine Kd.C_drewN ?_ _) | (with_reducible refine Kd.C_drew ?_))); (case side2 => exact HC0_4.out); rintro e w' ⟨rfl, ⟨nd, rfl⟩⟩; refine ⟨_, rfl, ?_⟩))
  go_ret
  exact ⟨by first | rfl | (simp [errW_none, errW_some] <;> rfl) | (simp [*, errW_none, errW_some] <;> rfl), by repeat (first | (with_reducible first | exact HB.out | apply below_alloc | apply pw_below_drewN | apply below_drew1 | refine below_set ?_ GE103.out) | exact HB.out)⟩
 rw [if_neg c15] at H
 have c15b0 : decide (t106 < 0) = false := decide_eq_false c15
 clear c15
 obtain rfl := Option.some.inj H
 go_enter Try.func21, Try.ntmps21
 go_wp2_with (first | ((with_reducible refine gate_dst (N := 2) rfl ?_); refine box_event ?hg (N := 2) ?hd (cs := #[.int .i8 a0_0, .int .i8 a0_1, .slice A0_2 l0_2.length c0_2, .slice A0_3 l0_3.length c0_3, .slice A0_4 l0_4.length c0_4]) (t := 29) ?hr ?_; (case hd => rfl); (case hg => rfl); (case hr => first | (go_simp; done) | (go_simp; rfl)); intro gb103 hg w20 hbox hb; have n_ : _ ∧ _ ∧ _ ∧ _ := ⟨zb HB hb, Aside0.mk (hbox), zg HB hg, zg HB hg⟩; clear HB; obtain ⟨HB, BK103, GW103, GE103⟩ := n_; clear hb hbox hg; obtain ⟨z21_0, z21_1, z21_2, z21_3, z21_4, y21_0, y21_1, y21_2, y21_3, y21_4⟩ := zB5 BK103) | ((with_reducible refine gate_callee (f := 40) rfl ?_); refine goesL_ (some 8) rfl rfl Try.func40 (by kernel_rfl) rfl #[.agg #[.int .i8 a0_0, .int .i8 a0_1, .slice A0_2 l0_2.length c0_2], .int .i64 a1] rfl (by (try simp only [List.map_toArray, List.map_cons, List.map_nil]); first | done | rfl | (simp only [List.length_drop, List.length_take]; rfl)) ?_; (with_reducible refine (laws_szBoard.calls a0_0 a0_1 _ _ l0_2 a1 t104 _ ?side1 ?side2 A3.out).mono ?_); (case side1 => exact zcc HB HR0_2.out); (case side2 => exact HC0_2.out); rintro e w22 ⟨rfl, hb⟩; refine ⟨_, rfl, ?_⟩; have n_ : _ ∧ _ := ⟨zk BK103 hb, zbs hb⟩; clear BK103 HB; obtain ⟨BK103, HB⟩ := n_; (try clear hb); (try clear hb2); (try clear hk); (try clear hi); obtain ⟨z23_0, z23_1, z23_2, z23_3, z23_4, y23_0, y23_1, y23_2, y23_3, y23_4⟩ := zB5 BK103) | ((with_reducible refine gate_callee (f := 83) rfl ?_); refine goesL_ (some 14) rfl rfl Try.func83 (by kernel_rfl) rfl #[.slice A0_3 l0_3.length c0_3, .int .i64 t104] rfl (by (try simp only [List.map_toArray, List.map_cons, List.map_nil]); first | done | rfl | (simp only [List.length_drop, List.length_take]; rfl)) ?_; (with_reducible refine (laws_szPortS.calls _ _ l0_3 t104 t105 _ ?side1 ?side2 A8.out).mono ?_); (case side1 => exact zcc HB HR0_3.out); (case side2 => exact HC0_3.out); rintro e w' ⟨rfl, ⟨nd, rfl⟩⟩; refine ⟨_, rfl, ?_⟩) | ((with_reducible refine gate_callee (f := 84) rfl ?_); refine goesL_ (some 20) rfl rfl Try.func84 (by kernel_rfl) rfl #[.slice A0_4 l0_4.length c0_4, .int .i64 t105] rfl (by (try simp only [List.map_toArray, List.map_cons, List.map_nil]); first | done | rfl | (simp only [List.length_drop, List.length_take]; rfl)) ?_; (with_reducible refine (laws_szCellS.calls _ _ l0_4 t105 t106 _ ?side1 ?side2 A14.out).mono ?_); (case side1 => repeat (first | exact (Kd.C_below HR0_4.out (by repeat (first | (with_reducible first | exact HB.out | apply below_alloc | apply pw_below_drewN | apply below_drew1 | refine below_set ?_ GE103.out) | exact HB.out))) | (with_reducible refine Kd.C_alloc ?_ _) | (with_reducible refine Kd.C_drewN ?_ _) | (with_reducible refine Kd.C_drew ?_))); (case side2 => exact HC0_4.out); rintro e w' ⟨rfl, ⟨nd, rfl⟩⟩; refine ⟨_, rfl, ?_⟩))
 go_ret
 exact ⟨by first | rfl | (simp [errW_none, errW_some] <;> rfl) | (simp [*, errW_none, errW_some] <;> rfl), by repeat (first | (with_reducible first | exact HB.out | apply below_alloc | apply pw_below_drewN | apply below_drew1 | refine below_set ?_ GE103.out) | exact HB.out)⟩
/-! ### spec_l00In: function 96 -/
def spec_l00In.f (a0 : Int) (a1 : Int) (a2 : Int) : Option (Bool) := if a0 ≥ a1 then (some (decide (a0 ≤ a2))) else (some false)
set_option maxHeartbeats 8000000 in
set_option maxRecDepth 100000 in
theorem spec_l00In.calls (a0 : Int) (a1 : Int) (a2 : Int) (r : Bool) (w : World) (h : spec_l00In.f a0 a1 a2 = some r) :
    Calls Try.prog 96 #[.int .i64 a0, .int .i64 a1, .int .i64 a2] w fun e w' => e = .returned (.bool r) ∧ Drawn0 w w' := by
 have H : (if a0 ≥ a1 then (some (decide (a0 ≤ a2))) else (some false)) = some r := h
 clear h
 by_cases c4 : a0 ≥ a1
 ·rw [if_pos c4] at H
  have c4b0 : decide (a1 ≤ a0) = true := decide_eq_true c4
  clear c4
  obtain rfl := Option.some.inj H
  go_enter Try.func96, Try.ntmps96
  go_wp2
  go_ret
  exact ⟨by first | rfl | (simp; done) | (simp [*]; done) | (exact congrArg (Value.int .i64) (wrap_eq (by omega))), by repeat (first | exact Drawn0.refl _ | apply Drawn0.step)⟩
 rw [if_neg c4] at H
 have c4b0 : decide (a1 ≤ a0) = false := decide_eq_false c4
 clear c4
 obtain rfl := Option.some.inj H
 go_enter Try.func96, Try.ntmps96
 go_wp2
 go_ret
 exact ⟨by first | rfl | (simp; done) | (simp [*]; done) | (exact congrArg (Value.int .i64) (wrap_eq (by omega))), by repeat (first | exact Drawn0.refl _ | apply Drawn0.step)⟩
/-! ### spec_l01Find: function 111 -/
def spec_l01Find.l0 : Nat → List (S37) → Int → Int → Int → Option (Int)
  | 0, _, _, _, _ => none
  | k + 1, x0, x5, x108000, x108001 => if 0 < (x0.length : Int) then (if x5 < (((rd_T37 x0 0).f2).length : Int) then (if 0 ≤ x5 then (if (((rd_T91 ((rd_T37 x0 0).f2) x5).f0.f0) == x108000 && (((rd_T91 ((rd_T37 x0 0).f2) x5).f0.f1) == x108001)) = true then (some x5) else (spec_l01Find.l0 k x0 (wrap64 (x5 + 1)) x108000 x108001)) else (none)) else (some (-1))) else (none)
def spec_l01Find.f (k : Nat) (l0 : List (S37)) (a1_0 : Int) (a1_1 : Int) : Option (Int) := spec_l01Find.l0 k l0 0 a1_0 a1_1
theorem spec_l01Find.mono_l : ∀ k, (∀ y0 y1 y2 y3, LeO (spec_l01Find.l0 k y0 y1 y2 y3) (spec_l01Find.l0 (k + 1) y0 y1 y2 y3))
  | 0 => fun _ _ _ _ r h => by simp [spec_l01Find.l0] at h
  | k + 1 => by
    have ih0 := spec_l01Find.mono_l k
    · intro y0 y1 y2 y3
      unfold spec_l01Find.l0
      repeat' first | (with_reducible first | apply ih0 | exact LeO.refl _ | exact LeO.none _ | refine LeO.ite ?_ ?_ | refine LeO.bind ?_ (fun _ => ?_)) | apply ih0 | exact LeO.none _ | refine LeO.ite ?_ ?_ | refine LeO.bind ?_ (fun _ => ?_)
theorem spec_l01Find.mono : ∀ a0 a1 a2 k, LeO (spec_l01Find.f k a0 a1 a2) (spec_l01Find.f (k + 1) a0 a1 a2) := by
 intro a0 a1 a2 k
 have ih0 := spec_l01Find.mono_l k
 unfold spec_l01Find.f
 repeat' first | (with_reducible first | apply ih0 | exact LeO.refl _ | exact LeO.none _ | refine LeO.ite ?_ ?_ | refine LeO.bind ?_ (fun _ => ?_)) | apply ih0 | exact LeO.none _ | refine LeO.ite ?_ ?_ | refine LeO.bind ?_ (fun _ => ?_)
set_option maxHeartbeats 8000000 in
set_option maxRecDepth 100000 in
theorem spec_l01Find.calls (k : Nat) (adp0 : Addr) (l0 : List (S37)) (a1_0 : Int) (a1_1 : Int) (r : Int) (w : World) (hr0 : Kd.C k37 w (some adp0) l0.length l0) (h : spec_l01Find.f k l0 a1_0 a1_1 = some r) :
    Calls Try.prog 111 #[.pointer (some adp0), .agg #[.int .i8 a1_0, .int .i8 a1_1]] w fun e w' => e = .returned (.int .i64 r) ∧ Below w.heap.size w w' := by
 have hu74 := Try.underlying74
 have HR0 := Aside0.mk hr0
 clear hr0
 have HB := Aside0.mk (Below.refl w.heap.size w)
 have H : (spec_l01Find.l0 k l0 0 a1_0 a1_1) = some r := h
 clear h
 have H' := Aside0.mk H
 clear H
 go_enter Try.func111, Try.ntmps111
 go_wp2_with (first | ((with_reducible refine gate_dst (N := 3) rfl ?_); refine box_event ?hg (N := 3) ?hd (cs := #[.int .i8 a1_0, .int .i8 a1_1]) (t := 74) ?hr ?_; (case hd => rfl); (case hg => rfl); (case hr => first | (go_simp; done) | (go_simp; rfl)); intro gb107 hg w3 hbox hb; have n_ : _ ∧ _ ∧ _ ∧ _ := ⟨zb HB hb, Aside0.mk (hbox), zg HB hg, zg HB hg⟩; clear HB; obtain ⟨HB, BK107, GW107, GE107⟩ := n_; clear hb hbox hg) | go_quiet (fail))
 go_loopg [5] k (fun kq v5 w' => ∃ (x5_1 : Int), v5 = .int .i64 x5_1 ∧ Aside0 (spec_l01Find.l0 kq l0 x5_1 a1_0 a1_1 = some r) ∧ Aside0 (kq ≤ k) ∧ Aside0 (w'.heap[gb107]? = some (.cells #[.int .i8 a1_0, .int .i8 a1_1] 74 (0, 0))) ∧ Aside0 (Below w.heap.size w w'))
 case atStart => exact ⟨(0), (by first | rfl | (simp; done) | (simp [*]; done) | (exact congrArg (Value.int .i64) (wrap_eq (by omega)))), H', ⟨Nat.le_refl _⟩, zh BK107, zba⟩
 clear H'
 try clear c1
 try clear p2
 obtain ⟨x5_1, rfl, HA, HK1, BK107, HB⟩ := hrel
 cases gk with
 | zero => exact absurd HA.out (by simp [spec_l01Find.l0])
 | succ k1 => ?_
 have H := HA.out
 clear HA
 simp only [spec_l01Find.l0] at H
 by_cases c4 : 0 < (l0.length : Int)
 rotate_left
 ·rw [if_neg c4] at H
  exact absurd H (by simp)
 rw [if_pos c4] at H
 have c4b0 : decide (0 < (l0.length : Int)) = true := decide_eq_true c4
 have c4b1 : decide (0 < l0.length) = true := decide_eq_true (by omega)
 clear c4
 by_cases c5 : x5_1 < (((rd_T37 l0 0).f2).length : Int)
 rotate_left
 ·rw [if_neg c5] at H
  have c5b0 : decide (x5_1 < (((rd_T37 l0 0).f2).length : Int)) = false := decide_eq_false c5
  clear c5
  obtain rfl := Option.some.inj H
  have p108 : 0 ≤ (0 : Int) := (by omega)
  have q108 : 0 < (l0.length : Int) := of_decide_eq_true (by first | (with_reducible assumption) | assumption)
  obtain ⟨ad108, A108_2, c108_2, e108, hx108_0, hx108_1, hx108_2, hl108_2, hi108_2⟩ := at_T37 HR0.out 0 p108 q108
  obtain rfl : adp0 = ad108 := (by injection e108)
  have qi108 : (0 < l0.length) = True := eq_true (by omega)
  (try rw [show ((0 : Int)).toNat = 0 from rfl] at hx108_0)
  (try rw [show 0 * 3 = 0 from rfl] at hx108_0)
  (try rw [Addr.add_zero'] at hx108_0)
  (try rw [show ((0 : Int)).toNat = 0 from rfl] at hx108_1)
  (try rw [show 0 * 3 = 0 from rfl] at hx108_1)
  (try rw [Addr.add_zero'] at hx108_1)
  (try rw [show ((0 : Int)).toNat = 0 from rfl] at hx108_2)
  (try rw [show 0 * 3 = 0 from rfl] at hx108_2)
  (try rw [Addr.add_zero'] at hx108_2)
  replace hx108_0 := zc HB hx108_0
  replace hx108_1 := zc HB hx108_1
  replace hx108_2 := zc HB hx108_2
  have HR108_2 := Aside0.mk hi108_2
  have HC108_2 := Aside0.mk hl108_2
  clear hi108_2 hl108_2
  replace p108 := eq_true p108
  replace q108 := eq_true q108
  go_wp2
  repeat (go_quiet (fail); try go_wp2)
  go_ret
  exact ⟨by first | rfl | (simp [errW_none, errW_some] <;> rfl) | (simp [*, errW_none, errW_some] <;> rfl), by repeat (first | (with_reducible first | exact HB.out | apply below_alloc | apply pw_below_drewN | apply below_drew1 | refine below_set ?_ GE107.out) | exact HB.out)⟩
 rw [if_pos c5] at H
 have c5b0 : decide (x5_1 < (((rd_T37 l0 0).f2).length : Int)) = true := decide_eq_true c5
 clear c5
 by_cases c6 : 0 ≤ x5_1
 rotate_left
 ·rw [if_neg c6] at H
  exact absurd H (by simp)
 rw [if_pos c6] at H
 have c6b0 : decide (0 ≤ x5_1) = true := decide_eq_true c6
 clear c6
 by_cases c7 : (((rd_T91 ((rd_T37 l0 0).f2) x5_1).f0.f0) == a1_0 && (((rd_T91 ((rd_T37 l0 0).f2) x5_1).f0.f1) == a1_1)) = true
 ·rw [if_pos c7] at H
  have c7b0 : (((rd_T91 ((rd_T37 l0 0).f2) x5_1).f0.f0) == a1_0 && (((rd_T91 ((rd_T37 l0 0).f2) x5_1).f0.f1) == a1_1)) = true := c7
  (try (have c7b1 : decide (((rd_T91 ((rd_T37 l0 0).f2) x5_1).f0.f0) = a1_0 && (((rd_T91 ((rd_T37 l0 0).f2) x5_1).f0.f1) == a1_1)) = true := by first | (simpa using c7) | (have h_ := c7; revert h_; cases ((rd_T91 ((rd_T37 l0 0).f2) x5_1).f0.f0) <;> cases a1_0 && (((rd_T91 ((rd_T37 l0 0).f2) x5_1).f0.f1) == a1_1) <;> decide)))
  (try (have c7b2 : (((rd_T91 ((rd_T37 l0 0).f2) x5_1).f0.f0) == a1_0 && (((rd_T91 ((rd_T37 l0 0).f2) x5_1).f0.f1) == a1_1)) = true := by first | (simpa using c7) | (have h_ := c7; revert h_; cases ((rd_T91 ((rd_T37 l0 0).f2) x5_1).f0.f0) <;> cases a1_0 && (((rd_T91 ((rd_T37 l0 0).f2) x5_1).f0.f1) == a1_1) <;> decide)))
  clear c7
  obtain rfl := Option.some.inj H
  have p108 : 0 ≤ (0 : Int) := (by omega)
  have q108 : 0 < (l0.length : Int) := of_decide_eq_true (by first | (with_reducible assumption) | assumption)
  obtain ⟨ad108, A108_2, c108_2, e108, hx108_0, hx108_1, hx108_2, hl108_2, hi108_2⟩ := at_T37 HR0.out 0 p108 q108
  obtain rfl : adp0 = ad108 := (by injection e108)
  have qi108 : (0 < l0.length) = True := eq_true (by omega)
  (try rw [show ((0 : Int)).toNat = 0 from rfl] at hx108_0)
  (try rw [show 0 * 3 = 0 from rfl] at hx108_0)
  (try rw [Addr.add_zero'] at hx108_0)
  (try rw [show ((0 : Int)).toNat = 0 from rfl] at hx108_1)
  (try rw [show 0 * 3 = 0 from rfl] at hx108_1)
  (try rw [Addr.add_zero'] at hx108_1)
  (try rw [show ((0 : Int)).toNat = 0 from rfl] at hx108_2)
  (try rw [show 0 * 3 = 0 from rfl] at hx108_2)
  (try rw [Addr.add_zero'] at hx108_2)
  replace hx108_0 := zc HB hx108_0
  replace hx108_1 := zc HB hx108_1
  replace hx108_2 := zc HB hx108_2
  have HR108_2 := Aside0.mk hi108_2
  have HC108_2 := Aside0.mk hl108_2
  clear hi108_2 hl108_2
  replace p108 := eq_true p108
  replace q108 := eq_true q108
  have p109 : 0 ≤ (0 : Int) := (by omega)
  have q109 : 0 < (l0.length : Int) := of_decide_eq_true (by first | (with_reducible assumption) | assumption)
  obtain ⟨ad109, A109_2, c109_2, e109, hx109_0, hx109_1, hx109_2, hl109_2, hi109_2⟩ := at_T37 HR0.out 0 p109 q109
  obtain rfl : adp0 = ad109 := (by injection e109)
  have qi109 : (0 < l0.length) = True := eq_true (by omega)
  (try rw [show ((0 : Int)).toNat = 0 from rfl] at hx109_0)
  (try rw [show 0 * 3 = 0 from rfl] at hx109_0)
  (try rw [Addr.add_zero'] at hx109_0)
  (try rw [show ((0 : Int)).toNat = 0 from rfl] at hx109_1)
  (try rw [show 0 * 3 = 0 from rfl] at hx109_1)
  (try rw [Addr.add_zero'] at hx109_1)
  (try rw [show ((0 : Int)).toNat = 0 from rfl] at hx109_2)
  (try rw [show 0 * 3 = 0 from rfl] at hx109_2)
  (try rw [Addr.add_zero'] at hx109_2)
  replace hx109_0 := zc HB hx109_0
  replace hx109_1 := zc HB hx109_1
  replace hx109_2 := zc HB hx109_2
  have HR109_2 := Aside0.mk hi109_2
  have HC109_2 := Aside0.mk hl109_2
  clear hi109_2 hl109_2
  replace p109 := eq_true p109
  replace q109 := eq_true q109
  have ea_ := Option.some.inj (hx108_2.symm.trans hx109_2)
  injection ea_ with ea_ en_ ec_
  subst ea_
  subst ec_
  clear en_
  have p110 : 0 ≤ (x5_1 : Int) := of_decide_eq_true (by first | (with_reducible assumption) | assumption)
  have q110 : x5_1 < (((rd_T37 l0 0).f2).length : Int) := of_decide_eq_true (by first | (with_reducible assumption) | assumption)
  obtain ⟨ad110, e110, hx110_0, hx110_1, hx110_2, hx110_3, hx110_4⟩ := at_T91 HR109_2.out x5_1 p110 q110
  cases e110
  replace hx110_0 := zc HB hx110_0
  replace hx110_1 := zc HB hx110_1
  replace hx110_2 := zc HB hx110_2
  replace hx110_3 := zc HB hx110_3
  replace hx110_4 := zc HB hx110_4
  replace p110 := eq_true p110
  replace q110 := eq_true q110
  obtain ⟨z8_0, z8_1, y8_0, y8_1⟩ := zB2 BK107
  go_wp2
  repeat (go_quiet (fail); try go_wp2)
  go_ret
  exact ⟨by first | rfl | (simp [errW_none, errW_some] <;> rfl) | (simp [*, errW_none, errW_some] <;> rfl), by repeat (first | (with_reducible first | exact HB.out | apply below_alloc | apply pw_below_drewN | apply below_drew1 | refine below_set ?_ GE107.out) | exact HB.out)⟩
 rw [if_neg c7] at H
 have c7b0 : (((rd_T91 ((rd_T37 l0 0).f2) x5_1).f0.f0) == a1_0 && (((rd_T91 ((rd_T37 l0 0).f2) x5_1).f0.f1) == a1_1)) = false := by simpa using c7
 (try (have c7b1 : decide (((rd_T91 ((rd_T37 l0 0).f2) x5_1).f0.f0) = a1_0 && (((rd_T91 ((rd_T37 l0 0).f2) x5_1).f0.f1) == a1_1)) = false := by first | (simpa using c7) | (have h_ := c7; revert h_; cases ((rd_T91 ((rd_T37 l0 0).f2) x5_1).f0.f0) <;> cases a1_0 && (((rd_T91 ((rd_T37 l0 0).f2) x5_1).f0.f1) == a1_1) <;> decide)))
 (try (have c7b2 : (((rd_T91 ((rd_T37 l0 0).f2) x5_1).f0.f0) == a1_0 && (((rd_T91 ((rd_T37 l0 0).f2) x5_1).f0.f1) == a1_1)) = false := by first | (simpa using c7) | (have h_ := c7; revert h_; cases ((rd_T91 ((rd_T37 l0 0).f2) x5_1).f0.f0) <;> cases a1_0 && (((rd_T91 ((rd_T37 l0 0).f2) x5_1).f0.f1) == a1_1) <;> decide)))
 (try (have c7b3 : ¬ (((rd_T91 ((rd_T37 l0 0).f2) x5_1).f0.f0) = a1_0 && (((rd_T91 ((rd_T37 l0 0).f2) x5_1).f0.f1) == a1_1)) := by simpa using c7))
 clear c7
 have H' := Aside0.mk H
 clear H
 have p108 : 0 ≤ (0 : Int) := (by omega)
 have q108 : 0 < (l0.length : Int) := of_decide_eq_true (by first | (with_reducible assumption) | assumption)
 obtain ⟨ad108, A108_2, c108_2, e108, hx108_0, hx108_1, hx108_2, hl108_2, hi108_2⟩ := at_T37 HR0.out 0 p108 q108
 obtain rfl : adp0 = ad108 := (by injection e108)
 have qi108 : (0 < l0.length) = True := eq_true (by omega)
 (try rw [show ((0 : Int)).toNat = 0 from rfl] at hx108_0)
 (try rw [show 0 * 3 = 0 from rfl] at hx108_0)
 (try rw [Addr.add_zero'] at hx108_0)
 (try rw [show ((0 : Int)).toNat = 0 from rfl] at hx108_1)
 (try rw [show 0 * 3 = 0 from rfl] at hx108_1)
 (try rw [Addr.add_zero'] at hx108_1)
 (try rw [show ((0 : Int)).toNat = 0 from rfl] at hx108_2)
 (try rw [show 0 * 3 = 0 from rfl] at hx108_2)
 (try rw [Addr.add_zero'] at hx108_2)
 replace hx108_0 := zc HB hx108_0
 replace hx108_1 := zc HB hx108_1
 replace hx108_2 := zc HB hx108_2
 have HR108_2 := Aside0.mk hi108_2
 have HC108_2 := Aside0.mk hl108_2
 clear hi108_2 hl108_2
 replace p108 := eq_true p108
 replace q108 := eq_true q108
 have p109 : 0 ≤ (0 : Int) := (by omega)
 have q109 : 0 < (l0.length : Int) := of_decide_eq_true (by first | (with_reducible assumption) | assumption)
 obtain ⟨ad109, A109_2, c109_2, e109, hx109_0, hx109_1, hx109_2, hl109_2, hi109_2⟩ := at_T37 HR0.out 0 p109 q109
 obtain rfl : adp0 = ad109 := (by injection e109)
 have qi109 : (0 < l0.length) = True := eq_true (by omega)
 (try rw [show ((0 : Int)).toNat = 0 from rfl] at hx109_0)
 (try rw [show 0 * 3 = 0 from rfl] at hx109_0)
 (try rw [Addr.add_zero'] at hx109_0)
 (try rw [show ((0 : Int)).toNat = 0 from rfl] at hx109_1)
 (try rw [show 0 * 3 = 0 from rfl] at hx109_1)
 (try rw [Addr.add_zero'] at hx109_1)
 (try rw [show ((0 : Int)).toNat = 0 from rfl] at hx109_2)
 (try rw [show 0 * 3 = 0 from rfl] at hx109_2)
 (try rw [Addr.add_zero'] at hx109_2)
 replace hx109_0 := zc HB hx109_0
 replace hx109_1 := zc HB hx109_1
 replace hx109_2 := zc HB hx109_2
 have HR109_2 := Aside0.mk hi109_2
 have HC109_2 := Aside0.mk hl109_2
 clear hi109_2 hl109_2
 replace p109 := eq_true p109
 replace q109 := eq_true q109
 have ea_ := Option.some.inj (hx108_2.symm.trans hx109_2)
 injection ea_ with ea_ en_ ec_
 subst ea_
 subst ec_
 clear en_
 have p110 : 0 ≤ (x5_1 : Int) := of_decide_eq_true (by first | (with_reducible assumption) | assumption)
 have q110 : x5_1 < (((rd_T37 l0 0).f2).length : Int) := of_decide_eq_true (by first | (with_reducible assumption) | assumption)
 obtain ⟨ad110, e110, hx110_0, hx110_1, hx110_2, hx110_3, hx110_4⟩ := at_T91 HR109_2.out x5_1 p110 q110
 cases e110
 replace hx110_0 := zc HB hx110_0
 replace hx110_1 := zc HB hx110_1
 replace hx110_2 := zc HB hx110_2
 replace hx110_3 := zc HB hx110_3
 replace hx110_4 := zc HB hx110_4
 replace p110 := eq_true p110
 replace q110 := eq_true q110
 obtain ⟨z9_0, z9_1, y9_0, y9_1⟩ := zB2 BK107
 go_wp2
 repeat (go_quiet (fail); try go_wp2)
 go_roundg k1
 case measure => have := HK1.out; omega
 case rel => exact ⟨(wrap64 (x5_1 + 1)), (by first | rfl | (simp; done) | (simp [*]; done) | (exact congrArg (Value.int .i64) (wrap_eq (by omega)))), H', ⟨by have := HK1.out; omega⟩, zh BK107, zba⟩
/-! ### spec_l01In: function 133 -/
def spec_l01In.f (a0_0 : Int) (a0_1 : Int) (a1 : Int) (a2 : Int) : Option (Bool) := (spec_l00In.f (wrap64 (a0_0)) 0 (wrap64 (a1 - 1))).bind fun t112 => (if t112 = true then ((spec_l00In.f (wrap64 (a0_1)) 0 (wrap64 (a2 - 1))).bind fun t113 => (some t113)) else (some false))
set_option maxHeartbeats 8000000 in
set_option maxRecDepth 100000 in
theorem spec_l01In.calls (a0_0 : Int) (a0_1 : Int) (a1 : Int) (a2 : Int) (r : Bool) (w : World) (h : spec_l01In.f a0_0 a0_1 a1 a2 = some r) :
    Calls Try.prog 133 #[.agg #[.int .i8 a0_0, .int .i8 a0_1], .int .i64 a1, .int .i64 a2] w fun e w' => e = .returned (.bool r) ∧ Below w.heap.size w w' := by
 have hu74 := Try.underlying74
 have HB := Aside0.mk (Below.refl w.heap.size w)
 have H : ((spec_l00In.f (wrap64 (a0_0)) 0 (wrap64 (a1 - 1))).bind fun t112 => (if t112 = true then ((spec_l00In.f (wrap64 (a0_1)) 0 (wrap64 (a2 - 1))).bind fun t113 => (some t113)) else (some false))) = some r := h
 clear h
 replace H := Option.bind_eq_some_iff.mp H
 obtain ⟨t112, A40, H⟩ := H
 replace H : (if t112 = true then ((spec_l00In.f (wrap64 (a0_1)) 0 (wrap64 (a2 - 1))).bind fun t113 => (some t113)) else (some false)) = some r := H
 have A4 := Aside0.mk A40
 clear A40
 by_cases c5 : t112 = true
 rotate_left
 ·replace c5 := Bool.eq_false_iff.mpr c5
  subst c5
  have H1 : (some false) = some r := by rw [if_neg (show ¬ (false = true) by decide)] at H; exact H
  clear H
  have H := H1
  clear H1
  obtain rfl := Option.some.inj H
  go_enter Try.func133, Try.ntmps133
  go_wp2_with (first | ((with_reducible refine gate_dst (N := 3) rfl ?_); refine box_event ?hg (N := 3) ?hd (cs := #[.int .i8 a0_0, .int .i8 a0_1]) (t := 74) ?hr ?_; (case hd => rfl); (case hg => rfl); (case hr => first | (go_simp; done) | (go_simp; rfl)); intro gb111 hg w9 hbox hb; have n_ : _ ∧ _ ∧ _ ∧ _ := ⟨zb HB hb, Aside0.mk (hbox), zg HB hg, zg HB hg⟩; clear HB; obtain ⟨HB, BK111, GW111, GE111⟩ := n_; clear hb hbox hg; obtain ⟨z10_0, z10_1, y10_0, y10_1⟩ := zB2 BK111) | ((with_reducible refine gate_callee (f := 96) rfl ?_); refine goesL_ (some 12) rfl rfl Try.func96 (by kernel_rfl) rfl #[.int .i64 (wrap64 (a0_0)), .int .i64 0, .int .i64 (wrap64 (a1 - 1))] rfl (by (try simp only [List.map_toArray, List.map_cons, List.map_nil]); first | done | rfl | (simp only [List.length_drop, List.length_take]; rfl)) ?_; (with_reducible refine (spec_l00In.calls (wrap64 (a0_0)) 0 (wrap64 (a1 - 1)) false _ A4.out).mono ?_); rintro e w' ⟨rfl, ⟨nd, rfl⟩⟩; refine ⟨_, rfl, ?_⟩))
  go_ret
  exact ⟨by first | rfl | (simp [errW_none, errW_some] <;> rfl) | (simp [*, errW_none, errW_some] <;> rfl), by repeat (first | (with_reducible first | exact HB.out | apply below_alloc | apply pw_below_drewN | apply below_drew1 | refine below_set ?_ GE111.out) | exact HB.out)⟩
 subst c5
 have H1 : ((spec_l00In.f (wrap64 (a0_1)) 0 (wrap64 (a2 - 1))).bind fun t113 => (some t113)) = some r := by rw [if_pos rfl] at H; exact H
 clear H
 have H := H1
 clear H1
 replace H := Option.bind_eq_some_iff.mp H
 obtain ⟨t113, A60, H⟩ := H
 replace H : (some t113) = some r := H
 have A6 := Aside0.mk A60
 clear A60
 obtain rfl := Option.some.inj H
 go_enter Try.func133, Try.ntmps133
 go_wp2_with (first | ((with_reducible refine gate_dst (N := 3) rfl ?_); refine box_event ?hg (N := 3) ?hd (cs := #[.int .i8 a0_0, .int .i8 a0_1]) (t := 74) ?hr ?_; (case hd => rfl); (case hg => rfl); (case hr => first | (go_simp; done) | (go_simp; rfl)); intro gb111 hg w7 hbox hb; have n_ : _ ∧ _ ∧ _ ∧ _ := ⟨zb HB hb, Aside0.mk (hbox), zg HB hg, zg HB hg⟩; clear HB; obtain ⟨HB, BK111, GW111, GE111⟩ := n_; clear hb hbox hg; obtain ⟨z8_0, z8_1, y8_0, y8_1⟩ := zB2 BK111) | ((with_reducible refine gate_callee (f := 96) rfl ?_); refine goesL_ (some 12) rfl rfl Try.func96 (by kernel_rfl) rfl #[.int .i64 (wrap64 (a0_0)), .int .i64 0, .int .i64 (wrap64 (a1 - 1))] rfl (by (try simp only [List.map_toArray, List.map_cons, List.map_nil]); first | done | rfl | (simp only [List.length_drop, List.length_take]; rfl)) ?_; (with_reducible refine (spec_l00In.calls (wrap64 (a0_0)) 0 (wrap64 (a1 - 1)) true _ A4.out).mono ?_); rintro e w' ⟨rfl, ⟨nd, rfl⟩⟩; refine ⟨_, rfl, ?_⟩) | (go_at_call 96; (with_reducible refine (spec_l00In.calls (wrap64 (a0_1)) 0 (wrap64 (a2 - 1)) t113 _ A6.out).mono ?_); rintro e w' ⟨rfl, ⟨nd, rfl⟩⟩))
 go_ret
 exact ⟨by first | rfl | (simp [errW_none, errW_some] <;> rfl) | (simp [*, errW_none, errW_some] <;> rfl), by repeat (first | (with_reducible first | exact HB.out | apply below_alloc | apply pw_below_drewN | apply below_drew1 | refine below_set ?_ GE111.out) | exact HB.out)⟩
/-! ### spec_l01Piece: function 132 -/
def spec_l01Piece.f (l0 : List (S91)) : Option (Bool) := if 0 < (l0.length : Int) then ((spec_l00In.f (wrap64 ((rd_T91 l0 0).f1)) 0 5).bind fun t115 => (if t115 = true then ((spec_l00In.f (wrap64 ((rd_T91 l0 0).f2)) 0 3).bind fun t117 => (if t117 = true then ((spec_l00In.f (wrap64 ((rd_T91 l0 0).f3)) 1 9).bind fun t119 => (if t119 = true then ((spec_l01In.f ((rd_T91 l0 0).f0.f0) ((rd_T91 l0 0).f0.f1) 24 24).bind fun t121 => (some t121)) else (some false))) else (some false))) else (some false))) else (none)
set_option maxHeartbeats 8000000 in
set_option maxRecDepth 100000 in
theorem spec_l01Piece.calls (adp0 : Addr) (l0 : List (S91)) (r : Bool) (w : World) (hr0 : Kd.C k91 w (some adp0) l0.length l0) (h : spec_l01Piece.f l0 = some r) :
    Calls Try.prog 132 #[.pointer (some adp0)] w fun e w' => e = .returned (.bool r) ∧ Below w.heap.size w w' := by
 have hu74 := Try.underlying74
 have HR0 := Aside0.mk hr0
 clear hr0
 have HB := Aside0.mk (Below.refl w.heap.size w)
 have H : (if 0 < (l0.length : Int) then ((spec_l00In.f (wrap64 ((rd_T91 l0 0).f1)) 0 5).bind fun t115 => (if t115 = true then ((spec_l00In.f (wrap64 ((rd_T91 l0 0).f2)) 0 3).bind fun t117 => (if t117 = true then ((spec_l00In.f (wrap64 ((rd_T91 l0 0).f3)) 1 9).bind fun t119 => (if t119 = true then ((spec_l01In.f ((rd_T91 l0 0).f0.f0) ((rd_T91 l0 0).f0.f1) 24 24).bind fun t121 => (some t121)) else (some false))) else (some false))) else (some false))) else (none)) = some r := h
 clear h
 by_cases c2 : 0 < (l0.length : Int)
 rotate_left
 ·rw [if_neg c2] at H
  exact absurd H (by simp)
 rw [if_pos c2] at H
 have c2b0 : decide (0 < (l0.length : Int)) = true := decide_eq_true c2
 have c2b1 : decide (0 < l0.length) = true := decide_eq_true (by omega)
 clear c2
 replace H := Option.bind_eq_some_iff.mp H
 obtain ⟨t115, A30, H⟩ := H
 replace H : (if t115 = true then ((spec_l00In.f (wrap64 ((rd_T91 l0 0).f2)) 0 3).bind fun t117 => (if t117 = true then ((spec_l00In.f (wrap64 ((rd_T91 l0 0).f3)) 1 9).bind fun t119 => (if t119 = true then ((spec_l01In.f ((rd_T91 l0 0).f0.f0) ((rd_T91 l0 0).f0.f1) 24 24).bind fun t121 => (some t121)) else (some false))) else (some false))) else (some false)) = some r := H
 have A3 := Aside0.mk A30
 clear A30
 by_cases c4 : t115 = true
 rotate_left
 ·replace c4 := Bool.eq_false_iff.mpr c4
  subst c4
  have H1 : (some false) = some r := by rw [if_neg (show ¬ (false = true) by decide)] at H; exact H
  clear H
  have H := H1
  clear H1
  obtain rfl := Option.some.inj H
  have p114 : 0 ≤ (0 : Int) := (by omega)
  have q114 : 0 < (l0.length : Int) := of_decide_eq_true (by first | (with_reducible assumption) | assumption)
  obtain ⟨ad114, e114, hx114_0, hx114_1, hx114_2, hx114_3, hx114_4⟩ := at_T91 HR0.out 0 p114 q114
  obtain rfl : adp0 = ad114 := (by injection e114)
  have qi114 : (0 < l0.length) = True := eq_true (by omega)
  (try rw [show ((0 : Int)).toNat = 0 from rfl] at hx114_0)
  (try rw [show 0 * 5 = 0 from rfl] at hx114_0)
  (try rw [Addr.add_zero'] at hx114_0)
  (try rw [show ((0 : Int)).toNat = 0 from rfl] at hx114_1)
  (try rw [show 0 * 5 = 0 from rfl] at hx114_1)
  (try rw [Addr.add_zero'] at hx114_1)
  (try rw [show ((0 : Int)).toNat = 0 from rfl] at hx114_2)
  (try rw [show 0 * 5 = 0 from rfl] at hx114_2)
  (try rw [Addr.add_zero'] at hx114_2)
  (try rw [show ((0 : Int)).toNat = 0 from rfl] at hx114_3)
  (try rw [show 0 * 5 = 0 from rfl] at hx114_3)
  (try rw [Addr.add_zero'] at hx114_3)
  (try rw [show ((0 : Int)).toNat = 0 from rfl] at hx114_4)
  (try rw [show 0 * 5 = 0 from rfl] at hx114_4)
  (try rw [Addr.add_zero'] at hx114_4)
  replace p114 := eq_true p114
  replace q114 := eq_true q114
  go_enter Try.func132, Try.ntmps132
  go_wp2_with (first | ((with_reducible refine gate_callee (f := 96) rfl ?_); refine goesL_ (some 8) rfl rfl Try.func96 (by kernel_rfl) rfl #[.int .i64 (wrap64 ((rd_T91 l0 0).f1)), .int .i64 0, .int .i64 5] rfl (by (try simp only [List.map_toArray, List.map_cons, List.map_nil]); first | done | rfl | (simp only [List.length_drop, List.length_take]; rfl)) ?_; (with_reducible refine (spec_l00In.calls (wrap64 ((rd_T91 l0 0).f1)) 0 5 false _ A3.out).mono ?_); rintro e w' ⟨rfl, ⟨nd, rfl⟩⟩; refine ⟨_, rfl, ?_⟩))
  go_ret
  exact ⟨by first | rfl | (simp [errW_none, errW_some] <;> rfl) | (simp [*, errW_none, errW_some] <;> rfl), by repeat (first | (with_reducible first | exact HB.out | apply below_alloc | apply pw_below_drewN | apply below_drew1) | exact HB.out)⟩
 subst c4
 have H1 : ((spec_l00In.f (wrap64 ((rd_T91 l0 0).f2)) 0 3).bind fun t117 => (if t117 = true then ((spec_l00In.f (wrap64 ((rd_T91 l0 0).f3)) 1 9).bind fun t119 => (if t119 = true then ((spec_l01In.f ((rd_T91 l0 0).f0.f0) ((rd_T91 l0 0).f0.f1) 24 24).bind fun t121 => (some t121)) else (some false))) else (some false))) = some r := by rw [if_pos rfl] at H; exact H
 clear H
 have H := H1
 clear H1
 replace H := Option.bind_eq_some_iff.mp H
 obtain ⟨t117, A50, H⟩ := H
 replace H : (if t117 = true then ((spec_l00In.f (wrap64 ((rd_T91 l0 0).f3)) 1 9).bind fun t119 => (if t119 = true then ((spec_l01In.f ((rd_T91 l0 0).f0.f0) ((rd_T91 l0 0).f0.f1) 24 24).bind fun t121 => (some t121)) else (some false))) else (some false)) = some r := H
 have A5 := Aside0.mk A50
 clear A50
 by_cases c6 : t117 = true
 rotate_left
 ·replace c6 := Bool.eq_false_iff.mpr c6
  subst c6
  have H1 : (some false) = some r := by rw [if_neg (show ¬ (false = true) by decide)] at H; exact H
  clear H
  have H := H1
  clear H1
  obtain rfl := Option.some.inj H
  have p114 : 0 ≤ (0 : Int) := (by omega)
  have q114 : 0 < (l0.length : Int) := of_decide_eq_true (by first | (with_reducible assumption) | assumption)
  obtain ⟨ad114, e114, hx114_0, hx114_1, hx114_2, hx114_3, hx114_4⟩ := at_T91 HR0.out 0 p114 q114
  obtain rfl : adp0 = ad114 := (by injection e114)
  have qi114 : (0 < l0.length) = True := eq_true (by omega)
  (try rw [show ((0 : Int)).toNat = 0 from rfl] at hx114_0)
  (try rw [show 0 * 5 = 0 from rfl] at hx114_0)
  (try rw [Addr.add_zero'] at hx114_0)
  (try rw [show ((0 : Int)).toNat = 0 from rfl] at hx114_1)
  (try rw [show 0 * 5 = 0 from rfl] at hx114_1)
  (try rw [Addr.add_zero'] at hx114_1)
  (try rw [show ((0 : Int)).toNat = 0 from rfl] at hx114_2)
  (try rw [show 0 * 5 = 0 from rfl] at hx114_2)
  (try rw [Addr.add_zero'] at hx114_2)
  (try rw [show ((0 : Int)).toNat = 0 from rfl] at hx114_3)
  (try rw [show 0 * 5 = 0 from rfl] at hx114_3)
  (try rw [Addr.add_zero'] at hx114_3)
  (try rw [show ((0 : Int)).toNat = 0 from rfl] at hx114_4)
  (try rw [show 0 * 5 = 0 from rfl] at hx114_4)
  (try rw [Addr.add_zero'] at hx114_4)
  replace p114 := eq_true p114
  replace q114 := eq_true q114
  go_enter Try.func132, Try.ntmps132
  go_wp2_with (first | ((with_reducible refine gate_callee (f := 96) rfl ?_); refine goesL_ (some 8) rfl rfl Try.func96 (by kernel_rfl) rfl #[.int .i64 (wrap64 ((rd_T91 l0 0).f1)), .int .i64 0, .int .i64 5] rfl (by (try simp only [List.map_toArray, List.map_cons, List.map_nil]); first | done | rfl | (simp only [List.length_drop, List.length_take]; rfl)) ?_; (with_reducible refine (spec_l00In.calls (wrap64 ((rd_T91 l0 0).f1)) 0 5 true _ A3.out).mono ?_); rintro e w' ⟨rfl, ⟨nd, rfl⟩⟩; refine ⟨_, rfl, ?_⟩; have p116 : 0 ≤ (0 : Int) := (by omega); have q116 : 0 < (l0.length : Int) := of_decide_eq_true (by first | (with_reducible assumption) | assumption); obtain ⟨ad116, e116, hx116_0, hx116_1, hx116_2, hx116_3, hx116_4⟩ := at_T91 HR0.out 0 p116 q116; obtain rfl : adp0 = ad116 := (by injection e116); have qi116 : (0 < l0.length) = True := eq_true (by omega); (try rw [show ((0 : Int)).toNat = 0 from rfl] at hx116_0); (try rw [show 0 * 5 = 0 from rfl] at hx116_0); (try rw [Addr.add_zero'] at hx116_0); (try rw [show ((0 : Int)).toNat = 0 from rfl] at hx116_1); (try rw [show 0 * 5 = 0 from rfl] at hx116_1); (try rw [Addr.add_zero'] at hx116_1); (try rw [show ((0 : Int)).toNat = 0 from rfl] at hx116_2); (try rw [show 0 * 5 = 0 from rfl] at hx116_2); (try rw [Addr.add_zero'] at hx116_2); (try rw [show ((0 : Int)).toNat = 0 from rfl] at hx116_3); (try rw [show 0 * 5 = 0 from rfl] at hx116_3); (try rw [Addr.add_zero'] at hx116_3); (try rw [show ((0 : Int)).toNat = 0 from rfl] at hx116_4); (try rw [show 0 * 5 = 0 from rfl] at hx116_4); (try rw [Addr.add_zero'] at hx116_4); replace p116 := eq_true p116; replace q116 := eq_true q116) | (go_at_call 96; (with_reducible refine (spec_l00In.calls (wrap64 ((rd_T91 l0 0).f2)) 0 3 false _ A5.out).mono ?_); rintro e w' ⟨rfl, ⟨nd, rfl⟩⟩))
  go_ret
  exact ⟨by first | rfl | (simp [errW_none, errW_some] <;> rfl) | (simp [*, errW_none, errW_some] <;> rfl), by repeat (first | (with_reducible first | exact HB.out | apply below_alloc | apply pw_below_drewN | apply below_drew1) | exact HB.out)⟩
 subst c6
 have H1 : ((spec_l00In.f (wrap64 ((rd_T91 l0 0).f3)) 1 9).bind fun t119 => (if t119 = true then ((spec_l01In.f ((rd_T91 l0 0).f0.f0) ((rd_T91 l0 0).f0.f1) 24 24).bind fun t121 => (some t121)) else (some false))) = some r := by rw [if_pos rfl] at H; exact H
 clear H
 have H := H1
 clear H1
 replace H := Option.bind_eq_some_iff.mp H
 obtain ⟨t119, A70, H⟩ := H
 replace H : (if t119 = true then ((spec_l01In.f ((rd_T91 l0 0).f0.f0) ((rd_T91 l0 0).f0.f1) 24 24).bind fun t121 => (some t121)) else (some false)) = some r := H
 have A7 := Aside0.mk A70
 clear A70
 by_cases c8 : t119 = true
 rotate_left
 ·replace c8 := Bool.eq_false_iff.mpr c8
  subst c8
  have H1 : (some false) = some r := by rw [if_neg (show ¬ (false = true) by decide)] at H; exact H
  clear H
  have H := H1
  clear H1
  obtain rfl := Option.some.inj H
  have p114 : 0 ≤ (0 : Int) := (by omega)
  have q114 : 0 < (l0.length : Int) := of_decide_eq_true (by first | (with_reducible assumption) | assumption)
  obtain ⟨ad114, e114, hx114_0, hx114_1, hx114_2, hx114_3, hx114_4⟩ := at_T91 HR0.out 0 p114 q114
  obtain rfl : adp0 = ad114 := (by injection e114)
  have qi114 : (0 < l0.length) = True := eq_true (by omega)
  (try rw [show ((0 : Int)).toNat = 0 from rfl] at hx114_0)
  (try rw [show 0 * 5 = 0 from rfl] at hx114_0)
  (try rw [Addr.add_zero'] at hx114_0)
  (try rw [show ((0 : Int)).toNat = 0 from rfl] at hx114_1)
  (try rw [show 0 * 5 = 0 from rfl] at hx114_1)
  (try rw [Addr.add_zero'] at hx114_1)
  (try rw [show ((0 : Int)).toNat = 0 from rfl] at hx114_2)
  (try rw [show 0 * 5 = 0 from rfl] at hx114_2)
  (try rw [Addr.add_zero'] at hx114_2)
  (try rw [show ((0 : Int)).toNat = 0 from rfl] at hx114_3)
  (try rw [show 0 * 5 = 0 from rfl] at hx114_3)
  (try rw [Addr.add_zero'] at hx114_3)
  (try rw [show ((0 : Int)).toNat = 0 from rfl] at hx114_4)
  (try rw [show 0 * 5 = 0 from rfl] at hx114_4)
  (try rw [Addr.add_zero'] at hx114_4)
  replace p114 := eq_true p114
  replace q114 := eq_true q114
  go_enter Try.func132, Try.ntmps132
  go_wp2_with (first | ((with_reducible refine gate_callee (f := 96) rfl ?_); refine goesL_ (some 8) rfl rfl Try.func96 (by kernel_rfl) rfl #[.int .i64 (wrap64 ((rd_T91 l0 0).f1)), .int .i64 0, .int .i64 5] rfl (by (try simp only [List.map_toArray, List.map_cons, List.map_nil]); first | done | rfl | (simp only [List.length_drop, List.length_take]; rfl)) ?_; (with_reducible refine (spec_l00In.calls (wrap64 ((rd_T91 l0 0).f1)) 0 5 true _ A3.out).mono ?_); rintro e w' ⟨rfl, ⟨nd, rfl⟩⟩; refine ⟨_, rfl, ?_⟩; have p116 : 0 ≤ (0 : Int) := (by omega); have q116 : 0 < (l0.length : Int) := of_decide_eq_true (by first | (with_reducible assumption) | assumption); obtain ⟨ad116, e116, hx116_0, hx116_1, hx116_2, hx116_3, hx116_4⟩ := at_T91 HR0.out 0 p116 q116; obtain rfl : adp0 = ad116 := (by injection e116); have qi116 : (0 < l0.length) = True := eq_true (by omega); (try rw [show ((0 : Int)).toNat = 0 from rfl] at hx116_0); (try rw [show 0 * 5 = 0 from rfl] at hx116_0); (try rw [Addr.add_zero'] at hx116_0); (try rw [show ((0 : Int)).toNat = 0 from rfl] at hx116_1); (try rw [show 0 * 5 = 0 from rfl] at hx116_1); (try rw [Addr.add_zero'] at hx116_1); (try rw [show ((0 : Int)).toNat = 0 from rfl] at hx116_2); (try rw [show 0 * 5 = 0 from rfl] at hx116_2); (try rw [Addr.add_zero'] at hx116_2); (try rw [show ((0 : Int)).toNat = 0 from rfl] at hx116_3); (try rw [show 0 * 5 = 0 from rfl] at hx116_3); (try rw [Addr.add_zero'] at hx116_3); (try rw [show ((0 : Int)).toNat = 0 from rfl] at hx116_4); (try rw [show 0 * 5 = 0 from rfl] at hx116_4); (try rw [Addr.add_zero'] at hx116_4); replace p116 := eq_true p116; replace q116 := eq_true q116) | (go_at_call 96; (with_reducible refine (spec_l00In.calls (wrap64 ((rd_T91 l0 0).f2)) 0 3 true _ A5.out).mono ?_); rintro e w' ⟨rfl, ⟨nd, rfl⟩⟩; have p118 : 0 ≤ (0 : Int) := (by omega); have q118 : 0 < (l0.length : Int) := of_decide_eq_true (by first | (with_reducible assumption) | assumption); obtain ⟨ad118, e118, hx118_0, hx118_1, hx118_2, hx118_3, hx118_4⟩ := at_T91 HR0.out 0 p118 q118; obtain rfl : adp0 = ad118 := (by injection e118); have qi118 : (0 < l0.length) = True := eq_true (by omega); (try rw [show ((0 : Int)).toNat = 0 from rfl] at hx118_0); (try rw [show 0 * 5 = 0 from rfl] at hx118_0); (try rw [Addr.add_zero'] at hx118_0); (try rw [show ((0 : Int)).toNat = 0 from rfl] at hx118_1); (try rw [show 0 * 5 = 0 from rfl] at hx118_1); (try rw [Addr.add_zero'] at hx118_1); (try rw [show ((0 : Int)).toNat = 0 from rfl] at hx118_2); (try rw [show 0 * 5 = 0 from rfl] at hx118_2); (try rw [Addr.add_zero'] at hx118_2); (try rw [show ((0 : Int)).toNat = 0 from rfl] at hx118_3); (try rw [show 0 * 5 = 0 from rfl] at hx118_3); (try rw [Addr.add_zero'] at hx118_3); (try rw [show ((0 : Int)).toNat = 0 from rfl] at hx118_4); (try rw [show 0 * 5 = 0 from rfl] at hx118_4); (try rw [Addr.add_zero'] at hx118_4); replace p118 := eq_true p118; replace q118 := eq_true q118) | (go_at_call 96; (with_reducible refine (spec_l00In.calls (wrap64 ((rd_T91 l0 0).f3)) 1 9 false _ A7.out).mono ?_); rintro e w' ⟨rfl, ⟨nd, rfl⟩⟩))
  go_ret
  exact ⟨by first | rfl | (simp [errW_none, errW_some] <;> rfl) | (simp [*, errW_none, errW_some] <;> rfl), by repeat (first | (with_reducible first | exact HB.out | apply below_alloc | apply pw_below_drewN | apply below_drew1) | exact HB.out)⟩
 subst c8
 have H1 : ((spec_l01In.f ((rd_T91 l0 0).f0.f0) ((rd_T91 l0 0).f0.f1) 24 24).bind fun t121 => (some t121)) = some r := by rw [if_pos rfl] at H; exact H
 clear H
 have H := H1
 clear H1
 replace H := Option.bind_eq_some_iff.mp H
 obtain ⟨t121, A90, H⟩ := H
 replace H : (some t121) = some r := H
 have A9 := Aside0.mk A90
 clear A90
 obtain rfl := Option.some.inj H
 have p114 : 0 ≤ (0 : Int) := (by omega)
 have q114 : 0 < (l0.length : Int) := of_decide_eq_true (by first | (with_reducible assumption) | assumption)
 obtain ⟨ad114, e114, hx114_0, hx114_1, hx114_2, hx114_3, hx114_4⟩ := at_T91 HR0.out 0 p114 q114
 obtain rfl : adp0 = ad114 := (by injection e114)
 have qi114 : (0 < l0.length) = True := eq_true (by omega)
 (try rw [show ((0 : Int)).toNat = 0 from rfl] at hx114_0)
 (try rw [show 0 * 5 = 0 from rfl] at hx114_0)
 (try rw [Addr.add_zero'] at hx114_0)
 (try rw [show ((0 : Int)).toNat = 0 from rfl] at hx114_1)
 (try rw [show 0 * 5 = 0 from rfl] at hx114_1)
 (try rw [Addr.add_zero'] at hx114_1)
 (try rw [show ((0 : Int)).toNat = 0 from rfl] at hx114_2)
 (try rw [show 0 * 5 = 0 from rfl] at hx114_2)
 (try rw [Addr.add_zero'] at hx114_2)
 (try rw [show ((0 : Int)).toNat = 0 from rfl] at hx114_3)
 (try rw [show 0 * 5 = 0 from rfl] at hx114_3)
 (try rw [Addr.add_zero'] at hx114_3)
 (try rw [show ((0 : Int)).toNat = 0 from rfl] at hx114_4)
 (try rw [show 0 * 5 = 0 from rfl] at hx114_4)
 (try rw [Addr.add_zero'] at hx114_4)
 replace p114 := eq_true p114
 replace q114 := eq_true q114
 go_enter Try.func132, Try.ntmps132
 go_wp2_with (first | ((with_reducible refine gate_callee (f := 96) rfl ?_); refine goesL_ (some 8) rfl rfl Try.func96 (by kernel_rfl) rfl #[.int .i64 (wrap64 ((rd_T91 l0 0).f1)), .int .i64 0, .int .i64 5] rfl (by (try simp only [List.map_toArray, List.map_cons, List.map_nil]); first | done | rfl | (simp only [List.length_drop, List.length_take]; rfl)) ?_; (with_reducible refine (spec_l00In.calls (wrap64 ((rd_T91 l0 0).f1)) 0 5 true _ A3.out).mono ?_); rintro e w' ⟨rfl, ⟨nd, rfl⟩⟩; refine ⟨_, rfl, ?_⟩; have p116 : 0 ≤ (0 : Int) := (by omega); have q116 : 0 < (l0.length : Int) := of_decide_eq_true (by first | (with_reducible assumption) | assumption); obtain ⟨ad116, e116, hx116_0, hx116_1, hx116_2, hx116_3, hx116_4⟩ := at_T91 HR0.out 0 p116 q116; obtain rfl : adp0 = ad116 := (by injection e116); have qi116 : (0 < l0.length) = True := eq_true (by omega); (try rw [show ((0 : Int)).toNat = 0 from rfl] at hx116_0); (try rw [show 0 * 5 = 0 from rfl] at hx116_0); (try rw [Addr.add_zero'] at hx116_0); (try rw [show ((0 : Int)).toNat = 0 from rfl] at hx116_1); (try rw [show 0 * 5 = 0 from rfl] at hx116_1); (try rw [Addr.add_zero'] at hx116_1); (try rw [show ((0 : Int)).toNat = 0 from rfl] at hx116_2); (try rw [show 0 * 5 = 0 from rfl] at hx116_2); (try rw [Addr.add_zero'] at hx116_2); (try rw [show ((0 : Int)).toNat = 0 from rfl] at hx116_3); (try rw [show 0 * 5 = 0 from rfl] at hx116_3); (try rw [Addr.add_zero'] at hx116_3); (try rw [show ((0 : Int)).toNat = 0 from rfl] at hx116_4); (try rw [show 0 * 5 = 0 from rfl] at hx116_4); (try rw [Addr.add_zero'] at hx116_4); replace p116 := eq_true p116; replace q116 := eq_true q116) | (go_at_call 96; (with_reducible refine (spec_l00In.calls (wrap64 ((rd_T91 l0 0).f2)) 0 3 true _ A5.out).mono ?_); rintro e w' ⟨rfl, ⟨nd, rfl⟩⟩; have p118 : 0 ≤ (0 : Int) := (by omega); have q118 : 0 < (l0.length : Int) := of_decide_eq_true (by first | (with_reducible assumption) | assumption); obtain ⟨ad118, e118, hx118_0, hx118_1, hx118_2, hx118_3, hx118_4⟩ := at_T91 HR0.out 0 p118 q118; obtain rfl : adp0 = ad118 := (by injection e118); have qi118 : (0 < l0.length) = True := eq_true (by omega); (try rw [show ((0 : Int)).toNat = 0 from rfl] at hx118_0); (try rw [show 0 * 5 = 0 from rfl] at hx118_0); (try rw [Addr.add_zero'] at hx118_0); (try rw [show ((0 : Int)).toNat = 0 from rfl] at hx118_1); (try rw [show 0 * 5 = 0 from rfl] at hx118_1); (try rw [Addr.add_zero'] at hx118_1); (try rw [show ((0 : Int)).toNat = 0 from rfl] at hx118_2); (try rw [show 0 * 5 = 0 from rfl] at hx118_2); (try rw [Addr.add_zero'] at hx118_2); (try rw [show ((0 : Int)).toNat = 0 from rfl] at hx118_3); (try rw [show 0 * 5 = 0 from rfl] at hx118_3); (try rw [Addr.add_zero'] at hx118_3); (try rw [show ((0 : Int)).toNat = 0 from rfl] at hx118_4); (try rw [show 0 * 5 = 0 from rfl] at hx118_4); (try rw [Addr.add_zero'] at hx118_4); replace p118 := eq_true p118; replace q118 := eq_true q118) | (go_at_call 96; (with_reducible refine (spec_l00In.calls (wrap64 ((rd_T91 l0 0).f3)) 1 9 true _ A7.out).mono ?_); rintro e w' ⟨rfl, ⟨nd, rfl⟩⟩; have p120 : 0 ≤ (0 : Int) := (by omega); have q120 : 0 < (l0.length : Int) := of_decide_eq_true (by first | (with_reducible assumption) | assumption); obtain ⟨ad120, e120, hx120_0, hx120_1, hx120_2, hx120_3, hx120_4⟩ := at_T91 HR0.out 0 p120 q120; obtain rfl : adp0 = ad120 := (by injection e120); have qi120 : (0 < l0.length) = True := eq_true (by omega); (try rw [show ((0 : Int)).toNat = 0 from rfl] at hx120_0); (try rw [show 0 * 5 = 0 from rfl] at hx120_0); (try rw [Addr.add_zero'] at hx120_0); (try rw [show ((0 : Int)).toNat = 0 from rfl] at hx120_1); (try rw [show 0 * 5 = 0 from rfl] at hx120_1); (try rw [Addr.add_zero'] at hx120_1); (try rw [show ((0 : Int)).toNat = 0 from rfl] at hx120_2); (try rw [show 0 * 5 = 0 from rfl] at hx120_2); (try rw [Addr.add_zero'] at hx120_2); (try rw [show ((0 : Int)).toNat = 0 from rfl] at hx120_3); (try rw [show 0 * 5 = 0 from rfl] at hx120_3); (try rw [Addr.add_zero'] at hx120_3); (try rw [show ((0 : Int)).toNat = 0 from rfl] at hx120_4); (try rw [show 0 * 5 = 0 from rfl] at hx120_4); (try rw [Addr.add_zero'] at hx120_4); replace p120 := eq_true p120; replace q120 := eq_true q120) | (go_at_call 133; (with_reducible refine (spec_l01In.calls ((rd_T91 l0 0).f0.f0) ((rd_T91 l0 0).f0.f1) 24 24 t121 _ A9.out).mono ?_); rintro e w10 ⟨rfl, hb⟩; have n0_ := zb HB hb; clear HB; have HB := n0_; clear n0_; (try clear hb); (try clear hb2); (try clear hk); (try clear hi)))
 go_ret
 exact ⟨by first | rfl | (simp [errW_none, errW_some] <;> rfl) | (simp [*, errW_none, errW_some] <;> rfl), by repeat (first | (with_reducible first | exact HB.out | apply below_alloc | apply pw_below_drewN | apply below_drew1) | exact HB.out)⟩
end Go.Proofs.Ytffnfpnajkgnaaa.PFnExactPushesFor
