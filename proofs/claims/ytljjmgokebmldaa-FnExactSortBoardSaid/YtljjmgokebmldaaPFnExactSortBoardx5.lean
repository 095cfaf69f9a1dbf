-- WRITTEN by xprint.py, a program of this session's. Not trusted: Lean checks it.
-- packed by pack.py
import Derived.Test.YtljjmgokebmldaaPFnExactSortBoardx0
import Derived.Test.YtljjmgokebmldaaPFnExactSortBoardx4
import Derived.Test.YtljjmgokebmldaaTFnExactSortBoarda
namespace Go.Proofs.Ytljjmgokebmldaa.PFnExactSortBoard
open Go.RowKit Go.Proofs.YtljjmgokebmldaaW.PrintWords Go.Proofs.YtljjmgokebmldaaW.PrintLast Go.Proofs.YtljjmgokebmldaaW.PrintMore Go.Proofs.YtljjmgokebmldaaX
attribute [local go_sem] max2_int min2_int max_two min_two max_three min_three max_four min_four   -- for this text's walks alone
set_option maxHeartbeats 8000000
set_option maxRecDepth 100000
set_option linter.unusedVariables false
set_option linter.unusedSimpArgs false

def impl_Cell_placed.f (a0_0 : Int) (a0_1 : Int) : Option (Bool) := (impl_in.f (wrap64 (a0_0)) 0 23).bind fun t167 => (if t167 = true then ((impl_in.f (wrap64 (a0_1)) 0 23).bind fun t168 => (some t168)) else (some false))
theorem impl_Cell_placed.calls (a0_0 : Int) (a0_1 : Int) (r : Bool) (w : World) (h : impl_Cell_placed.f a0_0 a0_1 = some r) :
    Calls Try.prog 37 #[.agg #[.int .i8 a0_0, .int .i8 a0_1]] w fun e w' => e = .returned (.bool r) ∧ Below w.heap.size w w' := by
 have hu41 := Try.underlying41
 have HB := Aside0.mk (Below.refl w.heap.size w)
 have H : ((impl_in.f (wrap64 (a0_0)) 0 23).bind fun t167 => (if t167 = true then ((impl_in.f (wrap64 (a0_1)) 0 23).bind fun t168 => (some t168)) else (some false))) = some r := h
 clear h
 replace H := zob H
 obtain ⟨t167, A20, H⟩ := H
 replace H : (if t167 = true then ((impl_in.f (wrap64 (a0_1)) 0 23).bind fun t168 => (some t168)) else (some false)) = some r := H
 have A2 := Aside0.mk A20
 clear A20
 by_cases c3 : t167 = true
 rotate_left
 ·replace c3 := Bool.eq_false_iff.mpr c3
  subst c3
  have H1 : (some false) = some r := by rw [if_neg (show ¬ (false = true) by decide)] at H; exact H
  clear H
  have H := H1
  clear H1
  obtain rfl := Option.some.inj H
  go_enter Try.func37, Try.ntmps37
  go_wp2_with (first | ((with_reducible refine gate_dst (N := 1) rfl ?_); refine zbx 1 #[.int .i8 a0_0, .int .i8 a0_1] 41 ?_; intro gb166 hg w7 hbox hb; have n_ : _ ∧ _ ∧ _ ∧ _ := ⟨zb HB hb, Aside0.mk (hbox), zg HB hg, zg HB hg⟩; clear HB; obtain ⟨HB, BK166, GW166, GE166⟩ := n_; clear hb hbox hg; obtain ⟨z8_0, z8_1, y8_0, y8_1⟩ := zB2 BK166) | ((with_reducible refine gate_callee (f := 28) rfl ?_); refine goesL_ (some 6) rfl rfl Try.func28 (by kernel_rfl) rfl #[.int .i64 (wrap64 (a0_0)), .int .i64 0, .int .i64 23] rfl zm ?_; (with_reducible refine (impl_in.calls (wrap64 (a0_0)) 0 23 false _ A2.out).mono ?_); rintro e w' ⟨rfl, ⟨nd, rfl⟩⟩; refine ⟨_, rfl, ?_⟩))
  go_ret
  exact ⟨zv, zbo⟩
 subst c3
 have H1 : ((impl_in.f (wrap64 (a0_1)) 0 23).bind fun t168 => (some t168)) = some r := by rw [if_pos rfl] at H; exact H
 clear H
 have H := H1
 clear H1
 replace H := zob H
 obtain ⟨t168, A40, H⟩ := H
 replace H : (some t168) = some r := H
 have A4 := Aside0.mk A40
 clear A40
 obtain rfl := Option.some.inj H
 go_enter Try.func37, Try.ntmps37
 go_wp2_with (first | ((with_reducible refine gate_dst (N := 1) rfl ?_); refine zbx 1 #[.int .i8 a0_0, .int .i8 a0_1] 41 ?_; intro gb166 hg w5 hbox hb; have n_ : _ ∧ _ ∧ _ ∧ _ := ⟨zb HB hb, Aside0.mk (hbox), zg HB hg, zg HB hg⟩; clear HB; obtain ⟨HB, BK166, GW166, GE166⟩ := n_; clear hb hbox hg; obtain ⟨z6_0, z6_1, y6_0, y6_1⟩ := zB2 BK166) | ((with_reducible refine gate_callee (f := 28) rfl ?_); refine goesL_ (some 6) rfl rfl Try.func28 (by kernel_rfl) rfl #[.int .i64 (wrap64 (a0_0)), .int .i64 0, .int .i64 23] rfl zm ?_; (with_reducible refine (impl_in.calls (wrap64 (a0_0)) 0 23 true _ A2.out).mono ?_); rintro e w' ⟨rfl, ⟨nd, rfl⟩⟩; refine ⟨_, rfl, ?_⟩) | (go_at_call 28; (with_reducible refine (impl_in.calls (wrap64 (a0_1)) 0 23 t168 _ A4.out).mono ?_); rintro e w' ⟨rfl, ⟨nd, rfl⟩⟩))
 go_ret
 exact ⟨zv, zbo⟩
def impl_ValidPiece.f (a0_0 : Int) (a0_1 : Int) (a0_2 : Int) (a0_3 : Int) (a0_4 : Int) : Option (Bool) := (impl_in.f (wrap64 (a0_2)) 0 5).bind fun t170 => (if t170 = true then ((impl_in.f (wrap64 (a0_3)) 0 3).bind fun t171 => (if t171 = true then ((impl_in.f (wrap64 (a0_4)) 1 9).bind fun t172 => (if t172 = true then ((impl_Cell_placed.f a0_0 a0_1).bind fun t173 => (some t173)) else (some false))) else (some false))) else (some false))
theorem impl_ValidPiece.calls (a0_0 : Int) (a0_1 : Int) (a0_2 : Int) (a0_3 : Int) (a0_4 : Int) (r : Bool) (w : World) (h : impl_ValidPiece.f a0_0 a0_1 a0_2 a0_3 a0_4 = some r) :
    Calls Try.prog 29 #[.agg #[.int .i8 a0_0, .int .i8 a0_1, .int .i8 a0_2, .int .i8 a0_3, .int .i8 a0_4]] w fun e w' => e = .returned (.bool r) ∧ Below w.heap.size w w' := by
 have hu43 := Try.underlying43
 have hu41 := Try.underlying41
 have HB := Aside0.mk (Below.refl w.heap.size w)
 have H : ((impl_in.f (wrap64 (a0_2)) 0 5).bind fun t170 => (if t170 = true then ((impl_in.f (wrap64 (a0_3)) 0 3).bind fun t171 => (if t171 = true then ((impl_in.f (wrap64 (a0_4)) 1 9).bind fun t172 => (if t172 = true then ((impl_Cell_placed.f a0_0 a0_1).bind fun t173 => (some t173)) else (some false))) else (some false))) else (some false))) = some r := h
 clear h
 replace H := zob H
 obtain ⟨t170, A20, H⟩ := H
 replace H : (if t170 = true then ((impl_in.f (wrap64 (a0_3)) 0 3).bind fun t171 => (if t171 = true then ((impl_in.f (wrap64 (a0_4)) 1 9).bind fun t172 => (if t172 = true then ((impl_Cell_placed.f a0_0 a0_1).bind fun t173 => (some t173)) else (some false))) else (some false))) else (some false)) = some r := H
 have A2 := Aside0.mk A20
 clear A20
 by_cases c3 : t170 = true
 rotate_left
 ·replace c3 := Bool.eq_false_iff.mpr c3
  subst c3
  have H1 : (some false) = some r := by rw [if_neg (show ¬ (false = true) by decide)] at H; exact H
  clear H
  have H := H1
  clear H1
  obtain rfl := Option.some.inj H
  go_enter Try.func29, Try.ntmps29
  go_wp2_with (first | ((with_reducible refine gate_dst (N := 1) rfl ?_); refine zbx 1 #[.int .i8 a0_0, .int .i8 a0_1, .int .i8 a0_2, .int .i8 a0_3, .int .i8 a0_4] 43 ?_; intro gb169 hg w16 hbox hb; have n_ : _ ∧ _ ∧ _ ∧ _ := ⟨zb HB hb, Aside0.mk (hbox), zg HB hg, zg HB hg⟩; clear HB; obtain ⟨HB, BK169, GW169, GE169⟩ := n_; clear hb hbox hg; obtain ⟨z17_0, z17_1, z17_2, z17_3, z17_4, y17_0, y17_1, y17_2, y17_3, y17_4⟩ := zB5 BK169) | ((with_reducible refine gate_callee (f := 28) rfl ?_); refine goesL_ (some 6) rfl rfl Try.func28 (by kernel_rfl) rfl #[.int .i64 (wrap64 (a0_2)), .int .i64 0, .int .i64 5] rfl zm ?_; (with_reducible refine (impl_in.calls (wrap64 (a0_2)) 0 5 false _ A2.out).mono ?_); rintro e w' ⟨rfl, ⟨nd, rfl⟩⟩; refine ⟨_, rfl, ?_⟩))
  go_ret
  exact ⟨zv, zbo⟩
 subst c3
 have H1 : ((impl_in.f (wrap64 (a0_3)) 0 3).bind fun t171 => (if t171 = true then ((impl_in.f (wrap64 (a0_4)) 1 9).bind fun t172 => (if t172 = true then ((impl_Cell_placed.f a0_0 a0_1).bind fun t173 => (some t173)) else (some false))) else (some false))) = some r := by rw [if_pos rfl] at H; exact H
 clear H
 have H := H1
 clear H1
 replace H := zob H
 obtain ⟨t171, A40, H⟩ := H
 replace H : (if t171 = true then ((impl_in.f (wrap64 (a0_4)) 1 9).bind fun t172 => (if t172 = true then ((impl_Cell_placed.f a0_0 a0_1).bind fun t173 => (some t173)) else (some false))) else (some false)) = some r := H
 have A4 := Aside0.mk A40
 clear A40
 by_cases c5 : t171 = true
 rotate_left
 ·replace c5 := Bool.eq_false_iff.mpr c5
  subst c5
  have H1 : (some false) = some r := by rw [if_neg (show ¬ (false = true) by decide)] at H; exact H
  clear H
  have H := H1
  clear H1
  obtain rfl := Option.some.inj H
  go_enter Try.func29, Try.ntmps29
  go_wp2_with (first | ((with_reducible refine gate_dst (N := 1) rfl ?_); refine zbx 1 #[.int .i8 a0_0, .int .i8 a0_1, .int .i8 a0_2, .int .i8 a0_3, .int .i8 a0_4] 43 ?_; intro gb169 hg w14 hbox hb; have n_ : _ ∧ _ ∧ _ ∧ _ := ⟨zb HB hb, Aside0.mk (hbox), zg HB hg, zg HB hg⟩; clear HB; obtain ⟨HB, BK169, GW169, GE169⟩ := n_; clear hb hbox hg; obtain ⟨z15_0, z15_1, z15_2, z15_3, z15_4, y15_0, y15_1, y15_2, y15_3, y15_4⟩ := zB5 BK169) | ((with_reducible refine gate_callee (f := 28) rfl ?_); refine goesL_ (some 6) rfl rfl Try.func28 (by kernel_rfl) rfl #[.int .i64 (wrap64 (a0_2)), .int .i64 0, .int .i64 5] rfl zm ?_; (with_reducible refine (impl_in.calls (wrap64 (a0_2)) 0 5 true _ A2.out).mono ?_); rintro e w' ⟨rfl, ⟨nd, rfl⟩⟩; refine ⟨_, rfl, ?_⟩) | (go_at_call 28; (with_reducible refine (impl_in.calls (wrap64 (a0_3)) 0 3 false _ A4.out).mono ?_); rintro e w' ⟨rfl, ⟨nd, rfl⟩⟩))
  go_ret
  exact ⟨zv, zbo⟩
 subst c5
 have H1 : ((impl_in.f (wrap64 (a0_4)) 1 9).bind fun t172 => (if t172 = true then ((impl_Cell_placed.f a0_0 a0_1).bind fun t173 => (some t173)) else (some false))) = some r := by rw [if_pos rfl] at H; exact H
 clear H
 have H := H1
 clear H1
 replace H := zob H
 obtain ⟨t172, A60, H⟩ := H
 replace H : (if t172 = true then ((impl_Cell_placed.f a0_0 a0_1).bind fun t173 => (some t173)) else (some false)) = some r := H
 have A6 := Aside0.mk A60
 clear A60
 by_cases c7 : t172 = true
 rotate_left
 ·replace c7 := Bool.eq_false_iff.mpr c7
  subst c7
  have H1 : (some false) = some r := by rw [if_neg (show ¬ (false = true) by decide)] at H; exact H
  clear H
  have H := H1
  clear H1
  obtain rfl := Option.some.inj H
  go_enter Try.func29, Try.ntmps29
  go_wp2_with (first | ((with_reducible refine gate_dst (N := 1) rfl ?_); refine zbx 1 #[.int .i8 a0_0, .int .i8 a0_1, .int .i8 a0_2, .int .i8 a0_3, .int .i8 a0_4] 43 ?_; intro gb169 hg w12 hbox hb; have n_ : _ ∧ _ ∧ _ ∧ _ := ⟨zb HB hb, Aside0.mk (hbox), zg HB hg, zg HB hg⟩; clear HB; obtain ⟨HB, BK169, GW169, GE169⟩ := n_; clear hb hbox hg; obtain ⟨z13_0, z13_1, z13_2, z13_3, z13_4, y13_0, y13_1, y13_2, y13_3, y13_4⟩ := zB5 BK169) | ((with_reducible refine gate_callee (f := 28) rfl ?_); refine goesL_ (some 6) rfl rfl Try.func28 (by kernel_rfl) rfl #[.int .i64 (wrap64 (a0_2)), .int .i64 0, .int .i64 5] rfl zm ?_; (with_reducible refine (impl_in.calls (wrap64 (a0_2)) 0 5 true _ A2.out).mono ?_); rintro e w' ⟨rfl, ⟨nd, rfl⟩⟩; refine ⟨_, rfl, ?_⟩) | (go_at_call 28; (with_reducible refine (impl_in.calls (wrap64 (a0_3)) 0 3 true _ A4.out).mono ?_); rintro e w' ⟨rfl, ⟨nd, rfl⟩⟩) | (go_at_call 28; (with_reducible refine (impl_in.calls (wrap64 (a0_4)) 1 9 false _ A6.out).mono ?_); rintro e w' ⟨rfl, ⟨nd, rfl⟩⟩))
  go_ret
  exact ⟨zv, zbo⟩
 subst c7
 have H1 : ((impl_Cell_placed.f a0_0 a0_1).bind fun t173 => (some t173)) = some r := by rw [if_pos rfl] at H; exact H
 clear H
 have H := H1
 clear H1
 replace H := zob H
 obtain ⟨t173, A80, H⟩ := H
 replace H : (some t173) = some r := H
 have A8 := Aside0.mk A80
 clear A80
 obtain rfl := Option.some.inj H
 go_enter Try.func29, Try.ntmps29
 go_wp2_with (first | ((with_reducible refine gate_dst (N := 1) rfl ?_); refine zbx 1 #[.int .i8 a0_0, .int .i8 a0_1, .int .i8 a0_2, .int .i8 a0_3, .int .i8 a0_4] 43 ?_; intro gb169 hg w9 hbox hb; have n_ : _ ∧ _ ∧ _ ∧ _ := ⟨zb HB hb, Aside0.mk (hbox), zg HB hg, zg HB hg⟩; clear HB; obtain ⟨HB, BK169, GW169, GE169⟩ := n_; clear hb hbox hg; obtain ⟨z10_0, z10_1, z10_2, z10_3, z10_4, y10_0, y10_1, y10_2, y10_3, y10_4⟩ := zB5 BK169) | ((with_reducible refine gate_callee (f := 28) rfl ?_); refine goesL_ (some 6) rfl rfl Try.func28 (by kernel_rfl) rfl #[.int .i64 (wrap64 (a0_2)), .int .i64 0, .int .i64 5] rfl zm ?_; (with_reducible refine (impl_in.calls (wrap64 (a0_2)) 0 5 true _ A2.out).mono ?_); rintro e w' ⟨rfl, ⟨nd, rfl⟩⟩; refine ⟨_, rfl, ?_⟩) | (go_at_call 28; (with_reducible refine (impl_in.calls (wrap64 (a0_3)) 0 3 true _ A4.out).mono ?_); rintro e w' ⟨rfl, ⟨nd, rfl⟩⟩) | (go_at_call 28; (with_reducible refine (impl_in.calls (wrap64 (a0_4)) 1 9 true _ A6.out).mono ?_); rintro e w' ⟨rfl, ⟨nd, rfl⟩⟩) | (go_at_call 37; (with_reducible refine (impl_Cell_placed.calls a0_0 a0_1 t173 _ A8.out).mono ?_); rintro e w11 ⟨rfl, hb⟩; have n_ : _ ∧ _ := ⟨zk BK169 hb, zbs hb⟩; clear BK169 HB; obtain ⟨BK169, HB⟩ := n_; (try clear hb); (try clear hb2); (try clear hk); (try clear hi)))
 go_ret
 exact ⟨zv, zbo⟩
def impl_Board_has.f (l0 : List (S29)) (a1_0 : Int) (a1_1 : Int) : Option (Bool) := if a1_0 ≥ 0 then (if 0 < (l0.length : Int) then (if a1_0 < ((rd_T29 l0 0).f0) then (if a1_1 ≥ 0 then (some (decide (a1_1 < ((rd_T29 l0 0).f1)))) else (some false)) else (some false)) else (none)) else (some false)
theorem impl_Board_has.calls (adp0 : Addr) (l0 : List (S29)) (a1_0 : Int) (a1_1 : Int) (r : Bool) (w : World) (hr0 : Kd.C k29 w (some adp0) l0.length l0) (h : impl_Board_has.f l0 a1_0 a1_1 = some r) :
    Calls Try.prog 30 #[.pointer (some adp0), .agg #[.int .i8 a1_0, .int .i8 a1_1]] w fun e w' => e = .returned (.bool r) ∧ Below w.heap.size w w' := by
 have hu41 := Try.underlying41
 have HR0 := Aside0.mk hr0
 clear hr0
 have HB := Aside0.mk (Below.refl w.heap.size w)
 have H : (if a1_0 ≥ 0 then (if 0 < (l0.length : Int) then (if a1_0 < ((rd_T29 l0 0).f0) then (if a1_1 ≥ 0 then (some (decide (a1_1 < ((rd_T29 l0 0).f1)))) else (some false)) else (some false)) else (none)) else (some false)) = some r := h
 clear h
 by_cases c3 : a1_0 ≥ 0
 rotate_left
 ·rw [if_neg c3] at H
  have c3b0 : decide (0 ≤ a1_0) = false := decide_eq_false c3
  clear c3
  obtain rfl := Option.some.inj H
  go_enter Try.func30, Try.ntmps30
  go_wp2_with (first | ((with_reducible refine gate_dst (N := 3) rfl ?_); refine zbx 3 #[.int .i8 a1_0, .int .i8 a1_1] 41 ?_; intro gb174 hg w13 hbox hb; have n_ : _ ∧ _ ∧ _ ∧ _ := ⟨zb HB hb, Aside0.mk (hbox), zg HB hg, zg HB hg⟩; clear HB; obtain ⟨HB, BK174, GW174, GE174⟩ := n_; clear hb hbox hg; obtain ⟨z14_0, z14_1, y14_0, y14_1⟩ := zB2 BK174) | go_quiet (fail))
  go_ret
  exact ⟨zv, zbo⟩
 rw [if_pos c3] at H
 have c3b0 : decide (0 ≤ a1_0) = true := decide_eq_true c3
 clear c3
 by_cases c4 : 0 < (l0.length : Int)
 rotate_left
 ·rw [if_neg c4] at H
  exact absurd H (by simp)
 rw [if_pos c4] at H
 have c4b0 : decide (0 < (l0.length : Int)) = true := decide_eq_true c4
 have c4b1 : decide (0 < l0.length) = true := decide_eq_true (by omega)
 clear c4
 by_cases c5 : a1_0 < ((rd_T29 l0 0).f0)
 rotate_left
 ·rw [if_neg c5] at H
  have c5b0 : decide (a1_0 < ((rd_T29 l0 0).f0)) = false := decide_eq_false c5
  clear c5
  obtain rfl := Option.some.inj H
  go_enter Try.func30, Try.ntmps30
  go_wp2_with (first | ((with_reducible refine gate_dst (N := 3) rfl ?_); refine zbx 3 #[.int .i8 a1_0, .int .i8 a1_1] 41 ?_; intro gb174 hg w11 hbox hb; have n_ : _ ∧ _ ∧ _ ∧ _ := ⟨zb HB hb, Aside0.mk (hbox), zg HB hg, zg HB hg⟩; clear HB; obtain ⟨HB, BK174, GW174, GE174⟩ := n_; clear hb hbox hg; obtain ⟨z12_0, z12_1, y12_0, y12_1⟩ := zB2 BK174; have p175 : 0 ≤ (0 : Int) := (by omega); have q175 : 0 < (l0.length : Int) := of_decide_eq_true zA; obtain ⟨ad175, A175_2, c175_2, e175, hx175_0, hx175_1, hx175_2, hl175_2, hi175_2⟩ := at_T29 HR0.out 0 p175 q175; obtain rfl : adp0 = ad175 := (by injection e175); have qi175 : (0 < l0.length) = True := eq_true (by omega); (try simp only [z00, Nat.zero_mul, Addr.add_zero'] at hx175_0 hx175_1 hx175_2); replace hx175_0 := zc HB hx175_0; replace hx175_1 := zc HB hx175_1; replace hx175_2 := zc HB hx175_2; have HR175_2 := Aside0.mk hi175_2; have HC175_2 := Aside0.mk hl175_2; clear hi175_2 hl175_2; replace p175 := eq_true p175; replace q175 := eq_true q175) | go_quiet (fail))
  go_ret
  exact ⟨zv, zbo⟩
 rw [if_pos c5] at H
 have c5b0 : decide (a1_0 < ((rd_T29 l0 0).f0)) = true := decide_eq_true c5
 clear c5
 by_cases c6 : a1_1 ≥ 0
 rotate_left
 ·rw [if_neg c6] at H
  have c6b0 : decide (0 ≤ a1_1) = false := decide_eq_false c6
  clear c6
  obtain rfl := Option.some.inj H
  go_enter Try.func30, Try.ntmps30
  go_wp2_with (first | ((with_reducible refine gate_dst (N := 3) rfl ?_); refine zbx 3 #[.int .i8 a1_0, .int .i8 a1_1] 41 ?_; intro gb174 hg w9 hbox hb; have n_ : _ ∧ _ ∧ _ ∧ _ := ⟨zb HB hb, Aside0.mk (hbox), zg HB hg, zg HB hg⟩; clear HB; obtain ⟨HB, BK174, GW174, GE174⟩ := n_; clear hb hbox hg; obtain ⟨z10_0, z10_1, y10_0, y10_1⟩ := zB2 BK174; have p175 : 0 ≤ (0 : Int) := (by omega); have q175 : 0 < (l0.length : Int) := of_decide_eq_true zA; obtain ⟨ad175, A175_2, c175_2, e175, hx175_0, hx175_1, hx175_2, hl175_2, hi175_2⟩ := at_T29 HR0.out 0 p175 q175; obtain rfl : adp0 = ad175 := (by injection e175); have qi175 : (0 < l0.length) = True := eq_true (by omega); (try simp only [z00, Nat.zero_mul, Addr.add_zero'] at hx175_0 hx175_1 hx175_2); replace hx175_0 := zc HB hx175_0; replace hx175_1 := zc HB hx175_1; replace hx175_2 := zc HB hx175_2; have HR175_2 := Aside0.mk hi175_2; have HC175_2 := Aside0.mk hl175_2; clear hi175_2 hl175_2; replace p175 := eq_true p175; replace q175 := eq_true q175) | go_quiet (fail))
  go_ret
  exact ⟨zv, zbo⟩
 rw [if_pos c6] at H
 have c6b0 : decide (0 ≤ a1_1) = true := decide_eq_true c6
 clear c6
 obtain rfl := Option.some.inj H
 go_enter Try.func30, Try.ntmps30
 go_wp2_with (first | ((with_reducible refine gate_dst (N := 3) rfl ?_); refine zbx 3 #[.int .i8 a1_0, .int .i8 a1_1] 41 ?_; intro gb174 hg w7 hbox hb; have n_ : _ ∧ _ ∧ _ ∧ _ := ⟨zb HB hb, Aside0.mk (hbox), zg HB hg, zg HB hg⟩; clear HB; obtain ⟨HB, BK174, GW174, GE174⟩ := n_; clear hb hbox hg; obtain ⟨z8_0, z8_1, y8_0, y8_1⟩ := zB2 BK174; have p175 : 0 ≤ (0 : Int) := (by omega); have q175 : 0 < (l0.length : Int) := of_decide_eq_true zA; obtain ⟨ad175, A175_2, c175_2, e175, hx175_0, hx175_1, hx175_2, hl175_2, hi175_2⟩ := at_T29 HR0.out 0 p175 q175; obtain rfl : adp0 = ad175 := (by injection e175); have qi175 : (0 < l0.length) = True := eq_true (by omega); (try simp only [z00, Nat.zero_mul, Addr.add_zero'] at hx175_0 hx175_1 hx175_2); replace hx175_0 := zc HB hx175_0; replace hx175_1 := zc HB hx175_1; replace hx175_2 := zc HB hx175_2; have HR175_2 := Aside0.mk hi175_2; have HC175_2 := Aside0.mk hl175_2; clear hi175_2 hl175_2; replace p175 := eq_true p175; replace q175 := eq_true q175; have p176 : 0 ≤ (0 : Int) := (by omega); have q176 : 0 < (l0.length : Int) := of_decide_eq_true zA; obtain ⟨ad176, A176_2, c176_2, e176, hx176_0, hx176_1, hx176_2, hl176_2, hi176_2⟩ := at_T29 HR0.out 0 p176 q176; obtain rfl : adp0 = ad176 := (by injection e176); have qi176 : (0 < l0.length) = True := eq_true (by omega); (try simp only [z00, Nat.zero_mul, Addr.add_zero'] at hx176_0 hx176_1 hx176_2); replace hx176_0 := zc HB hx176_0; replace hx176_1 := zc HB hx176_1; replace hx176_2 := zc HB hx176_2; have HR176_2 := Aside0.mk hi176_2; have HC176_2 := Aside0.mk hl176_2; clear hi176_2 hl176_2; replace p176 := eq_true p176; replace q176 := eq_true q176; have ea_ := Option.some.inj (hx175_2.symm.trans hx176_2); injection ea_ with ea_ en_ ec_; subst ea_; subst ec_; clear en_) | go_quiet (fail))
 go_ret
 exact ⟨zv, zbo⟩
theorem cellKey : CellKey Try.prog 41 22 := ⟨Try.underlying41, Try.underlying22, by kernel_rfl⟩
theorem zeroBool (w : World) : (zeroValue 4).run Try.prog w = .ok (.bool false) w := by kernel_rfl
mutual
def impl_ValidBoard.j0 : Nat → Bool → Int → Int → List (S43) → Option (Bool)
  | 0, _, _, _, _ => none
  | k + 1, x23, x171000, x171001, x171002 => if x23 = true then (some false) else (impl_ValidBoard.l0 k x171002 (x171002.length : Int) 0 x171000 x171001 x171002 [])
def impl_ValidBoard.l0 : Nat → List (S43) → Int → Int → Int → Int → List (S43) → List ((Int × Int) × Unit) → Option (Bool)
  | 0, _, _, _, _, _, _, _ => none
  | k + 1, x26, x27, x28, x171000, x171001, x171002, x900 => if x28 < x27 then (if 0 ≤ x28 then (if x28 < (x26.length : Int) then ((impl_ValidPiece.f ((rd_T43 x26 x28).f0.f0) ((rd_T43 x26 x28).f0.f1) ((rd_T43 x26 x28).f1) ((rd_T43 x26 x28).f2) ((rd_T43 x26 x28).f3)).bind fun t175 => (if t175 = true then ((impl_Board_has.f [(⟨x171000, x171001, x171002⟩ : S29)] ((rd_T43 x26 x28).f0.f0) ((rd_T43 x26 x28).f0.f1)).bind fun t176 => (if t176 = true then (if (mfind x900 ((rd_T43 x26 x28).f0.f0) ((rd_T43 x26 x28).f0.f1)).isSome = true then (some false) else (impl_ValidBoard.l0 k x26 x27 (wrap64 (x28 + 1)) x171000 x171001 x171002 (x900 ++ [((((rd_T43 x26 x28).f0.f0), ((rd_T43 x26 x28).f0.f1)), ())]))) else (some false))) else (some false))) else (none)) else (none)) else (some true)
end
def impl_ValidBoard.f (k : Nat) (a0_0 : Int) (a0_1 : Int) (l0_2 : List (S43)) : Option (Bool) := (impl_in.f (wrap64 (a0_0)) 1 24).bind fun t171 => (if t171 = true then ((impl_in.f (wrap64 (a0_1)) 1 24).bind fun t172 => (if t172 = true then (impl_ValidBoard.j0 k (decide ((l0_2.length : Int) > 200)) a0_0 a0_1 l0_2) else (impl_ValidBoard.j0 k true a0_0 a0_1 l0_2))) else (impl_ValidBoard.j0 k true a0_0 a0_1 l0_2))
theorem impl_ValidBoard.mono_l : ∀ k, (∀ y0 y1 y2 y3, LeO (impl_ValidBoard.j0 k y0 y1 y2 y3) (impl_ValidBoard.j0 (k + 1) y0 y1 y2 y3)) ∧ (∀ y0 y1 y2 y3 y4 y5 y6, LeO (impl_ValidBoard.l0 k y0 y1 y2 y3 y4 y5 y6) (impl_ValidBoard.l0 (k + 1) y0 y1 y2 y3 y4 y5 y6))
  | 0 => ⟨fun _ _ _ _ r h => by simp [impl_ValidBoard.j0] at h, fun _ _ _ _ _ _ _ r h => by simp [impl_ValidBoard.l0] at h⟩
  | k + 1 => by
    obtain ⟨ih0, ih1⟩ := impl_ValidBoard.mono_l k
    refine ⟨?_, ?_⟩
    · intro y0 y1 y2 y3
      unfold impl_ValidBoard.j0
      repeat' first | (with_reducible first | apply ih0 | apply ih1 | exact LeO.refl _ | exact LeO.none _ | refine LeO.ite ?_ ?_ | refine LeO.bind ?_ (fun _ => ?_)) | apply ih0 | apply ih1 | exact LeO.none _ | refine LeO.ite ?_ ?_ | refine LeO.bind ?_ (fun _ => ?_)
    · intro y0 y1 y2 y3 y4 y5 y6
      unfold impl_ValidBoard.l0
      repeat' first | (with_reducible first | apply ih0 | apply ih1 | exact LeO.refl _ | exact LeO.none _ | refine LeO.ite ?_ ?_ | refine LeO.bind ?_ (fun _ => ?_)) | apply ih0 | apply ih1 | exact LeO.none _ | refine LeO.ite ?_ ?_ | refine LeO.bind ?_ (fun _ => ?_)
theorem impl_ValidBoard.mono : ∀ a0 a1 a2 k, LeO (impl_ValidBoard.f k a0 a1 a2) (impl_ValidBoard.f (k + 1) a0 a1 a2) := by
 intro a0 a1 a2 k
 obtain ⟨ih0, ih1⟩ := impl_ValidBoard.mono_l k
 unfold impl_ValidBoard.f
 repeat' first | (with_reducible first | apply ih0 | apply ih1 | exact LeO.refl _ | exact LeO.none _ | refine LeO.ite ?_ ?_ | refine LeO.bind ?_ (fun _ => ?_)) | apply ih0 | apply ih1 | exact LeO.none _ | refine LeO.ite ?_ ?_ | refine LeO.bind ?_ (fun _ => ?_)
theorem impl_ValidBoard.calls (k : Nat) (a0_0 : Int) (a0_1 : Int) (A0_2 : Option Addr) (c0_2 : Nat) (l0_2 : List (S43)) (r : Bool) (w : World) (hr0_2 : Kd.C k43 w A0_2 l0_2.length l0_2) (hc0_2 : l0_2.length ≤ c0_2) (h : impl_ValidBoard.f k a0_0 a0_1 l0_2 = some r) :
    Calls Try.prog 15 #[.agg #[.int .i8 a0_0, .int .i8 a0_1, .slice A0_2 l0_2.length c0_2]] w fun e w' => e = .returned (.bool r) ∧ Below w.heap.size w w' := by
 have hu29 := Try.underlying29
 have hu43 := Try.underlying43
 have hu41 := Try.underlying41
 have HR0_2 := Aside0.mk hr0_2
 have HC0_2 := Aside0.mk hc0_2
 clear hr0_2 hc0_2
 have HB := Aside0.mk (Below.refl w.heap.size w)
 have H : ((impl_in.f (wrap64 (a0_0)) 1 24).bind fun t171 => (if t171 = true then ((impl_in.f (wrap64 (a0_1)) 1 24).bind fun t172 => (if t172 = true then (impl_ValidBoard.j0 k (decide ((l0_2.length : Int) > 200)) a0_0 a0_1 l0_2) else (impl_ValidBoard.j0 k true a0_0 a0_1 l0_2))) else (impl_ValidBoard.j0 k true a0_0 a0_1 l0_2))) = some r := h
 clear h
 have HC2 := Aside0.mk H
 clear H
 go_enter Try.func15, Try.ntmps15
 go_upto_region 1 with (first | ((with_reducible refine gate_dst (N := 1) rfl ?_); (try (refine gate_guard (by rfl) ?_; dsimp only)); refine zbx 1 #[.int .i8 a0_0, .int .i8 a0_1, .slice A0_2 l0_2.length c0_2] 29 ?_; intro gb170 hg w3 hbox hb; have n_ : _ ∧ _ ∧ _ ∧ _ := ⟨zb HB hb, Aside0.mk (hbox), zg HB hg, zg HB hg⟩; clear HB; obtain ⟨HB, BK170, GW170, GE170⟩ := n_; clear hb hbox hg))
 (try simp only [Act.put, List.setIfInBounds_toArray, List.set_cons_zero, List.set_cons_succ])
 go_cut [23] (fun v23 wc => ∃ (kq : Nat) (x23_1 : Bool), v23 = .bool x23_1 ∧ Aside0 (impl_ValidBoard.j0 kq x23_1 a0_0 a0_1 l0_2 = some r) ∧ Aside0 (kq ≤ k) ∧ Aside0 (wc.heap[gb170]? = some (.cells #[.int .i8 a0_0, .int .i8 a0_1, (.slice A0_2 l0_2.length c0_2)] 29 (0, 0))) ∧ Aside0 (Below w.heap.size w wc))
 case first =>
  have H := HC2.out
  clear HC2
  replace H := zob H
  obtain ⟨t171, A40, H⟩ := H
  replace H : (if t171 = true then ((impl_in.f (wrap64 (a0_1)) 1 24).bind fun t172 => (if t172 = true then (impl_ValidBoard.j0 k (decide ((l0_2.length : Int) > 200)) a0_0 a0_1 l0_2) else (impl_ValidBoard.j0 k true a0_0 a0_1 l0_2))) else (impl_ValidBoard.j0 k true a0_0 a0_1 l0_2)) = some r := H
  have A4 := Aside0.mk A40
  clear A40
  by_cases c5 : t171 = true
  rotate_left
  ·replace c5 := Bool.eq_false_iff.mpr c5
   subst c5
   have H1 : (impl_ValidBoard.j0 k true a0_0 a0_1 l0_2) = some r := by rw [if_neg (show ¬ (false = true) by decide)] at H; exact H
   clear H
   have H := H1
   clear H1
   have H' := Aside0.mk H
   clear H
   obtain ⟨z10_0, z10_1, z10_2, y10_0, y10_1, y10_2⟩ := zB3 BK170
   go_wp2_with (first | ((with_reducible refine gate_callee (f := 28) rfl ?_); refine goesL_ (some 9) rfl rfl Try.func28 (by kernel_rfl) rfl #[.int .i64 (wrap64 (a0_0)), .int .i64 1, .int .i64 24] rfl zm ?_; (with_reducible refine (impl_in.calls (wrap64 (a0_0)) 1 24 false _ A4.out).mono ?_); rintro e w' ⟨rfl, ⟨nd, rfl⟩⟩; refine ⟨_, rfl, ?_⟩))
   go_meet
   case rel => exact ⟨_, (true), zi, H', ⟨by first | omega | exact Nat.le_refl _⟩, zh BK170, zba⟩
  subst c5
  have H1 : ((impl_in.f (wrap64 (a0_1)) 1 24).bind fun t172 => (if t172 = true then (impl_ValidBoard.j0 k (decide ((l0_2.length : Int) > 200)) a0_0 a0_1 l0_2) else (impl_ValidBoard.j0 k true a0_0 a0_1 l0_2))) = some r := by rw [if_pos rfl] at H; exact H
  clear H
  have H := H1
  clear H1
  replace H := zob H
  obtain ⟨t172, A60, H⟩ := H
  replace H : (if t172 = true then (impl_ValidBoard.j0 k (decide ((l0_2.length : Int) > 200)) a0_0 a0_1 l0_2) else (impl_ValidBoard.j0 k true a0_0 a0_1 l0_2)) = some r := H
  have A6 := Aside0.mk A60
  clear A60
  by_cases c7 : t172 = true
  ·subst c7
   have H1 : (impl_ValidBoard.j0 k (decide ((l0_2.length : Int) > 200)) a0_0 a0_1 l0_2) = some r := by rw [if_pos rfl] at H; exact H
   clear H
   have H := H1
   clear H1
   have H' := Aside0.mk H
   clear H
   obtain ⟨z8_0, z8_1, z8_2, y8_0, y8_1, y8_2⟩ := zB3 BK170
   go_wp2_with (first | ((with_reducible refine gate_callee (f := 28) rfl ?_); refine goesL_ (some 9) rfl rfl Try.func28 (by kernel_rfl) rfl #[.int .i64 (wrap64 (a0_0)), .int .i64 1, .int .i64 24] rfl zm ?_; (with_reducible refine (impl_in.calls (wrap64 (a0_0)) 1 24 true _ A4.out).mono ?_); rintro e w' ⟨rfl, ⟨nd, rfl⟩⟩; refine ⟨_, rfl, ?_⟩) | (go_at_call 28; (with_reducible refine (impl_in.calls (wrap64 (a0_1)) 1 24 true _ A6.out).mono ?_); rintro e w' ⟨rfl, ⟨nd, rfl⟩⟩))
   go_meet
   case rel => exact ⟨_, (decide ((l0_2.length : Int) > 200)), zi, H', ⟨by first | omega | exact Nat.le_refl _⟩, zh BK170, zba⟩
  replace c7 := Bool.eq_false_iff.mpr c7
  subst c7
  have H1 : (impl_ValidBoard.j0 k true a0_0 a0_1 l0_2) = some r := by rw [if_neg (show ¬ (false = true) by decide)] at H; exact H
  clear H
  have H := H1
  clear H1
  have H' := Aside0.mk H
  clear H
  obtain ⟨z9_0, z9_1, z9_2, y9_0, y9_1, y9_2⟩ := zB3 BK170
  go_wp2_with (first | ((with_reducible refine gate_callee (f := 28) rfl ?_); refine goesL_ (some 9) rfl rfl Try.func28 (by kernel_rfl) rfl #[.int .i64 (wrap64 (a0_0)), .int .i64 1, .int .i64 24] rfl zm ?_; (with_reducible refine (impl_in.calls (wrap64 (a0_0)) 1 24 true _ A4.out).mono ?_); rintro e w' ⟨rfl, ⟨nd, rfl⟩⟩; refine ⟨_, rfl, ?_⟩) | (go_at_call 28; (with_reducible refine (impl_in.calls (wrap64 (a0_1)) 1 24 false _ A6.out).mono ?_); rintro e w' ⟨rfl, ⟨nd, rfl⟩⟩))
  go_meet
  case rel => exact ⟨_, (true), zi, H', ⟨by first | omega | exact Nat.le_refl _⟩, zh BK170, zba⟩
 clear HC2
 try clear p2
 try clear c4
 try clear c5
 try clear p6
 try clear c7
 try clear c9
 try clear z10_0 z10_1 z10_2
 try clear z8_0 z8_1 z8_2
 try clear z9_0 z9_1 z9_2
 try clear y10_0
 try clear y10_1
 try clear y10_2
 try clear y8_0
 try clear y8_1
 try clear y8_2
 try clear y9_0
 try clear y9_1
 try clear y9_2
 obtain ⟨kq, x23_1, rfl, HA, HJ1, BK170, HB⟩ := hcut
 cases kq with
 | zero => exact absurd HA.out (by simp [impl_ValidBoard.j0])
 | succ kj1 => ?_
 have H := HA.out
 clear HA
 simp only [impl_ValidBoard.j0] at H
 by_cases c11 : x23_1 = true
 ·subst c11
  have H1 : (some false) = some r := by rw [if_pos rfl] at H; exact H
  clear H
  have H := H1
  clear H1
  obtain rfl := Option.some.inj H
  go_wp2
  go_ret
  exact ⟨zv, zbo⟩
 replace c11 := Bool.eq_false_iff.mpr c11
 subst c11
 have H1 : (impl_ValidBoard.l0 kj1 l0_2 (l0_2.length : Int) 0 a0_0 a0_1 l0_2 []) = some r := by rw [if_neg (show ¬ (false = true) by decide)] at H; exact H
 clear H
 have H := H1
 clear H1
 have H' := Aside0.mk H
 clear H
 obtain ⟨z12_0, z12_1, z12_2, y12_0, y12_1, y12_2⟩ := zB3 BK170
 go_wp2_with (first | ((with_reducible refine gate_dst (N := 24) rfl ?_); (try (refine gate_guard (by rfl) ?_; dsimp only)); refine map_event rfl 60 rfl ?_; intro gm hg w40 hmap hb; have n_ : _ ∧ _ ∧ _ ∧ _ := ⟨zk BK170 hb, zbs hb, Aside0.mk hmap, Aside0.mk ((by rw [hg]; exact (zz HB)) : w.heap.size ≤ gm)⟩; clear BK170 HB; obtain ⟨BK170, HB, MM, GEM⟩ := n_; clear hb hmap hg; obtain ⟨z40_0, z40_1, z40_2, y40_0, y40_1, y40_2⟩ := zB3 BK170))
 go_loopg [28] kj1 (fun kq v28 w' => ∃ (x28_2 : Int) (x900 : List ((Int × Int) × Unit)) (es : Array MapEntry) (ck : Nat), v28 = .int .i64 x28_2 ∧ Aside0 (impl_ValidBoard.l0 kq l0_2 (l0_2.length : Int) x28_2 a0_0 a0_1 l0_2 x900 = some r) ∧ Aside0 (kq ≤ kj1) ∧ Aside0 (w'.heap[gb170]? = some (.cells #[.int .i8 a0_0, .int .i8 a0_1, (.slice A0_2 l0_2.length c0_2)] 29 (0, 0))) ∧ Aside0 (w'.heap[gm]? = some (.map es ck)) ∧ Aside0 (ER (fun _ : Unit => Value.bool true) es x900) ∧ Aside0 (Below w.heap.size w w'))
 case atStart => exact ⟨(0), [], #[], 0, zi, H', ⟨Nat.le_refl _⟩, zh BK170, zh MM, ⟨rfl⟩, zba⟩
 clear H'
 try clear c1
 try clear p2
 try clear c4
 try clear c5
 try clear p6
 try clear c7
 try clear c9
 try clear c11
 try clear z10_0 z10_1 z10_2
 try clear z12_0 z12_1 z12_2
 try clear z8_0 z8_1 z8_2
 try clear z9_0 z9_1 z9_2
 try clear y10_0
 try clear y10_1
 try clear y10_2
 try clear y12_0
 try clear y12_1
 try clear y12_2
 try clear y8_0
 try clear y8_1
 try clear y8_2
 try clear y9_0
 try clear y9_1
 try clear y9_2
 try clear p2
 try clear p6
 obtain ⟨x28_2, x900, es, ck, rfl, HA, HK2, BK170, MM, MER, HB⟩ := hrel
 have GMB : Aside0 (gb170 ≠ gm) := ⟨by rintro rfl; have h1 := BK170.out; rw [MM.out] at h1; cases h1⟩
 try clear z40_0 z40_1 z40_2 y40_0 y40_1 y40_2
 cases gk with
 | zero => exact absurd HA.out (by simp [impl_ValidBoard.l0])
 | succ k2 => ?_
 have H := HA.out
 clear HA
 simp only [impl_ValidBoard.l0] at H
 by_cases c13 : x28_2 < (l0_2.length : Int)
 rotate_left
 ·rw [if_neg c13] at H
  have c13b0 : decide (x28_2 < (l0_2.length : Int)) = false := decide_eq_false c13
  clear c13
  obtain rfl := Option.some.inj H
  go_wp2
  go_ret
  exact ⟨zv, zbo⟩
 rw [if_pos c13] at H
 have c13b0 : decide (x28_2 < (l0_2.length : Int)) = true := decide_eq_true c13
 clear c13
 by_cases c14 : 0 ≤ x28_2
 rotate_left
 ·rw [if_neg c14] at H
  exact absurd H (by simp)
 rw [if_pos c14] at H
 have c14b0 : decide (0 ≤ x28_2) = true := decide_eq_true c14
 clear c14
 by_cases c15 : x28_2 < (l0_2.length : Int)
 rotate_left
 ·rw [if_neg c15] at H
  exact absurd H (by simp)
 rw [if_pos c15] at H
 have c15b0 : decide (x28_2 < (l0_2.length : Int)) = true := decide_eq_true c15
 clear c15
 replace H := zob H
 obtain ⟨t175, A160, H⟩ := H
 replace H : (if t175 = true then ((impl_Board_has.f [(⟨a0_0, a0_1, l0_2⟩ : S29)] ((rd_T43 l0_2 x28_2).f0.f0) ((rd_T43 l0_2 x28_2).f0.f1)).bind fun t176 => (if t176 = true then (if (mfind x900 ((rd_T43 l0_2 x28_2).f0.f0) ((rd_T43 l0_2 x28_2).f0.f1)).isSome = true then (some false) else (impl_ValidBoard.l0 k2 l0_2 (l0_2.length : Int) (wrap64 (x28_2 + 1)) a0_0 a0_1 l0_2 (x900 ++ [((((rd_T43 l0_2 x28_2).f0.f0), ((rd_T43 l0_2 x28_2).f0.f1)), ())]))) else (some false))) else (some false)) = some r := H
 have A16 := Aside0.mk A160
 clear A160
 by_cases c17 : t175 = true
 rotate_left
 ·replace c17 := Bool.eq_false_iff.mpr c17
  subst c17
  have H1 : (some false) = some r := by rw [if_neg (show ¬ (false = true) by decide)] at H; exact H
  clear H
  have H := H1
  clear H1
  obtain rfl := Option.some.inj H
  have p173 : 0 ≤ (x28_2 : Int) := of_decide_eq_true zA
  have q173 : x28_2 < (l0_2.length : Int) := of_decide_eq_true zA
  obtain ⟨ad173, e173, hx173_0, hx173_1, hx173_2, hx173_3, hx173_4⟩ := at_T43 HR0_2.out x28_2 p173 q173
  cases e173
  replace hx173_0 := zc HB hx173_0
  replace hx173_1 := zc HB hx173_1
  replace hx173_2 := zc HB hx173_2
  replace hx173_3 := zc HB hx173_3
  replace hx173_4 := zc HB hx173_4
  replace p173 := eq_true p173
  replace q173 := eq_true q173
  go_wp2_with (first | ((with_reducible refine gate_dst (N := 5) rfl ?_); (try (refine gate_guard (by rfl) ?_; dsimp only)); refine zbx 5 #[.int .i8 0, .int .i8 0, .int .i8 0, .int .i8 0, .int .i8 0] 43 ?_; intro gb174 hg w33 hbox hb; have NM174 := Aside0.mk ((by rw [hg]; exact Nat.ne_of_lt (blk_lt (g := gm) (o := .map es ck) (zh MM).out)) : gm ≠ gb174); have m0_ := zk MM hb; clear MM; have MM := m0_; clear m0_; have n_ : _ ∧ _ ∧ _ ∧ _ ∧ _ ∧ _ ∧ _ := ⟨zk BK170 hb, zbs hb, Aside0.mk (hbox), zg HB hg, zg HB hg, zn1 BK170 hg, zn2 BK170 hg⟩; clear BK170 HB; obtain ⟨BK170, HB, BK174, GW174, GE174, NB170_174, NB174_170⟩ := n_; clear hb hbox hg; have hnb34 := NB174_170.out; have hnc34 := NB170_174.out; obtain ⟨z35_0, z35_1, z35_2, z35_3, z35_4, y35_0, y35_1, y35_2, y35_3, y35_4⟩ := zB5 BK174) | ((with_reducible refine gate_callee (f := 29) rfl ?_); refine goesL_ (some 33) rfl rfl Try.func29 (by kernel_rfl) rfl #[.agg #[.int .i8 ((rd_T43 l0_2 x28_2).f0.f0), .int .i8 ((rd_T43 l0_2 x28_2).f0.f1), .int .i8 ((rd_T43 l0_2 x28_2).f1), .int .i8 ((rd_T43 l0_2 x28_2).f2), .int .i8 ((rd_T43 l0_2 x28_2).f3)]] rfl zm ?_; (with_reducible refine (impl_ValidPiece.calls ((rd_T43 l0_2 x28_2).f0.f0) ((rd_T43 l0_2 x28_2).f0.f1) ((rd_T43 l0_2 x28_2).f1) ((rd_T43 l0_2 x28_2).f2) ((rd_T43 l0_2 x28_2).f3) false _ A16.out).mono ?_); rintro e w36 ⟨rfl, hb⟩; refine ⟨_, rfl, ?_⟩; have m0_ := Aside0.mk (blk_below (g := gm) (o := .map es ck) (by (repeat (first | (with_reducible refine blk_drewN ?_ _) | (with_reducible refine blk_drew ?_) | (with_reducible refine blk_alloc ?_ _) | (refine mblk_far ?_ NM174.out _))); exact MM.out) hb); clear MM; have MM := m0_; clear m0_; have n_ : _ ∧ _ ∧ _ := ⟨zfb BK170 NB170_174 hb, Aside0.mk (blk_below (g := gb174) (o := .cells #[.int .i8 ((rd_T43 l0_2 x28_2).f0.f0), .int .i8 ((rd_T43 l0_2 x28_2).f0.f1), .int .i8 ((rd_T43 l0_2 x28_2).f1), .int .i8 ((rd_T43 l0_2 x28_2).f2), .int .i8 ((rd_T43 l0_2 x28_2).f3)] 43 (0, 0)) (zp BK174) hb), zbs hb⟩; clear BK170 BK174 HB; obtain ⟨BK170, BK174, HB⟩ := n_; (try clear hb); (try clear hb2); (try clear hk); (try clear hi)))
  go_ret
  exact ⟨zv, zbo⟩
 subst c17
 have H1 : ((impl_Board_has.f [(⟨a0_0, a0_1, l0_2⟩ : S29)] ((rd_T43 l0_2 x28_2).f0.f0) ((rd_T43 l0_2 x28_2).f0.f1)).bind fun t176 => (if t176 = true then (if (mfind x900 ((rd_T43 l0_2 x28_2).f0.f0) ((rd_T43 l0_2 x28_2).f0.f1)).isSome = true then (some false) else (impl_ValidBoard.l0 k2 l0_2 (l0_2.length : Int) (wrap64 (x28_2 + 1)) a0_0 a0_1 l0_2 (x900 ++ [((((rd_T43 l0_2 x28_2).f0.f0), ((rd_T43 l0_2 x28_2).f0.f1)), ())]))) else (some false))) = some r := by rw [if_pos rfl] at H; exact H
 clear H
 have H := H1
 clear H1
 replace H := zob H
 obtain ⟨t176, A180, H⟩ := H
 replace H : (if t176 = true then (if (mfind x900 ((rd_T43 l0_2 x28_2).f0.f0) ((rd_T43 l0_2 x28_2).f0.f1)).isSome = true then (some false) else (impl_ValidBoard.l0 k2 l0_2 (l0_2.length : Int) (wrap64 (x28_2 + 1)) a0_0 a0_1 l0_2 (x900 ++ [((((rd_T43 l0_2 x28_2).f0.f0), ((rd_T43 l0_2 x28_2).f0.f1)), ())]))) else (some false)) = some r := H
 have A18 := Aside0.mk A180
 clear A180
 by_cases c19 : t176 = true
 rotate_left
 ·replace c19 := Bool.eq_false_iff.mpr c19
  subst c19
  have H1 : (some false) = some r := by rw [if_neg (show ¬ (false = true) by decide)] at H; exact H
  clear H
  have H := H1
  clear H1
  obtain rfl := Option.some.inj H
  have p173 : 0 ≤ (x28_2 : Int) := of_decide_eq_true zA
  have q173 : x28_2 < (l0_2.length : Int) := of_decide_eq_true zA
  obtain ⟨ad173, e173, hx173_0, hx173_1, hx173_2, hx173_3, hx173_4⟩ := at_T43 HR0_2.out x28_2 p173 q173
  cases e173
  replace hx173_0 := zc HB hx173_0
  replace hx173_1 := zc HB hx173_1
  replace hx173_2 := zc HB hx173_2
  replace hx173_3 := zc HB hx173_3
  replace hx173_4 := zc HB hx173_4
  replace p173 := eq_true p173
  replace q173 := eq_true q173
  go_wp2_with (first | ((with_reducible refine gate_dst (N := 5) rfl ?_); (try (refine gate_guard (by rfl) ?_; dsimp only)); refine zbx 5 #[.int .i8 0, .int .i8 0, .int .i8 0, .int .i8 0, .int .i8 0] 43 ?_; intro gb174 hg w27 hbox hb; have NM174 := Aside0.mk ((by rw [hg]; exact Nat.ne_of_lt (blk_lt (g := gm) (o := .map es ck) (zh MM).out)) : gm ≠ gb174); have m0_ := zk MM hb; clear MM; have MM := m0_; clear m0_; have n_ : _ ∧ _ ∧ _ ∧ _ ∧ _ ∧ _ ∧ _ := ⟨zk BK170 hb, zbs hb, Aside0.mk (hbox), zg HB hg, zg HB hg, zn1 BK170 hg, zn2 BK170 hg⟩; clear BK170 HB; obtain ⟨BK170, HB, BK174, GW174, GE174, NB170_174, NB174_170⟩ := n_; clear hb hbox hg; have hnb28 := NB174_170.out; have hnc28 := NB170_174.out; obtain ⟨z29_0, z29_1, z29_2, z29_3, z29_4, y29_0, y29_1, y29_2, y29_3, y29_4⟩ := zB5 BK174) | ((with_reducible refine gate_callee (f := 29) rfl ?_); refine goesL_ (some 33) rfl rfl Try.func29 (by kernel_rfl) rfl #[.agg #[.int .i8 ((rd_T43 l0_2 x28_2).f0.f0), .int .i8 ((rd_T43 l0_2 x28_2).f0.f1), .int .i8 ((rd_T43 l0_2 x28_2).f1), .int .i8 ((rd_T43 l0_2 x28_2).f2), .int .i8 ((rd_T43 l0_2 x28_2).f3)]] rfl zm ?_; (with_reducible refine (impl_ValidPiece.calls ((rd_T43 l0_2 x28_2).f0.f0) ((rd_T43 l0_2 x28_2).f0.f1) ((rd_T43 l0_2 x28_2).f1) ((rd_T43 l0_2 x28_2).f2) ((rd_T43 l0_2 x28_2).f3) true _ A16.out).mono ?_); rintro e w30 ⟨rfl, hb⟩; refine ⟨_, rfl, ?_⟩; have m0_ := Aside0.mk (blk_below (g := gm) (o := .map es ck) (by (repeat (first | (with_reducible refine blk_drewN ?_ _) | (with_reducible refine blk_drew ?_) | (with_reducible refine blk_alloc ?_ _) | (refine mblk_far ?_ NM174.out _))); exact MM.out) hb); clear MM; have MM := m0_; clear m0_; have n_ : _ ∧ _ ∧ _ := ⟨zfb BK170 NB170_174 hb, Aside0.mk (blk_below (g := gb174) (o := .cells #[.int .i8 ((rd_T43 l0_2 x28_2).f0.f0), .int .i8 ((rd_T43 l0_2 x28_2).f0.f1), .int .i8 ((rd_T43 l0_2 x28_2).f1), .int .i8 ((rd_T43 l0_2 x28_2).f2), .int .i8 ((rd_T43 l0_2 x28_2).f3)] 43 (0, 0)) (zp BK174) hb), zbs hb⟩; clear BK170 BK174 HB; obtain ⟨BK170, BK174, HB⟩ := n_; (try clear hb); (try clear hb2); (try clear hk); (try clear hi); obtain ⟨z31_0, z31_1, z31_2, z31_3, z31_4, y31_0, y31_1, y31_2, y31_3, y31_4⟩ := zB5 BK174) | (go_at_call 30; (with_reducible refine (impl_Board_has.calls _ [(⟨a0_0, a0_1, l0_2⟩ : S29)] ((rd_T43 l0_2 x28_2).f0.f0) ((rd_T43 l0_2 x28_2).f0.f1) false _ ?side1 A18.out).mono ?_); (case side1 => refine ro_of_blk (T := 29) (cs := #[.int .i8 a0_0, .int .i8 a0_1, .slice (some ad173) l0_2.length c0_2]) (zh BK170).out ?_; exact k29_mk _ (⟨a0_0, a0_1, l0_2⟩ : S29) (by exact HC0_2.out) (by exact zcc HB HR0_2.out)); rintro e w32 ⟨rfl, hb⟩; have m0_ := zk MM hb; clear MM; have MM := m0_; clear m0_; have n_ : _ ∧ _ ∧ _ := ⟨zk BK170 hb, zk BK174 hb, zbs hb⟩; clear BK170 BK174 HB; obtain ⟨BK170, BK174, HB⟩ := n_; (try clear hb); (try clear hb2); (try clear hk); (try clear hi)))
  go_ret
  exact ⟨zv, zbo⟩
 subst c19
 have H1 : (if (mfind x900 ((rd_T43 l0_2 x28_2).f0.f0) ((rd_T43 l0_2 x28_2).f0.f1)).isSome = true then (some false) else (impl_ValidBoard.l0 k2 l0_2 (l0_2.length : Int) (wrap64 (x28_2 + 1)) a0_0 a0_1 l0_2 (x900 ++ [((((rd_T43 l0_2 x28_2).f0.f0), ((rd_T43 l0_2 x28_2).f0.f1)), ())]))) = some r := by rw [if_pos rfl] at H; exact H
 clear H
 have H := H1
 clear H1
 by_cases c21 : (mfind x900 ((rd_T43 l0_2 x28_2).f0.f0) ((rd_T43 l0_2 x28_2).f0.f1)).isSome = true
 ·rw [if_pos c21] at H
  obtain rfl := Option.some.inj H
  have p173 : 0 ≤ (x28_2 : Int) := of_decide_eq_true zA
  have q173 : x28_2 < (l0_2.length : Int) := of_decide_eq_true zA
  obtain ⟨ad173, e173, hx173_0, hx173_1, hx173_2, hx173_3, hx173_4⟩ := at_T43 HR0_2.out x28_2 p173 q173
  cases e173
  replace hx173_0 := zc HB hx173_0
  replace hx173_1 := zc HB hx173_1
  replace hx173_2 := zc HB hx173_2
  replace hx173_3 := zc HB hx173_3
  replace hx173_4 := zc HB hx173_4
  replace p173 := eq_true p173
  replace q173 := eq_true q173
  have ml : ∀ W : World, W.heap[gm]? = some (.map es ck) → (Instr.lookup 60 (.map (some gm)) (.agg #[.int .i8 ((rd_T43 l0_2 x28_2).f0.f0), .int .i8 ((rd_T43 l0_2 x28_2).f0.f1)]) false).run Try.prog W = .ok (.bool true) W := by
   intro W hW
   refine (run_mlook (V := 4) cellKey Try.underlying60 (zeroBool W) hW MER.out _ _ false).trans ?_
   simp only [Bool.false_eq_true, if_false]; obtain ⟨v_, hv_⟩ := Option.isSome_iff_exists.mp c21; rw [hv_]; rfl
  go_wp2_with (first | ((with_reducible refine gate_dst (N := 5) rfl ?_); (try (refine gate_guard (by rfl) ?_; dsimp only)); refine zbx 5 #[.int .i8 0, .int .i8 0, .int .i8 0, .int .i8 0, .int .i8 0] 43 ?_; intro gb174 hg w20 hbox hb; have NM174 := Aside0.mk ((by rw [hg]; exact Nat.ne_of_lt (blk_lt (g := gm) (o := .map es ck) (zh MM).out)) : gm ≠ gb174); have m0_ := zk MM hb; clear MM; have MM := m0_; clear m0_; have n_ : _ ∧ _ ∧ _ ∧ _ ∧ _ ∧ _ ∧ _ := ⟨zk BK170 hb, zbs hb, Aside0.mk (hbox), zg HB hg, zg HB hg, zn1 BK170 hg, zn2 BK170 hg⟩; clear BK170 HB; obtain ⟨BK170, HB, BK174, GW174, GE174, NB170_174, NB174_170⟩ := n_; clear hb hbox hg; have hnb21 := NB174_170.out; have hnc21 := NB170_174.out; obtain ⟨z22_0, z22_1, z22_2, z22_3, z22_4, y22_0, y22_1, y22_2, y22_3, y22_4⟩ := zB5 BK174) | ((with_reducible refine gate_callee (f := 29) rfl ?_); refine goesL_ (some 33) rfl rfl Try.func29 (by kernel_rfl) rfl #[.agg #[.int .i8 ((rd_T43 l0_2 x28_2).f0.f0), .int .i8 ((rd_T43 l0_2 x28_2).f0.f1), .int .i8 ((rd_T43 l0_2 x28_2).f1), .int .i8 ((rd_T43 l0_2 x28_2).f2), .int .i8 ((rd_T43 l0_2 x28_2).f3)]] rfl zm ?_; (with_reducible refine (impl_ValidPiece.calls ((rd_T43 l0_2 x28_2).f0.f0) ((rd_T43 l0_2 x28_2).f0.f1) ((rd_T43 l0_2 x28_2).f1) ((rd_T43 l0_2 x28_2).f2) ((rd_T43 l0_2 x28_2).f3) true _ A16.out).mono ?_); rintro e w23 ⟨rfl, hb⟩; refine ⟨_, rfl, ?_⟩; have m0_ := Aside0.mk (blk_below (g := gm) (o := .map es ck) (by (repeat (first | (with_reducible refine blk_drewN ?_ _) | (with_reducible refine blk_drew ?_) | (with_reducible refine blk_alloc ?_ _) | (refine mblk_far ?_ NM174.out _))); exact MM.out) hb); clear MM; have MM := m0_; clear m0_; have n_ : _ ∧ _ ∧ _ := ⟨zfb BK170 NB170_174 hb, Aside0.mk (blk_below (g := gb174) (o := .cells #[.int .i8 ((rd_T43 l0_2 x28_2).f0.f0), .int .i8 ((rd_T43 l0_2 x28_2).f0.f1), .int .i8 ((rd_T43 l0_2 x28_2).f1), .int .i8 ((rd_T43 l0_2 x28_2).f2), .int .i8 ((rd_T43 l0_2 x28_2).f3)] 43 (0, 0)) (zp BK174) hb), zbs hb⟩; clear BK170 BK174 HB; obtain ⟨BK170, BK174, HB⟩ := n_; (try clear hb); (try clear hb2); (try clear hk); (try clear hi); obtain ⟨z24_0, z24_1, z24_2, z24_3, z24_4, y24_0, y24_1, y24_2, y24_3, y24_4⟩ := zB5 BK174) | (go_at_call 30; (with_reducible refine (impl_Board_has.calls _ [(⟨a0_0, a0_1, l0_2⟩ : S29)] ((rd_T43 l0_2 x28_2).f0.f0) ((rd_T43 l0_2 x28_2).f0.f1) true _ ?side1 A18.out).mono ?_); (case side1 => refine ro_of_blk (T := 29) (cs := #[.int .i8 a0_0, .int .i8 a0_1, .slice (some ad173) l0_2.length c0_2]) (zh BK170).out ?_; exact k29_mk _ (⟨a0_0, a0_1, l0_2⟩ : S29) (by exact HC0_2.out) (by exact zcc HB HR0_2.out)); rintro e w25 ⟨rfl, hb⟩; have m0_ := zk MM hb; clear MM; have MM := m0_; clear m0_; have n_ : _ ∧ _ ∧ _ := ⟨zk BK170 hb, zk BK174 hb, zbs hb⟩; clear BK170 BK174 HB; obtain ⟨BK170, BK174, HB⟩ := n_; (try clear hb); (try clear hb2); (try clear hk); (try clear hi); obtain ⟨z26_0, z26_1, z26_2, z26_3, z26_4, y26_0, y26_1, y26_2, y26_3, y26_4⟩ := zB5 BK174) | ((with_reducible refine gate_dst (N := 45) rfl ?_); (try (refine gate_guard (by rfl) ?_; dsimp only)); refine look_event rfl rfl rfl rfl (ml _ (zh MM).out) ?_))
  go_ret
  exact ⟨zv, zbo⟩
 rw [if_neg c21] at H
 have H' := Aside0.mk H
 clear H
 have p173 : 0 ≤ (x28_2 : Int) := of_decide_eq_true zA
 have q173 : x28_2 < (l0_2.length : Int) := of_decide_eq_true zA
 obtain ⟨ad173, e173, hx173_0, hx173_1, hx173_2, hx173_3, hx173_4⟩ := at_T43 HR0_2.out x28_2 p173 q173
 cases e173
 replace hx173_0 := zc HB hx173_0
 replace hx173_1 := zc HB hx173_1
 replace hx173_2 := zc HB hx173_2
 replace hx173_3 := zc HB hx173_3
 replace hx173_4 := zc HB hx173_4
 replace p173 := eq_true p173
 replace q173 := eq_true q173
 have ml : ∀ W : World, W.heap[gm]? = some (.map es ck) → (Instr.lookup 60 (.map (some gm)) (.agg #[.int .i8 ((rd_T43 l0_2 x28_2).f0.f0), .int .i8 ((rd_T43 l0_2 x28_2).f0.f1)]) false).run Try.prog W = .ok (.bool false) W := by
  intro W hW
  refine (run_mlook (V := 4) cellKey Try.underlying60 (zeroBool W) hW MER.out _ _ false).trans ?_
  simp only [Bool.false_eq_true, if_false]; rw [show mfind x900 ((rd_T43 l0_2 x28_2).f0.f0) ((rd_T43 l0_2 x28_2).f0.f1) = none by simpa using c21]; rfl
 have mp : ∀ W : World, W.heap[gm]? = some (.map es ck) → (Instr.mapUpdate 60 (.map (some gm)) (.agg #[.int .i8 ((rd_T43 l0_2 x28_2).f0.f0), .int .i8 ((rd_T43 l0_2 x28_2).f0.f1)]) (.bool true)).run Try.prog W = .ok () (ChangeMaps.setBlock W gm (.map (es.push ⟨ckey ((rd_T43 l0_2 x28_2).f0.f0) ((rd_T43 l0_2 x28_2).f0.f1), .bool true, ck⟩) (ck + 1))) := fun W hW => run_mput (V := 4) (vv := fun _ : Unit => Value.bool true) cellKey Try.underlying60 hW MER.out _ _ (by simpa using c21) ()
 go_wp2_with (first | ((with_reducible refine gate_dst (N := 5) rfl ?_); (try (refine gate_guard (by rfl) ?_; dsimp only)); refine zbx 5 #[.int .i8 0, .int .i8 0, .int .i8 0, .int .i8 0, .int .i8 0] 43 ?_; intro gb174 hg w20 hbox hb; have NM174 := Aside0.mk ((by rw [hg]; exact Nat.ne_of_lt (blk_lt (g := gm) (o := .map es ck) (zh MM).out)) : gm ≠ gb174); have m0_ := zk MM hb; clear MM; have MM := m0_; clear m0_; have n_ : _ ∧ _ ∧ _ ∧ _ ∧ _ ∧ _ ∧ _ := ⟨zk BK170 hb, zbs hb, Aside0.mk (hbox), zg HB hg, zg HB hg, zn1 BK170 hg, zn2 BK170 hg⟩; clear BK170 HB; obtain ⟨BK170, HB, BK174, GW174, GE174, NB170_174, NB174_170⟩ := n_; clear hb hbox hg; have hnb21 := NB174_170.out; have hnc21 := NB170_174.out; obtain ⟨z22_0, z22_1, z22_2, z22_3, z22_4, y22_0, y22_1, y22_2, y22_3, y22_4⟩ := zB5 BK174) | ((with_reducible refine gate_callee (f := 29) rfl ?_); refine goesL_ (some 33) rfl rfl Try.func29 (by kernel_rfl) rfl #[.agg #[.int .i8 ((rd_T43 l0_2 x28_2).f0.f0), .int .i8 ((rd_T43 l0_2 x28_2).f0.f1), .int .i8 ((rd_T43 l0_2 x28_2).f1), .int .i8 ((rd_T43 l0_2 x28_2).f2), .int .i8 ((rd_T43 l0_2 x28_2).f3)]] rfl zm ?_; (with_reducible refine (impl_ValidPiece.calls ((rd_T43 l0_2 x28_2).f0.f0) ((rd_T43 l0_2 x28_2).f0.f1) ((rd_T43 l0_2 x28_2).f1) ((rd_T43 l0_2 x28_2).f2) ((rd_T43 l0_2 x28_2).f3) true _ A16.out).mono ?_); rintro e w23 ⟨rfl, hb⟩; refine ⟨_, rfl, ?_⟩; have m0_ := Aside0.mk (blk_below (g := gm) (o := .map es ck) (by (repeat (first | (with_reducible refine blk_drewN ?_ _) | (with_reducible refine blk_drew ?_) | (with_reducible refine blk_alloc ?_ _) | (refine mblk_far ?_ NM174.out _))); exact MM.out) hb); clear MM; have MM := m0_; clear m0_; have n_ : _ ∧ _ ∧ _ := ⟨zfb BK170 NB170_174 hb, Aside0.mk (blk_below (g := gb174) (o := .cells #[.int .i8 ((rd_T43 l0_2 x28_2).f0.f0), .int .i8 ((rd_T43 l0_2 x28_2).f0.f1), .int .i8 ((rd_T43 l0_2 x28_2).f1), .int .i8 ((rd_T43 l0_2 x28_2).f2), .int .i8 ((rd_T43 l0_2 x28_2).f3)] 43 (0, 0)) (zp BK174) hb), zbs hb⟩; clear BK170 BK174 HB; obtain ⟨BK170, BK174, HB⟩ := n_; (try clear hb); (try clear hb2); (try clear hk); (try clear hi); obtain ⟨z24_0, z24_1, z24_2, z24_3, z24_4, y24_0, y24_1, y24_2, y24_3, y24_4⟩ := zB5 BK174) | (go_at_call 30; (with_reducible refine (impl_Board_has.calls _ [(⟨a0_0, a0_1, l0_2⟩ : S29)] ((rd_T43 l0_2 x28_2).f0.f0) ((rd_T43 l0_2 x28_2).f0.f1) true _ ?side1 A18.out).mono ?_); (case side1 => refine ro_of_blk (T := 29) (cs := #[.int .i8 a0_0, .int .i8 a0_1, .slice (some ad173) l0_2.length c0_2]) (zh BK170).out ?_; exact k29_mk _ (⟨a0_0, a0_1, l0_2⟩ : S29) (by exact HC0_2.out) (by exact zcc HB HR0_2.out)); rintro e w25 ⟨rfl, hb⟩; have m0_ := zk MM hb; clear MM; have MM := m0_; clear m0_; have n_ : _ ∧ _ ∧ _ := ⟨zk BK170 hb, zk BK174 hb, zbs hb⟩; clear BK170 BK174 HB; obtain ⟨BK170, BK174, HB⟩ := n_; (try clear hb); (try clear hb2); (try clear hk); (try clear hi); obtain ⟨z26_0, z26_1, z26_2, z26_3, z26_4, y26_0, y26_1, y26_2, y26_3, y26_4⟩ := zB5 BK174) | ((with_reducible refine gate_dst (N := 45) rfl ?_); (try (refine gate_guard (by rfl) ?_; dsimp only)); refine look_event rfl rfl rfl rfl (ml _ (zh MM).out) ?_) | (at_mapUpdate; refine put_event rfl rfl rfl rfl rfl (mp _ (zh MM).out) (zh MM).out ?_; intro w60 hm1 hm2 hm3; have n0_ := Aside0.mk ((hm2 gb170 GMB.out).trans (zh BK170).out); have n1_ := Aside0.mk (hm3 w zbo GEM.out); clear BK170; clear BK174; clear HB; clear MM; have BK170 := n0_; have HB := n1_; have MM := Aside0.mk hm1; clear n0_ n1_ hm1 hm2 hm3))
 go_roundg k2
 case measure => have := HJ1.out; have := HK2.out; omega
 case rel => exact ⟨(wrap64 (x28_2 + 1)), (x900 ++ [((((rd_T43 l0_2 x28_2).f0.f0), ((rd_T43 l0_2 x28_2).f0.f1)), ())]), _, _, zi, H', ⟨by have := HJ1.out; have := HK2.out; omega⟩, zh BK170, zh MM, ⟨ER_push MER.out _ _ _ _⟩, zba⟩
def impl_Board_with.f (l0 : List (S29)) (l1 : List (S43)) : Option (Int × Int) := if 0 < (l0.length : Int) then (some ((rd_T29 l0 0).f0, (rd_T29 l0 0).f1)) else (none)
def impl_Board_with.T1 : Bool × List (List Nat × List Nat) := (true, [([], []), ([0], [0]), ([1], [1]), ([2], [2]), ([], []), ([4], [4]), ([5], [5]), ([6], [6]), ([], []), ([3, 7, 8], [3, 7, 8]), ([9, 0, 1, 2, 3, 4, 5, 6, 7, 8, 9], [9])])
def impl_Board_with.B1 : List Nat := [0, 1, 3, 7, 0, 16, 48, 112, 0, 511, 1023]
theorem impl_Board_with.tab1 : rtab .any (opsOf Try.f16 1) = impl_Board_with.T1 := by kernel_rfl
theorem impl_Board_with.bits1 : waitsOk impl_Board_with.T1.2 impl_Board_with.B1 = true := by kernel_rfl
theorem impl_Board_with.calls (adp0 : Addr) (l0 : List (S29)) (A1 : Option Addr) (c1 : Nat) (l1 : List (S43)) (r1 : Int) (r2 : Int) (w : World) (hr0 : Kd.C k29 w (some adp0) l0.length l0) (hr1 : Kd.C k43 w A1 l1.length l1) (hc1 : l1.length ≤ c1) (h : impl_Board_with.f l0 l1 = some (r1, r2)) :
    Calls Try.prog 16 #[.pointer (some adp0), .slice A1 l1.length c1] w fun e w' => e = .returned (.agg #[.int .i8 r1, .int .i8 r2, .slice A1 l1.length c1]) ∧ Below w.heap.size w w' := by
 have hu29 := Try.underlying29
 have HR0 := Aside0.mk hr0
 clear hr0 hr1 hc1
 have HB := Aside0.mk (Below.refl w.heap.size w)
 unfold impl_Board_with.f at h
 by_cases c3 : 0 < (l0.length : Int)
 rotate_left
 ·rw [if_neg c3] at h
  exact absurd h (by simp)
 rw [if_pos c3] at h
 have c3b0 : decide (0 < (l0.length : Int)) = true := decide_eq_true c3
 have c3b1 : decide (0 < l0.length) = true := decide_eq_true (by omega)
 simp only [Option.some.injEq, Prod.mk.injEq] at h
 obtain ⟨rfl, rfl⟩ := h
 obtain ⟨ad9, A9, c9, e9, hx9_0, hx9_1, hx9_2, hl9, hi9⟩ := at_T29 HR0.out 0 (by omega) c3
 obtain rfl : adp0 = ad9 := (by injection e9)
 clear e9 hl9 hi9 c3
 try simp only [z00, Nat.zero_mul, Addr.add_zero'] at hx9_0 hx9_1 hx9_2
 go_enter Try.func16, Try.ntmps16
 go_wp2_with (first | ((with_reducible refine gate_dst (N := 4) rfl ?_); refine zbx 4 #[.int .i8 0, .int .i8 0, .slice none 0 0] 29 ?_; intro gb9 hg w4 hbox hb; have BK9 := Aside0.mk hbox; have GE9 := Aside0.mk ((by rw [hg]; exact Nat.le_refl _) : w.heap.size ≤ gb9); clear hbox hg HB; have HB := Aside0.mk hb; clear hb; replace hx9_0 := zc HB hx9_0; replace hx9_1 := zc HB hx9_1; clear hx9_2))
 have B7 : Aside0 (w4.drew.heap[gb9]? = some (.cells #[.int .i8 0, .int .i8 0, .slice none 0 0] 29 (0, 0))) := ⟨blk_drew BK9.out⟩
 have HB7 : Aside0 (Below w.heap.size w w4.drew) := ⟨below_drew1 HB.out⟩
 refine start_ (n := 11) (S := fun w' => w'.cell? adp0 = some (.int .i8 ((rd_T29 l0 0).f0)) ∧ w'.cell? ⟨adp0.block, adp0.off + 1, none⟩ = some (.int .i8 ((rd_T29 l0 0).f1))) (ds := [10]) (zq 11 0) (by kernel_rfl) rfl rfl ⟨hx9_0, hx9_1⟩ (fun hHeld => ?_); refine with_tabW impl_Board_with.tab1 impl_Board_with.bits1 (fun HT_ HW_ => ?_)
 clear BK9 HB hx9_0 hx9_1
 generalize w4.drew = w5 at B7 HB7 hHeld ⊢
 have BK9 := B7
 have HB := HB7
 clear B7 HB7
 refine zpu 0 (some 5) (zq 11 1) HT_ ?_
 refine zpu 1 (some 6) (zq 11 3) HT_ ?_
 refine zpu 2 (some 7) (zq 11 7) HT_ ?_
 refine zpu 4 (some 9) (zq 11 23) HT_ ?_
 refine zpu 5 (some 10) (zq 11 55) HT_ ?_
 refine zpu 6 (some 11) (zq 11 119) HT_ ?_
 refine zpu 8 (some 13) (zq 11 375) HT_ ?_
 refine ztk 3 (some 8) (zq 11 383) HT_ HW_ rfl hHeld (Or.inl ⟨by rfl, by (rintro w' ⟨s0, s1⟩; go_simp; with_reducible rfl)⟩) ?_
 refine ztk 7 (some 12) (zq 11 511) HT_ HW_ rfl hHeld (Or.inl ⟨by rfl, by (rintro w' ⟨s0, s1⟩; go_simp; with_reducible rfl)⟩) ?_
 refine zpu 9 (some 14) (zq 11 1023) HT_ ?_
 have hcz_0 : w5.cell? ⟨gb9, 0, none⟩ = some (.int .i8 0) := (blk_cell BK9.out 0).trans rfl
 have hfz_0 := blk_frozen BK9.out 0
 have hcz_1 : w5.cell? ⟨gb9, 1, none⟩ = some (.int .i8 0) := (blk_cell BK9.out 1).trans rfl
 have hfz_1 := blk_frozen BK9.out 1
 have hcz_2 : w5.cell? ⟨gb9, 2, none⟩ = some (.slice none 0 0) := (blk_cell BK9.out 2).trans rfl
 have hfz_2 := blk_frozen BK9.out 2
 refine last_ (i := 10) (N := none) (zq 11 2047) rfl rfl (one_of HT_.out (by kernel_rfl)) (by decide) (fun K hK => ?_)
 refine skip_ (w1 := ?_) (by rfl) rfl ?_ ?_
 rotate_left
 ·go_simp
  rfl
 refine hK.out _ _ ?_
 clear hK K
 refine done_ (done_of HT_.out (by kernel_rfl)) ?_
 clear hHeld HT_ HW_
 try go_wp2_with (first | fail)
 refine bodyPost_ret (results_cell_row rfl _ _ gb9 29 #[.int .i8 ((rd_T29 l0 0).f0), .int .i8 ((rd_T29 l0 0).f1), .slice A1 l1.length c1] (0, 0) _ rfl (zp BK9) Try.underlying29 rfl (by kernel_rfl)) rfl ?_
 exact ⟨rfl, zbo⟩
def impl_Piece_17.f (l0 : List (S43)) : Option ((List (S43))) := (some (([] : List (S43)) : List (S43))).bind fun y222 => (if y222.length + l0.length < 28147497671065 then (some (y222 ++ l0)) else (none))
theorem impl_Piece_17.calls (A0 : Option Addr) (c0 : Nat) (l0 : List (S43)) (r : List (S43)) (w : World) (hr0 : Kd.C k43 w A0 l0.length l0) (hc0 : l0.length ≤ c0) (h : impl_Piece_17.f l0 = some r) :
    Calls Try.prog 17 #[.slice A0 l0.length c0] w fun e w' => ∃ v0_ : Value, e = .returned (v0_) ∧ Kd.R k43 43 w' w.heap.size (fun _ => True) v0_ r ∧ Below w.heap.size w w' := by
 rcases A0 with _ | ad0
 ·have hl : l0 = [] := List.eq_nil_iff_length_eq_zero.2 (by rcases Nat.eq_zero_or_pos l0.length with h0 | h0; exact h0; obtain ⟨ad, e, _⟩ := hr0.2.2 h0; cases e)
  subst hl
  obtain rfl : r = [] := by simpa [impl_Piece_17.f] using h.symm
  have hn_ := fun W : World => Lib.run_eql_slice_nil W 27 _ none 0 c0 0 0 Try.underlying27
  go_enter Try.func17, Try.ntmps17
  go_wp2
  go_ret
  exact ⟨_, rfl, Kd.R_nil _ _ _ _ _, Below.refl _ _⟩
 have hn_ := fun W : World => Lib.run_eql_slice_nil W 27 _ (some ad0) l0.length c0 0 0 Try.underlying27
 have HR0 := Aside0.mk hr0
 have HC0 := Aside0.mk hc0
 clear hr0 hc0
 have HB := Aside0.mk (Below.refl w.heap.size w)
 have H : ((some (([] : List (S43)) : List (S43))).bind fun y222 => (if y222.length + l0.length < 28147497671065 then (some (y222 ++ l0)) else (none))) = some r := h
 clear h
 obtain ⟨y222, hy222⟩ : ∃ y_ : List (S43), y_ = (([] : List (S43))) := ⟨_, rfl⟩
 replace H : (if y222.length + l0.length < 28147497671065 then (some (y222 ++ l0)) else (none)) = some r := by first | (rw [hy222]; with_reducible exact H) | (have H2_ := (Option.bind_some _ _).symm.trans H; rw [hy222]; with_reducible exact H2_) | (have H2_ := (Option.bind_some _ _).symm.trans H; with_reducible exact H2_) | with_reducible exact H | (rw [hy222]; exact H) | exact H
 have Ny222 := Aside0.mk hy222
 clear hy222
 by_cases c2 : y222.length + l0.length < 28147497671065
 rotate_left
 ·rw [if_neg c2] at H
  exact absurd H (by simp)
 rw [if_pos c2] at H
 have LMc2 := Aside0.mk c2
 clear c2
 obtain ⟨y225, hy225⟩ : ∃ y_ : List (S43), y_ = (y222 ++ l0) := ⟨_, rfl⟩
 replace H : (some y225) = some r := by first | (rw [hy225]; with_reducible exact H) | (have H2_ := (Option.bind_some _ _).symm.trans H; rw [hy225]; with_reducible exact H2_) | (have H2_ := (Option.bind_some _ _).symm.trans H; with_reducible exact H2_) | with_reducible exact H | (rw [hy225]; exact H) | exact H
 have Ny225 := Aside0.mk hy225
 clear hy225
 obtain rfl := Option.some.inj H
 go_enter Try.func17, Try.ntmps17
 go_wp2_with (first | ((with_reducible refine gate_dst (N := 5) rfl ?_); refine Kd.R_lit k43 _ 43 ?hg (N := 5) ?hd (xs := ([] : List (S43))) (inner := []) (ok := fun _ => True) (okp := fun _ => True) ?hr ?hp (fun _ hk => hk) trivial (Below.refl _ _) (Nat.le_refl _) (by simp) ?_; (case hd => rfl); (case hg => rfl); (case hr => exact zgs); (case hp => exact (Reps.none _ _)); intro v223 w3 ho4 hb hg_ hnew_; clear hg_ hnew_; (first | rw [← Ny222.out] at ho4 | (simp only [Int.reduceToNat] at ho4; rw [← Ny222.out] at ho4)); have n_ : _ ∧ _ := ⟨Aside0.mk (Kd.R_lower ho4 (zz HB)), zb HB hb⟩; clear HB; obtain ⟨HO224, HB⟩ := n_; clear hb ho4) | ((with_reducible refine gate_builtin (b := .append) (xs := #[.tmp 5, .tmp 6]) rfl ?_); at_builtin; refine Kd.R_append_rows k43 (w0 := w) w.heap.size rfl (.tmp 5) (.tmp 6) 27 43 (.agg #[(.int .i8 0), (.int .i8 0), (.int .i8 0), (.int .i8 0), (.int .i8 0)]) 5 rfl Try.underlying27 info43 rfl (by decide) (by omega) v223 y222 l0 _ _ _ (fun _ => True) (fun _ => False) rfl rfl ?aO ?aR (fun _ _ h => h) (fun _ h => h.elim) ?aF ?aB ?aS ?aL ?_; (case aR => exact zcc HB HR0.out); (case aB => exact (zl HB).out); (case aF => exact (fun _ _ => trivial)); (case aO => exact (ze HO224).out); (case aS => exact (zz HB)); (case aL => have := LMc2.out; omega); intro v226 w5 ho hb hg hat; rw [← Ny225.out] at ho; have n_ : _ ∧ _ := ⟨Aside0.mk (hb), Aside0.mk (ho)⟩; clear HB HO224; obtain ⟨HB, HO227⟩ := n_; clear ho hb hg hat))
 go_ret
 exact ⟨_, zv, by (with_reducible repeat (first | apply Kd.R_alloc | apply Kd.R_drewN | apply Kd.R_drew)); exact HO227.out, zbo⟩
-- NOT PRINTED: function 38 (impl_Piece_38)

-- NOT PRINTED: function 50 (impl_Piece_50)

-- NOT PRINTED: function 39 (impl_Piece_39)

-- NOT PRINTED: function 46 (bits_Len32)

-- NOT PRINTED: function 47 (bits_Len64)

-- NOT PRINTED: function 32 (bits_Len)

-- NOT PRINTED: function 51 (slices_nextPowerOfTwo)

-- NOT PRINTED: function 52 (slices_xorshift_Next)

-- NOT PRINTED: function 40 (impl_Piece_40)

-- NOT PRINTED: function 55 (impl_Piece_55)

-- NOT PRINTED: function 54 (impl_Piece_54)

-- NOT PRINTED: function 53 (impl_Piece_53)

-- NOT PRINTED: function 41 (impl_Piece_41)

-- NOT PRINTED: function 42 (impl_Piece_42)

-- NOT PRINTED: function 43 (impl_Piece_43)

-- NOT PRINTED: function 44 (impl_Piece_44)

-- NOT PRINTED: function 45 (impl_Piece_45)

-- NOT PRINTED: function 31 (impl_Piece_31)

-- NOT PRINTED: function 18 (impl_Piece_18)

-- NOT PRINTED: function 33 (cmp_Or_int)

-- NOT PRINTED: function 48 (cmp_isNaN_int8)

-- NOT PRINTED: function 34 (cmp_Compare_int8)

-- NOT PRINTED: function 20 (impl_cellOrder)

-- NOT PRINTED: function 19 (impl_SortBoard_1)

-- NOT PRINTED: function 76 (slices_insertionSortCmpFunc__impl_SortBoard_1)

-- NOT PRINTED: function 78 (slices_siftDownCmpFunc__impl_SortBoard_1)

-- NOT PRINTED: function 77 (slices_heapSortCmpFunc__impl_SortBoard_1)

-- NOT PRINTED: function 79 (slices_breakPatternsCmpFunc__impl_SortBoard_1)

-- NOT PRINTED: function 83 (slices_order2CmpFunc__impl_SortBoard_1)

-- NOT PRINTED: function 82 (slices_medianCmpFunc__impl_SortBoard_1)

-- NOT PRINTED: function 81 (slices_medianAdjacentCmpFunc__impl_SortBoard_1)

-- NOT PRINTED: function 80 (slices_choosePivotCmpFunc__impl_SortBoard_1)

-- NOT PRINTED: function 84 (slices_reverseRangeCmpFunc__impl_SortBoard_1)

-- NOT PRINTED: function 85 (slices_partialInsertionSortCmpFunc__impl_SortBoard_1)

-- NOT PRINTED: function 86 (slices_partitionEqualCmpFunc__impl_SortBoard_1)

-- NOT PRINTED: function 87 (slices_partitionCmpFunc__impl_SortBoard_1)

-- NOT PRINTED: function 75 (slices_pdqsortCmpFunc__impl_SortBoard_1)

end Go.Proofs.Ytljjmgokebmldaa.PFnExactSortBoard
