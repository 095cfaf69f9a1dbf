-- WRITTEN by xprint.py, a program of this session's. Not trusted: Lean checks it.
import Derived.Test.YtffnfpnajkgnaaaPFnExactValidPushesx0
import Derived.Test.YtffnfpnajkgnaaaPFnExactValidPushesx4
namespace Go.Proofs.Ytffnfpnajkgnaaa.PFnExactValidPushes
open Go.RowKit Go.Proofs.YtffnfpnajkgnaaaW.PrintWords Go.Proofs.YtffnfpnajkgnaaaW.PrintLast Go.Proofs.YtffnfpnajkgnaaaW.PrintMore Go.Proofs.YtffnfpnajkgnaaaX
attribute [local go_sem] max2_int min2_int max_two min_two max_three min_three max_four min_four   -- for this text's walks alone
set_option linter.unusedVariables false
set_option linter.unusedSimpArgs false

/-! ### spec_l01Piece: function 132 -/
def spec_l01Piece.f (l0 : List (S91)) : Option (Bool) := if 0 < (l0.length : Int) then ((spec_l00In.f (wrap64 ((rd_T91 l0 0).f1)) 0 5).bind fun t166 => (if t166 = true then ((spec_l00In.f (wrap64 ((rd_T91 l0 0).f2)) 0 3).bind fun t168 => (if t168 = true then ((spec_l00In.f (wrap64 ((rd_T91 l0 0).f3)) 1 9).bind fun t170 => (if t170 = true then ((spec_l01In.f ((rd_T91 l0 0).f0.f0) ((rd_T91 l0 0).f0.f1) 24 24).bind fun t172 => (some t172)) else (some false))) else (some false))) else (some false))) else (none)
set_option maxHeartbeats 8000000 in
set_option maxRecDepth 100000 in
theorem spec_l01Piece.calls (adp0 : Addr) (l0 : List (S91)) (r : Bool) (w : World) (hr0 : Kd.C k91 w (some adp0) l0.length l0) (h : spec_l01Piece.f l0 = some r) :
    Calls Try.prog 132 #[.pointer (some adp0)] w fun e w' => e = .returned (.bool r) ∧ Below w.heap.size w w' := by
  have hu74 := Try.underlying74
  have HR0 := Aside0.mk hr0
  clear hr0
  have HB := Aside0.mk (Below.refl w.heap.size w)
  have H : (if 0 < (l0.length : Int) then ((spec_l00In.f (wrap64 ((rd_T91 l0 0).f1)) 0 5).bind fun t166 => (if t166 = true then ((spec_l00In.f (wrap64 ((rd_T91 l0 0).f2)) 0 3).bind fun t168 => (if t168 = true then ((spec_l00In.f (wrap64 ((rd_T91 l0 0).f3)) 1 9).bind fun t170 => (if t170 = true then ((spec_l01In.f ((rd_T91 l0 0).f0.f0) ((rd_T91 l0 0).f0.f1) 24 24).bind fun t172 => (some t172)) else (some false))) else (some false))) else (some false))) else (none)) = some r := h
  clear h
  by_cases c2 : 0 < (l0.length : Int)
  · rw [if_pos c2] at H
    have c2b0 : decide (0 < (l0.length : Int)) = true := decide_eq_true c2
    have c2b1 : decide (0 < l0.length) = true := decide_eq_true (by omega)
    clear c2
    replace H := Option.bind_eq_some_iff.mp H
    obtain ⟨t166, A30, H⟩ := H
    replace H : (if t166 = true then ((spec_l00In.f (wrap64 ((rd_T91 l0 0).f2)) 0 3).bind fun t168 => (if t168 = true then ((spec_l00In.f (wrap64 ((rd_T91 l0 0).f3)) 1 9).bind fun t170 => (if t170 = true then ((spec_l01In.f ((rd_T91 l0 0).f0.f0) ((rd_T91 l0 0).f0.f1) 24 24).bind fun t172 => (some t172)) else (some false))) else (some false))) else (some false)) = some r := H
    have A3 := Aside0.mk A30
    clear A30
    by_cases c4 : t166 = true
    · subst c4
      have H1 : ((spec_l00In.f (wrap64 ((rd_T91 l0 0).f2)) 0 3).bind fun t168 => (if t168 = true then ((spec_l00In.f (wrap64 ((rd_T91 l0 0).f3)) 1 9).bind fun t170 => (if t170 = true then ((spec_l01In.f ((rd_T91 l0 0).f0.f0) ((rd_T91 l0 0).f0.f1) 24 24).bind fun t172 => (some t172)) else (some false))) else (some false))) = some r := by rw [if_pos rfl] at H; exact H
      clear H
      have H := H1
      clear H1
      replace H := Option.bind_eq_some_iff.mp H
      obtain ⟨t168, A50, H⟩ := H
      replace H : (if t168 = true then ((spec_l00In.f (wrap64 ((rd_T91 l0 0).f3)) 1 9).bind fun t170 => (if t170 = true then ((spec_l01In.f ((rd_T91 l0 0).f0.f0) ((rd_T91 l0 0).f0.f1) 24 24).bind fun t172 => (some t172)) else (some false))) else (some false)) = some r := H
      have A5 := Aside0.mk A50
      clear A50
      by_cases c6 : t168 = true
      · subst c6
        have H1 : ((spec_l00In.f (wrap64 ((rd_T91 l0 0).f3)) 1 9).bind fun t170 => (if t170 = true then ((spec_l01In.f ((rd_T91 l0 0).f0.f0) ((rd_T91 l0 0).f0.f1) 24 24).bind fun t172 => (some t172)) else (some false))) = some r := by rw [if_pos rfl] at H; exact H
        clear H
        have H := H1
        clear H1
        replace H := Option.bind_eq_some_iff.mp H
        obtain ⟨t170, A70, H⟩ := H
        replace H : (if t170 = true then ((spec_l01In.f ((rd_T91 l0 0).f0.f0) ((rd_T91 l0 0).f0.f1) 24 24).bind fun t172 => (some t172)) else (some false)) = some r := H
        have A7 := Aside0.mk A70
        clear A70
        by_cases c8 : t170 = true
        · subst c8
          have H1 : ((spec_l01In.f ((rd_T91 l0 0).f0.f0) ((rd_T91 l0 0).f0.f1) 24 24).bind fun t172 => (some t172)) = some r := by rw [if_pos rfl] at H; exact H
          clear H
          have H := H1
          clear H1
          replace H := Option.bind_eq_some_iff.mp H
          obtain ⟨t172, A90, H⟩ := H
          replace H : (some t172) = some r := H
          have A9 := Aside0.mk A90
          clear A90
          obtain rfl := Option.some.inj H
          have p165 : 0 ≤ (0 : Int) := (by omega)
          have q165 : 0 < (l0.length : Int) := of_decide_eq_true (by first | (with_reducible assumption) | assumption)
          obtain ⟨ad165, e165, hx165_0, hx165_1, hx165_2, hx165_3, hx165_4⟩ := at_T91 HR0.out 0 p165 q165
          obtain rfl : adp0 = ad165 := (by injection e165)
          have qi165 : (0 < l0.length) = True := eq_true (by omega)
          (try rw [show ((0 : Int)).toNat = 0 from rfl] at hx165_0)
          (try rw [show 0 * 5 = 0 from rfl] at hx165_0)
          (try rw [Addr.add_zero'] at hx165_0)
          (try rw [show ((0 : Int)).toNat = 0 from rfl] at hx165_1)
          (try rw [show 0 * 5 = 0 from rfl] at hx165_1)
          (try rw [Addr.add_zero'] at hx165_1)
          (try rw [show ((0 : Int)).toNat = 0 from rfl] at hx165_2)
          (try rw [show 0 * 5 = 0 from rfl] at hx165_2)
          (try rw [Addr.add_zero'] at hx165_2)
          (try rw [show ((0 : Int)).toNat = 0 from rfl] at hx165_3)
          (try rw [show 0 * 5 = 0 from rfl] at hx165_3)
          (try rw [Addr.add_zero'] at hx165_3)
          (try rw [show ((0 : Int)).toNat = 0 from rfl] at hx165_4)
          (try rw [show 0 * 5 = 0 from rfl] at hx165_4)
          (try rw [Addr.add_zero'] at hx165_4)
          replace p165 := eq_true p165
          replace q165 := eq_true q165
          go_enter Try.func132, Try.ntmps132
          go_wp2_with (first | ((with_reducible refine gate_callee (f := 96) rfl ?_); refine goesL_ (some 8) rfl rfl Try.func96 (by kernel_rfl) rfl #[.int .i64 (wrap64 ((rd_T91 l0 0).f1)), .int .i64 0, .int .i64 5] rfl (by (try simp only [List.map_toArray, List.map_cons, List.map_nil]); first | done | rfl | (simp only [List.length_drop, List.length_take]; rfl)) ?_; (with_reducible refine (spec_l00In.calls (wrap64 ((rd_T91 l0 0).f1)) 0 5 true _ A3.out).mono ?_); rintro e w' ⟨rfl, ⟨nd, rfl⟩⟩; refine ⟨_, rfl, ?_⟩; have p167 : 0 ≤ (0 : Int) := (by omega); have q167 : 0 < (l0.length : Int) := of_decide_eq_true (by first | (with_reducible assumption) | assumption); obtain ⟨ad167, e167, hx167_0, hx167_1, hx167_2, hx167_3, hx167_4⟩ := at_T91 HR0.out 0 p167 q167; obtain rfl : adp0 = ad167 := (by injection e167); have qi167 : (0 < l0.length) = True := eq_true (by omega); (try rw [show ((0 : Int)).toNat = 0 from rfl] at hx167_0); (try rw [show 0 * 5 = 0 from rfl] at hx167_0); (try rw [Addr.add_zero'] at hx167_0); (try rw [show ((0 : Int)).toNat = 0 from rfl] at hx167_1); (try rw [show 0 * 5 = 0 from rfl] at hx167_1); (try rw [Addr.add_zero'] at hx167_1); (try rw [show ((0 : Int)).toNat = 0 from rfl] at hx167_2); (try rw [show 0 * 5 = 0 from rfl] at hx167_2); (try rw [Addr.add_zero'] at hx167_2); (try rw [show ((0 : Int)).toNat = 0 from rfl] at hx167_3); (try rw [show 0 * 5 = 0 from rfl] at hx167_3); (try rw [Addr.add_zero'] at hx167_3); (try rw [show ((0 : Int)).toNat = 0 from rfl] at hx167_4); (try rw [show 0 * 5 = 0 from rfl] at hx167_4); (try rw [Addr.add_zero'] at hx167_4); replace p167 := eq_true p167; replace q167 := eq_true q167) | (go_at_call 96; (with_reducible refine (spec_l00In.calls (wrap64 ((rd_T91 l0 0).f2)) 0 3 true _ A5.out).mono ?_); rintro e w' ⟨rfl, ⟨nd, rfl⟩⟩; have p169 : 0 ≤ (0 : Int) := (by omega); have q169 : 0 < (l0.length : Int) := of_decide_eq_true (by first | (with_reducible assumption) | assumption); obtain ⟨ad169, e169, hx169_0, hx169_1, hx169_2, hx169_3, hx169_4⟩ := at_T91 HR0.out 0 p169 q169; obtain rfl : adp0 = ad169 := (by injection e169); have qi169 : (0 < l0.length) = True := eq_true (by omega); (try rw [show ((0 : Int)).toNat = 0 from rfl] at hx169_0); (try rw [show 0 * 5 = 0 from rfl] at hx169_0); (try rw [Addr.add_zero'] at hx169_0); (try rw [show ((0 : Int)).toNat = 0 from rfl] at hx169_1); (try rw [show 0 * 5 = 0 from rfl] at hx169_1); (try rw [Addr.add_zero'] at hx169_1); (try rw [show ((0 : Int)).toNat = 0 from rfl] at hx169_2); (try rw [show 0 * 5 = 0 from rfl] at hx169_2); (try rw [Addr.add_zero'] at hx169_2); (try rw [show ((0 : Int)).toNat = 0 from rfl] at hx169_3); (try rw [show 0 * 5 = 0 from rfl] at hx169_3); (try rw [Addr.add_zero'] at hx169_3); (try rw [show ((0 : Int)).toNat = 0 from rfl] at hx169_4); (try rw [show 0 * 5 = 0 from rfl] at hx169_4); (try rw [Addr.add_zero'] at hx169_4); replace p169 := eq_true p169; replace q169 := eq_true q169) | (go_at_call 96; (with_reducible refine (spec_l00In.calls (wrap64 ((rd_T91 l0 0).f3)) 1 9 true _ A7.out).mono ?_); rintro e w' ⟨rfl, ⟨nd, rfl⟩⟩; have p171 : 0 ≤ (0 : Int) := (by omega); have q171 : 0 < (l0.length : Int) := of_decide_eq_true (by first | (with_reducible assumption) | assumption); obtain ⟨ad171, e171, hx171_0, hx171_1, hx171_2, hx171_3, hx171_4⟩ := at_T91 HR0.out 0 p171 q171; obtain rfl : adp0 = ad171 := (by injection e171); have qi171 : (0 < l0.length) = True := eq_true (by omega); (try rw [show ((0 : Int)).toNat = 0 from rfl] at hx171_0); (try rw [show 0 * 5 = 0 from rfl] at hx171_0); (try rw [Addr.add_zero'] at hx171_0); (try rw [show ((0 : Int)).toNat = 0 from rfl] at hx171_1); (try rw [show 0 * 5 = 0 from rfl] at hx171_1); (try rw [Addr.add_zero'] at hx171_1); (try rw [show ((0 : Int)).toNat = 0 from rfl] at hx171_2); (try rw [show 0 * 5 = 0 from rfl] at hx171_2); (try rw [Addr.add_zero'] at hx171_2); (try rw [show ((0 : Int)).toNat = 0 from rfl] at hx171_3); (try rw [show 0 * 5 = 0 from rfl] at hx171_3); (try rw [Addr.add_zero'] at hx171_3); (try rw [show ((0 : Int)).toNat = 0 from rfl] at hx171_4); (try rw [show 0 * 5 = 0 from rfl] at hx171_4); (try rw [Addr.add_zero'] at hx171_4); replace p171 := eq_true p171; replace q171 := eq_true q171) | (go_at_call 133; (with_reducible refine (spec_l01In.calls ((rd_T91 l0 0).f0.f0) ((rd_T91 l0 0).f0.f1) 24 24 t172 _ A9.out).mono ?_); rintro e w10 ⟨rfl, hb⟩; have n0_ := Aside0.mk (below_step (by repeat (first | (with_reducible first | exact HB.out | apply below_alloc | apply pw_below_drewN | apply below_drew1) | exact HB.out)) hb); clear HB; have HB := n0_; clear n0_; (try clear hb); (try clear hb2); (try clear hk); (try clear hi)))
          go_ret
          exact ⟨by first | rfl | (simp [errW_none, errW_some] <;> rfl) | (simp [*, errW_none, errW_some] <;> rfl), by repeat (first | (with_reducible first | exact HB.out | apply below_alloc | apply pw_below_drewN | apply below_drew1) | exact HB.out)⟩
        · replace c8 := Bool.eq_false_iff.mpr c8
          subst c8
          have H1 : (some false) = some r := by rw [if_neg (show ¬ (false = true) by decide)] at H; exact H
          clear H
          have H := H1
          clear H1
          obtain rfl := Option.some.inj H
          have p165 : 0 ≤ (0 : Int) := (by omega)
          have q165 : 0 < (l0.length : Int) := of_decide_eq_true (by first | (with_reducible assumption) | assumption)
          obtain ⟨ad165, e165, hx165_0, hx165_1, hx165_2, hx165_3, hx165_4⟩ := at_T91 HR0.out 0 p165 q165
          obtain rfl : adp0 = ad165 := (by injection e165)
          have qi165 : (0 < l0.length) = True := eq_true (by omega)
          (try rw [show ((0 : Int)).toNat = 0 from rfl] at hx165_0)
          (try rw [show 0 * 5 = 0 from rfl] at hx165_0)
          (try rw [Addr.add_zero'] at hx165_0)
          (try rw [show ((0 : Int)).toNat = 0 from rfl] at hx165_1)
          (try rw [show 0 * 5 = 0 from rfl] at hx165_1)
          (try rw [Addr.add_zero'] at hx165_1)
          (try rw [show ((0 : Int)).toNat = 0 from rfl] at hx165_2)
          (try rw [show 0 * 5 = 0 from rfl] at hx165_2)
          (try rw [Addr.add_zero'] at hx165_2)
          (try rw [show ((0 : Int)).toNat = 0 from rfl] at hx165_3)
          (try rw [show 0 * 5 = 0 from rfl] at hx165_3)
          (try rw [Addr.add_zero'] at hx165_3)
          (try rw [show ((0 : Int)).toNat = 0 from rfl] at hx165_4)
          (try rw [show 0 * 5 = 0 from rfl] at hx165_4)
          (try rw [Addr.add_zero'] at hx165_4)
          replace p165 := eq_true p165
          replace q165 := eq_true q165
          go_enter Try.func132, Try.ntmps132
          go_wp2_with (first | ((with_reducible refine gate_callee (f := 96) rfl ?_); refine goesL_ (some 8) rfl rfl Try.func96 (by kernel_rfl) rfl #[.int .i64 (wrap64 ((rd_T91 l0 0).f1)), .int .i64 0, .int .i64 5] rfl (by (try simp only [List.map_toArray, List.map_cons, List.map_nil]); first | done | rfl | (simp only [List.length_drop, List.length_take]; rfl)) ?_; (with_reducible refine (spec_l00In.calls (wrap64 ((rd_T91 l0 0).f1)) 0 5 true _ A3.out).mono ?_); rintro e w' ⟨rfl, ⟨nd, rfl⟩⟩; refine ⟨_, rfl, ?_⟩; have p167 : 0 ≤ (0 : Int) := (by omega); have q167 : 0 < (l0.length : Int) := of_decide_eq_true (by first | (with_reducible assumption) | assumption); obtain ⟨ad167, e167, hx167_0, hx167_1, hx167_2, hx167_3, hx167_4⟩ := at_T91 HR0.out 0 p167 q167; obtain rfl : adp0 = ad167 := (by injection e167); have qi167 : (0 < l0.length) = True := eq_true (by omega); (try rw [show ((0 : Int)).toNat = 0 from rfl] at hx167_0); (try rw [show 0 * 5 = 0 from rfl] at hx167_0); (try rw [Addr.add_zero'] at hx167_0); (try rw [show ((0 : Int)).toNat = 0 from rfl] at hx167_1); (try rw [show 0 * 5 = 0 from rfl] at hx167_1); (try rw [Addr.add_zero'] at hx167_1); (try rw [show ((0 : Int)).toNat = 0 from rfl] at hx167_2); (try rw [show 0 * 5 = 0 from rfl] at hx167_2); (try rw [Addr.add_zero'] at hx167_2); (try rw [show ((0 : Int)).toNat = 0 from rfl] at hx167_3); (try rw [show 0 * 5 = 0 from rfl] at hx167_3); (try rw [Addr.add_zero'] at hx167_3); (try rw [show ((0 : Int)).toNat = 0 from rfl] at hx167_4); (try rw [show 0 * 5 = 0 from rfl] at hx167_4); (try rw [Addr.add_zero'] at hx167_4); replace p167 := eq_true p167; replace q167 := eq_true q167) | (go_at_call 96; (with_reducible refine (spec_l00In.calls (wrap64 ((rd_T91 l0 0).f2)) 0 3 true _ A5.out).mono ?_); rintro e w' ⟨rfl, ⟨nd, rfl⟩⟩; have p169 : 0 ≤ (0 : Int) := (by omega); have q169 : 0 < (l0.length : Int) := of_decide_eq_true (by first | (with_reducible assumption) | assumption); obtain ⟨ad169, e169, hx169_0, hx169_1, hx169_2, hx169_3, hx169_4⟩ := at_T91 HR0.out 0 p169 q169; obtain rfl : adp0 = ad169 := (by injection e169); have qi169 : (0 < l0.length) = True := eq_true (by omega); (try rw [show ((0 : Int)).toNat = 0 from rfl] at hx169_0); (try rw [show 0 * 5 = 0 from rfl] at hx169_0); (try rw [Addr.add_zero'] at hx169_0); (try rw [show ((0 : Int)).toNat = 0 from rfl] at hx169_1); (try rw [show 0 * 5 = 0 from rfl] at hx169_1); (try rw [Addr.add_zero'] at hx169_1); (try rw [show ((0 : Int)).toNat = 0 from rfl] at hx169_2); (try rw [show 0 * 5 = 0 from rfl] at hx169_2); (try rw [Addr.add_zero'] at hx169_2); (try rw [show ((0 : Int)).toNat = 0 from rfl] at hx169_3); (try rw [show 0 * 5 = 0 from rfl] at hx169_3); (try rw [Addr.add_zero'] at hx169_3); (try rw [show ((0 : Int)).toNat = 0 from rfl] at hx169_4); (try rw [show 0 * 5 = 0 from rfl] at hx169_4); (try rw [Addr.add_zero'] at hx169_4); replace p169 := eq_true p169; replace q169 := eq_true q169) | (go_at_call 96; (with_reducible refine (spec_l00In.calls (wrap64 ((rd_T91 l0 0).f3)) 1 9 false _ A7.out).mono ?_); rintro e w' ⟨rfl, ⟨nd, rfl⟩⟩))
          go_ret
          exact ⟨by first | rfl | (simp [errW_none, errW_some] <;> rfl) | (simp [*, errW_none, errW_some] <;> rfl), by repeat (first | (with_reducible first | exact HB.out | apply below_alloc | apply pw_below_drewN | apply below_drew1) | exact HB.out)⟩
      · replace c6 := Bool.eq_false_iff.mpr c6
        subst c6
        have H1 : (some false) = some r := by rw [if_neg (show ¬ (false = true) by decide)] at H; exact H
        clear H
        have H := H1
        clear H1
        obtain rfl := Option.some.inj H
        have p165 : 0 ≤ (0 : Int) := (by omega)
        have q165 : 0 < (l0.length : Int) := of_decide_eq_true (by first | (with_reducible assumption) | assumption)
        obtain ⟨ad165, e165, hx165_0, hx165_1, hx165_2, hx165_3, hx165_4⟩ := at_T91 HR0.out 0 p165 q165
        obtain rfl : adp0 = ad165 := (by injection e165)
        have qi165 : (0 < l0.length) = True := eq_true (by omega)
        (try rw [show ((0 : Int)).toNat = 0 from rfl] at hx165_0)
        (try rw [show 0 * 5 = 0 from rfl] at hx165_0)
        (try rw [Addr.add_zero'] at hx165_0)
        (try rw [show ((0 : Int)).toNat = 0 from rfl] at hx165_1)
        (try rw [show 0 * 5 = 0 from rfl] at hx165_1)
        (try rw [Addr.add_zero'] at hx165_1)
        (try rw [show ((0 : Int)).toNat = 0 from rfl] at hx165_2)
        (try rw [show 0 * 5 = 0 from rfl] at hx165_2)
        (try rw [Addr.add_zero'] at hx165_2)
        (try rw [show ((0 : Int)).toNat = 0 from rfl] at hx165_3)
        (try rw [show 0 * 5 = 0 from rfl] at hx165_3)
        (try rw [Addr.add_zero'] at hx165_3)
        (try rw [show ((0 : Int)).toNat = 0 from rfl] at hx165_4)
        (try rw [show 0 * 5 = 0 from rfl] at hx165_4)
        (try rw [Addr.add_zero'] at hx165_4)
        replace p165 := eq_true p165
        replace q165 := eq_true q165
        go_enter Try.func132, Try.ntmps132
        go_wp2_with (first | ((with_reducible refine gate_callee (f := 96) rfl ?_); refine goesL_ (some 8) rfl rfl Try.func96 (by kernel_rfl) rfl #[.int .i64 (wrap64 ((rd_T91 l0 0).f1)), .int .i64 0, .int .i64 5] rfl (by (try simp only [List.map_toArray, List.map_cons, List.map_nil]); first | done | rfl | (simp only [List.length_drop, List.length_take]; rfl)) ?_; (with_reducible refine (spec_l00In.calls (wrap64 ((rd_T91 l0 0).f1)) 0 5 true _ A3.out).mono ?_); rintro e w' ⟨rfl, ⟨nd, rfl⟩⟩; refine ⟨_, rfl, ?_⟩; have p167 : 0 ≤ (0 : Int) := (by omega); have q167 : 0 < (l0.length : Int) := of_decide_eq_true (by first | (with_reducible assumption) | assumption); obtain ⟨ad167, e167, hx167_0, hx167_1, hx167_2, hx167_3, hx167_4⟩ := at_T91 HR0.out 0 p167 q167; obtain rfl : adp0 = ad167 := (by injection e167); have qi167 : (0 < l0.length) = True := eq_true (by omega); (try rw [show ((0 : Int)).toNat = 0 from rfl] at hx167_0); (try rw [show 0 * 5 = 0 from rfl] at hx167_0); (try rw [Addr.add_zero'] at hx167_0); (try rw [show ((0 : Int)).toNat = 0 from rfl] at hx167_1); (try rw [show 0 * 5 = 0 from rfl] at hx167_1); (try rw [Addr.add_zero'] at hx167_1); (try rw [show ((0 : Int)).toNat = 0 from rfl] at hx167_2); (try rw [show 0 * 5 = 0 from rfl] at hx167_2); (try rw [Addr.add_zero'] at hx167_2); (try rw [show ((0 : Int)).toNat = 0 from rfl] at hx167_3); (try rw [show 0 * 5 = 0 from rfl] at hx167_3); (try rw [Addr.add_zero'] at hx167_3); (try rw [show ((0 : Int)).toNat = 0 from rfl] at hx167_4); (try rw [show 0 * 5 = 0 from rfl] at hx167_4); (try rw [Addr.add_zero'] at hx167_4); replace p167 := eq_true p167; replace q167 := eq_true q167) | (go_at_call 96; (with_reducible refine (spec_l00In.calls (wrap64 ((rd_T91 l0 0).f2)) 0 3 false _ A5.out).mono ?_); rintro e w' ⟨rfl, ⟨nd, rfl⟩⟩))
        go_ret
        exact ⟨by first | rfl | (simp [errW_none, errW_some] <;> rfl) | (simp [*, errW_none, errW_some] <;> rfl), by repeat (first | (with_reducible first | exact HB.out | apply below_alloc | apply pw_below_drewN | apply below_drew1) | exact HB.out)⟩
    · replace c4 := Bool.eq_false_iff.mpr c4
      subst c4
      have H1 : (some false) = some r := by rw [if_neg (show ¬ (false = true) by decide)] at H; exact H
      clear H
      have H := H1
      clear H1
      obtain rfl := Option.some.inj H
      have p165 : 0 ≤ (0 : Int) := (by omega)
      have q165 : 0 < (l0.length : Int) := of_decide_eq_true (by first | (with_reducible assumption) | assumption)
      obtain ⟨ad165, e165, hx165_0, hx165_1, hx165_2, hx165_3, hx165_4⟩ := at_T91 HR0.out 0 p165 q165
      obtain rfl : adp0 = ad165 := (by injection e165)
      have qi165 : (0 < l0.length) = True := eq_true (by omega)
      (try rw [show ((0 : Int)).toNat = 0 from rfl] at hx165_0)
      (try rw [show 0 * 5 = 0 from rfl] at hx165_0)
      (try rw [Addr.add_zero'] at hx165_0)
      (try rw [show ((0 : Int)).toNat = 0 from rfl] at hx165_1)
      (try rw [show 0 * 5 = 0 from rfl] at hx165_1)
      (try rw [Addr.add_zero'] at hx165_1)
      (try rw [show ((0 : Int)).toNat = 0 from rfl] at hx165_2)
      (try rw [show 0 * 5 = 0 from rfl] at hx165_2)
      (try rw [Addr.add_zero'] at hx165_2)
      (try rw [show ((0 : Int)).toNat = 0 from rfl] at hx165_3)
      (try rw [show 0 * 5 = 0 from rfl] at hx165_3)
      (try rw [Addr.add_zero'] at hx165_3)
      (try rw [show ((0 : Int)).toNat = 0 from rfl] at hx165_4)
      (try rw [show 0 * 5 = 0 from rfl] at hx165_4)
      (try rw [Addr.add_zero'] at hx165_4)
      replace p165 := eq_true p165
      replace q165 := eq_true q165
      go_enter Try.func132, Try.ntmps132
      go_wp2_with (first | ((with_reducible refine gate_callee (f := 96) rfl ?_); refine goesL_ (some 8) rfl rfl Try.func96 (by kernel_rfl) rfl #[.int .i64 (wrap64 ((rd_T91 l0 0).f1)), .int .i64 0, .int .i64 5] rfl (by (try simp only [List.map_toArray, List.map_cons, List.map_nil]); first | done | rfl | (simp only [List.length_drop, List.length_take]; rfl)) ?_; (with_reducible refine (spec_l00In.calls (wrap64 ((rd_T91 l0 0).f1)) 0 5 false _ A3.out).mono ?_); rintro e w' ⟨rfl, ⟨nd, rfl⟩⟩; refine ⟨_, rfl, ?_⟩))
      go_ret
      exact ⟨by first | rfl | (simp [errW_none, errW_some] <;> rfl) | (simp [*, errW_none, errW_some] <;> rfl), by repeat (first | (with_reducible first | exact HB.out | apply below_alloc | apply pw_below_drewN | apply below_drew1) | exact HB.out)⟩
  · rw [if_neg c2] at H
    exact absurd H (by simp)

end Go.Proofs.Ytffnfpnajkgnaaa.PFnExactValidPushes
