-- WRITTEN by xprint.py, a program of this session's. Not trusted: Lean checks it.
import Derived.Test.YtffnfpnajkgnaaaPFnExactNeighboursOfx0
import Derived.Test.YtffnfpnajkgnaaaPFnExactNeighboursOfx3
namespace Go.Proofs.Ytffnfpnajkgnaaa.PFnExactNeighboursOf
open Go.RowKit Go.Proofs.YtffnfpnajkgnaaaW.PrintWords Go.Proofs.YtffnfpnajkgnaaaW.PrintLast Go.Proofs.YtffnfpnajkgnaaaW.PrintMore Go.Proofs.YtffnfpnajkgnaaaX
attribute [local go_sem] max2_int min2_int max_two min_two max_three min_three max_four min_four   -- for this text's walks alone
set_option linter.unusedVariables false
set_option linter.unusedSimpArgs false

/-! ### spec_l01Piece: function 132 -/
def spec_l01Piece.f (l0 : List (S91)) : Option (Bool) := if 0 < (l0.length : Int) then ((spec_l00In.f (wrap64 ((rd_T91 l0 0).f1)) 0 5).bind fun t146 => (if t146 = true then ((spec_l00In.f (wrap64 ((rd_T91 l0 0).f2)) 0 3).bind fun t148 => (if t148 = true then ((spec_l00In.f (wrap64 ((rd_T91 l0 0).f3)) 1 9).bind fun t150 => (if t150 = true then ((spec_l01In.f ((rd_T91 l0 0).f0.f0) ((rd_T91 l0 0).f0.f1) 24 24).bind fun t152 => (some t152)) else (some false))) else (some false))) else (some false))) else (none)
set_option maxHeartbeats 8000000 in
set_option maxRecDepth 100000 in
theorem spec_l01Piece.calls (adp0 : Addr) (l0 : List (S91)) (r : Bool) (w : World) (hr0 : Kd.C k91 w (some adp0) l0.length l0) (h : spec_l01Piece.f l0 = some r) :
    Calls Try.prog 132 #[.pointer (some adp0)] w fun e w' => e = .returned (.bool r) ∧ Below w.heap.size w w' := by
  have hu74 := Try.underlying74
  have HR0 := Aside0.mk hr0
  clear hr0
  have HB := Aside0.mk (Below.refl w.heap.size w)
  have H : (if 0 < (l0.length : Int) then ((spec_l00In.f (wrap64 ((rd_T91 l0 0).f1)) 0 5).bind fun t146 => (if t146 = true then ((spec_l00In.f (wrap64 ((rd_T91 l0 0).f2)) 0 3).bind fun t148 => (if t148 = true then ((spec_l00In.f (wrap64 ((rd_T91 l0 0).f3)) 1 9).bind fun t150 => (if t150 = true then ((spec_l01In.f ((rd_T91 l0 0).f0.f0) ((rd_T91 l0 0).f0.f1) 24 24).bind fun t152 => (some t152)) else (some false))) else (some false))) else (some false))) else (none)) = some r := h
  clear h
  by_cases c2 : 0 < (l0.length : Int)
  · rw [if_pos c2] at H
    have c2b0 : decide (0 < (l0.length : Int)) = true := decide_eq_true c2
    have c2b1 : decide (0 < l0.length) = true := decide_eq_true (by omega)
    clear c2
    replace H := Option.bind_eq_some_iff.mp H
    obtain ⟨t146, A30, H⟩ := H
    replace H : (if t146 = true then ((spec_l00In.f (wrap64 ((rd_T91 l0 0).f2)) 0 3).bind fun t148 => (if t148 = true then ((spec_l00In.f (wrap64 ((rd_T91 l0 0).f3)) 1 9).bind fun t150 => (if t150 = true then ((spec_l01In.f ((rd_T91 l0 0).f0.f0) ((rd_T91 l0 0).f0.f1) 24 24).bind fun t152 => (some t152)) else (some false))) else (some false))) else (some false)) = some r := H
    have A3 := Aside0.mk A30
    clear A30
    by_cases c4 : t146 = true
    · subst c4
      have H1 : ((spec_l00In.f (wrap64 ((rd_T91 l0 0).f2)) 0 3).bind fun t148 => (if t148 = true then ((spec_l00In.f (wrap64 ((rd_T91 l0 0).f3)) 1 9).bind fun t150 => (if t150 = true then ((spec_l01In.f ((rd_T91 l0 0).f0.f0) ((rd_T91 l0 0).f0.f1) 24 24).bind fun t152 => (some t152)) else (some false))) else (some false))) = some r := by rw [if_pos rfl] at H; exact H
      clear H
      have H := H1
      clear H1
      replace H := Option.bind_eq_some_iff.mp H
      obtain ⟨t148, A50, H⟩ := H
      replace H : (if t148 = true then ((spec_l00In.f (wrap64 ((rd_T91 l0 0).f3)) 1 9).bind fun t150 => (if t150 = true then ((spec_l01In.f ((rd_T91 l0 0).f0.f0) ((rd_T91 l0 0).f0.f1) 24 24).bind fun t152 => (some t152)) else (some false))) else (some false)) = some r := H
      have A5 := Aside0.mk A50
      clear A50
      by_cases c6 : t148 = true
      · subst c6
        have H1 : ((spec_l00In.f (wrap64 ((rd_T91 l0 0).f3)) 1 9).bind fun t150 => (if t150 = true then ((spec_l01In.f ((rd_T91 l0 0).f0.f0) ((rd_T91 l0 0).f0.f1) 24 24).bind fun t152 => (some t152)) else (some false))) = some r := by rw [if_pos rfl] at H; exact H
        clear H
        have H := H1
        clear H1
        replace H := Option.bind_eq_some_iff.mp H
        obtain ⟨t150, A70, H⟩ := H
        replace H : (if t150 = true then ((spec_l01In.f ((rd_T91 l0 0).f0.f0) ((rd_T91 l0 0).f0.f1) 24 24).bind fun t152 => (some t152)) else (some false)) = some r := H
        have A7 := Aside0.mk A70
        clear A70
        by_cases c8 : t150 = true
        · subst c8
          have H1 : ((spec_l01In.f ((rd_T91 l0 0).f0.f0) ((rd_T91 l0 0).f0.f1) 24 24).bind fun t152 => (some t152)) = some r := by rw [if_pos rfl] at H; exact H
          clear H
          have H := H1
          clear H1
          replace H := Option.bind_eq_some_iff.mp H
          obtain ⟨t152, A90, H⟩ := H
          replace H : (some t152) = some r := H
          have A9 := Aside0.mk A90
          clear A90
          obtain rfl := Option.some.inj H
          have p145 : 0 ≤ (0 : Int) := (by omega)
          have q145 : 0 < (l0.length : Int) := of_decide_eq_true (by first | (with_reducible assumption) | assumption)
          obtain ⟨ad145, e145, hx145_0, hx145_1, hx145_2, hx145_3, hx145_4⟩ := at_T91 HR0.out 0 p145 q145
          obtain rfl : adp0 = ad145 := (by injection e145)
          have qi145 : (0 < l0.length) = True := eq_true (by omega)
          (try rw [show ((0 : Int)).toNat = 0 from rfl] at hx145_0)
          (try rw [show 0 * 5 = 0 from rfl] at hx145_0)
          (try rw [Addr.add_zero'] at hx145_0)
          (try rw [show ((0 : Int)).toNat = 0 from rfl] at hx145_1)
          (try rw [show 0 * 5 = 0 from rfl] at hx145_1)
          (try rw [Addr.add_zero'] at hx145_1)
          (try rw [show ((0 : Int)).toNat = 0 from rfl] at hx145_2)
          (try rw [show 0 * 5 = 0 from rfl] at hx145_2)
          (try rw [Addr.add_zero'] at hx145_2)
          (try rw [show ((0 : Int)).toNat = 0 from rfl] at hx145_3)
          (try rw [show 0 * 5 = 0 from rfl] at hx145_3)
          (try rw [Addr.add_zero'] at hx145_3)
          (try rw [show ((0 : Int)).toNat = 0 from rfl] at hx145_4)
          (try rw [show 0 * 5 = 0 from rfl] at hx145_4)
          (try rw [Addr.add_zero'] at hx145_4)
          replace p145 := eq_true p145
          replace q145 := eq_true q145
          go_enter Try.func132, Try.ntmps132
          go_wp2_with (first | ((with_reducible refine gate_callee (f := 96) rfl ?_); refine goesL_ (some 8) rfl rfl Try.func96 (by kernel_rfl) rfl #[.int .i64 (wrap64 ((rd_T91 l0 0).f1)), .int .i64 0, .int .i64 5] rfl (by (try simp only [List.map_toArray, List.map_cons, List.map_nil]); first | done | rfl | (simp only [List.length_drop, List.length_take]; rfl)) ?_; (with_reducible refine (spec_l00In.calls (wrap64 ((rd_T91 l0 0).f1)) 0 5 true _ A3.out).mono ?_); rintro e w' ⟨rfl, ⟨nd, rfl⟩⟩; refine ⟨_, rfl, ?_⟩; have p147 : 0 ≤ (0 : Int) := (by omega); have q147 : 0 < (l0.length : Int) := of_decide_eq_true (by first | (with_reducible assumption) | assumption); obtain ⟨ad147, e147, hx147_0, hx147_1, hx147_2, hx147_3, hx147_4⟩ := at_T91 HR0.out 0 p147 q147; obtain rfl : adp0 = ad147 := (by injection e147); have qi147 : (0 < l0.length) = True := eq_true (by omega); (try rw [show ((0 : Int)).toNat = 0 from rfl] at hx147_0); (try rw [show 0 * 5 = 0 from rfl] at hx147_0); (try rw [Addr.add_zero'] at hx147_0); (try rw [show ((0 : Int)).toNat = 0 from rfl] at hx147_1); (try rw [show 0 * 5 = 0 from rfl] at hx147_1); (try rw [Addr.add_zero'] at hx147_1); (try rw [show ((0 : Int)).toNat = 0 from rfl] at hx147_2); (try rw [show 0 * 5 = 0 from rfl] at hx147_2); (try rw [Addr.add_zero'] at hx147_2); (try rw [show ((0 : Int)).toNat = 0 from rfl] at hx147_3); (try rw [show 0 * 5 = 0 from rfl] at hx147_3); (try rw [Addr.add_zero'] at hx147_3); (try rw [show ((0 : Int)).toNat = 0 from rfl] at hx147_4); (try rw [show 0 * 5 = 0 from rfl] at hx147_4); (try rw [Addr.add_zero'] at hx147_4); replace p147 := eq_true p147; replace q147 := eq_true q147) | (go_at_call 96; (with_reducible refine (spec_l00In.calls (wrap64 ((rd_T91 l0 0).f2)) 0 3 true _ A5.out).mono ?_); rintro e w' ⟨rfl, ⟨nd, rfl⟩⟩; have p149 : 0 ≤ (0 : Int) := (by omega); have q149 : 0 < (l0.length : Int) := of_decide_eq_true (by first | (with_reducible assumption) | assumption); obtain ⟨ad149, e149, hx149_0, hx149_1, hx149_2, hx149_3, hx149_4⟩ := at_T91 HR0.out 0 p149 q149; obtain rfl : adp0 = ad149 := (by injection e149); have qi149 : (0 < l0.length) = True := eq_true (by omega); (try rw [show ((0 : Int)).toNat = 0 from rfl] at hx149_0); (try rw [show 0 * 5 = 0 from rfl] at hx149_0); (try rw [Addr.add_zero'] at hx149_0); (try rw [show ((0 : Int)).toNat = 0 from rfl] at hx149_1); (try rw [show 0 * 5 = 0 from rfl] at hx149_1); (try rw [Addr.add_zero'] at hx149_1); (try rw [show ((0 : Int)).toNat = 0 from rfl] at hx149_2); (try rw [show 0 * 5 = 0 from rfl] at hx149_2); (try rw [Addr.add_zero'] at hx149_2); (try rw [show ((0 : Int)).toNat = 0 from rfl] at hx149_3); (try rw [show 0 * 5 = 0 from rfl] at hx149_3); (try rw [Addr.add_zero'] at hx149_3); (try rw [show ((0 : Int)).toNat = 0 from rfl] at hx149_4); (try rw [show 0 * 5 = 0 from rfl] at hx149_4); (try rw [Addr.add_zero'] at hx149_4); replace p149 := eq_true p149; replace q149 := eq_true q149) | (go_at_call 96; (with_reducible refine (spec_l00In.calls (wrap64 ((rd_T91 l0 0).f3)) 1 9 true _ A7.out).mono ?_); rintro e w' ⟨rfl, ⟨nd, rfl⟩⟩; have p151 : 0 ≤ (0 : Int) := (by omega); have q151 : 0 < (l0.length : Int) := of_decide_eq_true (by first | (with_reducible assumption) | assumption); obtain ⟨ad151, e151, hx151_0, hx151_1, hx151_2, hx151_3, hx151_4⟩ := at_T91 HR0.out 0 p151 q151; obtain rfl : adp0 = ad151 := (by injection e151); have qi151 : (0 < l0.length) = True := eq_true (by omega); (try rw [show ((0 : Int)).toNat = 0 from rfl] at hx151_0); (try rw [show 0 * 5 = 0 from rfl] at hx151_0); (try rw [Addr.add_zero'] at hx151_0); (try rw [show ((0 : Int)).toNat = 0 from rfl] at hx151_1); (try rw [show 0 * 5 = 0 from rfl] at hx151_1); (try rw [Addr.add_zero'] at hx151_1); (try rw [show ((0 : Int)).toNat = 0 from rfl] at hx151_2); (try rw [show 0 * 5 = 0 from rfl] at hx151_2); (try rw [Addr.add_zero'] at hx151_2); (try rw [show ((0 : Int)).toNat = 0 from rfl] at hx151_3); (try rw [show 0 * 5 = 0 from rfl] at hx151_3); (try rw [Addr.add_zero'] at hx151_3); (try rw [show ((0 : Int)).toNat = 0 from rfl] at hx151_4); (try rw [show 0 * 5 = 0 from rfl] at hx151_4); (try rw [Addr.add_zero'] at hx151_4); replace p151 := eq_true p151; replace q151 := eq_true q151) | (go_at_call 133; (with_reducible refine (spec_l01In.calls ((rd_T91 l0 0).f0.f0) ((rd_T91 l0 0).f0.f1) 24 24 t152 _ A9.out).mono ?_); rintro e w10 ⟨rfl, hb⟩; have n0_ := Aside0.mk (below_step (by repeat (first | (with_reducible first | exact HB.out | apply below_alloc | apply pw_below_drewN | apply below_drew1) | exact HB.out)) hb); clear HB; have HB := n0_; clear n0_; (try clear hb); (try clear hb2); (try clear hk); (try clear hi)))
          go_ret
          exact ⟨by first | rfl | (simp [errW_none, errW_some] <;> rfl) | (simp [*, errW_none, errW_some] <;> rfl), by repeat (first | (with_reducible first | exact HB.out | apply below_alloc | apply pw_below_drewN | apply below_drew1) | exact HB.out)⟩
        · replace c8 := Bool.eq_false_iff.mpr c8
          subst c8
          have H1 : (some false) = some r := by rw [if_neg (show ¬ (false = true) by decide)] at H; exact H
          clear H
          have H := H1
          clear H1
          obtain rfl := Option.some.inj H
          have p145 : 0 ≤ (0 : Int) := (by omega)
          have q145 : 0 < (l0.length : Int) := of_decide_eq_true (by first | (with_reducible assumption) | assumption)
          obtain ⟨ad145, e145, hx145_0, hx145_1, hx145_2, hx145_3, hx145_4⟩ := at_T91 HR0.out 0 p145 q145
          obtain rfl : adp0 = ad145 := (by injection e145)
          have qi145 : (0 < l0.length) = True := eq_true (by omega)
          (try rw [show ((0 : Int)).toNat = 0 from rfl] at hx145_0)
          (try rw [show 0 * 5 = 0 from rfl] at hx145_0)
          (try rw [Addr.add_zero'] at hx145_0)
          (try rw [show ((0 : Int)).toNat = 0 from rfl] at hx145_1)
          (try rw [show 0 * 5 = 0 from rfl] at hx145_1)
          (try rw [Addr.add_zero'] at hx145_1)
          (try rw [show ((0 : Int)).toNat = 0 from rfl] at hx145_2)
          (try rw [show 0 * 5 = 0 from rfl] at hx145_2)
          (try rw [Addr.add_zero'] at hx145_2)
          (try rw [show ((0 : Int)).toNat = 0 from rfl] at hx145_3)
          (try rw [show 0 * 5 = 0 from rfl] at hx145_3)
          (try rw [Addr.add_zero'] at hx145_3)
          (try rw [show ((0 : Int)).toNat = 0 from rfl] at hx145_4)
          (try rw [show 0 * 5 = 0 from rfl] at hx145_4)
          (try rw [Addr.add_zero'] at hx145_4)
          replace p145 := eq_true p145
          replace q145 := eq_true q145
          go_enter Try.func132, Try.ntmps132
          go_wp2_with (first | ((with_reducible refine gate_callee (f := 96) rfl ?_); refine goesL_ (some 8) rfl rfl Try.func96 (by kernel_rfl) rfl #[.int .i64 (wrap64 ((rd_T91 l0 0).f1)), .int .i64 0, .int .i64 5] rfl (by (try simp only [List.map_toArray, List.map_cons, List.map_nil]); first | done | rfl | (simp only [List.length_drop, List.length_take]; rfl)) ?_; (with_reducible refine (spec_l00In.calls (wrap64 ((rd_T91 l0 0).f1)) 0 5 true _ A3.out).mono ?_); rintro e w' ⟨rfl, ⟨nd, rfl⟩⟩; refine ⟨_, rfl, ?_⟩; have p147 : 0 ≤ (0 : Int) := (by omega); have q147 : 0 < (l0.length : Int) := of_decide_eq_true (by first | (with_reducible assumption) | assumption); obtain ⟨ad147, e147, hx147_0, hx147_1, hx147_2, hx147_3, hx147_4⟩ := at_T91 HR0.out 0 p147 q147; obtain rfl : adp0 = ad147 := (by injection e147); have qi147 : (0 < l0.length) = True := eq_true (by omega); (try rw [show ((0 : Int)).toNat = 0 from rfl] at hx147_0); (try rw [show 0 * 5 = 0 from rfl] at hx147_0); (try rw [Addr.add_zero'] at hx147_0); (try rw [show ((0 : Int)).toNat = 0 from rfl] at hx147_1); (try rw [show 0 * 5 = 0 from rfl] at hx147_1); (try rw [Addr.add_zero'] at hx147_1); (try rw [show ((0 : Int)).toNat = 0 from rfl] at hx147_2); (try rw [show 0 * 5 = 0 from rfl] at hx147_2); (try rw [Addr.add_zero'] at hx147_2); (try rw [show ((0 : Int)).toNat = 0 from rfl] at hx147_3); (try rw [show 0 * 5 = 0 from rfl] at hx147_3); (try rw [Addr.add_zero'] at hx147_3); (try rw [show ((0 : Int)).toNat = 0 from rfl] at hx147_4); (try rw [show 0 * 5 = 0 from rfl] at hx147_4); (try rw [Addr.add_zero'] at hx147_4); replace p147 := eq_true p147; replace q147 := eq_true q147) | (go_at_call 96; (with_reducible refine (spec_l00In.calls (wrap64 ((rd_T91 l0 0).f2)) 0 3 true _ A5.out).mono ?_); rintro e w' ⟨rfl, ⟨nd, rfl⟩⟩; have p149 : 0 ≤ (0 : Int) := (by omega); have q149 : 0 < (l0.length : Int) := of_decide_eq_true (by first | (with_reducible assumption) | assumption); obtain ⟨ad149, e149, hx149_0, hx149_1, hx149_2, hx149_3, hx149_4⟩ := at_T91 HR0.out 0 p149 q149; obtain rfl : adp0 = ad149 := (by injection e149); have qi149 : (0 < l0.length) = True := eq_true (by omega); (try rw [show ((0 : Int)).toNat = 0 from rfl] at hx149_0); (try rw [show 0 * 5 = 0 from rfl] at hx149_0); (try rw [Addr.add_zero'] at hx149_0); (try rw [show ((0 : Int)).toNat = 0 from rfl] at hx149_1); (try rw [show 0 * 5 = 0 from rfl] at hx149_1); (try rw [Addr.add_zero'] at hx149_1); (try rw [show ((0 : Int)).toNat = 0 from rfl] at hx149_2); (try rw [show 0 * 5 = 0 from rfl] at hx149_2); (try rw [Addr.add_zero'] at hx149_2); (try rw [show ((0 : Int)).toNat = 0 from rfl] at hx149_3); (try rw [show 0 * 5 = 0 from rfl] at hx149_3); (try rw [Addr.add_zero'] at hx149_3); (try rw [show ((0 : Int)).toNat = 0 from rfl] at hx149_4); (try rw [show 0 * 5 = 0 from rfl] at hx149_4); (try rw [Addr.add_zero'] at hx149_4); replace p149 := eq_true p149; replace q149 := eq_true q149) | (go_at_call 96; (with_reducible refine (spec_l00In.calls (wrap64 ((rd_T91 l0 0).f3)) 1 9 false _ A7.out).mono ?_); rintro e w' ⟨rfl, ⟨nd, rfl⟩⟩))
          go_ret
          exact ⟨by first | rfl | (simp [errW_none, errW_some] <;> rfl) | (simp [*, errW_none, errW_some] <;> rfl), by repeat (first | (with_reducible first | exact HB.out | apply below_alloc | apply pw_below_drewN | apply below_drew1) | exact HB.out)⟩
      · replace c6 := Bool.eq_false_iff.mpr c6
        subst c6
        have H1 : (some false) = some r := by rw [if_neg (show ¬ (false = true) by decide)] at H; exact H
        clear H
        have H := H1
        clear H1
        obtain rfl := Option.some.inj H
        have p145 : 0 ≤ (0 : Int) := (by omega)
        have q145 : 0 < (l0.length : Int) := of_decide_eq_true (by first | (with_reducible assumption) | assumption)
        obtain ⟨ad145, e145, hx145_0, hx145_1, hx145_2, hx145_3, hx145_4⟩ := at_T91 HR0.out 0 p145 q145
        obtain rfl : adp0 = ad145 := (by injection e145)
        have qi145 : (0 < l0.length) = True := eq_true (by omega)
        (try rw [show ((0 : Int)).toNat = 0 from rfl] at hx145_0)
        (try rw [show 0 * 5 = 0 from rfl] at hx145_0)
        (try rw [Addr.add_zero'] at hx145_0)
        (try rw [show ((0 : Int)).toNat = 0 from rfl] at hx145_1)
        (try rw [show 0 * 5 = 0 from rfl] at hx145_1)
        (try rw [Addr.add_zero'] at hx145_1)
        (try rw [show ((0 : Int)).toNat = 0 from rfl] at hx145_2)
        (try rw [show 0 * 5 = 0 from rfl] at hx145_2)
        (try rw [Addr.add_zero'] at hx145_2)
        (try rw [show ((0 : Int)).toNat = 0 from rfl] at hx145_3)
        (try rw [show 0 * 5 = 0 from rfl] at hx145_3)
        (try rw [Addr.add_zero'] at hx145_3)
        (try rw [show ((0 : Int)).toNat = 0 from rfl] at hx145_4)
        (try rw [show 0 * 5 = 0 from rfl] at hx145_4)
        (try rw [Addr.add_zero'] at hx145_4)
        replace p145 := eq_true p145
        replace q145 := eq_true q145
        go_enter Try.func132, Try.ntmps132
        go_wp2_with (first | ((with_reducible refine gate_callee (f := 96) rfl ?_); refine goesL_ (some 8) rfl rfl Try.func96 (by kernel_rfl) rfl #[.int .i64 (wrap64 ((rd_T91 l0 0).f1)), .int .i64 0, .int .i64 5] rfl (by (try simp only [List.map_toArray, List.map_cons, List.map_nil]); first | done | rfl | (simp only [List.length_drop, List.length_take]; rfl)) ?_; (with_reducible refine (spec_l00In.calls (wrap64 ((rd_T91 l0 0).f1)) 0 5 true _ A3.out).mono ?_); rintro e w' ⟨rfl, ⟨nd, rfl⟩⟩; refine ⟨_, rfl, ?_⟩; have p147 : 0 ≤ (0 : Int) := (by omega); have q147 : 0 < (l0.length : Int) := of_decide_eq_true (by first | (with_reducible assumption) | assumption); obtain ⟨ad147, e147, hx147_0, hx147_1, hx147_2, hx147_3, hx147_4⟩ := at_T91 HR0.out 0 p147 q147; obtain rfl : adp0 = ad147 := (by injection e147); have qi147 : (0 < l0.length) = True := eq_true (by omega); (try rw [show ((0 : Int)).toNat = 0 from rfl] at hx147_0); (try rw [show 0 * 5 = 0 from rfl] at hx147_0); (try rw [Addr.add_zero'] at hx147_0); (try rw [show ((0 : Int)).toNat = 0 from rfl] at hx147_1); (try rw [show 0 * 5 = 0 from rfl] at hx147_1); (try rw [Addr.add_zero'] at hx147_1); (try rw [show ((0 : Int)).toNat = 0 from rfl] at hx147_2); (try rw [show 0 * 5 = 0 from rfl] at hx147_2); (try rw [Addr.add_zero'] at hx147_2); (try rw [show ((0 : Int)).toNat = 0 from rfl] at hx147_3); (try rw [show 0 * 5 = 0 from rfl] at hx147_3); (try rw [Addr.add_zero'] at hx147_3); (try rw [show ((0 : Int)).toNat = 0 from rfl] at hx147_4); (try rw [show 0 * 5 = 0 from rfl] at hx147_4); (try rw [Addr.add_zero'] at hx147_4); replace p147 := eq_true p147; replace q147 := eq_true q147) | (go_at_call 96; (with_reducible refine (spec_l00In.calls (wrap64 ((rd_T91 l0 0).f2)) 0 3 false _ A5.out).mono ?_); rintro e w' ⟨rfl, ⟨nd, rfl⟩⟩))
        go_ret
        exact ⟨by first | rfl | (simp [errW_none, errW_some] <;> rfl) | (simp [*, errW_none, errW_some] <;> rfl), by repeat (first | (with_reducible first | exact HB.out | apply below_alloc | apply pw_below_drewN | apply below_drew1) | exact HB.out)⟩
    · replace c4 := Bool.eq_false_iff.mpr c4
      subst c4
      have H1 : (some false) = some r := by rw [if_neg (show ¬ (false = true) by decide)] at H; exact H
      clear H
      have H := H1
      clear H1
      obtain rfl := Option.some.inj H
      have p145 : 0 ≤ (0 : Int) := (by omega)
      have q145 : 0 < (l0.length : Int) := of_decide_eq_true (by first | (with_reducible assumption) | assumption)
      obtain ⟨ad145, e145, hx145_0, hx145_1, hx145_2, hx145_3, hx145_4⟩ := at_T91 HR0.out 0 p145 q145
      obtain rfl : adp0 = ad145 := (by injection e145)
      have qi145 : (0 < l0.length) = True := eq_true (by omega)
      (try rw [show ((0 : Int)).toNat = 0 from rfl] at hx145_0)
      (try rw [show 0 * 5 = 0 from rfl] at hx145_0)
      (try rw [Addr.add_zero'] at hx145_0)
      (try rw [show ((0 : Int)).toNat = 0 from rfl] at hx145_1)
      (try rw [show 0 * 5 = 0 from rfl] at hx145_1)
      (try rw [Addr.add_zero'] at hx145_1)
      (try rw [show ((0 : Int)).toNat = 0 from rfl] at hx145_2)
      (try rw [show 0 * 5 = 0 from rfl] at hx145_2)
      (try rw [Addr.add_zero'] at hx145_2)
      (try rw [show ((0 : Int)).toNat = 0 from rfl] at hx145_3)
      (try rw [show 0 * 5 = 0 from rfl] at hx145_3)
      (try rw [Addr.add_zero'] at hx145_3)
      (try rw [show ((0 : Int)).toNat = 0 from rfl] at hx145_4)
      (try rw [show 0 * 5 = 0 from rfl] at hx145_4)
      (try rw [Addr.add_zero'] at hx145_4)
      replace p145 := eq_true p145
      replace q145 := eq_true q145
      go_enter Try.func132, Try.ntmps132
      go_wp2_with (first | ((with_reducible refine gate_callee (f := 96) rfl ?_); refine goesL_ (some 8) rfl rfl Try.func96 (by kernel_rfl) rfl #[.int .i64 (wrap64 ((rd_T91 l0 0).f1)), .int .i64 0, .int .i64 5] rfl (by (try simp only [List.map_toArray, List.map_cons, List.map_nil]); first | done | rfl | (simp only [List.length_drop, List.length_take]; rfl)) ?_; (with_reducible refine (spec_l00In.calls (wrap64 ((rd_T91 l0 0).f1)) 0 5 false _ A3.out).mono ?_); rintro e w' ⟨rfl, ⟨nd, rfl⟩⟩; refine ⟨_, rfl, ?_⟩))
      go_ret
      exact ⟨by first | rfl | (simp [errW_none, errW_some] <;> rfl) | (simp [*, errW_none, errW_some] <;> rfl), by repeat (first | (with_reducible first | exact HB.out | apply below_alloc | apply pw_below_drewN | apply below_drew1) | exact HB.out)⟩
  · rw [if_neg c2] at H
    exact absurd H (by simp)

end Go.Proofs.Ytffnfpnajkgnaaa.PFnExactNeighboursOf
