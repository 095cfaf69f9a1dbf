-- WRITTEN by xprint.py, a program of this session's. Not trusted: Lean checks it.
-- packed by pack.py
import Derived.Test.YtmpmanfoiocfgaaPFnExactFormulaOfx0
import Derived.Test.YtmpmanfoiocfgaaPFnExactFormulaOfx1
import Derived.Test.YtmpmanfoiocfgaaPFnExactFormulaOfx2
import Derived.Test.YtmpmanfoiocfgaaPFnExactFormulaOfx5
import Derived.Test.YtmpmanfoiocfgaaPFnExactFormulaOfx7
import Derived.Test.YtmpmanfoiocfgaaTFnExactFormulaOfa
namespace Go.Proofs.Ytmpmanfoiocfgaa.PFnExactFormulaOf
open Go.RowKit Go.Proofs.YtmpmanfoiocfgaaW.PrintWords Go.Proofs.YtmpmanfoiocfgaaW.PrintLast Go.Proofs.YtmpmanfoiocfgaaW.PrintMore Go.Proofs.YtmpmanfoiocfgaaX
attribute [local go_sem] max2_int min2_int max_two min_two max_three min_three max_four min_four   -- for this text's walks alone
set_option maxHeartbeats 8000000
set_option maxRecDepth 100000
set_option linter.unusedVariables false
set_option linter.unusedSimpArgs false

def laws_FnExactFormulaOf.f (k : Nat) (a0_0 : Int) (l0_1 : List (S131)) (l0_2 : List Int) (a1 : Int) : Option (Bool) := (laws_szNetwork.f a0_0 l0_1 l0_2 1048576).bind fun t229 => (if t229 < 0 then (some true) else ((laws_toNetwork.f k a0_0 l0_1 l0_2).bind fun bt230 => ((spec_FormulaOf.f k bt230.1 bt230.2.1 bt230.2.2 a1).bind fun bt237 => ((laws_toNetwork.f k a0_0 l0_1 l0_2).bind fun bt239 => ((impl_FormulaOf.f k bt239.1 bt239.2.1 bt239.2.2 a1).bind fun bt247 => (if bt247.1.toList = bt237.1.toList then (if bt247.2 = bt237.2 then ((laws_toNetwork.f k a0_0 l0_1 l0_2).bind fun bt249 => ((laws_eqNetwork.f k bt239.1 bt239.2.1 bt239.2.2 bt249.1 bt249.2.1 bt249.2.2).bind fun t256 => (if t256 = true then (some true) else (none)))) else (none)) else (none)))))))
theorem laws_FnExactFormulaOf.mono : ∀ a0 a1 a2 a3 k, LeO (laws_FnExactFormulaOf.f k a0 a1 a2 a3) (laws_FnExactFormulaOf.f (k + 1) a0 a1 a2 a3) := by
 intro a0 a1 a2 a3 k
 unfold laws_FnExactFormulaOf.f
 repeat' first | (with_reducible first | apply impl_FormulaOf.mono | apply laws_eqNetwork.mono | apply laws_toNetwork.mono | apply spec_FormulaOf.mono | exact LeO.refl _ | exact LeO.none _ | refine LeO.ite ?_ ?_ | refine LeO.bind ?_ (fun _ => ?_)) | apply impl_FormulaOf.mono | apply laws_eqNetwork.mono | apply laws_toNetwork.mono | apply spec_FormulaOf.mono | exact LeO.none _ | refine LeO.ite ?_ ?_ | refine LeO.bind ?_ (fun _ => ?_)
theorem laws_FnExactFormulaOf.calls (k : Nat) (a0_0 : Int) (A0_1 : Option Addr) (c0_1 : Nat) (l0_1 : List (S131)) (A0_2 : Option Addr) (c0_2 : Nat) (l0_2 : List Int) (a1 : Int) (r : Bool) (w : World) (hr0_1 : Kd.C k131 w A0_1 l0_1.length l0_1) (hc0_1 : l0_1.length ≤ c0_1) (hr0_2 : Kd.C (Kd.int .i16) w A0_2 l0_2.length l0_2) (hc0_2 : l0_2.length ≤ c0_2) (h : laws_FnExactFormulaOf.f k a0_0 l0_1 l0_2 a1 = some r) :
    Calls Try.prog 8 #[.agg #[.int .i8 a0_0, .slice A0_1 l0_1.length c0_1, .slice A0_2 l0_2.length c0_2], .int .i64 a1] w fun e w' => e = .returned (.bool r) ∧ Below w.heap.size w w' := by
 have hu26 := Try.underlying26
 have hu31 := Try.underlying31
 have HR0_1 := Aside0.mk hr0_1
 have HC0_1 := Aside0.mk hc0_1
 clear hr0_1 hc0_1
 have HR0_2 := Aside0.mk hr0_2
 have HC0_2 := Aside0.mk hc0_2
 clear hr0_2 hc0_2
 have HB := Aside0.mk (Below.refl w.heap.size w)
 have H : ((laws_szNetwork.f a0_0 l0_1 l0_2 1048576).bind fun t229 => (if t229 < 0 then (some true) else ((laws_toNetwork.f k a0_0 l0_1 l0_2).bind fun bt230 => ((spec_FormulaOf.f k bt230.1 bt230.2.1 bt230.2.2 a1).bind fun bt237 => ((laws_toNetwork.f k a0_0 l0_1 l0_2).bind fun bt239 => ((impl_FormulaOf.f k bt239.1 bt239.2.1 bt239.2.2 a1).bind fun bt247 => (if bt247.1.toList = bt237.1.toList then (if bt247.2 = bt237.2 then ((laws_toNetwork.f k a0_0 l0_1 l0_2).bind fun bt249 => ((laws_eqNetwork.f k bt239.1 bt239.2.1 bt239.2.2 bt249.1 bt249.2.1 bt249.2.2).bind fun t256 => (if t256 = true then (some true) else (none)))) else (none)) else (none)))))))) = some r := h
 clear h
 replace H := zob H
 obtain ⟨t229, A30, H⟩ := H
 replace H : (if t229 < 0 then (some true) else ((laws_toNetwork.f k a0_0 l0_1 l0_2).bind fun bt230 => ((spec_FormulaOf.f k bt230.1 bt230.2.1 bt230.2.2 a1).bind fun bt237 => ((laws_toNetwork.f k a0_0 l0_1 l0_2).bind fun bt239 => ((impl_FormulaOf.f k bt239.1 bt239.2.1 bt239.2.2 a1).bind fun bt247 => (if bt247.1.toList = bt237.1.toList then (if bt247.2 = bt237.2 then ((laws_toNetwork.f k a0_0 l0_1 l0_2).bind fun bt249 => ((laws_eqNetwork.f k bt239.1 bt239.2.1 bt239.2.2 bt249.1 bt249.2.1 bt249.2.2).bind fun t256 => (if t256 = true then (some true) else (none)))) else (none)) else (none))))))) = some r := H
 have A3 := Aside0.mk A30
 clear A30
 by_cases c4 : t229 < 0
 ·rw [if_pos c4] at H
  have c4b0 : decide (t229 < 0) = true := decide_eq_true c4
  clear c4
  obtain rfl := Option.some.inj H
  go_enter Try.func8, Try.ntmps8
  go_wp2_with (first | ((with_reducible refine gate_dst (N := 2) rfl ?_); refine zbx 2 #[.int .i8 a0_0, .slice A0_1 l0_1.length c0_1, .slice A0_2 l0_2.length c0_2] 26 ?_; intro gb228 hg w5 hbox hb; have n_ : _ ∧ _ ∧ _ ∧ _ := ⟨zb HB hb, Aside0.mk (hbox), zg HB hg, zg HB hg⟩; clear HB; obtain ⟨HB, BK228, GW228, GE228⟩ := n_; clear hb hbox hg; obtain ⟨z6_0, z6_1, z6_2, y6_0, y6_1, y6_2⟩ := zB3 BK228) | ((with_reducible refine gate_callee (f := 21) rfl ?_); refine goesL_ (some 13) rfl rfl Try.func21 (by kernel_rfl) rfl #[.agg #[.int .i8 a0_0, .slice A0_1 l0_1.length c0_1, .slice A0_2 l0_2.length c0_2], .int .i64 1048576] rfl zm ?_; (with_reducible refine (laws_szNetwork.calls a0_0 _ _ l0_1 _ _ l0_2 1048576 t229 _ ?side1 ?side2 ?side3 ?side4 A3.out).mono ?_); (case side1 => exact zcc HB HR0_1.out); (case side2 => exact HC0_1.out); (case side3 => exact zcc HB HR0_2.out); (case side4 => exact HC0_2.out); rintro e w7 ⟨rfl, hb⟩; refine ⟨_, rfl, ?_⟩; have n_ : _ ∧ _ := ⟨zk BK228 hb, zbs hb⟩; clear BK228 HB; obtain ⟨BK228, HB⟩ := n_; (try clear hb); (try clear hb2); (try clear hk); (try clear hi)))
  go_ret
  exact ⟨zv, zbo⟩
 rw [if_neg c4] at H
 have c4b0 : decide (t229 < 0) = false := decide_eq_false c4
 clear c4
 replace H := zob H
 obtain ⟨⟨t230, t231, t234⟩, A80, H⟩ := H
 replace H : ((spec_FormulaOf.f k t230 t231 t234 a1).bind fun bt237 => ((laws_toNetwork.f k a0_0 l0_1 l0_2).bind fun bt239 => ((impl_FormulaOf.f k bt239.1 bt239.2.1 bt239.2.2 a1).bind fun bt247 => (if bt247.1.toList = bt237.1.toList then (if bt247.2 = bt237.2 then ((laws_toNetwork.f k a0_0 l0_1 l0_2).bind fun bt249 => ((laws_eqNetwork.f k bt239.1 bt239.2.1 bt239.2.2 bt249.1 bt249.2.1 bt249.2.2).bind fun t256 => (if t256 = true then (some true) else (none)))) else (none)) else (none))))) = some r := H
 have A8 := Aside0.mk A80
 clear A80
 replace H := zob H
 obtain ⟨⟨t237, t238⟩, A90, H⟩ := H
 replace H : ((laws_toNetwork.f k a0_0 l0_1 l0_2).bind fun bt239 => ((impl_FormulaOf.f k bt239.1 bt239.2.1 bt239.2.2 a1).bind fun bt247 => (if bt247.1.toList = t237.toList then (if bt247.2 = t238 then ((laws_toNetwork.f k a0_0 l0_1 l0_2).bind fun bt249 => ((laws_eqNetwork.f k bt239.1 bt239.2.1 bt239.2.2 bt249.1 bt249.2.1 bt249.2.2).bind fun t256 => (if t256 = true then (some true) else (none)))) else (none)) else (none)))) = some r := H
 have A9 := Aside0.mk A90
 clear A90
 replace H := zob H
 obtain ⟨⟨t239, t240, t243⟩, A100, H⟩ := H
 replace H : ((impl_FormulaOf.f k t239 t240 t243 a1).bind fun bt247 => (if bt247.1.toList = t237.toList then (if bt247.2 = t238 then ((laws_toNetwork.f k a0_0 l0_1 l0_2).bind fun bt249 => ((laws_eqNetwork.f k t239 t240 t243 bt249.1 bt249.2.1 bt249.2.2).bind fun t256 => (if t256 = true then (some true) else (none)))) else (none)) else (none))) = some r := H
 have A10 := Aside0.mk A100
 clear A100
 replace H := zob H
 obtain ⟨⟨t247, t248⟩, A110, H⟩ := H
 replace H : (if t247.toList = t237.toList then (if t248 = t238 then ((laws_toNetwork.f k a0_0 l0_1 l0_2).bind fun bt249 => ((laws_eqNetwork.f k t239 t240 t243 bt249.1 bt249.2.1 bt249.2.2).bind fun t256 => (if t256 = true then (some true) else (none)))) else (none)) else (none)) = some r := H
 have A11 := Aside0.mk A110
 clear A110
 by_cases c12 : t247.toList = t237.toList
 rotate_left
 ·rw [if_neg c12] at H
  exact absurd H (by simp)
 rw [if_pos c12] at H
 have c12b0 : (t247.toList == t237.toList) = true := beq_iff_eq.mpr c12
 have c12b1 : (t247.toList != t237.toList) = false := bne_eq_false_iff_eq.mpr c12
 clear c12
 by_cases c13 : t248 = t238
 rotate_left
 ·rw [if_neg c13] at H
  exact absurd H (by simp)
 rw [if_pos c13] at H
 have c13b0 : (t248 == t238) = true := beq_iff_eq.mpr c13
 have c13b1 : (t248 != t238) = false := bne_eq_false_iff_eq.mpr c13
 clear c13
 replace H := zob H
 obtain ⟨⟨t249, t250, t253⟩, A140, H⟩ := H
 replace H : ((laws_eqNetwork.f k t239 t240 t243 t249 t250 t253).bind fun t256 => (if t256 = true then (some true) else (none))) = some r := H
 have A14 := Aside0.mk A140
 clear A140
 replace H := zob H
 obtain ⟨t256, A150, H⟩ := H
 replace H : (if t256 = true then (some true) else (none)) = some r := H
 have A15 := Aside0.mk A150
 clear A150
 by_cases c16 : t256 = true
 rotate_left
 ·replace c16 := Bool.eq_false_iff.mpr c16
  subst c16
  have H1 : (none) = some r := by rw [if_neg (show ¬ (false = true) by decide)] at H; exact H
  clear H
  have H := H1
  clear H1
  exact absurd H (by simp)
 subst c16
 have H1 : (some true) = some r := by rw [if_pos rfl] at H; exact H
 clear H
 have H := H1
 clear H1
 obtain rfl := Option.some.inj H
 go_enter Try.func8, Try.ntmps8
 try go_wp2_with (first | ((with_reducible refine gate_dst (N := 2) rfl ?_); refine zbx 2 #[.int .i8 a0_0, .slice A0_1 l0_1.length c0_1, .slice A0_2 l0_2.length c0_2] 26 ?_; intro gb228 hg w17 hbox hb; have n_ : _ ∧ _ ∧ _ ∧ _ := ⟨zb HB hb, Aside0.mk (hbox), zg HB hg, zg HB hg⟩; clear HB; obtain ⟨HB, BK228, GW228, GE228⟩ := n_; clear hb hbox hg; obtain ⟨z18_0, z18_1, z18_2, y18_0, y18_1, y18_2⟩ := zB3 BK228) | ((with_reducible refine gate_callee (f := 21) rfl ?_); refine goesL_ (some 13) rfl rfl Try.func21 (by kernel_rfl) rfl #[.agg #[.int .i8 a0_0, .slice A0_1 l0_1.length c0_1, .slice A0_2 l0_2.length c0_2], .int .i64 1048576] rfl zm ?_; (with_reducible refine (laws_szNetwork.calls a0_0 _ _ l0_1 _ _ l0_2 1048576 t229 _ ?side1 ?side2 ?side3 ?side4 A3.out).mono ?_); (case side1 => exact zcc HB HR0_1.out); (case side2 => exact HC0_1.out); (case side3 => exact zcc HB HR0_2.out); (case side4 => exact HC0_2.out); rintro e w19 ⟨rfl, hb⟩; refine ⟨_, rfl, ?_⟩; have n_ : _ ∧ _ := ⟨zk BK228 hb, zbs hb⟩; clear BK228 HB; obtain ⟨BK228, HB⟩ := n_; (try clear hb); (try clear hb2); (try clear hk); (try clear hi); obtain ⟨z20_0, z20_1, z20_2, y20_0, y20_1, y20_2⟩ := zB3 BK228) | ((with_reducible refine gate_callee (f := 23) rfl ?_); refine goesL_ (some 18) rfl rfl Try.func23 (by kernel_rfl) rfl #[.agg #[.int .i8 a0_0, .slice A0_1 l0_1.length c0_1, .slice A0_2 l0_2.length c0_2]] rfl zm ?_; (with_reducible refine (laws_toNetwork.calls k a0_0 _ _ l0_1 _ _ l0_2 t230 t231 t234 _ ?side1 ?side2 ?side3 ?side4 A8.out).mono ?_); (case side1 => exact zcc HB HR0_1.out); (case side2 => exact HC0_1.out); (case side3 => exact zcc HB HR0_2.out); (case side4 => exact HC0_2.out); rintro e w21 ⟨v232, v235, rfl, ho0, ho1, hb⟩; refine ⟨_, rfl, ?_⟩; have n_ : _ ∧ _ ∧ _ ∧ _ := ⟨Aside0.mk (Kd.R_lower ho0 (zz HB)), Aside0.mk (Kd.R_lower ho1 (zz HB)), zk BK228 hb, zbs hb⟩; clear BK228 HB; obtain ⟨HO233, HO236, BK228, HB⟩ := n_; (try clear hb); (try clear hb2); (try clear hk); (try clear hi); (try clear ho0); (try clear ho1); obtain ⟨Ao22, co22, eo22⟩ := Kd.R_slice HO233.out; subst eo22; obtain ⟨Ao23, co23, eo23⟩ := Kd.R_slice HO236.out; subst eo23) | ((with_reducible refine gate_callee (f := 35) rfl ?_); refine goesL_ (some 20) rfl rfl Try.func35 (by kernel_rfl) rfl #[.agg #[.int .i8 t230, .slice Ao22 t231.length co22, .slice Ao23 t234.length co23], .int .i64 a1] rfl zm ?_; (with_reducible refine (spec_FormulaOf.calls k t230 _ _ t231 _ _ t234 a1 t237 t238 _ ?side1 ?side2 ?side3 ?side4 A9.out).mono ?_); (case side1 => exact zrc HO233); (case side2 => exact (Kd.R_reads' HO233.out).2.1); (case side3 => exact zrc HO236); (case side4 => exact (Kd.R_reads' HO236.out).2.1); rintro e w24 ⟨rfl, hb⟩; refine ⟨_, rfl, ?_⟩; have n_ : _ ∧ _ ∧ _ ∧ _ := ⟨zr HO233 hb, zr HO236 hb, zk BK228 hb, zbs hb⟩; clear HO233 HO236 BK228 HB; obtain ⟨HO233, HO236, BK228, HB⟩ := n_; (try clear hb); (try clear hb2); (try clear hk); (try clear hi); obtain ⟨z25_0, z25_1, z25_2, y25_0, y25_1, y25_2⟩ := zB3 BK228) | ((with_reducible refine gate_callee (f := 23) rfl ?_); refine goesL_ (some 24) rfl rfl Try.func23 (by kernel_rfl) rfl #[.agg #[.int .i8 a0_0, .slice A0_1 l0_1.length c0_1, .slice A0_2 l0_2.length c0_2]] rfl zm ?_; (with_reducible refine (laws_toNetwork.calls k a0_0 _ _ l0_1 _ _ l0_2 t239 t240 t243 _ ?side1 ?side2 ?side3 ?side4 A10.out).mono ?_); (case side1 => exact zcc HB HR0_1.out); (case side2 => exact HC0_1.out); (case side3 => exact zcc HB HR0_2.out); (case side4 => exact HC0_2.out); rintro e w26 ⟨v241, v244, rfl, ho0, ho1, hb⟩; refine ⟨_, rfl, ?_⟩; have n_ : _ ∧ _ ∧ _ ∧ _ ∧ _ ∧ _ := ⟨Aside0.mk (Kd.R_elder' (ze HO233).out (Kd.R_base ho0) hb), Aside0.mk (Kd.R_elder' (ze HO236).out (Kd.R_base ho1) hb), Aside0.mk (Kd.R_lower (Kd.R_new' ho0 (Kd.R_lt (ze HO233).out)) (zz HB)), Aside0.mk (Kd.R_lower (Kd.R_new' ho1 (Kd.R_lt (ze HO236).out)) (zz HB)), zk BK228 hb, zbs hb⟩; clear HO233 HO236 BK228 HB; obtain ⟨HO233, HO236, HO242, HO245, BK228, HB⟩ := n_; (try clear hb); (try clear hb2); (try clear hk); (try clear hi); (try clear ho0); (try clear ho1)) | ((with_reducible refine gate_dst (N := 8) rfl ?_); refine zbx 8 #[.int .i8 0, .slice none 0 0, .slice none 0 0] 31 ?_; intro gb246 hg w27 hbox hb; have n_ : _ ∧ _ ∧ _ ∧ _ ∧ _ ∧ _ ∧ _ ∧ _ ∧ _ ∧ _ ∧ _ := ⟨zr HO233 hb, zr HO236 hb, zr HO242 hb, zr HO245 hb, zk BK228 hb, zbs hb, Aside0.mk (hbox), zg HB hg, zg HB hg, zn1 BK228 hg, zn2 BK228 hg⟩; clear HO233 HO236 HO242 HO245 BK228 HB; obtain ⟨HO233, HO236, HO242, HO245, BK228, HB, BK246, GW246, GE246, NB228_246, NB246_228⟩ := n_; clear hb hbox hg; have hnb28 := NB246_228.out; have hnc28 := NB228_246.out; obtain ⟨z29_0, z29_1, z29_2, y29_0, y29_1, y29_2⟩ := zB3 BK246; obtain ⟨Ao30, co30, eo30⟩ := Kd.R_slice HO242.out; subst eo30; obtain ⟨Ao31, co31, eo31⟩ := Kd.R_slice HO245.out; subst eo31) | ((with_reducible refine gate_callee (f := 36) rfl ?_); refine goesL_ (some 28) rfl rfl Try.func36 (by kernel_rfl) rfl #[.agg #[.int .i8 t239, .slice Ao30 t240.length co30, .slice Ao31 t243.length co31], .int .i64 a1] rfl zm ?_; (with_reducible refine (impl_FormulaOf.calls k t239 _ _ t240 _ _ t243 a1 t247 t248 _ ?side1 ?side2 ?side3 ?side4 A11.out).mono ?_); (case side1 => exact (Kd.R_reads' (zs HO242 BK246).out).2.2); (case side2 => exact (Kd.R_reads' HO242.out).2.1); (case side3 => exact (Kd.R_reads' (zs HO245 BK246).out).2.2); (case side4 => exact (Kd.R_reads' HO245.out).2.1); rintro e w32 ⟨rfl, hb⟩; refine ⟨_, rfl, ?_⟩; have n_ : _ ∧ _ ∧ _ ∧ _ ∧ _ ∧ _ ∧ _ := ⟨zsb HO233 BK246 hb, zsb HO236 BK246 hb, zsb HO242 BK246 hb, zsb HO245 BK246 hb, zfb BK228 NB228_246 hb, Aside0.mk (blk_below (g := gb246) (o := .cells #[.int .i8 t239, .slice Ao30 t240.length co30, .slice Ao31 t243.length co31] 31 (0, 0)) (zp BK246) hb), zbs hb⟩; clear HO233 HO236 HO242 HO245 BK228 BK246 HB; obtain ⟨HO233, HO236, HO242, HO245, BK228, BK246, HB⟩ := n_; (try clear hb); (try clear hb2); (try clear hk); (try clear hi)))
 have n_ : _ ∧ _ ∧ _ ∧ _ ∧ _ ∧ _ ∧ _ := ⟨Aside0.mk (Kd.R_drew HO233.out), Aside0.mk (Kd.R_drew HO236.out), Aside0.mk (Kd.R_drew HO242.out), Aside0.mk (Kd.R_drew HO245.out), Aside0.mk (blk_drew BK228.out), Aside0.mk (blk_drew BK246.out), Aside0.mk (below_drew1 HB.out)⟩
 clear HO233 HO236 HO242 HO245 BK228 BK246 HB
 obtain ⟨HO233, HO236, HO242, HO245, BK228, BK246, HB⟩ := n_
 refine start_ (n := 5) (S := fun w' => w'.cell? ⟨gb246, 0, none⟩ = some (.int .i8 t239) ∧ w'.cell? ⟨gb246, 1, none⟩ = some (.slice Ao30 t240.length co30) ∧ w'.cell? ⟨gb246, 2, none⟩ = some (.slice Ao31 t243.length co31) ∧ w'.cell? ⟨gb228, 0, none⟩ = some (.int .i8 a0_0) ∧ w'.cell? ⟨gb228, 1, none⟩ = some (.slice A0_1 l0_1.length c0_1) ∧ w'.cell? ⟨gb228, 2, none⟩ = some (.slice A0_2 l0_2.length c0_2)) (ds := []) #[false, false, false, false, false] (by kernel_rfl) rfl rfl ⟨(blk_cell BK246.out 0).trans rfl, (blk_cell BK246.out 1).trans rfl, (blk_cell BK246.out 2).trans rfl, (blk_cell BK228.out 0).trans rfl, (blk_cell BK228.out 1).trans rfl, (blk_cell BK228.out 2).trans rfl⟩ (fun hHeld => ?_)
 generalize w32.drew = w33 at HO233 HO236 HO242 HO245 BK228 BK246 HB hHeld ⊢
 refine take_ (i := 0) (N := some 39) (v := ?_) (a' := ?_) #[true, false, false, false, false] rfl rfl (by kernel_rfl) (fun _ _ _ h => h) (Or.inl ⟨by rfl, ?_⟩) hHeld ?_ ?_
 rotate_left
 ·rintro w' ⟨s0, s1, s2, s3, s4, s5⟩
  go_simp
  with_reducible rfl
 rotate_left
 ·exact zap
 refine take_ (i := 1) (N := some 40) (v := ?_) (a' := ?_) #[true, true, false, false, false] rfl rfl (by kernel_rfl) (fun _ _ _ h => h) (Or.inl ⟨by rfl, ?_⟩) hHeld ?_ ?_
 rotate_left
 ·rintro w' ⟨s0, s1, s2, s3, s4, s5⟩
  go_simp
  with_reducible rfl
 rotate_left
 ·exact zap
 refine one_ (i := 2) (N := some 41) #[true, true, true, false, false] rfl rfl (by kernel_rfl) (by decide) (fun K hK => ?_)
 refine goes_ Try.func23 (by kernel_rfl) rfl #[.agg #[.int .i8 a0_0, .slice A0_1 l0_1.length c0_1, .slice A0_2 l0_2.length c0_2]] (by rfl) rfl rfl zm ?_
 with_reducible refine (laws_toNetwork.calls k a0_0 _ _ l0_1 _ _ l0_2 t249 t250 t253 _ ?side1 ?side2 ?side3 ?side4 A14.out).mono ?_
 (case side1 => exact zcc HB HR0_1.out)
 (case side2 => exact HC0_1.out)
 (case side3 => exact zcc HB HR0_2.out)
 (case side4 => exact HC0_2.out)
 rintro e w34 ⟨v251, v254, rfl, ho0, ho1, hb⟩
 refine ⟨_, rfl, ?_⟩
 have n_ : _ ∧ _ ∧ _ ∧ _ ∧ _ ∧ _ ∧ _ ∧ _ ∧ _ := ⟨Aside0.mk (Kd.R_elder' (ze HO233).out (Kd.R_base ho0) hb), Aside0.mk (Kd.R_elder' (ze HO236).out (Kd.R_base ho1) hb), Aside0.mk (Kd.R_elder' (ze HO242).out (Kd.R_base ho0) hb), Aside0.mk (Kd.R_elder' (ze HO245).out (Kd.R_base ho1) hb), Aside0.mk (Kd.R_lower (Kd.R_new' (Kd.R_new' ho0 (Kd.R_lt (ze HO233).out)) (Kd.R_lt (ze HO242).out)) (zz HB)), Aside0.mk (Kd.R_lower (Kd.R_new' (Kd.R_new' ho1 (Kd.R_lt (ze HO236).out)) (Kd.R_lt (ze HO245).out)) (zz HB)), zk BK228 hb, zk BK246 hb, zbs hb⟩
 clear HO233 HO236 HO242 HO245 BK228 BK246 HB
 obtain ⟨HO233, HO236, HO242, HO245, HO252, HO255, BK228, BK246, HB⟩ := n_
 (try clear hb)
 (try clear hb2)
 (try clear hk)
 (try clear hi)
 (try clear ho0)
 (try clear ho1)
 obtain ⟨Ao35, co35, eo35⟩ := Kd.R_slice HO252.out
 (first | subst eo35 | (injection eo35 with f1_ f2_ f3_; have f4_ := f1_.symm; have f5_ := f3_.symm; clear f1_ f2_ f3_; subst f4_; subst f5_))
 obtain ⟨Ao36, co36, eo36⟩ := Kd.R_slice HO255.out
 (first | subst eo36 | (injection eo36 with f1_ f2_ f3_; have f4_ := f1_.symm; have f5_ := f3_.symm; clear f1_ f2_ f3_; subst f4_; subst f5_))
 refine hK.out _ _ ⟨(blk_cell BK246.out 0).trans rfl, (blk_cell BK246.out 1).trans rfl, (blk_cell BK246.out 2).trans rfl, (blk_cell BK228.out 0).trans rfl, (blk_cell BK228.out 1).trans rfl, (blk_cell BK228.out 2).trans rfl⟩ (fun hHeld => ?_)
 clear hK K
 refine norm_ (a' := ?_) ?_ ?_
 rotate_left
 ·show Act.put _ (some 41) _ = _
  exact zap
 refine one_ (i := 3) (N := some 42) #[true, true, true, true, false] rfl rfl (by kernel_rfl) (by decide) (fun K hK => ?_)
 refine goes_ Try.func25 (by kernel_rfl) rfl #[.agg #[.int .i8 t239, .slice Ao30 t240.length co30, .slice Ao31 t243.length co31], .agg #[.int .i8 t249, .slice Ao35 t250.length co35, .slice Ao36 t253.length co36]] (by rfl) rfl rfl zm ?_
 with_reducible refine (laws_eqNetwork.calls k t239 _ _ t240 _ _ t243 t249 _ _ t250 _ _ t253 true _ ?side1 ?side2 ?side3 ?side4 ?side5 ?side6 ?side7 ?side8 A15.out).mono ?_
 (case side1 => exact zrc HO242)
 (case side2 => exact (Kd.R_reads' HO242.out).2.1)
 (case side3 => exact zrc HO245)
 (case side4 => exact (Kd.R_reads' HO245.out).2.1)
 (case side5 => exact zrc HO252)
 (case side6 => exact (Kd.R_reads' HO252.out).2.1)
 (case side7 => exact zrc HO255)
 (case side8 => exact (Kd.R_reads' HO255.out).2.1)
 rintro e w37 ⟨rfl, hb⟩
 refine ⟨_, rfl, ?_⟩
 have n_ : _ ∧ _ ∧ _ ∧ _ ∧ _ ∧ _ ∧ _ ∧ _ ∧ _ := ⟨zr HO233 hb, zr HO236 hb, zr HO242 hb, zr HO245 hb, zr HO252 hb, zr HO255 hb, zk BK228 hb, zk BK246 hb, zbs hb⟩
 clear HO233 HO236 HO242 HO245 HO252 HO255 BK228 BK246 HB
 obtain ⟨HO233, HO236, HO242, HO245, HO252, HO255, BK228, BK246, HB⟩ := n_
 (try clear hb)
 (try clear hb2)
 (try clear hk)
 (try clear hi)
 refine hK.out _ _ ⟨(blk_cell BK246.out 0).trans rfl, (blk_cell BK246.out 1).trans rfl, (blk_cell BK246.out 2).trans rfl, (blk_cell BK228.out 0).trans rfl, (blk_cell BK228.out 1).trans rfl, (blk_cell BK228.out 2).trans rfl⟩ (fun hHeld => ?_)
 clear hK K
 refine norm_ (a' := ?_) ?_ ?_
 rotate_left
 ·show Act.put _ (some 42) _ = _
  exact zap
 refine pure_ (i := 4) (N := some 43) (v := ?_) (a' := ?_) #[true, true, true, true, true] rfl rfl (by kernel_rfl) (fun _ _ _ h => h) (Or.inl ⟨by rfl, ?_⟩) ?_ ?_
 rotate_left
 ·intro w'
  go_simp
  with_reducible rfl
 rotate_left
 ·exact zap
 refine done_ (by kernel_rfl) ?_
 try go_wp2
 go_ret
 exact ⟨zv, zbo⟩
end Go.Proofs.Ytmpmanfoiocfgaa.PFnExactFormulaOf
