-- WRITTEN by xprint.py, a program of this session's. Not trusted: Lean checks it.
import Derived.Test.YtffnfpnajkgnaaaPFnExactCountKindsx0
import Derived.Test.YtffnfpnajkgnaaaPFnExactCountKindsx2
import Derived.Test.YtffnfpnajkgnaaaPFnExactCountKindsx3
import Derived.Test.YtffnfpnajkgnaaaPFnExactCountKindsx6
import Derived.Test.YtffnfpnajkgnaaaPFnExactCountKindsx7
import Derived.Test.YtffnfpnajkgnaaaPFnExactCountKindsx8
namespace Go.Proofs.Ytffnfpnajkgnaaa.PFnExactCountKinds
open Go.RowKit Go.Proofs.YtffnfpnajkgnaaaW.PrintWords Go.Proofs.YtffnfpnajkgnaaaW.PrintLast Go.Proofs.YtffnfpnajkgnaaaW.PrintMore Go.Proofs.YtffnfpnajkgnaaaX
attribute [local go_sem] max2_int min2_int max_two min_two max_three min_three max_four min_four   -- for this text's walks alone
set_option linter.unusedVariables false
set_option linter.unusedSimpArgs false

/-! ### laws_FnExactCountKinds: function 7 -/
mutual
def laws_FnExactCountKinds.j0 : Nat → Int → Int → List (S88) → Option (Bool)
  | 0, _, _, _ => none
  | k + 1, x193000, x193001, x193002 => (laws_toBoard.f k x193000 x193001 x193002).bind fun bt194 => ((spec_CountKinds.f k bt194.1 bt194.2.1 bt194.2.2).bind fun bt199 => ((laws_toBoard.f k x193000 x193001 x193002).bind fun bt207 => ((impl_CountKinds.f k bt207.1 bt207.2.1 bt207.2.2).bind fun bt213 => ((laws_eqInt64A6.f k bt213.1 bt213.2.1 bt213.2.2.1 bt213.2.2.2.1 bt213.2.2.2.2.1 bt213.2.2.2.2.2.1 bt199.1 bt199.2.1 bt199.2.2.1 bt199.2.2.2.1 bt199.2.2.2.2.1 bt199.2.2.2.2.2.1).bind fun t221 => (if t221 = true then (laws_FnExactCountKinds.j1 k (bt213.2.2.2.2.2.2 != bt199.2.2.2.2.2.2) x193000 x193001 x193002 bt207.1 bt207.2.1 bt207.2.2) else (laws_FnExactCountKinds.j1 k true x193000 x193001 x193002 bt207.1 bt207.2.1 bt207.2.2))))))
def laws_FnExactCountKinds.j1 : Nat → Bool → Int → Int → List (S88) → Int → Int → List (S91) → Option (Bool)
  | 0, _, _, _, _, _, _, _ => none
  | k + 1, x35, x193000, x193001, x193002, x213000, x213001, x213002 => if x35 = true then (some false) else (laws_FnExactCountKinds.j2 k x193000 x193001 x193002 x213000 x213001 x213002)
def laws_FnExactCountKinds.j2 : Nat → Int → Int → List (S88) → Int → Int → List (S91) → Option (Bool)
  | 0, _, _, _, _, _, _ => none
  | k + 1, x193000, x193001, x193002, x213000, x213001, x213002 => (laws_toBoard.f k x193000 x193001 x193002).bind fun bt222 => ((laws_eqBoard.f k x213000 x213001 x213002 bt222.1 bt222.2.1 bt222.2.2).bind fun t227 => (if t227 = true then (some true) else (some false)))
end
def laws_FnExactCountKinds.f (k : Nat) (a0_0 : Int) (a0_1 : Int) (l0_2 : List (S88)) : Option (Bool) := (laws_szBoard.f a0_0 a0_1 l0_2 1048576).bind fun t193 => (if t193 < 0 then (some true) else (laws_FnExactCountKinds.j0 k a0_0 a0_1 l0_2))
theorem laws_FnExactCountKinds.mono_l : ∀ k, (∀ y0 y1 y2, LeO (laws_FnExactCountKinds.j0 k y0 y1 y2) (laws_FnExactCountKinds.j0 (k + 1) y0 y1 y2)) ∧ (∀ y0 y1 y2 y3 y4 y5 y6, LeO (laws_FnExactCountKinds.j1 k y0 y1 y2 y3 y4 y5 y6) (laws_FnExactCountKinds.j1 (k + 1) y0 y1 y2 y3 y4 y5 y6)) ∧ (∀ y0 y1 y2 y3 y4 y5, LeO (laws_FnExactCountKinds.j2 k y0 y1 y2 y3 y4 y5) (laws_FnExactCountKinds.j2 (k + 1) y0 y1 y2 y3 y4 y5))
  | 0 => ⟨fun _ _ _ r h => by simp [laws_FnExactCountKinds.j0] at h, fun _ _ _ _ _ _ _ r h => by simp [laws_FnExactCountKinds.j1] at h, fun _ _ _ _ _ _ r h => by simp [laws_FnExactCountKinds.j2] at h⟩
  | k + 1 => by
    obtain ⟨ih0, ih1, ih2⟩ := laws_FnExactCountKinds.mono_l k
    refine ⟨?_, ?_, ?_⟩
    · intro y0 y1 y2
      unfold laws_FnExactCountKinds.j0
      repeat' first
      | (with_reducible exact ih0 _ _ _)
      | (with_reducible exact ih1 _ _ _ _ _ _ _)
      | (with_reducible exact ih2 _ _ _ _ _ _)
      | (with_reducible exact impl_CountKinds.mono _ _ _ _)
      | (with_reducible exact laws_eqBoard.mono _ _ _ _ _ _ _)
      | (with_reducible exact laws_eqInt64A6.mono _ _ _ _ _ _ _ _ _ _ _ _ _)
      | (with_reducible exact laws_toBoard.mono _ _ _ _)
      | (with_reducible exact spec_CountKinds.mono _ _ _ _)
      | (with_reducible exact LeO.refl _)
      | (with_reducible exact LeO.none _)
      | (with_reducible refine LeO.ite ?_ ?_)
      | (with_reducible refine LeO.bind ?_ (fun _ => ?_))
      | exact ih0 _ _ _
      | exact ih1 _ _ _ _ _ _ _
      | exact ih2 _ _ _ _ _ _
      | exact impl_CountKinds.mono _ _ _ _
      | exact laws_eqBoard.mono _ _ _ _ _ _ _
      | exact laws_eqInt64A6.mono _ _ _ _ _ _ _ _ _ _ _ _ _
      | exact laws_toBoard.mono _ _ _ _
      | exact spec_CountKinds.mono _ _ _ _
      | exact LeO.none _
      | refine LeO.ite ?_ ?_
      | refine LeO.bind ?_ (fun _ => ?_)
    · intro y0 y1 y2 y3 y4 y5 y6
      unfold laws_FnExactCountKinds.j1
      repeat' first
      | (with_reducible exact ih0 _ _ _)
      | (with_reducible exact ih1 _ _ _ _ _ _ _)
      | (with_reducible exact ih2 _ _ _ _ _ _)
      | (with_reducible exact impl_CountKinds.mono _ _ _ _)
      | (with_reducible exact laws_eqBoard.mono _ _ _ _ _ _ _)
      | (with_reducible exact laws_eqInt64A6.mono _ _ _ _ _ _ _ _ _ _ _ _ _)
      | (with_reducible exact laws_toBoard.mono _ _ _ _)
      | (with_reducible exact spec_CountKinds.mono _ _ _ _)
      | (with_reducible exact LeO.refl _)
      | (with_reducible exact LeO.none _)
      | (with_reducible refine LeO.ite ?_ ?_)
      | (with_reducible refine LeO.bind ?_ (fun _ => ?_))
      | exact ih0 _ _ _
      | exact ih1 _ _ _ _ _ _ _
      | exact ih2 _ _ _ _ _ _
      | exact impl_CountKinds.mono _ _ _ _
      | exact laws_eqBoard.mono _ _ _ _ _ _ _
      | exact laws_eqInt64A6.mono _ _ _ _ _ _ _ _ _ _ _ _ _
      | exact laws_toBoard.mono _ _ _ _
      | exact spec_CountKinds.mono _ _ _ _
      | exact LeO.none _
      | refine LeO.ite ?_ ?_
      | refine LeO.bind ?_ (fun _ => ?_)
    · intro y0 y1 y2 y3 y4 y5
      unfold laws_FnExactCountKinds.j2
      repeat' first
      | (with_reducible exact ih0 _ _ _)
      | (with_reducible exact ih1 _ _ _ _ _ _ _)
      | (with_reducible exact ih2 _ _ _ _ _ _)
      | (with_reducible exact impl_CountKinds.mono _ _ _ _)
      | (with_reducible exact laws_eqBoard.mono _ _ _ _ _ _ _)
      | (with_reducible exact laws_eqInt64A6.mono _ _ _ _ _ _ _ _ _ _ _ _ _)
      | (with_reducible exact laws_toBoard.mono _ _ _ _)
      | (with_reducible exact spec_CountKinds.mono _ _ _ _)
      | (with_reducible exact LeO.refl _)
      | (with_reducible exact LeO.none _)
      | (with_reducible refine LeO.ite ?_ ?_)
      | (with_reducible refine LeO.bind ?_ (fun _ => ?_))
      | exact ih0 _ _ _
      | exact ih1 _ _ _ _ _ _ _
      | exact ih2 _ _ _ _ _ _
      | exact impl_CountKinds.mono _ _ _ _
      | exact laws_eqBoard.mono _ _ _ _ _ _ _
      | exact laws_eqInt64A6.mono _ _ _ _ _ _ _ _ _ _ _ _ _
      | exact laws_toBoard.mono _ _ _ _
      | exact spec_CountKinds.mono _ _ _ _
      | exact LeO.none _
      | refine LeO.ite ?_ ?_
      | refine LeO.bind ?_ (fun _ => ?_)
theorem laws_FnExactCountKinds.mono : ∀ a0 a1 a2 k, LeO (laws_FnExactCountKinds.f k a0 a1 a2) (laws_FnExactCountKinds.f (k + 1) a0 a1 a2) := by
  intro a0 a1 a2 k
  obtain ⟨ih0, ih1, ih2⟩ := laws_FnExactCountKinds.mono_l k
  unfold laws_FnExactCountKinds.f
  repeat' first
      | (with_reducible exact ih0 _ _ _)
      | (with_reducible exact ih1 _ _ _ _ _ _ _)
      | (with_reducible exact ih2 _ _ _ _ _ _)
      | (with_reducible exact impl_CountKinds.mono _ _ _ _)
      | (with_reducible exact laws_eqBoard.mono _ _ _ _ _ _ _)
      | (with_reducible exact laws_eqInt64A6.mono _ _ _ _ _ _ _ _ _ _ _ _ _)
      | (with_reducible exact laws_toBoard.mono _ _ _ _)
      | (with_reducible exact spec_CountKinds.mono _ _ _ _)
      | (with_reducible exact LeO.refl _)
      | (with_reducible exact LeO.none _)
      | (with_reducible refine LeO.ite ?_ ?_)
      | (with_reducible refine LeO.bind ?_ (fun _ => ?_))
      | exact ih0 _ _ _
      | exact ih1 _ _ _ _ _ _ _
      | exact ih2 _ _ _ _ _ _
      | exact impl_CountKinds.mono _ _ _ _
      | exact laws_eqBoard.mono _ _ _ _ _ _ _
      | exact laws_eqInt64A6.mono _ _ _ _ _ _ _ _ _ _ _ _ _
      | exact laws_toBoard.mono _ _ _ _
      | exact spec_CountKinds.mono _ _ _ _
      | exact LeO.none _
      | refine LeO.ite ?_ ?_
      | refine LeO.bind ?_ (fun _ => ?_)
set_option maxHeartbeats 8000000 in
set_option maxRecDepth 100000 in
theorem laws_FnExactCountKinds.calls (k : Nat) (a0_0 : Int) (a0_1 : Int) (A0_2 : Option Addr) (c0_2 : Nat) (l0_2 : List (S88)) (r : Bool) (w : World) (hr0_2 : Kd.C k88 w A0_2 l0_2.length l0_2) (hc0_2 : l0_2.length ≤ c0_2) (h : laws_FnExactCountKinds.f k a0_0 a0_1 l0_2 = some r) :
    Calls Try.prog 7 #[.agg #[.int .i8 a0_0, .int .i8 a0_1, .slice A0_2 l0_2.length c0_2]] w fun e w' => e = .returned (.bool r) ∧ Below w.heap.size w w' := by
  have hu25 := Try.underlying25
  have hu64 := Try.underlying64
  have hu37 := Try.underlying37
  have HR0_2 := Aside0.mk hr0_2
  have HC0_2 := Aside0.mk hc0_2
  clear hr0_2 hc0_2
  have HB := Aside0.mk (Below.refl w.heap.size w)
  have H : ((laws_szBoard.f a0_0 a0_1 l0_2 1048576).bind fun t193 => (if t193 < 0 then (some true) else (laws_FnExactCountKinds.j0 k a0_0 a0_1 l0_2))) = some r := h
  clear h
  replace H := Option.bind_eq_some_iff.mp H
  obtain ⟨t193, A20, H⟩ := H
  replace H : (if t193 < 0 then (some true) else (laws_FnExactCountKinds.j0 k a0_0 a0_1 l0_2)) = some r := H
  have A2 := Aside0.mk A20
  clear A20
  have HC3 := Aside0.mk H
  clear H
  go_enter Try.func7, Try.ntmps7
  go_upto_if 13 with (first | ((with_reducible refine gate_dst (N := 1) rfl ?_); refine box_event ?hg (N := 1) ?hd (cs := #[.int .i8 a0_0, .int .i8 a0_1, .slice A0_2 l0_2.length c0_2]) (t := 25) ?hr ?_; (case hd => rfl); (case hg => rfl); (case hr => first | (go_simp; done) | (go_simp; rfl)); intro gb192 hg w4 hbox hb; have n0_ := Aside0.mk (below_step (by repeat (first | (with_reducible first | exact HB.out | apply below_alloc | apply pw_below_drewN | apply below_drew1) | exact HB.out)) hb); have n1_ := Aside0.mk (hbox); have n2_ := Aside0.mk ((by rw [hg]; exact (below_size (by repeat (first | (with_reducible first | exact HB.out | apply below_alloc | apply pw_below_drewN | apply below_drew1) | exact HB.out))) : w.heap.size ≤ gb192)); have n3_ := Aside0.mk ((by rw [hg]; exact (below_size (by repeat (first | (with_reducible first | exact HB.out | apply below_alloc | apply pw_below_drewN | apply below_drew1) | exact HB.out))) : w.heap.size ≤ gb192)); clear HB; have HB := n0_; have BK192 := n1_; have GW192 := n2_; have GE192 := n3_; clear n0_ n1_ n2_ n3_; clear hb hbox hg; have hcz5_0 : w4.cell? ⟨gb192, 0, none⟩ = some (.int .i8 a0_0) := (blk_cell BK192.out 0).trans rfl; have hcz5_1 : w4.cell? ⟨gb192, 1, none⟩ = some (.int .i8 a0_1) := (blk_cell BK192.out 1).trans rfl; have hcz5_2 : w4.cell? ⟨gb192, 2, none⟩ = some (.slice A0_2 l0_2.length c0_2) := (blk_cell BK192.out 2).trans rfl; have hfz5_0 := blk_frozen BK192.out 0; have hfz5_1 := blk_frozen BK192.out 1; have hfz5_2 := blk_frozen BK192.out 2) | ((with_reducible refine gate_callee (f := 40) rfl ?_); refine goesL_ (some 11) rfl rfl Try.func40 (by kernel_rfl) rfl #[.agg #[.int .i8 a0_0, .int .i8 a0_1, .slice A0_2 l0_2.length c0_2], .int .i64 1048576] rfl (by (try simp only [List.map_toArray, List.map_cons, List.map_nil]); first | done | rfl | (simp only [List.length_drop, List.length_take]; rfl)) ?_; (with_reducible refine (laws_szBoard.calls a0_0 a0_1 _ _ l0_2 1048576 t193 _ ?side1 ?side2 A2.out).mono ?_); (case side1 => repeat (first | exact (Kd.C_below HR0_2.out HB.out) | (with_reducible refine Kd.C_alloc ?_ _) | (with_reducible refine Kd.C_drewN ?_ _) | (with_reducible refine Kd.C_drew ?_))); (case side2 => exact HC0_2.out); rintro e w6 ⟨rfl, hb⟩; refine ⟨_, rfl, ?_⟩; have n0_ := Aside0.mk (blk_below (g := gb192) (o := .cells #[.int .i8 a0_0, .int .i8 a0_1, .slice A0_2 l0_2.length c0_2] 25 (0, 0)) (by (with_reducible repeat (first | refine blk_drewN ?_ _ | refine blk_drew ?_ | refine blk_alloc ?_ _)); exact BK192.out) hb); have n1_ := Aside0.mk (below_step (by repeat (first | (with_reducible first | exact HB.out | apply below_alloc | apply pw_below_drewN | apply below_drew1 | refine below_set ?_ GE192.out) | exact HB.out)) hb); clear BK192; clear HB; have BK192 := n0_; have HB := n1_; clear n0_ n1_; (try clear hb); (try clear hb2); (try clear hk); (try clear hi)))
  (try simp only [Act.put, List.setIfInBounds_toArray, List.set_cons_zero, List.set_cons_succ])
  go_cut [] (fun wc => ∃ (kq : Nat), Aside0 (laws_FnExactCountKinds.j0 kq a0_0 a0_1 l0_2 = some r) ∧ Aside0 (kq ≤ k) ∧ Aside0 (wc.heap[gb192]? = some (.cells #[.int .i8 a0_0, .int .i8 a0_1, (.slice A0_2 l0_2.length c0_2)] 25 (0, 0))) ∧ Aside0 (Below w.heap.size w wc))
  case first =>
    have H := HC3.out
    clear HC3
    by_cases c7 : t193 < 0
    · rw [if_pos c7] at H
      have c7b0 : decide (t193 < 0) = true := decide_eq_true c7
      clear c7
      (first | rw [c7b0] | (simp only [i64_w, i32_w]; rw [c7b0]) | (have h_ := c7b0; simp only [bne] at h_; rw [h_]) | skip)
      obtain rfl := Option.some.inj H
      go_wp2
      go_ret
      exact ⟨by first | rfl | (simp [errW_none, errW_some] <;> rfl) | (simp [*, errW_none, errW_some] <;> rfl), by repeat (first | (with_reducible first | exact HB.out | apply below_alloc | apply pw_below_drewN | apply below_drew1 | refine below_set ?_ GE192.out) | exact HB.out)⟩
    · rw [if_neg c7] at H
      have c7b0 : decide (t193 < 0) = false := decide_eq_false c7
      clear c7
      (first | rw [c7b0] | (simp only [i64_w, i32_w]; rw [c7b0]) | (have h_ := c7b0; simp only [bne] at h_; rw [h_]) | skip)
      have H' := Aside0.mk H
      clear H
      go_wp2
      go_meet
      case rel => exact ⟨_, H', ⟨by first | omega | exact Nat.le_refl _⟩, ⟨by (with_reducible repeat (first | refine blk_drewN ?_ _ | refine blk_drew ?_ | refine blk_alloc ?_ _)); exact BK192.out⟩, ⟨by repeat (first | (with_reducible first | exact HB.out | apply below_alloc | apply pw_below_drewN | apply below_drew1 | refine below_set ?_ GE192.out) | exact HB.out)⟩⟩
  case rest =>
    clear HC3
    try clear p2
    try clear c4
    try clear c7
    try clear c7b0
    try clear hcz5_0
    try clear hcz5_1
    try clear hcz5_2
    try clear hfz5_0
    try clear hfz5_1
    try clear hfz5_2
    obtain ⟨kq, HA, HJ2, BK192, HB⟩ := hcut
    cases kq with
    | zero => exact absurd HA.out (by simp [laws_FnExactCountKinds.j0])
    | succ kj2 =>
      have H := HA.out
      clear HA
      simp only [laws_FnExactCountKinds.j0] at H
      replace H := Option.bind_eq_some_iff.mp H
      obtain ⟨⟨t194, t195, t196⟩, A80, H⟩ := H
      replace H : ((spec_CountKinds.f kj2 t194 t195 t196).bind fun bt199 => ((laws_toBoard.f kj2 a0_0 a0_1 l0_2).bind fun bt207 => ((impl_CountKinds.f kj2 bt207.1 bt207.2.1 bt207.2.2).bind fun bt213 => ((laws_eqInt64A6.f kj2 bt213.1 bt213.2.1 bt213.2.2.1 bt213.2.2.2.1 bt213.2.2.2.2.1 bt213.2.2.2.2.2.1 bt199.1 bt199.2.1 bt199.2.2.1 bt199.2.2.2.1 bt199.2.2.2.2.1 bt199.2.2.2.2.2.1).bind fun t221 => (if t221 = true then (laws_FnExactCountKinds.j1 kj2 (bt213.2.2.2.2.2.2 != bt199.2.2.2.2.2.2) a0_0 a0_1 l0_2 bt207.1 bt207.2.1 bt207.2.2) else (laws_FnExactCountKinds.j1 kj2 true a0_0 a0_1 l0_2 bt207.1 bt207.2.1 bt207.2.2)))))) = some r := H
      have A8 := Aside0.mk A80
      clear A80
      replace H := Option.bind_eq_some_iff.mp H
      obtain ⟨⟨t199, t200, t201, t202, t203, t204, t205⟩, A90, H⟩ := H
      replace H : ((laws_toBoard.f kj2 a0_0 a0_1 l0_2).bind fun bt207 => ((impl_CountKinds.f kj2 bt207.1 bt207.2.1 bt207.2.2).bind fun bt213 => ((laws_eqInt64A6.f kj2 bt213.1 bt213.2.1 bt213.2.2.1 bt213.2.2.2.1 bt213.2.2.2.2.1 bt213.2.2.2.2.2.1 t199 t200 t201 t202 t203 t204).bind fun t221 => (if t221 = true then (laws_FnExactCountKinds.j1 kj2 (bt213.2.2.2.2.2.2 != t205) a0_0 a0_1 l0_2 bt207.1 bt207.2.1 bt207.2.2) else (laws_FnExactCountKinds.j1 kj2 true a0_0 a0_1 l0_2 bt207.1 bt207.2.1 bt207.2.2))))) = some r := H
      have A9 := Aside0.mk A90
      clear A90
      replace H := Option.bind_eq_some_iff.mp H
      obtain ⟨⟨t207, t208, t209⟩, A100, H⟩ := H
      replace H : ((impl_CountKinds.f kj2 t207 t208 t209).bind fun bt213 => ((laws_eqInt64A6.f kj2 bt213.1 bt213.2.1 bt213.2.2.1 bt213.2.2.2.1 bt213.2.2.2.2.1 bt213.2.2.2.2.2.1 t199 t200 t201 t202 t203 t204).bind fun t221 => (if t221 = true then (laws_FnExactCountKinds.j1 kj2 (bt213.2.2.2.2.2.2 != t205) a0_0 a0_1 l0_2 t207 t208 t209) else (laws_FnExactCountKinds.j1 kj2 true a0_0 a0_1 l0_2 t207 t208 t209)))) = some r := H
      have A10 := Aside0.mk A100
      clear A100
      replace H := Option.bind_eq_some_iff.mp H
      obtain ⟨⟨t213, t214, t215, t216, t217, t218, t219⟩, A110, H⟩ := H
      replace H : ((laws_eqInt64A6.f kj2 t213 t214 t215 t216 t217 t218 t199 t200 t201 t202 t203 t204).bind fun t221 => (if t221 = true then (laws_FnExactCountKinds.j1 kj2 (t219 != t205) a0_0 a0_1 l0_2 t207 t208 t209) else (laws_FnExactCountKinds.j1 kj2 true a0_0 a0_1 l0_2 t207 t208 t209))) = some r := H
      have A11 := Aside0.mk A110
      clear A110
      have HC12 := Aside0.mk H
      clear H
      have hcz13_0 : wc.cell? ⟨gb192, 0, none⟩ = some (.int .i8 a0_0) := (blk_cell BK192.out 0).trans rfl
      have hcz13_1 : wc.cell? ⟨gb192, 1, none⟩ = some (.int .i8 a0_1) := (blk_cell BK192.out 1).trans rfl
      have hcz13_2 : wc.cell? ⟨gb192, 2, none⟩ = some (.slice A0_2 l0_2.length c0_2) := (blk_cell BK192.out 2).trans rfl
      have hfz13_0 := blk_frozen BK192.out 0
      have hfz13_1 := blk_frozen BK192.out 1
      have hfz13_2 := blk_frozen BK192.out 2
      go_upto_region 8 with (first | ((with_reducible refine gate_callee (f := 42) rfl ?_); refine goesL_ (some 16) rfl rfl Try.func42 (by kernel_rfl) rfl #[.agg #[.int .i8 a0_0, .int .i8 a0_1, .slice A0_2 l0_2.length c0_2]] rfl (by (try simp only [List.map_toArray, List.map_cons, List.map_nil]); first | done | rfl | (simp only [List.length_drop, List.length_take]; rfl)) ?_; (with_reducible refine (laws_toBoard.calls kj2 a0_0 a0_1 _ _ l0_2 t194 t195 t196 _ ?side1 ?side2 A8.out).mono ?_); (case side1 => repeat (first | exact (Kd.C_below HR0_2.out HB.out) | (with_reducible refine Kd.C_alloc ?_ _) | (with_reducible refine Kd.C_drewN ?_ _) | (with_reducible refine Kd.C_drew ?_))); (case side2 => exact HC0_2.out); rintro e w14 ⟨v197, rfl, ho0, hb⟩; refine ⟨_, rfl, ?_⟩; have n0_ := Aside0.mk (Kd.R_lower ho0 (below_size (by repeat (first | (with_reducible first | exact HB.out | apply below_alloc | apply pw_below_drewN | apply below_drew1 | refine below_set ?_ GE192.out) | exact HB.out)))); have n1_ := Aside0.mk (blk_below (g := gb192) (o := .cells #[.int .i8 a0_0, .int .i8 a0_1, .slice A0_2 l0_2.length c0_2] 25 (0, 0)) (by (with_reducible repeat (first | refine blk_drewN ?_ _ | refine blk_drew ?_ | refine blk_alloc ?_ _)); exact BK192.out) hb); have n2_ := Aside0.mk (below_step (by repeat (first | (with_reducible first | exact HB.out | apply below_alloc | apply pw_below_drewN | apply below_drew1 | refine below_set ?_ GE192.out) | exact HB.out)) hb); clear BK192; clear HB; have HO198 := n0_; have BK192 := n1_; have HB := n2_; clear n0_ n1_ n2_; (try clear hb); (try clear hb2); (try clear hk); (try clear hi); (try clear ho0); obtain ⟨Ao15, co15, eo15⟩ := Kd.R_slice HO198.out; subst eo15) | ((with_reducible refine gate_callee (f := 45) rfl ?_); refine goesL_ (some 17) rfl rfl Try.func45 (by kernel_rfl) rfl #[.agg #[.int .i8 t194, .int .i8 t195, .slice Ao15 t196.length co15]] rfl (by (try simp only [List.map_toArray, List.map_cons, List.map_nil]); first | done | rfl | (simp only [List.length_drop, List.length_take]; rfl)) ?_; (with_reducible refine (spec_CountKinds.calls kj2 t194 t195 _ _ t196 t199 t200 t201 t202 t203 t204 t205 _ ?side1 ?side2 A9.out).mono ?_); (case side1 => repeat (first | exact (Kd.R_reads' HO198.out).2.2 | (with_reducible refine Kd.C_alloc ?_ _) | (with_reducible refine Kd.C_drewN ?_ _) | (with_reducible refine Kd.C_drew ?_))); (case side2 => exact (Kd.R_reads' HO198.out).2.1); rintro e w16 ⟨rfl, hb⟩; refine ⟨_, rfl, ?_⟩; have n0_ := Aside0.mk (Kd.R_below (by (with_reducible repeat (first | apply Kd.R_alloc | apply Kd.R_drewN | apply Kd.R_drew)); exact HO198.out) hb); have n1_ := Aside0.mk (blk_below (g := gb192) (o := .cells #[.int .i8 a0_0, .int .i8 a0_1, .slice A0_2 l0_2.length c0_2] 25 (0, 0)) (by (with_reducible repeat (first | refine blk_drewN ?_ _ | refine blk_drew ?_ | refine blk_alloc ?_ _)); exact BK192.out) hb); have n2_ := Aside0.mk (below_step (by repeat (first | (with_reducible first | exact HB.out | apply below_alloc | apply pw_below_drewN | apply below_drew1 | refine below_set ?_ GE192.out) | exact HB.out)) hb); clear HO198; clear BK192; clear HB; have HO198 := n0_; have BK192 := n1_; have HB := n2_; clear n0_ n1_ n2_; (try clear hb); (try clear hb2); (try clear hk); (try clear hi)) | ((with_reducible refine gate_dst (N := 4) rfl ?_); refine box_event ?hg (N := 4) ?hd (cs := #[.int .i64 0, .int .i64 0, .int .i64 0, .int .i64 0, .int .i64 0, .int .i64 0]) (t := 64) ?hr ?_; (case hd => rfl); (case hg => rfl); (case hr => first | (go_simp; done) | (go_simp; rfl)); intro gb206 hg w17 hbox hb; have n0_ := Aside0.mk (Kd.R_below (by (with_reducible repeat (first | apply Kd.R_alloc | apply Kd.R_drewN | apply Kd.R_drew)); exact HO198.out) hb); have n1_ := Aside0.mk (blk_below (g := gb192) (o := .cells #[.int .i8 a0_0, .int .i8 a0_1, .slice A0_2 l0_2.length c0_2] 25 (0, 0)) (by (with_reducible repeat (first | refine blk_drewN ?_ _ | refine blk_drew ?_ | refine blk_alloc ?_ _)); exact BK192.out) hb); have n2_ := Aside0.mk (below_step (by repeat (first | (with_reducible first | exact HB.out | apply below_alloc | apply pw_below_drewN | apply below_drew1 | refine below_set ?_ GE192.out) | exact HB.out)) hb); have n3_ := Aside0.mk (hbox); have n4_ := Aside0.mk ((by rw [hg]; exact (below_size (by repeat (first | (with_reducible first | exact HB.out | apply below_alloc | apply pw_below_drewN | apply below_drew1 | refine below_set ?_ GE192.out) | exact HB.out))) : w.heap.size ≤ gb206)); have n5_ := Aside0.mk ((by rw [hg]; exact (below_size (by repeat (first | (with_reducible first | exact HB.out | apply below_alloc | apply pw_below_drewN | apply below_drew1 | refine below_set ?_ GE192.out) | exact HB.out))) : w.heap.size ≤ gb206)); have n6_ := Aside0.mk ((by rw [hg]; exact Nat.ne_of_lt (blk_lt (g := gb192) (o := .cells #[.int .i8 a0_0, .int .i8 a0_1, .slice A0_2 l0_2.length c0_2] 25 (0, 0)) (by (with_reducible repeat (first | refine blk_drewN ?_ _ | refine blk_drew ?_ | refine blk_alloc ?_ _)); exact BK192.out)) : gb192 ≠ gb206)); have n7_ := Aside0.mk ((by rw [hg]; exact Nat.ne_of_gt (blk_lt (g := gb192) (o := .cells #[.int .i8 a0_0, .int .i8 a0_1, .slice A0_2 l0_2.length c0_2] 25 (0, 0)) (by (with_reducible repeat (first | refine blk_drewN ?_ _ | refine blk_drew ?_ | refine blk_alloc ?_ _)); exact BK192.out)) : gb206 ≠ gb192)); clear HO198; clear BK192; clear HB; have HO198 := n0_; have BK192 := n1_; have HB := n2_; have BK206 := n3_; have GW206 := n4_; have GE206 := n5_; have NB192_206 := n6_; have NB206_192 := n7_; clear n0_ n1_ n2_ n3_ n4_ n5_ n6_ n7_; clear hb hbox hg; have hnb18 := NB206_192.out; have hnc18 := NB192_206.out; have hcz19_0 : w17.cell? ⟨gb206, 0, none⟩ = some (.int .i64 0) := (blk_cell BK206.out 0).trans rfl; have hcz19_1 : w17.cell? ⟨gb206, 1, none⟩ = some (.int .i64 0) := (blk_cell BK206.out 1).trans rfl; have hcz19_2 : w17.cell? ⟨gb206, 2, none⟩ = some (.int .i64 0) := (blk_cell BK206.out 2).trans rfl; have hcz19_3 : w17.cell? ⟨gb206, 3, none⟩ = some (.int .i64 0) := (blk_cell BK206.out 3).trans rfl; have hcz19_4 : w17.cell? ⟨gb206, 4, none⟩ = some (.int .i64 0) := (blk_cell BK206.out 4).trans rfl; have hcz19_5 : w17.cell? ⟨gb206, 5, none⟩ = some (.int .i64 0) := (blk_cell BK206.out 5).trans rfl; have hfz19_0 := blk_frozen BK206.out 0; have hfz19_1 := blk_frozen BK206.out 1; have hfz19_2 := blk_frozen BK206.out 2; have hfz19_3 := blk_frozen BK206.out 3; have hfz19_4 := blk_frozen BK206.out 4; have hfz19_5 := blk_frozen BK206.out 5; have hcz20_0 : w17.cell? ⟨gb192, 0, none⟩ = some (.int .i8 a0_0) := (blk_cell BK192.out 0).trans rfl; have hcz20_1 : w17.cell? ⟨gb192, 1, none⟩ = some (.int .i8 a0_1) := (blk_cell BK192.out 1).trans rfl; have hcz20_2 : w17.cell? ⟨gb192, 2, none⟩ = some (.slice A0_2 l0_2.length c0_2) := (blk_cell BK192.out 2).trans rfl; have hfz20_0 := blk_frozen BK192.out 0; have hfz20_1 := blk_frozen BK192.out 1; have hfz20_2 := blk_frozen BK192.out 2) | ((with_reducible refine gate_callee (f := 42) rfl ?_); refine goesL_ (some 21) rfl rfl Try.func42 (by kernel_rfl) rfl #[.agg #[.int .i8 a0_0, .int .i8 a0_1, .slice A0_2 l0_2.length c0_2]] rfl (by (try simp only [List.map_toArray, List.map_cons, List.map_nil]); first | done | rfl | (simp only [List.length_drop, List.length_take]; rfl)) ?_; (with_reducible refine (laws_toBoard.calls kj2 a0_0 a0_1 _ _ l0_2 t207 t208 t209 _ ?side1 ?side2 A10.out).mono ?_); (case side1 => exact Kd.C_below HR0_2.out (by repeat (first | (with_reducible first | exact HB.out | apply below_alloc | apply pw_below_drewN | apply below_drew1 | refine below_set ?_ GE192.out | refine below_set ?_ GE206.out) | exact HB.out))); (case side2 => exact HC0_2.out); rintro e w21 ⟨v210, rfl, ho0, hb⟩; refine ⟨_, rfl, ?_⟩; have n0_ := Aside0.mk (Kd.R_elder' (by (with_reducible repeat (first | apply Kd.R_alloc | apply Kd.R_drewN | apply Kd.R_drew)); exact (Kd.R_mono (Kd.R_far (p := ⟨gb206, 5, none⟩) (Kd.R_far (p := ⟨gb206, 4, none⟩) (Kd.R_far (p := ⟨gb206, 3, none⟩) (Kd.R_far (p := ⟨gb206, 2, none⟩) (Kd.R_far (p := ⟨gb206, 1, none⟩) (Kd.R_far (p := ⟨gb206, 0, none⟩) (Kd.R_types HO198.out BK206.out (by decide)) (fun _ hk => hk.2) (.int .i64 t199)) (fun _ hk => hk.2) (.int .i64 t200)) (fun _ hk => hk.2) (.int .i64 t201)) (fun _ hk => hk.2) (.int .i64 t202)) (fun _ hk => hk.2) (.int .i64 t203)) (fun _ hk => hk.2) (.int .i64 t204)) (fun _ h_ => h_.1))) (Kd.R_base ho0) hb); have n1_ := Aside0.mk (Kd.R_lower (Kd.R_new' ho0 (Kd.R_lt (by (with_reducible repeat (first | apply Kd.R_alloc | apply Kd.R_drewN | apply Kd.R_drew)); exact (Kd.R_mono (Kd.R_far (p := ⟨gb206, 5, none⟩) (Kd.R_far (p := ⟨gb206, 4, none⟩) (Kd.R_far (p := ⟨gb206, 3, none⟩) (Kd.R_far (p := ⟨gb206, 2, none⟩) (Kd.R_far (p := ⟨gb206, 1, none⟩) (Kd.R_far (p := ⟨gb206, 0, none⟩) (Kd.R_types HO198.out BK206.out (by decide)) (fun _ hk => hk.2) (.int .i64 t199)) (fun _ hk => hk.2) (.int .i64 t200)) (fun _ hk => hk.2) (.int .i64 t201)) (fun _ hk => hk.2) (.int .i64 t202)) (fun _ hk => hk.2) (.int .i64 t203)) (fun _ hk => hk.2) (.int .i64 t204)) (fun _ h_ => h_.1))))) (below_size (by repeat (first | (with_reducible first | exact HB.out | apply below_alloc | apply pw_below_drewN | apply below_drew1 | refine below_set ?_ GE192.out | refine below_set ?_ GE206.out) | exact HB.out)))); have n2_ := Aside0.mk (blk_below (g := gb192) (o := .cells #[.int .i8 a0_0, .int .i8 a0_1, .slice A0_2 l0_2.length c0_2] 25 (0, 0)) (by (with_reducible repeat (first | refine blk_drewN ?_ _ | refine blk_drew ?_ | refine blk_alloc ?_ _)); refine blk_far ?_ NB192_206.out _; (with_reducible repeat (first | refine blk_drewN ?_ _ | refine blk_drew ?_ | refine blk_alloc ?_ _)); refine blk_far ?_ NB192_206.out _; (with_reducible repeat (first | refine blk_drewN ?_ _ | refine blk_drew ?_ | refine blk_alloc ?_ _)); refine blk_far ?_ NB192_206.out _; (with_reducible repeat (first | refine blk_drewN ?_ _ | refine blk_drew ?_ | refine blk_alloc ?_ _)); refine blk_far ?_ NB192_206.out _; (with_reducible repeat (first | refine blk_drewN ?_ _ | refine blk_drew ?_ | refine blk_alloc ?_ _)); refine blk_far ?_ NB192_206.out _; (with_reducible repeat (first | refine blk_drewN ?_ _ | refine blk_drew ?_ | refine blk_alloc ?_ _)); refine blk_far ?_ NB192_206.out _; (with_reducible repeat (first | refine blk_drewN ?_ _ | refine blk_drew ?_ | refine blk_alloc ?_ _)); exact BK192.out) hb); have n3_ := Aside0.mk (blk_below (g := gb206) (o := .cells #[.int .i64 t199, .int .i64 t200, .int .i64 t201, .int .i64 t202, .int .i64 t203, .int .i64 t204] 64 (0, 0)) (by (with_reducible repeat (first | refine blk_drewN ?_ _ | refine blk_drew ?_ | refine blk_alloc ?_ _)); refine blk_put (cs := #[.int .i64 t199, .int .i64 t200, .int .i64 t201, .int .i64 t202, .int .i64 t203, .int .i64 0]) ?_ 5 _ rfl; (with_reducible repeat (first | refine blk_drewN ?_ _ | refine blk_drew ?_ | refine blk_alloc ?_ _)); refine blk_put (cs := #[.int .i64 t199, .int .i64 t200, .int .i64 t201, .int .i64 t202, .int .i64 0, .int .i64 0]) ?_ 4 _ rfl; (with_reducible repeat (first | refine blk_drewN ?_ _ | refine blk_drew ?_ | refine blk_alloc ?_ _)); refine blk_put (cs := #[.int .i64 t199, .int .i64 t200, .int .i64 t201, .int .i64 0, .int .i64 0, .int .i64 0]) ?_ 3 _ rfl; (with_reducible repeat (first | refine blk_drewN ?_ _ | refine blk_drew ?_ | refine blk_alloc ?_ _)); refine blk_put (cs := #[.int .i64 t199, .int .i64 t200, .int .i64 0, .int .i64 0, .int .i64 0, .int .i64 0]) ?_ 2 _ rfl; (with_reducible repeat (first | refine blk_drewN ?_ _ | refine blk_drew ?_ | refine blk_alloc ?_ _)); refine blk_put (cs := #[.int .i64 t199, .int .i64 0, .int .i64 0, .int .i64 0, .int .i64 0, .int .i64 0]) ?_ 1 _ rfl; (with_reducible repeat (first | refine blk_drewN ?_ _ | refine blk_drew ?_ | refine blk_alloc ?_ _)); refine blk_put (cs := #[.int .i64 0, .int .i64 0, .int .i64 0, .int .i64 0, .int .i64 0, .int .i64 0]) ?_ 0 _ rfl; (with_reducible repeat (first | refine blk_drewN ?_ _ | refine blk_drew ?_ | refine blk_alloc ?_ _)); exact BK206.out) hb); have n4_ := Aside0.mk (below_step (by repeat (first | (with_reducible first | exact HB.out | apply below_alloc | apply pw_below_drewN | apply below_drew1 | refine below_set ?_ GE192.out | refine below_set ?_ GE206.out) | exact HB.out)) hb); clear HO198; clear BK192; clear BK206; clear HB; have HO198 := n0_; have HO211 := n1_; have BK192 := n2_; have BK206 := n3_; have HB := n4_; clear n0_ n1_ n2_ n3_ n4_; (try clear hb); (try clear hb2); (try clear hk); (try clear hi); (try clear ho0)) | ((with_reducible refine gate_dst (N := 6) rfl ?_); refine box_event ?hg (N := 6) ?hd (cs := #[.int .i8 0, .int .i8 0, .slice none 0 0]) (t := 37) ?hr ?_; (case hd => rfl); (case hg => rfl); (case hr => first | (go_simp; done) | (go_simp; rfl)); intro gb212 hg w22 hbox hb; have n0_ := Aside0.mk (Kd.R_below (by (with_reducible repeat (first | apply Kd.R_alloc | apply Kd.R_drewN | apply Kd.R_drew)); exact HO198.out) hb); have n1_ := Aside0.mk (Kd.R_below (by (with_reducible repeat (first | apply Kd.R_alloc | apply Kd.R_drewN | apply Kd.R_drew)); exact HO211.out) hb); have n2_ := Aside0.mk (blk_below (g := gb192) (o := .cells #[.int .i8 a0_0, .int .i8 a0_1, .slice A0_2 l0_2.length c0_2] 25 (0, 0)) (by (with_reducible repeat (first | refine blk_drewN ?_ _ | refine blk_drew ?_ | refine blk_alloc ?_ _)); exact BK192.out) hb); have n3_ := Aside0.mk (blk_below (g := gb206) (o := .cells #[.int .i64 t199, .int .i64 t200, .int .i64 t201, .int .i64 t202, .int .i64 t203, .int .i64 t204] 64 (0, 0)) (by (with_reducible repeat (first | refine blk_drewN ?_ _ | refine blk_drew ?_ | refine blk_alloc ?_ _)); exact BK206.out) hb); have n4_ := Aside0.mk (below_step (by repeat (first | (with_reducible first | exact HB.out | apply below_alloc | apply pw_below_drewN | apply below_drew1 | refine below_set ?_ GE192.out | refine below_set ?_ GE206.out) | exact HB.out)) hb); have n5_ := Aside0.mk (hbox); have n6_ := Aside0.mk ((by rw [hg]; exact (below_size (by repeat (first | (with_reducible first | exact HB.out | apply below_alloc | apply pw_below_drewN | apply below_drew1 | refine below_set ?_ GE192.out | refine below_set ?_ GE206.out) | exact HB.out))) : w.heap.size ≤ gb212)); have n7_ := Aside0.mk ((by rw [hg]; exact (below_size (by repeat (first | (with_reducible first | exact HB.out | apply below_alloc | apply pw_below_drewN | apply below_drew1 | refine below_set ?_ GE192.out | refine below_set ?_ GE206.out) | exact HB.out))) : w.heap.size ≤ gb212)); have n8_ := Aside0.mk ((by rw [hg]; exact Nat.ne_of_lt (blk_lt (g := gb192) (o := .cells #[.int .i8 a0_0, .int .i8 a0_1, .slice A0_2 l0_2.length c0_2] 25 (0, 0)) (by (with_reducible repeat (first | refine blk_drewN ?_ _ | refine blk_drew ?_ | refine blk_alloc ?_ _)); exact BK192.out)) : gb192 ≠ gb212)); have n9_ := Aside0.mk ((by rw [hg]; exact Nat.ne_of_gt (blk_lt (g := gb192) (o := .cells #[.int .i8 a0_0, .int .i8 a0_1, .slice A0_2 l0_2.length c0_2] 25 (0, 0)) (by (with_reducible repeat (first | refine blk_drewN ?_ _ | refine blk_drew ?_ | refine blk_alloc ?_ _)); exact BK192.out)) : gb212 ≠ gb192)); have n10_ := Aside0.mk ((by rw [hg]; exact Nat.ne_of_lt (blk_lt (g := gb206) (o := .cells #[.int .i64 t199, .int .i64 t200, .int .i64 t201, .int .i64 t202, .int .i64 t203, .int .i64 t204] 64 (0, 0)) (by (with_reducible repeat (first | refine blk_drewN ?_ _ | refine blk_drew ?_ | refine blk_alloc ?_ _)); exact BK206.out)) : gb206 ≠ gb212)); have n11_ := Aside0.mk ((by rw [hg]; exact Nat.ne_of_gt (blk_lt (g := gb206) (o := .cells #[.int .i64 t199, .int .i64 t200, .int .i64 t201, .int .i64 t202, .int .i64 t203, .int .i64 t204] 64 (0, 0)) (by (with_reducible repeat (first | refine blk_drewN ?_ _ | refine blk_drew ?_ | refine blk_alloc ?_ _)); exact BK206.out)) : gb212 ≠ gb206)); clear HO198; clear HO211; clear BK192; clear BK206; clear HB; have HO198 := n0_; have HO211 := n1_; have BK192 := n2_; have BK206 := n3_; have HB := n4_; have BK212 := n5_; have GW212 := n6_; have GE212 := n7_; have NB192_212 := n8_; have NB212_192 := n9_; have NB206_212 := n10_; have NB212_206 := n11_; clear n0_ n1_ n2_ n3_ n4_ n5_ n6_ n7_ n8_ n9_ n10_ n11_; clear hb hbox hg; have hnb23 := NB212_192.out; have hnc23 := NB192_212.out; have hnb24 := NB212_206.out; have hnc24 := NB206_212.out; have hcz25_0 : w22.cell? ⟨gb212, 0, none⟩ = some (.int .i8 0) := (blk_cell BK212.out 0).trans rfl; have hcz25_1 : w22.cell? ⟨gb212, 1, none⟩ = some (.int .i8 0) := (blk_cell BK212.out 1).trans rfl; have hcz25_2 : w22.cell? ⟨gb212, 2, none⟩ = some (.slice none 0 0) := (blk_cell BK212.out 2).trans rfl; have hfz25_0 := blk_frozen BK212.out 0; have hfz25_1 := blk_frozen BK212.out 1; have hfz25_2 := blk_frozen BK212.out 2; obtain ⟨Ao26, co26, eo26⟩ := Kd.R_slice HO211.out; subst eo26) | ((with_reducible refine gate_callee (f := 46) rfl ?_); refine goesL_ (some 24) rfl rfl Try.func46 (by kernel_rfl) rfl #[.agg #[.int .i8 t207, .int .i8 t208, .slice Ao26 t209.length co26]] rfl (by (try simp only [List.map_toArray, List.map_cons, List.map_nil]); first | done | rfl | (simp only [List.length_drop, List.length_take]; rfl)) ?_; (with_reducible refine (impl_CountKinds.calls kj2 t207 t208 _ _ t209 t213 t214 t215 t216 t217 t218 t219 _ ?side1 ?side2 A11.out).mono ?_); (case side1 => refine (Kd.R_reads' (e := 91) (base := w.heap.size) (ok := fun k_ => (True ∧ some k_ ≠ (.slice Ao15 t196.length co15 : Value).ownBlock)) (n := t209.length) (c := co26) ?_).2.2; exact (by (with_reducible repeat (first | apply Kd.R_alloc | apply Kd.R_drewN | apply Kd.R_drew)); exact (Kd.R_mono (Kd.R_far (p := ⟨gb212, 2, none⟩) (Kd.R_far (p := ⟨gb212, 1, none⟩) (Kd.R_far (p := ⟨gb212, 0, none⟩) (Kd.R_types HO211.out BK212.out (by decide)) (fun _ hk => hk.2) (.int .i8 t207)) (fun _ hk => hk.2) (.int .i8 t208)) (fun _ hk => hk.2) (.slice Ao26 t209.length co26)) (fun _ h_ => h_.1)))); (case side2 => exact (Kd.R_reads' HO211.out).2.1); rintro e w27 ⟨rfl, hb⟩; refine ⟨_, rfl, ?_⟩; have n0_ := Aside0.mk (Kd.R_below (by (with_reducible repeat (first | apply Kd.R_alloc | apply Kd.R_drewN | apply Kd.R_drew)); exact (Kd.R_mono (Kd.R_far (p := ⟨gb212, 2, none⟩) (Kd.R_far (p := ⟨gb212, 1, none⟩) (Kd.R_far (p := ⟨gb212, 0, none⟩) (Kd.R_types HO198.out BK212.out (by decide)) (fun _ hk => hk.2) (.int .i8 t207)) (fun _ hk => hk.2) (.int .i8 t208)) (fun _ hk => hk.2) (.slice Ao26 t209.length co26)) (fun _ h_ => h_.1))) hb); have n1_ := Aside0.mk (Kd.R_below (by (with_reducible repeat (first | apply Kd.R_alloc | apply Kd.R_drewN | apply Kd.R_drew)); exact (Kd.R_mono (Kd.R_far (p := ⟨gb212, 2, none⟩) (Kd.R_far (p := ⟨gb212, 1, none⟩) (Kd.R_far (p := ⟨gb212, 0, none⟩) (Kd.R_types HO211.out BK212.out (by decide)) (fun _ hk => hk.2) (.int .i8 t207)) (fun _ hk => hk.2) (.int .i8 t208)) (fun _ hk => hk.2) (.slice Ao26 t209.length co26)) (fun _ h_ => h_.1))) hb); have n2_ := Aside0.mk (blk_below (g := gb192) (o := .cells #[.int .i8 a0_0, .int .i8 a0_1, .slice A0_2 l0_2.length c0_2] 25 (0, 0)) (by (with_reducible repeat (first | refine blk_drewN ?_ _ | refine blk_drew ?_ | refine blk_alloc ?_ _)); refine blk_far ?_ NB192_212.out _; (with_reducible repeat (first | refine blk_drewN ?_ _ | refine blk_drew ?_ | refine blk_alloc ?_ _)); refine blk_far ?_ NB192_212.out _; (with_reducible repeat (first | refine blk_drewN ?_ _ | refine blk_drew ?_ | refine blk_alloc ?_ _)); refine blk_far ?_ NB192_212.out _; (with_reducible repeat (first | refine blk_drewN ?_ _ | refine blk_drew ?_ | refine blk_alloc ?_ _)); exact BK192.out) hb); have n3_ := Aside0.mk (blk_below (g := gb206) (o := .cells #[.int .i64 t199, .int .i64 t200, .int .i64 t201, .int .i64 t202, .int .i64 t203, .int .i64 t204] 64 (0, 0)) (by (with_reducible repeat (first | refine blk_drewN ?_ _ | refine blk_drew ?_ | refine blk_alloc ?_ _)); refine blk_far ?_ NB206_212.out _; (with_reducible repeat (first | refine blk_drewN ?_ _ | refine blk_drew ?_ | refine blk_alloc ?_ _)); refine blk_far ?_ NB206_212.out _; (with_reducible repeat (first | refine blk_drewN ?_ _ | refine blk_drew ?_ | refine blk_alloc ?_ _)); refine blk_far ?_ NB206_212.out _; (with_reducible repeat (first | refine blk_drewN ?_ _ | refine blk_drew ?_ | refine blk_alloc ?_ _)); exact BK206.out) hb); have n4_ := Aside0.mk (blk_below (g := gb212) (o := .cells #[.int .i8 t207, .int .i8 t208, .slice Ao26 t209.length co26] 37 (0, 0)) (by (with_reducible repeat (first | refine blk_drewN ?_ _ | refine blk_drew ?_ | refine blk_alloc ?_ _)); refine blk_put (cs := #[.int .i8 t207, .int .i8 t208, .slice none 0 0]) ?_ 2 _ rfl; (with_reducible repeat (first | refine blk_drewN ?_ _ | refine blk_drew ?_ | refine blk_alloc ?_ _)); refine blk_put (cs := #[.int .i8 t207, .int .i8 0, .slice none 0 0]) ?_ 1 _ rfl; (with_reducible repeat (first | refine blk_drewN ?_ _ | refine blk_drew ?_ | refine blk_alloc ?_ _)); refine blk_put (cs := #[.int .i8 0, .int .i8 0, .slice none 0 0]) ?_ 0 _ rfl; (with_reducible repeat (first | refine blk_drewN ?_ _ | refine blk_drew ?_ | refine blk_alloc ?_ _)); exact BK212.out) hb); have n5_ := Aside0.mk (below_step (by repeat (first | (with_reducible first | exact HB.out | apply below_alloc | apply pw_below_drewN | apply below_drew1 | refine below_set ?_ GE192.out | refine below_set ?_ GE206.out | refine below_set ?_ GE212.out) | exact HB.out)) hb); clear HO198; clear HO211; clear BK192; clear BK206; clear BK212; clear HB; have HO198 := n0_; have HO211 := n1_; have BK192 := n2_; have BK206 := n3_; have BK212 := n4_; have HB := n5_; clear n0_ n1_ n2_ n3_ n4_ n5_; (try clear hb); (try clear hb2); (try clear hk); (try clear hi)) | ((with_reducible refine gate_dst (N := 7) rfl ?_); refine box_event ?hg (N := 7) ?hd (cs := #[.int .i64 0, .int .i64 0, .int .i64 0, .int .i64 0, .int .i64 0, .int .i64 0]) (t := 64) ?hr ?_; (case hd => rfl); (case hg => rfl); (case hr => first | (go_simp; done) | (go_simp; rfl)); intro gb220 hg w28 hbox hb; have n0_ := Aside0.mk (Kd.R_below (by (with_reducible repeat (first | apply Kd.R_alloc | apply Kd.R_drewN | apply Kd.R_drew)); exact HO198.out) hb); have n1_ := Aside0.mk (Kd.R_below (by (with_reducible repeat (first | apply Kd.R_alloc | apply Kd.R_drewN | apply Kd.R_drew)); exact HO211.out) hb); have n2_ := Aside0.mk (blk_below (g := gb192) (o := .cells #[.int .i8 a0_0, .int .i8 a0_1, .slice A0_2 l0_2.length c0_2] 25 (0, 0)) (by (with_reducible repeat (first | refine blk_drewN ?_ _ | refine blk_drew ?_ | refine blk_alloc ?_ _)); exact BK192.out) hb); have n3_ := Aside0.mk (blk_below (g := gb206) (o := .cells #[.int .i64 t199, .int .i64 t200, .int .i64 t201, .int .i64 t202, .int .i64 t203, .int .i64 t204] 64 (0, 0)) (by (with_reducible repeat (first | refine blk_drewN ?_ _ | refine blk_drew ?_ | refine blk_alloc ?_ _)); exact BK206.out) hb); have n4_ := Aside0.mk (blk_below (g := gb212) (o := .cells #[.int .i8 t207, .int .i8 t208, .slice Ao26 t209.length co26] 37 (0, 0)) (by (with_reducible repeat (first | refine blk_drewN ?_ _ | refine blk_drew ?_ | refine blk_alloc ?_ _)); exact BK212.out) hb); have n5_ := Aside0.mk (below_step (by repeat (first | (with_reducible first | exact HB.out | apply below_alloc | apply pw_below_drewN | apply below_drew1 | refine below_set ?_ GE192.out | refine below_set ?_ GE206.out | refine below_set ?_ GE212.out) | exact HB.out)) hb); have n6_ := Aside0.mk (hbox); have n7_ := Aside0.mk ((by rw [hg]; exact (below_size (by repeat (first | (with_reducible first | exact HB.out | apply below_alloc | apply pw_below_drewN | apply below_drew1 | refine below_set ?_ GE192.out | refine below_set ?_ GE206.out | refine below_set ?_ GE212.out) | exact HB.out))) : w.heap.size ≤ gb220)); have n8_ := Aside0.mk ((by rw [hg]; exact (below_size (by repeat (first | (with_reducible first | exact HB.out | apply below_alloc | apply pw_below_drewN | apply below_drew1 | refine below_set ?_ GE192.out | refine below_set ?_ GE206.out | refine below_set ?_ GE212.out) | exact HB.out))) : w.heap.size ≤ gb220)); have n9_ := Aside0.mk ((by rw [hg]; exact Nat.ne_of_lt (blk_lt (g := gb192) (o := .cells #[.int .i8 a0_0, .int .i8 a0_1, .slice A0_2 l0_2.length c0_2] 25 (0, 0)) (by (with_reducible repeat (first | refine blk_drewN ?_ _ | refine blk_drew ?_ | refine blk_alloc ?_ _)); exact BK192.out)) : gb192 ≠ gb220)); have n10_ := Aside0.mk ((by rw [hg]; exact Nat.ne_of_gt (blk_lt (g := gb192) (o := .cells #[.int .i8 a0_0, .int .i8 a0_1, .slice A0_2 l0_2.length c0_2] 25 (0, 0)) (by (with_reducible repeat (first | refine blk_drewN ?_ _ | refine blk_drew ?_ | refine blk_alloc ?_ _)); exact BK192.out)) : gb220 ≠ gb192)); have n11_ := Aside0.mk ((by rw [hg]; exact Nat.ne_of_lt (blk_lt (g := gb206) (o := .cells #[.int .i64 t199, .int .i64 t200, .int .i64 t201, .int .i64 t202, .int .i64 t203, .int .i64 t204] 64 (0, 0)) (by (with_reducible repeat (first | refine blk_drewN ?_ _ | refine blk_drew ?_ | refine blk_alloc ?_ _)); exact BK206.out)) : gb206 ≠ gb220)); have n12_ := Aside0.mk ((by rw [hg]; exact Nat.ne_of_gt (blk_lt (g := gb206) (o := .cells #[.int .i64 t199, .int .i64 t200, .int .i64 t201, .int .i64 t202, .int .i64 t203, .int .i64 t204] 64 (0, 0)) (by (with_reducible repeat (first | refine blk_drewN ?_ _ | refine blk_drew ?_ | refine blk_alloc ?_ _)); exact BK206.out)) : gb220 ≠ gb206)); have n13_ := Aside0.mk ((by rw [hg]; exact Nat.ne_of_lt (blk_lt (g := gb212) (o := .cells #[.int .i8 t207, .int .i8 t208, .slice Ao26 t209.length co26] 37 (0, 0)) (by (with_reducible repeat (first | refine blk_drewN ?_ _ | refine blk_drew ?_ | refine blk_alloc ?_ _)); exact BK212.out)) : gb212 ≠ gb220)); have n14_ := Aside0.mk ((by rw [hg]; exact Nat.ne_of_gt (blk_lt (g := gb212) (o := .cells #[.int .i8 t207, .int .i8 t208, .slice Ao26 t209.length co26] 37 (0, 0)) (by (with_reducible repeat (first | refine blk_drewN ?_ _ | refine blk_drew ?_ | refine blk_alloc ?_ _)); exact BK212.out)) : gb220 ≠ gb212)); clear HO198; clear HO211; clear BK192; clear BK206; clear BK212; clear HB; have HO198 := n0_; have HO211 := n1_; have BK192 := n2_; have BK206 := n3_; have BK212 := n4_; have HB := n5_; have BK220 := n6_; have GW220 := n7_; have GE220 := n8_; have NB192_220 := n9_; have NB220_192 := n10_; have NB206_220 := n11_; have NB220_206 := n12_; have NB212_220 := n13_; have NB220_212 := n14_; clear n0_ n1_ n2_ n3_ n4_ n5_ n6_ n7_ n8_ n9_ n10_ n11_ n12_ n13_ n14_; clear hb hbox hg; have hnb29 := NB220_192.out; have hnc29 := NB192_220.out; have hnb30 := NB220_206.out; have hnc30 := NB206_220.out; have hnb31 := NB220_212.out; have hnc31 := NB212_220.out; have hcz32_0 : w28.cell? ⟨gb220, 0, none⟩ = some (.int .i64 0) := (blk_cell BK220.out 0).trans rfl; have hcz32_1 : w28.cell? ⟨gb220, 1, none⟩ = some (.int .i64 0) := (blk_cell BK220.out 1).trans rfl; have hcz32_2 : w28.cell? ⟨gb220, 2, none⟩ = some (.int .i64 0) := (blk_cell BK220.out 2).trans rfl; have hcz32_3 : w28.cell? ⟨gb220, 3, none⟩ = some (.int .i64 0) := (blk_cell BK220.out 3).trans rfl; have hcz32_4 : w28.cell? ⟨gb220, 4, none⟩ = some (.int .i64 0) := (blk_cell BK220.out 4).trans rfl; have hcz32_5 : w28.cell? ⟨gb220, 5, none⟩ = some (.int .i64 0) := (blk_cell BK220.out 5).trans rfl; have hfz32_0 := blk_frozen BK220.out 0; have hfz32_1 := blk_frozen BK220.out 1; have hfz32_2 := blk_frozen BK220.out 2; have hfz32_3 := blk_frozen BK220.out 3; have hfz32_4 := blk_frozen BK220.out 4; have hfz32_5 := blk_frozen BK220.out 5))
      (try simp only [Act.put, List.setIfInBounds_toArray, List.set_cons_zero, List.set_cons_succ])
      go_cut [35] (fun v35 wc => ∃ (kq : Nat) (x35_11 : Bool), v35 = .bool x35_11 ∧ Aside0 (laws_FnExactCountKinds.j1 kq x35_11 a0_0 a0_1 l0_2 t207 t208 t209 = some r) ∧ Aside0 (kq ≤ kj2) ∧ Aside0 (Kd.R k91 91 wc w.heap.size (fun _ => True) (.slice Ao26 t209.length co26) t209) ∧ Aside0 (wc.heap[gb192]? = some (.cells #[.int .i8 a0_0, .int .i8 a0_1, (.slice A0_2 l0_2.length c0_2)] 25 (0, 0))) ∧ Aside0 (wc.heap[gb206]? = some (.cells #[.int .i64 t199, .int .i64 t200, .int .i64 t201, .int .i64 t202, .int .i64 t203, .int .i64 t204] 64 (0, 0))) ∧ Aside0 (wc.heap[gb212]? = some (.cells #[.int .i8 t207, .int .i8 t208, (.slice Ao26 t209.length co26)] 37 (0, 0))) ∧ Aside0 (wc.heap[gb220]? = some (.cells #[.int .i64 t213, .int .i64 t214, .int .i64 t215, .int .i64 t216, .int .i64 t217, .int .i64 t218] 64 (0, 0))) ∧ Aside0 (Below w.heap.size w wc))
      case first =>
        have H := HC12.out
        clear HC12
        replace H := Option.bind_eq_some_iff.mp H
        obtain ⟨t221, A330, H⟩ := H
        replace H : (if t221 = true then (laws_FnExactCountKinds.j1 kj2 (t219 != t205) a0_0 a0_1 l0_2 t207 t208 t209) else (laws_FnExactCountKinds.j1 kj2 true a0_0 a0_1 l0_2 t207 t208 t209)) = some r := H
        have A33 := Aside0.mk A330
        clear A330
        by_cases c34 : t221 = true
        · subst c34
          have H1 : (laws_FnExactCountKinds.j1 kj2 (t219 != t205) a0_0 a0_1 l0_2 t207 t208 t209) = some r := by rw [if_pos rfl] at H; exact H
          clear H
          have H := H1
          clear H1
          have H' := Aside0.mk H
          clear H
          have hnb35 := NB220_192.out
          have hnc35 := NB192_220.out
          have hnb36 := NB220_206.out
          have hnc36 := NB206_220.out
          have hnb37 := NB220_212.out
          have hnc37 := NB212_220.out
          have hcz38_0 : w28.cell? ⟨gb220, 0, none⟩ = some (.int .i64 0) := (blk_cell BK220.out 0).trans rfl
          have hcz38_1 : w28.cell? ⟨gb220, 1, none⟩ = some (.int .i64 0) := (blk_cell BK220.out 1).trans rfl
          have hcz38_2 : w28.cell? ⟨gb220, 2, none⟩ = some (.int .i64 0) := (blk_cell BK220.out 2).trans rfl
          have hcz38_3 : w28.cell? ⟨gb220, 3, none⟩ = some (.int .i64 0) := (blk_cell BK220.out 3).trans rfl
          have hcz38_4 : w28.cell? ⟨gb220, 4, none⟩ = some (.int .i64 0) := (blk_cell BK220.out 4).trans rfl
          have hcz38_5 : w28.cell? ⟨gb220, 5, none⟩ = some (.int .i64 0) := (blk_cell BK220.out 5).trans rfl
          have hfz38_0 := blk_frozen BK220.out 0
          have hfz38_1 := blk_frozen BK220.out 1
          have hfz38_2 := blk_frozen BK220.out 2
          have hfz38_3 := blk_frozen BK220.out 3
          have hfz38_4 := blk_frozen BK220.out 4
          have hfz38_5 := blk_frozen BK220.out 5
          have hnb39 := NB206_192.out
          have hnc39 := NB192_206.out
          have hnb40 := NB206_212.out
          have hnc40 := NB212_206.out
          have hcz41_0 : w28.cell? ⟨gb206, 0, none⟩ = some (.int .i64 t199) := (blk_cell BK206.out 0).trans rfl
          have hcz41_1 : w28.cell? ⟨gb206, 1, none⟩ = some (.int .i64 t200) := (blk_cell BK206.out 1).trans rfl
          have hcz41_2 : w28.cell? ⟨gb206, 2, none⟩ = some (.int .i64 t201) := (blk_cell BK206.out 2).trans rfl
          have hcz41_3 : w28.cell? ⟨gb206, 3, none⟩ = some (.int .i64 t202) := (blk_cell BK206.out 3).trans rfl
          have hcz41_4 : w28.cell? ⟨gb206, 4, none⟩ = some (.int .i64 t203) := (blk_cell BK206.out 4).trans rfl
          have hcz41_5 : w28.cell? ⟨gb206, 5, none⟩ = some (.int .i64 t204) := (blk_cell BK206.out 5).trans rfl
          have hfz41_0 := blk_frozen BK206.out 0
          have hfz41_1 := blk_frozen BK206.out 1
          have hfz41_2 := blk_frozen BK206.out 2
          have hfz41_3 := blk_frozen BK206.out 3
          have hfz41_4 := blk_frozen BK206.out 4
          have hfz41_5 := blk_frozen BK206.out 5
          go_wp2_with (first | ((with_reducible refine gate_callee (f := 47) rfl ?_); refine goesL_ (some 29) rfl rfl Try.func47 (by kernel_rfl) rfl #[.agg #[.int .i64 t213, .int .i64 t214, .int .i64 t215, .int .i64 t216, .int .i64 t217, .int .i64 t218], .agg #[.int .i64 t199, .int .i64 t200, .int .i64 t201, .int .i64 t202, .int .i64 t203, .int .i64 t204]] rfl (by (try simp only [List.map_toArray, List.map_cons, List.map_nil]); first | done | rfl | (simp only [List.length_drop, List.length_take]; rfl)) ?_; (with_reducible refine (laws_eqInt64A6.calls kj2 t213 t214 t215 t216 t217 t218 t199 t200 t201 t202 t203 t204 true _ A33.out).mono ?_); rintro e w42 ⟨rfl, hb⟩; refine ⟨_, rfl, ?_⟩; have n0_ := Aside0.mk (Kd.R_below (by (with_reducible repeat (first | apply Kd.R_alloc | apply Kd.R_drewN | apply Kd.R_drew)); exact (Kd.R_mono (Kd.R_far (p := ⟨gb220, 5, none⟩) (Kd.R_far (p := ⟨gb220, 4, none⟩) (Kd.R_far (p := ⟨gb220, 3, none⟩) (Kd.R_far (p := ⟨gb220, 2, none⟩) (Kd.R_far (p := ⟨gb220, 1, none⟩) (Kd.R_far (p := ⟨gb220, 0, none⟩) (Kd.R_types HO198.out BK220.out (by decide)) (fun _ hk => hk.2) (.int .i64 t213)) (fun _ hk => hk.2) (.int .i64 t214)) (fun _ hk => hk.2) (.int .i64 t215)) (fun _ hk => hk.2) (.int .i64 t216)) (fun _ hk => hk.2) (.int .i64 t217)) (fun _ hk => hk.2) (.int .i64 t218)) (fun _ h_ => h_.1))) hb); have n1_ := Aside0.mk (Kd.R_below (by (with_reducible repeat (first | apply Kd.R_alloc | apply Kd.R_drewN | apply Kd.R_drew)); exact (Kd.R_mono (Kd.R_far (p := ⟨gb220, 5, none⟩) (Kd.R_far (p := ⟨gb220, 4, none⟩) (Kd.R_far (p := ⟨gb220, 3, none⟩) (Kd.R_far (p := ⟨gb220, 2, none⟩) (Kd.R_far (p := ⟨gb220, 1, none⟩) (Kd.R_far (p := ⟨gb220, 0, none⟩) (Kd.R_types HO211.out BK220.out (by decide)) (fun _ hk => hk.2) (.int .i64 t213)) (fun _ hk => hk.2) (.int .i64 t214)) (fun _ hk => hk.2) (.int .i64 t215)) (fun _ hk => hk.2) (.int .i64 t216)) (fun _ hk => hk.2) (.int .i64 t217)) (fun _ hk => hk.2) (.int .i64 t218)) (fun _ h_ => h_.1))) hb); have n2_ := Aside0.mk (blk_below (g := gb192) (o := .cells #[.int .i8 a0_0, .int .i8 a0_1, .slice A0_2 l0_2.length c0_2] 25 (0, 0)) (by (with_reducible repeat (first | refine blk_drewN ?_ _ | refine blk_drew ?_ | refine blk_alloc ?_ _)); refine blk_far ?_ NB192_220.out _; (with_reducible repeat (first | refine blk_drewN ?_ _ | refine blk_drew ?_ | refine blk_alloc ?_ _)); refine blk_far ?_ NB192_220.out _; (with_reducible repeat (first | refine blk_drewN ?_ _ | refine blk_drew ?_ | refine blk_alloc ?_ _)); refine blk_far ?_ NB192_220.out _; (with_reducible repeat (first | refine blk_drewN ?_ _ | refine blk_drew ?_ | refine blk_alloc ?_ _)); refine blk_far ?_ NB192_220.out _; (with_reducible repeat (first | refine blk_drewN ?_ _ | refine blk_drew ?_ | refine blk_alloc ?_ _)); refine blk_far ?_ NB192_220.out _; (with_reducible repeat (first | refine blk_drewN ?_ _ | refine blk_drew ?_ | refine blk_alloc ?_ _)); refine blk_far ?_ NB192_220.out _; (with_reducible repeat (first | refine blk_drewN ?_ _ | refine blk_drew ?_ | refine blk_alloc ?_ _)); exact BK192.out) hb); have n3_ := Aside0.mk (blk_below (g := gb206) (o := .cells #[.int .i64 t199, .int .i64 t200, .int .i64 t201, .int .i64 t202, .int .i64 t203, .int .i64 t204] 64 (0, 0)) (by (with_reducible repeat (first | refine blk_drewN ?_ _ | refine blk_drew ?_ | refine blk_alloc ?_ _)); refine blk_far ?_ NB206_220.out _; (with_reducible repeat (first | refine blk_drewN ?_ _ | refine blk_drew ?_ | refine blk_alloc ?_ _)); refine blk_far ?_ NB206_220.out _; (with_reducible repeat (first | refine blk_drewN ?_ _ | refine blk_drew ?_ | refine blk_alloc ?_ _)); refine blk_far ?_ NB206_220.out _; (with_reducible repeat (first | refine blk_drewN ?_ _ | refine blk_drew ?_ | refine blk_alloc ?_ _)); refine blk_far ?_ NB206_220.out _; (with_reducible repeat (first | refine blk_drewN ?_ _ | refine blk_drew ?_ | refine blk_alloc ?_ _)); refine blk_far ?_ NB206_220.out _; (with_reducible repeat (first | refine blk_drewN ?_ _ | refine blk_drew ?_ | refine blk_alloc ?_ _)); refine blk_far ?_ NB206_220.out _; (with_reducible repeat (first | refine blk_drewN ?_ _ | refine blk_drew ?_ | refine blk_alloc ?_ _)); exact BK206.out) hb); have n4_ := Aside0.mk (blk_below (g := gb212) (o := .cells #[.int .i8 t207, .int .i8 t208, .slice Ao26 t209.length co26] 37 (0, 0)) (by (with_reducible repeat (first | refine blk_drewN ?_ _ | refine blk_drew ?_ | refine blk_alloc ?_ _)); refine blk_far ?_ NB212_220.out _; (with_reducible repeat (first | refine blk_drewN ?_ _ | refine blk_drew ?_ | refine blk_alloc ?_ _)); refine blk_far ?_ NB212_220.out _; (with_reducible repeat (first | refine blk_drewN ?_ _ | refine blk_drew ?_ | refine blk_alloc ?_ _)); refine blk_far ?_ NB212_220.out _; (with_reducible repeat (first | refine blk_drewN ?_ _ | refine blk_drew ?_ | refine blk_alloc ?_ _)); refine blk_far ?_ NB212_220.out _; (with_reducible repeat (first | refine blk_drewN ?_ _ | refine blk_drew ?_ | refine blk_alloc ?_ _)); refine blk_far ?_ NB212_220.out _; (with_reducible repeat (first | refine blk_drewN ?_ _ | refine blk_drew ?_ | refine blk_alloc ?_ _)); refine blk_far ?_ NB212_220.out _; (with_reducible repeat (first | refine blk_drewN ?_ _ | refine blk_drew ?_ | refine blk_alloc ?_ _)); exact BK212.out) hb); have n5_ := Aside0.mk (blk_below (g := gb220) (o := .cells #[.int .i64 t213, .int .i64 t214, .int .i64 t215, .int .i64 t216, .int .i64 t217, .int .i64 t218] 64 (0, 0)) (by (with_reducible repeat (first | refine blk_drewN ?_ _ | refine blk_drew ?_ | refine blk_alloc ?_ _)); refine blk_put (cs := #[.int .i64 t213, .int .i64 t214, .int .i64 t215, .int .i64 t216, .int .i64 t217, .int .i64 0]) ?_ 5 _ rfl; (with_reducible repeat (first | refine blk_drewN ?_ _ | refine blk_drew ?_ | refine blk_alloc ?_ _)); refine blk_put (cs := #[.int .i64 t213, .int .i64 t214, .int .i64 t215, .int .i64 t216, .int .i64 0, .int .i64 0]) ?_ 4 _ rfl; (with_reducible repeat (first | refine blk_drewN ?_ _ | refine blk_drew ?_ | refine blk_alloc ?_ _)); refine blk_put (cs := #[.int .i64 t213, .int .i64 t214, .int .i64 t215, .int .i64 0, .int .i64 0, .int .i64 0]) ?_ 3 _ rfl; (with_reducible repeat (first | refine blk_drewN ?_ _ | refine blk_drew ?_ | refine blk_alloc ?_ _)); refine blk_put (cs := #[.int .i64 t213, .int .i64 t214, .int .i64 0, .int .i64 0, .int .i64 0, .int .i64 0]) ?_ 2 _ rfl; (with_reducible repeat (first | refine blk_drewN ?_ _ | refine blk_drew ?_ | refine blk_alloc ?_ _)); refine blk_put (cs := #[.int .i64 t213, .int .i64 0, .int .i64 0, .int .i64 0, .int .i64 0, .int .i64 0]) ?_ 1 _ rfl; (with_reducible repeat (first | refine blk_drewN ?_ _ | refine blk_drew ?_ | refine blk_alloc ?_ _)); refine blk_put (cs := #[.int .i64 0, .int .i64 0, .int .i64 0, .int .i64 0, .int .i64 0, .int .i64 0]) ?_ 0 _ rfl; (with_reducible repeat (first | refine blk_drewN ?_ _ | refine blk_drew ?_ | refine blk_alloc ?_ _)); exact BK220.out) hb); have n6_ := Aside0.mk (below_step (by repeat (first | (with_reducible first | exact HB.out | apply below_alloc | apply pw_below_drewN | apply below_drew1 | refine below_set ?_ GE192.out | refine below_set ?_ GE206.out | refine below_set ?_ GE212.out | refine below_set ?_ GE220.out) | exact HB.out)) hb); clear HO198; clear HO211; clear BK192; clear BK206; clear BK212; clear BK220; clear HB; have HO198 := n0_; have HO211 := n1_; have BK192 := n2_; have BK206 := n3_; have BK212 := n4_; have BK220 := n5_; have HB := n6_; clear n0_ n1_ n2_ n3_ n4_ n5_ n6_; (try clear hb); (try clear hb2); (try clear hk); (try clear hi)))
          go_meet
          case rel => exact ⟨_, ((t219 != t205)), (by first | rfl | (simp; done) | (simp [*]; done) | (exact congrArg (Value.int .i64) (wrap_eq (by omega)))), H', ⟨by have := HJ2.out; first | omega | exact Nat.le_refl _⟩, ⟨by (with_reducible repeat (first | apply Kd.R_alloc | apply Kd.R_drewN | apply Kd.R_drew)); exact Kd.R_mono HO211.out (fun _ hk => trivial)⟩, ⟨by (with_reducible repeat (first | refine blk_drewN ?_ _ | refine blk_drew ?_ | refine blk_alloc ?_ _)); exact BK192.out⟩, ⟨by (with_reducible repeat (first | refine blk_drewN ?_ _ | refine blk_drew ?_ | refine blk_alloc ?_ _)); exact BK206.out⟩, ⟨by (with_reducible repeat (first | refine blk_drewN ?_ _ | refine blk_drew ?_ | refine blk_alloc ?_ _)); exact BK212.out⟩, ⟨by (with_reducible repeat (first | refine blk_drewN ?_ _ | refine blk_drew ?_ | refine blk_alloc ?_ _)); exact BK220.out⟩, ⟨by repeat (first | (with_reducible first | exact HB.out | apply below_alloc | apply pw_below_drewN | apply below_drew1 | refine below_set ?_ GE192.out | refine below_set ?_ GE206.out | refine below_set ?_ GE212.out | refine below_set ?_ GE220.out) | exact HB.out)⟩⟩
        · replace c34 := Bool.eq_false_iff.mpr c34
          subst c34
          have H1 : (laws_FnExactCountKinds.j1 kj2 true a0_0 a0_1 l0_2 t207 t208 t209) = some r := by rw [if_neg (show ¬ (false = true) by decide)] at H; exact H
          clear H
          have H := H1
          clear H1
          have H' := Aside0.mk H
          clear H
          have hnb43 := NB220_192.out
          have hnc43 := NB192_220.out
          have hnb44 := NB220_206.out
          have hnc44 := NB206_220.out
          have hnb45 := NB220_212.out
          have hnc45 := NB212_220.out
          have hcz46_0 : w28.cell? ⟨gb220, 0, none⟩ = some (.int .i64 0) := (blk_cell BK220.out 0).trans rfl
          have hcz46_1 : w28.cell? ⟨gb220, 1, none⟩ = some (.int .i64 0) := (blk_cell BK220.out 1).trans rfl
          have hcz46_2 : w28.cell? ⟨gb220, 2, none⟩ = some (.int .i64 0) := (blk_cell BK220.out 2).trans rfl
          have hcz46_3 : w28.cell? ⟨gb220, 3, none⟩ = some (.int .i64 0) := (blk_cell BK220.out 3).trans rfl
          have hcz46_4 : w28.cell? ⟨gb220, 4, none⟩ = some (.int .i64 0) := (blk_cell BK220.out 4).trans rfl
          have hcz46_5 : w28.cell? ⟨gb220, 5, none⟩ = some (.int .i64 0) := (blk_cell BK220.out 5).trans rfl
          have hfz46_0 := blk_frozen BK220.out 0
          have hfz46_1 := blk_frozen BK220.out 1
          have hfz46_2 := blk_frozen BK220.out 2
          have hfz46_3 := blk_frozen BK220.out 3
          have hfz46_4 := blk_frozen BK220.out 4
          have hfz46_5 := blk_frozen BK220.out 5
          have hnb47 := NB206_192.out
          have hnc47 := NB192_206.out
          have hnb48 := NB206_212.out
          have hnc48 := NB212_206.out
          have hcz49_0 : w28.cell? ⟨gb206, 0, none⟩ = some (.int .i64 t199) := (blk_cell BK206.out 0).trans rfl
          have hcz49_1 : w28.cell? ⟨gb206, 1, none⟩ = some (.int .i64 t200) := (blk_cell BK206.out 1).trans rfl
          have hcz49_2 : w28.cell? ⟨gb206, 2, none⟩ = some (.int .i64 t201) := (blk_cell BK206.out 2).trans rfl
          have hcz49_3 : w28.cell? ⟨gb206, 3, none⟩ = some (.int .i64 t202) := (blk_cell BK206.out 3).trans rfl
          have hcz49_4 : w28.cell? ⟨gb206, 4, none⟩ = some (.int .i64 t203) := (blk_cell BK206.out 4).trans rfl
          have hcz49_5 : w28.cell? ⟨gb206, 5, none⟩ = some (.int .i64 t204) := (blk_cell BK206.out 5).trans rfl
          have hfz49_0 := blk_frozen BK206.out 0
          have hfz49_1 := blk_frozen BK206.out 1
          have hfz49_2 := blk_frozen BK206.out 2
          have hfz49_3 := blk_frozen BK206.out 3
          have hfz49_4 := blk_frozen BK206.out 4
          have hfz49_5 := blk_frozen BK206.out 5
          go_wp2_with (first | ((with_reducible refine gate_callee (f := 47) rfl ?_); refine goesL_ (some 29) rfl rfl Try.func47 (by kernel_rfl) rfl #[.agg #[.int .i64 t213, .int .i64 t214, .int .i64 t215, .int .i64 t216, .int .i64 t217, .int .i64 t218], .agg #[.int .i64 t199, .int .i64 t200, .int .i64 t201, .int .i64 t202, .int .i64 t203, .int .i64 t204]] rfl (by (try simp only [List.map_toArray, List.map_cons, List.map_nil]); first | done | rfl | (simp only [List.length_drop, List.length_take]; rfl)) ?_; (with_reducible refine (laws_eqInt64A6.calls kj2 t213 t214 t215 t216 t217 t218 t199 t200 t201 t202 t203 t204 false _ A33.out).mono ?_); rintro e w50 ⟨rfl, hb⟩; refine ⟨_, rfl, ?_⟩; have n0_ := Aside0.mk (Kd.R_below (by (with_reducible repeat (first | apply Kd.R_alloc | apply Kd.R_drewN | apply Kd.R_drew)); exact (Kd.R_mono (Kd.R_far (p := ⟨gb220, 5, none⟩) (Kd.R_far (p := ⟨gb220, 4, none⟩) (Kd.R_far (p := ⟨gb220, 3, none⟩) (Kd.R_far (p := ⟨gb220, 2, none⟩) (Kd.R_far (p := ⟨gb220, 1, none⟩) (Kd.R_far (p := ⟨gb220, 0, none⟩) (Kd.R_types HO198.out BK220.out (by decide)) (fun _ hk => hk.2) (.int .i64 t213)) (fun _ hk => hk.2) (.int .i64 t214)) (fun _ hk => hk.2) (.int .i64 t215)) (fun _ hk => hk.2) (.int .i64 t216)) (fun _ hk => hk.2) (.int .i64 t217)) (fun _ hk => hk.2) (.int .i64 t218)) (fun _ h_ => h_.1))) hb); have n1_ := Aside0.mk (Kd.R_below (by (with_reducible repeat (first | apply Kd.R_alloc | apply Kd.R_drewN | apply Kd.R_drew)); exact (Kd.R_mono (Kd.R_far (p := ⟨gb220, 5, none⟩) (Kd.R_far (p := ⟨gb220, 4, none⟩) (Kd.R_far (p := ⟨gb220, 3, none⟩) (Kd.R_far (p := ⟨gb220, 2, none⟩) (Kd.R_far (p := ⟨gb220, 1, none⟩) (Kd.R_far (p := ⟨gb220, 0, none⟩) (Kd.R_types HO211.out BK220.out (by decide)) (fun _ hk => hk.2) (.int .i64 t213)) (fun _ hk => hk.2) (.int .i64 t214)) (fun _ hk => hk.2) (.int .i64 t215)) (fun _ hk => hk.2) (.int .i64 t216)) (fun _ hk => hk.2) (.int .i64 t217)) (fun _ hk => hk.2) (.int .i64 t218)) (fun _ h_ => h_.1))) hb); have n2_ := Aside0.mk (blk_below (g := gb192) (o := .cells #[.int .i8 a0_0, .int .i8 a0_1, .slice A0_2 l0_2.length c0_2] 25 (0, 0)) (by (with_reducible repeat (first | refine blk_drewN ?_ _ | refine blk_drew ?_ | refine blk_alloc ?_ _)); refine blk_far ?_ NB192_220.out _; (with_reducible repeat (first | refine blk_drewN ?_ _ | refine blk_drew ?_ | refine blk_alloc ?_ _)); refine blk_far ?_ NB192_220.out _; (with_reducible repeat (first | refine blk_drewN ?_ _ | refine blk_drew ?_ | refine blk_alloc ?_ _)); refine blk_far ?_ NB192_220.out _; (with_reducible repeat (first | refine blk_drewN ?_ _ | refine blk_drew ?_ | refine blk_alloc ?_ _)); refine blk_far ?_ NB192_220.out _; (with_reducible repeat (first | refine blk_drewN ?_ _ | refine blk_drew ?_ | refine blk_alloc ?_ _)); refine blk_far ?_ NB192_220.out _; (with_reducible repeat (first | refine blk_drewN ?_ _ | refine blk_drew ?_ | refine blk_alloc ?_ _)); refine blk_far ?_ NB192_220.out _; (with_reducible repeat (first | refine blk_drewN ?_ _ | refine blk_drew ?_ | refine blk_alloc ?_ _)); exact BK192.out) hb); have n3_ := Aside0.mk (blk_below (g := gb206) (o := .cells #[.int .i64 t199, .int .i64 t200, .int .i64 t201, .int .i64 t202, .int .i64 t203, .int .i64 t204] 64 (0, 0)) (by (with_reducible repeat (first | refine blk_drewN ?_ _ | refine blk_drew ?_ | refine blk_alloc ?_ _)); refine blk_far ?_ NB206_220.out _; (with_reducible repeat (first | refine blk_drewN ?_ _ | refine blk_drew ?_ | refine blk_alloc ?_ _)); refine blk_far ?_ NB206_220.out _; (with_reducible repeat (first | refine blk_drewN ?_ _ | refine blk_drew ?_ | refine blk_alloc ?_ _)); refine blk_far ?_ NB206_220.out _; (with_reducible repeat (first | refine blk_drewN ?_ _ | refine blk_drew ?_ | refine blk_alloc ?_ _)); refine blk_far ?_ NB206_220.out _; (with_reducible repeat (first | refine blk_drewN ?_ _ | refine blk_drew ?_ | refine blk_alloc ?_ _)); refine blk_far ?_ NB206_220.out _; (with_reducible repeat (first | refine blk_drewN ?_ _ | refine blk_drew ?_ | refine blk_alloc ?_ _)); refine blk_far ?_ NB206_220.out _; (with_reducible repeat (first | refine blk_drewN ?_ _ | refine blk_drew ?_ | refine blk_alloc ?_ _)); exact BK206.out) hb); have n4_ := Aside0.mk (blk_below (g := gb212) (o := .cells #[.int .i8 t207, .int .i8 t208, .slice Ao26 t209.length co26] 37 (0, 0)) (by (with_reducible repeat (first | refine blk_drewN ?_ _ | refine blk_drew ?_ | refine blk_alloc ?_ _)); refine blk_far ?_ NB212_220.out _; (with_reducible repeat (first | refine blk_drewN ?_ _ | refine blk_drew ?_ | refine blk_alloc ?_ _)); refine blk_far ?_ NB212_220.out _; (with_reducible repeat (first | refine blk_drewN ?_ _ | refine blk_drew ?_ | refine blk_alloc ?_ _)); refine blk_far ?_ NB212_220.out _; (with_reducible repeat (first | refine blk_drewN ?_ _ | refine blk_drew ?_ | refine blk_alloc ?_ _)); refine blk_far ?_ NB212_220.out _; (with_reducible repeat (first | refine blk_drewN ?_ _ | refine blk_drew ?_ | refine blk_alloc ?_ _)); refine blk_far ?_ NB212_220.out _; (with_reducible repeat (first | refine blk_drewN ?_ _ | refine blk_drew ?_ | refine blk_alloc ?_ _)); refine blk_far ?_ NB212_220.out _; (with_reducible repeat (first | refine blk_drewN ?_ _ | refine blk_drew ?_ | refine blk_alloc ?_ _)); exact BK212.out) hb); have n5_ := Aside0.mk (blk_below (g := gb220) (o := .cells #[.int .i64 t213, .int .i64 t214, .int .i64 t215, .int .i64 t216, .int .i64 t217, .int .i64 t218] 64 (0, 0)) (by (with_reducible repeat (first | refine blk_drewN ?_ _ | refine blk_drew ?_ | refine blk_alloc ?_ _)); refine blk_put (cs := #[.int .i64 t213, .int .i64 t214, .int .i64 t215, .int .i64 t216, .int .i64 t217, .int .i64 0]) ?_ 5 _ rfl; (with_reducible repeat (first | refine blk_drewN ?_ _ | refine blk_drew ?_ | refine blk_alloc ?_ _)); refine blk_put (cs := #[.int .i64 t213, .int .i64 t214, .int .i64 t215, .int .i64 t216, .int .i64 0, .int .i64 0]) ?_ 4 _ rfl; (with_reducible repeat (first | refine blk_drewN ?_ _ | refine blk_drew ?_ | refine blk_alloc ?_ _)); refine blk_put (cs := #[.int .i64 t213, .int .i64 t214, .int .i64 t215, .int .i64 0, .int .i64 0, .int .i64 0]) ?_ 3 _ rfl; (with_reducible repeat (first | refine blk_drewN ?_ _ | refine blk_drew ?_ | refine blk_alloc ?_ _)); refine blk_put (cs := #[.int .i64 t213, .int .i64 t214, .int .i64 0, .int .i64 0, .int .i64 0, .int .i64 0]) ?_ 2 _ rfl; (with_reducible repeat (first | refine blk_drewN ?_ _ | refine blk_drew ?_ | refine blk_alloc ?_ _)); refine blk_put (cs := #[.int .i64 t213, .int .i64 0, .int .i64 0, .int .i64 0, .int .i64 0, .int .i64 0]) ?_ 1 _ rfl; (with_reducible repeat (first | refine blk_drewN ?_ _ | refine blk_drew ?_ | refine blk_alloc ?_ _)); refine blk_put (cs := #[.int .i64 0, .int .i64 0, .int .i64 0, .int .i64 0, .int .i64 0, .int .i64 0]) ?_ 0 _ rfl; (with_reducible repeat (first | refine blk_drewN ?_ _ | refine blk_drew ?_ | refine blk_alloc ?_ _)); exact BK220.out) hb); have n6_ := Aside0.mk (below_step (by repeat (first | (with_reducible first | exact HB.out | apply below_alloc | apply pw_below_drewN | apply below_drew1 | refine below_set ?_ GE192.out | refine below_set ?_ GE206.out | refine below_set ?_ GE212.out | refine below_set ?_ GE220.out) | exact HB.out)) hb); clear HO198; clear HO211; clear BK192; clear BK206; clear BK212; clear BK220; clear HB; have HO198 := n0_; have HO211 := n1_; have BK192 := n2_; have BK206 := n3_; have BK212 := n4_; have BK220 := n5_; have HB := n6_; clear n0_ n1_ n2_ n3_ n4_ n5_ n6_; (try clear hb); (try clear hb2); (try clear hk); (try clear hi)))
          go_meet
          case rel => exact ⟨_, (true), (by first | rfl | (simp; done) | (simp [*]; done) | (exact congrArg (Value.int .i64) (wrap_eq (by omega)))), H', ⟨by have := HJ2.out; first | omega | exact Nat.le_refl _⟩, ⟨by (with_reducible repeat (first | apply Kd.R_alloc | apply Kd.R_drewN | apply Kd.R_drew)); exact Kd.R_mono HO211.out (fun _ hk => trivial)⟩, ⟨by (with_reducible repeat (first | refine blk_drewN ?_ _ | refine blk_drew ?_ | refine blk_alloc ?_ _)); exact BK192.out⟩, ⟨by (with_reducible repeat (first | refine blk_drewN ?_ _ | refine blk_drew ?_ | refine blk_alloc ?_ _)); exact BK206.out⟩, ⟨by (with_reducible repeat (first | refine blk_drewN ?_ _ | refine blk_drew ?_ | refine blk_alloc ?_ _)); exact BK212.out⟩, ⟨by (with_reducible repeat (first | refine blk_drewN ?_ _ | refine blk_drew ?_ | refine blk_alloc ?_ _)); exact BK220.out⟩, ⟨by repeat (first | (with_reducible first | exact HB.out | apply below_alloc | apply pw_below_drewN | apply below_drew1 | refine below_set ?_ GE192.out | refine below_set ?_ GE206.out | refine below_set ?_ GE212.out | refine below_set ?_ GE220.out) | exact HB.out)⟩⟩
      case rest =>
        clear HC12
        try clear c1
        try clear c2
        try clear p2
        try clear c3
        try clear c4
        try clear c7
        try clear c7b0
        try clear c18
        try clear c23
        try clear c24
        try clear c29
        try clear c30
        try clear c31
        try clear c34
        try clear c35
        try clear c36
        try clear c37
        try clear c39
        try clear c40
        try clear c42
        try clear c43
        try clear c44
        try clear c45
        try clear c46
        try clear c47
        try clear c48
        try clear hcz13_0
        try clear hcz13_1
        try clear hcz13_2
        try clear hcz19_0
        try clear hcz19_1
        try clear hcz19_2
        try clear hcz19_3
        try clear hcz19_4
        try clear hcz19_5
        try clear hcz20_0
        try clear hcz20_1
        try clear hcz20_2
        try clear hcz25_0
        try clear hcz25_1
        try clear hcz25_2
        try clear hcz32_0
        try clear hcz32_1
        try clear hcz32_2
        try clear hcz32_3
        try clear hcz32_4
        try clear hcz32_5
        try clear hcz38_0
        try clear hcz38_1
        try clear hcz38_2
        try clear hcz38_3
        try clear hcz38_4
        try clear hcz38_5
        try clear hcz41_0
        try clear hcz41_1
        try clear hcz41_2
        try clear hcz41_3
        try clear hcz41_4
        try clear hcz41_5
        try clear hcz46_0
        try clear hcz46_1
        try clear hcz46_2
        try clear hcz46_3
        try clear hcz46_4
        try clear hcz46_5
        try clear hcz49_0
        try clear hcz49_1
        try clear hcz49_2
        try clear hcz49_3
        try clear hcz49_4
        try clear hcz49_5
        try clear hcz5_0
        try clear hcz5_1
        try clear hcz5_2
        try clear hfz13_0
        try clear hfz13_1
        try clear hfz13_2
        try clear hfz19_0
        try clear hfz19_1
        try clear hfz19_2
        try clear hfz19_3
        try clear hfz19_4
        try clear hfz19_5
        try clear hfz20_0
        try clear hfz20_1
        try clear hfz20_2
        try clear hfz25_0
        try clear hfz25_1
        try clear hfz25_2
        try clear hfz32_0
        try clear hfz32_1
        try clear hfz32_2
        try clear hfz32_3
        try clear hfz32_4
        try clear hfz32_5
        try clear hfz38_0
        try clear hfz38_1
        try clear hfz38_2
        try clear hfz38_3
        try clear hfz38_4
        try clear hfz38_5
        try clear hfz41_0
        try clear hfz41_1
        try clear hfz41_2
        try clear hfz41_3
        try clear hfz41_4
        try clear hfz41_5
        try clear hfz46_0
        try clear hfz46_1
        try clear hfz46_2
        try clear hfz46_3
        try clear hfz46_4
        try clear hfz46_5
        try clear hfz49_0
        try clear hfz49_1
        try clear hfz49_2
        try clear hfz49_3
        try clear hfz49_4
        try clear hfz49_5
        try clear hfz5_0
        try clear hfz5_1
        try clear hfz5_2
        try clear p2
        obtain ⟨kq, x35_11, rfl, HA, HJ11, HO_213002, BK192, BK206, BK212, BK220, HB⟩ := hcut
        cases kq with
        | zero => exact absurd HA.out (by simp [laws_FnExactCountKinds.j1])
        | succ kj11 =>
          have H := HA.out
          clear HA
          simp only [laws_FnExactCountKinds.j1] at H
          have HC51 := Aside0.mk H
          clear H
          go_upto_if 35 with (fail)
          go_cut [] (fun wc => ∃ (kq : Nat), Aside0 (laws_FnExactCountKinds.j2 kq a0_0 a0_1 l0_2 t207 t208 t209 = some r) ∧ Aside0 (kq ≤ kj11) ∧ Aside0 (Kd.R k91 91 wc w.heap.size (fun _ => True) (.slice Ao26 t209.length co26) t209) ∧ Aside0 (wc.heap[gb192]? = some (.cells #[.int .i8 a0_0, .int .i8 a0_1, (.slice A0_2 l0_2.length c0_2)] 25 (0, 0))) ∧ Aside0 (wc.heap[gb206]? = some (.cells #[.int .i64 t199, .int .i64 t200, .int .i64 t201, .int .i64 t202, .int .i64 t203, .int .i64 t204] 64 (0, 0))) ∧ Aside0 (wc.heap[gb212]? = some (.cells #[.int .i8 t207, .int .i8 t208, (.slice Ao26 t209.length co26)] 37 (0, 0))) ∧ Aside0 (wc.heap[gb220]? = some (.cells #[.int .i64 t213, .int .i64 t214, .int .i64 t215, .int .i64 t216, .int .i64 t217, .int .i64 t218] 64 (0, 0))) ∧ Aside0 (Below w.heap.size w wc))
          case first =>
            have H := HC51.out
            clear HC51
            by_cases c52 : x35_11 = true
            · subst c52
              have H1 : (some false) = some r := by rw [if_pos rfl] at H; exact H
              clear H
              have H := H1
              clear H1
              obtain rfl := Option.some.inj H
              go_wp2
              go_ret
              exact ⟨by first | rfl | (simp [errW_none, errW_some] <;> rfl) | (simp [*, errW_none, errW_some] <;> rfl), by repeat (first | (with_reducible first | exact HB.out | apply below_alloc | apply pw_below_drewN | apply below_drew1 | refine below_set ?_ GE192.out | refine below_set ?_ GE206.out | refine below_set ?_ GE212.out | refine below_set ?_ GE220.out) | exact HB.out)⟩
            · replace c52 := Bool.eq_false_iff.mpr c52
              subst c52
              have H1 : (laws_FnExactCountKinds.j2 kj11 a0_0 a0_1 l0_2 t207 t208 t209) = some r := by rw [if_neg (show ¬ (false = true) by decide)] at H; exact H
              clear H
              have H := H1
              clear H1
              have H' := Aside0.mk H
              clear H
              go_wp2
              go_meet
              case rel => exact ⟨_, H', ⟨by have := HJ2.out; have := HJ11.out; first | omega | exact Nat.le_refl _⟩, ⟨by (with_reducible repeat (first | apply Kd.R_alloc | apply Kd.R_drewN | apply Kd.R_drew)); exact HO_213002.out⟩, ⟨by (with_reducible repeat (first | refine blk_drewN ?_ _ | refine blk_drew ?_ | refine blk_alloc ?_ _)); exact BK192.out⟩, ⟨by (with_reducible repeat (first | refine blk_drewN ?_ _ | refine blk_drew ?_ | refine blk_alloc ?_ _)); exact BK206.out⟩, ⟨by (with_reducible repeat (first | refine blk_drewN ?_ _ | refine blk_drew ?_ | refine blk_alloc ?_ _)); exact BK212.out⟩, ⟨by (with_reducible repeat (first | refine blk_drewN ?_ _ | refine blk_drew ?_ | refine blk_alloc ?_ _)); exact BK220.out⟩, ⟨by repeat (first | (with_reducible first | exact HB.out | apply below_alloc | apply pw_below_drewN | apply below_drew1 | refine below_set ?_ GE192.out | refine below_set ?_ GE206.out | refine below_set ?_ GE212.out | refine below_set ?_ GE220.out) | exact HB.out)⟩⟩
          case rest =>
            clear HC51
            try clear c1
            try clear c2
            try clear p2
            try clear c3
            try clear c4
            try clear c5
            try clear c7
            try clear c7b0
            try clear c18
            try clear c23
            try clear c24
            try clear c29
            try clear c30
            try clear c31
            try clear c34
            try clear c35
            try clear c36
            try clear c37
            try clear c39
            try clear c40
            try clear c42
            try clear c43
            try clear c44
            try clear c45
            try clear c46
            try clear c47
            try clear c48
            try clear c52
            try clear hcz13_0
            try clear hcz13_1
            try clear hcz13_2
            try clear hcz19_0
            try clear hcz19_1
            try clear hcz19_2
            try clear hcz19_3
            try clear hcz19_4
            try clear hcz19_5
            try clear hcz20_0
            try clear hcz20_1
            try clear hcz20_2
            try clear hcz25_0
            try clear hcz25_1
            try clear hcz25_2
            try clear hcz32_0
            try clear hcz32_1
            try clear hcz32_2
            try clear hcz32_3
            try clear hcz32_4
            try clear hcz32_5
            try clear hcz38_0
            try clear hcz38_1
            try clear hcz38_2
            try clear hcz38_3
            try clear hcz38_4
            try clear hcz38_5
            try clear hcz41_0
            try clear hcz41_1
            try clear hcz41_2
            try clear hcz41_3
            try clear hcz41_4
            try clear hcz41_5
            try clear hcz46_0
            try clear hcz46_1
            try clear hcz46_2
            try clear hcz46_3
            try clear hcz46_4
            try clear hcz46_5
            try clear hcz49_0
            try clear hcz49_1
            try clear hcz49_2
            try clear hcz49_3
            try clear hcz49_4
            try clear hcz49_5
            try clear hcz5_0
            try clear hcz5_1
            try clear hcz5_2
            try clear hfz13_0
            try clear hfz13_1
            try clear hfz13_2
            try clear hfz19_0
            try clear hfz19_1
            try clear hfz19_2
            try clear hfz19_3
            try clear hfz19_4
            try clear hfz19_5
            try clear hfz20_0
            try clear hfz20_1
            try clear hfz20_2
            try clear hfz25_0
            try clear hfz25_1
            try clear hfz25_2
            try clear hfz32_0
            try clear hfz32_1
            try clear hfz32_2
            try clear hfz32_3
            try clear hfz32_4
            try clear hfz32_5
            try clear hfz38_0
            try clear hfz38_1
            try clear hfz38_2
            try clear hfz38_3
            try clear hfz38_4
            try clear hfz38_5
            try clear hfz41_0
            try clear hfz41_1
            try clear hfz41_2
            try clear hfz41_3
            try clear hfz41_4
            try clear hfz41_5
            try clear hfz46_0
            try clear hfz46_1
            try clear hfz46_2
            try clear hfz46_3
            try clear hfz46_4
            try clear hfz46_5
            try clear hfz49_0
            try clear hfz49_1
            try clear hfz49_2
            try clear hfz49_3
            try clear hfz49_4
            try clear hfz49_5
            try clear hfz5_0
            try clear hfz5_1
            try clear hfz5_2
            try clear p2
            obtain ⟨kq, HA, HJ50, HO_213002, BK192, BK206, BK212, BK220, HB⟩ := hcut
            cases kq with
            | zero => exact absurd HA.out (by simp [laws_FnExactCountKinds.j2])
            | succ kj50 =>
              have H := HA.out
              clear HA
              simp only [laws_FnExactCountKinds.j2] at H
              replace H := Option.bind_eq_some_iff.mp H
              obtain ⟨⟨t222, t223, t224⟩, A530, H⟩ := H
              replace H : ((laws_eqBoard.f kj50 t207 t208 t209 t222 t223 t224).bind fun t227 => (if t227 = true then (some true) else (some false))) = some r := H
              have A53 := Aside0.mk A530
              clear A530
              replace H := Option.bind_eq_some_iff.mp H
              obtain ⟨t227, A540, H⟩ := H
              replace H : (if t227 = true then (some true) else (some false)) = some r := H
              have A54 := Aside0.mk A540
              clear A540
              by_cases c55 : t227 = true
              · subst c55
                have H1 : (some true) = some r := by rw [if_pos rfl] at H; exact H
                clear H
                have H := H1
                clear H1
                obtain rfl := Option.some.inj H
                try go_wp2
                have n0_ := Aside0.mk (Kd.R_drew HO_213002.out)
                have n1_ := Aside0.mk (blk_drew BK192.out)
                have n2_ := Aside0.mk (blk_drew BK206.out)
                have n3_ := Aside0.mk (blk_drew BK212.out)
                have n4_ := Aside0.mk (blk_drew BK220.out)
                have n5_ := Aside0.mk (below_drew1 HB.out)
                clear HO_213002
                clear BK192
                clear BK206
                clear BK212
                clear BK220
                clear HB
                have HO_213002 := n0_
                have BK192 := n1_
                have BK206 := n2_
                have BK212 := n3_
                have BK220 := n4_
                have HB := n5_
                clear n0_ n1_ n2_ n3_ n4_ n5_
                refine start_ (n := 5) (S := fun w' => w'.cell? ⟨gb212, 0, none⟩ = some (.int .i8 t207) ∧ w'.cell? ⟨gb212, 1, none⟩ = some (.int .i8 t208) ∧ w'.cell? ⟨gb212, 2, none⟩ = some (.slice Ao26 t209.length co26) ∧ w'.cell? ⟨gb192, 0, none⟩ = some (.int .i8 a0_0) ∧ w'.cell? ⟨gb192, 1, none⟩ = some (.int .i8 a0_1) ∧ w'.cell? ⟨gb192, 2, none⟩ = some (.slice A0_2 l0_2.length c0_2)) (ds := []) #[false, false, false, false, false] (by kernel_rfl) rfl rfl ⟨(blk_cell BK212.out 0).trans rfl, (blk_cell BK212.out 1).trans rfl, (blk_cell BK212.out 2).trans rfl, (blk_cell BK192.out 0).trans rfl, (blk_cell BK192.out 1).trans rfl, (blk_cell BK192.out 2).trans rfl⟩ (fun hHeld => ?_)
                generalize wc.drew = w56 at HO_213002 BK192 BK206 BK212 BK220 HB hHeld ⊢
                refine take_ (i := 0) (N := some 36) (v := ?_) (a' := ?_) #[true, false, false, false, false] rfl rfl (by kernel_rfl) (fun _ _ _ h => h) (Or.inl ⟨by rfl, ?_⟩) hHeld ?_ ?_
                rotate_left
                · rintro w' ⟨s0, s1, s2, s3, s4, s5⟩
                  go_simp
                  with_reducible rfl
                rotate_left
                · simp only [Act.put, List.setIfInBounds_toArray, List.set_cons_zero, List.set_cons_succ, i64_w, i32_w]
                  rfl
                refine take_ (i := 1) (N := some 37) (v := ?_) (a' := ?_) #[true, true, false, false, false] rfl rfl (by kernel_rfl) (fun _ _ _ h => h) (Or.inl ⟨by rfl, ?_⟩) hHeld ?_ ?_
                rotate_left
                · rintro w' ⟨s0, s1, s2, s3, s4, s5⟩
                  go_simp
                  with_reducible rfl
                rotate_left
                · simp only [Act.put, List.setIfInBounds_toArray, List.set_cons_zero, List.set_cons_succ, i64_w, i32_w]
                  rfl
                refine one_ (i := 2) (N := some 38) #[true, true, true, false, false] rfl rfl (by kernel_rfl) (by decide) (fun K hK => ?_)
                refine goes_ Try.func42 (by kernel_rfl) rfl #[.agg #[.int .i8 a0_0, .int .i8 a0_1, .slice A0_2 l0_2.length c0_2]] (by rfl) rfl rfl (by (try simp only [List.map_toArray, List.map_cons, List.map_nil]); first | done | rfl | (simp only [List.length_drop, List.length_take]; rfl)) ?_
                with_reducible refine (laws_toBoard.calls kj50 a0_0 a0_1 _ _ l0_2 t222 t223 t224 _ ?side1 ?side2 A53.out).mono ?_
                (case side1 => repeat (first | exact (Kd.C_below HR0_2.out HB.out) | (with_reducible refine Kd.C_alloc ?_ _) | (with_reducible refine Kd.C_drewN ?_ _) | (with_reducible refine Kd.C_drew ?_)))
                (case side2 => exact HC0_2.out)
                rintro e w57 ⟨v225, rfl, ho0, hb⟩
                refine ⟨_, rfl, ?_⟩
                have n0_ := Aside0.mk (Kd.R_elder' (by (with_reducible repeat (first | apply Kd.R_alloc | apply Kd.R_drewN | apply Kd.R_drew)); exact HO_213002.out) (Kd.R_base ho0) hb)
                have n1_ := Aside0.mk (Kd.R_lower (Kd.R_new' ho0 (Kd.R_lt (by (with_reducible repeat (first | apply Kd.R_alloc | apply Kd.R_drewN | apply Kd.R_drew)); exact HO_213002.out))) (below_size (by repeat (first | (with_reducible first | exact HB.out | apply below_alloc | apply pw_below_drewN | apply below_drew1 | refine below_set ?_ GE192.out | refine below_set ?_ GE206.out | refine below_set ?_ GE212.out | refine below_set ?_ GE220.out) | exact HB.out))))
                have n2_ := Aside0.mk (blk_below (g := gb192) (o := .cells #[.int .i8 a0_0, .int .i8 a0_1, .slice A0_2 l0_2.length c0_2] 25 (0, 0)) (by (with_reducible repeat (first | refine blk_drewN ?_ _ | refine blk_drew ?_ | refine blk_alloc ?_ _)); exact BK192.out) hb)
                have n3_ := Aside0.mk (blk_below (g := gb206) (o := .cells #[.int .i64 t199, .int .i64 t200, .int .i64 t201, .int .i64 t202, .int .i64 t203, .int .i64 t204] 64 (0, 0)) (by (with_reducible repeat (first | refine blk_drewN ?_ _ | refine blk_drew ?_ | refine blk_alloc ?_ _)); exact BK206.out) hb)
                have n4_ := Aside0.mk (blk_below (g := gb212) (o := .cells #[.int .i8 t207, .int .i8 t208, .slice Ao26 t209.length co26] 37 (0, 0)) (by (with_reducible repeat (first | refine blk_drewN ?_ _ | refine blk_drew ?_ | refine blk_alloc ?_ _)); exact BK212.out) hb)
                have n5_ := Aside0.mk (blk_below (g := gb220) (o := .cells #[.int .i64 t213, .int .i64 t214, .int .i64 t215, .int .i64 t216, .int .i64 t217, .int .i64 t218] 64 (0, 0)) (by (with_reducible repeat (first | refine blk_drewN ?_ _ | refine blk_drew ?_ | refine blk_alloc ?_ _)); exact BK220.out) hb)
                have n6_ := Aside0.mk (below_step (by repeat (first | (with_reducible first | exact HB.out | apply below_alloc | apply pw_below_drewN | apply below_drew1 | refine below_set ?_ GE192.out | refine below_set ?_ GE206.out | refine below_set ?_ GE212.out | refine below_set ?_ GE220.out) | exact HB.out)) hb)
                clear HO_213002
                clear BK192
                clear BK206
                clear BK212
                clear BK220
                clear HB
                have HO_213002 := n0_
                have HO226 := n1_
                have BK192 := n2_
                have BK206 := n3_
                have BK212 := n4_
                have BK220 := n5_
                have HB := n6_
                clear n0_ n1_ n2_ n3_ n4_ n5_ n6_
                (try clear hb)
                (try clear hb2)
                (try clear hk)
                (try clear hi)
                (try clear ho0)
                obtain ⟨Ao58, co58, eo58⟩ := Kd.R_slice HO226.out
                (first | subst eo58 | (injection eo58 with f1_ f2_ f3_; have f4_ := f1_.symm; have f5_ := f3_.symm; clear f1_ f2_ f3_; subst f4_; subst f5_))
                refine hK.out _ _ ⟨(blk_cell BK212.out 0).trans rfl, (blk_cell BK212.out 1).trans rfl, (blk_cell BK212.out 2).trans rfl, (blk_cell BK192.out 0).trans rfl, (blk_cell BK192.out 1).trans rfl, (blk_cell BK192.out 2).trans rfl⟩ (fun hHeld => ?_)
                clear hK K
                refine norm_ (a' := ?_) ?_ ?_
                rotate_left
                · show Act.put _ (some 38) _ = _
                  simp only [Act.put, List.setIfInBounds_toArray, List.set_cons_zero, List.set_cons_succ, i64_w, i32_w]
                  rfl
                refine one_ (i := 3) (N := some 39) #[true, true, true, true, false] rfl rfl (by kernel_rfl) (by decide) (fun K hK => ?_)
                refine goes_ Try.func44 (by kernel_rfl) rfl #[.agg #[.int .i8 t207, .int .i8 t208, .slice Ao26 t209.length co26], .agg #[.int .i8 t222, .int .i8 t223, .slice Ao58 t224.length co58]] (by rfl) rfl rfl (by (try simp only [List.map_toArray, List.map_cons, List.map_nil]); first | done | rfl | (simp only [List.length_drop, List.length_take]; rfl)) ?_
                with_reducible refine (laws_eqBoard.calls kj50 t207 t208 _ _ t209 t222 t223 _ _ t224 true _ ?side1 ?side2 ?side3 ?side4 A54.out).mono ?_
                (case side1 => repeat (first | exact (Kd.R_reads' HO_213002.out).2.2 | (with_reducible refine Kd.C_alloc ?_ _) | (with_reducible refine Kd.C_drewN ?_ _) | (with_reducible refine Kd.C_drew ?_)))
                (case side2 => exact (Kd.R_reads' HO_213002.out).2.1)
                (case side3 => repeat (first | exact (Kd.R_reads' HO226.out).2.2 | (with_reducible refine Kd.C_alloc ?_ _) | (with_reducible refine Kd.C_drewN ?_ _) | (with_reducible refine Kd.C_drew ?_)))
                (case side4 => exact (Kd.R_reads' HO226.out).2.1)
                rintro e w59 ⟨rfl, hb⟩
                refine ⟨_, rfl, ?_⟩
                have n0_ := Aside0.mk (Kd.R_below (by (with_reducible repeat (first | apply Kd.R_alloc | apply Kd.R_drewN | apply Kd.R_drew)); exact HO_213002.out) hb)
                have n1_ := Aside0.mk (Kd.R_below (by (with_reducible repeat (first | apply Kd.R_alloc | apply Kd.R_drewN | apply Kd.R_drew)); exact HO226.out) hb)
                have n2_ := Aside0.mk (blk_below (g := gb192) (o := .cells #[.int .i8 a0_0, .int .i8 a0_1, .slice A0_2 l0_2.length c0_2] 25 (0, 0)) (by (with_reducible repeat (first | refine blk_drewN ?_ _ | refine blk_drew ?_ | refine blk_alloc ?_ _)); exact BK192.out) hb)
                have n3_ := Aside0.mk (blk_below (g := gb206) (o := .cells #[.int .i64 t199, .int .i64 t200, .int .i64 t201, .int .i64 t202, .int .i64 t203, .int .i64 t204] 64 (0, 0)) (by (with_reducible repeat (first | refine blk_drewN ?_ _ | refine blk_drew ?_ | refine blk_alloc ?_ _)); exact BK206.out) hb)
                have n4_ := Aside0.mk (blk_below (g := gb212) (o := .cells #[.int .i8 t207, .int .i8 t208, .slice Ao26 t209.length co26] 37 (0, 0)) (by (with_reducible repeat (first | refine blk_drewN ?_ _ | refine blk_drew ?_ | refine blk_alloc ?_ _)); exact BK212.out) hb)
                have n5_ := Aside0.mk (blk_below (g := gb220) (o := .cells #[.int .i64 t213, .int .i64 t214, .int .i64 t215, .int .i64 t216, .int .i64 t217, .int .i64 t218] 64 (0, 0)) (by (with_reducible repeat (first | refine blk_drewN ?_ _ | refine blk_drew ?_ | refine blk_alloc ?_ _)); exact BK220.out) hb)
                have n6_ := Aside0.mk (below_step (by repeat (first | (with_reducible first | exact HB.out | apply below_alloc | apply pw_below_drewN | apply below_drew1 | refine below_set ?_ GE192.out | refine below_set ?_ GE206.out | refine below_set ?_ GE212.out | refine below_set ?_ GE220.out) | exact HB.out)) hb)
                clear HO_213002
                clear HO226
                clear BK192
                clear BK206
                clear BK212
                clear BK220
                clear HB
                have HO_213002 := n0_
                have HO226 := n1_
                have BK192 := n2_
                have BK206 := n3_
                have BK212 := n4_
                have BK220 := n5_
                have HB := n6_
                clear n0_ n1_ n2_ n3_ n4_ n5_ n6_
                (try clear hb)
                (try clear hb2)
                (try clear hk)
                (try clear hi)
                refine hK.out _ _ ⟨(blk_cell BK212.out 0).trans rfl, (blk_cell BK212.out 1).trans rfl, (blk_cell BK212.out 2).trans rfl, (blk_cell BK192.out 0).trans rfl, (blk_cell BK192.out 1).trans rfl, (blk_cell BK192.out 2).trans rfl⟩ (fun hHeld => ?_)
                clear hK K
                refine norm_ (a' := ?_) ?_ ?_
                rotate_left
                · show Act.put _ (some 39) _ = _
                  simp only [Act.put, List.setIfInBounds_toArray, List.set_cons_zero, List.set_cons_succ, i64_w, i32_w]
                  rfl
                refine pure_ (i := 4) (N := some 40) (v := ?_) (a' := ?_) #[true, true, true, true, true] rfl rfl (by kernel_rfl) (fun _ _ _ h => h) (Or.inl ⟨by rfl, ?_⟩) ?_ ?_
                rotate_left
                · intro w'
                  go_simp
                  with_reducible rfl
                rotate_left
                · simp only [Act.put, List.setIfInBounds_toArray, List.set_cons_zero, List.set_cons_succ, i64_w, i32_w]
                  rfl
                refine done_ (by kernel_rfl) ?_
                try go_wp2
                go_ret
                exact ⟨by first | rfl | (simp [errW_none, errW_some] <;> rfl) | (simp [*, errW_none, errW_some] <;> rfl), by repeat (first | (with_reducible first | exact HB.out | apply below_alloc | apply pw_below_drewN | apply below_drew1 | refine below_set ?_ GE192.out | refine below_set ?_ GE206.out | refine below_set ?_ GE212.out | refine below_set ?_ GE220.out) | exact HB.out)⟩
              · replace c55 := Bool.eq_false_iff.mpr c55
                subst c55
                have H1 : (some false) = some r := by rw [if_neg (show ¬ (false = true) by decide)] at H; exact H
                clear H
                have H := H1
                clear H1
                obtain rfl := Option.some.inj H
                try go_wp2
                have n0_ := Aside0.mk (Kd.R_drew HO_213002.out)
                have n1_ := Aside0.mk (blk_drew BK192.out)
                have n2_ := Aside0.mk (blk_drew BK206.out)
                have n3_ := Aside0.mk (blk_drew BK212.out)
                have n4_ := Aside0.mk (blk_drew BK220.out)
                have n5_ := Aside0.mk (below_drew1 HB.out)
                clear HO_213002
                clear BK192
                clear BK206
                clear BK212
                clear BK220
                clear HB
                have HO_213002 := n0_
                have BK192 := n1_
                have BK206 := n2_
                have BK212 := n3_
                have BK220 := n4_
                have HB := n5_
                clear n0_ n1_ n2_ n3_ n4_ n5_
                refine start_ (n := 5) (S := fun w' => w'.cell? ⟨gb212, 0, none⟩ = some (.int .i8 t207) ∧ w'.cell? ⟨gb212, 1, none⟩ = some (.int .i8 t208) ∧ w'.cell? ⟨gb212, 2, none⟩ = some (.slice Ao26 t209.length co26) ∧ w'.cell? ⟨gb192, 0, none⟩ = some (.int .i8 a0_0) ∧ w'.cell? ⟨gb192, 1, none⟩ = some (.int .i8 a0_1) ∧ w'.cell? ⟨gb192, 2, none⟩ = some (.slice A0_2 l0_2.length c0_2)) (ds := []) #[false, false, false, false, false] (by kernel_rfl) rfl rfl ⟨(blk_cell BK212.out 0).trans rfl, (blk_cell BK212.out 1).trans rfl, (blk_cell BK212.out 2).trans rfl, (blk_cell BK192.out 0).trans rfl, (blk_cell BK192.out 1).trans rfl, (blk_cell BK192.out 2).trans rfl⟩ (fun hHeld => ?_)
                generalize wc.drew = w60 at HO_213002 BK192 BK206 BK212 BK220 HB hHeld ⊢
                refine take_ (i := 0) (N := some 36) (v := ?_) (a' := ?_) #[true, false, false, false, false] rfl rfl (by kernel_rfl) (fun _ _ _ h => h) (Or.inl ⟨by rfl, ?_⟩) hHeld ?_ ?_
                rotate_left
                · rintro w' ⟨s0, s1, s2, s3, s4, s5⟩
                  go_simp
                  with_reducible rfl
                rotate_left
                · simp only [Act.put, List.setIfInBounds_toArray, List.set_cons_zero, List.set_cons_succ, i64_w, i32_w]
                  rfl
                refine take_ (i := 1) (N := some 37) (v := ?_) (a' := ?_) #[true, true, false, false, false] rfl rfl (by kernel_rfl) (fun _ _ _ h => h) (Or.inl ⟨by rfl, ?_⟩) hHeld ?_ ?_
                rotate_left
                · rintro w' ⟨s0, s1, s2, s3, s4, s5⟩
                  go_simp
                  with_reducible rfl
                rotate_left
                · simp only [Act.put, List.setIfInBounds_toArray, List.set_cons_zero, List.set_cons_succ, i64_w, i32_w]
                  rfl
                refine one_ (i := 2) (N := some 38) #[true, true, true, false, false] rfl rfl (by kernel_rfl) (by decide) (fun K hK => ?_)
                refine goes_ Try.func42 (by kernel_rfl) rfl #[.agg #[.int .i8 a0_0, .int .i8 a0_1, .slice A0_2 l0_2.length c0_2]] (by rfl) rfl rfl (by (try simp only [List.map_toArray, List.map_cons, List.map_nil]); first | done | rfl | (simp only [List.length_drop, List.length_take]; rfl)) ?_
                with_reducible refine (laws_toBoard.calls kj50 a0_0 a0_1 _ _ l0_2 t222 t223 t224 _ ?side1 ?side2 A53.out).mono ?_
                (case side1 => repeat (first | exact (Kd.C_below HR0_2.out HB.out) | (with_reducible refine Kd.C_alloc ?_ _) | (with_reducible refine Kd.C_drewN ?_ _) | (with_reducible refine Kd.C_drew ?_)))
                (case side2 => exact HC0_2.out)
                rintro e w61 ⟨v225, rfl, ho0, hb⟩
                refine ⟨_, rfl, ?_⟩
                have n0_ := Aside0.mk (Kd.R_elder' (by (with_reducible repeat (first | apply Kd.R_alloc | apply Kd.R_drewN | apply Kd.R_drew)); exact HO_213002.out) (Kd.R_base ho0) hb)
                have n1_ := Aside0.mk (Kd.R_lower (Kd.R_new' ho0 (Kd.R_lt (by (with_reducible repeat (first | apply Kd.R_alloc | apply Kd.R_drewN | apply Kd.R_drew)); exact HO_213002.out))) (below_size (by repeat (first | (with_reducible first | exact HB.out | apply below_alloc | apply pw_below_drewN | apply below_drew1 | refine below_set ?_ GE192.out | refine below_set ?_ GE206.out | refine below_set ?_ GE212.out | refine below_set ?_ GE220.out) | exact HB.out))))
                have n2_ := Aside0.mk (blk_below (g := gb192) (o := .cells #[.int .i8 a0_0, .int .i8 a0_1, .slice A0_2 l0_2.length c0_2] 25 (0, 0)) (by (with_reducible repeat (first | refine blk_drewN ?_ _ | refine blk_drew ?_ | refine blk_alloc ?_ _)); exact BK192.out) hb)
                have n3_ := Aside0.mk (blk_below (g := gb206) (o := .cells #[.int .i64 t199, .int .i64 t200, .int .i64 t201, .int .i64 t202, .int .i64 t203, .int .i64 t204] 64 (0, 0)) (by (with_reducible repeat (first | refine blk_drewN ?_ _ | refine blk_drew ?_ | refine blk_alloc ?_ _)); exact BK206.out) hb)
                have n4_ := Aside0.mk (blk_below (g := gb212) (o := .cells #[.int .i8 t207, .int .i8 t208, .slice Ao26 t209.length co26] 37 (0, 0)) (by (with_reducible repeat (first | refine blk_drewN ?_ _ | refine blk_drew ?_ | refine blk_alloc ?_ _)); exact BK212.out) hb)
                have n5_ := Aside0.mk (blk_below (g := gb220) (o := .cells #[.int .i64 t213, .int .i64 t214, .int .i64 t215, .int .i64 t216, .int .i64 t217, .int .i64 t218] 64 (0, 0)) (by (with_reducible repeat (first | refine blk_drewN ?_ _ | refine blk_drew ?_ | refine blk_alloc ?_ _)); exact BK220.out) hb)
                have n6_ := Aside0.mk (below_step (by repeat (first | (with_reducible first | exact HB.out | apply below_alloc | apply pw_below_drewN | apply below_drew1 | refine below_set ?_ GE192.out | refine below_set ?_ GE206.out | refine below_set ?_ GE212.out | refine below_set ?_ GE220.out) | exact HB.out)) hb)
                clear HO_213002
                clear BK192
                clear BK206
                clear BK212
                clear BK220
                clear HB
                have HO_213002 := n0_
                have HO226 := n1_
                have BK192 := n2_
                have BK206 := n3_
                have BK212 := n4_
                have BK220 := n5_
                have HB := n6_
                clear n0_ n1_ n2_ n3_ n4_ n5_ n6_
                (try clear hb)
                (try clear hb2)
                (try clear hk)
                (try clear hi)
                (try clear ho0)
                obtain ⟨Ao62, co62, eo62⟩ := Kd.R_slice HO226.out
                (first | subst eo62 | (injection eo62 with f1_ f2_ f3_; have f4_ := f1_.symm; have f5_ := f3_.symm; clear f1_ f2_ f3_; subst f4_; subst f5_))
                refine hK.out _ _ ⟨(blk_cell BK212.out 0).trans rfl, (blk_cell BK212.out 1).trans rfl, (blk_cell BK212.out 2).trans rfl, (blk_cell BK192.out 0).trans rfl, (blk_cell BK192.out 1).trans rfl, (blk_cell BK192.out 2).trans rfl⟩ (fun hHeld => ?_)
                clear hK K
                refine norm_ (a' := ?_) ?_ ?_
                rotate_left
                · show Act.put _ (some 38) _ = _
                  simp only [Act.put, List.setIfInBounds_toArray, List.set_cons_zero, List.set_cons_succ, i64_w, i32_w]
                  rfl
                refine one_ (i := 3) (N := some 39) #[true, true, true, true, false] rfl rfl (by kernel_rfl) (by decide) (fun K hK => ?_)
                refine goes_ Try.func44 (by kernel_rfl) rfl #[.agg #[.int .i8 t207, .int .i8 t208, .slice Ao26 t209.length co26], .agg #[.int .i8 t222, .int .i8 t223, .slice Ao62 t224.length co62]] (by rfl) rfl rfl (by (try simp only [List.map_toArray, List.map_cons, List.map_nil]); first | done | rfl | (simp only [List.length_drop, List.length_take]; rfl)) ?_
                with_reducible refine (laws_eqBoard.calls kj50 t207 t208 _ _ t209 t222 t223 _ _ t224 false _ ?side1 ?side2 ?side3 ?side4 A54.out).mono ?_
                (case side1 => repeat (first | exact (Kd.R_reads' HO_213002.out).2.2 | (with_reducible refine Kd.C_alloc ?_ _) | (with_reducible refine Kd.C_drewN ?_ _) | (with_reducible refine Kd.C_drew ?_)))
                (case side2 => exact (Kd.R_reads' HO_213002.out).2.1)
                (case side3 => repeat (first | exact (Kd.R_reads' HO226.out).2.2 | (with_reducible refine Kd.C_alloc ?_ _) | (with_reducible refine Kd.C_drewN ?_ _) | (with_reducible refine Kd.C_drew ?_)))
                (case side4 => exact (Kd.R_reads' HO226.out).2.1)
                rintro e w63 ⟨rfl, hb⟩
                refine ⟨_, rfl, ?_⟩
                have n0_ := Aside0.mk (Kd.R_below (by (with_reducible repeat (first | apply Kd.R_alloc | apply Kd.R_drewN | apply Kd.R_drew)); exact HO_213002.out) hb)
                have n1_ := Aside0.mk (Kd.R_below (by (with_reducible repeat (first | apply Kd.R_alloc | apply Kd.R_drewN | apply Kd.R_drew)); exact HO226.out) hb)
                have n2_ := Aside0.mk (blk_below (g := gb192) (o := .cells #[.int .i8 a0_0, .int .i8 a0_1, .slice A0_2 l0_2.length c0_2] 25 (0, 0)) (by (with_reducible repeat (first | refine blk_drewN ?_ _ | refine blk_drew ?_ | refine blk_alloc ?_ _)); exact BK192.out) hb)
                have n3_ := Aside0.mk (blk_below (g := gb206) (o := .cells #[.int .i64 t199, .int .i64 t200, .int .i64 t201, .int .i64 t202, .int .i64 t203, .int .i64 t204] 64 (0, 0)) (by (with_reducible repeat (first | refine blk_drewN ?_ _ | refine blk_drew ?_ | refine blk_alloc ?_ _)); exact BK206.out) hb)
                have n4_ := Aside0.mk (blk_below (g := gb212) (o := .cells #[.int .i8 t207, .int .i8 t208, .slice Ao26 t209.length co26] 37 (0, 0)) (by (with_reducible repeat (first | refine blk_drewN ?_ _ | refine blk_drew ?_ | refine blk_alloc ?_ _)); exact BK212.out) hb)
                have n5_ := Aside0.mk (blk_below (g := gb220) (o := .cells #[.int .i64 t213, .int .i64 t214, .int .i64 t215, .int .i64 t216, .int .i64 t217, .int .i64 t218] 64 (0, 0)) (by (with_reducible repeat (first | refine blk_drewN ?_ _ | refine blk_drew ?_ | refine blk_alloc ?_ _)); exact BK220.out) hb)
                have n6_ := Aside0.mk (below_step (by repeat (first | (with_reducible first | exact HB.out | apply below_alloc | apply pw_below_drewN | apply below_drew1 | refine below_set ?_ GE192.out | refine below_set ?_ GE206.out | refine below_set ?_ GE212.out | refine below_set ?_ GE220.out) | exact HB.out)) hb)
                clear HO_213002
                clear HO226
                clear BK192
                clear BK206
                clear BK212
                clear BK220
                clear HB
                have HO_213002 := n0_
                have HO226 := n1_
                have BK192 := n2_
                have BK206 := n3_
                have BK212 := n4_
                have BK220 := n5_
                have HB := n6_
                clear n0_ n1_ n2_ n3_ n4_ n5_ n6_
                (try clear hb)
                (try clear hb2)
                (try clear hk)
                (try clear hi)
                refine hK.out _ _ ⟨(blk_cell BK212.out 0).trans rfl, (blk_cell BK212.out 1).trans rfl, (blk_cell BK212.out 2).trans rfl, (blk_cell BK192.out 0).trans rfl, (blk_cell BK192.out 1).trans rfl, (blk_cell BK192.out 2).trans rfl⟩ (fun hHeld => ?_)
                clear hK K
                refine norm_ (a' := ?_) ?_ ?_
                rotate_left
                · show Act.put _ (some 39) _ = _
                  simp only [Act.put, List.setIfInBounds_toArray, List.set_cons_zero, List.set_cons_succ, i64_w, i32_w]
                  rfl
                refine pure_ (i := 4) (N := some 40) (v := ?_) (a' := ?_) #[true, true, true, true, true] rfl rfl (by kernel_rfl) (fun _ _ _ h => h) (Or.inl ⟨by rfl, ?_⟩) ?_ ?_
                rotate_left
                · intro w'
                  go_simp
                  with_reducible rfl
                rotate_left
                · simp only [Act.put, List.setIfInBounds_toArray, List.set_cons_zero, List.set_cons_succ, i64_w, i32_w]
                  rfl
                refine done_ (by kernel_rfl) ?_
                try go_wp2
                go_ret
                exact ⟨by first | rfl | (simp [errW_none, errW_some] <;> rfl) | (simp [*, errW_none, errW_some] <;> rfl), by repeat (first | (with_reducible first | exact HB.out | apply below_alloc | apply pw_below_drewN | apply below_drew1 | refine below_set ?_ GE192.out | refine below_set ?_ GE206.out | refine below_set ?_ GE212.out | refine below_set ?_ GE220.out) | exact HB.out)⟩

end Go.Proofs.Ytffnfpnajkgnaaa.PFnExactCountKinds
