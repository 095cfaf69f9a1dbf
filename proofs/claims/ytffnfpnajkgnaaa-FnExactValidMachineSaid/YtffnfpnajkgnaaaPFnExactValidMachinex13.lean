-- short
-- WRITTEN by xprint.py, a program of this session's. Not trusted: Lean checks it.
import Derived.Test.YtffnfpnajkgnaaaPFnExactValidMachinex0
import Derived.Test.YtffnfpnajkgnaaaPFnExactValidMachinex3
import Derived.Test.YtffnfpnajkgnaaaPFnExactValidMachinex4
import Derived.Test.YtffnfpnajkgnaaaPFnExactValidMachinex5
import Derived.Test.YtffnfpnajkgnaaaPFnExactValidMachinex10
import Derived.Test.YtffnfpnajkgnaaaPFnExactValidMachinex12
namespace Go.Proofs.Ytffnfpnajkgnaaa.PFnExactValidMachine
open Go.RowKit Go.Proofs.YtffnfpnajkgnaaaW.PrintWords Go.Proofs.YtffnfpnajkgnaaaW.PrintLast Go.Proofs.YtffnfpnajkgnaaaW.PrintMore Go.Proofs.YtffnfpnajkgnaaaX
attribute [local go_sem] max2_int min2_int max_two min_two max_three min_three max_four min_four   -- for this text's walks alone
set_option linter.unusedVariables false
set_option linter.unusedSimpArgs false

/-! ### laws_FnExactValidMachine: function 19 -/
mutual
def laws_FnExactValidMachine.j0 : Nat → Int → Int → List (S88) → List (S182) → List (S71) → Option (Bool)
 | 0, _, _, _, _, _ => none
 | k + 1, x291000, x291001, x291002, x291003, x291004 => (laws_toMachine.f k x291000 x291001 x291002 x291003 x291004).bind fun bt292 => ((spec_ValidMachine.f k bt292.1 bt292.2.1 bt292.2.2.1 bt292.2.2.2.1 bt292.2.2.2.2).bind fun t303 => ((laws_toMachine.f k x291000 x291001 x291002 x291003 x291004).bind fun bt304 => ((impl_ValidMachine.f k bt304.1 bt304.2.1 bt304.2.2.1 bt304.2.2.2.1 bt304.2.2.2.2).bind fun t316 => (if (t316 != t303) = true then (some false) else (laws_FnExactValidMachine.j1 k x291000 x291001 x291002 x291003 x291004 bt304.1 bt304.2.1 bt304.2.2.1 bt304.2.2.2.1 bt304.2.2.2.2)))))
def laws_FnExactValidMachine.j1 : Nat → Int → Int → List (S88) → List (S182) → List (S71) → Int → Int → List (S91) → List (S116) → List (S74) → Option (Bool)
 | 0, _, _, _, _, _, _, _, _, _, _ => none
 | k + 1, x291000, x291001, x291002, x291003, x291004, x316000, x316001, x316002, x316003, x316004 => (laws_toMachine.f k x291000 x291001 x291002 x291003 x291004).bind fun bt317 => ((laws_eqMachine.f k x316000 x316001 x316002 x316003 x316004 bt317.1 bt317.2.1 bt317.2.2.1 bt317.2.2.2.1 bt317.2.2.2.2).bind fun t328 => (if t328 = true then (some true) else (some false)))
end
def laws_FnExactValidMachine.f (k : Nat) (a0_0 : Int) (a0_1 : Int) (l0_2 : List (S88)) (l0_3 : List (S182)) (l0_4 : List (S71)) : Option (Bool) := (laws_szMachine.f a0_0 a0_1 l0_2 l0_3 l0_4 1048576).bind fun t291 => (if t291 < 0 then (some true) else (laws_FnExactValidMachine.j0 k a0_0 a0_1 l0_2 l0_3 l0_4))
theorem laws_FnExactValidMachine.mono_l : ∀ k, (∀ y0 y1 y2 y3 y4, LeO (laws_FnExactValidMachine.j0 k y0 y1 y2 y3 y4) (laws_FnExactValidMachine.j0 (k + 1) y0 y1 y2 y3 y4)) ∧ (∀ y0 y1 y2 y3 y4 y5 y6 y7 y8 y9, LeO (laws_FnExactValidMachine.j1 k y0 y1 y2 y3 y4 y5 y6 y7 y8 y9) (laws_FnExactValidMachine.j1 (k + 1) y0 y1 y2 y3 y4 y5 y6 y7 y8 y9))
 | 0 => ⟨fun _ _ _ _ _ r h => by simp [laws_FnExactValidMachine.j0] at h, fun _ _ _ _ _ _ _ _ _ _ r h => by simp [laws_FnExactValidMachine.j1] at h⟩
 | k + 1 => by
  obtain ⟨ih0, ih1⟩ := laws_FnExactValidMachine.mono_l k
  refine ⟨?_, ?_⟩
  ·intro y0 y1 y2 y3 y4
   unfold laws_FnExactValidMachine.j0
   repeat' first
   | (with_reducible exact ih0 _ _ _ _ _)
   | (with_reducible exact ih1 _ _ _ _ _ _ _ _ _ _)
   | (with_reducible exact impl_ValidMachine.mono _ _ _ _ _ _)
   | (with_reducible exact laws_eqMachine.mono _ _ _ _ _ _ _ _ _ _ _)
   | (with_reducible exact laws_toMachine.mono _ _ _ _ _ _)
   | (with_reducible exact spec_ValidMachine.mono _ _ _ _ _ _)
   | (with_reducible exact LeO.refl _)
   | (with_reducible exact LeO.none _)
   | (with_reducible refine LeO.ite ?_ ?_)
   | (with_reducible refine LeO.bind ?_ (fun _ => ?_))
   | exact ih0 _ _ _ _ _
   | exact ih1 _ _ _ _ _ _ _ _ _ _
   | exact impl_ValidMachine.mono _ _ _ _ _ _
   | exact laws_eqMachine.mono _ _ _ _ _ _ _ _ _ _ _
   | exact laws_toMachine.mono _ _ _ _ _ _
   | exact spec_ValidMachine.mono _ _ _ _ _ _
   | exact LeO.none _
   | refine LeO.ite ?_ ?_
   | refine LeO.bind ?_ (fun _ => ?_)
  ·intro y0 y1 y2 y3 y4 y5 y6 y7 y8 y9
   unfold laws_FnExactValidMachine.j1
   repeat' first
   | (with_reducible exact ih0 _ _ _ _ _)
   | (with_reducible exact ih1 _ _ _ _ _ _ _ _ _ _)
   | (with_reducible exact impl_ValidMachine.mono _ _ _ _ _ _)
   | (with_reducible exact laws_eqMachine.mono _ _ _ _ _ _ _ _ _ _ _)
   | (with_reducible exact laws_toMachine.mono _ _ _ _ _ _)
   | (with_reducible exact spec_ValidMachine.mono _ _ _ _ _ _)
   | (with_reducible exact LeO.refl _)
   | (with_reducible exact LeO.none _)
   | (with_reducible refine LeO.ite ?_ ?_)
   | (with_reducible refine LeO.bind ?_ (fun _ => ?_))
   | exact ih0 _ _ _ _ _
   | exact ih1 _ _ _ _ _ _ _ _ _ _
   | exact impl_ValidMachine.mono _ _ _ _ _ _
   | exact laws_eqMachine.mono _ _ _ _ _ _ _ _ _ _ _
   | exact laws_toMachine.mono _ _ _ _ _ _
   | exact spec_ValidMachine.mono _ _ _ _ _ _
   | exact LeO.none _
   | refine LeO.ite ?_ ?_
   | refine LeO.bind ?_ (fun _ => ?_)
theorem laws_FnExactValidMachine.mono : ∀ a0 a1 a2 a3 a4 k, LeO (laws_FnExactValidMachine.f k a0 a1 a2 a3 a4) (laws_FnExactValidMachine.f (k + 1) a0 a1 a2 a3 a4) := by
 intro a0 a1 a2 a3 a4 k
 obtain ⟨ih0, ih1⟩ := laws_FnExactValidMachine.mono_l k
 unfold laws_FnExactValidMachine.f
 repeat' first
   | (with_reducible exact ih0 _ _ _ _ _)
   | (with_reducible exact ih1 _ _ _ _ _ _ _ _ _ _)
   | (with_reducible exact impl_ValidMachine.mono _ _ _ _ _ _)
   | (with_reducible exact laws_eqMachine.mono _ _ _ _ _ _ _ _ _ _ _)
   | (with_reducible exact laws_toMachine.mono _ _ _ _ _ _)
   | (with_reducible exact spec_ValidMachine.mono _ _ _ _ _ _)
   | (with_reducible exact LeO.refl _)
   | (with_reducible exact LeO.none _)
   | (with_reducible refine LeO.ite ?_ ?_)
   | (with_reducible refine LeO.bind ?_ (fun _ => ?_))
   | exact ih0 _ _ _ _ _
   | exact ih1 _ _ _ _ _ _ _ _ _ _
   | exact impl_ValidMachine.mono _ _ _ _ _ _
   | exact laws_eqMachine.mono _ _ _ _ _ _ _ _ _ _ _
   | exact laws_toMachine.mono _ _ _ _ _ _
   | exact spec_ValidMachine.mono _ _ _ _ _ _
   | exact LeO.none _
   | refine LeO.ite ?_ ?_
   | refine LeO.bind ?_ (fun _ => ?_)
set_option maxHeartbeats 8000000 in
set_option maxRecDepth 100000 in
theorem laws_FnExactValidMachine.calls (k : Nat) (a0_0 : Int) (a0_1 : Int) (A0_2 : Option Addr) (c0_2 : Nat) (l0_2 : List (S88)) (A0_3 : Option Addr) (c0_3 : Nat) (l0_3 : List (S182)) (A0_4 : Option Addr) (c0_4 : Nat) (l0_4 : List (S71)) (r : Bool) (w : World) (hr0_2 : Kd.C k88 w A0_2 l0_2.length l0_2) (hc0_2 : l0_2.length ≤ c0_2) (hr0_3 : Kd.C k182 w A0_3 l0_3.length l0_3) (hc0_3 : l0_3.length ≤ c0_3) (hr0_4 : Kd.C k71 w A0_4 l0_4.length l0_4) (hc0_4 : l0_4.length ≤ c0_4) (h : laws_FnExactValidMachine.f k a0_0 a0_1 l0_2 l0_3 l0_4 = some r) :
  Calls Try.prog 19 #[.agg #[.int .i8 a0_0, .int .i8 a0_1, .slice A0_2 l0_2.length c0_2, .slice A0_3 l0_3.length c0_3, .slice A0_4 l0_4.length c0_4]] w fun e w' => e = .returned (.bool r) ∧ Below w.heap.size w w' := by
 have hu29 := Try.underlying29
 have hu41 := Try.underlying41
 have HR0_2 := zN hr0_2
 have HC0_2 := zN hc0_2
 clear hr0_2 hc0_2
 have HR0_3 := zN hr0_3
 have HC0_3 := zN hc0_3
 clear hr0_3 hc0_3
 have HR0_4 := zN hr0_4
 have HC0_4 := zN hc0_4
 clear hr0_4 hc0_4
 have HB := zN (Below.refl w.heap.size w)
 have H : ((laws_szMachine.f a0_0 a0_1 l0_2 l0_3 l0_4 1048576).bind fun t291 => (if t291 < 0 then (some true) else (laws_FnExactValidMachine.j0 k a0_0 a0_1 l0_2 l0_3 l0_4))) = some r := h
 clear h
 replace H := Option.bind_eq_some_iff.mp H
 obtain ⟨t291, A20, H⟩ := H
 replace H : (if t291 < 0 then (some true) else (laws_FnExactValidMachine.j0 k a0_0 a0_1 l0_2 l0_3 l0_4)) = some r := H
 have A2 := zN A20
 clear A20
 have HC3 := zN H
 clear H
 go_enter Try.func19, Try.ntmps19
 go_upto_if 11 with (first | ((with_reducible refine gate_dst (N := 1) rfl ?_); refine box_event ?hg (N := 1) ?hd (cs := #[.int .i8 a0_0, .int .i8 a0_1, .slice A0_2 l0_2.length c0_2, .slice A0_3 l0_3.length c0_3, .slice A0_4 l0_4.length c0_4]) (t := 29) ?hr ?_; (case hd => rfl); (case hg => rfl); (case hr => first | (go_simp; done) | (go_simp; rfl)); intro gb290 hg w4 hbox hb; have n0_ := zN (below_step (by repeat (first | (with_reducible first | exact HB.out | apply zA | apply zB | apply zC) | exact HB.out)) hb); have n1_ := zN (hbox); have n2_ := zN ((by rw [hg]; exact (below_size (by repeat (first | (with_reducible first | exact HB.out | apply zA | apply zB | apply zC) | exact HB.out))) : w.heap.size ≤ gb290)); have n3_ := zN ((by rw [hg]; exact (below_size (by repeat (first | (with_reducible first | exact HB.out | apply zA | apply zB | apply zC) | exact HB.out))) : w.heap.size ≤ gb290)); clear HB; have HB := n0_; have BK290 := n1_; have GW290 := n2_; have GE290 := n3_; clear n0_ n1_ n2_ n3_; clear hb hbox hg; have hcz5_0 : w4.cell? ⟨gb290, 0, none⟩ = some (.int .i8 a0_0) := (blk_cell BK290.out 0).trans rfl; have hcz5_1 : w4.cell? ⟨gb290, 1, none⟩ = some (.int .i8 a0_1) := (blk_cell BK290.out 1).trans rfl; have hcz5_2 : w4.cell? ⟨gb290, 2, none⟩ = some (.slice A0_2 l0_2.length c0_2) := (blk_cell BK290.out 2).trans rfl; have hcz5_3 : w4.cell? ⟨gb290, 3, none⟩ = some (.slice A0_3 l0_3.length c0_3) := (blk_cell BK290.out 3).trans rfl; have hcz5_4 : w4.cell? ⟨gb290, 4, none⟩ = some (.slice A0_4 l0_4.length c0_4) := (blk_cell BK290.out 4).trans rfl; have hfz5_0 := blk_frozen BK290.out 0; have hfz5_1 := blk_frozen BK290.out 1; have hfz5_2 := blk_frozen BK290.out 2; have hfz5_3 := blk_frozen BK290.out 3; have hfz5_4 := blk_frozen BK290.out 4) | ((with_reducible refine gate_callee (f := 21) rfl ?_); refine goesL_ (some 9) rfl rfl Try.func21 (by kernel_rfl) rfl #[.agg #[.int .i8 a0_0, .int .i8 a0_1, .slice A0_2 l0_2.length c0_2, .slice A0_3 l0_3.length c0_3, .slice A0_4 l0_4.length c0_4], .int .i64 1048576] rfl (by (try simp only [List.map_toArray, List.map_cons, List.map_nil]); first | done | rfl | (simp only [List.length_drop, List.length_take]; rfl)) ?_; (with_reducible refine (laws_szMachine.calls a0_0 a0_1 _ _ l0_2 _ _ l0_3 _ _ l0_4 1048576 t291 _ ?side1 ?side2 ?side3 ?side4 ?side5 ?side6 A2.out).mono ?_); (case side1 => repeat (first | exact (Kd.C_below HR0_2.out HB.out) | (with_reducible refine Kd.C_alloc ?_ _) | (with_reducible refine Kd.C_drewN ?_ _) | (with_reducible refine Kd.C_drew ?_))); (case side2 => exact HC0_2.out); (case side3 => repeat (first | exact (Kd.C_below HR0_3.out HB.out) | (with_reducible refine Kd.C_alloc ?_ _) | (with_reducible refine Kd.C_drewN ?_ _) | (with_reducible refine Kd.C_drew ?_))); (case side4 => exact HC0_3.out); (case side5 => repeat (first | exact (Kd.C_below HR0_4.out HB.out) | (with_reducible refine Kd.C_alloc ?_ _) | (with_reducible refine Kd.C_drewN ?_ _) | (with_reducible refine Kd.C_drew ?_))); (case side6 => exact HC0_4.out); rintro e w6 ⟨rfl, hb⟩; refine ⟨_, rfl, ?_⟩; have n0_ := zN (blk_below (g := gb290) (o := .cells #[.int .i8 a0_0, .int .i8 a0_1, .slice A0_2 l0_2.length c0_2, .slice A0_3 l0_3.length c0_3, .slice A0_4 l0_4.length c0_4] 29 (0, 0)) (by (with_reducible repeat (first | refine zE ?_ _ | refine zF ?_ | refine zG ?_ _)); exact BK290.out) hb); have n1_ := zN (below_step (by repeat (first | (with_reducible first | exact HB.out | apply zA | apply zB | apply zC | refine zD ?_ GE290.out) | exact HB.out)) hb); clear BK290; clear HB; have BK290 := n0_; have HB := n1_; clear n0_ n1_; (try clear hb); (try clear hb2); (try clear hk); (try clear hi)))
 (try simp only [Act.put, List.setIfInBounds_toArray, List.set_cons_zero, List.set_cons_succ])
 go_cut [] (fun wc => ∃ (kq : Nat), Aside0 (laws_FnExactValidMachine.j0 kq a0_0 a0_1 l0_2 l0_3 l0_4 = some r) ∧ Aside0 (kq ≤ k) ∧ Aside0 (wc.heap[gb290]? = some (.cells #[.int .i8 a0_0, .int .i8 a0_1, (.slice A0_2 l0_2.length c0_2), (.slice A0_3 l0_3.length c0_3), (.slice A0_4 l0_4.length c0_4)] 29 (0, 0))) ∧ Aside0 (Below w.heap.size w wc))
 case first =>
  have H := HC3.out
  clear HC3
  by_cases c7 : t291 < 0
  ·rw [if_pos c7] at H
   have c7b0 : decide (t291 < 0) = true := decide_eq_true c7
   clear c7
   (first | rw [c7b0] | (simp only [i64_w, i32_w]; rw [c7b0]) | (have h_ := c7b0; simp only [bne] at h_; rw [h_]) | skip)
   obtain rfl := Option.some.inj H
   go_wp2
   go_ret
   exact ⟨by first | rfl | (simp [errW_none, errW_some] <;> rfl) | (simp [*, errW_none, errW_some] <;> rfl), by repeat (first | (with_reducible first | exact HB.out | apply zA | apply zB | apply zC | refine zD ?_ GE290.out) | exact HB.out)⟩
  ·rw [if_neg c7] at H
   have c7b0 : decide (t291 < 0) = false := decide_eq_false c7
   clear c7
   (first | rw [c7b0] | (simp only [i64_w, i32_w]; rw [c7b0]) | (have h_ := c7b0; simp only [bne] at h_; rw [h_]) | skip)
   have H' := zN H
   clear H
   go_wp2
   go_meet
   case rel => exact ⟨_, H', ⟨by first | omega | exact Nat.le_refl _⟩, ⟨by (with_reducible repeat (first | refine zE ?_ _ | refine zF ?_ | refine zG ?_ _)); exact BK290.out⟩, ⟨by repeat (first | (with_reducible first | exact HB.out | apply zA | apply zB | apply zC | refine zD ?_ GE290.out) | exact HB.out)⟩⟩
 case rest =>
  clear HC3
  try clear c1
  try clear c2
  try clear p2
  try clear c7
  try clear c7b0
  try clear hcz5_0
  try clear hcz5_1
  try clear hcz5_2
  try clear hcz5_3
  try clear hcz5_4
  try clear hfz5_0
  try clear hfz5_1
  try clear hfz5_2
  try clear hfz5_3
  try clear hfz5_4
  obtain ⟨kq, HA, HJ2, BK290, HB⟩ := hcut
  cases kq with
  | zero => exact absurd HA.out (by simp [laws_FnExactValidMachine.j0])
  | succ kj2 =>
   have H := HA.out
   clear HA
   simp only [laws_FnExactValidMachine.j0] at H
   replace H := Option.bind_eq_some_iff.mp H
   obtain ⟨⟨t292, t293, t294, t297, t300⟩, A80, H⟩ := H
   replace H : ((spec_ValidMachine.f kj2 t292 t293 t294 t297 t300).bind fun t303 => ((laws_toMachine.f kj2 a0_0 a0_1 l0_2 l0_3 l0_4).bind fun bt304 => ((impl_ValidMachine.f kj2 bt304.1 bt304.2.1 bt304.2.2.1 bt304.2.2.2.1 bt304.2.2.2.2).bind fun t316 => (if (t316 != t303) = true then (some false) else (laws_FnExactValidMachine.j1 kj2 a0_0 a0_1 l0_2 l0_3 l0_4 bt304.1 bt304.2.1 bt304.2.2.1 bt304.2.2.2.1 bt304.2.2.2.2))))) = some r := H
   have A8 := zN A80
   clear A80
   replace H := Option.bind_eq_some_iff.mp H
   obtain ⟨t303, A90, H⟩ := H
   replace H : ((laws_toMachine.f kj2 a0_0 a0_1 l0_2 l0_3 l0_4).bind fun bt304 => ((impl_ValidMachine.f kj2 bt304.1 bt304.2.1 bt304.2.2.1 bt304.2.2.2.1 bt304.2.2.2.2).bind fun t316 => (if (t316 != t303) = true then (some false) else (laws_FnExactValidMachine.j1 kj2 a0_0 a0_1 l0_2 l0_3 l0_4 bt304.1 bt304.2.1 bt304.2.2.1 bt304.2.2.2.1 bt304.2.2.2.2)))) = some r := H
   have A9 := zN A90
   clear A90
   replace H := Option.bind_eq_some_iff.mp H
   obtain ⟨⟨t304, t305, t306, t309, t312⟩, A100, H⟩ := H
   replace H : ((impl_ValidMachine.f kj2 t304 t305 t306 t309 t312).bind fun t316 => (if (t316 != t303) = true then (some false) else (laws_FnExactValidMachine.j1 kj2 a0_0 a0_1 l0_2 l0_3 l0_4 t304 t305 t306 t309 t312))) = some r := H
   have A10 := zN A100
   clear A100
   replace H := Option.bind_eq_some_iff.mp H
   obtain ⟨t316, A110, H⟩ := H
   replace H : (if (t316 != t303) = true then (some false) else (laws_FnExactValidMachine.j1 kj2 a0_0 a0_1 l0_2 l0_3 l0_4 t304 t305 t306 t309 t312)) = some r := H
   have A11 := zN A110
   clear A110
   have HC12 := zN H
   clear H
   have hcz13_0 : wc.cell? ⟨gb290, 0, none⟩ = some (.int .i8 a0_0) := (blk_cell BK290.out 0).trans rfl
   have hcz13_1 : wc.cell? ⟨gb290, 1, none⟩ = some (.int .i8 a0_1) := (blk_cell BK290.out 1).trans rfl
   have hcz13_2 : wc.cell? ⟨gb290, 2, none⟩ = some (.slice A0_2 l0_2.length c0_2) := (blk_cell BK290.out 2).trans rfl
   have hcz13_3 : wc.cell? ⟨gb290, 3, none⟩ = some (.slice A0_3 l0_3.length c0_3) := (blk_cell BK290.out 3).trans rfl
   have hcz13_4 : wc.cell? ⟨gb290, 4, none⟩ = some (.slice A0_4 l0_4.length c0_4) := (blk_cell BK290.out 4).trans rfl
   have hfz13_0 := blk_frozen BK290.out 0
   have hfz13_1 := blk_frozen BK290.out 1
   have hfz13_2 := blk_frozen BK290.out 2
   have hfz13_3 := blk_frozen BK290.out 3
   have hfz13_4 := blk_frozen BK290.out 4
   go_upto_if 21 with (first | ((with_reducible refine gate_callee (f := 23) rfl ?_); refine goesL_ (some 13) rfl rfl Try.func23 (by kernel_rfl) rfl #[.agg #[.int .i8 a0_0, .int .i8 a0_1, .slice A0_2 l0_2.length c0_2, .slice A0_3 l0_3.length c0_3, .slice A0_4 l0_4.length c0_4]] rfl (by (try simp only [List.map_toArray, List.map_cons, List.map_nil]); first | done | rfl | (simp only [List.length_drop, List.length_take]; rfl)) ?_; (with_reducible refine (laws_toMachine.calls kj2 a0_0 a0_1 _ _ l0_2 _ _ l0_3 _ _ l0_4 t292 t293 t294 t297 t300 _ ?side1 ?side2 ?side3 ?side4 ?side5 ?side6 A8.out).mono ?_); (case side1 => repeat (first | exact (Kd.C_below HR0_2.out HB.out) | (with_reducible refine Kd.C_alloc ?_ _) | (with_reducible refine Kd.C_drewN ?_ _) | (with_reducible refine Kd.C_drew ?_))); (case side2 => exact HC0_2.out); (case side3 => repeat (first | exact (Kd.C_below HR0_3.out HB.out) | (with_reducible refine Kd.C_alloc ?_ _) | (with_reducible refine Kd.C_drewN ?_ _) | (with_reducible refine Kd.C_drew ?_))); (case side4 => exact HC0_3.out); (case side5 => repeat (first | exact (Kd.C_below HR0_4.out HB.out) | (with_reducible refine Kd.C_alloc ?_ _) | (with_reducible refine Kd.C_drewN ?_ _) | (with_reducible refine Kd.C_drew ?_))); (case side6 => exact HC0_4.out); rintro e w14 ⟨v295, v298, v301, rfl, ho0, ho1, ho2, hb⟩; refine ⟨_, rfl, ?_⟩; have n0_ := zN (Kd.R_lower ho0 (below_size (by repeat (first | (with_reducible first | exact HB.out | apply zA | apply zB | apply zC | refine zD ?_ GE290.out) | exact HB.out)))); have n1_ := zN (Kd.R_lower ho1 (below_size (by repeat (first | (with_reducible first | exact HB.out | apply zA | apply zB | apply zC | refine zD ?_ GE290.out) | exact HB.out)))); have n2_ := zN (Kd.R_lower ho2 (below_size (by repeat (first | (with_reducible first | exact HB.out | apply zA | apply zB | apply zC | refine zD ?_ GE290.out) | exact HB.out)))); have n3_ := zN (blk_below (g := gb290) (o := .cells #[.int .i8 a0_0, .int .i8 a0_1, .slice A0_2 l0_2.length c0_2, .slice A0_3 l0_3.length c0_3, .slice A0_4 l0_4.length c0_4] 29 (0, 0)) (by (with_reducible repeat (first | refine zE ?_ _ | refine zF ?_ | refine zG ?_ _)); exact BK290.out) hb); have n4_ := zN (below_step (by repeat (first | (with_reducible first | exact HB.out | apply zA | apply zB | apply zC | refine zD ?_ GE290.out) | exact HB.out)) hb); clear BK290; clear HB; have HO296 := n0_; have HO299 := n1_; have HO302 := n2_; have BK290 := n3_; have HB := n4_; clear n0_ n1_ n2_ n3_ n4_; (try clear hb); (try clear hb2); (try clear hk); (try clear hi); (try clear ho0); (try clear ho1); (try clear ho2); obtain ⟨Ao15, co15, eo15⟩ := Kd.R_slice HO296.out; subst eo15; obtain ⟨Ao16, co16, eo16⟩ := Kd.R_slice HO299.out; subst eo16; obtain ⟨Ao17, co17, eo17⟩ := Kd.R_slice HO302.out; subst eo17) | ((with_reducible refine gate_callee (f := 78) rfl ?_); refine goesL_ (some 14) rfl rfl Try.func78 (by kernel_rfl) rfl #[.agg #[.int .i8 t292, .int .i8 t293, .slice Ao15 t294.length co15, .slice Ao16 t297.length co16, .slice Ao17 t300.length co17]] rfl (by (try simp only [List.map_toArray, List.map_cons, List.map_nil]); first | done | rfl | (simp only [List.length_drop, List.length_take]; rfl)) ?_; (with_reducible refine (spec_ValidMachine.calls kj2 t292 t293 _ _ t294 _ _ t297 _ _ t300 t303 _ ?side1 ?side2 ?side3 ?side4 ?side5 ?side6 A9.out).mono ?_); (case side1 => repeat (first | exact (Kd.R_reads' HO296.out).2.2 | (with_reducible refine Kd.C_alloc ?_ _) | (with_reducible refine Kd.C_drewN ?_ _) | (with_reducible refine Kd.C_drew ?_))); (case side2 => exact (Kd.R_reads' HO296.out).2.1); (case side3 => repeat (first | exact (Kd.R_reads' HO299.out).2.2 | (with_reducible refine Kd.C_alloc ?_ _) | (with_reducible refine Kd.C_drewN ?_ _) | (with_reducible refine Kd.C_drew ?_))); (case side4 => exact (Kd.R_reads' HO299.out).2.1); (case side5 => repeat (first | exact (Kd.R_reads' HO302.out).2.2 | (with_reducible refine Kd.C_alloc ?_ _) | (with_reducible refine Kd.C_drewN ?_ _) | (with_reducible refine Kd.C_drew ?_))); (case side6 => exact (Kd.R_reads' HO302.out).2.1); rintro e w18 ⟨rfl, hb⟩; refine ⟨_, rfl, ?_⟩; have n0_ := zN (Kd.R_below (by (with_reducible repeat (first | apply Kd.R_alloc | apply Kd.R_drewN | apply Kd.R_drew)); exact HO296.out) hb); have n1_ := zN (Kd.R_below (by (with_reducible repeat (first | apply Kd.R_alloc | apply Kd.R_drewN | apply Kd.R_drew)); exact HO299.out) hb); have n2_ := zN (Kd.R_below (by (with_reducible repeat (first | apply Kd.R_alloc | apply Kd.R_drewN | apply Kd.R_drew)); exact HO302.out) hb); have n3_ := zN (blk_below (g := gb290) (o := .cells #[.int .i8 a0_0, .int .i8 a0_1, .slice A0_2 l0_2.length c0_2, .slice A0_3 l0_3.length c0_3, .slice A0_4 l0_4.length c0_4] 29 (0, 0)) (by (with_reducible repeat (first | refine zE ?_ _ | refine zF ?_ | refine zG ?_ _)); exact BK290.out) hb); have n4_ := zN (below_step (by repeat (first | (with_reducible first | exact HB.out | apply zA | apply zB | apply zC | refine zD ?_ GE290.out) | exact HB.out)) hb); clear HO296; clear HO299; clear HO302; clear BK290; clear HB; have HO296 := n0_; have HO299 := n1_; have HO302 := n2_; have BK290 := n3_; have HB := n4_; clear n0_ n1_ n2_ n3_ n4_; (try clear hb); (try clear hb2); (try clear hk); (try clear hi); have hcz19_0 : w18.cell? ⟨gb290, 0, none⟩ = some (.int .i8 a0_0) := (blk_cell BK290.out 0).trans rfl; have hcz19_1 : w18.cell? ⟨gb290, 1, none⟩ = some (.int .i8 a0_1) := (blk_cell BK290.out 1).trans rfl; have hcz19_2 : w18.cell? ⟨gb290, 2, none⟩ = some (.slice A0_2 l0_2.length c0_2) := (blk_cell BK290.out 2).trans rfl; have hcz19_3 : w18.cell? ⟨gb290, 3, none⟩ = some (.slice A0_3 l0_3.length c0_3) := (blk_cell BK290.out 3).trans rfl; have hcz19_4 : w18.cell? ⟨gb290, 4, none⟩ = some (.slice A0_4 l0_4.length c0_4) := (blk_cell BK290.out 4).trans rfl; have hfz19_0 := blk_frozen BK290.out 0; have hfz19_1 := blk_frozen BK290.out 1; have hfz19_2 := blk_frozen BK290.out 2; have hfz19_3 := blk_frozen BK290.out 3; have hfz19_4 := blk_frozen BK290.out 4) | ((with_reducible refine gate_callee (f := 23) rfl ?_); refine goesL_ (some 16) rfl rfl Try.func23 (by kernel_rfl) rfl #[.agg #[.int .i8 a0_0, .int .i8 a0_1, .slice A0_2 l0_2.length c0_2, .slice A0_3 l0_3.length c0_3, .slice A0_4 l0_4.length c0_4]] rfl (by (try simp only [List.map_toArray, List.map_cons, List.map_nil]); first | done | rfl | (simp only [List.length_drop, List.length_take]; rfl)) ?_; (with_reducible refine (laws_toMachine.calls kj2 a0_0 a0_1 _ _ l0_2 _ _ l0_3 _ _ l0_4 t304 t305 t306 t309 t312 _ ?side1 ?side2 ?side3 ?side4 ?side5 ?side6 A10.out).mono ?_); (case side1 => repeat (first | exact (Kd.C_below HR0_2.out HB.out) | (with_reducible refine Kd.C_alloc ?_ _) | (with_reducible refine Kd.C_drewN ?_ _) | (with_reducible refine Kd.C_drew ?_))); (case side2 => exact HC0_2.out); (case side3 => repeat (first | exact (Kd.C_below HR0_3.out HB.out) | (with_reducible refine Kd.C_alloc ?_ _) | (with_reducible refine Kd.C_drewN ?_ _) | (with_reducible refine Kd.C_drew ?_))); (case side4 => exact HC0_3.out); (case side5 => repeat (first | exact (Kd.C_below HR0_4.out HB.out) | (with_reducible refine Kd.C_alloc ?_ _) | (with_reducible refine Kd.C_drewN ?_ _) | (with_reducible refine Kd.C_drew ?_))); (case side6 => exact HC0_4.out); rintro e w20 ⟨v307, v310, v313, rfl, ho0, ho1, ho2, hb⟩; refine ⟨_, rfl, ?_⟩; have n0_ := zN (Kd.R_elder' (by (with_reducible repeat (first | apply Kd.R_alloc | apply Kd.R_drewN | apply Kd.R_drew)); exact HO296.out) (Kd.R_base ho0) hb); have n1_ := zN (Kd.R_elder' (by (with_reducible repeat (first | apply Kd.R_alloc | apply Kd.R_drewN | apply Kd.R_drew)); exact HO299.out) (Kd.R_base ho1) hb); have n2_ := zN (Kd.R_elder' (by (with_reducible repeat (first | apply Kd.R_alloc | apply Kd.R_drewN | apply Kd.R_drew)); exact HO302.out) (Kd.R_base ho2) hb); have n3_ := zN (Kd.R_lower (Kd.R_new' ho0 (Kd.R_lt (by (with_reducible repeat (first | apply Kd.R_alloc | apply Kd.R_drewN | apply Kd.R_drew)); exact HO296.out))) (below_size (by repeat (first | (with_reducible first | exact HB.out | apply zA | apply zB | apply zC | refine zD ?_ GE290.out) | exact HB.out)))); have n4_ := zN (Kd.R_lower (Kd.R_new' ho1 (Kd.R_lt (by (with_reducible repeat (first | apply Kd.R_alloc | apply Kd.R_drewN | apply Kd.R_drew)); exact HO299.out))) (below_size (by repeat (first | (with_reducible first | exact HB.out | apply zA | apply zB | apply zC | refine zD ?_ GE290.out) | exact HB.out)))); have n5_ := zN (Kd.R_lower (Kd.R_new' ho2 (Kd.R_lt (by (with_reducible repeat (first | apply Kd.R_alloc | apply Kd.R_drewN | apply Kd.R_drew)); exact HO302.out))) (below_size (by repeat (first | (with_reducible first | exact HB.out | apply zA | apply zB | apply zC | refine zD ?_ GE290.out) | exact HB.out)))); have n6_ := zN (blk_below (g := gb290) (o := .cells #[.int .i8 a0_0, .int .i8 a0_1, .slice A0_2 l0_2.length c0_2, .slice A0_3 l0_3.length c0_3, .slice A0_4 l0_4.length c0_4] 29 (0, 0)) (by (with_reducible repeat (first | refine zE ?_ _ | refine zF ?_ | refine zG ?_ _)); exact BK290.out) hb); have n7_ := zN (below_step (by repeat (first | (with_reducible first | exact HB.out | apply zA | apply zB | apply zC | refine zD ?_ GE290.out) | exact HB.out)) hb); clear HO296; clear HO299; clear HO302; clear BK290; clear HB; have HO296 := n0_; have HO299 := n1_; have HO302 := n2_; have HO308 := n3_; have HO311 := n4_; have HO314 := n5_; have BK290 := n6_; have HB := n7_; clear n0_ n1_ n2_ n3_ n4_ n5_ n6_ n7_; (try clear hb); (try clear hb2); (try clear hk); (try clear hi); (try clear ho0); (try clear ho1); (try clear ho2)) | ((with_reducible refine gate_dst (N := 5) rfl ?_); refine box_event ?hg (N := 5) ?hd (cs := #[.int .i8 0, .int .i8 0, .slice none 0 0, .slice none 0 0, .slice none 0 0]) (t := 41) ?hr ?_; (case hd => rfl); (case hg => rfl); (case hr => first | (go_simp; done) | (go_simp; rfl)); intro gb315 hg w21 hbox hb; have n0_ := zN (Kd.R_below (by (with_reducible repeat (first | apply Kd.R_alloc | apply Kd.R_drewN | apply Kd.R_drew)); exact HO296.out) hb); have n1_ := zN (Kd.R_below (by (with_reducible repeat (first | apply Kd.R_alloc | apply Kd.R_drewN | apply Kd.R_drew)); exact HO299.out) hb); have n2_ := zN (Kd.R_below (by (with_reducible repeat (first | apply Kd.R_alloc | apply Kd.R_drewN | apply Kd.R_drew)); exact HO302.out) hb); have n3_ := zN (Kd.R_below (by (with_reducible repeat (first | apply Kd.R_alloc | apply Kd.R_drewN | apply Kd.R_drew)); exact HO308.out) hb); have n4_ := zN (Kd.R_below (by (with_reducible repeat (first | apply Kd.R_alloc | apply Kd.R_drewN | apply Kd.R_drew)); exact HO311.out) hb); have n5_ := zN (Kd.R_below (by (with_reducible repeat (first | apply Kd.R_alloc | apply Kd.R_drewN | apply Kd.R_drew)); exact HO314.out) hb); have n6_ := zN (blk_below (g := gb290) (o := .cells #[.int .i8 a0_0, .int .i8 a0_1, .slice A0_2 l0_2.length c0_2, .slice A0_3 l0_3.length c0_3, .slice A0_4 l0_4.length c0_4] 29 (0, 0)) (by (with_reducible repeat (first | refine zE ?_ _ | refine zF ?_ | refine zG ?_ _)); exact BK290.out) hb); have n7_ := zN (below_step (by repeat (first | (with_reducible first | exact HB.out | apply zA | apply zB | apply zC | refine zD ?_ GE290.out) | exact HB.out)) hb); have n8_ := zN (hbox); have n9_ := zN ((by rw [hg]; exact (below_size (by repeat (first | (with_reducible first | exact HB.out | apply zA | apply zB | apply zC | refine zD ?_ GE290.out) | exact HB.out))) : w.heap.size ≤ gb315)); have n10_ := zN ((by rw [hg]; exact (below_size (by repeat (first | (with_reducible first | exact HB.out | apply zA | apply zB | apply zC | refine zD ?_ GE290.out) | exact HB.out))) : w.heap.size ≤ gb315)); have n11_ := zN ((by rw [hg]; exact Nat.ne_of_lt (blk_lt (g := gb290) (o := .cells #[.int .i8 a0_0, .int .i8 a0_1, .slice A0_2 l0_2.length c0_2, .slice A0_3 l0_3.length c0_3, .slice A0_4 l0_4.length c0_4] 29 (0, 0)) (by (with_reducible repeat (first | refine zE ?_ _ | refine zF ?_ | refine zG ?_ _)); exact BK290.out)) : gb290 ≠ gb315)); have n12_ := zN ((by rw [hg]; exact Nat.ne_of_gt (blk_lt (g := gb290) (o := .cells #[.int .i8 a0_0, .int .i8 a0_1, .slice A0_2 l0_2.length c0_2, .slice A0_3 l0_3.length c0_3, .slice A0_4 l0_4.length c0_4] 29 (0, 0)) (by (with_reducible repeat (first | refine zE ?_ _ | refine zF ?_ | refine zG ?_ _)); exact BK290.out)) : gb315 ≠ gb290)); clear HO296; clear HO299; clear HO302; clear HO308; clear HO311; clear HO314; clear BK290; clear HB; have HO296 := n0_; have HO299 := n1_; have HO302 := n2_; have HO308 := n3_; have HO311 := n4_; have HO314 := n5_; have BK290 := n6_; have HB := n7_; have BK315 := n8_; have GW315 := n9_; have GE315 := n10_; have NB290_315 := n11_; have NB315_290 := n12_; clear n0_ n1_ n2_ n3_ n4_ n5_ n6_ n7_ n8_ n9_ n10_ n11_ n12_; clear hb hbox hg; have hnb22 := NB315_290.out; have hnc22 := NB290_315.out; have hcz23_0 : w21.cell? ⟨gb315, 0, none⟩ = some (.int .i8 0) := (blk_cell BK315.out 0).trans rfl; have hcz23_1 : w21.cell? ⟨gb315, 1, none⟩ = some (.int .i8 0) := (blk_cell BK315.out 1).trans rfl; have hcz23_2 : w21.cell? ⟨gb315, 2, none⟩ = some (.slice none 0 0) := (blk_cell BK315.out 2).trans rfl; have hcz23_3 : w21.cell? ⟨gb315, 3, none⟩ = some (.slice none 0 0) := (blk_cell BK315.out 3).trans rfl; have hcz23_4 : w21.cell? ⟨gb315, 4, none⟩ = some (.slice none 0 0) := (blk_cell BK315.out 4).trans rfl; have hfz23_0 := blk_frozen BK315.out 0; have hfz23_1 := blk_frozen BK315.out 1; have hfz23_2 := blk_frozen BK315.out 2; have hfz23_3 := blk_frozen BK315.out 3; have hfz23_4 := blk_frozen BK315.out 4; obtain ⟨Ao24, co24, eo24⟩ := Kd.R_slice HO308.out; subst eo24; obtain ⟨Ao25, co25, eo25⟩ := Kd.R_slice HO311.out; subst eo25; obtain ⟨Ao26, co26, eo26⟩ := Kd.R_slice HO314.out; subst eo26) | ((with_reducible refine gate_callee (f := 79) rfl ?_); refine goesL_ (some 18) rfl rfl Try.func79 (by kernel_rfl) rfl #[.agg #[.int .i8 t304, .int .i8 t305, .slice Ao24 t306.length co24, .slice Ao25 t309.length co25, .slice Ao26 t312.length co26]] rfl (by (try simp only [List.map_toArray, List.map_cons, List.map_nil]); first | done | rfl | (simp only [List.length_drop, List.length_take]; rfl)) ?_; (with_reducible refine (impl_ValidMachine.calls kj2 t304 t305 _ _ t306 _ _ t309 _ _ t312 t316 _ ?side1 ?side2 ?side3 ?side4 ?side5 ?side6 A11.out).mono ?_); (case side1 => refine (Kd.R_reads' (e := 91) (base := w.heap.size) (ok := fun k_ => (True ∧ some k_ ≠ (.slice Ao15 t294.length co15 : Value).ownBlock)) (n := t306.length) (c := co24) ?_).2.2; exact (by (with_reducible repeat (first | apply Kd.R_alloc | apply Kd.R_drewN | apply Kd.R_drew)); exact (Kd.R_mono (Kd.R_far (p := ⟨gb315, 4, none⟩) (Kd.R_far (p := ⟨gb315, 3, none⟩) (Kd.R_far (p := ⟨gb315, 2, none⟩) (Kd.R_far (p := ⟨gb315, 1, none⟩) (Kd.R_far (p := ⟨gb315, 0, none⟩) (Kd.R_types HO308.out BK315.out (by decide)) (fun _ hk => hk.2) (.int .i8 t304)) (fun _ hk => hk.2) (.int .i8 t305)) (fun _ hk => hk.2) (.slice Ao24 t306.length co24)) (fun _ hk => hk.2) (.slice Ao25 t309.length co25)) (fun _ hk => hk.2) (.slice Ao26 t312.length co26)) (fun _ h_ => h_.1)))); (case side2 => exact (Kd.R_reads' HO308.out).2.1); (case side3 => refine (Kd.R_reads' (e := 116) (base := w.heap.size) (ok := fun k_ => (True ∧ some k_ ≠ (.slice Ao16 t297.length co16 : Value).ownBlock)) (n := t309.length) (c := co25) ?_).2.2; exact (by (with_reducible repeat (first | apply Kd.R_alloc | apply Kd.R_drewN | apply Kd.R_drew)); exact (Kd.R_mono (Kd.R_far (p := ⟨gb315, 4, none⟩) (Kd.R_far (p := ⟨gb315, 3, none⟩) (Kd.R_far (p := ⟨gb315, 2, none⟩) (Kd.R_far (p := ⟨gb315, 1, none⟩) (Kd.R_far (p := ⟨gb315, 0, none⟩) (Kd.R_types HO311.out BK315.out (by decide)) (fun _ hk => hk.2) (.int .i8 t304)) (fun _ hk => hk.2) (.int .i8 t305)) (fun _ hk => hk.2) (.slice Ao24 t306.length co24)) (fun _ hk => hk.2) (.slice Ao25 t309.length co25)) (fun _ hk => hk.2) (.slice Ao26 t312.length co26)) (fun _ h_ => h_.1)))); (case side4 => exact (Kd.R_reads' HO311.out).2.1); (case side5 => refine (Kd.R_reads' (e := 74) (base := w.heap.size) (ok := fun k_ => (True ∧ some k_ ≠ (.slice Ao17 t300.length co17 : Value).ownBlock)) (n := t312.length) (c := co26) ?_).2.2; exact (by (with_reducible repeat (first | apply Kd.R_alloc | apply Kd.R_drewN | apply Kd.R_drew)); exact (Kd.R_mono (Kd.R_far (p := ⟨gb315, 4, none⟩) (Kd.R_far (p := ⟨gb315, 3, none⟩) (Kd.R_far (p := ⟨gb315, 2, none⟩) (Kd.R_far (p := ⟨gb315, 1, none⟩) (Kd.R_far (p := ⟨gb315, 0, none⟩) (Kd.R_types HO314.out BK315.out (by decide)) (fun _ hk => hk.2) (.int .i8 t304)) (fun _ hk => hk.2) (.int .i8 t305)) (fun _ hk => hk.2) (.slice Ao24 t306.length co24)) (fun _ hk => hk.2) (.slice Ao25 t309.length co25)) (fun _ hk => hk.2) (.slice Ao26 t312.length co26)) (fun _ h_ => h_.1)))); (case side6 => exact (Kd.R_reads' HO314.out).2.1); rintro e w27 ⟨rfl, hb⟩; refine ⟨_, rfl, ?_⟩; have n0_ := zN (Kd.R_below (by (with_reducible repeat (first | apply Kd.R_alloc | apply Kd.R_drewN | apply Kd.R_drew)); exact (Kd.R_mono (Kd.R_far (p := ⟨gb315, 4, none⟩) (Kd.R_far (p := ⟨gb315, 3, none⟩) (Kd.R_far (p := ⟨gb315, 2, none⟩) (Kd.R_far (p := ⟨gb315, 1, none⟩) (Kd.R_far (p := ⟨gb315, 0, none⟩) (Kd.R_types HO296.out BK315.out (by decide)) (fun _ hk => hk.2) (.int .i8 t304)) (fun _ hk => hk.2) (.int .i8 t305)) (fun _ hk => hk.2) (.slice Ao24 t306.length co24)) (fun _ hk => hk.2) (.slice Ao25 t309.length co25)) (fun _ hk => hk.2) (.slice Ao26 t312.length co26)) (fun _ h_ => h_.1))) hb); have n1_ := zN (Kd.R_below (by (with_reducible repeat (first | apply Kd.R_alloc | apply Kd.R_drewN | apply Kd.R_drew)); exact (Kd.R_mono (Kd.R_far (p := ⟨gb315, 4, none⟩) (Kd.R_far (p := ⟨gb315, 3, none⟩) (Kd.R_far (p := ⟨gb315, 2, none⟩) (Kd.R_far (p := ⟨gb315, 1, none⟩) (Kd.R_far (p := ⟨gb315, 0, none⟩) (Kd.R_types HO299.out BK315.out (by decide)) (fun _ hk => hk.2) (.int .i8 t304)) (fun _ hk => hk.2) (.int .i8 t305)) (fun _ hk => hk.2) (.slice Ao24 t306.length co24)) (fun _ hk => hk.2) (.slice Ao25 t309.length co25)) (fun _ hk => hk.2) (.slice Ao26 t312.length co26)) (fun _ h_ => h_.1))) hb); have n2_ := zN (Kd.R_below (by (with_reducible repeat (first | apply Kd.R_alloc | apply Kd.R_drewN | apply Kd.R_drew)); exact (Kd.R_mono (Kd.R_far (p := ⟨gb315, 4, none⟩) (Kd.R_far (p := ⟨gb315, 3, none⟩) (Kd.R_far (p := ⟨gb315, 2, none⟩) (Kd.R_far (p := ⟨gb315, 1, none⟩) (Kd.R_far (p := ⟨gb315, 0, none⟩) (Kd.R_types HO302.out BK315.out (by decide)) (fun _ hk => hk.2) (.int .i8 t304)) (fun _ hk => hk.2) (.int .i8 t305)) (fun _ hk => hk.2) (.slice Ao24 t306.length co24)) (fun _ hk => hk.2) (.slice Ao25 t309.length co25)) (fun _ hk => hk.2) (.slice Ao26 t312.length co26)) (fun _ h_ => h_.1))) hb); have n3_ := zN (Kd.R_below (by (with_reducible repeat (first | apply Kd.R_alloc | apply Kd.R_drewN | apply Kd.R_drew)); exact (Kd.R_mono (Kd.R_far (p := ⟨gb315, 4, none⟩) (Kd.R_far (p := ⟨gb315, 3, none⟩) (Kd.R_far (p := ⟨gb315, 2, none⟩) (Kd.R_far (p := ⟨gb315, 1, none⟩) (Kd.R_far (p := ⟨gb315, 0, none⟩) (Kd.R_types HO308.out BK315.out (by decide)) (fun _ hk => hk.2) (.int .i8 t304)) (fun _ hk => hk.2) (.int .i8 t305)) (fun _ hk => hk.2) (.slice Ao24 t306.length co24)) (fun _ hk => hk.2) (.slice Ao25 t309.length co25)) (fun _ hk => hk.2) (.slice Ao26 t312.length co26)) (fun _ h_ => h_.1))) hb); have n4_ := zN (Kd.R_below (by (with_reducible repeat (first | apply Kd.R_alloc | apply Kd.R_drewN | apply Kd.R_drew)); exact (Kd.R_mono (Kd.R_far (p := ⟨gb315, 4, none⟩) (Kd.R_far (p := ⟨gb315, 3, none⟩) (Kd.R_far (p := ⟨gb315, 2, none⟩) (Kd.R_far (p := ⟨gb315, 1, none⟩) (Kd.R_far (p := ⟨gb315, 0, none⟩) (Kd.R_types HO311.out BK315.out (by decide)) (fun _ hk => hk.2) (.int .i8 t304)) (fun _ hk => hk.2) (.int .i8 t305)) (fun _ hk => hk.2) (.slice Ao24 t306.length co24)) (fun _ hk => hk.2) (.slice Ao25 t309.length co25)) (fun _ hk => hk.2) (.slice Ao26 t312.length co26)) (fun _ h_ => h_.1))) hb); have n5_ := zN (Kd.R_below (by (with_reducible repeat (first | apply Kd.R_alloc | apply Kd.R_drewN | apply Kd.R_drew)); exact (Kd.R_mono (Kd.R_far (p := ⟨gb315, 4, none⟩) (Kd.R_far (p := ⟨gb315, 3, none⟩) (Kd.R_far (p := ⟨gb315, 2, none⟩) (Kd.R_far (p := ⟨gb315, 1, none⟩) (Kd.R_far (p := ⟨gb315, 0, none⟩) (Kd.R_types HO314.out BK315.out (by decide)) (fun _ hk => hk.2) (.int .i8 t304)) (fun _ hk => hk.2) (.int .i8 t305)) (fun _ hk => hk.2) (.slice Ao24 t306.length co24)) (fun _ hk => hk.2) (.slice Ao25 t309.length co25)) (fun _ hk => hk.2) (.slice Ao26 t312.length co26)) (fun _ h_ => h_.1))) hb); have n6_ := zN (blk_below (g := gb290) (o := .cells #[.int .i8 a0_0, .int .i8 a0_1, .slice A0_2 l0_2.length c0_2, .slice A0_3 l0_3.length c0_3, .slice A0_4 l0_4.length c0_4] 29 (0, 0)) (by (with_reducible repeat (first | refine zE ?_ _ | refine zF ?_ | refine zG ?_ _)); refine blk_far ?_ NB290_315.out _; (with_reducible repeat (first | refine zE ?_ _ | refine zF ?_ | refine zG ?_ _)); refine blk_far ?_ NB290_315.out _; (with_reducible repeat (first | refine zE ?_ _ | refine zF ?_ | refine zG ?_ _)); refine blk_far ?_ NB290_315.out _; (with_reducible repeat (first | refine zE ?_ _ | refine zF ?_ | refine zG ?_ _)); refine blk_far ?_ NB290_315.out _; (with_reducible repeat (first | refine zE ?_ _ | refine zF ?_ | refine zG ?_ _)); refine blk_far ?_ NB290_315.out _; (with_reducible repeat (first | refine zE ?_ _ | refine zF ?_ | refine zG ?_ _)); exact BK290.out) hb); have n7_ := zN (blk_below (g := gb315) (o := .cells #[.int .i8 t304, .int .i8 t305, .slice Ao24 t306.length co24, .slice Ao25 t309.length co25, .slice Ao26 t312.length co26] 41 (0, 0)) (by (with_reducible repeat (first | refine zE ?_ _ | refine zF ?_ | refine zG ?_ _)); refine blk_put (cs := #[.int .i8 t304, .int .i8 t305, .slice Ao24 t306.length co24, .slice Ao25 t309.length co25, .slice none 0 0]) ?_ 4 _ rfl; (with_reducible repeat (first | refine zE ?_ _ | refine zF ?_ | refine zG ?_ _)); refine blk_put (cs := #[.int .i8 t304, .int .i8 t305, .slice Ao24 t306.length co24, .slice none 0 0, .slice none 0 0]) ?_ 3 _ rfl; (with_reducible repeat (first | refine zE ?_ _ | refine zF ?_ | refine zG ?_ _)); refine blk_put (cs := #[.int .i8 t304, .int .i8 t305, .slice none 0 0, .slice none 0 0, .slice none 0 0]) ?_ 2 _ rfl; (with_reducible repeat (first | refine zE ?_ _ | refine zF ?_ | refine zG ?_ _)); refine blk_put (cs := #[.int .i8 t304, .int .i8 0, .slice none 0 0, .slice none 0 0, .slice none 0 0]) ?_ 1 _ rfl; (with_reducible repeat (first | refine zE ?_ _ | refine zF ?_ | refine zG ?_ _)); refine blk_put (cs := #[.int .i8 0, .int .i8 0, .slice none 0 0, .slice none 0 0, .slice none 0 0]) ?_ 0 _ rfl; (with_reducible repeat (first | refine zE ?_ _ | refine zF ?_ | refine zG ?_ _)); exact BK315.out) hb); have n8_ := zN (below_step (by repeat (first | (with_reducible first | exact HB.out | apply zA | apply zB | apply zC | refine zD ?_ GE290.out | refine zD ?_ GE315.out) | exact HB.out)) hb); clear HO296; clear HO299; clear HO302; clear HO308; clear HO311; clear HO314; clear BK290; clear BK315; clear HB; have HO296 := n0_; have HO299 := n1_; have HO302 := n2_; have HO308 := n3_; have HO311 := n4_; have HO314 := n5_; have BK290 := n6_; have BK315 := n7_; have HB := n8_; clear n0_ n1_ n2_ n3_ n4_ n5_ n6_ n7_ n8_; (try clear hb); (try clear hb2); (try clear hk); (try clear hi)))
   (try simp only [Act.put, List.setIfInBounds_toArray, List.set_cons_zero, List.set_cons_succ])
   go_cut [] (fun wc => ∃ (kq : Nat), Aside0 (laws_FnExactValidMachine.j1 kq a0_0 a0_1 l0_2 l0_3 l0_4 t304 t305 t306 t309 t312 = some r) ∧ Aside0 (kq ≤ kj2) ∧ Aside0 (Kd.R k91 91 wc w.heap.size (fun _ => True) (.slice Ao24 t306.length co24) t306) ∧ Aside0 (Kd.R k116 116 wc w.heap.size (fun _ => True) (.slice Ao25 t309.length co25) t309) ∧ Aside0 (Kd.R k74 74 wc w.heap.size (fun _ => True) (.slice Ao26 t312.length co26) t312) ∧ Aside0 (wc.heap[gb290]? = some (.cells #[.int .i8 a0_0, .int .i8 a0_1, (.slice A0_2 l0_2.length c0_2), (.slice A0_3 l0_3.length c0_3), (.slice A0_4 l0_4.length c0_4)] 29 (0, 0))) ∧ Aside0 (wc.heap[gb315]? = some (.cells #[.int .i8 t304, .int .i8 t305, (.slice Ao24 t306.length co24), (.slice Ao25 t309.length co25), (.slice Ao26 t312.length co26)] 41 (0, 0))) ∧ Aside0 (Below w.heap.size w wc))
   case first =>
    have H := HC12.out
    clear HC12
    by_cases c28 : (t316 != t303) = true
    ·rw [if_pos c28] at H
     have c28b0 : (t316 != t303) = true := c28
     (try (have c28b1 : decide (t316 = t303) = false := by first | (simpa using c28) | (have h_ := c28; revert h_; cases t316 <;> cases t303 <;> decide)))
     (try (have c28b2 : (t316 == t303) = false := by first | (simpa using c28) | (have h_ := c28; revert h_; cases t316 <;> cases t303 <;> decide)))
     (try (have c28b3 : ¬ (t316 = t303) := by simpa using c28))
     clear c28
     (first | rw [c28b0] | (simp only [i64_w, i32_w]; rw [c28b0]) | (have h_ := c28b0; simp only [bne] at h_; rw [h_]) | skip)
     obtain rfl := Option.some.inj H
     go_wp2
     go_ret
     exact ⟨by first | rfl | (simp [errW_none, errW_some] <;> rfl) | (simp [*, errW_none, errW_some] <;> rfl), by repeat (first | (with_reducible first | exact HB.out | apply zA | apply zB | apply zC | refine zD ?_ GE290.out | refine zD ?_ GE315.out) | exact HB.out)⟩
    ·rw [if_neg c28] at H
     have c28b0 : (t316 != t303) = false := by simpa using c28
     (try (have c28b1 : decide (t316 = t303) = true := by first | (simpa using c28) | (have h_ := c28; revert h_; cases t316 <;> cases t303 <;> decide)))
     (try (have c28b2 : (t316 == t303) = true := by first | (simpa using c28) | (have h_ := c28; revert h_; cases t316 <;> cases t303 <;> decide)))
     clear c28
     (first | rw [c28b0] | (simp only [i64_w, i32_w]; rw [c28b0]) | (have h_ := c28b0; simp only [bne] at h_; rw [h_]) | skip)
     have H' := zN H
     clear H
     go_wp2
     go_meet
     case rel => exact ⟨_, H', ⟨by have := HJ2.out; first | omega | exact Nat.le_refl _⟩, ⟨by (with_reducible repeat (first | apply Kd.R_alloc | apply Kd.R_drewN | apply Kd.R_drew)); exact Kd.R_mono HO308.out (fun _ hk => trivial)⟩, ⟨by (with_reducible repeat (first | apply Kd.R_alloc | apply Kd.R_drewN | apply Kd.R_drew)); exact Kd.R_mono HO311.out (fun _ hk => trivial)⟩, ⟨by (with_reducible repeat (first | apply Kd.R_alloc | apply Kd.R_drewN | apply Kd.R_drew)); exact Kd.R_mono HO314.out (fun _ hk => trivial)⟩, ⟨by (with_reducible repeat (first | refine zE ?_ _ | refine zF ?_ | refine zG ?_ _)); exact BK290.out⟩, ⟨by (with_reducible repeat (first | refine zE ?_ _ | refine zF ?_ | refine zG ?_ _)); exact BK315.out⟩, ⟨by repeat (first | (with_reducible first | exact HB.out | apply zA | apply zB | apply zC | refine zD ?_ GE290.out | refine zD ?_ GE315.out) | exact HB.out)⟩⟩
   case rest =>
    clear HC12
    try clear c1
    try clear c2
    try clear p2
    try clear c7
    try clear c7b0
    try clear c19
    try clear c21
    try clear c22
    try clear c23
    try clear c28
    try clear c28b0
    try clear c28b1
    try clear c28b2
    try clear hcz13_0
    try clear hcz13_1
    try clear hcz13_2
    try clear hcz13_3
    try clear hcz13_4
    try clear hcz19_0
    try clear hcz19_1
    try clear hcz19_2
    try clear hcz19_3
    try clear hcz19_4
    try clear hcz23_0
    try clear hcz23_1
    try clear hcz23_2
    try clear hcz23_3
    try clear hcz23_4
    try clear hcz5_0
    try clear hcz5_1
    try clear hcz5_2
    try clear hcz5_3
    try clear hcz5_4
    try clear hfz13_0
    try clear hfz13_1
    try clear hfz13_2
    try clear hfz13_3
    try clear hfz13_4
    try clear hfz19_0
    try clear hfz19_1
    try clear hfz19_2
    try clear hfz19_3
    try clear hfz19_4
    try clear hfz23_0
    try clear hfz23_1
    try clear hfz23_2
    try clear hfz23_3
    try clear hfz23_4
    try clear hfz5_0
    try clear hfz5_1
    try clear hfz5_2
    try clear hfz5_3
    try clear hfz5_4
    try clear p2
    obtain ⟨kq, HA, HJ11, HO_316002, HO_316003, HO_316004, BK290, BK315, HB⟩ := hcut
    cases kq with
    | zero => exact absurd HA.out (by simp [laws_FnExactValidMachine.j1])
    | succ kj11 =>
     have H := HA.out
     clear HA
     simp only [laws_FnExactValidMachine.j1] at H
     replace H := Option.bind_eq_some_iff.mp H
     obtain ⟨⟨t317, t318, t319, t322, t325⟩, A290, H⟩ := H
     replace H : ((laws_eqMachine.f kj11 t304 t305 t306 t309 t312 t317 t318 t319 t322 t325).bind fun t328 => (if t328 = true then (some true) else (some false))) = some r := H
     have A29 := zN A290
     clear A290
     replace H := Option.bind_eq_some_iff.mp H
     obtain ⟨t328, A300, H⟩ := H
     replace H : (if t328 = true then (some true) else (some false)) = some r := H
     have A30 := zN A300
     clear A300
     by_cases c31 : t328 = true
     ·subst c31
      have H1 : (some true) = some r := by rw [if_pos rfl] at H; exact H
      clear H
      have H := H1
      clear H1
      obtain rfl := Option.some.inj H
      try go_wp2
      have n0_ := zN (Kd.R_drew HO_316002.out)
      have n1_ := zN (Kd.R_drew HO_316003.out)
      have n2_ := zN (Kd.R_drew HO_316004.out)
      have n3_ := zN (zF BK290.out)
      have n4_ := zN (zF BK315.out)
      have n5_ := zN (zC HB.out)
      clear HO_316002
      clear HO_316003
      clear HO_316004
      clear BK290
      clear BK315
      clear HB
      have HO_316002 := n0_
      have HO_316003 := n1_
      have HO_316004 := n2_
      have BK290 := n3_
      have BK315 := n4_
      have HB := n5_
      clear n0_ n1_ n2_ n3_ n4_ n5_
      refine start_ (n := 5) (S := fun w' => w'.cell? ⟨gb315, 0, none⟩ = some (.int .i8 t304) ∧ w'.cell? ⟨gb315, 1, none⟩ = some (.int .i8 t305) ∧ w'.cell? ⟨gb315, 2, none⟩ = some (.slice Ao24 t306.length co24) ∧ w'.cell? ⟨gb315, 3, none⟩ = some (.slice Ao25 t309.length co25) ∧ w'.cell? ⟨gb315, 4, none⟩ = some (.slice Ao26 t312.length co26) ∧ w'.cell? ⟨gb290, 0, none⟩ = some (.int .i8 a0_0) ∧ w'.cell? ⟨gb290, 1, none⟩ = some (.int .i8 a0_1) ∧ w'.cell? ⟨gb290, 2, none⟩ = some (.slice A0_2 l0_2.length c0_2) ∧ w'.cell? ⟨gb290, 3, none⟩ = some (.slice A0_3 l0_3.length c0_3) ∧ w'.cell? ⟨gb290, 4, none⟩ = some (.slice A0_4 l0_4.length c0_4)) (ds := []) #[false, false, false, false, false] (by kernel_rfl) rfl rfl ⟨(blk_cell BK315.out 0).trans rfl, (blk_cell BK315.out 1).trans rfl, (blk_cell BK315.out 2).trans rfl, (blk_cell BK315.out 3).trans rfl, (blk_cell BK315.out 4).trans rfl, (blk_cell BK290.out 0).trans rfl, (blk_cell BK290.out 1).trans rfl, (blk_cell BK290.out 2).trans rfl, (blk_cell BK290.out 3).trans rfl, (blk_cell BK290.out 4).trans rfl⟩ (fun hHeld => ?_)
      generalize wc.drew = w32 at HO_316002 HO_316003 HO_316004 BK290 BK315 HB hHeld ⊢
      refine take_ (i := 0) (N := some 22) (v := ?_) (a' := ?_) #[true, false, false, false, false] rfl rfl (by kernel_rfl) (fun _ _ _ h => h) (Or.inl ⟨by rfl, ?_⟩) hHeld ?_ ?_
      rotate_left
      ·rintro w' ⟨s0, s1, s2, s3, s4, s5, s6, s7, s8, s9⟩
       go_simp
       with_reducible rfl
      rotate_left
      ·simp only [Act.put, List.setIfInBounds_toArray, List.set_cons_zero, List.set_cons_succ, i64_w, i32_w]
       rfl
      refine take_ (i := 1) (N := some 23) (v := ?_) (a' := ?_) #[true, true, false, false, false] rfl rfl (by kernel_rfl) (fun _ _ _ h => h) (Or.inl ⟨by rfl, ?_⟩) hHeld ?_ ?_
      rotate_left
      ·rintro w' ⟨s0, s1, s2, s3, s4, s5, s6, s7, s8, s9⟩
       go_simp
       with_reducible rfl
      rotate_left
      ·simp only [Act.put, List.setIfInBounds_toArray, List.set_cons_zero, List.set_cons_succ, i64_w, i32_w]
       rfl
      refine one_ (i := 2) (N := some 24) #[true, true, true, false, false] rfl rfl (by kernel_rfl) (by decide) (fun K hK => ?_)
      refine goes_ Try.func23 (by kernel_rfl) rfl #[.agg #[.int .i8 a0_0, .int .i8 a0_1, .slice A0_2 l0_2.length c0_2, .slice A0_3 l0_3.length c0_3, .slice A0_4 l0_4.length c0_4]] (by rfl) rfl rfl (by (try simp only [List.map_toArray, List.map_cons, List.map_nil]); first | done | rfl | (simp only [List.length_drop, List.length_take]; rfl)) ?_
      with_reducible refine (laws_toMachine.calls kj11 a0_0 a0_1 _ _ l0_2 _ _ l0_3 _ _ l0_4 t317 t318 t319 t322 t325 _ ?side1 ?side2 ?side3 ?side4 ?side5 ?side6 A29.out).mono ?_
      (case side1 => repeat (first | exact (Kd.C_below HR0_2.out HB.out) | (with_reducible refine Kd.C_alloc ?_ _) | (with_reducible refine Kd.C_drewN ?_ _) | (with_reducible refine Kd.C_drew ?_)))
      (case side2 => exact HC0_2.out)
      (case side3 => repeat (first | exact (Kd.C_below HR0_3.out HB.out) | (with_reducible refine Kd.C_alloc ?_ _) | (with_reducible refine Kd.C_drewN ?_ _) | (with_reducible refine Kd.C_drew ?_)))
      (case side4 => exact HC0_3.out)
      (case side5 => repeat (first | exact (Kd.C_below HR0_4.out HB.out) | (with_reducible refine Kd.C_alloc ?_ _) | (with_reducible refine Kd.C_drewN ?_ _) | (with_reducible refine Kd.C_drew ?_)))
      (case side6 => exact HC0_4.out)
      rintro e w33 ⟨v320, v323, v326, rfl, ho0, ho1, ho2, hb⟩
      refine ⟨_, rfl, ?_⟩
      have n0_ := zN (Kd.R_elder' (by (with_reducible repeat (first | apply Kd.R_alloc | apply Kd.R_drewN | apply Kd.R_drew)); exact HO_316002.out) (Kd.R_base ho0) hb)
      have n1_ := zN (Kd.R_elder' (by (with_reducible repeat (first | apply Kd.R_alloc | apply Kd.R_drewN | apply Kd.R_drew)); exact HO_316003.out) (Kd.R_base ho1) hb)
      have n2_ := zN (Kd.R_elder' (by (with_reducible repeat (first | apply Kd.R_alloc | apply Kd.R_drewN | apply Kd.R_drew)); exact HO_316004.out) (Kd.R_base ho2) hb)
      have n3_ := zN (Kd.R_lower (Kd.R_new' ho0 (Kd.R_lt (by (with_reducible repeat (first | apply Kd.R_alloc | apply Kd.R_drewN | apply Kd.R_drew)); exact HO_316002.out))) (below_size (by repeat (first | (with_reducible first | exact HB.out | apply zA | apply zB | apply zC | refine zD ?_ GE290.out | refine zD ?_ GE315.out) | exact HB.out))))
      have n4_ := zN (Kd.R_lower (Kd.R_new' ho1 (Kd.R_lt (by (with_reducible repeat (first | apply Kd.R_alloc | apply Kd.R_drewN | apply Kd.R_drew)); exact HO_316003.out))) (below_size (by repeat (first | (with_reducible first | exact HB.out | apply zA | apply zB | apply zC | refine zD ?_ GE290.out | refine zD ?_ GE315.out) | exact HB.out))))
      have n5_ := zN (Kd.R_lower (Kd.R_new' ho2 (Kd.R_lt (by (with_reducible repeat (first | apply Kd.R_alloc | apply Kd.R_drewN | apply Kd.R_drew)); exact HO_316004.out))) (below_size (by repeat (first | (with_reducible first | exact HB.out | apply zA | apply zB | apply zC | refine zD ?_ GE290.out | refine zD ?_ GE315.out) | exact HB.out))))
      have n6_ := zN (blk_below (g := gb290) (o := .cells #[.int .i8 a0_0, .int .i8 a0_1, .slice A0_2 l0_2.length c0_2, .slice A0_3 l0_3.length c0_3, .slice A0_4 l0_4.length c0_4] 29 (0, 0)) (by (with_reducible repeat (first | refine zE ?_ _ | refine zF ?_ | refine zG ?_ _)); exact BK290.out) hb)
      have n7_ := zN (blk_below (g := gb315) (o := .cells #[.int .i8 t304, .int .i8 t305, .slice Ao24 t306.length co24, .slice Ao25 t309.length co25, .slice Ao26 t312.length co26] 41 (0, 0)) (by (with_reducible repeat (first | refine zE ?_ _ | refine zF ?_ | refine zG ?_ _)); exact BK315.out) hb)
      have n8_ := zN (below_step (by repeat (first | (with_reducible first | exact HB.out | apply zA | apply zB | apply zC | refine zD ?_ GE290.out | refine zD ?_ GE315.out) | exact HB.out)) hb)
      clear HO_316002
      clear HO_316003
      clear HO_316004
      clear BK290
      clear BK315
      clear HB
      have HO_316002 := n0_
      have HO_316003 := n1_
      have HO_316004 := n2_
      have HO321 := n3_
      have HO324 := n4_
      have HO327 := n5_
      have BK290 := n6_
      have BK315 := n7_
      have HB := n8_
      clear n0_ n1_ n2_ n3_ n4_ n5_ n6_ n7_ n8_
      (try clear hb)
      (try clear hb2)
      (try clear hk)
      (try clear hi)
      (try clear ho0)
      (try clear ho1)
      (try clear ho2)
      obtain ⟨Ao34, co34, eo34⟩ := Kd.R_slice HO321.out
      (first | subst eo34 | (injection eo34 with f1_ f2_ f3_; have f4_ := f1_.symm; have f5_ := f3_.symm; clear f1_ f2_ f3_; subst f4_; subst f5_))
      obtain ⟨Ao35, co35, eo35⟩ := Kd.R_slice HO324.out
      (first | subst eo35 | (injection eo35 with f1_ f2_ f3_; have f4_ := f1_.symm; have f5_ := f3_.symm; clear f1_ f2_ f3_; subst f4_; subst f5_))
      obtain ⟨Ao36, co36, eo36⟩ := Kd.R_slice HO327.out
      (first | subst eo36 | (injection eo36 with f1_ f2_ f3_; have f4_ := f1_.symm; have f5_ := f3_.symm; clear f1_ f2_ f3_; subst f4_; subst f5_))
      refine hK.out _ _ ⟨(blk_cell BK315.out 0).trans rfl, (blk_cell BK315.out 1).trans rfl, (blk_cell BK315.out 2).trans rfl, (blk_cell BK315.out 3).trans rfl, (blk_cell BK315.out 4).trans rfl, (blk_cell BK290.out 0).trans rfl, (blk_cell BK290.out 1).trans rfl, (blk_cell BK290.out 2).trans rfl, (blk_cell BK290.out 3).trans rfl, (blk_cell BK290.out 4).trans rfl⟩ (fun hHeld => ?_)
      clear hK K
      refine norm_ (a' := ?_) ?_ ?_
      rotate_left
      ·show Act.put _ (some 24) _ = _
       simp only [Act.put, List.setIfInBounds_toArray, List.set_cons_zero, List.set_cons_succ, i64_w, i32_w]
       rfl
      refine one_ (i := 3) (N := some 25) #[true, true, true, true, false] rfl rfl (by kernel_rfl) (by decide) (fun K hK => ?_)
      refine goes_ Try.func27 (by kernel_rfl) rfl #[.agg #[.int .i8 t304, .int .i8 t305, .slice Ao24 t306.length co24, .slice Ao25 t309.length co25, .slice Ao26 t312.length co26], .agg #[.int .i8 t317, .int .i8 t318, .slice Ao34 t319.length co34, .slice Ao35 t322.length co35, .slice Ao36 t325.length co36]] (by rfl) rfl rfl (by (try simp only [List.map_toArray, List.map_cons, List.map_nil]); first | done | rfl | (simp only [List.length_drop, List.length_take]; rfl)) ?_
      with_reducible refine (laws_eqMachine.calls kj11 t304 t305 _ _ t306 _ _ t309 _ _ t312 t317 t318 _ _ t319 _ _ t322 _ _ t325 true _ ?side1 ?side2 ?side3 ?side4 ?side5 ?side6 ?side7 ?side8 ?side9 ?side10 ?side11 ?side12 A30.out).mono ?_
      (case side1 => repeat (first | exact (Kd.R_reads' HO_316002.out).2.2 | (with_reducible refine Kd.C_alloc ?_ _) | (with_reducible refine Kd.C_drewN ?_ _) | (with_reducible refine Kd.C_drew ?_)))
      (case side2 => exact (Kd.R_reads' HO_316002.out).2.1)
      (case side3 => repeat (first | exact (Kd.R_reads' HO_316003.out).2.2 | (with_reducible refine Kd.C_alloc ?_ _) | (with_reducible refine Kd.C_drewN ?_ _) | (with_reducible refine Kd.C_drew ?_)))
      (case side4 => exact (Kd.R_reads' HO_316003.out).2.1)
      (case side5 => repeat (first | exact (Kd.R_reads' HO_316004.out).2.2 | (with_reducible refine Kd.C_alloc ?_ _) | (with_reducible refine Kd.C_drewN ?_ _) | (with_reducible refine Kd.C_drew ?_)))
      (case side6 => exact (Kd.R_reads' HO_316004.out).2.1)
      (case side7 => repeat (first | exact (Kd.R_reads' HO321.out).2.2 | (with_reducible refine Kd.C_alloc ?_ _) | (with_reducible refine Kd.C_drewN ?_ _) | (with_reducible refine Kd.C_drew ?_)))
      (case side8 => exact (Kd.R_reads' HO321.out).2.1)
      (case side9 => repeat (first | exact (Kd.R_reads' HO324.out).2.2 | (with_reducible refine Kd.C_alloc ?_ _) | (with_reducible refine Kd.C_drewN ?_ _) | (with_reducible refine Kd.C_drew ?_)))
      (case side10 => exact (Kd.R_reads' HO324.out).2.1)
      (case side11 => repeat (first | exact (Kd.R_reads' HO327.out).2.2 | (with_reducible refine Kd.C_alloc ?_ _) | (with_reducible refine Kd.C_drewN ?_ _) | (with_reducible refine Kd.C_drew ?_)))
      (case side12 => exact (Kd.R_reads' HO327.out).2.1)
      rintro e w37 ⟨rfl, hb⟩
      refine ⟨_, rfl, ?_⟩
      have n0_ := zN (Kd.R_below (by (with_reducible repeat (first | apply Kd.R_alloc | apply Kd.R_drewN | apply Kd.R_drew)); exact HO_316002.out) hb)
      have n1_ := zN (Kd.R_below (by (with_reducible repeat (first | apply Kd.R_alloc | apply Kd.R_drewN | apply Kd.R_drew)); exact HO_316003.out) hb)
      have n2_ := zN (Kd.R_below (by (with_reducible repeat (first | apply Kd.R_alloc | apply Kd.R_drewN | apply Kd.R_drew)); exact HO_316004.out) hb)
      have n3_ := zN (Kd.R_below (by (with_reducible repeat (first | apply Kd.R_alloc | apply Kd.R_drewN | apply Kd.R_drew)); exact HO321.out) hb)
      have n4_ := zN (Kd.R_below (by (with_reducible repeat (first | apply Kd.R_alloc | apply Kd.R_drewN | apply Kd.R_drew)); exact HO324.out) hb)
      have n5_ := zN (Kd.R_below (by (with_reducible repeat (first | apply Kd.R_alloc | apply Kd.R_drewN | apply Kd.R_drew)); exact HO327.out) hb)
      have n6_ := zN (blk_below (g := gb290) (o := .cells #[.int .i8 a0_0, .int .i8 a0_1, .slice A0_2 l0_2.length c0_2, .slice A0_3 l0_3.length c0_3, .slice A0_4 l0_4.length c0_4] 29 (0, 0)) (by (with_reducible repeat (first | refine zE ?_ _ | refine zF ?_ | refine zG ?_ _)); exact BK290.out) hb)
      have n7_ := zN (blk_below (g := gb315) (o := .cells #[.int .i8 t304, .int .i8 t305, .slice Ao24 t306.length co24, .slice Ao25 t309.length co25, .slice Ao26 t312.length co26] 41 (0, 0)) (by (with_reducible repeat (first | refine zE ?_ _ | refine zF ?_ | refine zG ?_ _)); exact BK315.out) hb)
      have n8_ := zN (below_step (by repeat (first | (with_reducible first | exact HB.out | apply zA | apply zB | apply zC | refine zD ?_ GE290.out | refine zD ?_ GE315.out) | exact HB.out)) hb)
      clear HO_316002
      clear HO_316003
      clear HO_316004
      clear HO321
      clear HO324
      clear HO327
      clear BK290
      clear BK315
      clear HB
      have HO_316002 := n0_
      have HO_316003 := n1_
      have HO_316004 := n2_
      have HO321 := n3_
      have HO324 := n4_
      have HO327 := n5_
      have BK290 := n6_
      have BK315 := n7_
      have HB := n8_
      clear n0_ n1_ n2_ n3_ n4_ n5_ n6_ n7_ n8_
      (try clear hb)
      (try clear hb2)
      (try clear hk)
      (try clear hi)
      refine hK.out _ _ ⟨(blk_cell BK315.out 0).trans rfl, (blk_cell BK315.out 1).trans rfl, (blk_cell BK315.out 2).trans rfl, (blk_cell BK315.out 3).trans rfl, (blk_cell BK315.out 4).trans rfl, (blk_cell BK290.out 0).trans rfl, (blk_cell BK290.out 1).trans rfl, (blk_cell BK290.out 2).trans rfl, (blk_cell BK290.out 3).trans rfl, (blk_cell BK290.out 4).trans rfl⟩ (fun hHeld => ?_)
      clear hK K
      refine norm_ (a' := ?_) ?_ ?_
      rotate_left
      ·show Act.put _ (some 25) _ = _
       simp only [Act.put, List.setIfInBounds_toArray, List.set_cons_zero, List.set_cons_succ, i64_w, i32_w]
       rfl
      refine pure_ (i := 4) (N := some 26) (v := ?_) (a' := ?_) #[true, true, true, true, true] rfl rfl (by kernel_rfl) (fun _ _ _ h => h) (Or.inl ⟨by rfl, ?_⟩) ?_ ?_
      rotate_left
      ·intro w'
       go_simp
       with_reducible rfl
      rotate_left
      ·simp only [Act.put, List.setIfInBounds_toArray, List.set_cons_zero, List.set_cons_succ, i64_w, i32_w]
       rfl
      refine done_ (by kernel_rfl) ?_
      try go_wp2
      go_ret
      exact ⟨by first | rfl | (simp [errW_none, errW_some] <;> rfl) | (simp [*, errW_none, errW_some] <;> rfl), by repeat (first | (with_reducible first | exact HB.out | apply zA | apply zB | apply zC | refine zD ?_ GE290.out | refine zD ?_ GE315.out) | exact HB.out)⟩
     ·replace c31 := Bool.eq_false_iff.mpr c31
      subst c31
      have H1 : (some false) = some r := by rw [if_neg (show ¬ (false = true) by decide)] at H; exact H
      clear H
      have H := H1
      clear H1
      obtain rfl := Option.some.inj H
      try go_wp2
      have n0_ := zN (Kd.R_drew HO_316002.out)
      have n1_ := zN (Kd.R_drew HO_316003.out)
      have n2_ := zN (Kd.R_drew HO_316004.out)
      have n3_ := zN (zF BK290.out)
      have n4_ := zN (zF BK315.out)
      have n5_ := zN (zC HB.out)
      clear HO_316002
      clear HO_316003
      clear HO_316004
      clear BK290
      clear BK315
      clear HB
      have HO_316002 := n0_
      have HO_316003 := n1_
      have HO_316004 := n2_
      have BK290 := n3_
      have BK315 := n4_
      have HB := n5_
      clear n0_ n1_ n2_ n3_ n4_ n5_
      refine start_ (n := 5) (S := fun w' => w'.cell? ⟨gb315, 0, none⟩ = some (.int .i8 t304) ∧ w'.cell? ⟨gb315, 1, none⟩ = some (.int .i8 t305) ∧ w'.cell? ⟨gb315, 2, none⟩ = some (.slice Ao24 t306.length co24) ∧ w'.cell? ⟨gb315, 3, none⟩ = some (.slice Ao25 t309.length co25) ∧ w'.cell? ⟨gb315, 4, none⟩ = some (.slice Ao26 t312.length co26) ∧ w'.cell? ⟨gb290, 0, none⟩ = some (.int .i8 a0_0) ∧ w'.cell? ⟨gb290, 1, none⟩ = some (.int .i8 a0_1) ∧ w'.cell? ⟨gb290, 2, none⟩ = some (.slice A0_2 l0_2.length c0_2) ∧ w'.cell? ⟨gb290, 3, none⟩ = some (.slice A0_3 l0_3.length c0_3) ∧ w'.cell? ⟨gb290, 4, none⟩ = some (.slice A0_4 l0_4.length c0_4)) (ds := []) #[false, false, false, false, false] (by kernel_rfl) rfl rfl ⟨(blk_cell BK315.out 0).trans rfl, (blk_cell BK315.out 1).trans rfl, (blk_cell BK315.out 2).trans rfl, (blk_cell BK315.out 3).trans rfl, (blk_cell BK315.out 4).trans rfl, (blk_cell BK290.out 0).trans rfl, (blk_cell BK290.out 1).trans rfl, (blk_cell BK290.out 2).trans rfl, (blk_cell BK290.out 3).trans rfl, (blk_cell BK290.out 4).trans rfl⟩ (fun hHeld => ?_)
      generalize wc.drew = w38 at HO_316002 HO_316003 HO_316004 BK290 BK315 HB hHeld ⊢
      refine take_ (i := 0) (N := some 22) (v := ?_) (a' := ?_) #[true, false, false, false, false] rfl rfl (by kernel_rfl) (fun _ _ _ h => h) (Or.inl ⟨by rfl, ?_⟩) hHeld ?_ ?_
      rotate_left
      ·rintro w' ⟨s0, s1, s2, s3, s4, s5, s6, s7, s8, s9⟩
       go_simp
       with_reducible rfl
      rotate_left
      ·simp only [Act.put, List.setIfInBounds_toArray, List.set_cons_zero, List.set_cons_succ, i64_w, i32_w]
       rfl
      refine take_ (i := 1) (N := some 23) (v := ?_) (a' := ?_) #[true, true, false, false, false] rfl rfl (by kernel_rfl) (fun _ _ _ h => h) (Or.inl ⟨by rfl, ?_⟩) hHeld ?_ ?_
      rotate_left
      ·rintro w' ⟨s0, s1, s2, s3, s4, s5, s6, s7, s8, s9⟩
       go_simp
       with_reducible rfl
      rotate_left
      ·simp only [Act.put, List.setIfInBounds_toArray, List.set_cons_zero, List.set_cons_succ, i64_w, i32_w]
       rfl
      refine one_ (i := 2) (N := some 24) #[true, true, true, false, false] rfl rfl (by kernel_rfl) (by decide) (fun K hK => ?_)
      refine goes_ Try.func23 (by kernel_rfl) rfl #[.agg #[.int .i8 a0_0, .int .i8 a0_1, .slice A0_2 l0_2.length c0_2, .slice A0_3 l0_3.length c0_3, .slice A0_4 l0_4.length c0_4]] (by rfl) rfl rfl (by (try simp only [List.map_toArray, List.map_cons, List.map_nil]); first | done | rfl | (simp only [List.length_drop, List.length_take]; rfl)) ?_
      with_reducible refine (laws_toMachine.calls kj11 a0_0 a0_1 _ _ l0_2 _ _ l0_3 _ _ l0_4 t317 t318 t319 t322 t325 _ ?side1 ?side2 ?side3 ?side4 ?side5 ?side6 A29.out).mono ?_
      (case side1 => repeat (first | exact (Kd.C_below HR0_2.out HB.out) | (with_reducible refine Kd.C_alloc ?_ _) | (with_reducible refine Kd.C_drewN ?_ _) | (with_reducible refine Kd.C_drew ?_)))
      (case side2 => exact HC0_2.out)
      (case side3 => repeat (first | exact (Kd.C_below HR0_3.out HB.out) | (with_reducible refine Kd.C_alloc ?_ _) | (with_reducible refine Kd.C_drewN ?_ _) | (with_reducible refine Kd.C_drew ?_)))
      (case side4 => exact HC0_3.out)
      (case side5 => repeat (first | exact (Kd.C_below HR0_4.out HB.out) | (with_reducible refine Kd.C_alloc ?_ _) | (with_reducible refine Kd.C_drewN ?_ _) | (with_reducible refine Kd.C_drew ?_)))
      (case side6 => exact HC0_4.out)
      rintro e w39 ⟨v320, v323, v326, rfl, ho0, ho1, ho2, hb⟩
      refine ⟨_, rfl, ?_⟩
      have n0_ := zN (Kd.R_elder' (by (with_reducible repeat (first | apply Kd.R_alloc | apply Kd.R_drewN | apply Kd.R_drew)); exact HO_316002.out) (Kd.R_base ho0) hb)
      have n1_ := zN (Kd.R_elder' (by (with_reducible repeat (first | apply Kd.R_alloc | apply Kd.R_drewN | apply Kd.R_drew)); exact HO_316003.out) (Kd.R_base ho1) hb)
      have n2_ := zN (Kd.R_elder' (by (with_reducible repeat (first | apply Kd.R_alloc | apply Kd.R_drewN | apply Kd.R_drew)); exact HO_316004.out) (Kd.R_base ho2) hb)
      have n3_ := zN (Kd.R_lower (Kd.R_new' ho0 (Kd.R_lt (by (with_reducible repeat (first | apply Kd.R_alloc | apply Kd.R_drewN | apply Kd.R_drew)); exact HO_316002.out))) (below_size (by repeat (first | (with_reducible first | exact HB.out | apply zA | apply zB | apply zC | refine zD ?_ GE290.out | refine zD ?_ GE315.out) | exact HB.out))))
      have n4_ := zN (Kd.R_lower (Kd.R_new' ho1 (Kd.R_lt (by (with_reducible repeat (first | apply Kd.R_alloc | apply Kd.R_drewN | apply Kd.R_drew)); exact HO_316003.out))) (below_size (by repeat (first | (with_reducible first | exact HB.out | apply zA | apply zB | apply zC | refine zD ?_ GE290.out | refine zD ?_ GE315.out) | exact HB.out))))
      have n5_ := zN (Kd.R_lower (Kd.R_new' ho2 (Kd.R_lt (by (with_reducible repeat (first | apply Kd.R_alloc | apply Kd.R_drewN | apply Kd.R_drew)); exact HO_316004.out))) (below_size (by repeat (first | (with_reducible first | exact HB.out | apply zA | apply zB | apply zC | refine zD ?_ GE290.out | refine zD ?_ GE315.out) | exact HB.out))))
      have n6_ := zN (blk_below (g := gb290) (o := .cells #[.int .i8 a0_0, .int .i8 a0_1, .slice A0_2 l0_2.length c0_2, .slice A0_3 l0_3.length c0_3, .slice A0_4 l0_4.length c0_4] 29 (0, 0)) (by (with_reducible repeat (first | refine zE ?_ _ | refine zF ?_ | refine zG ?_ _)); exact BK290.out) hb)
      have n7_ := zN (blk_below (g := gb315) (o := .cells #[.int .i8 t304, .int .i8 t305, .slice Ao24 t306.length co24, .slice Ao25 t309.length co25, .slice Ao26 t312.length co26] 41 (0, 0)) (by (with_reducible repeat (first | refine zE ?_ _ | refine zF ?_ | refine zG ?_ _)); exact BK315.out) hb)
      have n8_ := zN (below_step (by repeat (first | (with_reducible first | exact HB.out | apply zA | apply zB | apply zC | refine zD ?_ GE290.out | refine zD ?_ GE315.out) | exact HB.out)) hb)
      clear HO_316002
      clear HO_316003
      clear HO_316004
      clear BK290
      clear BK315
      clear HB
      have HO_316002 := n0_
      have HO_316003 := n1_
      have HO_316004 := n2_
      have HO321 := n3_
      have HO324 := n4_
      have HO327 := n5_
      have BK290 := n6_
      have BK315 := n7_
      have HB := n8_
      clear n0_ n1_ n2_ n3_ n4_ n5_ n6_ n7_ n8_
      (try clear hb)
      (try clear hb2)
      (try clear hk)
      (try clear hi)
      (try clear ho0)
      (try clear ho1)
      (try clear ho2)
      obtain ⟨Ao40, co40, eo40⟩ := Kd.R_slice HO321.out
      (first | subst eo40 | (injection eo40 with f1_ f2_ f3_; have f4_ := f1_.symm; have f5_ := f3_.symm; clear f1_ f2_ f3_; subst f4_; subst f5_))
      obtain ⟨Ao41, co41, eo41⟩ := Kd.R_slice HO324.out
      (first | subst eo41 | (injection eo41 with f1_ f2_ f3_; have f4_ := f1_.symm; have f5_ := f3_.symm; clear f1_ f2_ f3_; subst f4_; subst f5_))
      obtain ⟨Ao42, co42, eo42⟩ := Kd.R_slice HO327.out
      (first | subst eo42 | (injection eo42 with f1_ f2_ f3_; have f4_ := f1_.symm; have f5_ := f3_.symm; clear f1_ f2_ f3_; subst f4_; subst f5_))
      refine hK.out _ _ ⟨(blk_cell BK315.out 0).trans rfl, (blk_cell BK315.out 1).trans rfl, (blk_cell BK315.out 2).trans rfl, (blk_cell BK315.out 3).trans rfl, (blk_cell BK315.out 4).trans rfl, (blk_cell BK290.out 0).trans rfl, (blk_cell BK290.out 1).trans rfl, (blk_cell BK290.out 2).trans rfl, (blk_cell BK290.out 3).trans rfl, (blk_cell BK290.out 4).trans rfl⟩ (fun hHeld => ?_)
      clear hK K
      refine norm_ (a' := ?_) ?_ ?_
      rotate_left
      ·show Act.put _ (some 24) _ = _
       simp only [Act.put, List.setIfInBounds_toArray, List.set_cons_zero, List.set_cons_succ, i64_w, i32_w]
       rfl
      refine one_ (i := 3) (N := some 25) #[true, true, true, true, false] rfl rfl (by kernel_rfl) (by decide) (fun K hK => ?_)
      refine goes_ Try.func27 (by kernel_rfl) rfl #[.agg #[.int .i8 t304, .int .i8 t305, .slice Ao24 t306.length co24, .slice Ao25 t309.length co25, .slice Ao26 t312.length co26], .agg #[.int .i8 t317, .int .i8 t318, .slice Ao40 t319.length co40, .slice Ao41 t322.length co41, .slice Ao42 t325.length co42]] (by rfl) rfl rfl (by (try simp only [List.map_toArray, List.map_cons, List.map_nil]); first | done | rfl | (simp only [List.length_drop, List.length_take]; rfl)) ?_
      with_reducible refine (laws_eqMachine.calls kj11 t304 t305 _ _ t306 _ _ t309 _ _ t312 t317 t318 _ _ t319 _ _ t322 _ _ t325 false _ ?side1 ?side2 ?side3 ?side4 ?side5 ?side6 ?side7 ?side8 ?side9 ?side10 ?side11 ?side12 A30.out).mono ?_
      (case side1 => repeat (first | exact (Kd.R_reads' HO_316002.out).2.2 | (with_reducible refine Kd.C_alloc ?_ _) | (with_reducible refine Kd.C_drewN ?_ _) | (with_reducible refine Kd.C_drew ?_)))
      (case side2 => exact (Kd.R_reads' HO_316002.out).2.1)
      (case side3 => repeat (first | exact (Kd.R_reads' HO_316003.out).2.2 | (with_reducible refine Kd.C_alloc ?_ _) | (with_reducible refine Kd.C_drewN ?_ _) | (with_reducible refine Kd.C_drew ?_)))
      (case side4 => exact (Kd.R_reads' HO_316003.out).2.1)
      (case side5 => repeat (first | exact (Kd.R_reads' HO_316004.out).2.2 | (with_reducible refine Kd.C_alloc ?_ _) | (with_reducible refine Kd.C_drewN ?_ _) | (with_reducible refine Kd.C_drew ?_)))
      (case side6 => exact (Kd.R_reads' HO_316004.out).2.1)
      (case side7 => repeat (first | exact (Kd.R_reads' HO321.out).2.2 | (with_reducible refine Kd.C_alloc ?_ _) | (with_reducible refine Kd.C_drewN ?_ _) | (with_reducible refine Kd.C_drew ?_)))
      (case side8 => exact (Kd.R_reads' HO321.out).2.1)
      (case side9 => repeat (first | exact (Kd.R_reads' HO324.out).2.2 | (with_reducible refine Kd.C_alloc ?_ _) | (with_reducible refine Kd.C_drewN ?_ _) | (with_reducible refine Kd.C_drew ?_)))
      (case side10 => exact (Kd.R_reads' HO324.out).2.1)
      (case side11 => repeat (first | exact (Kd.R_reads' HO327.out).2.2 | (with_reducible refine Kd.C_alloc ?_ _) | (with_reducible refine Kd.C_drewN ?_ _) | (with_reducible refine Kd.C_drew ?_)))
      (case side12 => exact (Kd.R_reads' HO327.out).2.1)
      rintro e w43 ⟨rfl, hb⟩
      refine ⟨_, rfl, ?_⟩
      have n0_ := zN (Kd.R_below (by (with_reducible repeat (first | apply Kd.R_alloc | apply Kd.R_drewN | apply Kd.R_drew)); exact HO_316002.out) hb)
      have n1_ := zN (Kd.R_below (by (with_reducible repeat (first | apply Kd.R_alloc | apply Kd.R_drewN | apply Kd.R_drew)); exact HO_316003.out) hb)
      have n2_ := zN (Kd.R_below (by (with_reducible repeat (first | apply Kd.R_alloc | apply Kd.R_drewN | apply Kd.R_drew)); exact HO_316004.out) hb)
      have n3_ := zN (Kd.R_below (by (with_reducible repeat (first | apply Kd.R_alloc | apply Kd.R_drewN | apply Kd.R_drew)); exact HO321.out) hb)
      have n4_ := zN (Kd.R_below (by (with_reducible repeat (first | apply Kd.R_alloc | apply Kd.R_drewN | apply Kd.R_drew)); exact HO324.out) hb)
      have n5_ := zN (Kd.R_below (by (with_reducible repeat (first | apply Kd.R_alloc | apply Kd.R_drewN | apply Kd.R_drew)); exact HO327.out) hb)
      have n6_ := zN (blk_below (g := gb290) (o := .cells #[.int .i8 a0_0, .int .i8 a0_1, .slice A0_2 l0_2.length c0_2, .slice A0_3 l0_3.length c0_3, .slice A0_4 l0_4.length c0_4] 29 (0, 0)) (by (with_reducible repeat (first | refine zE ?_ _ | refine zF ?_ | refine zG ?_ _)); exact BK290.out) hb)
      have n7_ := zN (blk_below (g := gb315) (o := .cells #[.int .i8 t304, .int .i8 t305, .slice Ao24 t306.length co24, .slice Ao25 t309.length co25, .slice Ao26 t312.length co26] 41 (0, 0)) (by (with_reducible repeat (first | refine zE ?_ _ | refine zF ?_ | refine zG ?_ _)); exact BK315.out) hb)
      have n8_ := zN (below_step (by repeat (first | (with_reducible first | exact HB.out | apply zA | apply zB | apply zC | refine zD ?_ GE290.out | refine zD ?_ GE315.out) | exact HB.out)) hb)
      clear HO_316002
      clear HO_316003
      clear HO_316004
      clear HO321
      clear HO324
      clear HO327
      clear BK290
      clear BK315
      clear HB
      have HO_316002 := n0_
      have HO_316003 := n1_
      have HO_316004 := n2_
      have HO321 := n3_
      have HO324 := n4_
      have HO327 := n5_
      have BK290 := n6_
      have BK315 := n7_
      have HB := n8_
      clear n0_ n1_ n2_ n3_ n4_ n5_ n6_ n7_ n8_
      (try clear hb)
      (try clear hb2)
      (try clear hk)
      (try clear hi)
      refine hK.out _ _ ⟨(blk_cell BK315.out 0).trans rfl, (blk_cell BK315.out 1).trans rfl, (blk_cell BK315.out 2).trans rfl, (blk_cell BK315.out 3).trans rfl, (blk_cell BK315.out 4).trans rfl, (blk_cell BK290.out 0).trans rfl, (blk_cell BK290.out 1).trans rfl, (blk_cell BK290.out 2).trans rfl, (blk_cell BK290.out 3).trans rfl, (blk_cell BK290.out 4).trans rfl⟩ (fun hHeld => ?_)
      clear hK K
      refine norm_ (a' := ?_) ?_ ?_
      rotate_left
      ·show Act.put _ (some 25) _ = _
       simp only [Act.put, List.setIfInBounds_toArray, List.set_cons_zero, List.set_cons_succ, i64_w, i32_w]
       rfl
      refine pure_ (i := 4) (N := some 26) (v := ?_) (a' := ?_) #[true, true, true, true, true] rfl rfl (by kernel_rfl) (fun _ _ _ h => h) (Or.inl ⟨by rfl, ?_⟩) ?_ ?_
      rotate_left
      ·intro w'
       go_simp
       with_reducible rfl
      rotate_left
      ·simp only [Act.put, List.setIfInBounds_toArray, List.set_cons_zero, List.set_cons_succ, i64_w, i32_w]
       rfl
      refine done_ (by kernel_rfl) ?_
      try go_wp2
      go_ret
      exact ⟨by first | rfl | (simp [errW_none, errW_some] <;> rfl) | (simp [*, errW_none, errW_some] <;> rfl), by repeat (first | (with_reducible first | exact HB.out | apply zA | apply zB | apply zC | refine zD ?_ GE290.out | refine zD ?_ GE315.out) | exact HB.out)⟩

end Go.Proofs.Ytffnfpnajkgnaaa.PFnExactValidMachine
