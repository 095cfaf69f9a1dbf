-- WRITTEN by xprint.py, a program of this session's. Not trusted: Lean checks it.
import Derived.Test.YtmpmanfoiocfgaaPFnExactSameNetworkx0
import Derived.Test.YtmpmanfoiocfgaaPFnExactSameNetworkx2
import Derived.Test.YtmpmanfoiocfgaaPFnExactSameNetworkx3
import Derived.Test.YtmpmanfoiocfgaaPFnExactSameNetworkx4
namespace Go.Proofs.Ytmpmanfoiocfgaa.PFnExactSameNetwork
open Go.RowKit Go.Proofs.YtmpmanfoiocfgaaW.PrintWords Go.Proofs.YtmpmanfoiocfgaaW.PrintLast Go.Proofs.YtmpmanfoiocfgaaW.PrintMore Go.Proofs.YtmpmanfoiocfgaaX
attribute [local go_sem] max2_int min2_int max_two min_two max_three min_three max_four min_four   -- for this text's walks alone
set_option linter.unusedVariables false
set_option linter.unusedSimpArgs false

/-! ### laws_FnExactSameNetwork: function 3 -/
mutual
def laws_FnExactSameNetwork.j0 : Nat → Int → Int → List (S131) → List Int → Int → List (S131) → List Int → Option (Bool)
  | 0, _, _, _, _, _, _, _ => none
  | k + 1, x5, x155000, x155001, x155002, x156000, x156001, x156002 => (laws_szNetwork.f x156000 x156001 x156002 x5).bind fun t157 => (if t157 < 0 then (some true) else (laws_FnExactSameNetwork.j1 k x155000 x155001 x155002 x156000 x156001 x156002))
def laws_FnExactSameNetwork.j1 : Nat → Int → List (S131) → List Int → Int → List (S131) → List Int → Option (Bool)
  | 0, _, _, _, _, _, _ => none
  | k + 1, x155000, x155001, x155002, x156000, x156001, x156002 => (laws_toNetwork.f k x155000 x155001 x155002).bind fun bt158 => ((laws_toNetwork.f k x156000 x156001 x156002).bind fun bt165 => ((spec_SameNetwork.f k bt158.1 bt158.2.1 bt158.2.2 bt165.1 bt165.2.1 bt165.2.2).bind fun t172 => ((laws_toNetwork.f k x155000 x155001 x155002).bind fun bt173 => ((laws_toNetwork.f k x156000 x156001 x156002).bind fun bt181 => ((impl_SameNetwork.f k bt173.1 bt173.2.1 bt173.2.2 bt181.1 bt181.2.1 bt181.2.2).bind fun t189 => (if (t189 != t172) = true then (some false) else (laws_FnExactSameNetwork.j2 k x155000 x155001 x155002 x156000 x156001 x156002 bt173.1 bt173.2.1 bt173.2.2 bt181.1 bt181.2.1 bt181.2.2)))))))
def laws_FnExactSameNetwork.j2 : Nat → Int → List (S131) → List Int → Int → List (S131) → List Int → Int → List (S81) → List Int → Int → List (S81) → List Int → Option (Bool)
  | 0, _, _, _, _, _, _, _, _, _, _, _, _ => none
  | k + 1, x155000, x155001, x155002, x156000, x156001, x156002, x181000, x181001, x181002, x189000, x189001, x189002 => (laws_toNetwork.f k x155000 x155001 x155002).bind fun bt190 => ((laws_eqNetwork.f k x181000 x181001 x181002 bt190.1 bt190.2.1 bt190.2.2).bind fun t197 => (if t197 = true then (laws_FnExactSameNetwork.j3 k x156000 x156001 x156002 x189000 x189001 x189002) else (some false)))
def laws_FnExactSameNetwork.j3 : Nat → Int → List (S131) → List Int → Int → List (S81) → List Int → Option (Bool)
  | 0, _, _, _, _, _, _ => none
  | k + 1, x156000, x156001, x156002, x189000, x189001, x189002 => (laws_toNetwork.f k x156000 x156001 x156002).bind fun bt198 => ((laws_eqNetwork.f k x189000 x189001 x189002 bt198.1 bt198.2.1 bt198.2.2).bind fun t205 => (if t205 = true then (some true) else (some false)))
end
def laws_FnExactSameNetwork.f (k : Nat) (a0_0 : Int) (l0_1 : List (S131)) (l0_2 : List Int) (a1_0 : Int) (l1_1 : List (S131)) (l1_2 : List Int) : Option (Bool) := (laws_szNetwork.f a0_0 l0_1 l0_2 1048576).bind fun t156 => (if t156 < 0 then (some true) else (laws_FnExactSameNetwork.j0 k t156 a0_0 l0_1 l0_2 a1_0 l1_1 l1_2))
theorem laws_FnExactSameNetwork.mono_l : ∀ k, (∀ y0 y1 y2 y3 y4 y5 y6, LeO (laws_FnExactSameNetwork.j0 k y0 y1 y2 y3 y4 y5 y6) (laws_FnExactSameNetwork.j0 (k + 1) y0 y1 y2 y3 y4 y5 y6)) ∧ (∀ y0 y1 y2 y3 y4 y5, LeO (laws_FnExactSameNetwork.j1 k y0 y1 y2 y3 y4 y5) (laws_FnExactSameNetwork.j1 (k + 1) y0 y1 y2 y3 y4 y5)) ∧ (∀ y0 y1 y2 y3 y4 y5 y6 y7 y8 y9 y10 y11, LeO (laws_FnExactSameNetwork.j2 k y0 y1 y2 y3 y4 y5 y6 y7 y8 y9 y10 y11) (laws_FnExactSameNetwork.j2 (k + 1) y0 y1 y2 y3 y4 y5 y6 y7 y8 y9 y10 y11)) ∧ (∀ y0 y1 y2 y3 y4 y5, LeO (laws_FnExactSameNetwork.j3 k y0 y1 y2 y3 y4 y5) (laws_FnExactSameNetwork.j3 (k + 1) y0 y1 y2 y3 y4 y5))
  | 0 => ⟨fun _ _ _ _ _ _ _ r h => by simp [laws_FnExactSameNetwork.j0] at h, fun _ _ _ _ _ _ r h => by simp [laws_FnExactSameNetwork.j1] at h, fun _ _ _ _ _ _ _ _ _ _ _ _ r h => by simp [laws_FnExactSameNetwork.j2] at h, fun _ _ _ _ _ _ r h => by simp [laws_FnExactSameNetwork.j3] at h⟩
  | k + 1 => by
    obtain ⟨ih0, ih1, ih2, ih3⟩ := laws_FnExactSameNetwork.mono_l k
    refine ⟨?_, ?_, ?_, ?_⟩
    · intro y0 y1 y2 y3 y4 y5 y6
      unfold laws_FnExactSameNetwork.j0
      repeat' first
      | (with_reducible exact ih0 _ _ _ _ _ _ _)
      | (with_reducible exact ih1 _ _ _ _ _ _)
      | (with_reducible exact ih2 _ _ _ _ _ _ _ _ _ _ _ _)
      | (with_reducible exact ih3 _ _ _ _ _ _)
      | (with_reducible exact impl_SameNetwork.mono _ _ _ _ _ _ _)
      | (with_reducible exact laws_eqNetwork.mono _ _ _ _ _ _ _)
      | (with_reducible exact laws_toNetwork.mono _ _ _ _)
      | (with_reducible exact spec_SameNetwork.mono _ _ _ _ _ _ _)
      | (with_reducible exact LeO.refl _)
      | (with_reducible exact LeO.none _)
      | (with_reducible refine LeO.ite ?_ ?_)
      | (with_reducible refine LeO.bind ?_ (fun _ => ?_))
      | exact ih0 _ _ _ _ _ _ _
      | exact ih1 _ _ _ _ _ _
      | exact ih2 _ _ _ _ _ _ _ _ _ _ _ _
      | exact ih3 _ _ _ _ _ _
      | exact impl_SameNetwork.mono _ _ _ _ _ _ _
      | exact laws_eqNetwork.mono _ _ _ _ _ _ _
      | exact laws_toNetwork.mono _ _ _ _
      | exact spec_SameNetwork.mono _ _ _ _ _ _ _
      | exact LeO.none _
      | refine LeO.ite ?_ ?_
      | refine LeO.bind ?_ (fun _ => ?_)
    · intro y0 y1 y2 y3 y4 y5
      unfold laws_FnExactSameNetwork.j1
      repeat' first
      | (with_reducible exact ih0 _ _ _ _ _ _ _)
      | (with_reducible exact ih1 _ _ _ _ _ _)
      | (with_reducible exact ih2 _ _ _ _ _ _ _ _ _ _ _ _)
      | (with_reducible exact ih3 _ _ _ _ _ _)
      | (with_reducible exact impl_SameNetwork.mono _ _ _ _ _ _ _)
      | (with_reducible exact laws_eqNetwork.mono _ _ _ _ _ _ _)
      | (with_reducible exact laws_toNetwork.mono _ _ _ _)
      | (with_reducible exact spec_SameNetwork.mono _ _ _ _ _ _ _)
      | (with_reducible exact LeO.refl _)
      | (with_reducible exact LeO.none _)
      | (with_reducible refine LeO.ite ?_ ?_)
      | (with_reducible refine LeO.bind ?_ (fun _ => ?_))
      | exact ih0 _ _ _ _ _ _ _
      | exact ih1 _ _ _ _ _ _
      | exact ih2 _ _ _ _ _ _ _ _ _ _ _ _
      | exact ih3 _ _ _ _ _ _
      | exact impl_SameNetwork.mono _ _ _ _ _ _ _
      | exact laws_eqNetwork.mono _ _ _ _ _ _ _
      | exact laws_toNetwork.mono _ _ _ _
      | exact spec_SameNetwork.mono _ _ _ _ _ _ _
      | exact LeO.none _
      | refine LeO.ite ?_ ?_
      | refine LeO.bind ?_ (fun _ => ?_)
    · intro y0 y1 y2 y3 y4 y5 y6 y7 y8 y9 y10 y11
      unfold laws_FnExactSameNetwork.j2
      repeat' first
      | (with_reducible exact ih0 _ _ _ _ _ _ _)
      | (with_reducible exact ih1 _ _ _ _ _ _)
      | (with_reducible exact ih2 _ _ _ _ _ _ _ _ _ _ _ _)
      | (with_reducible exact ih3 _ _ _ _ _ _)
      | (with_reducible exact impl_SameNetwork.mono _ _ _ _ _ _ _)
      | (with_reducible exact laws_eqNetwork.mono _ _ _ _ _ _ _)
      | (with_reducible exact laws_toNetwork.mono _ _ _ _)
      | (with_reducible exact spec_SameNetwork.mono _ _ _ _ _ _ _)
      | (with_reducible exact LeO.refl _)
      | (with_reducible exact LeO.none _)
      | (with_reducible refine LeO.ite ?_ ?_)
      | (with_reducible refine LeO.bind ?_ (fun _ => ?_))
      | exact ih0 _ _ _ _ _ _ _
      | exact ih1 _ _ _ _ _ _
      | exact ih2 _ _ _ _ _ _ _ _ _ _ _ _
      | exact ih3 _ _ _ _ _ _
      | exact impl_SameNetwork.mono _ _ _ _ _ _ _
      | exact laws_eqNetwork.mono _ _ _ _ _ _ _
      | exact laws_toNetwork.mono _ _ _ _
      | exact spec_SameNetwork.mono _ _ _ _ _ _ _
      | exact LeO.none _
      | refine LeO.ite ?_ ?_
      | refine LeO.bind ?_ (fun _ => ?_)
    · intro y0 y1 y2 y3 y4 y5
      unfold laws_FnExactSameNetwork.j3
      repeat' first
      | (with_reducible exact ih0 _ _ _ _ _ _ _)
      | (with_reducible exact ih1 _ _ _ _ _ _)
      | (with_reducible exact ih2 _ _ _ _ _ _ _ _ _ _ _ _)
      | (with_reducible exact ih3 _ _ _ _ _ _)
      | (with_reducible exact impl_SameNetwork.mono _ _ _ _ _ _ _)
      | (with_reducible exact laws_eqNetwork.mono _ _ _ _ _ _ _)
      | (with_reducible exact laws_toNetwork.mono _ _ _ _)
      | (with_reducible exact spec_SameNetwork.mono _ _ _ _ _ _ _)
      | (with_reducible exact LeO.refl _)
      | (with_reducible exact LeO.none _)
      | (with_reducible refine LeO.ite ?_ ?_)
      | (with_reducible refine LeO.bind ?_ (fun _ => ?_))
      | exact ih0 _ _ _ _ _ _ _
      | exact ih1 _ _ _ _ _ _
      | exact ih2 _ _ _ _ _ _ _ _ _ _ _ _
      | exact ih3 _ _ _ _ _ _
      | exact impl_SameNetwork.mono _ _ _ _ _ _ _
      | exact laws_eqNetwork.mono _ _ _ _ _ _ _
      | exact laws_toNetwork.mono _ _ _ _
      | exact spec_SameNetwork.mono _ _ _ _ _ _ _
      | exact LeO.none _
      | refine LeO.ite ?_ ?_
      | refine LeO.bind ?_ (fun _ => ?_)
theorem laws_FnExactSameNetwork.mono : ∀ a0 a1 a2 a3 a4 a5 k, LeO (laws_FnExactSameNetwork.f k a0 a1 a2 a3 a4 a5) (laws_FnExactSameNetwork.f (k + 1) a0 a1 a2 a3 a4 a5) := by
  intro a0 a1 a2 a3 a4 a5 k
  obtain ⟨ih0, ih1, ih2, ih3⟩ := laws_FnExactSameNetwork.mono_l k
  unfold laws_FnExactSameNetwork.f
  repeat' first
      | (with_reducible exact ih0 _ _ _ _ _ _ _)
      | (with_reducible exact ih1 _ _ _ _ _ _)
      | (with_reducible exact ih2 _ _ _ _ _ _ _ _ _ _ _ _)
      | (with_reducible exact ih3 _ _ _ _ _ _)
      | (with_reducible exact impl_SameNetwork.mono _ _ _ _ _ _ _)
      | (with_reducible exact laws_eqNetwork.mono _ _ _ _ _ _ _)
      | (with_reducible exact laws_toNetwork.mono _ _ _ _)
      | (with_reducible exact spec_SameNetwork.mono _ _ _ _ _ _ _)
      | (with_reducible exact LeO.refl _)
      | (with_reducible exact LeO.none _)
      | (with_reducible refine LeO.ite ?_ ?_)
      | (with_reducible refine LeO.bind ?_ (fun _ => ?_))
      | exact ih0 _ _ _ _ _ _ _
      | exact ih1 _ _ _ _ _ _
      | exact ih2 _ _ _ _ _ _ _ _ _ _ _ _
      | exact ih3 _ _ _ _ _ _
      | exact impl_SameNetwork.mono _ _ _ _ _ _ _
      | exact laws_eqNetwork.mono _ _ _ _ _ _ _
      | exact laws_toNetwork.mono _ _ _ _
      | exact spec_SameNetwork.mono _ _ _ _ _ _ _
      | exact LeO.none _
      | refine LeO.ite ?_ ?_
      | refine LeO.bind ?_ (fun _ => ?_)
set_option maxHeartbeats 8000000 in
set_option maxRecDepth 100000 in
theorem laws_FnExactSameNetwork.calls (k : Nat) (a0_0 : Int) (A0_1 : Option Addr) (c0_1 : Nat) (l0_1 : List (S131)) (A0_2 : Option Addr) (c0_2 : Nat) (l0_2 : List Int) (a1_0 : Int) (A1_1 : Option Addr) (c1_1 : Nat) (l1_1 : List (S131)) (A1_2 : Option Addr) (c1_2 : Nat) (l1_2 : List Int) (r : Bool) (w : World) (hr0_1 : Kd.C k131 w A0_1 l0_1.length l0_1) (hc0_1 : l0_1.length ≤ c0_1) (hr0_2 : Kd.C (Kd.int .i16) w A0_2 l0_2.length l0_2) (hc0_2 : l0_2.length ≤ c0_2) (hr1_1 : Kd.C k131 w A1_1 l1_1.length l1_1) (hc1_1 : l1_1.length ≤ c1_1) (hr1_2 : Kd.C (Kd.int .i16) w A1_2 l1_2.length l1_2) (hc1_2 : l1_2.length ≤ c1_2) (h : laws_FnExactSameNetwork.f k a0_0 l0_1 l0_2 a1_0 l1_1 l1_2 = some r) :
    Calls Try.prog 3 #[.agg #[.int .i8 a0_0, .slice A0_1 l0_1.length c0_1, .slice A0_2 l0_2.length c0_2], .agg #[.int .i8 a1_0, .slice A1_1 l1_1.length c1_1, .slice A1_2 l1_2.length c1_2]] w fun e w' => e = .returned (.bool r) ∧ Below w.heap.size w w' := by
  have hu26 := Try.underlying26
  have hu31 := Try.underlying31
  have HR0_1 := Aside0.mk hr0_1
  have HC0_1 := Aside0.mk hc0_1
  clear hr0_1 hc0_1
  have HR0_2 := Aside0.mk hr0_2
  have HC0_2 := Aside0.mk hc0_2
  clear hr0_2 hc0_2
  have HR1_1 := Aside0.mk hr1_1
  have HC1_1 := Aside0.mk hc1_1
  clear hr1_1 hc1_1
  have HR1_2 := Aside0.mk hr1_2
  have HC1_2 := Aside0.mk hc1_2
  clear hr1_2 hc1_2
  have HB := Aside0.mk (Below.refl w.heap.size w)
  have H : ((laws_szNetwork.f a0_0 l0_1 l0_2 1048576).bind fun t156 => (if t156 < 0 then (some true) else (laws_FnExactSameNetwork.j0 k t156 a0_0 l0_1 l0_2 a1_0 l1_1 l1_2))) = some r := h
  clear h
  replace H := Option.bind_eq_some_iff.mp H
  obtain ⟨t156, A30, H⟩ := H
  replace H : (if t156 < 0 then (some true) else (laws_FnExactSameNetwork.j0 k t156 a0_0 l0_1 l0_2 a1_0 l1_1 l1_2)) = some r := H
  have A3 := Aside0.mk A30
  clear A30
  have HC4 := Aside0.mk H
  clear H
  go_enter Try.func3, Try.ntmps3
  go_upto_if 14 with (first | ((with_reducible refine gate_dst (N := 2) rfl ?_); refine box_event ?hg (N := 2) ?hd (cs := #[.int .i8 a0_0, .slice A0_1 l0_1.length c0_1, .slice A0_2 l0_2.length c0_2]) (t := 26) ?hr ?_; (case hd => rfl); (case hg => rfl); (case hr => first | (go_simp; done) | (go_simp; rfl)); intro gb154 hg w5 hbox hb; have n0_ := Aside0.mk (below_step (by repeat (first | (with_reducible first | exact HB.out | apply below_alloc | apply pw_below_drewN | apply below_drew1) | exact HB.out)) hb); have n1_ := Aside0.mk (hbox); have n2_ := Aside0.mk ((by rw [hg]; exact (below_size (by repeat (first | (with_reducible first | exact HB.out | apply below_alloc | apply pw_below_drewN | apply below_drew1) | exact HB.out))) : w.heap.size ≤ gb154)); have n3_ := Aside0.mk ((by rw [hg]; exact (below_size (by repeat (first | (with_reducible first | exact HB.out | apply below_alloc | apply pw_below_drewN | apply below_drew1) | exact HB.out))) : w.heap.size ≤ gb154)); clear HB; have HB := n0_; have BK154 := n1_; have GW154 := n2_; have GE154 := n3_; clear n0_ n1_ n2_ n3_; clear hb hbox hg) | ((with_reducible refine gate_dst (N := 3) rfl ?_); refine box_event ?hg (N := 3) ?hd (cs := #[.int .i8 a1_0, .slice A1_1 l1_1.length c1_1, .slice A1_2 l1_2.length c1_2]) (t := 26) ?hr ?_; (case hd => rfl); (case hg => rfl); (case hr => first | (go_simp; done) | (go_simp; rfl)); intro gb155 hg w6 hbox hb; have n0_ := Aside0.mk (blk_below (g := gb154) (o := .cells #[.int .i8 a0_0, .slice A0_1 l0_1.length c0_1, .slice A0_2 l0_2.length c0_2] 26 (0, 0)) (by (with_reducible repeat (first | refine blk_drewN ?_ _ | refine blk_drew ?_ | refine blk_alloc ?_ _)); exact BK154.out) hb); have n1_ := Aside0.mk (below_step (by repeat (first | (with_reducible first | exact HB.out | apply below_alloc | apply pw_below_drewN | apply below_drew1 | refine below_set ?_ GE154.out) | exact HB.out)) hb); have n2_ := Aside0.mk (hbox); have n3_ := Aside0.mk ((by rw [hg]; exact (below_size (by repeat (first | (with_reducible first | exact HB.out | apply below_alloc | apply pw_below_drewN | apply below_drew1 | refine below_set ?_ GE154.out) | exact HB.out))) : w.heap.size ≤ gb155)); have n4_ := Aside0.mk ((by rw [hg]; exact (below_size (by repeat (first | (with_reducible first | exact HB.out | apply below_alloc | apply pw_below_drewN | apply below_drew1 | refine below_set ?_ GE154.out) | exact HB.out))) : w.heap.size ≤ gb155)); have n5_ := Aside0.mk ((by rw [hg]; exact Nat.ne_of_lt (blk_lt (g := gb154) (o := .cells #[.int .i8 a0_0, .slice A0_1 l0_1.length c0_1, .slice A0_2 l0_2.length c0_2] 26 (0, 0)) (by (with_reducible repeat (first | refine blk_drewN ?_ _ | refine blk_drew ?_ | refine blk_alloc ?_ _)); exact BK154.out)) : gb154 ≠ gb155)); have n6_ := Aside0.mk ((by rw [hg]; exact Nat.ne_of_gt (blk_lt (g := gb154) (o := .cells #[.int .i8 a0_0, .slice A0_1 l0_1.length c0_1, .slice A0_2 l0_2.length c0_2] 26 (0, 0)) (by (with_reducible repeat (first | refine blk_drewN ?_ _ | refine blk_drew ?_ | refine blk_alloc ?_ _)); exact BK154.out)) : gb155 ≠ gb154)); clear BK154; clear HB; have BK154 := n0_; have HB := n1_; have BK155 := n2_; have GW155 := n3_; have GE155 := n4_; have NB154_155 := n5_; have NB155_154 := n6_; clear n0_ n1_ n2_ n3_ n4_ n5_ n6_; clear hb hbox hg; have hnb7 := NB154_155.out; have hnc7 := NB155_154.out; have hcz8_0 : w6.cell? ⟨gb154, 0, none⟩ = some (.int .i8 a0_0) := (blk_cell BK154.out 0).trans rfl; have hcz8_1 : w6.cell? ⟨gb154, 1, none⟩ = some (.slice A0_1 l0_1.length c0_1) := (blk_cell BK154.out 1).trans rfl; have hcz8_2 : w6.cell? ⟨gb154, 2, none⟩ = some (.slice A0_2 l0_2.length c0_2) := (blk_cell BK154.out 2).trans rfl; have hfz8_0 := blk_frozen BK154.out 0; have hfz8_1 := blk_frozen BK154.out 1; have hfz8_2 := blk_frozen BK154.out 2) | ((with_reducible refine gate_callee (f := 21) rfl ?_); refine goesL_ (some 12) rfl rfl Try.func21 (by kernel_rfl) rfl #[.agg #[.int .i8 a0_0, .slice A0_1 l0_1.length c0_1, .slice A0_2 l0_2.length c0_2], .int .i64 1048576] rfl (by (try simp only [List.map_toArray, List.map_cons, List.map_nil]); first | done | rfl | (simp only [List.length_drop, List.length_take]; rfl)) ?_; (with_reducible refine (laws_szNetwork.calls a0_0 _ _ l0_1 _ _ l0_2 1048576 t156 _ ?side1 ?side2 ?side3 ?side4 A3.out).mono ?_); (case side1 => repeat (first | exact (Kd.C_below HR0_1.out HB.out) | (with_reducible refine Kd.C_alloc ?_ _) | (with_reducible refine Kd.C_drewN ?_ _) | (with_reducible refine Kd.C_drew ?_))); (case side2 => exact HC0_1.out); (case side3 => repeat (first | exact (Kd.C_below HR0_2.out HB.out) | (with_reducible refine Kd.C_alloc ?_ _) | (with_reducible refine Kd.C_drewN ?_ _) | (with_reducible refine Kd.C_drew ?_))); (case side4 => exact HC0_2.out); rintro e w9 ⟨rfl, hb⟩; refine ⟨_, rfl, ?_⟩; have n0_ := Aside0.mk (blk_below (g := gb154) (o := .cells #[.int .i8 a0_0, .slice A0_1 l0_1.length c0_1, .slice A0_2 l0_2.length c0_2] 26 (0, 0)) (by (with_reducible repeat (first | refine blk_drewN ?_ _ | refine blk_drew ?_ | refine blk_alloc ?_ _)); exact BK154.out) hb); have n1_ := Aside0.mk (blk_below (g := gb155) (o := .cells #[.int .i8 a1_0, .slice A1_1 l1_1.length c1_1, .slice A1_2 l1_2.length c1_2] 26 (0, 0)) (by (with_reducible repeat (first | refine blk_drewN ?_ _ | refine blk_drew ?_ | refine blk_alloc ?_ _)); exact BK155.out) hb); have n2_ := Aside0.mk (below_step (by repeat (first | (with_reducible first | exact HB.out | apply below_alloc | apply pw_below_drewN | apply below_drew1 | refine below_set ?_ GE154.out | refine below_set ?_ GE155.out) | exact HB.out)) hb); clear BK154; clear BK155; clear HB; have BK154 := n0_; have BK155 := n1_; have HB := n2_; clear n0_ n1_ n2_; (try clear hb); (try clear hb2); (try clear hk); (try clear hi)))
  (try simp only [Act.put, List.setIfInBounds_toArray, List.set_cons_zero, List.set_cons_succ])
  go_cut [] (fun wc => ∃ (kq : Nat), Aside0 (laws_FnExactSameNetwork.j0 kq t156 a0_0 l0_1 l0_2 a1_0 l1_1 l1_2 = some r) ∧ Aside0 (kq ≤ k) ∧ Aside0 (wc.heap[gb154]? = some (.cells #[.int .i8 a0_0, (.slice A0_1 l0_1.length c0_1), (.slice A0_2 l0_2.length c0_2)] 26 (0, 0))) ∧ Aside0 (wc.heap[gb155]? = some (.cells #[.int .i8 a1_0, (.slice A1_1 l1_1.length c1_1), (.slice A1_2 l1_2.length c1_2)] 26 (0, 0))) ∧ Aside0 (Below w.heap.size w wc))
  case first =>
    have H := HC4.out
    clear HC4
    by_cases c10 : t156 < 0
    · rw [if_pos c10] at H
      have c10b0 : decide (t156 < 0) = true := decide_eq_true c10
      clear c10
      (first | rw [c10b0] | (simp only [i64_w, i32_w]; rw [c10b0]) | (have h_ := c10b0; simp only [bne] at h_; rw [h_]) | skip)
      obtain rfl := Option.some.inj H
      go_wp2
      go_ret
      exact ⟨by first | rfl | (simp [errW_none, errW_some] <;> rfl) | (simp [*, errW_none, errW_some] <;> rfl), by repeat (first | (with_reducible first | exact HB.out | apply below_alloc | apply pw_below_drewN | apply below_drew1 | refine below_set ?_ GE154.out | refine below_set ?_ GE155.out) | exact HB.out)⟩
    · rw [if_neg c10] at H
      have c10b0 : decide (t156 < 0) = false := decide_eq_false c10
      clear c10
      (first | rw [c10b0] | (simp only [i64_w, i32_w]; rw [c10b0]) | (have h_ := c10b0; simp only [bne] at h_; rw [h_]) | skip)
      have H' := Aside0.mk H
      clear H
      go_wp2
      go_meet
      case rel => exact ⟨_, H', ⟨by first | omega | exact Nat.le_refl _⟩, ⟨by (with_reducible repeat (first | refine blk_drewN ?_ _ | refine blk_drew ?_ | refine blk_alloc ?_ _)); exact BK154.out⟩, ⟨by (with_reducible repeat (first | refine blk_drewN ?_ _ | refine blk_drew ?_ | refine blk_alloc ?_ _)); exact BK155.out⟩, ⟨by repeat (first | (with_reducible first | exact HB.out | apply below_alloc | apply pw_below_drewN | apply below_drew1 | refine below_set ?_ GE154.out | refine below_set ?_ GE155.out) | exact HB.out)⟩⟩
  case rest =>
    clear HC4
    try clear c1
    try clear c2
    try clear p2
    try clear c3
    try clear c7
    try clear c10
    try clear c10b0
    try clear hcz8_0
    try clear hcz8_1
    try clear hcz8_2
    try clear hfz8_0
    try clear hfz8_1
    try clear hfz8_2
    obtain ⟨kq, HA, HJ3, BK154, BK155, HB⟩ := hcut
    cases kq with
    | zero => exact absurd HA.out (by simp [laws_FnExactSameNetwork.j0])
    | succ kj3 =>
      have H := HA.out
      clear HA
      simp only [laws_FnExactSameNetwork.j0] at H
      replace H := Option.bind_eq_some_iff.mp H
      obtain ⟨t157, A110, H⟩ := H
      replace H : (if t157 < 0 then (some true) else (laws_FnExactSameNetwork.j1 kj3 a0_0 l0_1 l0_2 a1_0 l1_1 l1_2)) = some r := H
      have A11 := Aside0.mk A110
      clear A110
      have HC12 := Aside0.mk H
      clear H
      have hnb13 := NB155_154.out
      have hnc13 := NB154_155.out
      have hcz14_0 : wc.cell? ⟨gb155, 0, none⟩ = some (.int .i8 a1_0) := (blk_cell BK155.out 0).trans rfl
      have hcz14_1 : wc.cell? ⟨gb155, 1, none⟩ = some (.slice A1_1 l1_1.length c1_1) := (blk_cell BK155.out 1).trans rfl
      have hcz14_2 : wc.cell? ⟨gb155, 2, none⟩ = some (.slice A1_2 l1_2.length c1_2) := (blk_cell BK155.out 2).trans rfl
      have hfz14_0 := blk_frozen BK155.out 0
      have hfz14_1 := blk_frozen BK155.out 1
      have hfz14_2 := blk_frozen BK155.out 2
      go_upto_if 19 with (first | ((with_reducible refine gate_callee (f := 21) rfl ?_); refine goesL_ (some 17) rfl rfl Try.func21 (by kernel_rfl) rfl #[.agg #[.int .i8 a1_0, .slice A1_1 l1_1.length c1_1, .slice A1_2 l1_2.length c1_2], .int .i64 t156] rfl (by (try simp only [List.map_toArray, List.map_cons, List.map_nil]); first | done | rfl | (simp only [List.length_drop, List.length_take]; rfl)) ?_; (with_reducible refine (laws_szNetwork.calls a1_0 _ _ l1_1 _ _ l1_2 t156 t157 _ ?side1 ?side2 ?side3 ?side4 A11.out).mono ?_); (case side1 => repeat (first | exact (Kd.C_below HR1_1.out HB.out) | (with_reducible refine Kd.C_alloc ?_ _) | (with_reducible refine Kd.C_drewN ?_ _) | (with_reducible refine Kd.C_drew ?_))); (case side2 => exact HC1_1.out); (case side3 => repeat (first | exact (Kd.C_below HR1_2.out HB.out) | (with_reducible refine Kd.C_alloc ?_ _) | (with_reducible refine Kd.C_drewN ?_ _) | (with_reducible refine Kd.C_drew ?_))); (case side4 => exact HC1_2.out); rintro e w15 ⟨rfl, hb⟩; refine ⟨_, rfl, ?_⟩; have n0_ := Aside0.mk (blk_below (g := gb154) (o := .cells #[.int .i8 a0_0, .slice A0_1 l0_1.length c0_1, .slice A0_2 l0_2.length c0_2] 26 (0, 0)) (by (with_reducible repeat (first | refine blk_drewN ?_ _ | refine blk_drew ?_ | refine blk_alloc ?_ _)); exact BK154.out) hb); have n1_ := Aside0.mk (blk_below (g := gb155) (o := .cells #[.int .i8 a1_0, .slice A1_1 l1_1.length c1_1, .slice A1_2 l1_2.length c1_2] 26 (0, 0)) (by (with_reducible repeat (first | refine blk_drewN ?_ _ | refine blk_drew ?_ | refine blk_alloc ?_ _)); exact BK155.out) hb); have n2_ := Aside0.mk (below_step (by repeat (first | (with_reducible first | exact HB.out | apply below_alloc | apply pw_below_drewN | apply below_drew1 | refine below_set ?_ GE154.out | refine below_set ?_ GE155.out) | exact HB.out)) hb); clear BK154; clear BK155; clear HB; have BK154 := n0_; have BK155 := n1_; have HB := n2_; clear n0_ n1_ n2_; (try clear hb); (try clear hb2); (try clear hk); (try clear hi)))
      (try simp only [Act.put, List.setIfInBounds_toArray, List.set_cons_zero, List.set_cons_succ])
      go_cut [] (fun wc => ∃ (kq : Nat), Aside0 (laws_FnExactSameNetwork.j1 kq a0_0 l0_1 l0_2 a1_0 l1_1 l1_2 = some r) ∧ Aside0 (kq ≤ kj3) ∧ Aside0 (wc.heap[gb154]? = some (.cells #[.int .i8 a0_0, (.slice A0_1 l0_1.length c0_1), (.slice A0_2 l0_2.length c0_2)] 26 (0, 0))) ∧ Aside0 (wc.heap[gb155]? = some (.cells #[.int .i8 a1_0, (.slice A1_1 l1_1.length c1_1), (.slice A1_2 l1_2.length c1_2)] 26 (0, 0))) ∧ Aside0 (Below w.heap.size w wc))
      case first =>
        have H := HC12.out
        clear HC12
        by_cases c16 : t157 < 0
        · rw [if_pos c16] at H
          have c16b0 : decide (t157 < 0) = true := decide_eq_true c16
          clear c16
          (first | rw [c16b0] | (simp only [i64_w, i32_w]; rw [c16b0]) | (have h_ := c16b0; simp only [bne] at h_; rw [h_]) | skip)
          obtain rfl := Option.some.inj H
          go_wp2
          go_ret
          exact ⟨by first | rfl | (simp [errW_none, errW_some] <;> rfl) | (simp [*, errW_none, errW_some] <;> rfl), by repeat (first | (with_reducible first | exact HB.out | apply below_alloc | apply pw_below_drewN | apply below_drew1 | refine below_set ?_ GE154.out | refine below_set ?_ GE155.out) | exact HB.out)⟩
        · rw [if_neg c16] at H
          have c16b0 : decide (t157 < 0) = false := decide_eq_false c16
          clear c16
          (first | rw [c16b0] | (simp only [i64_w, i32_w]; rw [c16b0]) | (have h_ := c16b0; simp only [bne] at h_; rw [h_]) | skip)
          have H' := Aside0.mk H
          clear H
          go_wp2
          go_meet
          case rel => exact ⟨_, H', ⟨by have := HJ3.out; first | omega | exact Nat.le_refl _⟩, ⟨by (with_reducible repeat (first | refine blk_drewN ?_ _ | refine blk_drew ?_ | refine blk_alloc ?_ _)); exact BK154.out⟩, ⟨by (with_reducible repeat (first | refine blk_drewN ?_ _ | refine blk_drew ?_ | refine blk_alloc ?_ _)); exact BK155.out⟩, ⟨by repeat (first | (with_reducible first | exact HB.out | apply below_alloc | apply pw_below_drewN | apply below_drew1 | refine below_set ?_ GE154.out | refine below_set ?_ GE155.out) | exact HB.out)⟩⟩
      case rest =>
        clear HC12
        try clear c1
        try clear c2
        try clear p2
        try clear c3
        try clear c7
        try clear c10
        try clear c10b0
        try clear c13
        try clear c16
        try clear c16b0
        try clear hcz14_0
        try clear hcz14_1
        try clear hcz14_2
        try clear hcz8_0
        try clear hcz8_1
        try clear hcz8_2
        try clear hfz14_0
        try clear hfz14_1
        try clear hfz14_2
        try clear hfz8_0
        try clear hfz8_1
        try clear hfz8_2
        try clear p2
        obtain ⟨kq, HA, HJ11, BK154, BK155, HB⟩ := hcut
        cases kq with
        | zero => exact absurd HA.out (by simp [laws_FnExactSameNetwork.j1])
        | succ kj11 =>
          have H := HA.out
          clear HA
          simp only [laws_FnExactSameNetwork.j1] at H
          replace H := Option.bind_eq_some_iff.mp H
          obtain ⟨⟨t158, t159, t162⟩, A170, H⟩ := H
          replace H : ((laws_toNetwork.f kj11 a1_0 l1_1 l1_2).bind fun bt165 => ((spec_SameNetwork.f kj11 t158 t159 t162 bt165.1 bt165.2.1 bt165.2.2).bind fun t172 => ((laws_toNetwork.f kj11 a0_0 l0_1 l0_2).bind fun bt173 => ((laws_toNetwork.f kj11 a1_0 l1_1 l1_2).bind fun bt181 => ((impl_SameNetwork.f kj11 bt173.1 bt173.2.1 bt173.2.2 bt181.1 bt181.2.1 bt181.2.2).bind fun t189 => (if (t189 != t172) = true then (some false) else (laws_FnExactSameNetwork.j2 kj11 a0_0 l0_1 l0_2 a1_0 l1_1 l1_2 bt173.1 bt173.2.1 bt173.2.2 bt181.1 bt181.2.1 bt181.2.2))))))) = some r := H
          have A17 := Aside0.mk A170
          clear A170
          replace H := Option.bind_eq_some_iff.mp H
          obtain ⟨⟨t165, t166, t169⟩, A180, H⟩ := H
          replace H : ((spec_SameNetwork.f kj11 t158 t159 t162 t165 t166 t169).bind fun t172 => ((laws_toNetwork.f kj11 a0_0 l0_1 l0_2).bind fun bt173 => ((laws_toNetwork.f kj11 a1_0 l1_1 l1_2).bind fun bt181 => ((impl_SameNetwork.f kj11 bt173.1 bt173.2.1 bt173.2.2 bt181.1 bt181.2.1 bt181.2.2).bind fun t189 => (if (t189 != t172) = true then (some false) else (laws_FnExactSameNetwork.j2 kj11 a0_0 l0_1 l0_2 a1_0 l1_1 l1_2 bt173.1 bt173.2.1 bt173.2.2 bt181.1 bt181.2.1 bt181.2.2)))))) = some r := H
          have A18 := Aside0.mk A180
          clear A180
          replace H := Option.bind_eq_some_iff.mp H
          obtain ⟨t172, A190, H⟩ := H
          replace H : ((laws_toNetwork.f kj11 a0_0 l0_1 l0_2).bind fun bt173 => ((laws_toNetwork.f kj11 a1_0 l1_1 l1_2).bind fun bt181 => ((impl_SameNetwork.f kj11 bt173.1 bt173.2.1 bt173.2.2 bt181.1 bt181.2.1 bt181.2.2).bind fun t189 => (if (t189 != t172) = true then (some false) else (laws_FnExactSameNetwork.j2 kj11 a0_0 l0_1 l0_2 a1_0 l1_1 l1_2 bt173.1 bt173.2.1 bt173.2.2 bt181.1 bt181.2.1 bt181.2.2))))) = some r := H
          have A19 := Aside0.mk A190
          clear A190
          replace H := Option.bind_eq_some_iff.mp H
          obtain ⟨⟨t173, t174, t177⟩, A200, H⟩ := H
          replace H : ((laws_toNetwork.f kj11 a1_0 l1_1 l1_2).bind fun bt181 => ((impl_SameNetwork.f kj11 t173 t174 t177 bt181.1 bt181.2.1 bt181.2.2).bind fun t189 => (if (t189 != t172) = true then (some false) else (laws_FnExactSameNetwork.j2 kj11 a0_0 l0_1 l0_2 a1_0 l1_1 l1_2 t173 t174 t177 bt181.1 bt181.2.1 bt181.2.2)))) = some r := H
          have A20 := Aside0.mk A200
          clear A200
          replace H := Option.bind_eq_some_iff.mp H
          obtain ⟨⟨t181, t182, t185⟩, A210, H⟩ := H
          replace H : ((impl_SameNetwork.f kj11 t173 t174 t177 t181 t182 t185).bind fun t189 => (if (t189 != t172) = true then (some false) else (laws_FnExactSameNetwork.j2 kj11 a0_0 l0_1 l0_2 a1_0 l1_1 l1_2 t173 t174 t177 t181 t182 t185))) = some r := H
          have A21 := Aside0.mk A210
          clear A210
          replace H := Option.bind_eq_some_iff.mp H
          obtain ⟨t189, A220, H⟩ := H
          replace H : (if (t189 != t172) = true then (some false) else (laws_FnExactSameNetwork.j2 kj11 a0_0 l0_1 l0_2 a1_0 l1_1 l1_2 t173 t174 t177 t181 t182 t185)) = some r := H
          have A22 := Aside0.mk A220
          clear A220
          have HC23 := Aside0.mk H
          clear H
          try go_wp2
          have n0_ := Aside0.mk (blk_drew BK154.out)
          have n1_ := Aside0.mk (blk_drew BK155.out)
          have n2_ := Aside0.mk (below_drew1 HB.out)
          clear BK154
          clear BK155
          clear HB
          have BK154 := n0_
          have BK155 := n1_
          have HB := n2_
          clear n0_ n1_ n2_
          refine start_ (n := 6) (S := fun w' => w'.cell? ⟨gb154, 0, none⟩ = some (.int .i8 a0_0) ∧ w'.cell? ⟨gb154, 1, none⟩ = some (.slice A0_1 l0_1.length c0_1) ∧ w'.cell? ⟨gb154, 2, none⟩ = some (.slice A0_2 l0_2.length c0_2) ∧ w'.cell? ⟨gb155, 0, none⟩ = some (.int .i8 a1_0) ∧ w'.cell? ⟨gb155, 1, none⟩ = some (.slice A1_1 l1_1.length c1_1) ∧ w'.cell? ⟨gb155, 2, none⟩ = some (.slice A1_2 l1_2.length c1_2)) (ds := []) #[false, false, false, false, false, false] (by kernel_rfl) rfl rfl ⟨(blk_cell BK154.out 0).trans rfl, (blk_cell BK154.out 1).trans rfl, (blk_cell BK154.out 2).trans rfl, (blk_cell BK155.out 0).trans rfl, (blk_cell BK155.out 1).trans rfl, (blk_cell BK155.out 2).trans rfl⟩ (fun hHeld => ?_)
          generalize wc.drew = w24 at BK154 BK155 HB hHeld ⊢
          refine take_ (i := 0) (N := some 20) (v := ?_) (a' := ?_) #[true, false, false, false, false, false] rfl rfl (by kernel_rfl) (fun _ _ _ h => h) (Or.inl ⟨by rfl, ?_⟩) hHeld ?_ ?_
          rotate_left
          · rintro w' ⟨s0, s1, s2, s3, s4, s5⟩
            go_simp
            with_reducible rfl
          rotate_left
          · simp only [Act.put, List.setIfInBounds_toArray, List.set_cons_zero, List.set_cons_succ, i64_w, i32_w]
            rfl
          refine take_ (i := 2) (N := some 22) (v := ?_) (a' := ?_) #[true, false, true, false, false, false] rfl rfl (by kernel_rfl) (fun _ _ _ h => h) (Or.inl ⟨by rfl, ?_⟩) hHeld ?_ ?_
          rotate_left
          · rintro w' ⟨s0, s1, s2, s3, s4, s5⟩
            go_simp
            with_reducible rfl
          rotate_left
          · simp only [Act.put, List.setIfInBounds_toArray, List.set_cons_zero, List.set_cons_succ, i64_w, i32_w]
            rfl
          refine one_ (i := 1) (N := some 21) #[true, true, true, false, false, false] rfl rfl (by kernel_rfl) (by decide) (fun K hK => ?_)
          refine goes_ Try.func23 (by kernel_rfl) rfl #[.agg #[.int .i8 a0_0, .slice A0_1 l0_1.length c0_1, .slice A0_2 l0_2.length c0_2]] (by rfl) rfl rfl (by (try simp only [List.map_toArray, List.map_cons, List.map_nil]); first | done | rfl | (simp only [List.length_drop, List.length_take]; rfl)) ?_
          with_reducible refine (laws_toNetwork.calls kj11 a0_0 _ _ l0_1 _ _ l0_2 t158 t159 t162 _ ?side1 ?side2 ?side3 ?side4 A17.out).mono ?_
          (case side1 => repeat (first | exact (Kd.C_below HR0_1.out HB.out) | (with_reducible refine Kd.C_alloc ?_ _) | (with_reducible refine Kd.C_drewN ?_ _) | (with_reducible refine Kd.C_drew ?_)))
          (case side2 => exact HC0_1.out)
          (case side3 => repeat (first | exact (Kd.C_below HR0_2.out HB.out) | (with_reducible refine Kd.C_alloc ?_ _) | (with_reducible refine Kd.C_drewN ?_ _) | (with_reducible refine Kd.C_drew ?_)))
          (case side4 => exact HC0_2.out)
          rintro e w25 ⟨v160, v163, rfl, ho0, ho1, hb⟩
          refine ⟨_, rfl, ?_⟩
          have n0_ := Aside0.mk (Kd.R_lower ho0 (below_size (by repeat (first | (with_reducible first | exact HB.out | apply below_alloc | apply pw_below_drewN | apply below_drew1 | refine below_set ?_ GE154.out | refine below_set ?_ GE155.out) | exact HB.out))))
          have n1_ := Aside0.mk (Kd.R_lower ho1 (below_size (by repeat (first | (with_reducible first | exact HB.out | apply below_alloc | apply pw_below_drewN | apply below_drew1 | refine below_set ?_ GE154.out | refine below_set ?_ GE155.out) | exact HB.out))))
          have n2_ := Aside0.mk (blk_below (g := gb154) (o := .cells #[.int .i8 a0_0, .slice A0_1 l0_1.length c0_1, .slice A0_2 l0_2.length c0_2] 26 (0, 0)) (by (with_reducible repeat (first | refine blk_drewN ?_ _ | refine blk_drew ?_ | refine blk_alloc ?_ _)); exact BK154.out) hb)
          have n3_ := Aside0.mk (blk_below (g := gb155) (o := .cells #[.int .i8 a1_0, .slice A1_1 l1_1.length c1_1, .slice A1_2 l1_2.length c1_2] 26 (0, 0)) (by (with_reducible repeat (first | refine blk_drewN ?_ _ | refine blk_drew ?_ | refine blk_alloc ?_ _)); exact BK155.out) hb)
          have n4_ := Aside0.mk (below_step (by repeat (first | (with_reducible first | exact HB.out | apply below_alloc | apply pw_below_drewN | apply below_drew1 | refine below_set ?_ GE154.out | refine below_set ?_ GE155.out) | exact HB.out)) hb)
          clear BK154
          clear BK155
          clear HB
          have HO161 := n0_
          have HO164 := n1_
          have BK154 := n2_
          have BK155 := n3_
          have HB := n4_
          clear n0_ n1_ n2_ n3_ n4_
          (try clear hb)
          (try clear hb2)
          (try clear hk)
          (try clear hi)
          (try clear ho0)
          (try clear ho1)
          refine hK.out _ _ ⟨(blk_cell BK154.out 0).trans rfl, (blk_cell BK154.out 1).trans rfl, (blk_cell BK154.out 2).trans rfl, (blk_cell BK155.out 0).trans rfl, (blk_cell BK155.out 1).trans rfl, (blk_cell BK155.out 2).trans rfl⟩ (fun hHeld => ?_)
          clear hK K
          refine norm_ (a' := ?_) ?_ ?_
          rotate_left
          · show Act.put _ (some 21) _ = _
            simp only [Act.put, List.setIfInBounds_toArray, List.set_cons_zero, List.set_cons_succ, i64_w, i32_w]
            rfl
          refine one_ (i := 3) (N := some 23) #[true, true, true, true, false, false] rfl rfl (by kernel_rfl) (by decide) (fun K hK => ?_)
          refine goes_ Try.func23 (by kernel_rfl) rfl #[.agg #[.int .i8 a1_0, .slice A1_1 l1_1.length c1_1, .slice A1_2 l1_2.length c1_2]] (by rfl) rfl rfl (by (try simp only [List.map_toArray, List.map_cons, List.map_nil]); first | done | rfl | (simp only [List.length_drop, List.length_take]; rfl)) ?_
          with_reducible refine (laws_toNetwork.calls kj11 a1_0 _ _ l1_1 _ _ l1_2 t165 t166 t169 _ ?side1 ?side2 ?side3 ?side4 A18.out).mono ?_
          (case side1 => repeat (first | exact (Kd.C_below HR1_1.out HB.out) | (with_reducible refine Kd.C_alloc ?_ _) | (with_reducible refine Kd.C_drewN ?_ _) | (with_reducible refine Kd.C_drew ?_)))
          (case side2 => exact HC1_1.out)
          (case side3 => repeat (first | exact (Kd.C_below HR1_2.out HB.out) | (with_reducible refine Kd.C_alloc ?_ _) | (with_reducible refine Kd.C_drewN ?_ _) | (with_reducible refine Kd.C_drew ?_)))
          (case side4 => exact HC1_2.out)
          rintro e w26 ⟨v167, v170, rfl, ho0, ho1, hb⟩
          refine ⟨_, rfl, ?_⟩
          have n0_ := Aside0.mk (Kd.R_elder' (by (with_reducible repeat (first | apply Kd.R_alloc | apply Kd.R_drewN | apply Kd.R_drew)); exact HO161.out) (Kd.R_base ho0) hb)
          have n1_ := Aside0.mk (Kd.R_elder' (by (with_reducible repeat (first | apply Kd.R_alloc | apply Kd.R_drewN | apply Kd.R_drew)); exact HO164.out) (Kd.R_base ho1) hb)
          have n2_ := Aside0.mk (Kd.R_lower (Kd.R_new' ho0 (Kd.R_lt (by (with_reducible repeat (first | apply Kd.R_alloc | apply Kd.R_drewN | apply Kd.R_drew)); exact HO161.out))) (below_size (by repeat (first | (with_reducible first | exact HB.out | apply below_alloc | apply pw_below_drewN | apply below_drew1 | refine below_set ?_ GE154.out | refine below_set ?_ GE155.out) | exact HB.out))))
          have n3_ := Aside0.mk (Kd.R_lower (Kd.R_new' ho1 (Kd.R_lt (by (with_reducible repeat (first | apply Kd.R_alloc | apply Kd.R_drewN | apply Kd.R_drew)); exact HO164.out))) (below_size (by repeat (first | (with_reducible first | exact HB.out | apply below_alloc | apply pw_below_drewN | apply below_drew1 | refine below_set ?_ GE154.out | refine below_set ?_ GE155.out) | exact HB.out))))
          have n4_ := Aside0.mk (blk_below (g := gb154) (o := .cells #[.int .i8 a0_0, .slice A0_1 l0_1.length c0_1, .slice A0_2 l0_2.length c0_2] 26 (0, 0)) (by (with_reducible repeat (first | refine blk_drewN ?_ _ | refine blk_drew ?_ | refine blk_alloc ?_ _)); exact BK154.out) hb)
          have n5_ := Aside0.mk (blk_below (g := gb155) (o := .cells #[.int .i8 a1_0, .slice A1_1 l1_1.length c1_1, .slice A1_2 l1_2.length c1_2] 26 (0, 0)) (by (with_reducible repeat (first | refine blk_drewN ?_ _ | refine blk_drew ?_ | refine blk_alloc ?_ _)); exact BK155.out) hb)
          have n6_ := Aside0.mk (below_step (by repeat (first | (with_reducible first | exact HB.out | apply below_alloc | apply pw_below_drewN | apply below_drew1 | refine below_set ?_ GE154.out | refine below_set ?_ GE155.out) | exact HB.out)) hb)
          clear HO161
          clear HO164
          clear BK154
          clear BK155
          clear HB
          have HO161 := n0_
          have HO164 := n1_
          have HO168 := n2_
          have HO171 := n3_
          have BK154 := n4_
          have BK155 := n5_
          have HB := n6_
          clear n0_ n1_ n2_ n3_ n4_ n5_ n6_
          (try clear hb)
          (try clear hb2)
          (try clear hk)
          (try clear hi)
          (try clear ho0)
          (try clear ho1)
          obtain ⟨Ao27, co27, eo27⟩ := Kd.R_slice HO161.out
          (first | subst eo27 | (injection eo27 with f1_ f2_ f3_; have f4_ := f1_.symm; have f5_ := f3_.symm; clear f1_ f2_ f3_; subst f4_; subst f5_))
          obtain ⟨Ao28, co28, eo28⟩ := Kd.R_slice HO164.out
          (first | subst eo28 | (injection eo28 with f1_ f2_ f3_; have f4_ := f1_.symm; have f5_ := f3_.symm; clear f1_ f2_ f3_; subst f4_; subst f5_))
          obtain ⟨Ao29, co29, eo29⟩ := Kd.R_slice HO168.out
          (first | subst eo29 | (injection eo29 with f1_ f2_ f3_; have f4_ := f1_.symm; have f5_ := f3_.symm; clear f1_ f2_ f3_; subst f4_; subst f5_))
          obtain ⟨Ao30, co30, eo30⟩ := Kd.R_slice HO171.out
          (first | subst eo30 | (injection eo30 with f1_ f2_ f3_; have f4_ := f1_.symm; have f5_ := f3_.symm; clear f1_ f2_ f3_; subst f4_; subst f5_))
          refine hK.out _ _ ⟨(blk_cell BK154.out 0).trans rfl, (blk_cell BK154.out 1).trans rfl, (blk_cell BK154.out 2).trans rfl, (blk_cell BK155.out 0).trans rfl, (blk_cell BK155.out 1).trans rfl, (blk_cell BK155.out 2).trans rfl⟩ (fun hHeld => ?_)
          clear hK K
          refine norm_ (a' := ?_) ?_ ?_
          rotate_left
          · show Act.put _ (some 23) _ = _
            simp only [Act.put, List.setIfInBounds_toArray, List.set_cons_zero, List.set_cons_succ, i64_w, i32_w]
            rfl
          refine one_ (i := 4) (N := some 24) #[true, true, true, true, true, false] rfl rfl (by kernel_rfl) (by decide) (fun K hK => ?_)
          refine goes_ Try.func22 (by kernel_rfl) rfl #[.agg #[.int .i8 t158, .slice Ao27 t159.length co27, .slice Ao28 t162.length co28], .agg #[.int .i8 t165, .slice Ao29 t166.length co29, .slice Ao30 t169.length co30]] (by rfl) rfl rfl (by (try simp only [List.map_toArray, List.map_cons, List.map_nil]); first | done | rfl | (simp only [List.length_drop, List.length_take]; rfl)) ?_
          with_reducible refine (spec_SameNetwork.calls kj11 t158 _ _ t159 _ _ t162 t165 _ _ t166 _ _ t169 t172 _ ?side1 ?side2 ?side3 ?side4 ?side5 ?side6 ?side7 ?side8 A19.out).mono ?_
          (case side1 => repeat (first | exact (Kd.R_reads' HO161.out).2.2 | (with_reducible refine Kd.C_alloc ?_ _) | (with_reducible refine Kd.C_drewN ?_ _) | (with_reducible refine Kd.C_drew ?_)))
          (case side2 => exact (Kd.R_reads' HO161.out).2.1)
          (case side3 => repeat (first | exact (Kd.R_reads' HO164.out).2.2 | (with_reducible refine Kd.C_alloc ?_ _) | (with_reducible refine Kd.C_drewN ?_ _) | (with_reducible refine Kd.C_drew ?_)))
          (case side4 => exact (Kd.R_reads' HO164.out).2.1)
          (case side5 => repeat (first | exact (Kd.R_reads' HO168.out).2.2 | (with_reducible refine Kd.C_alloc ?_ _) | (with_reducible refine Kd.C_drewN ?_ _) | (with_reducible refine Kd.C_drew ?_)))
          (case side6 => exact (Kd.R_reads' HO168.out).2.1)
          (case side7 => repeat (first | exact (Kd.R_reads' HO171.out).2.2 | (with_reducible refine Kd.C_alloc ?_ _) | (with_reducible refine Kd.C_drewN ?_ _) | (with_reducible refine Kd.C_drew ?_)))
          (case side8 => exact (Kd.R_reads' HO171.out).2.1)
          rintro e w31 ⟨rfl, hb⟩
          refine ⟨_, rfl, ?_⟩
          have n0_ := Aside0.mk (Kd.R_below (by (with_reducible repeat (first | apply Kd.R_alloc | apply Kd.R_drewN | apply Kd.R_drew)); exact HO161.out) hb)
          have n1_ := Aside0.mk (Kd.R_below (by (with_reducible repeat (first | apply Kd.R_alloc | apply Kd.R_drewN | apply Kd.R_drew)); exact HO164.out) hb)
          have n2_ := Aside0.mk (Kd.R_below (by (with_reducible repeat (first | apply Kd.R_alloc | apply Kd.R_drewN | apply Kd.R_drew)); exact HO168.out) hb)
          have n3_ := Aside0.mk (Kd.R_below (by (with_reducible repeat (first | apply Kd.R_alloc | apply Kd.R_drewN | apply Kd.R_drew)); exact HO171.out) hb)
          have n4_ := Aside0.mk (blk_below (g := gb154) (o := .cells #[.int .i8 a0_0, .slice A0_1 l0_1.length c0_1, .slice A0_2 l0_2.length c0_2] 26 (0, 0)) (by (with_reducible repeat (first | refine blk_drewN ?_ _ | refine blk_drew ?_ | refine blk_alloc ?_ _)); exact BK154.out) hb)
          have n5_ := Aside0.mk (blk_below (g := gb155) (o := .cells #[.int .i8 a1_0, .slice A1_1 l1_1.length c1_1, .slice A1_2 l1_2.length c1_2] 26 (0, 0)) (by (with_reducible repeat (first | refine blk_drewN ?_ _ | refine blk_drew ?_ | refine blk_alloc ?_ _)); exact BK155.out) hb)
          have n6_ := Aside0.mk (below_step (by repeat (first | (with_reducible first | exact HB.out | apply below_alloc | apply pw_below_drewN | apply below_drew1 | refine below_set ?_ GE154.out | refine below_set ?_ GE155.out) | exact HB.out)) hb)
          clear HO161
          clear HO164
          clear HO168
          clear HO171
          clear BK154
          clear BK155
          clear HB
          have HO161 := n0_
          have HO164 := n1_
          have HO168 := n2_
          have HO171 := n3_
          have BK154 := n4_
          have BK155 := n5_
          have HB := n6_
          clear n0_ n1_ n2_ n3_ n4_ n5_ n6_
          (try clear hb)
          (try clear hb2)
          (try clear hk)
          (try clear hi)
          refine hK.out _ _ ⟨(blk_cell BK154.out 0).trans rfl, (blk_cell BK154.out 1).trans rfl, (blk_cell BK154.out 2).trans rfl, (blk_cell BK155.out 0).trans rfl, (blk_cell BK155.out 1).trans rfl, (blk_cell BK155.out 2).trans rfl⟩ (fun hHeld => ?_)
          clear hK K
          refine norm_ (a' := ?_) ?_ ?_
          rotate_left
          · show Act.put _ (some 24) _ = _
            simp only [Act.put, List.setIfInBounds_toArray, List.set_cons_zero, List.set_cons_succ, i64_w, i32_w]
            rfl
          refine pure_ (i := 5) (N := some 6) (v := ?_) (a' := ?_) #[true, true, true, true, true, true] rfl rfl (by kernel_rfl) (fun _ _ _ h => h) (Or.inl ⟨by rfl, ?_⟩) ?_ ?_
          rotate_left
          · intro w'
            go_simp
            with_reducible rfl
          rotate_left
          · simp only [Act.put, List.setIfInBounds_toArray, List.set_cons_zero, List.set_cons_succ, i64_w, i32_w]
            rfl
          refine done_ (by kernel_rfl) ?_
          have hnb32 := NB154_155.out
          have hnc32 := NB155_154.out
          have hcz33_0 : w31.cell? ⟨gb154, 0, none⟩ = some (.int .i8 a0_0) := (blk_cell BK154.out 0).trans rfl
          have hcz33_1 : w31.cell? ⟨gb154, 1, none⟩ = some (.slice A0_1 l0_1.length c0_1) := (blk_cell BK154.out 1).trans rfl
          have hcz33_2 : w31.cell? ⟨gb154, 2, none⟩ = some (.slice A0_2 l0_2.length c0_2) := (blk_cell BK154.out 2).trans rfl
          have hfz33_0 := blk_frozen BK154.out 0
          have hfz33_1 := blk_frozen BK154.out 1
          have hfz33_2 := blk_frozen BK154.out 2
          go_upto_if 34 with (first | ((with_reducible refine gate_callee (f := 23) rfl ?_); refine goesL_ (some 26) rfl rfl Try.func23 (by kernel_rfl) rfl #[.agg #[.int .i8 a0_0, .slice A0_1 l0_1.length c0_1, .slice A0_2 l0_2.length c0_2]] rfl (by (try simp only [List.map_toArray, List.map_cons, List.map_nil]); first | done | rfl | (simp only [List.length_drop, List.length_take]; rfl)) ?_; (with_reducible refine (laws_toNetwork.calls kj11 a0_0 _ _ l0_1 _ _ l0_2 t173 t174 t177 _ ?side1 ?side2 ?side3 ?side4 A20.out).mono ?_); (case side1 => repeat (first | exact (Kd.C_below HR0_1.out HB.out) | (with_reducible refine Kd.C_alloc ?_ _) | (with_reducible refine Kd.C_drewN ?_ _) | (with_reducible refine Kd.C_drew ?_))); (case side2 => exact HC0_1.out); (case side3 => repeat (first | exact (Kd.C_below HR0_2.out HB.out) | (with_reducible refine Kd.C_alloc ?_ _) | (with_reducible refine Kd.C_drewN ?_ _) | (with_reducible refine Kd.C_drew ?_))); (case side4 => exact HC0_2.out); rintro e w34 ⟨v175, v178, rfl, ho0, ho1, hb⟩; refine ⟨_, rfl, ?_⟩; have n0_ := Aside0.mk (Kd.R_elder' (by (with_reducible repeat (first | apply Kd.R_alloc | apply Kd.R_drewN | apply Kd.R_drew)); exact HO161.out) (Kd.R_base ho0) hb); have n1_ := Aside0.mk (Kd.R_elder' (by (with_reducible repeat (first | apply Kd.R_alloc | apply Kd.R_drewN | apply Kd.R_drew)); exact HO164.out) (Kd.R_base ho1) hb); have n2_ := Aside0.mk (Kd.R_elder' (by (with_reducible repeat (first | apply Kd.R_alloc | apply Kd.R_drewN | apply Kd.R_drew)); exact HO168.out) (Kd.R_base ho0) hb); have n3_ := Aside0.mk (Kd.R_elder' (by (with_reducible repeat (first | apply Kd.R_alloc | apply Kd.R_drewN | apply Kd.R_drew)); exact HO171.out) (Kd.R_base ho1) hb); have n4_ := Aside0.mk (Kd.R_lower (Kd.R_new' (Kd.R_new' ho0 (Kd.R_lt (by (with_reducible repeat (first | apply Kd.R_alloc | apply Kd.R_drewN | apply Kd.R_drew)); exact HO161.out))) (Kd.R_lt (by (with_reducible repeat (first | apply Kd.R_alloc | apply Kd.R_drewN | apply Kd.R_drew)); exact HO168.out))) (below_size (by repeat (first | (with_reducible first | exact HB.out | apply below_alloc | apply pw_below_drewN | apply below_drew1 | refine below_set ?_ GE154.out | refine below_set ?_ GE155.out) | exact HB.out)))); have n5_ := Aside0.mk (Kd.R_lower (Kd.R_new' (Kd.R_new' ho1 (Kd.R_lt (by (with_reducible repeat (first | apply Kd.R_alloc | apply Kd.R_drewN | apply Kd.R_drew)); exact HO164.out))) (Kd.R_lt (by (with_reducible repeat (first | apply Kd.R_alloc | apply Kd.R_drewN | apply Kd.R_drew)); exact HO171.out))) (below_size (by repeat (first | (with_reducible first | exact HB.out | apply below_alloc | apply pw_below_drewN | apply below_drew1 | refine below_set ?_ GE154.out | refine below_set ?_ GE155.out) | exact HB.out)))); have n6_ := Aside0.mk (blk_below (g := gb154) (o := .cells #[.int .i8 a0_0, .slice A0_1 l0_1.length c0_1, .slice A0_2 l0_2.length c0_2] 26 (0, 0)) (by (with_reducible repeat (first | refine blk_drewN ?_ _ | refine blk_drew ?_ | refine blk_alloc ?_ _)); exact BK154.out) hb); have n7_ := Aside0.mk (blk_below (g := gb155) (o := .cells #[.int .i8 a1_0, .slice A1_1 l1_1.length c1_1, .slice A1_2 l1_2.length c1_2] 26 (0, 0)) (by (with_reducible repeat (first | refine blk_drewN ?_ _ | refine blk_drew ?_ | refine blk_alloc ?_ _)); exact BK155.out) hb); have n8_ := Aside0.mk (below_step (by repeat (first | (with_reducible first | exact HB.out | apply below_alloc | apply pw_below_drewN | apply below_drew1 | refine below_set ?_ GE154.out | refine below_set ?_ GE155.out) | exact HB.out)) hb); clear HO161; clear HO164; clear HO168; clear HO171; clear BK154; clear BK155; clear HB; have HO161 := n0_; have HO164 := n1_; have HO168 := n2_; have HO171 := n3_; have HO176 := n4_; have HO179 := n5_; have BK154 := n6_; have BK155 := n7_; have HB := n8_; clear n0_ n1_ n2_ n3_ n4_ n5_ n6_ n7_ n8_; (try clear hb); (try clear hb2); (try clear hk); (try clear hi); (try clear ho0); (try clear ho1)) | ((with_reducible refine gate_dst (N := 7) rfl ?_); refine box_event ?hg (N := 7) ?hd (cs := #[.int .i8 0, .slice none 0 0, .slice none 0 0]) (t := 31) ?hr ?_; (case hd => rfl); (case hg => rfl); (case hr => first | (go_simp; done) | (go_simp; rfl)); intro gb180 hg w35 hbox hb; have n0_ := Aside0.mk (Kd.R_below (by (with_reducible repeat (first | apply Kd.R_alloc | apply Kd.R_drewN | apply Kd.R_drew)); exact HO161.out) hb); have n1_ := Aside0.mk (Kd.R_below (by (with_reducible repeat (first | apply Kd.R_alloc | apply Kd.R_drewN | apply Kd.R_drew)); exact HO164.out) hb); have n2_ := Aside0.mk (Kd.R_below (by (with_reducible repeat (first | apply Kd.R_alloc | apply Kd.R_drewN | apply Kd.R_drew)); exact HO168.out) hb); have n3_ := Aside0.mk (Kd.R_below (by (with_reducible repeat (first | apply Kd.R_alloc | apply Kd.R_drewN | apply Kd.R_drew)); exact HO171.out) hb); have n4_ := Aside0.mk (Kd.R_below (by (with_reducible repeat (first | apply Kd.R_alloc | apply Kd.R_drewN | apply Kd.R_drew)); exact HO176.out) hb); have n5_ := Aside0.mk (Kd.R_below (by (with_reducible repeat (first | apply Kd.R_alloc | apply Kd.R_drewN | apply Kd.R_drew)); exact HO179.out) hb); have n6_ := Aside0.mk (blk_below (g := gb154) (o := .cells #[.int .i8 a0_0, .slice A0_1 l0_1.length c0_1, .slice A0_2 l0_2.length c0_2] 26 (0, 0)) (by (with_reducible repeat (first | refine blk_drewN ?_ _ | refine blk_drew ?_ | refine blk_alloc ?_ _)); exact BK154.out) hb); have n7_ := Aside0.mk (blk_below (g := gb155) (o := .cells #[.int .i8 a1_0, .slice A1_1 l1_1.length c1_1, .slice A1_2 l1_2.length c1_2] 26 (0, 0)) (by (with_reducible repeat (first | refine blk_drewN ?_ _ | refine blk_drew ?_ | refine blk_alloc ?_ _)); exact BK155.out) hb); have n8_ := Aside0.mk (below_step (by repeat (first | (with_reducible first | exact HB.out | apply below_alloc | apply pw_below_drewN | apply below_drew1 | refine below_set ?_ GE154.out | refine below_set ?_ GE155.out) | exact HB.out)) hb); have n9_ := Aside0.mk (hbox); have n10_ := Aside0.mk ((by rw [hg]; exact (below_size (by repeat (first | (with_reducible first | exact HB.out | apply below_alloc | apply pw_below_drewN | apply below_drew1 | refine below_set ?_ GE154.out | refine below_set ?_ GE155.out) | exact HB.out))) : w.heap.size ≤ gb180)); have n11_ := Aside0.mk ((by rw [hg]; exact (below_size (by repeat (first | (with_reducible first | exact HB.out | apply below_alloc | apply pw_below_drewN | apply below_drew1 | refine below_set ?_ GE154.out | refine below_set ?_ GE155.out) | exact HB.out))) : w.heap.size ≤ gb180)); have n12_ := Aside0.mk ((by rw [hg]; exact Nat.ne_of_lt (blk_lt (g := gb154) (o := .cells #[.int .i8 a0_0, .slice A0_1 l0_1.length c0_1, .slice A0_2 l0_2.length c0_2] 26 (0, 0)) (by (with_reducible repeat (first | refine blk_drewN ?_ _ | refine blk_drew ?_ | refine blk_alloc ?_ _)); exact BK154.out)) : gb154 ≠ gb180)); have n13_ := Aside0.mk ((by rw [hg]; exact Nat.ne_of_gt (blk_lt (g := gb154) (o := .cells #[.int .i8 a0_0, .slice A0_1 l0_1.length c0_1, .slice A0_2 l0_2.length c0_2] 26 (0, 0)) (by (with_reducible repeat (first | refine blk_drewN ?_ _ | refine blk_drew ?_ | refine blk_alloc ?_ _)); exact BK154.out)) : gb180 ≠ gb154)); have n14_ := Aside0.mk ((by rw [hg]; exact Nat.ne_of_lt (blk_lt (g := gb155) (o := .cells #[.int .i8 a1_0, .slice A1_1 l1_1.length c1_1, .slice A1_2 l1_2.length c1_2] 26 (0, 0)) (by (with_reducible repeat (first | refine blk_drewN ?_ _ | refine blk_drew ?_ | refine blk_alloc ?_ _)); exact BK155.out)) : gb155 ≠ gb180)); have n15_ := Aside0.mk ((by rw [hg]; exact Nat.ne_of_gt (blk_lt (g := gb155) (o := .cells #[.int .i8 a1_0, .slice A1_1 l1_1.length c1_1, .slice A1_2 l1_2.length c1_2] 26 (0, 0)) (by (with_reducible repeat (first | refine blk_drewN ?_ _ | refine blk_drew ?_ | refine blk_alloc ?_ _)); exact BK155.out)) : gb180 ≠ gb155)); clear HO161; clear HO164; clear HO168; clear HO171; clear HO176; clear HO179; clear BK154; clear BK155; clear HB; have HO161 := n0_; have HO164 := n1_; have HO168 := n2_; have HO171 := n3_; have HO176 := n4_; have HO179 := n5_; have BK154 := n6_; have BK155 := n7_; have HB := n8_; have BK180 := n9_; have GW180 := n10_; have GE180 := n11_; have NB154_180 := n12_; have NB180_154 := n13_; have NB155_180 := n14_; have NB180_155 := n15_; clear n0_ n1_ n2_ n3_ n4_ n5_ n6_ n7_ n8_ n9_ n10_ n11_ n12_ n13_ n14_ n15_; clear hb hbox hg; have hnb36 := NB180_154.out; have hnc36 := NB154_180.out; have hnb37 := NB180_155.out; have hnc37 := NB155_180.out; have hcz38_0 : w35.cell? ⟨gb180, 0, none⟩ = some (.int .i8 0) := (blk_cell BK180.out 0).trans rfl; have hcz38_1 : w35.cell? ⟨gb180, 1, none⟩ = some (.slice none 0 0) := (blk_cell BK180.out 1).trans rfl; have hcz38_2 : w35.cell? ⟨gb180, 2, none⟩ = some (.slice none 0 0) := (blk_cell BK180.out 2).trans rfl; have hfz38_0 := blk_frozen BK180.out 0; have hfz38_1 := blk_frozen BK180.out 1; have hfz38_2 := blk_frozen BK180.out 2; obtain ⟨Ao39, co39, eo39⟩ := Kd.R_slice HO176.out; subst eo39; obtain ⟨Ao40, co40, eo40⟩ := Kd.R_slice HO179.out; subst eo40; have hcz41_0 : w35.cell? ⟨gb155, 0, none⟩ = some (.int .i8 a1_0) := (blk_cell BK155.out 0).trans rfl; have hcz41_1 : w35.cell? ⟨gb155, 1, none⟩ = some (.slice A1_1 l1_1.length c1_1) := (blk_cell BK155.out 1).trans rfl; have hcz41_2 : w35.cell? ⟨gb155, 2, none⟩ = some (.slice A1_2 l1_2.length c1_2) := (blk_cell BK155.out 2).trans rfl; have hfz41_0 := blk_frozen BK155.out 0; have hfz41_1 := blk_frozen BK155.out 1; have hfz41_2 := blk_frozen BK155.out 2) | ((with_reducible refine gate_callee (f := 23) rfl ?_); refine goesL_ (some 28) rfl rfl Try.func23 (by kernel_rfl) rfl #[.agg #[.int .i8 a1_0, .slice A1_1 l1_1.length c1_1, .slice A1_2 l1_2.length c1_2]] rfl (by (try simp only [List.map_toArray, List.map_cons, List.map_nil]); first | done | rfl | (simp only [List.length_drop, List.length_take]; rfl)) ?_; (with_reducible refine (laws_toNetwork.calls kj11 a1_0 _ _ l1_1 _ _ l1_2 t181 t182 t185 _ ?side1 ?side2 ?side3 ?side4 A21.out).mono ?_); (case side1 => exact Kd.C_below HR1_1.out (by repeat (first | (with_reducible first | exact HB.out | apply below_alloc | apply pw_below_drewN | apply below_drew1 | refine below_set ?_ GE154.out | refine below_set ?_ GE155.out | refine below_set ?_ GE180.out) | exact HB.out))); (case side2 => exact HC1_1.out); (case side3 => exact Kd.C_below HR1_2.out (by repeat (first | (with_reducible first | exact HB.out | apply below_alloc | apply pw_below_drewN | apply below_drew1 | refine below_set ?_ GE154.out | refine below_set ?_ GE155.out | refine below_set ?_ GE180.out) | exact HB.out))); (case side4 => exact HC1_2.out); rintro e w42 ⟨v183, v186, rfl, ho0, ho1, hb⟩; refine ⟨_, rfl, ?_⟩; have n0_ := Aside0.mk (Kd.R_elder' (by (with_reducible repeat (first | apply Kd.R_alloc | apply Kd.R_drewN | apply Kd.R_drew)); exact (Kd.R_mono (Kd.R_far (p := ⟨gb180, 2, none⟩) (Kd.R_far (p := ⟨gb180, 1, none⟩) (Kd.R_far (p := ⟨gb180, 0, none⟩) (Kd.R_types HO161.out BK180.out (by decide)) (fun _ hk => hk.2) (.int .i8 t173)) (fun _ hk => hk.2) (.slice Ao39 t174.length co39)) (fun _ hk => hk.2) (.slice Ao40 t177.length co40)) (fun _ h_ => h_.1))) (Kd.R_base ho0) hb); have n1_ := Aside0.mk (Kd.R_elder' (by (with_reducible repeat (first | apply Kd.R_alloc | apply Kd.R_drewN | apply Kd.R_drew)); exact (Kd.R_mono (Kd.R_far (p := ⟨gb180, 2, none⟩) (Kd.R_far (p := ⟨gb180, 1, none⟩) (Kd.R_far (p := ⟨gb180, 0, none⟩) (Kd.R_types HO164.out BK180.out (by decide)) (fun _ hk => hk.2) (.int .i8 t173)) (fun _ hk => hk.2) (.slice Ao39 t174.length co39)) (fun _ hk => hk.2) (.slice Ao40 t177.length co40)) (fun _ h_ => h_.1))) (Kd.R_base ho1) hb); have n2_ := Aside0.mk (Kd.R_elder' (by (with_reducible repeat (first | apply Kd.R_alloc | apply Kd.R_drewN | apply Kd.R_drew)); exact (Kd.R_mono (Kd.R_far (p := ⟨gb180, 2, none⟩) (Kd.R_far (p := ⟨gb180, 1, none⟩) (Kd.R_far (p := ⟨gb180, 0, none⟩) (Kd.R_types HO168.out BK180.out (by decide)) (fun _ hk => hk.2) (.int .i8 t173)) (fun _ hk => hk.2) (.slice Ao39 t174.length co39)) (fun _ hk => hk.2) (.slice Ao40 t177.length co40)) (fun _ h_ => h_.1))) (Kd.R_base ho0) hb); have n3_ := Aside0.mk (Kd.R_elder' (by (with_reducible repeat (first | apply Kd.R_alloc | apply Kd.R_drewN | apply Kd.R_drew)); exact (Kd.R_mono (Kd.R_far (p := ⟨gb180, 2, none⟩) (Kd.R_far (p := ⟨gb180, 1, none⟩) (Kd.R_far (p := ⟨gb180, 0, none⟩) (Kd.R_types HO171.out BK180.out (by decide)) (fun _ hk => hk.2) (.int .i8 t173)) (fun _ hk => hk.2) (.slice Ao39 t174.length co39)) (fun _ hk => hk.2) (.slice Ao40 t177.length co40)) (fun _ h_ => h_.1))) (Kd.R_base ho1) hb); have n4_ := Aside0.mk (Kd.R_elder' (by (with_reducible repeat (first | apply Kd.R_alloc | apply Kd.R_drewN | apply Kd.R_drew)); exact (Kd.R_mono (Kd.R_far (p := ⟨gb180, 2, none⟩) (Kd.R_far (p := ⟨gb180, 1, none⟩) (Kd.R_far (p := ⟨gb180, 0, none⟩) (Kd.R_types HO176.out BK180.out (by decide)) (fun _ hk => hk.2) (.int .i8 t173)) (fun _ hk => hk.2) (.slice Ao39 t174.length co39)) (fun _ hk => hk.2) (.slice Ao40 t177.length co40)) (fun _ h_ => h_.1))) (Kd.R_base ho0) hb); have n5_ := Aside0.mk (Kd.R_elder' (by (with_reducible repeat (first | apply Kd.R_alloc | apply Kd.R_drewN | apply Kd.R_drew)); exact (Kd.R_mono (Kd.R_far (p := ⟨gb180, 2, none⟩) (Kd.R_far (p := ⟨gb180, 1, none⟩) (Kd.R_far (p := ⟨gb180, 0, none⟩) (Kd.R_types HO179.out BK180.out (by decide)) (fun _ hk => hk.2) (.int .i8 t173)) (fun _ hk => hk.2) (.slice Ao39 t174.length co39)) (fun _ hk => hk.2) (.slice Ao40 t177.length co40)) (fun _ h_ => h_.1))) (Kd.R_base ho1) hb); have n6_ := Aside0.mk (Kd.R_lower (Kd.R_new' (Kd.R_new' (Kd.R_new' ho0 (Kd.R_lt (by (with_reducible repeat (first | apply Kd.R_alloc | apply Kd.R_drewN | apply Kd.R_drew)); exact (Kd.R_mono (Kd.R_far (p := ⟨gb180, 2, none⟩) (Kd.R_far (p := ⟨gb180, 1, none⟩) (Kd.R_far (p := ⟨gb180, 0, none⟩) (Kd.R_types HO161.out BK180.out (by decide)) (fun _ hk => hk.2) (.int .i8 t173)) (fun _ hk => hk.2) (.slice Ao39 t174.length co39)) (fun _ hk => hk.2) (.slice Ao40 t177.length co40)) (fun _ h_ => h_.1))))) (Kd.R_lt (by (with_reducible repeat (first | apply Kd.R_alloc | apply Kd.R_drewN | apply Kd.R_drew)); exact (Kd.R_mono (Kd.R_far (p := ⟨gb180, 2, none⟩) (Kd.R_far (p := ⟨gb180, 1, none⟩) (Kd.R_far (p := ⟨gb180, 0, none⟩) (Kd.R_types HO168.out BK180.out (by decide)) (fun _ hk => hk.2) (.int .i8 t173)) (fun _ hk => hk.2) (.slice Ao39 t174.length co39)) (fun _ hk => hk.2) (.slice Ao40 t177.length co40)) (fun _ h_ => h_.1))))) (Kd.R_lt (by (with_reducible repeat (first | apply Kd.R_alloc | apply Kd.R_drewN | apply Kd.R_drew)); exact (Kd.R_mono (Kd.R_far (p := ⟨gb180, 2, none⟩) (Kd.R_far (p := ⟨gb180, 1, none⟩) (Kd.R_far (p := ⟨gb180, 0, none⟩) (Kd.R_types HO176.out BK180.out (by decide)) (fun _ hk => hk.2) (.int .i8 t173)) (fun _ hk => hk.2) (.slice Ao39 t174.length co39)) (fun _ hk => hk.2) (.slice Ao40 t177.length co40)) (fun _ h_ => h_.1))))) (below_size (by repeat (first | (with_reducible first | exact HB.out | apply below_alloc | apply pw_below_drewN | apply below_drew1 | refine below_set ?_ GE154.out | refine below_set ?_ GE155.out | refine below_set ?_ GE180.out) | exact HB.out)))); have n7_ := Aside0.mk (Kd.R_lower (Kd.R_new' (Kd.R_new' (Kd.R_new' ho1 (Kd.R_lt (by (with_reducible repeat (first | apply Kd.R_alloc | apply Kd.R_drewN | apply Kd.R_drew)); exact (Kd.R_mono (Kd.R_far (p := ⟨gb180, 2, none⟩) (Kd.R_far (p := ⟨gb180, 1, none⟩) (Kd.R_far (p := ⟨gb180, 0, none⟩) (Kd.R_types HO164.out BK180.out (by decide)) (fun _ hk => hk.2) (.int .i8 t173)) (fun _ hk => hk.2) (.slice Ao39 t174.length co39)) (fun _ hk => hk.2) (.slice Ao40 t177.length co40)) (fun _ h_ => h_.1))))) (Kd.R_lt (by (with_reducible repeat (first | apply Kd.R_alloc | apply Kd.R_drewN | apply Kd.R_drew)); exact (Kd.R_mono (Kd.R_far (p := ⟨gb180, 2, none⟩) (Kd.R_far (p := ⟨gb180, 1, none⟩) (Kd.R_far (p := ⟨gb180, 0, none⟩) (Kd.R_types HO171.out BK180.out (by decide)) (fun _ hk => hk.2) (.int .i8 t173)) (fun _ hk => hk.2) (.slice Ao39 t174.length co39)) (fun _ hk => hk.2) (.slice Ao40 t177.length co40)) (fun _ h_ => h_.1))))) (Kd.R_lt (by (with_reducible repeat (first | apply Kd.R_alloc | apply Kd.R_drewN | apply Kd.R_drew)); exact (Kd.R_mono (Kd.R_far (p := ⟨gb180, 2, none⟩) (Kd.R_far (p := ⟨gb180, 1, none⟩) (Kd.R_far (p := ⟨gb180, 0, none⟩) (Kd.R_types HO179.out BK180.out (by decide)) (fun _ hk => hk.2) (.int .i8 t173)) (fun _ hk => hk.2) (.slice Ao39 t174.length co39)) (fun _ hk => hk.2) (.slice Ao40 t177.length co40)) (fun _ h_ => h_.1))))) (below_size (by repeat (first | (with_reducible first | exact HB.out | apply below_alloc | apply pw_below_drewN | apply below_drew1 | refine below_set ?_ GE154.out | refine below_set ?_ GE155.out | refine below_set ?_ GE180.out) | exact HB.out)))); have n8_ := Aside0.mk (blk_below (g := gb154) (o := .cells #[.int .i8 a0_0, .slice A0_1 l0_1.length c0_1, .slice A0_2 l0_2.length c0_2] 26 (0, 0)) (by (with_reducible repeat (first | refine blk_drewN ?_ _ | refine blk_drew ?_ | refine blk_alloc ?_ _)); refine blk_far ?_ NB154_180.out _; (with_reducible repeat (first | refine blk_drewN ?_ _ | refine blk_drew ?_ | refine blk_alloc ?_ _)); refine blk_far ?_ NB154_180.out _; (with_reducible repeat (first | refine blk_drewN ?_ _ | refine blk_drew ?_ | refine blk_alloc ?_ _)); refine blk_far ?_ NB154_180.out _; (with_reducible repeat (first | refine blk_drewN ?_ _ | refine blk_drew ?_ | refine blk_alloc ?_ _)); exact BK154.out) hb); have n9_ := Aside0.mk (blk_below (g := gb155) (o := .cells #[.int .i8 a1_0, .slice A1_1 l1_1.length c1_1, .slice A1_2 l1_2.length c1_2] 26 (0, 0)) (by (with_reducible repeat (first | refine blk_drewN ?_ _ | refine blk_drew ?_ | refine blk_alloc ?_ _)); refine blk_far ?_ NB155_180.out _; (with_reducible repeat (first | refine blk_drewN ?_ _ | refine blk_drew ?_ | refine blk_alloc ?_ _)); refine blk_far ?_ NB155_180.out _; (with_reducible repeat (first | refine blk_drewN ?_ _ | refine blk_drew ?_ | refine blk_alloc ?_ _)); refine blk_far ?_ NB155_180.out _; (with_reducible repeat (first | refine blk_drewN ?_ _ | refine blk_drew ?_ | refine blk_alloc ?_ _)); exact BK155.out) hb); have n10_ := Aside0.mk (blk_below (g := gb180) (o := .cells #[.int .i8 t173, .slice Ao39 t174.length co39, .slice Ao40 t177.length co40] 31 (0, 0)) (by (with_reducible repeat (first | refine blk_drewN ?_ _ | refine blk_drew ?_ | refine blk_alloc ?_ _)); refine blk_put (cs := #[.int .i8 t173, .slice Ao39 t174.length co39, .slice none 0 0]) ?_ 2 _ rfl; (with_reducible repeat (first | refine blk_drewN ?_ _ | refine blk_drew ?_ | refine blk_alloc ?_ _)); refine blk_put (cs := #[.int .i8 t173, .slice none 0 0, .slice none 0 0]) ?_ 1 _ rfl; (with_reducible repeat (first | refine blk_drewN ?_ _ | refine blk_drew ?_ | refine blk_alloc ?_ _)); refine blk_put (cs := #[.int .i8 0, .slice none 0 0, .slice none 0 0]) ?_ 0 _ rfl; (with_reducible repeat (first | refine blk_drewN ?_ _ | refine blk_drew ?_ | refine blk_alloc ?_ _)); exact BK180.out) hb); have n11_ := Aside0.mk (below_step (by repeat (first | (with_reducible first | exact HB.out | apply below_alloc | apply pw_below_drewN | apply below_drew1 | refine below_set ?_ GE154.out | refine below_set ?_ GE155.out | refine below_set ?_ GE180.out) | exact HB.out)) hb); clear HO161; clear HO164; clear HO168; clear HO171; clear HO176; clear HO179; clear BK154; clear BK155; clear BK180; clear HB; have HO161 := n0_; have HO164 := n1_; have HO168 := n2_; have HO171 := n3_; have HO176 := n4_; have HO179 := n5_; have HO184 := n6_; have HO187 := n7_; have BK154 := n8_; have BK155 := n9_; have BK180 := n10_; have HB := n11_; clear n0_ n1_ n2_ n3_ n4_ n5_ n6_ n7_ n8_ n9_ n10_ n11_; (try clear hb); (try clear hb2); (try clear hk); (try clear hi); (try clear ho0); (try clear ho1)) | ((with_reducible refine gate_dst (N := 8) rfl ?_); refine box_event ?hg (N := 8) ?hd (cs := #[.int .i8 0, .slice none 0 0, .slice none 0 0]) (t := 31) ?hr ?_; (case hd => rfl); (case hg => rfl); (case hr => first | (go_simp; done) | (go_simp; rfl)); intro gb188 hg w43 hbox hb; have n0_ := Aside0.mk (Kd.R_below (by (with_reducible repeat (first | apply Kd.R_alloc | apply Kd.R_drewN | apply Kd.R_drew)); exact HO161.out) hb); have n1_ := Aside0.mk (Kd.R_below (by (with_reducible repeat (first | apply Kd.R_alloc | apply Kd.R_drewN | apply Kd.R_drew)); exact HO164.out) hb); have n2_ := Aside0.mk (Kd.R_below (by (with_reducible repeat (first | apply Kd.R_alloc | apply Kd.R_drewN | apply Kd.R_drew)); exact HO168.out) hb); have n3_ := Aside0.mk (Kd.R_below (by (with_reducible repeat (first | apply Kd.R_alloc | apply Kd.R_drewN | apply Kd.R_drew)); exact HO171.out) hb); have n4_ := Aside0.mk (Kd.R_below (by (with_reducible repeat (first | apply Kd.R_alloc | apply Kd.R_drewN | apply Kd.R_drew)); exact HO176.out) hb); have n5_ := Aside0.mk (Kd.R_below (by (with_reducible repeat (first | apply Kd.R_alloc | apply Kd.R_drewN | apply Kd.R_drew)); exact HO179.out) hb); have n6_ := Aside0.mk (Kd.R_below (by (with_reducible repeat (first | apply Kd.R_alloc | apply Kd.R_drewN | apply Kd.R_drew)); exact HO184.out) hb); have n7_ := Aside0.mk (Kd.R_below (by (with_reducible repeat (first | apply Kd.R_alloc | apply Kd.R_drewN | apply Kd.R_drew)); exact HO187.out) hb); have n8_ := Aside0.mk (blk_below (g := gb154) (o := .cells #[.int .i8 a0_0, .slice A0_1 l0_1.length c0_1, .slice A0_2 l0_2.length c0_2] 26 (0, 0)) (by (with_reducible repeat (first | refine blk_drewN ?_ _ | refine blk_drew ?_ | refine blk_alloc ?_ _)); exact BK154.out) hb); have n9_ := Aside0.mk (blk_below (g := gb155) (o := .cells #[.int .i8 a1_0, .slice A1_1 l1_1.length c1_1, .slice A1_2 l1_2.length c1_2] 26 (0, 0)) (by (with_reducible repeat (first | refine blk_drewN ?_ _ | refine blk_drew ?_ | refine blk_alloc ?_ _)); exact BK155.out) hb); have n10_ := Aside0.mk (blk_below (g := gb180) (o := .cells #[.int .i8 t173, .slice Ao39 t174.length co39, .slice Ao40 t177.length co40] 31 (0, 0)) (by (with_reducible repeat (first | refine blk_drewN ?_ _ | refine blk_drew ?_ | refine blk_alloc ?_ _)); exact BK180.out) hb); have n11_ := Aside0.mk (below_step (by repeat (first | (with_reducible first | exact HB.out | apply below_alloc | apply pw_below_drewN | apply below_drew1 | refine below_set ?_ GE154.out | refine below_set ?_ GE155.out | refine below_set ?_ GE180.out) | exact HB.out)) hb); have n12_ := Aside0.mk (hbox); have n13_ := Aside0.mk ((by rw [hg]; exact (below_size (by repeat (first | (with_reducible first | exact HB.out | apply below_alloc | apply pw_below_drewN | apply below_drew1 | refine below_set ?_ GE154.out | refine below_set ?_ GE155.out | refine below_set ?_ GE180.out) | exact HB.out))) : w.heap.size ≤ gb188)); have n14_ := Aside0.mk ((by rw [hg]; exact (below_size (by repeat (first | (with_reducible first | exact HB.out | apply below_alloc | apply pw_below_drewN | apply below_drew1 | refine below_set ?_ GE154.out | refine below_set ?_ GE155.out | refine below_set ?_ GE180.out) | exact HB.out))) : w.heap.size ≤ gb188)); have n15_ := Aside0.mk ((by rw [hg]; exact Nat.ne_of_lt (blk_lt (g := gb154) (o := .cells #[.int .i8 a0_0, .slice A0_1 l0_1.length c0_1, .slice A0_2 l0_2.length c0_2] 26 (0, 0)) (by (with_reducible repeat (first | refine blk_drewN ?_ _ | refine blk_drew ?_ | refine blk_alloc ?_ _)); exact BK154.out)) : gb154 ≠ gb188)); have n16_ := Aside0.mk ((by rw [hg]; exact Nat.ne_of_gt (blk_lt (g := gb154) (o := .cells #[.int .i8 a0_0, .slice A0_1 l0_1.length c0_1, .slice A0_2 l0_2.length c0_2] 26 (0, 0)) (by (with_reducible repeat (first | refine blk_drewN ?_ _ | refine blk_drew ?_ | refine blk_alloc ?_ _)); exact BK154.out)) : gb188 ≠ gb154)); have n17_ := Aside0.mk ((by rw [hg]; exact Nat.ne_of_lt (blk_lt (g := gb155) (o := .cells #[.int .i8 a1_0, .slice A1_1 l1_1.length c1_1, .slice A1_2 l1_2.length c1_2] 26 (0, 0)) (by (with_reducible repeat (first | refine blk_drewN ?_ _ | refine blk_drew ?_ | refine blk_alloc ?_ _)); exact BK155.out)) : gb155 ≠ gb188)); have n18_ := Aside0.mk ((by rw [hg]; exact Nat.ne_of_gt (blk_lt (g := gb155) (o := .cells #[.int .i8 a1_0, .slice A1_1 l1_1.length c1_1, .slice A1_2 l1_2.length c1_2] 26 (0, 0)) (by (with_reducible repeat (first | refine blk_drewN ?_ _ | refine blk_drew ?_ | refine blk_alloc ?_ _)); exact BK155.out)) : gb188 ≠ gb155)); have n19_ := Aside0.mk ((by rw [hg]; exact Nat.ne_of_lt (blk_lt (g := gb180) (o := .cells #[.int .i8 t173, .slice Ao39 t174.length co39, .slice Ao40 t177.length co40] 31 (0, 0)) (by (with_reducible repeat (first | refine blk_drewN ?_ _ | refine blk_drew ?_ | refine blk_alloc ?_ _)); exact BK180.out)) : gb180 ≠ gb188)); have n20_ := Aside0.mk ((by rw [hg]; exact Nat.ne_of_gt (blk_lt (g := gb180) (o := .cells #[.int .i8 t173, .slice Ao39 t174.length co39, .slice Ao40 t177.length co40] 31 (0, 0)) (by (with_reducible repeat (first | refine blk_drewN ?_ _ | refine blk_drew ?_ | refine blk_alloc ?_ _)); exact BK180.out)) : gb188 ≠ gb180)); clear HO161; clear HO164; clear HO168; clear HO171; clear HO176; clear HO179; clear HO184; clear HO187; clear BK154; clear BK155; clear BK180; clear HB; have HO161 := n0_; have HO164 := n1_; have HO168 := n2_; have HO171 := n3_; have HO176 := n4_; have HO179 := n5_; have HO184 := n6_; have HO187 := n7_; have BK154 := n8_; have BK155 := n9_; have BK180 := n10_; have HB := n11_; have BK188 := n12_; have GW188 := n13_; have GE188 := n14_; have NB154_188 := n15_; have NB188_154 := n16_; have NB155_188 := n17_; have NB188_155 := n18_; have NB180_188 := n19_; have NB188_180 := n20_; clear n0_ n1_ n2_ n3_ n4_ n5_ n6_ n7_ n8_ n9_ n10_ n11_ n12_ n13_ n14_ n15_ n16_ n17_ n18_ n19_ n20_; clear hb hbox hg; have hnb44 := NB188_154.out; have hnc44 := NB154_188.out; have hnb45 := NB188_155.out; have hnc45 := NB155_188.out; have hnb46 := NB188_180.out; have hnc46 := NB180_188.out; have hcz47_0 : w43.cell? ⟨gb188, 0, none⟩ = some (.int .i8 0) := (blk_cell BK188.out 0).trans rfl; have hcz47_1 : w43.cell? ⟨gb188, 1, none⟩ = some (.slice none 0 0) := (blk_cell BK188.out 1).trans rfl; have hcz47_2 : w43.cell? ⟨gb188, 2, none⟩ = some (.slice none 0 0) := (blk_cell BK188.out 2).trans rfl; have hfz47_0 := blk_frozen BK188.out 0; have hfz47_1 := blk_frozen BK188.out 1; have hfz47_2 := blk_frozen BK188.out 2; obtain ⟨Ao48, co48, eo48⟩ := Kd.R_slice HO184.out; subst eo48; obtain ⟨Ao49, co49, eo49⟩ := Kd.R_slice HO187.out; subst eo49; have hcz50_0 : w43.cell? ⟨gb180, 0, none⟩ = some (.int .i8 t173) := (blk_cell BK180.out 0).trans rfl; have hcz50_1 : w43.cell? ⟨gb180, 1, none⟩ = some (.slice Ao39 t174.length co39) := (blk_cell BK180.out 1).trans rfl; have hcz50_2 : w43.cell? ⟨gb180, 2, none⟩ = some (.slice Ao40 t177.length co40) := (blk_cell BK180.out 2).trans rfl; have hfz50_0 := blk_frozen BK180.out 0; have hfz50_1 := blk_frozen BK180.out 1; have hfz50_2 := blk_frozen BK180.out 2) | ((with_reducible refine gate_callee (f := 24) rfl ?_); refine goesL_ (some 31) rfl rfl Try.func24 (by kernel_rfl) rfl #[.agg #[.int .i8 t173, .slice Ao39 t174.length co39, .slice Ao40 t177.length co40], .agg #[.int .i8 t181, .slice Ao48 t182.length co48, .slice Ao49 t185.length co49]] rfl (by (try simp only [List.map_toArray, List.map_cons, List.map_nil]); first | done | rfl | (simp only [List.length_drop, List.length_take]; rfl)) ?_; (with_reducible refine (impl_SameNetwork.calls kj11 t173 _ _ t174 _ _ t177 t181 _ _ t182 _ _ t185 t189 _ ?side1 ?side2 ?side3 ?side4 ?side5 ?side6 ?side7 ?side8 A22.out).mono ?_); (case side1 => refine (Kd.R_reads' (e := 81) (base := w.heap.size) (ok := fun k_ => (((True ∧ some k_ ≠ (.slice Ao27 t159.length co27 : Value).ownBlock) ∧ some k_ ≠ (.slice Ao29 t166.length co29 : Value).ownBlock) ∧ some k_ ≠ (.slice Ao48 t182.length co48 : Value).ownBlock)) (n := t174.length) (c := co39) ?_).2.2; exact (by (with_reducible repeat (first | apply Kd.R_alloc | apply Kd.R_drewN | apply Kd.R_drew)); exact (Kd.R_mono (Kd.R_far (p := ⟨gb188, 2, none⟩) (Kd.R_far (p := ⟨gb188, 1, none⟩) (Kd.R_far (p := ⟨gb188, 0, none⟩) (Kd.R_types HO176.out BK188.out (by decide)) (fun _ hk => hk.2) (.int .i8 t181)) (fun _ hk => hk.2) (.slice Ao48 t182.length co48)) (fun _ hk => hk.2) (.slice Ao49 t185.length co49)) (fun _ h_ => h_.1)))); (case side2 => exact (Kd.R_reads' HO176.out).2.1); (case side3 => refine (Kd.R_reads' (e := 79) (base := w.heap.size) (ok := fun k_ => (((True ∧ some k_ ≠ (.slice Ao28 t162.length co28 : Value).ownBlock) ∧ some k_ ≠ (.slice Ao30 t169.length co30 : Value).ownBlock) ∧ some k_ ≠ (.slice Ao49 t185.length co49 : Value).ownBlock)) (n := t177.length) (c := co40) ?_).2.2; exact (by (with_reducible repeat (first | apply Kd.R_alloc | apply Kd.R_drewN | apply Kd.R_drew)); exact (Kd.R_mono (Kd.R_far (p := ⟨gb188, 2, none⟩) (Kd.R_far (p := ⟨gb188, 1, none⟩) (Kd.R_far (p := ⟨gb188, 0, none⟩) (Kd.R_types HO179.out BK188.out (by decide)) (fun _ hk => hk.2) (.int .i8 t181)) (fun _ hk => hk.2) (.slice Ao48 t182.length co48)) (fun _ hk => hk.2) (.slice Ao49 t185.length co49)) (fun _ h_ => h_.1)))); (case side4 => exact (Kd.R_reads' HO179.out).2.1); (case side5 => refine (Kd.R_reads' (e := 81) (base := w.heap.size) (ok := fun k_ => (((True ∧ some k_ ≠ (.slice Ao27 t159.length co27 : Value).ownBlock) ∧ some k_ ≠ (.slice Ao29 t166.length co29 : Value).ownBlock) ∧ some k_ ≠ (.slice Ao39 t174.length co39 : Value).ownBlock)) (n := t182.length) (c := co48) ?_).2.2; exact (by (with_reducible repeat (first | apply Kd.R_alloc | apply Kd.R_drewN | apply Kd.R_drew)); exact (Kd.R_mono (Kd.R_far (p := ⟨gb188, 2, none⟩) (Kd.R_far (p := ⟨gb188, 1, none⟩) (Kd.R_far (p := ⟨gb188, 0, none⟩) (Kd.R_types HO184.out BK188.out (by decide)) (fun _ hk => hk.2) (.int .i8 t181)) (fun _ hk => hk.2) (.slice Ao48 t182.length co48)) (fun _ hk => hk.2) (.slice Ao49 t185.length co49)) (fun _ h_ => h_.1)))); (case side6 => exact (Kd.R_reads' HO184.out).2.1); (case side7 => refine (Kd.R_reads' (e := 79) (base := w.heap.size) (ok := fun k_ => (((True ∧ some k_ ≠ (.slice Ao28 t162.length co28 : Value).ownBlock) ∧ some k_ ≠ (.slice Ao30 t169.length co30 : Value).ownBlock) ∧ some k_ ≠ (.slice Ao40 t177.length co40 : Value).ownBlock)) (n := t185.length) (c := co49) ?_).2.2; exact (by (with_reducible repeat (first | apply Kd.R_alloc | apply Kd.R_drewN | apply Kd.R_drew)); exact (Kd.R_mono (Kd.R_far (p := ⟨gb188, 2, none⟩) (Kd.R_far (p := ⟨gb188, 1, none⟩) (Kd.R_far (p := ⟨gb188, 0, none⟩) (Kd.R_types HO187.out BK188.out (by decide)) (fun _ hk => hk.2) (.int .i8 t181)) (fun _ hk => hk.2) (.slice Ao48 t182.length co48)) (fun _ hk => hk.2) (.slice Ao49 t185.length co49)) (fun _ h_ => h_.1)))); (case side8 => exact (Kd.R_reads' HO187.out).2.1); rintro e w51 ⟨rfl, hb⟩; refine ⟨_, rfl, ?_⟩; have n0_ := Aside0.mk (Kd.R_below (by (with_reducible repeat (first | apply Kd.R_alloc | apply Kd.R_drewN | apply Kd.R_drew)); exact (Kd.R_mono (Kd.R_far (p := ⟨gb188, 2, none⟩) (Kd.R_far (p := ⟨gb188, 1, none⟩) (Kd.R_far (p := ⟨gb188, 0, none⟩) (Kd.R_types HO161.out BK188.out (by decide)) (fun _ hk => hk.2) (.int .i8 t181)) (fun _ hk => hk.2) (.slice Ao48 t182.length co48)) (fun _ hk => hk.2) (.slice Ao49 t185.length co49)) (fun _ h_ => h_.1))) hb); have n1_ := Aside0.mk (Kd.R_below (by (with_reducible repeat (first | apply Kd.R_alloc | apply Kd.R_drewN | apply Kd.R_drew)); exact (Kd.R_mono (Kd.R_far (p := ⟨gb188, 2, none⟩) (Kd.R_far (p := ⟨gb188, 1, none⟩) (Kd.R_far (p := ⟨gb188, 0, none⟩) (Kd.R_types HO164.out BK188.out (by decide)) (fun _ hk => hk.2) (.int .i8 t181)) (fun _ hk => hk.2) (.slice Ao48 t182.length co48)) (fun _ hk => hk.2) (.slice Ao49 t185.length co49)) (fun _ h_ => h_.1))) hb); have n2_ := Aside0.mk (Kd.R_below (by (with_reducible repeat (first | apply Kd.R_alloc | apply Kd.R_drewN | apply Kd.R_drew)); exact (Kd.R_mono (Kd.R_far (p := ⟨gb188, 2, none⟩) (Kd.R_far (p := ⟨gb188, 1, none⟩) (Kd.R_far (p := ⟨gb188, 0, none⟩) (Kd.R_types HO168.out BK188.out (by decide)) (fun _ hk => hk.2) (.int .i8 t181)) (fun _ hk => hk.2) (.slice Ao48 t182.length co48)) (fun _ hk => hk.2) (.slice Ao49 t185.length co49)) (fun _ h_ => h_.1))) hb); have n3_ := Aside0.mk (Kd.R_below (by (with_reducible repeat (first | apply Kd.R_alloc | apply Kd.R_drewN | apply Kd.R_drew)); exact (Kd.R_mono (Kd.R_far (p := ⟨gb188, 2, none⟩) (Kd.R_far (p := ⟨gb188, 1, none⟩) (Kd.R_far (p := ⟨gb188, 0, none⟩) (Kd.R_types HO171.out BK188.out (by decide)) (fun _ hk => hk.2) (.int .i8 t181)) (fun _ hk => hk.2) (.slice Ao48 t182.length co48)) (fun _ hk => hk.2) (.slice Ao49 t185.length co49)) (fun _ h_ => h_.1))) hb); have n4_ := Aside0.mk (Kd.R_below (by (with_reducible repeat (first | apply Kd.R_alloc | apply Kd.R_drewN | apply Kd.R_drew)); exact (Kd.R_mono (Kd.R_far (p := ⟨gb188, 2, none⟩) (Kd.R_far (p := ⟨gb188, 1, none⟩) (Kd.R_far (p := ⟨gb188, 0, none⟩) (Kd.R_types HO176.out BK188.out (by decide)) (fun _ hk => hk.2) (.int .i8 t181)) (fun _ hk => hk.2) (.slice Ao48 t182.length co48)) (fun _ hk => hk.2) (.slice Ao49 t185.length co49)) (fun _ h_ => h_.1))) hb); have n5_ := Aside0.mk (Kd.R_below (by (with_reducible repeat (first | apply Kd.R_alloc | apply Kd.R_drewN | apply Kd.R_drew)); exact (Kd.R_mono (Kd.R_far (p := ⟨gb188, 2, none⟩) (Kd.R_far (p := ⟨gb188, 1, none⟩) (Kd.R_far (p := ⟨gb188, 0, none⟩) (Kd.R_types HO179.out BK188.out (by decide)) (fun _ hk => hk.2) (.int .i8 t181)) (fun _ hk => hk.2) (.slice Ao48 t182.length co48)) (fun _ hk => hk.2) (.slice Ao49 t185.length co49)) (fun _ h_ => h_.1))) hb); have n6_ := Aside0.mk (Kd.R_below (by (with_reducible repeat (first | apply Kd.R_alloc | apply Kd.R_drewN | apply Kd.R_drew)); exact (Kd.R_mono (Kd.R_far (p := ⟨gb188, 2, none⟩) (Kd.R_far (p := ⟨gb188, 1, none⟩) (Kd.R_far (p := ⟨gb188, 0, none⟩) (Kd.R_types HO184.out BK188.out (by decide)) (fun _ hk => hk.2) (.int .i8 t181)) (fun _ hk => hk.2) (.slice Ao48 t182.length co48)) (fun _ hk => hk.2) (.slice Ao49 t185.length co49)) (fun _ h_ => h_.1))) hb); have n7_ := Aside0.mk (Kd.R_below (by (with_reducible repeat (first | apply Kd.R_alloc | apply Kd.R_drewN | apply Kd.R_drew)); exact (Kd.R_mono (Kd.R_far (p := ⟨gb188, 2, none⟩) (Kd.R_far (p := ⟨gb188, 1, none⟩) (Kd.R_far (p := ⟨gb188, 0, none⟩) (Kd.R_types HO187.out BK188.out (by decide)) (fun _ hk => hk.2) (.int .i8 t181)) (fun _ hk => hk.2) (.slice Ao48 t182.length co48)) (fun _ hk => hk.2) (.slice Ao49 t185.length co49)) (fun _ h_ => h_.1))) hb); have n8_ := Aside0.mk (blk_below (g := gb154) (o := .cells #[.int .i8 a0_0, .slice A0_1 l0_1.length c0_1, .slice A0_2 l0_2.length c0_2] 26 (0, 0)) (by (with_reducible repeat (first | refine blk_drewN ?_ _ | refine blk_drew ?_ | refine blk_alloc ?_ _)); refine blk_far ?_ NB154_188.out _; (with_reducible repeat (first | refine blk_drewN ?_ _ | refine blk_drew ?_ | refine blk_alloc ?_ _)); refine blk_far ?_ NB154_188.out _; (with_reducible repeat (first | refine blk_drewN ?_ _ | refine blk_drew ?_ | refine blk_alloc ?_ _)); refine blk_far ?_ NB154_188.out _; (with_reducible repeat (first | refine blk_drewN ?_ _ | refine blk_drew ?_ | refine blk_alloc ?_ _)); exact BK154.out) hb); have n9_ := Aside0.mk (blk_below (g := gb155) (o := .cells #[.int .i8 a1_0, .slice A1_1 l1_1.length c1_1, .slice A1_2 l1_2.length c1_2] 26 (0, 0)) (by (with_reducible repeat (first | refine blk_drewN ?_ _ | refine blk_drew ?_ | refine blk_alloc ?_ _)); refine blk_far ?_ NB155_188.out _; (with_reducible repeat (first | refine blk_drewN ?_ _ | refine blk_drew ?_ | refine blk_alloc ?_ _)); refine blk_far ?_ NB155_188.out _; (with_reducible repeat (first | refine blk_drewN ?_ _ | refine blk_drew ?_ | refine blk_alloc ?_ _)); refine blk_far ?_ NB155_188.out _; (with_reducible repeat (first | refine blk_drewN ?_ _ | refine blk_drew ?_ | refine blk_alloc ?_ _)); exact BK155.out) hb); have n10_ := Aside0.mk (blk_below (g := gb180) (o := .cells #[.int .i8 t173, .slice Ao39 t174.length co39, .slice Ao40 t177.length co40] 31 (0, 0)) (by (with_reducible repeat (first | refine blk_drewN ?_ _ | refine blk_drew ?_ | refine blk_alloc ?_ _)); refine blk_far ?_ NB180_188.out _; (with_reducible repeat (first | refine blk_drewN ?_ _ | refine blk_drew ?_ | refine blk_alloc ?_ _)); refine blk_far ?_ NB180_188.out _; (with_reducible repeat (first | refine blk_drewN ?_ _ | refine blk_drew ?_ | refine blk_alloc ?_ _)); refine blk_far ?_ NB180_188.out _; (with_reducible repeat (first | refine blk_drewN ?_ _ | refine blk_drew ?_ | refine blk_alloc ?_ _)); exact BK180.out) hb); have n11_ := Aside0.mk (blk_below (g := gb188) (o := .cells #[.int .i8 t181, .slice Ao48 t182.length co48, .slice Ao49 t185.length co49] 31 (0, 0)) (by (with_reducible repeat (first | refine blk_drewN ?_ _ | refine blk_drew ?_ | refine blk_alloc ?_ _)); refine blk_put (cs := #[.int .i8 t181, .slice Ao48 t182.length co48, .slice none 0 0]) ?_ 2 _ rfl; (with_reducible repeat (first | refine blk_drewN ?_ _ | refine blk_drew ?_ | refine blk_alloc ?_ _)); refine blk_put (cs := #[.int .i8 t181, .slice none 0 0, .slice none 0 0]) ?_ 1 _ rfl; (with_reducible repeat (first | refine blk_drewN ?_ _ | refine blk_drew ?_ | refine blk_alloc ?_ _)); refine blk_put (cs := #[.int .i8 0, .slice none 0 0, .slice none 0 0]) ?_ 0 _ rfl; (with_reducible repeat (first | refine blk_drewN ?_ _ | refine blk_drew ?_ | refine blk_alloc ?_ _)); exact BK188.out) hb); have n12_ := Aside0.mk (below_step (by repeat (first | (with_reducible first | exact HB.out | apply below_alloc | apply pw_below_drewN | apply below_drew1 | refine below_set ?_ GE154.out | refine below_set ?_ GE155.out | refine below_set ?_ GE180.out | refine below_set ?_ GE188.out) | exact HB.out)) hb); clear HO161; clear HO164; clear HO168; clear HO171; clear HO176; clear HO179; clear HO184; clear HO187; clear BK154; clear BK155; clear BK180; clear BK188; clear HB; have HO161 := n0_; have HO164 := n1_; have HO168 := n2_; have HO171 := n3_; have HO176 := n4_; have HO179 := n5_; have HO184 := n6_; have HO187 := n7_; have BK154 := n8_; have BK155 := n9_; have BK180 := n10_; have BK188 := n11_; have HB := n12_; clear n0_ n1_ n2_ n3_ n4_ n5_ n6_ n7_ n8_ n9_ n10_ n11_ n12_; (try clear hb); (try clear hb2); (try clear hk); (try clear hi)))
          (try simp only [Act.put, List.setIfInBounds_toArray, List.set_cons_zero, List.set_cons_succ])
          go_cut [] (fun wc => ∃ (kq : Nat), Aside0 (laws_FnExactSameNetwork.j2 kq a0_0 l0_1 l0_2 a1_0 l1_1 l1_2 t173 t174 t177 t181 t182 t185 = some r) ∧ Aside0 (kq ≤ kj11) ∧ Aside0 (Kd.R k81 81 wc w.heap.size (fun k_ => some k_ ≠ ((.slice Ao48 t182.length co48) : Value).ownBlock) (.slice Ao39 t174.length co39) t174) ∧ Aside0 (Kd.R (Kd.int .i16) 79 wc w.heap.size (fun k_ => some k_ ≠ ((.slice Ao49 t185.length co49) : Value).ownBlock) (.slice Ao40 t177.length co40) t177) ∧ Aside0 (Kd.R k81 81 wc w.heap.size (fun k_ => some k_ ≠ ((.slice Ao39 t174.length co39) : Value).ownBlock) (.slice Ao48 t182.length co48) t182) ∧ Aside0 (Kd.R (Kd.int .i16) 79 wc w.heap.size (fun k_ => some k_ ≠ ((.slice Ao40 t177.length co40) : Value).ownBlock) (.slice Ao49 t185.length co49) t185) ∧ Aside0 (wc.heap[gb154]? = some (.cells #[.int .i8 a0_0, (.slice A0_1 l0_1.length c0_1), (.slice A0_2 l0_2.length c0_2)] 26 (0, 0))) ∧ Aside0 (wc.heap[gb155]? = some (.cells #[.int .i8 a1_0, (.slice A1_1 l1_1.length c1_1), (.slice A1_2 l1_2.length c1_2)] 26 (0, 0))) ∧ Aside0 (wc.heap[gb180]? = some (.cells #[.int .i8 t173, (.slice Ao39 t174.length co39), (.slice Ao40 t177.length co40)] 31 (0, 0))) ∧ Aside0 (wc.heap[gb188]? = some (.cells #[.int .i8 t181, (.slice Ao48 t182.length co48), (.slice Ao49 t185.length co49)] 31 (0, 0))) ∧ Aside0 (Below w.heap.size w wc))
          case first =>
            have H := HC23.out
            clear HC23
            by_cases c52 : (t189 != t172) = true
            · rw [if_pos c52] at H
              have c52b0 : (t189 != t172) = true := c52
              (try (have c52b1 : decide (t189 = t172) = false := by first | (simpa using c52) | (have h_ := c52; revert h_; cases t189 <;> cases t172 <;> decide)))
              (try (have c52b2 : (t189 == t172) = false := by first | (simpa using c52) | (have h_ := c52; revert h_; cases t189 <;> cases t172 <;> decide)))
              (try (have c52b3 : ¬ (t189 = t172) := by simpa using c52))
              clear c52
              (first | rw [c52b0] | (simp only [i64_w, i32_w]; rw [c52b0]) | (have h_ := c52b0; simp only [bne] at h_; rw [h_]) | skip)
              obtain rfl := Option.some.inj H
              go_wp2
              go_ret
              exact ⟨by first | rfl | (simp [errW_none, errW_some] <;> rfl) | (simp [*, errW_none, errW_some] <;> rfl), by repeat (first | (with_reducible first | exact HB.out | apply below_alloc | apply pw_below_drewN | apply below_drew1 | refine below_set ?_ GE154.out | refine below_set ?_ GE155.out | refine below_set ?_ GE180.out | refine below_set ?_ GE188.out) | exact HB.out)⟩
            · rw [if_neg c52] at H
              have c52b0 : (t189 != t172) = false := by simpa using c52
              (try (have c52b1 : decide (t189 = t172) = true := by first | (simpa using c52) | (have h_ := c52; revert h_; cases t189 <;> cases t172 <;> decide)))
              (try (have c52b2 : (t189 == t172) = true := by first | (simpa using c52) | (have h_ := c52; revert h_; cases t189 <;> cases t172 <;> decide)))
              clear c52
              (first | rw [c52b0] | (simp only [i64_w, i32_w]; rw [c52b0]) | (have h_ := c52b0; simp only [bne] at h_; rw [h_]) | skip)
              have H' := Aside0.mk H
              clear H
              go_wp2
              go_meet
              case rel => exact ⟨_, H', ⟨by have := HJ3.out; have := HJ11.out; first | omega | exact Nat.le_refl _⟩, ⟨by (with_reducible repeat (first | apply Kd.R_alloc | apply Kd.R_drewN | apply Kd.R_drew)); exact Kd.R_mono HO176.out (fun _ hk => hk.2)⟩, ⟨by (with_reducible repeat (first | apply Kd.R_alloc | apply Kd.R_drewN | apply Kd.R_drew)); exact Kd.R_mono HO179.out (fun _ hk => hk.2)⟩, ⟨by (with_reducible repeat (first | apply Kd.R_alloc | apply Kd.R_drewN | apply Kd.R_drew)); exact Kd.R_mono HO184.out (fun _ hk => hk.2)⟩, ⟨by (with_reducible repeat (first | apply Kd.R_alloc | apply Kd.R_drewN | apply Kd.R_drew)); exact Kd.R_mono HO187.out (fun _ hk => hk.2)⟩, ⟨by (with_reducible repeat (first | refine blk_drewN ?_ _ | refine blk_drew ?_ | refine blk_alloc ?_ _)); exact BK154.out⟩, ⟨by (with_reducible repeat (first | refine blk_drewN ?_ _ | refine blk_drew ?_ | refine blk_alloc ?_ _)); exact BK155.out⟩, ⟨by (with_reducible repeat (first | refine blk_drewN ?_ _ | refine blk_drew ?_ | refine blk_alloc ?_ _)); exact BK180.out⟩, ⟨by (with_reducible repeat (first | refine blk_drewN ?_ _ | refine blk_drew ?_ | refine blk_alloc ?_ _)); exact BK188.out⟩, ⟨by repeat (first | (with_reducible first | exact HB.out | apply below_alloc | apply pw_below_drewN | apply below_drew1 | refine below_set ?_ GE154.out | refine below_set ?_ GE155.out | refine below_set ?_ GE180.out | refine below_set ?_ GE188.out) | exact HB.out)⟩⟩
          case rest =>
            clear HC23
            try clear c1
            try clear c2
            try clear p2
            try clear c3
            try clear c4
            try clear c5
            try clear c7
            try clear c10
            try clear c10b0
            try clear c13
            try clear c16
            try clear c16b0
            try clear c21
            try clear c22
            try clear c23
            try clear c24
            try clear c32
            try clear c36
            try clear c37
            try clear c44
            try clear c45
            try clear c46
            try clear c52
            try clear c52b0
            try clear c52b1
            try clear c52b2
            try clear hcz14_0
            try clear hcz14_1
            try clear hcz14_2
            try clear hcz33_0
            try clear hcz33_1
            try clear hcz33_2
            try clear hcz38_0
            try clear hcz38_1
            try clear hcz38_2
            try clear hcz41_0
            try clear hcz41_1
            try clear hcz41_2
            try clear hcz47_0
            try clear hcz47_1
            try clear hcz47_2
            try clear hcz50_0
            try clear hcz50_1
            try clear hcz50_2
            try clear hcz8_0
            try clear hcz8_1
            try clear hcz8_2
            try clear hfz14_0
            try clear hfz14_1
            try clear hfz14_2
            try clear hfz33_0
            try clear hfz33_1
            try clear hfz33_2
            try clear hfz38_0
            try clear hfz38_1
            try clear hfz38_2
            try clear hfz41_0
            try clear hfz41_1
            try clear hfz41_2
            try clear hfz47_0
            try clear hfz47_1
            try clear hfz47_2
            try clear hfz50_0
            try clear hfz50_1
            try clear hfz50_2
            try clear hfz8_0
            try clear hfz8_1
            try clear hfz8_2
            try clear p2
            obtain ⟨kq, HA, HJ22, HO_181001, HO_181002, HO_189001, HO_189002, BK154, BK155, BK180, BK188, HB⟩ := hcut
            cases kq with
            | zero => exact absurd HA.out (by simp [laws_FnExactSameNetwork.j2])
            | succ kj22 =>
              have H := HA.out
              clear HA
              simp only [laws_FnExactSameNetwork.j2] at H
              replace H := Option.bind_eq_some_iff.mp H
              obtain ⟨⟨t190, t191, t194⟩, A530, H⟩ := H
              replace H : ((laws_eqNetwork.f kj22 t173 t174 t177 t190 t191 t194).bind fun t197 => (if t197 = true then (laws_FnExactSameNetwork.j3 kj22 a1_0 l1_1 l1_2 t181 t182 t185) else (some false))) = some r := H
              have A53 := Aside0.mk A530
              clear A530
              replace H := Option.bind_eq_some_iff.mp H
              obtain ⟨t197, A540, H⟩ := H
              replace H : (if t197 = true then (laws_FnExactSameNetwork.j3 kj22 a1_0 l1_1 l1_2 t181 t182 t185) else (some false)) = some r := H
              have A54 := Aside0.mk A540
              clear A540
              have HC55 := Aside0.mk H
              clear H
              try go_wp2
              have n0_ := Aside0.mk (Kd.R_drew HO_181001.out)
              have n1_ := Aside0.mk (Kd.R_drew HO_181002.out)
              have n2_ := Aside0.mk (Kd.R_drew HO_189001.out)
              have n3_ := Aside0.mk (Kd.R_drew HO_189002.out)
              have n4_ := Aside0.mk (blk_drew BK154.out)
              have n5_ := Aside0.mk (blk_drew BK155.out)
              have n6_ := Aside0.mk (blk_drew BK180.out)
              have n7_ := Aside0.mk (blk_drew BK188.out)
              have n8_ := Aside0.mk (below_drew1 HB.out)
              clear HO_181001
              clear HO_181002
              clear HO_189001
              clear HO_189002
              clear BK154
              clear BK155
              clear BK180
              clear BK188
              clear HB
              have HO_181001 := n0_
              have HO_181002 := n1_
              have HO_189001 := n2_
              have HO_189002 := n3_
              have BK154 := n4_
              have BK155 := n5_
              have BK180 := n6_
              have BK188 := n7_
              have HB := n8_
              clear n0_ n1_ n2_ n3_ n4_ n5_ n6_ n7_ n8_
              refine start_ (n := 5) (S := fun w' => w'.cell? ⟨gb180, 0, none⟩ = some (.int .i8 t173) ∧ w'.cell? ⟨gb180, 1, none⟩ = some (.slice Ao39 t174.length co39) ∧ w'.cell? ⟨gb180, 2, none⟩ = some (.slice Ao40 t177.length co40) ∧ w'.cell? ⟨gb154, 0, none⟩ = some (.int .i8 a0_0) ∧ w'.cell? ⟨gb154, 1, none⟩ = some (.slice A0_1 l0_1.length c0_1) ∧ w'.cell? ⟨gb154, 2, none⟩ = some (.slice A0_2 l0_2.length c0_2)) (ds := []) #[false, false, false, false, false] (by kernel_rfl) rfl rfl ⟨(blk_cell BK180.out 0).trans rfl, (blk_cell BK180.out 1).trans rfl, (blk_cell BK180.out 2).trans rfl, (blk_cell BK154.out 0).trans rfl, (blk_cell BK154.out 1).trans rfl, (blk_cell BK154.out 2).trans rfl⟩ (fun hHeld => ?_)
              generalize wc.drew = w56 at HO_181001 HO_181002 HO_189001 HO_189002 BK154 BK155 BK180 BK188 HB hHeld ⊢
              refine take_ (i := 0) (N := some 35) (v := ?_) (a' := ?_) #[true, false, false, false, false] rfl rfl (by kernel_rfl) (fun _ _ _ h => h) (Or.inl ⟨by rfl, ?_⟩) hHeld ?_ ?_
              rotate_left
              · rintro w' ⟨s0, s1, s2, s3, s4, s5⟩
                go_simp
                with_reducible rfl
              rotate_left
              · simp only [Act.put, List.setIfInBounds_toArray, List.set_cons_zero, List.set_cons_succ, i64_w, i32_w]
                rfl
              refine take_ (i := 1) (N := some 36) (v := ?_) (a' := ?_) #[true, true, false, false, false] rfl rfl (by kernel_rfl) (fun _ _ _ h => h) (Or.inl ⟨by rfl, ?_⟩) hHeld ?_ ?_
              rotate_left
              · rintro w' ⟨s0, s1, s2, s3, s4, s5⟩
                go_simp
                with_reducible rfl
              rotate_left
              · simp only [Act.put, List.setIfInBounds_toArray, List.set_cons_zero, List.set_cons_succ, i64_w, i32_w]
                rfl
              refine one_ (i := 2) (N := some 37) #[true, true, true, false, false] rfl rfl (by kernel_rfl) (by decide) (fun K hK => ?_)
              refine goes_ Try.func23 (by kernel_rfl) rfl #[.agg #[.int .i8 a0_0, .slice A0_1 l0_1.length c0_1, .slice A0_2 l0_2.length c0_2]] (by rfl) rfl rfl (by (try simp only [List.map_toArray, List.map_cons, List.map_nil]); first | done | rfl | (simp only [List.length_drop, List.length_take]; rfl)) ?_
              with_reducible refine (laws_toNetwork.calls kj22 a0_0 _ _ l0_1 _ _ l0_2 t190 t191 t194 _ ?side1 ?side2 ?side3 ?side4 A53.out).mono ?_
              (case side1 => repeat (first | exact (Kd.C_below HR0_1.out HB.out) | (with_reducible refine Kd.C_alloc ?_ _) | (with_reducible refine Kd.C_drewN ?_ _) | (with_reducible refine Kd.C_drew ?_)))
              (case side2 => exact HC0_1.out)
              (case side3 => repeat (first | exact (Kd.C_below HR0_2.out HB.out) | (with_reducible refine Kd.C_alloc ?_ _) | (with_reducible refine Kd.C_drewN ?_ _) | (with_reducible refine Kd.C_drew ?_)))
              (case side4 => exact HC0_2.out)
              rintro e w57 ⟨v192, v195, rfl, ho0, ho1, hb⟩
              refine ⟨_, rfl, ?_⟩
              have n0_ := Aside0.mk (Kd.R_elder' (by (with_reducible repeat (first | apply Kd.R_alloc | apply Kd.R_drewN | apply Kd.R_drew)); exact HO_181001.out) (Kd.R_base ho0) hb)
              have n1_ := Aside0.mk (Kd.R_elder' (by (with_reducible repeat (first | apply Kd.R_alloc | apply Kd.R_drewN | apply Kd.R_drew)); exact HO_181002.out) (Kd.R_base ho1) hb)
              have n2_ := Aside0.mk (Kd.R_elder' (by (with_reducible repeat (first | apply Kd.R_alloc | apply Kd.R_drewN | apply Kd.R_drew)); exact HO_189001.out) (Kd.R_base ho0) hb)
              have n3_ := Aside0.mk (Kd.R_elder' (by (with_reducible repeat (first | apply Kd.R_alloc | apply Kd.R_drewN | apply Kd.R_drew)); exact HO_189002.out) (Kd.R_base ho1) hb)
              have n4_ := Aside0.mk (Kd.R_lower (Kd.R_new' (Kd.R_new' ho0 (Kd.R_lt (by (with_reducible repeat (first | apply Kd.R_alloc | apply Kd.R_drewN | apply Kd.R_drew)); exact HO_181001.out))) (Kd.R_lt (by (with_reducible repeat (first | apply Kd.R_alloc | apply Kd.R_drewN | apply Kd.R_drew)); exact HO_189001.out))) (below_size (by repeat (first | (with_reducible first | exact HB.out | apply below_alloc | apply pw_below_drewN | apply below_drew1 | refine below_set ?_ GE154.out | refine below_set ?_ GE155.out | refine below_set ?_ GE180.out | refine below_set ?_ GE188.out) | exact HB.out))))
              have n5_ := Aside0.mk (Kd.R_lower (Kd.R_new' (Kd.R_new' ho1 (Kd.R_lt (by (with_reducible repeat (first | apply Kd.R_alloc | apply Kd.R_drewN | apply Kd.R_drew)); exact HO_181002.out))) (Kd.R_lt (by (with_reducible repeat (first | apply Kd.R_alloc | apply Kd.R_drewN | apply Kd.R_drew)); exact HO_189002.out))) (below_size (by repeat (first | (with_reducible first | exact HB.out | apply below_alloc | apply pw_below_drewN | apply below_drew1 | refine below_set ?_ GE154.out | refine below_set ?_ GE155.out | refine below_set ?_ GE180.out | refine below_set ?_ GE188.out) | exact HB.out))))
              have n6_ := Aside0.mk (blk_below (g := gb154) (o := .cells #[.int .i8 a0_0, .slice A0_1 l0_1.length c0_1, .slice A0_2 l0_2.length c0_2] 26 (0, 0)) (by (with_reducible repeat (first | refine blk_drewN ?_ _ | refine blk_drew ?_ | refine blk_alloc ?_ _)); exact BK154.out) hb)
              have n7_ := Aside0.mk (blk_below (g := gb155) (o := .cells #[.int .i8 a1_0, .slice A1_1 l1_1.length c1_1, .slice A1_2 l1_2.length c1_2] 26 (0, 0)) (by (with_reducible repeat (first | refine blk_drewN ?_ _ | refine blk_drew ?_ | refine blk_alloc ?_ _)); exact BK155.out) hb)
              have n8_ := Aside0.mk (blk_below (g := gb180) (o := .cells #[.int .i8 t173, .slice Ao39 t174.length co39, .slice Ao40 t177.length co40] 31 (0, 0)) (by (with_reducible repeat (first | refine blk_drewN ?_ _ | refine blk_drew ?_ | refine blk_alloc ?_ _)); exact BK180.out) hb)
              have n9_ := Aside0.mk (blk_below (g := gb188) (o := .cells #[.int .i8 t181, .slice Ao48 t182.length co48, .slice Ao49 t185.length co49] 31 (0, 0)) (by (with_reducible repeat (first | refine blk_drewN ?_ _ | refine blk_drew ?_ | refine blk_alloc ?_ _)); exact BK188.out) hb)
              have n10_ := Aside0.mk (below_step (by repeat (first | (with_reducible first | exact HB.out | apply below_alloc | apply pw_below_drewN | apply below_drew1 | refine below_set ?_ GE154.out | refine below_set ?_ GE155.out | refine below_set ?_ GE180.out | refine below_set ?_ GE188.out) | exact HB.out)) hb)
              clear HO_181001
              clear HO_181002
              clear HO_189001
              clear HO_189002
              clear BK154
              clear BK155
              clear BK180
              clear BK188
              clear HB
              have HO_181001 := n0_
              have HO_181002 := n1_
              have HO_189001 := n2_
              have HO_189002 := n3_
              have HO193 := n4_
              have HO196 := n5_
              have BK154 := n6_
              have BK155 := n7_
              have BK180 := n8_
              have BK188 := n9_
              have HB := n10_
              clear n0_ n1_ n2_ n3_ n4_ n5_ n6_ n7_ n8_ n9_ n10_
              (try clear hb)
              (try clear hb2)
              (try clear hk)
              (try clear hi)
              (try clear ho0)
              (try clear ho1)
              obtain ⟨Ao58, co58, eo58⟩ := Kd.R_slice HO193.out
              (first | subst eo58 | (injection eo58 with f1_ f2_ f3_; have f4_ := f1_.symm; have f5_ := f3_.symm; clear f1_ f2_ f3_; subst f4_; subst f5_))
              obtain ⟨Ao59, co59, eo59⟩ := Kd.R_slice HO196.out
              (first | subst eo59 | (injection eo59 with f1_ f2_ f3_; have f4_ := f1_.symm; have f5_ := f3_.symm; clear f1_ f2_ f3_; subst f4_; subst f5_))
              refine hK.out _ _ ⟨(blk_cell BK180.out 0).trans rfl, (blk_cell BK180.out 1).trans rfl, (blk_cell BK180.out 2).trans rfl, (blk_cell BK154.out 0).trans rfl, (blk_cell BK154.out 1).trans rfl, (blk_cell BK154.out 2).trans rfl⟩ (fun hHeld => ?_)
              clear hK K
              refine norm_ (a' := ?_) ?_ ?_
              rotate_left
              · show Act.put _ (some 37) _ = _
                simp only [Act.put, List.setIfInBounds_toArray, List.set_cons_zero, List.set_cons_succ, i64_w, i32_w]
                rfl
              refine one_ (i := 3) (N := some 38) #[true, true, true, true, false] rfl rfl (by kernel_rfl) (by decide) (fun K hK => ?_)
              refine goes_ Try.func25 (by kernel_rfl) rfl #[.agg #[.int .i8 t173, .slice Ao39 t174.length co39, .slice Ao40 t177.length co40], .agg #[.int .i8 t190, .slice Ao58 t191.length co58, .slice Ao59 t194.length co59]] (by rfl) rfl rfl (by (try simp only [List.map_toArray, List.map_cons, List.map_nil]); first | done | rfl | (simp only [List.length_drop, List.length_take]; rfl)) ?_
              with_reducible refine (laws_eqNetwork.calls kj22 t173 _ _ t174 _ _ t177 t190 _ _ t191 _ _ t194 t197 _ ?side1 ?side2 ?side3 ?side4 ?side5 ?side6 ?side7 ?side8 A54.out).mono ?_
              (case side1 => repeat (first | exact (Kd.R_reads' HO_181001.out).2.2 | (with_reducible refine Kd.C_alloc ?_ _) | (with_reducible refine Kd.C_drewN ?_ _) | (with_reducible refine Kd.C_drew ?_)))
              (case side2 => exact (Kd.R_reads' HO_181001.out).2.1)
              (case side3 => repeat (first | exact (Kd.R_reads' HO_181002.out).2.2 | (with_reducible refine Kd.C_alloc ?_ _) | (with_reducible refine Kd.C_drewN ?_ _) | (with_reducible refine Kd.C_drew ?_)))
              (case side4 => exact (Kd.R_reads' HO_181002.out).2.1)
              (case side5 => repeat (first | exact (Kd.R_reads' HO193.out).2.2 | (with_reducible refine Kd.C_alloc ?_ _) | (with_reducible refine Kd.C_drewN ?_ _) | (with_reducible refine Kd.C_drew ?_)))
              (case side6 => exact (Kd.R_reads' HO193.out).2.1)
              (case side7 => repeat (first | exact (Kd.R_reads' HO196.out).2.2 | (with_reducible refine Kd.C_alloc ?_ _) | (with_reducible refine Kd.C_drewN ?_ _) | (with_reducible refine Kd.C_drew ?_)))
              (case side8 => exact (Kd.R_reads' HO196.out).2.1)
              rintro e w60 ⟨rfl, hb⟩
              refine ⟨_, rfl, ?_⟩
              have n0_ := Aside0.mk (Kd.R_below (by (with_reducible repeat (first | apply Kd.R_alloc | apply Kd.R_drewN | apply Kd.R_drew)); exact HO_181001.out) hb)
              have n1_ := Aside0.mk (Kd.R_below (by (with_reducible repeat (first | apply Kd.R_alloc | apply Kd.R_drewN | apply Kd.R_drew)); exact HO_181002.out) hb)
              have n2_ := Aside0.mk (Kd.R_below (by (with_reducible repeat (first | apply Kd.R_alloc | apply Kd.R_drewN | apply Kd.R_drew)); exact HO_189001.out) hb)
              have n3_ := Aside0.mk (Kd.R_below (by (with_reducible repeat (first | apply Kd.R_alloc | apply Kd.R_drewN | apply Kd.R_drew)); exact HO_189002.out) hb)
              have n4_ := Aside0.mk (Kd.R_below (by (with_reducible repeat (first | apply Kd.R_alloc | apply Kd.R_drewN | apply Kd.R_drew)); exact HO193.out) hb)
              have n5_ := Aside0.mk (Kd.R_below (by (with_reducible repeat (first | apply Kd.R_alloc | apply Kd.R_drewN | apply Kd.R_drew)); exact HO196.out) hb)
              have n6_ := Aside0.mk (blk_below (g := gb154) (o := .cells #[.int .i8 a0_0, .slice A0_1 l0_1.length c0_1, .slice A0_2 l0_2.length c0_2] 26 (0, 0)) (by (with_reducible repeat (first | refine blk_drewN ?_ _ | refine blk_drew ?_ | refine blk_alloc ?_ _)); exact BK154.out) hb)
              have n7_ := Aside0.mk (blk_below (g := gb155) (o := .cells #[.int .i8 a1_0, .slice A1_1 l1_1.length c1_1, .slice A1_2 l1_2.length c1_2] 26 (0, 0)) (by (with_reducible repeat (first | refine blk_drewN ?_ _ | refine blk_drew ?_ | refine blk_alloc ?_ _)); exact BK155.out) hb)
              have n8_ := Aside0.mk (blk_below (g := gb180) (o := .cells #[.int .i8 t173, .slice Ao39 t174.length co39, .slice Ao40 t177.length co40] 31 (0, 0)) (by (with_reducible repeat (first | refine blk_drewN ?_ _ | refine blk_drew ?_ | refine blk_alloc ?_ _)); exact BK180.out) hb)
              have n9_ := Aside0.mk (blk_below (g := gb188) (o := .cells #[.int .i8 t181, .slice Ao48 t182.length co48, .slice Ao49 t185.length co49] 31 (0, 0)) (by (with_reducible repeat (first | refine blk_drewN ?_ _ | refine blk_drew ?_ | refine blk_alloc ?_ _)); exact BK188.out) hb)
              have n10_ := Aside0.mk (below_step (by repeat (first | (with_reducible first | exact HB.out | apply below_alloc | apply pw_below_drewN | apply below_drew1 | refine below_set ?_ GE154.out | refine below_set ?_ GE155.out | refine below_set ?_ GE180.out | refine below_set ?_ GE188.out) | exact HB.out)) hb)
              clear HO_181001
              clear HO_181002
              clear HO_189001
              clear HO_189002
              clear HO193
              clear HO196
              clear BK154
              clear BK155
              clear BK180
              clear BK188
              clear HB
              have HO_181001 := n0_
              have HO_181002 := n1_
              have HO_189001 := n2_
              have HO_189002 := n3_
              have HO193 := n4_
              have HO196 := n5_
              have BK154 := n6_
              have BK155 := n7_
              have BK180 := n8_
              have BK188 := n9_
              have HB := n10_
              clear n0_ n1_ n2_ n3_ n4_ n5_ n6_ n7_ n8_ n9_ n10_
              (try clear hb)
              (try clear hb2)
              (try clear hk)
              (try clear hi)
              refine hK.out _ _ ⟨(blk_cell BK180.out 0).trans rfl, (blk_cell BK180.out 1).trans rfl, (blk_cell BK180.out 2).trans rfl, (blk_cell BK154.out 0).trans rfl, (blk_cell BK154.out 1).trans rfl, (blk_cell BK154.out 2).trans rfl⟩ (fun hHeld => ?_)
              clear hK K
              refine norm_ (a' := ?_) ?_ ?_
              rotate_left
              · show Act.put _ (some 38) _ = _
                simp only [Act.put, List.setIfInBounds_toArray, List.set_cons_zero, List.set_cons_succ, i64_w, i32_w]
                rfl
              refine pure_ (i := 4) (N := some 39) (v := ?_) (a' := ?_) #[true, true, true, true, true] rfl rfl (by kernel_rfl) (fun _ _ _ h => h) (Or.inl ⟨by rfl, ?_⟩) ?_ ?_
              rotate_left
              · intro w'
                go_simp
                with_reducible rfl
              rotate_left
              · simp only [Act.put, List.setIfInBounds_toArray, List.set_cons_zero, List.set_cons_succ, i64_w, i32_w]
                rfl
              refine done_ (by kernel_rfl) ?_
              go_upto_if 39 with (fail)
              go_cut [] (fun wc => ∃ (kq : Nat), Aside0 (laws_FnExactSameNetwork.j3 kq a1_0 l1_1 l1_2 t181 t182 t185 = some r) ∧ Aside0 (kq ≤ kj22) ∧ Aside0 (Kd.R k81 81 wc w.heap.size (fun k_ => some k_ ≠ ((.slice Ao48 t182.length co48) : Value).ownBlock) (.slice Ao39 t174.length co39) t174) ∧ Aside0 (Kd.R (Kd.int .i16) 79 wc w.heap.size (fun k_ => some k_ ≠ ((.slice Ao49 t185.length co49) : Value).ownBlock) (.slice Ao40 t177.length co40) t177) ∧ Aside0 (Kd.R k81 81 wc w.heap.size (fun k_ => some k_ ≠ ((.slice Ao39 t174.length co39) : Value).ownBlock) (.slice Ao48 t182.length co48) t182) ∧ Aside0 (Kd.R (Kd.int .i16) 79 wc w.heap.size (fun k_ => some k_ ≠ ((.slice Ao40 t177.length co40) : Value).ownBlock) (.slice Ao49 t185.length co49) t185) ∧ Aside0 (wc.heap[gb154]? = some (.cells #[.int .i8 a0_0, (.slice A0_1 l0_1.length c0_1), (.slice A0_2 l0_2.length c0_2)] 26 (0, 0))) ∧ Aside0 (wc.heap[gb155]? = some (.cells #[.int .i8 a1_0, (.slice A1_1 l1_1.length c1_1), (.slice A1_2 l1_2.length c1_2)] 26 (0, 0))) ∧ Aside0 (wc.heap[gb180]? = some (.cells #[.int .i8 t173, (.slice Ao39 t174.length co39), (.slice Ao40 t177.length co40)] 31 (0, 0))) ∧ Aside0 (wc.heap[gb188]? = some (.cells #[.int .i8 t181, (.slice Ao48 t182.length co48), (.slice Ao49 t185.length co49)] 31 (0, 0))) ∧ Aside0 (Below w.heap.size w wc))
              case first =>
                have H := HC55.out
                clear HC55
                by_cases c61 : t197 = true
                · subst c61
                  have H1 : (laws_FnExactSameNetwork.j3 kj22 a1_0 l1_1 l1_2 t181 t182 t185) = some r := by rw [if_pos rfl] at H; exact H
                  clear H
                  have H := H1
                  clear H1
                  have H' := Aside0.mk H
                  clear H
                  go_wp2
                  go_meet
                  case rel => exact ⟨_, H', ⟨by have := HJ3.out; have := HJ11.out; have := HJ22.out; first | omega | exact Nat.le_refl _⟩, ⟨by (with_reducible repeat (first | apply Kd.R_alloc | apply Kd.R_drewN | apply Kd.R_drew)); exact Kd.R_mono HO_181001.out (fun _ hk => hk.1)⟩, ⟨by (with_reducible repeat (first | apply Kd.R_alloc | apply Kd.R_drewN | apply Kd.R_drew)); exact Kd.R_mono HO_181002.out (fun _ hk => hk.1)⟩, ⟨by (with_reducible repeat (first | apply Kd.R_alloc | apply Kd.R_drewN | apply Kd.R_drew)); exact Kd.R_mono HO_189001.out (fun _ hk => hk.1)⟩, ⟨by (with_reducible repeat (first | apply Kd.R_alloc | apply Kd.R_drewN | apply Kd.R_drew)); exact Kd.R_mono HO_189002.out (fun _ hk => hk.1)⟩, ⟨by (with_reducible repeat (first | refine blk_drewN ?_ _ | refine blk_drew ?_ | refine blk_alloc ?_ _)); exact BK154.out⟩, ⟨by (with_reducible repeat (first | refine blk_drewN ?_ _ | refine blk_drew ?_ | refine blk_alloc ?_ _)); exact BK155.out⟩, ⟨by (with_reducible repeat (first | refine blk_drewN ?_ _ | refine blk_drew ?_ | refine blk_alloc ?_ _)); exact BK180.out⟩, ⟨by (with_reducible repeat (first | refine blk_drewN ?_ _ | refine blk_drew ?_ | refine blk_alloc ?_ _)); exact BK188.out⟩, ⟨by repeat (first | (with_reducible first | exact HB.out | apply below_alloc | apply pw_below_drewN | apply below_drew1 | refine below_set ?_ GE154.out | refine below_set ?_ GE155.out | refine below_set ?_ GE180.out | refine below_set ?_ GE188.out) | exact HB.out)⟩⟩
                · replace c61 := Bool.eq_false_iff.mpr c61
                  subst c61
                  have H1 : (some false) = some r := by rw [if_neg (show ¬ (false = true) by decide)] at H; exact H
                  clear H
                  have H := H1
                  clear H1
                  obtain rfl := Option.some.inj H
                  go_wp2
                  go_ret
                  exact ⟨by first | rfl | (simp [errW_none, errW_some] <;> rfl) | (simp [*, errW_none, errW_some] <;> rfl), by repeat (first | (with_reducible first | exact HB.out | apply below_alloc | apply pw_below_drewN | apply below_drew1 | refine below_set ?_ GE154.out | refine below_set ?_ GE155.out | refine below_set ?_ GE180.out | refine below_set ?_ GE188.out) | exact HB.out)⟩
              case rest =>
                clear HC55
                try clear c1
                try clear c2
                try clear p2
                try clear c3
                try clear c4
                try clear c5
                try clear c6
                try clear c7
                try clear c10
                try clear c10b0
                try clear c13
                try clear c16
                try clear c16b0
                try clear c21
                try clear c22
                try clear c23
                try clear c24
                try clear c25
                try clear c32
                try clear c36
                try clear c37
                try clear c44
                try clear c45
                try clear c46
                try clear c52
                try clear c52b0
                try clear c52b1
                try clear c52b2
                try clear c61
                try clear hcz14_0
                try clear hcz14_1
                try clear hcz14_2
                try clear hcz33_0
                try clear hcz33_1
                try clear hcz33_2
                try clear hcz38_0
                try clear hcz38_1
                try clear hcz38_2
                try clear hcz41_0
                try clear hcz41_1
                try clear hcz41_2
                try clear hcz47_0
                try clear hcz47_1
                try clear hcz47_2
                try clear hcz50_0
                try clear hcz50_1
                try clear hcz50_2
                try clear hcz8_0
                try clear hcz8_1
                try clear hcz8_2
                try clear hfz14_0
                try clear hfz14_1
                try clear hfz14_2
                try clear hfz33_0
                try clear hfz33_1
                try clear hfz33_2
                try clear hfz38_0
                try clear hfz38_1
                try clear hfz38_2
                try clear hfz41_0
                try clear hfz41_1
                try clear hfz41_2
                try clear hfz47_0
                try clear hfz47_1
                try clear hfz47_2
                try clear hfz50_0
                try clear hfz50_1
                try clear hfz50_2
                try clear hfz8_0
                try clear hfz8_1
                try clear hfz8_2
                try clear p2
                obtain ⟨kq, HA, HJ54, HO_181001, HO_181002, HO_189001, HO_189002, BK154, BK155, BK180, BK188, HB⟩ := hcut
                cases kq with
                | zero => exact absurd HA.out (by simp [laws_FnExactSameNetwork.j3])
                | succ kj54 =>
                  have H := HA.out
                  clear HA
                  simp only [laws_FnExactSameNetwork.j3] at H
                  replace H := Option.bind_eq_some_iff.mp H
                  obtain ⟨⟨t198, t199, t202⟩, A620, H⟩ := H
                  replace H : ((laws_eqNetwork.f kj54 t181 t182 t185 t198 t199 t202).bind fun t205 => (if t205 = true then (some true) else (some false))) = some r := H
                  have A62 := Aside0.mk A620
                  clear A620
                  replace H := Option.bind_eq_some_iff.mp H
                  obtain ⟨t205, A630, H⟩ := H
                  replace H : (if t205 = true then (some true) else (some false)) = some r := H
                  have A63 := Aside0.mk A630
                  clear A630
                  by_cases c64 : t205 = true
                  · subst c64
                    have H1 : (some true) = some r := by rw [if_pos rfl] at H; exact H
                    clear H
                    have H := H1
                    clear H1
                    obtain rfl := Option.some.inj H
                    try go_wp2
                    have n0_ := Aside0.mk (Kd.R_drew HO_181001.out)
                    have n1_ := Aside0.mk (Kd.R_drew HO_181002.out)
                    have n2_ := Aside0.mk (Kd.R_drew HO_189001.out)
                    have n3_ := Aside0.mk (Kd.R_drew HO_189002.out)
                    have n4_ := Aside0.mk (blk_drew BK154.out)
                    have n5_ := Aside0.mk (blk_drew BK155.out)
                    have n6_ := Aside0.mk (blk_drew BK180.out)
                    have n7_ := Aside0.mk (blk_drew BK188.out)
                    have n8_ := Aside0.mk (below_drew1 HB.out)
                    clear HO_181001
                    clear HO_181002
                    clear HO_189001
                    clear HO_189002
                    clear BK154
                    clear BK155
                    clear BK180
                    clear BK188
                    clear HB
                    have HO_181001 := n0_
                    have HO_181002 := n1_
                    have HO_189001 := n2_
                    have HO_189002 := n3_
                    have BK154 := n4_
                    have BK155 := n5_
                    have BK180 := n6_
                    have BK188 := n7_
                    have HB := n8_
                    clear n0_ n1_ n2_ n3_ n4_ n5_ n6_ n7_ n8_
                    refine start_ (n := 5) (S := fun w' => w'.cell? ⟨gb188, 0, none⟩ = some (.int .i8 t181) ∧ w'.cell? ⟨gb188, 1, none⟩ = some (.slice Ao48 t182.length co48) ∧ w'.cell? ⟨gb188, 2, none⟩ = some (.slice Ao49 t185.length co49) ∧ w'.cell? ⟨gb155, 0, none⟩ = some (.int .i8 a1_0) ∧ w'.cell? ⟨gb155, 1, none⟩ = some (.slice A1_1 l1_1.length c1_1) ∧ w'.cell? ⟨gb155, 2, none⟩ = some (.slice A1_2 l1_2.length c1_2)) (ds := []) #[false, false, false, false, false] (by kernel_rfl) rfl rfl ⟨(blk_cell BK188.out 0).trans rfl, (blk_cell BK188.out 1).trans rfl, (blk_cell BK188.out 2).trans rfl, (blk_cell BK155.out 0).trans rfl, (blk_cell BK155.out 1).trans rfl, (blk_cell BK155.out 2).trans rfl⟩ (fun hHeld => ?_)
                    generalize wc.drew = w65 at HO_181001 HO_181002 HO_189001 HO_189002 BK154 BK155 BK180 BK188 HB hHeld ⊢
                    refine take_ (i := 0) (N := some 40) (v := ?_) (a' := ?_) #[true, false, false, false, false] rfl rfl (by kernel_rfl) (fun _ _ _ h => h) (Or.inl ⟨by rfl, ?_⟩) hHeld ?_ ?_
                    rotate_left
                    · rintro w' ⟨s0, s1, s2, s3, s4, s5⟩
                      go_simp
                      with_reducible rfl
                    rotate_left
                    · simp only [Act.put, List.setIfInBounds_toArray, List.set_cons_zero, List.set_cons_succ, i64_w, i32_w]
                      rfl
                    refine take_ (i := 1) (N := some 41) (v := ?_) (a' := ?_) #[true, true, false, false, false] rfl rfl (by kernel_rfl) (fun _ _ _ h => h) (Or.inl ⟨by rfl, ?_⟩) hHeld ?_ ?_
                    rotate_left
                    · rintro w' ⟨s0, s1, s2, s3, s4, s5⟩
                      go_simp
                      with_reducible rfl
                    rotate_left
                    · simp only [Act.put, List.setIfInBounds_toArray, List.set_cons_zero, List.set_cons_succ, i64_w, i32_w]
                      rfl
                    refine one_ (i := 2) (N := some 42) #[true, true, true, false, false] rfl rfl (by kernel_rfl) (by decide) (fun K hK => ?_)
                    refine goes_ Try.func23 (by kernel_rfl) rfl #[.agg #[.int .i8 a1_0, .slice A1_1 l1_1.length c1_1, .slice A1_2 l1_2.length c1_2]] (by rfl) rfl rfl (by (try simp only [List.map_toArray, List.map_cons, List.map_nil]); first | done | rfl | (simp only [List.length_drop, List.length_take]; rfl)) ?_
                    with_reducible refine (laws_toNetwork.calls kj54 a1_0 _ _ l1_1 _ _ l1_2 t198 t199 t202 _ ?side1 ?side2 ?side3 ?side4 A62.out).mono ?_
                    (case side1 => repeat (first | exact (Kd.C_below HR1_1.out HB.out) | (with_reducible refine Kd.C_alloc ?_ _) | (with_reducible refine Kd.C_drewN ?_ _) | (with_reducible refine Kd.C_drew ?_)))
                    (case side2 => exact HC1_1.out)
                    (case side3 => repeat (first | exact (Kd.C_below HR1_2.out HB.out) | (with_reducible refine Kd.C_alloc ?_ _) | (with_reducible refine Kd.C_drewN ?_ _) | (with_reducible refine Kd.C_drew ?_)))
                    (case side4 => exact HC1_2.out)
                    rintro e w66 ⟨v200, v203, rfl, ho0, ho1, hb⟩
                    refine ⟨_, rfl, ?_⟩
                    have n0_ := Aside0.mk (Kd.R_elder' (by (with_reducible repeat (first | apply Kd.R_alloc | apply Kd.R_drewN | apply Kd.R_drew)); exact HO_181001.out) (Kd.R_base ho0) hb)
                    have n1_ := Aside0.mk (Kd.R_elder' (by (with_reducible repeat (first | apply Kd.R_alloc | apply Kd.R_drewN | apply Kd.R_drew)); exact HO_181002.out) (Kd.R_base ho1) hb)
                    have n2_ := Aside0.mk (Kd.R_elder' (by (with_reducible repeat (first | apply Kd.R_alloc | apply Kd.R_drewN | apply Kd.R_drew)); exact HO_189001.out) (Kd.R_base ho0) hb)
                    have n3_ := Aside0.mk (Kd.R_elder' (by (with_reducible repeat (first | apply Kd.R_alloc | apply Kd.R_drewN | apply Kd.R_drew)); exact HO_189002.out) (Kd.R_base ho1) hb)
                    have n4_ := Aside0.mk (Kd.R_lower (Kd.R_new' (Kd.R_new' ho0 (Kd.R_lt (by (with_reducible repeat (first | apply Kd.R_alloc | apply Kd.R_drewN | apply Kd.R_drew)); exact HO_181001.out))) (Kd.R_lt (by (with_reducible repeat (first | apply Kd.R_alloc | apply Kd.R_drewN | apply Kd.R_drew)); exact HO_189001.out))) (below_size (by repeat (first | (with_reducible first | exact HB.out | apply below_alloc | apply pw_below_drewN | apply below_drew1 | refine below_set ?_ GE154.out | refine below_set ?_ GE155.out | refine below_set ?_ GE180.out | refine below_set ?_ GE188.out) | exact HB.out))))
                    have n5_ := Aside0.mk (Kd.R_lower (Kd.R_new' (Kd.R_new' ho1 (Kd.R_lt (by (with_reducible repeat (first | apply Kd.R_alloc | apply Kd.R_drewN | apply Kd.R_drew)); exact HO_181002.out))) (Kd.R_lt (by (with_reducible repeat (first | apply Kd.R_alloc | apply Kd.R_drewN | apply Kd.R_drew)); exact HO_189002.out))) (below_size (by repeat (first | (with_reducible first | exact HB.out | apply below_alloc | apply pw_below_drewN | apply below_drew1 | refine below_set ?_ GE154.out | refine below_set ?_ GE155.out | refine below_set ?_ GE180.out | refine below_set ?_ GE188.out) | exact HB.out))))
                    have n6_ := Aside0.mk (blk_below (g := gb154) (o := .cells #[.int .i8 a0_0, .slice A0_1 l0_1.length c0_1, .slice A0_2 l0_2.length c0_2] 26 (0, 0)) (by (with_reducible repeat (first | refine blk_drewN ?_ _ | refine blk_drew ?_ | refine blk_alloc ?_ _)); exact BK154.out) hb)
                    have n7_ := Aside0.mk (blk_below (g := gb155) (o := .cells #[.int .i8 a1_0, .slice A1_1 l1_1.length c1_1, .slice A1_2 l1_2.length c1_2] 26 (0, 0)) (by (with_reducible repeat (first | refine blk_drewN ?_ _ | refine blk_drew ?_ | refine blk_alloc ?_ _)); exact BK155.out) hb)
                    have n8_ := Aside0.mk (blk_below (g := gb180) (o := .cells #[.int .i8 t173, .slice Ao39 t174.length co39, .slice Ao40 t177.length co40] 31 (0, 0)) (by (with_reducible repeat (first | refine blk_drewN ?_ _ | refine blk_drew ?_ | refine blk_alloc ?_ _)); exact BK180.out) hb)
                    have n9_ := Aside0.mk (blk_below (g := gb188) (o := .cells #[.int .i8 t181, .slice Ao48 t182.length co48, .slice Ao49 t185.length co49] 31 (0, 0)) (by (with_reducible repeat (first | refine blk_drewN ?_ _ | refine blk_drew ?_ | refine blk_alloc ?_ _)); exact BK188.out) hb)
                    have n10_ := Aside0.mk (below_step (by repeat (first | (with_reducible first | exact HB.out | apply below_alloc | apply pw_below_drewN | apply below_drew1 | refine below_set ?_ GE154.out | refine below_set ?_ GE155.out | refine below_set ?_ GE180.out | refine below_set ?_ GE188.out) | exact HB.out)) hb)
                    clear HO_181001
                    clear HO_181002
                    clear HO_189001
                    clear HO_189002
                    clear BK154
                    clear BK155
                    clear BK180
                    clear BK188
                    clear HB
                    have HO_181001 := n0_
                    have HO_181002 := n1_
                    have HO_189001 := n2_
                    have HO_189002 := n3_
                    have HO201 := n4_
                    have HO204 := n5_
                    have BK154 := n6_
                    have BK155 := n7_
                    have BK180 := n8_
                    have BK188 := n9_
                    have HB := n10_
                    clear n0_ n1_ n2_ n3_ n4_ n5_ n6_ n7_ n8_ n9_ n10_
                    (try clear hb)
                    (try clear hb2)
                    (try clear hk)
                    (try clear hi)
                    (try clear ho0)
                    (try clear ho1)
                    obtain ⟨Ao67, co67, eo67⟩ := Kd.R_slice HO201.out
                    (first | subst eo67 | (injection eo67 with f1_ f2_ f3_; have f4_ := f1_.symm; have f5_ := f3_.symm; clear f1_ f2_ f3_; subst f4_; subst f5_))
                    obtain ⟨Ao68, co68, eo68⟩ := Kd.R_slice HO204.out
                    (first | subst eo68 | (injection eo68 with f1_ f2_ f3_; have f4_ := f1_.symm; have f5_ := f3_.symm; clear f1_ f2_ f3_; subst f4_; subst f5_))
                    refine hK.out _ _ ⟨(blk_cell BK188.out 0).trans rfl, (blk_cell BK188.out 1).trans rfl, (blk_cell BK188.out 2).trans rfl, (blk_cell BK155.out 0).trans rfl, (blk_cell BK155.out 1).trans rfl, (blk_cell BK155.out 2).trans rfl⟩ (fun hHeld => ?_)
                    clear hK K
                    refine norm_ (a' := ?_) ?_ ?_
                    rotate_left
                    · show Act.put _ (some 42) _ = _
                      simp only [Act.put, List.setIfInBounds_toArray, List.set_cons_zero, List.set_cons_succ, i64_w, i32_w]
                      rfl
                    refine one_ (i := 3) (N := some 43) #[true, true, true, true, false] rfl rfl (by kernel_rfl) (by decide) (fun K hK => ?_)
                    refine goes_ Try.func25 (by kernel_rfl) rfl #[.agg #[.int .i8 t181, .slice Ao48 t182.length co48, .slice Ao49 t185.length co49], .agg #[.int .i8 t198, .slice Ao67 t199.length co67, .slice Ao68 t202.length co68]] (by rfl) rfl rfl (by (try simp only [List.map_toArray, List.map_cons, List.map_nil]); first | done | rfl | (simp only [List.length_drop, List.length_take]; rfl)) ?_
                    with_reducible refine (laws_eqNetwork.calls kj54 t181 _ _ t182 _ _ t185 t198 _ _ t199 _ _ t202 true _ ?side1 ?side2 ?side3 ?side4 ?side5 ?side6 ?side7 ?side8 A63.out).mono ?_
                    (case side1 => repeat (first | exact (Kd.R_reads' HO_189001.out).2.2 | (with_reducible refine Kd.C_alloc ?_ _) | (with_reducible refine Kd.C_drewN ?_ _) | (with_reducible refine Kd.C_drew ?_)))
                    (case side2 => exact (Kd.R_reads' HO_189001.out).2.1)
                    (case side3 => repeat (first | exact (Kd.R_reads' HO_189002.out).2.2 | (with_reducible refine Kd.C_alloc ?_ _) | (with_reducible refine Kd.C_drewN ?_ _) | (with_reducible refine Kd.C_drew ?_)))
                    (case side4 => exact (Kd.R_reads' HO_189002.out).2.1)
                    (case side5 => repeat (first | exact (Kd.R_reads' HO201.out).2.2 | (with_reducible refine Kd.C_alloc ?_ _) | (with_reducible refine Kd.C_drewN ?_ _) | (with_reducible refine Kd.C_drew ?_)))
                    (case side6 => exact (Kd.R_reads' HO201.out).2.1)
                    (case side7 => repeat (first | exact (Kd.R_reads' HO204.out).2.2 | (with_reducible refine Kd.C_alloc ?_ _) | (with_reducible refine Kd.C_drewN ?_ _) | (with_reducible refine Kd.C_drew ?_)))
                    (case side8 => exact (Kd.R_reads' HO204.out).2.1)
                    rintro e w69 ⟨rfl, hb⟩
                    refine ⟨_, rfl, ?_⟩
                    have n0_ := Aside0.mk (Kd.R_below (by (with_reducible repeat (first | apply Kd.R_alloc | apply Kd.R_drewN | apply Kd.R_drew)); exact HO_181001.out) hb)
                    have n1_ := Aside0.mk (Kd.R_below (by (with_reducible repeat (first | apply Kd.R_alloc | apply Kd.R_drewN | apply Kd.R_drew)); exact HO_181002.out) hb)
                    have n2_ := Aside0.mk (Kd.R_below (by (with_reducible repeat (first | apply Kd.R_alloc | apply Kd.R_drewN | apply Kd.R_drew)); exact HO_189001.out) hb)
                    have n3_ := Aside0.mk (Kd.R_below (by (with_reducible repeat (first | apply Kd.R_alloc | apply Kd.R_drewN | apply Kd.R_drew)); exact HO_189002.out) hb)
                    have n4_ := Aside0.mk (Kd.R_below (by (with_reducible repeat (first | apply Kd.R_alloc | apply Kd.R_drewN | apply Kd.R_drew)); exact HO201.out) hb)
                    have n5_ := Aside0.mk (Kd.R_below (by (with_reducible repeat (first | apply Kd.R_alloc | apply Kd.R_drewN | apply Kd.R_drew)); exact HO204.out) hb)
                    have n6_ := Aside0.mk (blk_below (g := gb154) (o := .cells #[.int .i8 a0_0, .slice A0_1 l0_1.length c0_1, .slice A0_2 l0_2.length c0_2] 26 (0, 0)) (by (with_reducible repeat (first | refine blk_drewN ?_ _ | refine blk_drew ?_ | refine blk_alloc ?_ _)); exact BK154.out) hb)
                    have n7_ := Aside0.mk (blk_below (g := gb155) (o := .cells #[.int .i8 a1_0, .slice A1_1 l1_1.length c1_1, .slice A1_2 l1_2.length c1_2] 26 (0, 0)) (by (with_reducible repeat (first | refine blk_drewN ?_ _ | refine blk_drew ?_ | refine blk_alloc ?_ _)); exact BK155.out) hb)
                    have n8_ := Aside0.mk (blk_below (g := gb180) (o := .cells #[.int .i8 t173, .slice Ao39 t174.length co39, .slice Ao40 t177.length co40] 31 (0, 0)) (by (with_reducible repeat (first | refine blk_drewN ?_ _ | refine blk_drew ?_ | refine blk_alloc ?_ _)); exact BK180.out) hb)
                    have n9_ := Aside0.mk (blk_below (g := gb188) (o := .cells #[.int .i8 t181, .slice Ao48 t182.length co48, .slice Ao49 t185.length co49] 31 (0, 0)) (by (with_reducible repeat (first | refine blk_drewN ?_ _ | refine blk_drew ?_ | refine blk_alloc ?_ _)); exact BK188.out) hb)
                    have n10_ := Aside0.mk (below_step (by repeat (first | (with_reducible first | exact HB.out | apply below_alloc | apply pw_below_drewN | apply below_drew1 | refine below_set ?_ GE154.out | refine below_set ?_ GE155.out | refine below_set ?_ GE180.out | refine below_set ?_ GE188.out) | exact HB.out)) hb)
                    clear HO_181001
                    clear HO_181002
                    clear HO_189001
                    clear HO_189002
                    clear HO201
                    clear HO204
                    clear BK154
                    clear BK155
                    clear BK180
                    clear BK188
                    clear HB
                    have HO_181001 := n0_
                    have HO_181002 := n1_
                    have HO_189001 := n2_
                    have HO_189002 := n3_
                    have HO201 := n4_
                    have HO204 := n5_
                    have BK154 := n6_
                    have BK155 := n7_
                    have BK180 := n8_
                    have BK188 := n9_
                    have HB := n10_
                    clear n0_ n1_ n2_ n3_ n4_ n5_ n6_ n7_ n8_ n9_ n10_
                    (try clear hb)
                    (try clear hb2)
                    (try clear hk)
                    (try clear hi)
                    refine hK.out _ _ ⟨(blk_cell BK188.out 0).trans rfl, (blk_cell BK188.out 1).trans rfl, (blk_cell BK188.out 2).trans rfl, (blk_cell BK155.out 0).trans rfl, (blk_cell BK155.out 1).trans rfl, (blk_cell BK155.out 2).trans rfl⟩ (fun hHeld => ?_)
                    clear hK K
                    refine norm_ (a' := ?_) ?_ ?_
                    rotate_left
                    · show Act.put _ (some 43) _ = _
                      simp only [Act.put, List.setIfInBounds_toArray, List.set_cons_zero, List.set_cons_succ, i64_w, i32_w]
                      rfl
                    refine pure_ (i := 4) (N := some 44) (v := ?_) (a' := ?_) #[true, true, true, true, true] rfl rfl (by kernel_rfl) (fun _ _ _ h => h) (Or.inl ⟨by rfl, ?_⟩) ?_ ?_
                    rotate_left
                    · intro w'
                      go_simp
                      with_reducible rfl
                    rotate_left
                    · simp only [Act.put, List.setIfInBounds_toArray, List.set_cons_zero, List.set_cons_succ, i64_w, i32_w]
                      rfl
                    refine done_ (by kernel_rfl) ?_
                    try go_wp2
                    go_ret
                    exact ⟨by first | rfl | (simp [errW_none, errW_some] <;> rfl) | (simp [*, errW_none, errW_some] <;> rfl), by repeat (first | (with_reducible first | exact HB.out | apply below_alloc | apply pw_below_drewN | apply below_drew1 | refine below_set ?_ GE154.out | refine below_set ?_ GE155.out | refine below_set ?_ GE180.out | refine below_set ?_ GE188.out) | exact HB.out)⟩
                  · replace c64 := Bool.eq_false_iff.mpr c64
                    subst c64
                    have H1 : (some false) = some r := by rw [if_neg (show ¬ (false = true) by decide)] at H; exact H
                    clear H
                    have H := H1
                    clear H1
                    obtain rfl := Option.some.inj H
                    try go_wp2
                    have n0_ := Aside0.mk (Kd.R_drew HO_181001.out)
                    have n1_ := Aside0.mk (Kd.R_drew HO_181002.out)
                    have n2_ := Aside0.mk (Kd.R_drew HO_189001.out)
                    have n3_ := Aside0.mk (Kd.R_drew HO_189002.out)
                    have n4_ := Aside0.mk (blk_drew BK154.out)
                    have n5_ := Aside0.mk (blk_drew BK155.out)
                    have n6_ := Aside0.mk (blk_drew BK180.out)
                    have n7_ := Aside0.mk (blk_drew BK188.out)
                    have n8_ := Aside0.mk (below_drew1 HB.out)
                    clear HO_181001
                    clear HO_181002
                    clear HO_189001
                    clear HO_189002
                    clear BK154
                    clear BK155
                    clear BK180
                    clear BK188
                    clear HB
                    have HO_181001 := n0_
                    have HO_181002 := n1_
                    have HO_189001 := n2_
                    have HO_189002 := n3_
                    have BK154 := n4_
                    have BK155 := n5_
                    have BK180 := n6_
                    have BK188 := n7_
                    have HB := n8_
                    clear n0_ n1_ n2_ n3_ n4_ n5_ n6_ n7_ n8_
                    refine start_ (n := 5) (S := fun w' => w'.cell? ⟨gb188, 0, none⟩ = some (.int .i8 t181) ∧ w'.cell? ⟨gb188, 1, none⟩ = some (.slice Ao48 t182.length co48) ∧ w'.cell? ⟨gb188, 2, none⟩ = some (.slice Ao49 t185.length co49) ∧ w'.cell? ⟨gb155, 0, none⟩ = some (.int .i8 a1_0) ∧ w'.cell? ⟨gb155, 1, none⟩ = some (.slice A1_1 l1_1.length c1_1) ∧ w'.cell? ⟨gb155, 2, none⟩ = some (.slice A1_2 l1_2.length c1_2)) (ds := []) #[false, false, false, false, false] (by kernel_rfl) rfl rfl ⟨(blk_cell BK188.out 0).trans rfl, (blk_cell BK188.out 1).trans rfl, (blk_cell BK188.out 2).trans rfl, (blk_cell BK155.out 0).trans rfl, (blk_cell BK155.out 1).trans rfl, (blk_cell BK155.out 2).trans rfl⟩ (fun hHeld => ?_)
                    generalize wc.drew = w70 at HO_181001 HO_181002 HO_189001 HO_189002 BK154 BK155 BK180 BK188 HB hHeld ⊢
                    refine take_ (i := 0) (N := some 40) (v := ?_) (a' := ?_) #[true, false, false, false, false] rfl rfl (by kernel_rfl) (fun _ _ _ h => h) (Or.inl ⟨by rfl, ?_⟩) hHeld ?_ ?_
                    rotate_left
                    · rintro w' ⟨s0, s1, s2, s3, s4, s5⟩
                      go_simp
                      with_reducible rfl
                    rotate_left
                    · simp only [Act.put, List.setIfInBounds_toArray, List.set_cons_zero, List.set_cons_succ, i64_w, i32_w]
                      rfl
                    refine take_ (i := 1) (N := some 41) (v := ?_) (a' := ?_) #[true, true, false, false, false] rfl rfl (by kernel_rfl) (fun _ _ _ h => h) (Or.inl ⟨by rfl, ?_⟩) hHeld ?_ ?_
                    rotate_left
                    · rintro w' ⟨s0, s1, s2, s3, s4, s5⟩
                      go_simp
                      with_reducible rfl
                    rotate_left
                    · simp only [Act.put, List.setIfInBounds_toArray, List.set_cons_zero, List.set_cons_succ, i64_w, i32_w]
                      rfl
                    refine one_ (i := 2) (N := some 42) #[true, true, true, false, false] rfl rfl (by kernel_rfl) (by decide) (fun K hK => ?_)
                    refine goes_ Try.func23 (by kernel_rfl) rfl #[.agg #[.int .i8 a1_0, .slice A1_1 l1_1.length c1_1, .slice A1_2 l1_2.length c1_2]] (by rfl) rfl rfl (by (try simp only [List.map_toArray, List.map_cons, List.map_nil]); first | done | rfl | (simp only [List.length_drop, List.length_take]; rfl)) ?_
                    with_reducible refine (laws_toNetwork.calls kj54 a1_0 _ _ l1_1 _ _ l1_2 t198 t199 t202 _ ?side1 ?side2 ?side3 ?side4 A62.out).mono ?_
                    (case side1 => repeat (first | exact (Kd.C_below HR1_1.out HB.out) | (with_reducible refine Kd.C_alloc ?_ _) | (with_reducible refine Kd.C_drewN ?_ _) | (with_reducible refine Kd.C_drew ?_)))
                    (case side2 => exact HC1_1.out)
                    (case side3 => repeat (first | exact (Kd.C_below HR1_2.out HB.out) | (with_reducible refine Kd.C_alloc ?_ _) | (with_reducible refine Kd.C_drewN ?_ _) | (with_reducible refine Kd.C_drew ?_)))
                    (case side4 => exact HC1_2.out)
                    rintro e w71 ⟨v200, v203, rfl, ho0, ho1, hb⟩
                    refine ⟨_, rfl, ?_⟩
                    have n0_ := Aside0.mk (Kd.R_elder' (by (with_reducible repeat (first | apply Kd.R_alloc | apply Kd.R_drewN | apply Kd.R_drew)); exact HO_181001.out) (Kd.R_base ho0) hb)
                    have n1_ := Aside0.mk (Kd.R_elder' (by (with_reducible repeat (first | apply Kd.R_alloc | apply Kd.R_drewN | apply Kd.R_drew)); exact HO_181002.out) (Kd.R_base ho1) hb)
                    have n2_ := Aside0.mk (Kd.R_elder' (by (with_reducible repeat (first | apply Kd.R_alloc | apply Kd.R_drewN | apply Kd.R_drew)); exact HO_189001.out) (Kd.R_base ho0) hb)
                    have n3_ := Aside0.mk (Kd.R_elder' (by (with_reducible repeat (first | apply Kd.R_alloc | apply Kd.R_drewN | apply Kd.R_drew)); exact HO_189002.out) (Kd.R_base ho1) hb)
                    have n4_ := Aside0.mk (Kd.R_lower (Kd.R_new' (Kd.R_new' ho0 (Kd.R_lt (by (with_reducible repeat (first | apply Kd.R_alloc | apply Kd.R_drewN | apply Kd.R_drew)); exact HO_181001.out))) (Kd.R_lt (by (with_reducible repeat (first | apply Kd.R_alloc | apply Kd.R_drewN | apply Kd.R_drew)); exact HO_189001.out))) (below_size (by repeat (first | (with_reducible first | exact HB.out | apply below_alloc | apply pw_below_drewN | apply below_drew1 | refine below_set ?_ GE154.out | refine below_set ?_ GE155.out | refine below_set ?_ GE180.out | refine below_set ?_ GE188.out) | exact HB.out))))
                    have n5_ := Aside0.mk (Kd.R_lower (Kd.R_new' (Kd.R_new' ho1 (Kd.R_lt (by (with_reducible repeat (first | apply Kd.R_alloc | apply Kd.R_drewN | apply Kd.R_drew)); exact HO_181002.out))) (Kd.R_lt (by (with_reducible repeat (first | apply Kd.R_alloc | apply Kd.R_drewN | apply Kd.R_drew)); exact HO_189002.out))) (below_size (by repeat (first | (with_reducible first | exact HB.out | apply below_alloc | apply pw_below_drewN | apply below_drew1 | refine below_set ?_ GE154.out | refine below_set ?_ GE155.out | refine below_set ?_ GE180.out | refine below_set ?_ GE188.out) | exact HB.out))))
                    have n6_ := Aside0.mk (blk_below (g := gb154) (o := .cells #[.int .i8 a0_0, .slice A0_1 l0_1.length c0_1, .slice A0_2 l0_2.length c0_2] 26 (0, 0)) (by (with_reducible repeat (first | refine blk_drewN ?_ _ | refine blk_drew ?_ | refine blk_alloc ?_ _)); exact BK154.out) hb)
                    have n7_ := Aside0.mk (blk_below (g := gb155) (o := .cells #[.int .i8 a1_0, .slice A1_1 l1_1.length c1_1, .slice A1_2 l1_2.length c1_2] 26 (0, 0)) (by (with_reducible repeat (first | refine blk_drewN ?_ _ | refine blk_drew ?_ | refine blk_alloc ?_ _)); exact BK155.out) hb)
                    have n8_ := Aside0.mk (blk_below (g := gb180) (o := .cells #[.int .i8 t173, .slice Ao39 t174.length co39, .slice Ao40 t177.length co40] 31 (0, 0)) (by (with_reducible repeat (first | refine blk_drewN ?_ _ | refine blk_drew ?_ | refine blk_alloc ?_ _)); exact BK180.out) hb)
                    have n9_ := Aside0.mk (blk_below (g := gb188) (o := .cells #[.int .i8 t181, .slice Ao48 t182.length co48, .slice Ao49 t185.length co49] 31 (0, 0)) (by (with_reducible repeat (first | refine blk_drewN ?_ _ | refine blk_drew ?_ | refine blk_alloc ?_ _)); exact BK188.out) hb)
                    have n10_ := Aside0.mk (below_step (by repeat (first | (with_reducible first | exact HB.out | apply below_alloc | apply pw_below_drewN | apply below_drew1 | refine below_set ?_ GE154.out | refine below_set ?_ GE155.out | refine below_set ?_ GE180.out | refine below_set ?_ GE188.out) | exact HB.out)) hb)
                    clear HO_181001
                    clear HO_181002
                    clear HO_189001
                    clear HO_189002
                    clear BK154
                    clear BK155
                    clear BK180
                    clear BK188
                    clear HB
                    have HO_181001 := n0_
                    have HO_181002 := n1_
                    have HO_189001 := n2_
                    have HO_189002 := n3_
                    have HO201 := n4_
                    have HO204 := n5_
                    have BK154 := n6_
                    have BK155 := n7_
                    have BK180 := n8_
                    have BK188 := n9_
                    have HB := n10_
                    clear n0_ n1_ n2_ n3_ n4_ n5_ n6_ n7_ n8_ n9_ n10_
                    (try clear hb)
                    (try clear hb2)
                    (try clear hk)
                    (try clear hi)
                    (try clear ho0)
                    (try clear ho1)
                    obtain ⟨Ao72, co72, eo72⟩ := Kd.R_slice HO201.out
                    (first | subst eo72 | (injection eo72 with f1_ f2_ f3_; have f4_ := f1_.symm; have f5_ := f3_.symm; clear f1_ f2_ f3_; subst f4_; subst f5_))
                    obtain ⟨Ao73, co73, eo73⟩ := Kd.R_slice HO204.out
                    (first | subst eo73 | (injection eo73 with f1_ f2_ f3_; have f4_ := f1_.symm; have f5_ := f3_.symm; clear f1_ f2_ f3_; subst f4_; subst f5_))
                    refine hK.out _ _ ⟨(blk_cell BK188.out 0).trans rfl, (blk_cell BK188.out 1).trans rfl, (blk_cell BK188.out 2).trans rfl, (blk_cell BK155.out 0).trans rfl, (blk_cell BK155.out 1).trans rfl, (blk_cell BK155.out 2).trans rfl⟩ (fun hHeld => ?_)
                    clear hK K
                    refine norm_ (a' := ?_) ?_ ?_
                    rotate_left
                    · show Act.put _ (some 42) _ = _
                      simp only [Act.put, List.setIfInBounds_toArray, List.set_cons_zero, List.set_cons_succ, i64_w, i32_w]
                      rfl
                    refine one_ (i := 3) (N := some 43) #[true, true, true, true, false] rfl rfl (by kernel_rfl) (by decide) (fun K hK => ?_)
                    refine goes_ Try.func25 (by kernel_rfl) rfl #[.agg #[.int .i8 t181, .slice Ao48 t182.length co48, .slice Ao49 t185.length co49], .agg #[.int .i8 t198, .slice Ao72 t199.length co72, .slice Ao73 t202.length co73]] (by rfl) rfl rfl (by (try simp only [List.map_toArray, List.map_cons, List.map_nil]); first | done | rfl | (simp only [List.length_drop, List.length_take]; rfl)) ?_
                    with_reducible refine (laws_eqNetwork.calls kj54 t181 _ _ t182 _ _ t185 t198 _ _ t199 _ _ t202 false _ ?side1 ?side2 ?side3 ?side4 ?side5 ?side6 ?side7 ?side8 A63.out).mono ?_
                    (case side1 => repeat (first | exact (Kd.R_reads' HO_189001.out).2.2 | (with_reducible refine Kd.C_alloc ?_ _) | (with_reducible refine Kd.C_drewN ?_ _) | (with_reducible refine Kd.C_drew ?_)))
                    (case side2 => exact (Kd.R_reads' HO_189001.out).2.1)
                    (case side3 => repeat (first | exact (Kd.R_reads' HO_189002.out).2.2 | (with_reducible refine Kd.C_alloc ?_ _) | (with_reducible refine Kd.C_drewN ?_ _) | (with_reducible refine Kd.C_drew ?_)))
                    (case side4 => exact (Kd.R_reads' HO_189002.out).2.1)
                    (case side5 => repeat (first | exact (Kd.R_reads' HO201.out).2.2 | (with_reducible refine Kd.C_alloc ?_ _) | (with_reducible refine Kd.C_drewN ?_ _) | (with_reducible refine Kd.C_drew ?_)))
                    (case side6 => exact (Kd.R_reads' HO201.out).2.1)
                    (case side7 => repeat (first | exact (Kd.R_reads' HO204.out).2.2 | (with_reducible refine Kd.C_alloc ?_ _) | (with_reducible refine Kd.C_drewN ?_ _) | (with_reducible refine Kd.C_drew ?_)))
                    (case side8 => exact (Kd.R_reads' HO204.out).2.1)
                    rintro e w74 ⟨rfl, hb⟩
                    refine ⟨_, rfl, ?_⟩
                    have n0_ := Aside0.mk (Kd.R_below (by (with_reducible repeat (first | apply Kd.R_alloc | apply Kd.R_drewN | apply Kd.R_drew)); exact HO_181001.out) hb)
                    have n1_ := Aside0.mk (Kd.R_below (by (with_reducible repeat (first | apply Kd.R_alloc | apply Kd.R_drewN | apply Kd.R_drew)); exact HO_181002.out) hb)
                    have n2_ := Aside0.mk (Kd.R_below (by (with_reducible repeat (first | apply Kd.R_alloc | apply Kd.R_drewN | apply Kd.R_drew)); exact HO_189001.out) hb)
                    have n3_ := Aside0.mk (Kd.R_below (by (with_reducible repeat (first | apply Kd.R_alloc | apply Kd.R_drewN | apply Kd.R_drew)); exact HO_189002.out) hb)
                    have n4_ := Aside0.mk (Kd.R_below (by (with_reducible repeat (first | apply Kd.R_alloc | apply Kd.R_drewN | apply Kd.R_drew)); exact HO201.out) hb)
                    have n5_ := Aside0.mk (Kd.R_below (by (with_reducible repeat (first | apply Kd.R_alloc | apply Kd.R_drewN | apply Kd.R_drew)); exact HO204.out) hb)
                    have n6_ := Aside0.mk (blk_below (g := gb154) (o := .cells #[.int .i8 a0_0, .slice A0_1 l0_1.length c0_1, .slice A0_2 l0_2.length c0_2] 26 (0, 0)) (by (with_reducible repeat (first | refine blk_drewN ?_ _ | refine blk_drew ?_ | refine blk_alloc ?_ _)); exact BK154.out) hb)
                    have n7_ := Aside0.mk (blk_below (g := gb155) (o := .cells #[.int .i8 a1_0, .slice A1_1 l1_1.length c1_1, .slice A1_2 l1_2.length c1_2] 26 (0, 0)) (by (with_reducible repeat (first | refine blk_drewN ?_ _ | refine blk_drew ?_ | refine blk_alloc ?_ _)); exact BK155.out) hb)
                    have n8_ := Aside0.mk (blk_below (g := gb180) (o := .cells #[.int .i8 t173, .slice Ao39 t174.length co39, .slice Ao40 t177.length co40] 31 (0, 0)) (by (with_reducible repeat (first | refine blk_drewN ?_ _ | refine blk_drew ?_ | refine blk_alloc ?_ _)); exact BK180.out) hb)
                    have n9_ := Aside0.mk (blk_below (g := gb188) (o := .cells #[.int .i8 t181, .slice Ao48 t182.length co48, .slice Ao49 t185.length co49] 31 (0, 0)) (by (with_reducible repeat (first | refine blk_drewN ?_ _ | refine blk_drew ?_ | refine blk_alloc ?_ _)); exact BK188.out) hb)
                    have n10_ := Aside0.mk (below_step (by repeat (first | (with_reducible first | exact HB.out | apply below_alloc | apply pw_below_drewN | apply below_drew1 | refine below_set ?_ GE154.out | refine below_set ?_ GE155.out | refine below_set ?_ GE180.out | refine below_set ?_ GE188.out) | exact HB.out)) hb)
                    clear HO_181001
                    clear HO_181002
                    clear HO_189001
                    clear HO_189002
                    clear HO201
                    clear HO204
                    clear BK154
                    clear BK155
                    clear BK180
                    clear BK188
                    clear HB
                    have HO_181001 := n0_
                    have HO_181002 := n1_
                    have HO_189001 := n2_
                    have HO_189002 := n3_
                    have HO201 := n4_
                    have HO204 := n5_
                    have BK154 := n6_
                    have BK155 := n7_
                    have BK180 := n8_
                    have BK188 := n9_
                    have HB := n10_
                    clear n0_ n1_ n2_ n3_ n4_ n5_ n6_ n7_ n8_ n9_ n10_
                    (try clear hb)
                    (try clear hb2)
                    (try clear hk)
                    (try clear hi)
                    refine hK.out _ _ ⟨(blk_cell BK188.out 0).trans rfl, (blk_cell BK188.out 1).trans rfl, (blk_cell BK188.out 2).trans rfl, (blk_cell BK155.out 0).trans rfl, (blk_cell BK155.out 1).trans rfl, (blk_cell BK155.out 2).trans rfl⟩ (fun hHeld => ?_)
                    clear hK K
                    refine norm_ (a' := ?_) ?_ ?_
                    rotate_left
                    · show Act.put _ (some 43) _ = _
                      simp only [Act.put, List.setIfInBounds_toArray, List.set_cons_zero, List.set_cons_succ, i64_w, i32_w]
                      rfl
                    refine pure_ (i := 4) (N := some 44) (v := ?_) (a' := ?_) #[true, true, true, true, true] rfl rfl (by kernel_rfl) (fun _ _ _ h => h) (Or.inl ⟨by rfl, ?_⟩) ?_ ?_
                    rotate_left
                    · intro w'
                      go_simp
                      with_reducible rfl
                    rotate_left
                    · simp only [Act.put, List.setIfInBounds_toArray, List.set_cons_zero, List.set_cons_succ, i64_w, i32_w]
                      rfl
                    refine done_ (by kernel_rfl) ?_
                    try go_wp2
                    go_ret
                    exact ⟨by first | rfl | (simp [errW_none, errW_some] <;> rfl) | (simp [*, errW_none, errW_some] <;> rfl), by repeat (first | (with_reducible first | exact HB.out | apply below_alloc | apply pw_below_drewN | apply below_drew1 | refine below_set ?_ GE154.out | refine below_set ?_ GE155.out | refine below_set ?_ GE180.out | refine below_set ?_ GE188.out) | exact HB.out)⟩

end Go.Proofs.Ytmpmanfoiocfgaa.PFnExactSameNetwork
