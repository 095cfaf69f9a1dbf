-- squeezed
-- WRITTEN by xprint.py, a program of this session's. Not trusted: Lean checks it.
import Derived.Test.YtffnfpnajkgnaaaPFnExactSameMachinex0
import Derived.Test.YtffnfpnajkgnaaaPFnExactSameMachinex1
import Derived.Test.YtffnfpnajkgnaaaPFnExactSameMachinex2
import Derived.Test.YtffnfpnajkgnaaaPFnExactSameMachinex3
import Derived.Test.YtffnfpnajkgnaaaPFnExactSameMachinex7
namespace Go.Proofs.Ytffnfpnajkgnaaa.PFnExactSameMachine
open Go.RowKit Go.Proofs.YtffnfpnajkgnaaaW.PrintWords Go.Proofs.YtffnfpnajkgnaaaW.PrintLast Go.Proofs.YtffnfpnajkgnaaaW.PrintMore Go.Proofs.YtffnfpnajkgnaaaX
attribute [local go_sem] max2_int min2_int max_two min_two max_three min_three max_four min_four   -- for this text's walks alone
set_option linter.unusedVariables false
set_option linter.unusedSimpArgs false

attribute [local go_sem high] eqA74 eqA91 eqA116
/-! ### spec_SameMachine: function 60 -/
mutual
def spec_SameMachine.j0 : Nat → Bool → Int → Int → List (S91) → List (S116) → List (S74) → Int → Int → List (S91) → List (S116) → List (S74) → Option (Bool)
 | 0, _, _, _, _, _, _, _, _, _, _, _ => none
 | k + 1, x28, x202000, x202001, x202002, x202003, x202004, x203000, x203001, x203002, x203003, x203004 => if x28 = true then (some false) else (spec_SameMachine.l0 k 0 x202000 x202001 x202002 x202003 x202004 x203000 x203001 x203002 x203003 x203004)
def spec_SameMachine.l0 : Nat → Int → Int → Int → List (S91) → List (S116) → List (S74) → Int → Int → List (S91) → List (S116) → List (S74) → Option (Bool)
 | 0, _, _, _, _, _, _, _, _, _, _, _ => none
 | k + 1, x5, x202000, x202001, x202002, x202003, x202004, x203000, x203001, x203002, x203003, x203004 => if x5 < (x202003.length : Int) then (if 0 ≤ x5 then (if x5 < (x203003.length : Int) then (if ((!(((rd_T116 x202003 x5).f0.f0) == ((rd_T116 x203003 x5).f0.f0)) || (!(((rd_T116 x202003 x5).f0.f1) == ((rd_T116 x203003 x5).f0.f1)))) || (!(((rd_T116 x202003 x5).f1) == ((rd_T116 x203003 x5).f1)))) = true then (some false) else (spec_SameMachine.l0 k (wrap64 (x5 + 1)) x202000 x202001 x202002 x202003 x202004 x203000 x203001 x203002 x203003 x203004)) else (none)) else (none)) else (spec_SameMachine.l1 k 0 x202000 x202001 x202002 x202003 x202004 x203000 x203001 x203002 x203003 x203004)
def spec_SameMachine.l1 : Nat → Int → Int → Int → List (S91) → List (S116) → List (S74) → Int → Int → List (S91) → List (S116) → List (S74) → Option (Bool)
 | 0, _, _, _, _, _, _, _, _, _, _, _ => none
 | k + 1, x6, x202000, x202001, x202002, x202003, x202004, x203000, x203001, x203002, x203003, x203004 => if x6 < (x202004.length : Int) then (if 0 ≤ x6 then (if x6 < (x203004.length : Int) then (if (!(((rd_T74 x202004 x6).f0) == ((rd_T74 x203004 x6).f0)) || (!(((rd_T74 x202004 x6).f1) == ((rd_T74 x203004 x6).f1)))) = true then (some false) else (spec_SameMachine.l1 k (wrap64 (x6 + 1)) x202000 x202001 x202002 x202003 x202004 x203000 x203001 x203002 x203003 x203004)) else (none)) else (none)) else (some true)
end
def spec_SameMachine.f (k : Nat) (a0_0 : Int) (a0_1 : Int) (l0_2 : List (S91)) (l0_3 : List (S116)) (l0_4 : List (S74)) (a1_0 : Int) (a1_1 : Int) (l1_2 : List (S91)) (l1_3 : List (S116)) (l1_4 : List (S74)) : Option (Bool) := (spec_l01Same.f k [(⟨a0_0, a0_1, l0_2⟩ : S37)] [(⟨a1_0, a1_1, l1_2⟩ : S37)]).bind fun t203 => (if t203 = true then (if (l0_3.length : Int) = (l1_3.length : Int) then (spec_SameMachine.j0 k ((l0_4.length : Int) != (l1_4.length : Int)) a0_0 a0_1 l0_2 l0_3 l0_4 a1_0 a1_1 l1_2 l1_3 l1_4) else (spec_SameMachine.j0 k true a0_0 a0_1 l0_2 l0_3 l0_4 a1_0 a1_1 l1_2 l1_3 l1_4)) else (spec_SameMachine.j0 k true a0_0 a0_1 l0_2 l0_3 l0_4 a1_0 a1_1 l1_2 l1_3 l1_4))
theorem spec_SameMachine.mono_l : ∀ k, (∀ y0 y1 y2 y3 y4 y5 y6 y7 y8 y9 y10, LeO (spec_SameMachine.j0 k y0 y1 y2 y3 y4 y5 y6 y7 y8 y9 y10) (spec_SameMachine.j0 (k + 1) y0 y1 y2 y3 y4 y5 y6 y7 y8 y9 y10)) ∧ (∀ y0 y1 y2 y3 y4 y5 y6 y7 y8 y9 y10, LeO (spec_SameMachine.l0 k y0 y1 y2 y3 y4 y5 y6 y7 y8 y9 y10) (spec_SameMachine.l0 (k + 1) y0 y1 y2 y3 y4 y5 y6 y7 y8 y9 y10)) ∧ (∀ y0 y1 y2 y3 y4 y5 y6 y7 y8 y9 y10, LeO (spec_SameMachine.l1 k y0 y1 y2 y3 y4 y5 y6 y7 y8 y9 y10) (spec_SameMachine.l1 (k + 1) y0 y1 y2 y3 y4 y5 y6 y7 y8 y9 y10))
 | 0 => ⟨fun _ _ _ _ _ _ _ _ _ _ _ r h => by simp [spec_SameMachine.j0] at h, fun _ _ _ _ _ _ _ _ _ _ _ r h => by simp [spec_SameMachine.l0] at h, fun _ _ _ _ _ _ _ _ _ _ _ r h => by simp [spec_SameMachine.l1] at h⟩
 | k + 1 => by
  obtain ⟨ih0, ih1, ih2⟩ := spec_SameMachine.mono_l k
  refine ⟨?_, ?_, ?_⟩
  ·intro y0 y1 y2 y3 y4 y5 y6 y7 y8 y9 y10
   unfold spec_SameMachine.j0
   repeat' first
   | (with_reducible exact ih0 _ _ _ _ _ _ _ _ _ _ _)
   | (with_reducible exact ih1 _ _ _ _ _ _ _ _ _ _ _)
   | (with_reducible exact ih2 _ _ _ _ _ _ _ _ _ _ _)
   | (with_reducible exact spec_l01Same.mono _ _ _)
   | (with_reducible exact LeO.refl _)
   | (with_reducible exact LeO.none _)
   | (with_reducible refine LeO.ite ?_ ?_)
   | (with_reducible refine LeO.bind ?_ (fun _ => ?_))
   | exact ih0 _ _ _ _ _ _ _ _ _ _ _
   | exact ih1 _ _ _ _ _ _ _ _ _ _ _
   | exact ih2 _ _ _ _ _ _ _ _ _ _ _
   | exact spec_l01Same.mono _ _ _
   | exact LeO.none _
   | refine LeO.ite ?_ ?_
   | refine LeO.bind ?_ (fun _ => ?_)
  ·intro y0 y1 y2 y3 y4 y5 y6 y7 y8 y9 y10
   unfold spec_SameMachine.l0
   repeat' first
   | (with_reducible exact ih0 _ _ _ _ _ _ _ _ _ _ _)
   | (with_reducible exact ih1 _ _ _ _ _ _ _ _ _ _ _)
   | (with_reducible exact ih2 _ _ _ _ _ _ _ _ _ _ _)
   | (with_reducible exact spec_l01Same.mono _ _ _)
   | (with_reducible exact LeO.refl _)
   | (with_reducible exact LeO.none _)
   | (with_reducible refine LeO.ite ?_ ?_)
   | (with_reducible refine LeO.bind ?_ (fun _ => ?_))
   | exact ih0 _ _ _ _ _ _ _ _ _ _ _
   | exact ih1 _ _ _ _ _ _ _ _ _ _ _
   | exact ih2 _ _ _ _ _ _ _ _ _ _ _
   | exact spec_l01Same.mono _ _ _
   | exact LeO.none _
   | refine LeO.ite ?_ ?_
   | refine LeO.bind ?_ (fun _ => ?_)
  ·intro y0 y1 y2 y3 y4 y5 y6 y7 y8 y9 y10
   unfold spec_SameMachine.l1
   repeat' first
   | (with_reducible exact ih0 _ _ _ _ _ _ _ _ _ _ _)
   | (with_reducible exact ih1 _ _ _ _ _ _ _ _ _ _ _)
   | (with_reducible exact ih2 _ _ _ _ _ _ _ _ _ _ _)
   | (with_reducible exact spec_l01Same.mono _ _ _)
   | (with_reducible exact LeO.refl _)
   | (with_reducible exact LeO.none _)
   | (with_reducible refine LeO.ite ?_ ?_)
   | (with_reducible refine LeO.bind ?_ (fun _ => ?_))
   | exact ih0 _ _ _ _ _ _ _ _ _ _ _
   | exact ih1 _ _ _ _ _ _ _ _ _ _ _
   | exact ih2 _ _ _ _ _ _ _ _ _ _ _
   | exact spec_l01Same.mono _ _ _
   | exact LeO.none _
   | refine LeO.ite ?_ ?_
   | refine LeO.bind ?_ (fun _ => ?_)
theorem spec_SameMachine.mono : ∀ a0 a1 a2 a3 a4 a5 a6 a7 a8 a9 k, LeO (spec_SameMachine.f k a0 a1 a2 a3 a4 a5 a6 a7 a8 a9) (spec_SameMachine.f (k + 1) a0 a1 a2 a3 a4 a5 a6 a7 a8 a9) := by
 intro a0 a1 a2 a3 a4 a5 a6 a7 a8 a9 k
 obtain ⟨ih0, ih1, ih2⟩ := spec_SameMachine.mono_l k
 unfold spec_SameMachine.f
 repeat' first
   | (with_reducible exact ih0 _ _ _ _ _ _ _ _ _ _ _)
   | (with_reducible exact ih1 _ _ _ _ _ _ _ _ _ _ _)
   | (with_reducible exact ih2 _ _ _ _ _ _ _ _ _ _ _)
   | (with_reducible exact spec_l01Same.mono _ _ _)
   | (with_reducible exact LeO.refl _)
   | (with_reducible exact LeO.none _)
   | (with_reducible refine LeO.ite ?_ ?_)
   | (with_reducible refine LeO.bind ?_ (fun _ => ?_))
   | exact ih0 _ _ _ _ _ _ _ _ _ _ _
   | exact ih1 _ _ _ _ _ _ _ _ _ _ _
   | exact ih2 _ _ _ _ _ _ _ _ _ _ _
   | exact spec_l01Same.mono _ _ _
   | exact LeO.none _
   | refine LeO.ite ?_ ?_
   | refine LeO.bind ?_ (fun _ => ?_)
set_option maxHeartbeats 8000000 in
set_option maxRecDepth 100000 in
theorem spec_SameMachine.calls (k : Nat) (a0_0 : Int) (a0_1 : Int) (A0_2 : Option Addr) (c0_2 : Nat) (l0_2 : List (S91)) (A0_3 : Option Addr) (c0_3 : Nat) (l0_3 : List (S116)) (A0_4 : Option Addr) (c0_4 : Nat) (l0_4 : List (S74)) (a1_0 : Int) (a1_1 : Int) (A1_2 : Option Addr) (c1_2 : Nat) (l1_2 : List (S91)) (A1_3 : Option Addr) (c1_3 : Nat) (l1_3 : List (S116)) (A1_4 : Option Addr) (c1_4 : Nat) (l1_4 : List (S74)) (r : Bool) (w : World) (hr0_2 : Kd.C k91 w A0_2 l0_2.length l0_2) (hc0_2 : l0_2.length ≤ c0_2) (hr0_3 : Kd.C k116 w A0_3 l0_3.length l0_3) (hc0_3 : l0_3.length ≤ c0_3) (hr0_4 : Kd.C k74 w A0_4 l0_4.length l0_4) (hc0_4 : l0_4.length ≤ c0_4) (hr1_2 : Kd.C k91 w A1_2 l1_2.length l1_2) (hc1_2 : l1_2.length ≤ c1_2) (hr1_3 : Kd.C k116 w A1_3 l1_3.length l1_3) (hc1_3 : l1_3.length ≤ c1_3) (hr1_4 : Kd.C k74 w A1_4 l1_4.length l1_4) (hc1_4 : l1_4.length ≤ c1_4) (h : spec_SameMachine.f k a0_0 a0_1 l0_2 l0_3 l0_4 a1_0 a1_1 l1_2 l1_3 l1_4 = some r) :
  Calls Try.prog 60 #[.agg #[.int .i8 a0_0, .int .i8 a0_1, .slice A0_2 l0_2.length c0_2, .slice A0_3 l0_3.length c0_3, .slice A0_4 l0_4.length c0_4], .agg #[.int .i8 a1_0, .int .i8 a1_1, .slice A1_2 l1_2.length c1_2, .slice A1_3 l1_3.length c1_3, .slice A1_4 l1_4.length c1_4]] w fun e w' => e = .returned (.bool r) ∧ Below w.heap.size w w' := by
 have hu41 := Try.underlying41
 have hu116 := Try.underlying116
 have hu74 := Try.underlying74
 have HR0_2 := Aside0.mk hr0_2
 have HC0_2 := Aside0.mk hc0_2
 clear hr0_2 hc0_2
 have HR0_3 := Aside0.mk hr0_3
 have HC0_3 := Aside0.mk hc0_3
 clear hr0_3 hc0_3
 have HR0_4 := Aside0.mk hr0_4
 have HC0_4 := Aside0.mk hc0_4
 clear hr0_4 hc0_4
 have HR1_2 := Aside0.mk hr1_2
 have HC1_2 := Aside0.mk hc1_2
 clear hr1_2 hc1_2
 have HR1_3 := Aside0.mk hr1_3
 have HC1_3 := Aside0.mk hc1_3
 clear hr1_3 hc1_3
 have HR1_4 := Aside0.mk hr1_4
 have HC1_4 := Aside0.mk hc1_4
 clear hr1_4 hc1_4
 have HB := Aside0.mk (Below.refl w.heap.size w)
 have H : ((spec_l01Same.f k [(⟨a0_0, a0_1, l0_2⟩ : S37)] [(⟨a1_0, a1_1, l1_2⟩ : S37)]).bind fun t203 => (if t203 = true then (if (l0_3.length : Int) = (l1_3.length : Int) then (spec_SameMachine.j0 k ((l0_4.length : Int) != (l1_4.length : Int)) a0_0 a0_1 l0_2 l0_3 l0_4 a1_0 a1_1 l1_2 l1_3 l1_4) else (spec_SameMachine.j0 k true a0_0 a0_1 l0_2 l0_3 l0_4 a1_0 a1_1 l1_2 l1_3 l1_4)) else (spec_SameMachine.j0 k true a0_0 a0_1 l0_2 l0_3 l0_4 a1_0 a1_1 l1_2 l1_3 l1_4))) = some r := h
 clear h
 have HC3 := Aside0.mk H
 clear H
 go_enter Try.func60, Try.ntmps60
 go_upto_region 1 with (first | ((with_reducible refine gate_dst (N := 2) rfl ?_); (try (refine gate_guard (by rfl) ?_; dsimp only)); refine box_event ?hg (N := 2) ?hd (cs := #[.int .i8 a0_0, .int .i8 a0_1, .slice A0_2 l0_2.length c0_2, .slice A0_3 l0_3.length c0_3, .slice A0_4 l0_4.length c0_4]) (t := 41) ?hr ?_; (case hd => rfl); (case hg => rfl); (case hr => first | (go_simp; done) | (go_simp; rfl)); intro gb201 hg w4 hbox hb; have n0_ := Aside0.mk (below_step (by repeat (first | (with_reducible first | exact HB.out | apply below_alloc | apply pw_below_drewN | apply below_drew1) | exact HB.out)) hb); have n1_ := Aside0.mk (hbox); have n2_ := Aside0.mk ((by rw [hg]; exact (below_size (by repeat (first | (with_reducible first | exact HB.out | apply below_alloc | apply pw_below_drewN | apply below_drew1) | exact HB.out))) : w.heap.size ≤ gb201)); have n3_ := Aside0.mk ((by rw [hg]; exact (below_size (by repeat (first | (with_reducible first | exact HB.out | apply below_alloc | apply pw_below_drewN | apply below_drew1) | exact HB.out))) : w.heap.size ≤ gb201)); clear HB; have HB := n0_; have BK201 := n1_; have GW201 := n2_; have GE201 := n3_; clear n0_ n1_ n2_ n3_; clear hb hbox hg) | ((with_reducible refine gate_dst (N := 3) rfl ?_); (try (refine gate_guard (by rfl) ?_; dsimp only)); refine box_event ?hg (N := 3) ?hd (cs := #[.int .i8 a1_0, .int .i8 a1_1, .slice A1_2 l1_2.length c1_2, .slice A1_3 l1_3.length c1_3, .slice A1_4 l1_4.length c1_4]) (t := 41) ?hr ?_; (case hd => rfl); (case hg => rfl); (case hr => first | (go_simp; done) | (go_simp; rfl)); intro gb202 hg w5 hbox hb; have n0_ := Aside0.mk (blk_below (g := gb201) (o := .cells #[.int .i8 a0_0, .int .i8 a0_1, .slice A0_2 l0_2.length c0_2, .slice A0_3 l0_3.length c0_3, .slice A0_4 l0_4.length c0_4] 41 (0, 0)) (by (with_reducible repeat (first | refine blk_drewN ?_ _ | refine blk_drew ?_ | refine blk_alloc ?_ _)); exact BK201.out) hb); have n1_ := Aside0.mk (below_step (by repeat (first | (with_reducible first | exact HB.out | apply below_alloc | apply pw_below_drewN | apply below_drew1 | refine below_set ?_ GE201.out) | exact HB.out)) hb); have n2_ := Aside0.mk (hbox); have n3_ := Aside0.mk ((by rw [hg]; exact (below_size (by repeat (first | (with_reducible first | exact HB.out | apply below_alloc | apply pw_below_drewN | apply below_drew1 | refine below_set ?_ GE201.out) | exact HB.out))) : w.heap.size ≤ gb202)); have n4_ := Aside0.mk ((by rw [hg]; exact (below_size (by repeat (first | (with_reducible first | exact HB.out | apply below_alloc | apply pw_below_drewN | apply below_drew1 | refine below_set ?_ GE201.out) | exact HB.out))) : w.heap.size ≤ gb202)); have n5_ := Aside0.mk ((by rw [hg]; exact Nat.ne_of_lt (blk_lt (g := gb201) (o := .cells #[.int .i8 a0_0, .int .i8 a0_1, .slice A0_2 l0_2.length c0_2, .slice A0_3 l0_3.length c0_3, .slice A0_4 l0_4.length c0_4] 41 (0, 0)) (by (with_reducible repeat (first | refine blk_drewN ?_ _ | refine blk_drew ?_ | refine blk_alloc ?_ _)); exact BK201.out)) : gb201 ≠ gb202)); have n6_ := Aside0.mk ((by rw [hg]; exact Nat.ne_of_gt (blk_lt (g := gb201) (o := .cells #[.int .i8 a0_0, .int .i8 a0_1, .slice A0_2 l0_2.length c0_2, .slice A0_3 l0_3.length c0_3, .slice A0_4 l0_4.length c0_4] 41 (0, 0)) (by (with_reducible repeat (first | refine blk_drewN ?_ _ | refine blk_drew ?_ | refine blk_alloc ?_ _)); exact BK201.out)) : gb202 ≠ gb201)); clear BK201; clear HB; have BK201 := n0_; have HB := n1_; have BK202 := n2_; have GW202 := n3_; have GE202 := n4_; have NB201_202 := n5_; have NB202_201 := n6_; clear n0_ n1_ n2_ n3_ n4_ n5_ n6_; clear hb hbox hg))
 repeat (go_quiet (first | ((with_reducible refine gate_dst (N := 2) rfl ?_); (try (refine gate_guard (by rfl) ?_; dsimp only)); refine box_event ?hg (N := 2) ?hd (cs := #[.int .i8 a0_0, .int .i8 a0_1, .slice A0_2 l0_2.length c0_2, .slice A0_3 l0_3.length c0_3, .slice A0_4 l0_4.length c0_4]) (t := 41) ?hr ?_; (case hd => rfl); (case hg => rfl); (case hr => first | (go_simp; done) | (go_simp; rfl)); intro gb201 hg w4 hbox hb; have n0_ := Aside0.mk (below_step (by repeat (first | (with_reducible first | exact HB.out | apply below_alloc | apply pw_below_drewN | apply below_drew1) | exact HB.out)) hb); have n1_ := Aside0.mk (hbox); have n2_ := Aside0.mk ((by rw [hg]; exact (below_size (by repeat (first | (with_reducible first | exact HB.out | apply below_alloc | apply pw_below_drewN | apply below_drew1) | exact HB.out))) : w.heap.size ≤ gb201)); have n3_ := Aside0.mk ((by rw [hg]; exact (below_size (by repeat (first | (with_reducible first | exact HB.out | apply below_alloc | apply pw_below_drewN | apply below_drew1) | exact HB.out))) : w.heap.size ≤ gb201)); clear HB; have HB := n0_; have BK201 := n1_; have GW201 := n2_; have GE201 := n3_; clear n0_ n1_ n2_ n3_; clear hb hbox hg) | ((with_reducible refine gate_dst (N := 3) rfl ?_); (try (refine gate_guard (by rfl) ?_; dsimp only)); refine box_event ?hg (N := 3) ?hd (cs := #[.int .i8 a1_0, .int .i8 a1_1, .slice A1_2 l1_2.length c1_2, .slice A1_3 l1_3.length c1_3, .slice A1_4 l1_4.length c1_4]) (t := 41) ?hr ?_; (case hd => rfl); (case hg => rfl); (case hr => first | (go_simp; done) | (go_simp; rfl)); intro gb202 hg w5 hbox hb; have n0_ := Aside0.mk (blk_below (g := gb201) (o := .cells #[.int .i8 a0_0, .int .i8 a0_1, .slice A0_2 l0_2.length c0_2, .slice A0_3 l0_3.length c0_3, .slice A0_4 l0_4.length c0_4] 41 (0, 0)) (by (with_reducible repeat (first | refine blk_drewN ?_ _ | refine blk_drew ?_ | refine blk_alloc ?_ _)); exact BK201.out) hb); have n1_ := Aside0.mk (below_step (by repeat (first | (with_reducible first | exact HB.out | apply below_alloc | apply pw_below_drewN | apply below_drew1 | refine below_set ?_ GE201.out) | exact HB.out)) hb); have n2_ := Aside0.mk (hbox); have n3_ := Aside0.mk ((by rw [hg]; exact (below_size (by repeat (first | (with_reducible first | exact HB.out | apply below_alloc | apply pw_below_drewN | apply below_drew1 | refine below_set ?_ GE201.out) | exact HB.out))) : w.heap.size ≤ gb202)); have n4_ := Aside0.mk ((by rw [hg]; exact (below_size (by repeat (first | (with_reducible first | exact HB.out | apply below_alloc | apply pw_below_drewN | apply below_drew1 | refine below_set ?_ GE201.out) | exact HB.out))) : w.heap.size ≤ gb202)); have n5_ := Aside0.mk ((by rw [hg]; exact Nat.ne_of_lt (blk_lt (g := gb201) (o := .cells #[.int .i8 a0_0, .int .i8 a0_1, .slice A0_2 l0_2.length c0_2, .slice A0_3 l0_3.length c0_3, .slice A0_4 l0_4.length c0_4] 41 (0, 0)) (by (with_reducible repeat (first | refine blk_drewN ?_ _ | refine blk_drew ?_ | refine blk_alloc ?_ _)); exact BK201.out)) : gb201 ≠ gb202)); have n6_ := Aside0.mk ((by rw [hg]; exact Nat.ne_of_gt (blk_lt (g := gb201) (o := .cells #[.int .i8 a0_0, .int .i8 a0_1, .slice A0_2 l0_2.length c0_2, .slice A0_3 l0_3.length c0_3, .slice A0_4 l0_4.length c0_4] 41 (0, 0)) (by (with_reducible repeat (first | refine blk_drewN ?_ _ | refine blk_drew ?_ | refine blk_alloc ?_ _)); exact BK201.out)) : gb202 ≠ gb201)); clear BK201; clear HB; have BK201 := n0_; have HB := n1_; have BK202 := n2_; have GW202 := n3_; have GE202 := n4_; have NB201_202 := n5_; have NB202_201 := n6_; clear n0_ n1_ n2_ n3_ n4_ n5_ n6_; clear hb hbox hg)); go_upto_region 1 with (first | ((with_reducible refine gate_dst (N := 2) rfl ?_); (try (refine gate_guard (by rfl) ?_; dsimp only)); refine box_event ?hg (N := 2) ?hd (cs := #[.int .i8 a0_0, .int .i8 a0_1, .slice A0_2 l0_2.length c0_2, .slice A0_3 l0_3.length c0_3, .slice A0_4 l0_4.length c0_4]) (t := 41) ?hr ?_; (case hd => rfl); (case hg => rfl); (case hr => first | (go_simp; done) | (go_simp; rfl)); intro gb201 hg w4 hbox hb; have n0_ := Aside0.mk (below_step (by repeat (first | (with_reducible first | exact HB.out | apply below_alloc | apply pw_below_drewN | apply below_drew1) | exact HB.out)) hb); have n1_ := Aside0.mk (hbox); have n2_ := Aside0.mk ((by rw [hg]; exact (below_size (by repeat (first | (with_reducible first | exact HB.out | apply below_alloc | apply pw_below_drewN | apply below_drew1) | exact HB.out))) : w.heap.size ≤ gb201)); have n3_ := Aside0.mk ((by rw [hg]; exact (below_size (by repeat (first | (with_reducible first | exact HB.out | apply below_alloc | apply pw_below_drewN | apply below_drew1) | exact HB.out))) : w.heap.size ≤ gb201)); clear HB; have HB := n0_; have BK201 := n1_; have GW201 := n2_; have GE201 := n3_; clear n0_ n1_ n2_ n3_; clear hb hbox hg) | ((with_reducible refine gate_dst (N := 3) rfl ?_); (try (refine gate_guard (by rfl) ?_; dsimp only)); refine box_event ?hg (N := 3) ?hd (cs := #[.int .i8 a1_0, .int .i8 a1_1, .slice A1_2 l1_2.length c1_2, .slice A1_3 l1_3.length c1_3, .slice A1_4 l1_4.length c1_4]) (t := 41) ?hr ?_; (case hd => rfl); (case hg => rfl); (case hr => first | (go_simp; done) | (go_simp; rfl)); intro gb202 hg w5 hbox hb; have n0_ := Aside0.mk (blk_below (g := gb201) (o := .cells #[.int .i8 a0_0, .int .i8 a0_1, .slice A0_2 l0_2.length c0_2, .slice A0_3 l0_3.length c0_3, .slice A0_4 l0_4.length c0_4] 41 (0, 0)) (by (with_reducible repeat (first | refine blk_drewN ?_ _ | refine blk_drew ?_ | refine blk_alloc ?_ _)); exact BK201.out) hb); have n1_ := Aside0.mk (below_step (by repeat (first | (with_reducible first | exact HB.out | apply below_alloc | apply pw_below_drewN | apply below_drew1 | refine below_set ?_ GE201.out) | exact HB.out)) hb); have n2_ := Aside0.mk (hbox); have n3_ := Aside0.mk ((by rw [hg]; exact (below_size (by repeat (first | (with_reducible first | exact HB.out | apply below_alloc | apply pw_below_drewN | apply below_drew1 | refine below_set ?_ GE201.out) | exact HB.out))) : w.heap.size ≤ gb202)); have n4_ := Aside0.mk ((by rw [hg]; exact (below_size (by repeat (first | (with_reducible first | exact HB.out | apply below_alloc | apply pw_below_drewN | apply below_drew1 | refine below_set ?_ GE201.out) | exact HB.out))) : w.heap.size ≤ gb202)); have n5_ := Aside0.mk ((by rw [hg]; exact Nat.ne_of_lt (blk_lt (g := gb201) (o := .cells #[.int .i8 a0_0, .int .i8 a0_1, .slice A0_2 l0_2.length c0_2, .slice A0_3 l0_3.length c0_3, .slice A0_4 l0_4.length c0_4] 41 (0, 0)) (by (with_reducible repeat (first | refine blk_drewN ?_ _ | refine blk_drew ?_ | refine blk_alloc ?_ _)); exact BK201.out)) : gb201 ≠ gb202)); have n6_ := Aside0.mk ((by rw [hg]; exact Nat.ne_of_gt (blk_lt (g := gb201) (o := .cells #[.int .i8 a0_0, .int .i8 a0_1, .slice A0_2 l0_2.length c0_2, .slice A0_3 l0_3.length c0_3, .slice A0_4 l0_4.length c0_4] 41 (0, 0)) (by (with_reducible repeat (first | refine blk_drewN ?_ _ | refine blk_drew ?_ | refine blk_alloc ?_ _)); exact BK201.out)) : gb202 ≠ gb201)); clear BK201; clear HB; have BK201 := n0_; have HB := n1_; have BK202 := n2_; have GW202 := n3_; have GE202 := n4_; have NB201_202 := n5_; have NB202_201 := n6_; clear n0_ n1_ n2_ n3_ n4_ n5_ n6_; clear hb hbox hg)))
 (try simp only [Act.put, List.setIfInBounds_toArray, List.set_cons_zero, List.set_cons_succ])
 go_cut [28] (fun v28 wc => ∃ (kq : Nat) (x28_2 : Bool), v28 = .bool x28_2 ∧ Aside0 (spec_SameMachine.j0 kq x28_2 a0_0 a0_1 l0_2 l0_3 l0_4 a1_0 a1_1 l1_2 l1_3 l1_4 = some r) ∧ Aside0 (kq ≤ k) ∧ Aside0 (wc.heap[gb201]? = some (.cells #[.int .i8 a0_0, .int .i8 a0_1, (.slice A0_2 l0_2.length c0_2), (.slice A0_3 l0_3.length c0_3), (.slice A0_4 l0_4.length c0_4)] 41 (0, 0))) ∧ Aside0 (wc.heap[gb202]? = some (.cells #[.int .i8 a1_0, .int .i8 a1_1, (.slice A1_2 l1_2.length c1_2), (.slice A1_3 l1_3.length c1_3), (.slice A1_4 l1_4.length c1_4)] 41 (0, 0))) ∧ Aside0 (Below w.heap.size w wc))
 case first =>
  have H := HC3.out
  clear HC3
  replace H := Option.bind_eq_some_iff.mp H
  obtain ⟨t203, A60, H⟩ := H
  replace H : (if t203 = true then (if (l0_3.length : Int) = (l1_3.length : Int) then (spec_SameMachine.j0 k ((l0_4.length : Int) != (l1_4.length : Int)) a0_0 a0_1 l0_2 l0_3 l0_4 a1_0 a1_1 l1_2 l1_3 l1_4) else (spec_SameMachine.j0 k true a0_0 a0_1 l0_2 l0_3 l0_4 a1_0 a1_1 l1_2 l1_3 l1_4)) else (spec_SameMachine.j0 k true a0_0 a0_1 l0_2 l0_3 l0_4 a1_0 a1_1 l1_2 l1_3 l1_4)) = some r := H
  have A6 := Aside0.mk A60
  clear A60
  by_cases c7 : t203 = true
  ·subst c7
   have H1 : (if (l0_3.length : Int) = (l1_3.length : Int) then (spec_SameMachine.j0 k ((l0_4.length : Int) != (l1_4.length : Int)) a0_0 a0_1 l0_2 l0_3 l0_4 a1_0 a1_1 l1_2 l1_3 l1_4) else (spec_SameMachine.j0 k true a0_0 a0_1 l0_2 l0_3 l0_4 a1_0 a1_1 l1_2 l1_3 l1_4)) = some r := by rw [if_pos rfl] at H; exact H
   clear H
   have H := H1
   clear H1
   by_cases c8 : (l0_3.length : Int) = (l1_3.length : Int)
   ·rw [if_pos c8] at H
    have c8b0 : ((l0_3.length : Int) == (l1_3.length : Int)) = true := beq_iff_eq.mpr c8
    have c8b1 : ((l0_3.length : Int) != (l1_3.length : Int)) = false := bne_eq_false_iff_eq.mpr c8
    have c8b2 : (l0_3.length == l1_3.length) = true := by first | simpa using c8 | (simp at c8 ⊢; omega)
    clear c8
    (first | rw [c8b0] | (simp only [i64_w, i32_w]; rw [c8b0]) | (have h_ := c8b0; simp only [bne] at h_; rw [h_]) | skip)
    have H' := Aside0.mk H
    clear H
    go_wp2_with (first | (go_at_call 127; (with_reducible refine (spec_l01Same.calls k _ [(⟨a0_0, a0_1, l0_2⟩ : S37)] _ [(⟨a1_0, a1_1, l1_2⟩ : S37)] true _ ?side1 ?side2 A6.out).mono ?_); (case side1 => refine ro_of_part (cs := #[.int .i8 a0_0, .int .i8 a0_1, .slice A0_2 l0_2.length c0_2, .slice A0_3 l0_3.length c0_3, .slice A0_4 l0_4.length c0_4]) (o := 0) (n := 3) (by (with_reducible repeat (first | refine blk_drewN ?_ _ | refine blk_drew ?_ | refine blk_alloc ?_ _)); exact BK201.out) ?_; exact k37_mk _ (⟨a0_0, a0_1, l0_2⟩ : S37) (by exact HC0_2.out) (by repeat (first | exact (Kd.C_below HR0_2.out HB.out) | (with_reducible refine Kd.C_alloc ?_ _) | (with_reducible refine Kd.C_drewN ?_ _) | (with_reducible refine Kd.C_drew ?_)))); (case side2 => refine ro_of_part (cs := #[.int .i8 a1_0, .int .i8 a1_1, .slice A1_2 l1_2.length c1_2, .slice A1_3 l1_3.length c1_3, .slice A1_4 l1_4.length c1_4]) (o := 0) (n := 3) (by (with_reducible repeat (first | refine blk_drewN ?_ _ | refine blk_drew ?_ | refine blk_alloc ?_ _)); exact BK202.out) ?_; exact k37_mk _ (⟨a1_0, a1_1, l1_2⟩ : S37) (by exact HC1_2.out) (by repeat (first | exact (Kd.C_below HR1_2.out HB.out) | (with_reducible refine Kd.C_alloc ?_ _) | (with_reducible refine Kd.C_drewN ?_ _) | (with_reducible refine Kd.C_drew ?_)))); rintro e w' ⟨rfl, ⟨nd, rfl⟩⟩; (try first | exact ⟨rfl, _, World.drewN_drewN _ _ _⟩ | exact ⟨rfl, _, Eq.trans (World.drewN_drewN _ _ _) (congrArg (World.drewN _) (Nat.add_assoc _ _ _))⟩); have hnb9 := NB201_202.out; have hnc9 := NB202_201.out; have hcz10_0 : w5.cell? ⟨gb201, 0, none⟩ = some (.int .i8 a0_0) := (blk_cell BK201.out 0).trans rfl; have hcz10_1 : w5.cell? ⟨gb201, 1, none⟩ = some (.int .i8 a0_1) := (blk_cell BK201.out 1).trans rfl; have hcz10_2 : w5.cell? ⟨gb201, 2, none⟩ = some (.slice A0_2 l0_2.length c0_2) := (blk_cell BK201.out 2).trans rfl; have hcz10_3 : w5.cell? ⟨gb201, 3, none⟩ = some (.slice A0_3 l0_3.length c0_3) := (blk_cell BK201.out 3).trans rfl; have hcz10_4 : w5.cell? ⟨gb201, 4, none⟩ = some (.slice A0_4 l0_4.length c0_4) := (blk_cell BK201.out 4).trans rfl; have hfz10_0 := blk_frozen BK201.out 0; have hfz10_1 := blk_frozen BK201.out 1; have hfz10_2 := blk_frozen BK201.out 2; have hfz10_3 := blk_frozen BK201.out 3; have hfz10_4 := blk_frozen BK201.out 4; have hcz11_0 : w5.cell? ⟨gb202, 0, none⟩ = some (.int .i8 a1_0) := (blk_cell BK202.out 0).trans rfl; have hcz11_1 : w5.cell? ⟨gb202, 1, none⟩ = some (.int .i8 a1_1) := (blk_cell BK202.out 1).trans rfl; have hcz11_2 : w5.cell? ⟨gb202, 2, none⟩ = some (.slice A1_2 l1_2.length c1_2) := (blk_cell BK202.out 2).trans rfl; have hcz11_3 : w5.cell? ⟨gb202, 3, none⟩ = some (.slice A1_3 l1_3.length c1_3) := (blk_cell BK202.out 3).trans rfl; have hcz11_4 : w5.cell? ⟨gb202, 4, none⟩ = some (.slice A1_4 l1_4.length c1_4) := (blk_cell BK202.out 4).trans rfl; have hfz11_0 := blk_frozen BK202.out 0; have hfz11_1 := blk_frozen BK202.out 1; have hfz11_2 := blk_frozen BK202.out 2; have hfz11_3 := blk_frozen BK202.out 3; have hfz11_4 := blk_frozen BK202.out 4))
    repeat (go_quiet (first | (go_at_call 127; (with_reducible refine (spec_l01Same.calls k _ [(⟨a0_0, a0_1, l0_2⟩ : S37)] _ [(⟨a1_0, a1_1, l1_2⟩ : S37)] true _ ?side1 ?side2 A6.out).mono ?_); (case side1 => refine ro_of_part (cs := #[.int .i8 a0_0, .int .i8 a0_1, .slice A0_2 l0_2.length c0_2, .slice A0_3 l0_3.length c0_3, .slice A0_4 l0_4.length c0_4]) (o := 0) (n := 3) (by (with_reducible repeat (first | refine blk_drewN ?_ _ | refine blk_drew ?_ | refine blk_alloc ?_ _)); exact BK201.out) ?_; exact k37_mk _ (⟨a0_0, a0_1, l0_2⟩ : S37) (by exact HC0_2.out) (by repeat (first | exact (Kd.C_below HR0_2.out HB.out) | (with_reducible refine Kd.C_alloc ?_ _) | (with_reducible refine Kd.C_drewN ?_ _) | (with_reducible refine Kd.C_drew ?_)))); (case side2 => refine ro_of_part (cs := #[.int .i8 a1_0, .int .i8 a1_1, .slice A1_2 l1_2.length c1_2, .slice A1_3 l1_3.length c1_3, .slice A1_4 l1_4.length c1_4]) (o := 0) (n := 3) (by (with_reducible repeat (first | refine blk_drewN ?_ _ | refine blk_drew ?_ | refine blk_alloc ?_ _)); exact BK202.out) ?_; exact k37_mk _ (⟨a1_0, a1_1, l1_2⟩ : S37) (by exact HC1_2.out) (by repeat (first | exact (Kd.C_below HR1_2.out HB.out) | (with_reducible refine Kd.C_alloc ?_ _) | (with_reducible refine Kd.C_drewN ?_ _) | (with_reducible refine Kd.C_drew ?_)))); rintro e w' ⟨rfl, ⟨nd, rfl⟩⟩; (try first | exact ⟨rfl, _, World.drewN_drewN _ _ _⟩ | exact ⟨rfl, _, Eq.trans (World.drewN_drewN _ _ _) (congrArg (World.drewN _) (Nat.add_assoc _ _ _))⟩); have hnb9 := NB201_202.out; have hnc9 := NB202_201.out; have hcz10_0 : w5.cell? ⟨gb201, 0, none⟩ = some (.int .i8 a0_0) := (blk_cell BK201.out 0).trans rfl; have hcz10_1 : w5.cell? ⟨gb201, 1, none⟩ = some (.int .i8 a0_1) := (blk_cell BK201.out 1).trans rfl; have hcz10_2 : w5.cell? ⟨gb201, 2, none⟩ = some (.slice A0_2 l0_2.length c0_2) := (blk_cell BK201.out 2).trans rfl; have hcz10_3 : w5.cell? ⟨gb201, 3, none⟩ = some (.slice A0_3 l0_3.length c0_3) := (blk_cell BK201.out 3).trans rfl; have hcz10_4 : w5.cell? ⟨gb201, 4, none⟩ = some (.slice A0_4 l0_4.length c0_4) := (blk_cell BK201.out 4).trans rfl; have hfz10_0 := blk_frozen BK201.out 0; have hfz10_1 := blk_frozen BK201.out 1; have hfz10_2 := blk_frozen BK201.out 2; have hfz10_3 := blk_frozen BK201.out 3; have hfz10_4 := blk_frozen BK201.out 4; have hcz11_0 : w5.cell? ⟨gb202, 0, none⟩ = some (.int .i8 a1_0) := (blk_cell BK202.out 0).trans rfl; have hcz11_1 : w5.cell? ⟨gb202, 1, none⟩ = some (.int .i8 a1_1) := (blk_cell BK202.out 1).trans rfl; have hcz11_2 : w5.cell? ⟨gb202, 2, none⟩ = some (.slice A1_2 l1_2.length c1_2) := (blk_cell BK202.out 2).trans rfl; have hcz11_3 : w5.cell? ⟨gb202, 3, none⟩ = some (.slice A1_3 l1_3.length c1_3) := (blk_cell BK202.out 3).trans rfl; have hcz11_4 : w5.cell? ⟨gb202, 4, none⟩ = some (.slice A1_4 l1_4.length c1_4) := (blk_cell BK202.out 4).trans rfl; have hfz11_0 := blk_frozen BK202.out 0; have hfz11_1 := blk_frozen BK202.out 1; have hfz11_2 := blk_frozen BK202.out 2; have hfz11_3 := blk_frozen BK202.out 3; have hfz11_4 := blk_frozen BK202.out 4)); try go_wp2_with (first | (go_at_call 127; (with_reducible refine (spec_l01Same.calls k _ [(⟨a0_0, a0_1, l0_2⟩ : S37)] _ [(⟨a1_0, a1_1, l1_2⟩ : S37)] true _ ?side1 ?side2 A6.out).mono ?_); (case side1 => refine ro_of_part (cs := #[.int .i8 a0_0, .int .i8 a0_1, .slice A0_2 l0_2.length c0_2, .slice A0_3 l0_3.length c0_3, .slice A0_4 l0_4.length c0_4]) (o := 0) (n := 3) (by (with_reducible repeat (first | refine blk_drewN ?_ _ | refine blk_drew ?_ | refine blk_alloc ?_ _)); exact BK201.out) ?_; exact k37_mk _ (⟨a0_0, a0_1, l0_2⟩ : S37) (by exact HC0_2.out) (by repeat (first | exact (Kd.C_below HR0_2.out HB.out) | (with_reducible refine Kd.C_alloc ?_ _) | (with_reducible refine Kd.C_drewN ?_ _) | (with_reducible refine Kd.C_drew ?_)))); (case side2 => refine ro_of_part (cs := #[.int .i8 a1_0, .int .i8 a1_1, .slice A1_2 l1_2.length c1_2, .slice A1_3 l1_3.length c1_3, .slice A1_4 l1_4.length c1_4]) (o := 0) (n := 3) (by (with_reducible repeat (first | refine blk_drewN ?_ _ | refine blk_drew ?_ | refine blk_alloc ?_ _)); exact BK202.out) ?_; exact k37_mk _ (⟨a1_0, a1_1, l1_2⟩ : S37) (by exact HC1_2.out) (by repeat (first | exact (Kd.C_below HR1_2.out HB.out) | (with_reducible refine Kd.C_alloc ?_ _) | (with_reducible refine Kd.C_drewN ?_ _) | (with_reducible refine Kd.C_drew ?_)))); rintro e w' ⟨rfl, ⟨nd, rfl⟩⟩; (try first | exact ⟨rfl, _, World.drewN_drewN _ _ _⟩ | exact ⟨rfl, _, Eq.trans (World.drewN_drewN _ _ _) (congrArg (World.drewN _) (Nat.add_assoc _ _ _))⟩); have hnb9 := NB201_202.out; have hnc9 := NB202_201.out; have hcz10_0 : w5.cell? ⟨gb201, 0, none⟩ = some (.int .i8 a0_0) := (blk_cell BK201.out 0).trans rfl; have hcz10_1 : w5.cell? ⟨gb201, 1, none⟩ = some (.int .i8 a0_1) := (blk_cell BK201.out 1).trans rfl; have hcz10_2 : w5.cell? ⟨gb201, 2, none⟩ = some (.slice A0_2 l0_2.length c0_2) := (blk_cell BK201.out 2).trans rfl; have hcz10_3 : w5.cell? ⟨gb201, 3, none⟩ = some (.slice A0_3 l0_3.length c0_3) := (blk_cell BK201.out 3).trans rfl; have hcz10_4 : w5.cell? ⟨gb201, 4, none⟩ = some (.slice A0_4 l0_4.length c0_4) := (blk_cell BK201.out 4).trans rfl; have hfz10_0 := blk_frozen BK201.out 0; have hfz10_1 := blk_frozen BK201.out 1; have hfz10_2 := blk_frozen BK201.out 2; have hfz10_3 := blk_frozen BK201.out 3; have hfz10_4 := blk_frozen BK201.out 4; have hcz11_0 : w5.cell? ⟨gb202, 0, none⟩ = some (.int .i8 a1_0) := (blk_cell BK202.out 0).trans rfl; have hcz11_1 : w5.cell? ⟨gb202, 1, none⟩ = some (.int .i8 a1_1) := (blk_cell BK202.out 1).trans rfl; have hcz11_2 : w5.cell? ⟨gb202, 2, none⟩ = some (.slice A1_2 l1_2.length c1_2) := (blk_cell BK202.out 2).trans rfl; have hcz11_3 : w5.cell? ⟨gb202, 3, none⟩ = some (.slice A1_3 l1_3.length c1_3) := (blk_cell BK202.out 3).trans rfl; have hcz11_4 : w5.cell? ⟨gb202, 4, none⟩ = some (.slice A1_4 l1_4.length c1_4) := (blk_cell BK202.out 4).trans rfl; have hfz11_0 := blk_frozen BK202.out 0; have hfz11_1 := blk_frozen BK202.out 1; have hfz11_2 := blk_frozen BK202.out 2; have hfz11_3 := blk_frozen BK202.out 3; have hfz11_4 := blk_frozen BK202.out 4)))
    go_meet
    case rel => exact ⟨_, (((l0_4.length : Int) != (l1_4.length : Int))), (by first | rfl | (simp; done) | (simp [*]; done) | (exact congrArg (Value.int .i64) (wrap_eq (by omega)))), H', ⟨by first | omega | exact Nat.le_refl _⟩, ⟨by (with_reducible repeat (first | refine blk_drewN ?_ _ | refine blk_drew ?_ | refine blk_alloc ?_ _)); exact BK201.out⟩, ⟨by (with_reducible repeat (first | refine blk_drewN ?_ _ | refine blk_drew ?_ | refine blk_alloc ?_ _)); exact BK202.out⟩, ⟨by repeat (first | (with_reducible first | exact HB.out | apply below_alloc | apply pw_below_drewN | apply below_drew1 | refine below_set ?_ GE201.out | refine below_set ?_ GE202.out) | exact HB.out)⟩⟩
   ·rw [if_neg c8] at H
    have c8b0 : ((l0_3.length : Int) == (l1_3.length : Int)) = false := beq_eq_false_iff_ne.mpr c8
    have c8b1 : ((l0_3.length : Int) != (l1_3.length : Int)) = true := bne_iff_ne.mpr c8
    have c8b2 : (l0_3.length == l1_3.length) = false := by first | simpa using c8 | (simp at c8 ⊢; omega)
    (first | rw [c8b0] | (simp only [i64_w, i32_w]; rw [c8b0]) | (have h_ := c8b0; simp only [bne] at h_; rw [h_]) | skip)
    have H' := Aside0.mk H
    clear H
    go_wp2_with (first | (go_at_call 127; (with_reducible refine (spec_l01Same.calls k _ [(⟨a0_0, a0_1, l0_2⟩ : S37)] _ [(⟨a1_0, a1_1, l1_2⟩ : S37)] true _ ?side1 ?side2 A6.out).mono ?_); (case side1 => refine ro_of_part (cs := #[.int .i8 a0_0, .int .i8 a0_1, .slice A0_2 l0_2.length c0_2, .slice A0_3 l0_3.length c0_3, .slice A0_4 l0_4.length c0_4]) (o := 0) (n := 3) (by (with_reducible repeat (first | refine blk_drewN ?_ _ | refine blk_drew ?_ | refine blk_alloc ?_ _)); exact BK201.out) ?_; exact k37_mk _ (⟨a0_0, a0_1, l0_2⟩ : S37) (by exact HC0_2.out) (by repeat (first | exact (Kd.C_below HR0_2.out HB.out) | (with_reducible refine Kd.C_alloc ?_ _) | (with_reducible refine Kd.C_drewN ?_ _) | (with_reducible refine Kd.C_drew ?_)))); (case side2 => refine ro_of_part (cs := #[.int .i8 a1_0, .int .i8 a1_1, .slice A1_2 l1_2.length c1_2, .slice A1_3 l1_3.length c1_3, .slice A1_4 l1_4.length c1_4]) (o := 0) (n := 3) (by (with_reducible repeat (first | refine blk_drewN ?_ _ | refine blk_drew ?_ | refine blk_alloc ?_ _)); exact BK202.out) ?_; exact k37_mk _ (⟨a1_0, a1_1, l1_2⟩ : S37) (by exact HC1_2.out) (by repeat (first | exact (Kd.C_below HR1_2.out HB.out) | (with_reducible refine Kd.C_alloc ?_ _) | (with_reducible refine Kd.C_drewN ?_ _) | (with_reducible refine Kd.C_drew ?_)))); rintro e w' ⟨rfl, ⟨nd, rfl⟩⟩; (try first | exact ⟨rfl, _, World.drewN_drewN _ _ _⟩ | exact ⟨rfl, _, Eq.trans (World.drewN_drewN _ _ _) (congrArg (World.drewN _) (Nat.add_assoc _ _ _))⟩); have hnb12 := NB201_202.out; have hnc12 := NB202_201.out; have hcz13_0 : w5.cell? ⟨gb201, 0, none⟩ = some (.int .i8 a0_0) := (blk_cell BK201.out 0).trans rfl; have hcz13_1 : w5.cell? ⟨gb201, 1, none⟩ = some (.int .i8 a0_1) := (blk_cell BK201.out 1).trans rfl; have hcz13_2 : w5.cell? ⟨gb201, 2, none⟩ = some (.slice A0_2 l0_2.length c0_2) := (blk_cell BK201.out 2).trans rfl; have hcz13_3 : w5.cell? ⟨gb201, 3, none⟩ = some (.slice A0_3 l0_3.length c0_3) := (blk_cell BK201.out 3).trans rfl; have hcz13_4 : w5.cell? ⟨gb201, 4, none⟩ = some (.slice A0_4 l0_4.length c0_4) := (blk_cell BK201.out 4).trans rfl; have hfz13_0 := blk_frozen BK201.out 0; have hfz13_1 := blk_frozen BK201.out 1; have hfz13_2 := blk_frozen BK201.out 2; have hfz13_3 := blk_frozen BK201.out 3; have hfz13_4 := blk_frozen BK201.out 4; have hcz14_0 : w5.cell? ⟨gb202, 0, none⟩ = some (.int .i8 a1_0) := (blk_cell BK202.out 0).trans rfl; have hcz14_1 : w5.cell? ⟨gb202, 1, none⟩ = some (.int .i8 a1_1) := (blk_cell BK202.out 1).trans rfl; have hcz14_2 : w5.cell? ⟨gb202, 2, none⟩ = some (.slice A1_2 l1_2.length c1_2) := (blk_cell BK202.out 2).trans rfl; have hcz14_3 : w5.cell? ⟨gb202, 3, none⟩ = some (.slice A1_3 l1_3.length c1_3) := (blk_cell BK202.out 3).trans rfl; have hcz14_4 : w5.cell? ⟨gb202, 4, none⟩ = some (.slice A1_4 l1_4.length c1_4) := (blk_cell BK202.out 4).trans rfl; have hfz14_0 := blk_frozen BK202.out 0; have hfz14_1 := blk_frozen BK202.out 1; have hfz14_2 := blk_frozen BK202.out 2; have hfz14_3 := blk_frozen BK202.out 3; have hfz14_4 := blk_frozen BK202.out 4))
    repeat (go_quiet (first | (go_at_call 127; (with_reducible refine (spec_l01Same.calls k _ [(⟨a0_0, a0_1, l0_2⟩ : S37)] _ [(⟨a1_0, a1_1, l1_2⟩ : S37)] true _ ?side1 ?side2 A6.out).mono ?_); (case side1 => refine ro_of_part (cs := #[.int .i8 a0_0, .int .i8 a0_1, .slice A0_2 l0_2.length c0_2, .slice A0_3 l0_3.length c0_3, .slice A0_4 l0_4.length c0_4]) (o := 0) (n := 3) (by (with_reducible repeat (first | refine blk_drewN ?_ _ | refine blk_drew ?_ | refine blk_alloc ?_ _)); exact BK201.out) ?_; exact k37_mk _ (⟨a0_0, a0_1, l0_2⟩ : S37) (by exact HC0_2.out) (by repeat (first | exact (Kd.C_below HR0_2.out HB.out) | (with_reducible refine Kd.C_alloc ?_ _) | (with_reducible refine Kd.C_drewN ?_ _) | (with_reducible refine Kd.C_drew ?_)))); (case side2 => refine ro_of_part (cs := #[.int .i8 a1_0, .int .i8 a1_1, .slice A1_2 l1_2.length c1_2, .slice A1_3 l1_3.length c1_3, .slice A1_4 l1_4.length c1_4]) (o := 0) (n := 3) (by (with_reducible repeat (first | refine blk_drewN ?_ _ | refine blk_drew ?_ | refine blk_alloc ?_ _)); exact BK202.out) ?_; exact k37_mk _ (⟨a1_0, a1_1, l1_2⟩ : S37) (by exact HC1_2.out) (by repeat (first | exact (Kd.C_below HR1_2.out HB.out) | (with_reducible refine Kd.C_alloc ?_ _) | (with_reducible refine Kd.C_drewN ?_ _) | (with_reducible refine Kd.C_drew ?_)))); rintro e w' ⟨rfl, ⟨nd, rfl⟩⟩; (try first | exact ⟨rfl, _, World.drewN_drewN _ _ _⟩ | exact ⟨rfl, _, Eq.trans (World.drewN_drewN _ _ _) (congrArg (World.drewN _) (Nat.add_assoc _ _ _))⟩); have hnb12 := NB201_202.out; have hnc12 := NB202_201.out; have hcz13_0 : w5.cell? ⟨gb201, 0, none⟩ = some (.int .i8 a0_0) := (blk_cell BK201.out 0).trans rfl; have hcz13_1 : w5.cell? ⟨gb201, 1, none⟩ = some (.int .i8 a0_1) := (blk_cell BK201.out 1).trans rfl; have hcz13_2 : w5.cell? ⟨gb201, 2, none⟩ = some (.slice A0_2 l0_2.length c0_2) := (blk_cell BK201.out 2).trans rfl; have hcz13_3 : w5.cell? ⟨gb201, 3, none⟩ = some (.slice A0_3 l0_3.length c0_3) := (blk_cell BK201.out 3).trans rfl; have hcz13_4 : w5.cell? ⟨gb201, 4, none⟩ = some (.slice A0_4 l0_4.length c0_4) := (blk_cell BK201.out 4).trans rfl; have hfz13_0 := blk_frozen BK201.out 0; have hfz13_1 := blk_frozen BK201.out 1; have hfz13_2 := blk_frozen BK201.out 2; have hfz13_3 := blk_frozen BK201.out 3; have hfz13_4 := blk_frozen BK201.out 4; have hcz14_0 : w5.cell? ⟨gb202, 0, none⟩ = some (.int .i8 a1_0) := (blk_cell BK202.out 0).trans rfl; have hcz14_1 : w5.cell? ⟨gb202, 1, none⟩ = some (.int .i8 a1_1) := (blk_cell BK202.out 1).trans rfl; have hcz14_2 : w5.cell? ⟨gb202, 2, none⟩ = some (.slice A1_2 l1_2.length c1_2) := (blk_cell BK202.out 2).trans rfl; have hcz14_3 : w5.cell? ⟨gb202, 3, none⟩ = some (.slice A1_3 l1_3.length c1_3) := (blk_cell BK202.out 3).trans rfl; have hcz14_4 : w5.cell? ⟨gb202, 4, none⟩ = some (.slice A1_4 l1_4.length c1_4) := (blk_cell BK202.out 4).trans rfl; have hfz14_0 := blk_frozen BK202.out 0; have hfz14_1 := blk_frozen BK202.out 1; have hfz14_2 := blk_frozen BK202.out 2; have hfz14_3 := blk_frozen BK202.out 3; have hfz14_4 := blk_frozen BK202.out 4)); try go_wp2_with (first | (go_at_call 127; (with_reducible refine (spec_l01Same.calls k _ [(⟨a0_0, a0_1, l0_2⟩ : S37)] _ [(⟨a1_0, a1_1, l1_2⟩ : S37)] true _ ?side1 ?side2 A6.out).mono ?_); (case side1 => refine ro_of_part (cs := #[.int .i8 a0_0, .int .i8 a0_1, .slice A0_2 l0_2.length c0_2, .slice A0_3 l0_3.length c0_3, .slice A0_4 l0_4.length c0_4]) (o := 0) (n := 3) (by (with_reducible repeat (first | refine blk_drewN ?_ _ | refine blk_drew ?_ | refine blk_alloc ?_ _)); exact BK201.out) ?_; exact k37_mk _ (⟨a0_0, a0_1, l0_2⟩ : S37) (by exact HC0_2.out) (by repeat (first | exact (Kd.C_below HR0_2.out HB.out) | (with_reducible refine Kd.C_alloc ?_ _) | (with_reducible refine Kd.C_drewN ?_ _) | (with_reducible refine Kd.C_drew ?_)))); (case side2 => refine ro_of_part (cs := #[.int .i8 a1_0, .int .i8 a1_1, .slice A1_2 l1_2.length c1_2, .slice A1_3 l1_3.length c1_3, .slice A1_4 l1_4.length c1_4]) (o := 0) (n := 3) (by (with_reducible repeat (first | refine blk_drewN ?_ _ | refine blk_drew ?_ | refine blk_alloc ?_ _)); exact BK202.out) ?_; exact k37_mk _ (⟨a1_0, a1_1, l1_2⟩ : S37) (by exact HC1_2.out) (by repeat (first | exact (Kd.C_below HR1_2.out HB.out) | (with_reducible refine Kd.C_alloc ?_ _) | (with_reducible refine Kd.C_drewN ?_ _) | (with_reducible refine Kd.C_drew ?_)))); rintro e w' ⟨rfl, ⟨nd, rfl⟩⟩; (try first | exact ⟨rfl, _, World.drewN_drewN _ _ _⟩ | exact ⟨rfl, _, Eq.trans (World.drewN_drewN _ _ _) (congrArg (World.drewN _) (Nat.add_assoc _ _ _))⟩); have hnb12 := NB201_202.out; have hnc12 := NB202_201.out; have hcz13_0 : w5.cell? ⟨gb201, 0, none⟩ = some (.int .i8 a0_0) := (blk_cell BK201.out 0).trans rfl; have hcz13_1 : w5.cell? ⟨gb201, 1, none⟩ = some (.int .i8 a0_1) := (blk_cell BK201.out 1).trans rfl; have hcz13_2 : w5.cell? ⟨gb201, 2, none⟩ = some (.slice A0_2 l0_2.length c0_2) := (blk_cell BK201.out 2).trans rfl; have hcz13_3 : w5.cell? ⟨gb201, 3, none⟩ = some (.slice A0_3 l0_3.length c0_3) := (blk_cell BK201.out 3).trans rfl; have hcz13_4 : w5.cell? ⟨gb201, 4, none⟩ = some (.slice A0_4 l0_4.length c0_4) := (blk_cell BK201.out 4).trans rfl; have hfz13_0 := blk_frozen BK201.out 0; have hfz13_1 := blk_frozen BK201.out 1; have hfz13_2 := blk_frozen BK201.out 2; have hfz13_3 := blk_frozen BK201.out 3; have hfz13_4 := blk_frozen BK201.out 4; have hcz14_0 : w5.cell? ⟨gb202, 0, none⟩ = some (.int .i8 a1_0) := (blk_cell BK202.out 0).trans rfl; have hcz14_1 : w5.cell? ⟨gb202, 1, none⟩ = some (.int .i8 a1_1) := (blk_cell BK202.out 1).trans rfl; have hcz14_2 : w5.cell? ⟨gb202, 2, none⟩ = some (.slice A1_2 l1_2.length c1_2) := (blk_cell BK202.out 2).trans rfl; have hcz14_3 : w5.cell? ⟨gb202, 3, none⟩ = some (.slice A1_3 l1_3.length c1_3) := (blk_cell BK202.out 3).trans rfl; have hcz14_4 : w5.cell? ⟨gb202, 4, none⟩ = some (.slice A1_4 l1_4.length c1_4) := (blk_cell BK202.out 4).trans rfl; have hfz14_0 := blk_frozen BK202.out 0; have hfz14_1 := blk_frozen BK202.out 1; have hfz14_2 := blk_frozen BK202.out 2; have hfz14_3 := blk_frozen BK202.out 3; have hfz14_4 := blk_frozen BK202.out 4)))
    go_meet
    case rel => exact ⟨_, (true), (by first | rfl | (simp; done) | (simp [*]; done) | (exact congrArg (Value.int .i64) (wrap_eq (by omega)))), H', ⟨by first | omega | exact Nat.le_refl _⟩, ⟨by (with_reducible repeat (first | refine blk_drewN ?_ _ | refine blk_drew ?_ | refine blk_alloc ?_ _)); exact BK201.out⟩, ⟨by (with_reducible repeat (first | refine blk_drewN ?_ _ | refine blk_drew ?_ | refine blk_alloc ?_ _)); exact BK202.out⟩, ⟨by repeat (first | (with_reducible first | exact HB.out | apply below_alloc | apply pw_below_drewN | apply below_drew1 | refine below_set ?_ GE201.out | refine below_set ?_ GE202.out) | exact HB.out)⟩⟩
  ·replace c7 := Bool.eq_false_iff.mpr c7
   subst c7
   have H1 : (spec_SameMachine.j0 k true a0_0 a0_1 l0_2 l0_3 l0_4 a1_0 a1_1 l1_2 l1_3 l1_4) = some r := by rw [if_neg (show ¬ (false = true) by decide)] at H; exact H
   clear H
   have H := H1
   clear H1
   have H' := Aside0.mk H
   clear H
   go_wp2_with (first | (go_at_call 127; (with_reducible refine (spec_l01Same.calls k _ [(⟨a0_0, a0_1, l0_2⟩ : S37)] _ [(⟨a1_0, a1_1, l1_2⟩ : S37)] false _ ?side1 ?side2 A6.out).mono ?_); (case side1 => refine ro_of_part (cs := #[.int .i8 a0_0, .int .i8 a0_1, .slice A0_2 l0_2.length c0_2, .slice A0_3 l0_3.length c0_3, .slice A0_4 l0_4.length c0_4]) (o := 0) (n := 3) (by (with_reducible repeat (first | refine blk_drewN ?_ _ | refine blk_drew ?_ | refine blk_alloc ?_ _)); exact BK201.out) ?_; exact k37_mk _ (⟨a0_0, a0_1, l0_2⟩ : S37) (by exact HC0_2.out) (by repeat (first | exact (Kd.C_below HR0_2.out HB.out) | (with_reducible refine Kd.C_alloc ?_ _) | (with_reducible refine Kd.C_drewN ?_ _) | (with_reducible refine Kd.C_drew ?_)))); (case side2 => refine ro_of_part (cs := #[.int .i8 a1_0, .int .i8 a1_1, .slice A1_2 l1_2.length c1_2, .slice A1_3 l1_3.length c1_3, .slice A1_4 l1_4.length c1_4]) (o := 0) (n := 3) (by (with_reducible repeat (first | refine blk_drewN ?_ _ | refine blk_drew ?_ | refine blk_alloc ?_ _)); exact BK202.out) ?_; exact k37_mk _ (⟨a1_0, a1_1, l1_2⟩ : S37) (by exact HC1_2.out) (by repeat (first | exact (Kd.C_below HR1_2.out HB.out) | (with_reducible refine Kd.C_alloc ?_ _) | (with_reducible refine Kd.C_drewN ?_ _) | (with_reducible refine Kd.C_drew ?_)))); rintro e w' ⟨rfl, ⟨nd, rfl⟩⟩; (try first | exact ⟨rfl, _, World.drewN_drewN _ _ _⟩ | exact ⟨rfl, _, Eq.trans (World.drewN_drewN _ _ _) (congrArg (World.drewN _) (Nat.add_assoc _ _ _))⟩)))
   repeat (go_quiet (first | (go_at_call 127; (with_reducible refine (spec_l01Same.calls k _ [(⟨a0_0, a0_1, l0_2⟩ : S37)] _ [(⟨a1_0, a1_1, l1_2⟩ : S37)] false _ ?side1 ?side2 A6.out).mono ?_); (case side1 => refine ro_of_part (cs := #[.int .i8 a0_0, .int .i8 a0_1, .slice A0_2 l0_2.length c0_2, .slice A0_3 l0_3.length c0_3, .slice A0_4 l0_4.length c0_4]) (o := 0) (n := 3) (by (with_reducible repeat (first | refine blk_drewN ?_ _ | refine blk_drew ?_ | refine blk_alloc ?_ _)); exact BK201.out) ?_; exact k37_mk _ (⟨a0_0, a0_1, l0_2⟩ : S37) (by exact HC0_2.out) (by repeat (first | exact (Kd.C_below HR0_2.out HB.out) | (with_reducible refine Kd.C_alloc ?_ _) | (with_reducible refine Kd.C_drewN ?_ _) | (with_reducible refine Kd.C_drew ?_)))); (case side2 => refine ro_of_part (cs := #[.int .i8 a1_0, .int .i8 a1_1, .slice A1_2 l1_2.length c1_2, .slice A1_3 l1_3.length c1_3, .slice A1_4 l1_4.length c1_4]) (o := 0) (n := 3) (by (with_reducible repeat (first | refine blk_drewN ?_ _ | refine blk_drew ?_ | refine blk_alloc ?_ _)); exact BK202.out) ?_; exact k37_mk _ (⟨a1_0, a1_1, l1_2⟩ : S37) (by exact HC1_2.out) (by repeat (first | exact (Kd.C_below HR1_2.out HB.out) | (with_reducible refine Kd.C_alloc ?_ _) | (with_reducible refine Kd.C_drewN ?_ _) | (with_reducible refine Kd.C_drew ?_)))); rintro e w' ⟨rfl, ⟨nd, rfl⟩⟩; (try first | exact ⟨rfl, _, World.drewN_drewN _ _ _⟩ | exact ⟨rfl, _, Eq.trans (World.drewN_drewN _ _ _) (congrArg (World.drewN _) (Nat.add_assoc _ _ _))⟩))); try go_wp2_with (first | (go_at_call 127; (with_reducible refine (spec_l01Same.calls k _ [(⟨a0_0, a0_1, l0_2⟩ : S37)] _ [(⟨a1_0, a1_1, l1_2⟩ : S37)] false _ ?side1 ?side2 A6.out).mono ?_); (case side1 => refine ro_of_part (cs := #[.int .i8 a0_0, .int .i8 a0_1, .slice A0_2 l0_2.length c0_2, .slice A0_3 l0_3.length c0_3, .slice A0_4 l0_4.length c0_4]) (o := 0) (n := 3) (by (with_reducible repeat (first | refine blk_drewN ?_ _ | refine blk_drew ?_ | refine blk_alloc ?_ _)); exact BK201.out) ?_; exact k37_mk _ (⟨a0_0, a0_1, l0_2⟩ : S37) (by exact HC0_2.out) (by repeat (first | exact (Kd.C_below HR0_2.out HB.out) | (with_reducible refine Kd.C_alloc ?_ _) | (with_reducible refine Kd.C_drewN ?_ _) | (with_reducible refine Kd.C_drew ?_)))); (case side2 => refine ro_of_part (cs := #[.int .i8 a1_0, .int .i8 a1_1, .slice A1_2 l1_2.length c1_2, .slice A1_3 l1_3.length c1_3, .slice A1_4 l1_4.length c1_4]) (o := 0) (n := 3) (by (with_reducible repeat (first | refine blk_drewN ?_ _ | refine blk_drew ?_ | refine blk_alloc ?_ _)); exact BK202.out) ?_; exact k37_mk _ (⟨a1_0, a1_1, l1_2⟩ : S37) (by exact HC1_2.out) (by repeat (first | exact (Kd.C_below HR1_2.out HB.out) | (with_reducible refine Kd.C_alloc ?_ _) | (with_reducible refine Kd.C_drewN ?_ _) | (with_reducible refine Kd.C_drew ?_)))); rintro e w' ⟨rfl, ⟨nd, rfl⟩⟩; (try first | exact ⟨rfl, _, World.drewN_drewN _ _ _⟩ | exact ⟨rfl, _, Eq.trans (World.drewN_drewN _ _ _) (congrArg (World.drewN _) (Nat.add_assoc _ _ _))⟩))))
   go_meet
   case rel => exact ⟨_, (true), (by first | rfl | (simp; done) | (simp [*]; done) | (exact congrArg (Value.int .i64) (wrap_eq (by omega)))), H', ⟨by first | omega | exact Nat.le_refl _⟩, ⟨by (with_reducible repeat (first | refine blk_drewN ?_ _ | refine blk_drew ?_ | refine blk_alloc ?_ _)); exact BK201.out⟩, ⟨by (with_reducible repeat (first | refine blk_drewN ?_ _ | refine blk_drew ?_ | refine blk_alloc ?_ _)); exact BK202.out⟩, ⟨by repeat (first | (with_reducible first | exact HB.out | apply below_alloc | apply pw_below_drewN | apply below_drew1 | refine below_set ?_ GE201.out | refine below_set ?_ GE202.out) | exact HB.out)⟩⟩
 case rest =>
  clear HC3
  try clear c1
  try clear p2
  try clear c6
  try clear c7
  try clear c8
  try clear c8b0
  try clear c8b1
  try clear c8b2
  try clear c9
  try clear c12
  try clear hcz10_0
  try clear hcz10_1
  try clear hcz10_2
  try clear hcz10_3
  try clear hcz10_4
  try clear hcz11_0
  try clear hcz11_1
  try clear hcz11_2
  try clear hcz11_3
  try clear hcz11_4
  try clear hcz13_0
  try clear hcz13_1
  try clear hcz13_2
  try clear hcz13_3
  try clear hcz13_4
  try clear hcz14_0
  try clear hcz14_1
  try clear hcz14_2
  try clear hcz14_3
  try clear hcz14_4
  try clear hfz10_0
  try clear hfz10_1
  try clear hfz10_2
  try clear hfz10_3
  try clear hfz10_4
  try clear hfz11_0
  try clear hfz11_1
  try clear hfz11_2
  try clear hfz11_3
  try clear hfz11_4
  try clear hfz13_0
  try clear hfz13_1
  try clear hfz13_2
  try clear hfz13_3
  try clear hfz13_4
  try clear hfz14_0
  try clear hfz14_1
  try clear hfz14_2
  try clear hfz14_3
  try clear hfz14_4
  obtain ⟨kq, x28_2, rfl, HA, HJ2, BK201, BK202, HB⟩ := hcut
  cases kq with
  | zero => exact absurd HA.out (by simp [spec_SameMachine.j0])
  | succ kj2 =>
   have H := HA.out
   clear HA
   simp only [spec_SameMachine.j0] at H
   by_cases c15 : x28_2 = true
   ·subst c15
    have H1 : (some false) = some r := by rw [if_pos rfl] at H; exact H
    clear H
    have H := H1
    clear H1
    obtain rfl := Option.some.inj H
    go_wp2
    repeat (go_quiet (fail); try go_wp2)
    go_ret
    exact ⟨by first | rfl | (simp [errW_none, errW_some] <;> rfl) | (simp [*, errW_none, errW_some] <;> rfl), by repeat (first | (with_reducible first | exact HB.out | apply below_alloc | apply pw_below_drewN | apply below_drew1 | refine below_set ?_ GE201.out | refine below_set ?_ GE202.out) | exact HB.out)⟩
   ·replace c15 := Bool.eq_false_iff.mpr c15
    subst c15
    have H1 : (spec_SameMachine.l0 kj2 0 a0_0 a0_1 l0_2 l0_3 l0_4 a1_0 a1_1 l1_2 l1_3 l1_4) = some r := by rw [if_neg (show ¬ (false = true) by decide)] at H; exact H
    clear H
    have H := H1
    clear H1
    have H' := Aside0.mk H
    clear H
    go_wp2
    repeat (go_quiet (fail); try go_wp2)
    go_loopg [5] kj2 (fun kq v5 w' => ∃ (x5_2 : Int), v5 = .int .i64 x5_2 ∧ Aside0 (spec_SameMachine.l0 kq x5_2 a0_0 a0_1 l0_2 l0_3 l0_4 a1_0 a1_1 l1_2 l1_3 l1_4 = some r) ∧ Aside0 (kq ≤ kj2) ∧ Aside0 (w'.heap[gb201]? = some (.cells #[.int .i8 a0_0, .int .i8 a0_1, (.slice A0_2 l0_2.length c0_2), (.slice A0_3 l0_3.length c0_3), (.slice A0_4 l0_4.length c0_4)] 41 (0, 0))) ∧ Aside0 (w'.heap[gb202]? = some (.cells #[.int .i8 a1_0, .int .i8 a1_1, (.slice A1_2 l1_2.length c1_2), (.slice A1_3 l1_3.length c1_3), (.slice A1_4 l1_4.length c1_4)] 41 (0, 0))) ∧ Aside0 (Below w.heap.size w w'))
    case atStart => exact ⟨(0), (by first | rfl | (simp; done) | (simp [*]; done) | (exact congrArg (Value.int .i64) (wrap_eq (by omega)))), H', ⟨Nat.le_refl _⟩, ⟨by (with_reducible repeat (first | refine blk_drewN ?_ _ | refine blk_drew ?_ | refine blk_alloc ?_ _)); exact BK201.out⟩, ⟨by (with_reducible repeat (first | refine blk_drewN ?_ _ | refine blk_drew ?_ | refine blk_alloc ?_ _)); exact BK202.out⟩, ⟨by repeat (first | (with_reducible first | exact HB.out | apply below_alloc | apply pw_below_drewN | apply below_drew1 | refine below_set ?_ GE201.out | refine below_set ?_ GE202.out) | exact HB.out)⟩⟩
    case round =>
     clear H'
     try clear c1
     try clear p2
     try clear c6
     try clear c7
     try clear c8
     try clear c8b0
     try clear c8b1
     try clear c8b2
     try clear c9
     try clear c12
     try clear c15
     try clear hcz10_0
     try clear hcz10_1
     try clear hcz10_2
     try clear hcz10_3
     try clear hcz10_4
     try clear hcz11_0
     try clear hcz11_1
     try clear hcz11_2
     try clear hcz11_3
     try clear hcz11_4
     try clear hcz13_0
     try clear hcz13_1
     try clear hcz13_2
     try clear hcz13_3
     try clear hcz13_4
     try clear hcz14_0
     try clear hcz14_1
     try clear hcz14_2
     try clear hcz14_3
     try clear hcz14_4
     try clear hfz10_0
     try clear hfz10_1
     try clear hfz10_2
     try clear hfz10_3
     try clear hfz10_4
     try clear hfz11_0
     try clear hfz11_1
     try clear hfz11_2
     try clear hfz11_3
     try clear hfz11_4
     try clear hfz13_0
     try clear hfz13_1
     try clear hfz13_2
     try clear hfz13_3
     try clear hfz13_4
     try clear hfz14_0
     try clear hfz14_1
     try clear hfz14_2
     try clear hfz14_3
     try clear hfz14_4
     try clear p2
     obtain ⟨x5_2, rfl, HA, HK2, BK201, BK202, HB⟩ := hrel
     cases gk with
     | zero => exact absurd HA.out (by simp [spec_SameMachine.l0])
     | succ k2 =>
      have H := HA.out
      clear HA
      simp only [spec_SameMachine.l0] at H
      by_cases c16 : x5_2 < (l0_3.length : Int)
      ·rw [if_pos c16] at H
       have c16b0 : decide (x5_2 < (l0_3.length : Int)) = true := decide_eq_true c16
       clear c16
       by_cases c17 : 0 ≤ x5_2
       ·rw [if_pos c17] at H
        have c17b0 : decide (0 ≤ x5_2) = true := decide_eq_true c17
        clear c17
        by_cases c18 : x5_2 < (l1_3.length : Int)
        ·rw [if_pos c18] at H
         have c18b0 : decide (x5_2 < (l1_3.length : Int)) = true := decide_eq_true c18
         clear c18
         by_cases c19 : ((!(((rd_T116 l0_3 x5_2).f0.f0) == ((rd_T116 l1_3 x5_2).f0.f0)) || (!(((rd_T116 l0_3 x5_2).f0.f1) == ((rd_T116 l1_3 x5_2).f0.f1)))) || (!(((rd_T116 l0_3 x5_2).f1) == ((rd_T116 l1_3 x5_2).f1)))) = true
         ·rw [if_pos c19] at H
          have c19b0 : ((!(((rd_T116 l0_3 x5_2).f0.f0) == ((rd_T116 l1_3 x5_2).f0.f0)) || (!(((rd_T116 l0_3 x5_2).f0.f1) == ((rd_T116 l1_3 x5_2).f0.f1)))) || (!(((rd_T116 l0_3 x5_2).f1) == ((rd_T116 l1_3 x5_2).f1)))) = true := c19
          clear c19
          obtain rfl := Option.some.inj H
          have hnb20 := NB201_202.out
          have hnc20 := NB202_201.out
          have hcz21_0 : wr.cell? ⟨gb201, 0, none⟩ = some (.int .i8 a0_0) := (blk_cell BK201.out 0).trans rfl
          have hcz21_1 : wr.cell? ⟨gb201, 1, none⟩ = some (.int .i8 a0_1) := (blk_cell BK201.out 1).trans rfl
          have hcz21_2 : wr.cell? ⟨gb201, 2, none⟩ = some (.slice A0_2 l0_2.length c0_2) := (blk_cell BK201.out 2).trans rfl
          have hcz21_3 : wr.cell? ⟨gb201, 3, none⟩ = some (.slice A0_3 l0_3.length c0_3) := (blk_cell BK201.out 3).trans rfl
          have hcz21_4 : wr.cell? ⟨gb201, 4, none⟩ = some (.slice A0_4 l0_4.length c0_4) := (blk_cell BK201.out 4).trans rfl
          have hfz21_0 := blk_frozen BK201.out 0
          have hfz21_1 := blk_frozen BK201.out 1
          have hfz21_2 := blk_frozen BK201.out 2
          have hfz21_3 := blk_frozen BK201.out 3
          have hfz21_4 := blk_frozen BK201.out 4
          have p204 : 0 ≤ (x5_2 : Int) := of_decide_eq_true (by first | (with_reducible assumption) | assumption)
          have q204 : x5_2 < (l0_3.length : Int) := of_decide_eq_true (by first | (with_reducible assumption) | assumption)
          obtain ⟨ad204, e204, hx204_0, hx204_1, hx204_2⟩ := at_T116 HR0_3.out x5_2 p204 q204
          cases e204
          replace hx204_0 := (HB.out.cell (World.block_lt_of_cell? w _ hx204_0)).trans hx204_0
          replace hx204_1 := (HB.out.cell (World.block_lt_of_cell? w _ hx204_1)).trans hx204_1
          replace hx204_2 := (HB.out.cell (World.block_lt_of_cell? w _ hx204_2)).trans hx204_2
          replace p204 := eq_true p204
          replace q204 := eq_true q204
          have hcz22_0 : wr.cell? ⟨gb202, 0, none⟩ = some (.int .i8 a1_0) := (blk_cell BK202.out 0).trans rfl
          have hcz22_1 : wr.cell? ⟨gb202, 1, none⟩ = some (.int .i8 a1_1) := (blk_cell BK202.out 1).trans rfl
          have hcz22_2 : wr.cell? ⟨gb202, 2, none⟩ = some (.slice A1_2 l1_2.length c1_2) := (blk_cell BK202.out 2).trans rfl
          have hcz22_3 : wr.cell? ⟨gb202, 3, none⟩ = some (.slice A1_3 l1_3.length c1_3) := (blk_cell BK202.out 3).trans rfl
          have hcz22_4 : wr.cell? ⟨gb202, 4, none⟩ = some (.slice A1_4 l1_4.length c1_4) := (blk_cell BK202.out 4).trans rfl
          have hfz22_0 := blk_frozen BK202.out 0
          have hfz22_1 := blk_frozen BK202.out 1
          have hfz22_2 := blk_frozen BK202.out 2
          have hfz22_3 := blk_frozen BK202.out 3
          have hfz22_4 := blk_frozen BK202.out 4
          have p205 : 0 ≤ (x5_2 : Int) := of_decide_eq_true (by first | (with_reducible assumption) | assumption)
          have q205 : x5_2 < (l1_3.length : Int) := of_decide_eq_true (by first | (with_reducible assumption) | assumption)
          obtain ⟨ad205, e205, hx205_0, hx205_1, hx205_2⟩ := at_T116 HR1_3.out x5_2 p205 q205
          cases e205
          replace hx205_0 := (HB.out.cell (World.block_lt_of_cell? w _ hx205_0)).trans hx205_0
          replace hx205_1 := (HB.out.cell (World.block_lt_of_cell? w _ hx205_1)).trans hx205_1
          replace hx205_2 := (HB.out.cell (World.block_lt_of_cell? w _ hx205_2)).trans hx205_2
          replace p205 := eq_true p205
          replace q205 := eq_true q205
          go_wp2
          repeat (go_quiet (fail); try go_wp2)
          go_ret
          exact ⟨by first | rfl | (simp [errW_none, errW_some] <;> rfl) | (simp [*, errW_none, errW_some] <;> rfl), by repeat (first | (with_reducible first | exact HB.out | apply below_alloc | apply pw_below_drewN | apply below_drew1 | refine below_set ?_ GE201.out | refine below_set ?_ GE202.out) | exact HB.out)⟩
         ·rw [if_neg c19] at H
          have c19b0 : ((!(((rd_T116 l0_3 x5_2).f0.f0) == ((rd_T116 l1_3 x5_2).f0.f0)) || (!(((rd_T116 l0_3 x5_2).f0.f1) == ((rd_T116 l1_3 x5_2).f0.f1)))) || (!(((rd_T116 l0_3 x5_2).f1) == ((rd_T116 l1_3 x5_2).f1)))) = false := by simpa using c19
          clear c19
          have H' := Aside0.mk H
          clear H
          have hnb23 := NB201_202.out
          have hnc23 := NB202_201.out
          have hcz24_0 : wr.cell? ⟨gb201, 0, none⟩ = some (.int .i8 a0_0) := (blk_cell BK201.out 0).trans rfl
          have hcz24_1 : wr.cell? ⟨gb201, 1, none⟩ = some (.int .i8 a0_1) := (blk_cell BK201.out 1).trans rfl
          have hcz24_2 : wr.cell? ⟨gb201, 2, none⟩ = some (.slice A0_2 l0_2.length c0_2) := (blk_cell BK201.out 2).trans rfl
          have hcz24_3 : wr.cell? ⟨gb201, 3, none⟩ = some (.slice A0_3 l0_3.length c0_3) := (blk_cell BK201.out 3).trans rfl
          have hcz24_4 : wr.cell? ⟨gb201, 4, none⟩ = some (.slice A0_4 l0_4.length c0_4) := (blk_cell BK201.out 4).trans rfl
          have hfz24_0 := blk_frozen BK201.out 0
          have hfz24_1 := blk_frozen BK201.out 1
          have hfz24_2 := blk_frozen BK201.out 2
          have hfz24_3 := blk_frozen BK201.out 3
          have hfz24_4 := blk_frozen BK201.out 4
          have p204 : 0 ≤ (x5_2 : Int) := of_decide_eq_true (by first | (with_reducible assumption) | assumption)
          have q204 : x5_2 < (l0_3.length : Int) := of_decide_eq_true (by first | (with_reducible assumption) | assumption)
          obtain ⟨ad204, e204, hx204_0, hx204_1, hx204_2⟩ := at_T116 HR0_3.out x5_2 p204 q204
          cases e204
          replace hx204_0 := (HB.out.cell (World.block_lt_of_cell? w _ hx204_0)).trans hx204_0
          replace hx204_1 := (HB.out.cell (World.block_lt_of_cell? w _ hx204_1)).trans hx204_1
          replace hx204_2 := (HB.out.cell (World.block_lt_of_cell? w _ hx204_2)).trans hx204_2
          replace p204 := eq_true p204
          replace q204 := eq_true q204
          have hcz25_0 : wr.cell? ⟨gb202, 0, none⟩ = some (.int .i8 a1_0) := (blk_cell BK202.out 0).trans rfl
          have hcz25_1 : wr.cell? ⟨gb202, 1, none⟩ = some (.int .i8 a1_1) := (blk_cell BK202.out 1).trans rfl
          have hcz25_2 : wr.cell? ⟨gb202, 2, none⟩ = some (.slice A1_2 l1_2.length c1_2) := (blk_cell BK202.out 2).trans rfl
          have hcz25_3 : wr.cell? ⟨gb202, 3, none⟩ = some (.slice A1_3 l1_3.length c1_3) := (blk_cell BK202.out 3).trans rfl
          have hcz25_4 : wr.cell? ⟨gb202, 4, none⟩ = some (.slice A1_4 l1_4.length c1_4) := (blk_cell BK202.out 4).trans rfl
          have hfz25_0 := blk_frozen BK202.out 0
          have hfz25_1 := blk_frozen BK202.out 1
          have hfz25_2 := blk_frozen BK202.out 2
          have hfz25_3 := blk_frozen BK202.out 3
          have hfz25_4 := blk_frozen BK202.out 4
          have p205 : 0 ≤ (x5_2 : Int) := of_decide_eq_true (by first | (with_reducible assumption) | assumption)
          have q205 : x5_2 < (l1_3.length : Int) := of_decide_eq_true (by first | (with_reducible assumption) | assumption)
          obtain ⟨ad205, e205, hx205_0, hx205_1, hx205_2⟩ := at_T116 HR1_3.out x5_2 p205 q205
          cases e205
          replace hx205_0 := (HB.out.cell (World.block_lt_of_cell? w _ hx205_0)).trans hx205_0
          replace hx205_1 := (HB.out.cell (World.block_lt_of_cell? w _ hx205_1)).trans hx205_1
          replace hx205_2 := (HB.out.cell (World.block_lt_of_cell? w _ hx205_2)).trans hx205_2
          replace p205 := eq_true p205
          replace q205 := eq_true q205
          go_wp2
          repeat (go_quiet (fail); try go_wp2)
          go_roundg k2
          case measure => have := HJ2.out; have := HK2.out; omega
          case rel => exact ⟨(wrap64 (x5_2 + 1)), (by first | rfl | (simp; done) | (simp [*]; done) | (exact congrArg (Value.int .i64) (wrap_eq (by omega)))), H', ⟨by have := HJ2.out; have := HK2.out; omega⟩, ⟨by (with_reducible repeat (first | refine blk_drewN ?_ _ | refine blk_drew ?_ | refine blk_alloc ?_ _)); exact BK201.out⟩, ⟨by (with_reducible repeat (first | refine blk_drewN ?_ _ | refine blk_drew ?_ | refine blk_alloc ?_ _)); exact BK202.out⟩, ⟨by repeat (first | (with_reducible first | exact HB.out | apply below_alloc | apply pw_below_drewN | apply below_drew1 | refine below_set ?_ GE201.out | refine below_set ?_ GE202.out) | exact HB.out)⟩⟩
        ·rw [if_neg c18] at H
         exact absurd H (by simp)
       ·rw [if_neg c17] at H
        exact absurd H (by simp)
      ·rw [if_neg c16] at H
       have c16b0 : decide (x5_2 < (l0_3.length : Int)) = false := decide_eq_false c16
       clear c16
       have H' := Aside0.mk H
       clear H
       have hnb26 := NB201_202.out
       have hnc26 := NB202_201.out
       have hcz27_0 : wr.cell? ⟨gb201, 0, none⟩ = some (.int .i8 a0_0) := (blk_cell BK201.out 0).trans rfl
       have hcz27_1 : wr.cell? ⟨gb201, 1, none⟩ = some (.int .i8 a0_1) := (blk_cell BK201.out 1).trans rfl
       have hcz27_2 : wr.cell? ⟨gb201, 2, none⟩ = some (.slice A0_2 l0_2.length c0_2) := (blk_cell BK201.out 2).trans rfl
       have hcz27_3 : wr.cell? ⟨gb201, 3, none⟩ = some (.slice A0_3 l0_3.length c0_3) := (blk_cell BK201.out 3).trans rfl
       have hcz27_4 : wr.cell? ⟨gb201, 4, none⟩ = some (.slice A0_4 l0_4.length c0_4) := (blk_cell BK201.out 4).trans rfl
       have hfz27_0 := blk_frozen BK201.out 0
       have hfz27_1 := blk_frozen BK201.out 1
       have hfz27_2 := blk_frozen BK201.out 2
       have hfz27_3 := blk_frozen BK201.out 3
       have hfz27_4 := blk_frozen BK201.out 4
       go_wp2
       repeat (go_quiet (fail); try go_wp2)
       go_loopg [6] k2 (fun kq v6 w' => ∃ (x6_3 : Int), v6 = .int .i64 x6_3 ∧ Aside0 (spec_SameMachine.l1 kq x6_3 a0_0 a0_1 l0_2 l0_3 l0_4 a1_0 a1_1 l1_2 l1_3 l1_4 = some r) ∧ Aside0 (kq ≤ k2) ∧ Aside0 (w'.heap[gb201]? = some (.cells #[.int .i8 a0_0, .int .i8 a0_1, (.slice A0_2 l0_2.length c0_2), (.slice A0_3 l0_3.length c0_3), (.slice A0_4 l0_4.length c0_4)] 41 (0, 0))) ∧ Aside0 (w'.heap[gb202]? = some (.cells #[.int .i8 a1_0, .int .i8 a1_1, (.slice A1_2 l1_2.length c1_2), (.slice A1_3 l1_3.length c1_3), (.slice A1_4 l1_4.length c1_4)] 41 (0, 0))) ∧ Aside0 (Below w.heap.size w w'))
       case atStart => exact ⟨(0), (by first | rfl | (simp; done) | (simp [*]; done) | (exact congrArg (Value.int .i64) (wrap_eq (by omega)))), H', ⟨Nat.le_refl _⟩, ⟨by (with_reducible repeat (first | refine blk_drewN ?_ _ | refine blk_drew ?_ | refine blk_alloc ?_ _)); exact BK201.out⟩, ⟨by (with_reducible repeat (first | refine blk_drewN ?_ _ | refine blk_drew ?_ | refine blk_alloc ?_ _)); exact BK202.out⟩, ⟨by repeat (first | (with_reducible first | exact HB.out | apply below_alloc | apply pw_below_drewN | apply below_drew1 | refine below_set ?_ GE201.out | refine below_set ?_ GE202.out) | exact HB.out)⟩⟩
       case round =>
        clear H'
        try clear c1
        try clear c2
        try clear p2
        try clear q2
        try clear hx2
        try clear c6
        try clear p6
        try clear c7
        try clear c8
        try clear c8b0
        try clear c8b1
        try clear c8b2
        try clear c9
        try clear c12
        try clear c15
        try clear c16
        try clear c16b0
        try clear c17
        try clear c17b0
        try clear c18
        try clear c18b0
        try clear c19
        try clear c19b0
        try clear c20
        try clear p20
        try clear q20
        try clear hx20
        try clear c23
        try clear c26
        try clear hcz10_0
        try clear hcz10_1
        try clear hcz10_2
        try clear hcz10_3
        try clear hcz10_4
        try clear hcz11_0
        try clear hcz11_1
        try clear hcz11_2
        try clear hcz11_3
        try clear hcz11_4
        try clear hcz13_0
        try clear hcz13_1
        try clear hcz13_2
        try clear hcz13_3
        try clear hcz13_4
        try clear hcz14_0
        try clear hcz14_1
        try clear hcz14_2
        try clear hcz14_3
        try clear hcz14_4
        try clear hcz21_0
        try clear hcz21_1
        try clear hcz21_2
        try clear hcz21_3
        try clear hcz21_4
        try clear hcz22_0
        try clear hcz22_1
        try clear hcz22_2
        try clear hcz22_3
        try clear hcz22_4
        try clear hcz24_0
        try clear hcz24_1
        try clear hcz24_2
        try clear hcz24_3
        try clear hcz24_4
        try clear hcz25_0
        try clear hcz25_1
        try clear hcz25_2
        try clear hcz25_3
        try clear hcz25_4
        try clear hcz27_0
        try clear hcz27_1
        try clear hcz27_2
        try clear hcz27_3
        try clear hcz27_4
        try clear hfz10_0
        try clear hfz10_1
        try clear hfz10_2
        try clear hfz10_3
        try clear hfz10_4
        try clear hfz11_0
        try clear hfz11_1
        try clear hfz11_2
        try clear hfz11_3
        try clear hfz11_4
        try clear hfz13_0
        try clear hfz13_1
        try clear hfz13_2
        try clear hfz13_3
        try clear hfz13_4
        try clear hfz14_0
        try clear hfz14_1
        try clear hfz14_2
        try clear hfz14_3
        try clear hfz14_4
        try clear hfz21_0
        try clear hfz21_1
        try clear hfz21_2
        try clear hfz21_3
        try clear hfz21_4
        try clear hfz22_0
        try clear hfz22_1
        try clear hfz22_2
        try clear hfz22_3
        try clear hfz22_4
        try clear hfz24_0
        try clear hfz24_1
        try clear hfz24_2
        try clear hfz24_3
        try clear hfz24_4
        try clear hfz25_0
        try clear hfz25_1
        try clear hfz25_2
        try clear hfz25_3
        try clear hfz25_4
        try clear hfz27_0
        try clear hfz27_1
        try clear hfz27_2
        try clear hfz27_3
        try clear hfz27_4
        try clear hx204_0
        try clear hx204_1
        try clear hx204_2
        try clear hx205_0
        try clear hx205_1
        try clear hx205_2
        try clear p2
        try clear p204
        try clear p205
        try clear q204
        try clear q205
        obtain ⟨x6_3, rfl, HA, HK3, BK201, BK202, HB⟩ := hrel
        cases gk with
        | zero => exact absurd HA.out (by simp [spec_SameMachine.l1])
        | succ k3 =>
         have H := HA.out
         clear HA
         simp only [spec_SameMachine.l1] at H
         by_cases c28 : x6_3 < (l0_4.length : Int)
         ·rw [if_pos c28] at H
          have c28b0 : decide (x6_3 < (l0_4.length : Int)) = true := decide_eq_true c28
          clear c28
          by_cases c29 : 0 ≤ x6_3
          ·rw [if_pos c29] at H
           have c29b0 : decide (0 ≤ x6_3) = true := decide_eq_true c29
           clear c29
           by_cases c30 : x6_3 < (l1_4.length : Int)
           ·rw [if_pos c30] at H
            have c30b0 : decide (x6_3 < (l1_4.length : Int)) = true := decide_eq_true c30
            clear c30
            by_cases c31 : (!(((rd_T74 l0_4 x6_3).f0) == ((rd_T74 l1_4 x6_3).f0)) || (!(((rd_T74 l0_4 x6_3).f1) == ((rd_T74 l1_4 x6_3).f1)))) = true
            ·rw [if_pos c31] at H
             have c31b0 : (!(((rd_T74 l0_4 x6_3).f0) == ((rd_T74 l1_4 x6_3).f0)) || (!(((rd_T74 l0_4 x6_3).f1) == ((rd_T74 l1_4 x6_3).f1)))) = true := c31
             clear c31
             obtain rfl := Option.some.inj H
             have hnb32 := NB201_202.out
             have hnc32 := NB202_201.out
             have hcz33_0 : wr.cell? ⟨gb201, 0, none⟩ = some (.int .i8 a0_0) := (blk_cell BK201.out 0).trans rfl
             have hcz33_1 : wr.cell? ⟨gb201, 1, none⟩ = some (.int .i8 a0_1) := (blk_cell BK201.out 1).trans rfl
             have hcz33_2 : wr.cell? ⟨gb201, 2, none⟩ = some (.slice A0_2 l0_2.length c0_2) := (blk_cell BK201.out 2).trans rfl
             have hcz33_3 : wr.cell? ⟨gb201, 3, none⟩ = some (.slice A0_3 l0_3.length c0_3) := (blk_cell BK201.out 3).trans rfl
             have hcz33_4 : wr.cell? ⟨gb201, 4, none⟩ = some (.slice A0_4 l0_4.length c0_4) := (blk_cell BK201.out 4).trans rfl
             have hfz33_0 := blk_frozen BK201.out 0
             have hfz33_1 := blk_frozen BK201.out 1
             have hfz33_2 := blk_frozen BK201.out 2
             have hfz33_3 := blk_frozen BK201.out 3
             have hfz33_4 := blk_frozen BK201.out 4
             have p206 : 0 ≤ (x6_3 : Int) := of_decide_eq_true (by first | (with_reducible assumption) | assumption)
             have q206 : x6_3 < (l0_4.length : Int) := of_decide_eq_true (by first | (with_reducible assumption) | assumption)
             obtain ⟨ad206, e206, hx206_0, hx206_1⟩ := at_T74 HR0_4.out x6_3 p206 q206
             cases e206
             replace hx206_0 := (HB.out.cell (World.block_lt_of_cell? w _ hx206_0)).trans hx206_0
             replace hx206_1 := (HB.out.cell (World.block_lt_of_cell? w _ hx206_1)).trans hx206_1
             replace p206 := eq_true p206
             replace q206 := eq_true q206
             have hcz34_0 : wr.cell? ⟨gb202, 0, none⟩ = some (.int .i8 a1_0) := (blk_cell BK202.out 0).trans rfl
             have hcz34_1 : wr.cell? ⟨gb202, 1, none⟩ = some (.int .i8 a1_1) := (blk_cell BK202.out 1).trans rfl
             have hcz34_2 : wr.cell? ⟨gb202, 2, none⟩ = some (.slice A1_2 l1_2.length c1_2) := (blk_cell BK202.out 2).trans rfl
             have hcz34_3 : wr.cell? ⟨gb202, 3, none⟩ = some (.slice A1_3 l1_3.length c1_3) := (blk_cell BK202.out 3).trans rfl
             have hcz34_4 : wr.cell? ⟨gb202, 4, none⟩ = some (.slice A1_4 l1_4.length c1_4) := (blk_cell BK202.out 4).trans rfl
             have hfz34_0 := blk_frozen BK202.out 0
             have hfz34_1 := blk_frozen BK202.out 1
             have hfz34_2 := blk_frozen BK202.out 2
             have hfz34_3 := blk_frozen BK202.out 3
             have hfz34_4 := blk_frozen BK202.out 4
             have p207 : 0 ≤ (x6_3 : Int) := of_decide_eq_true (by first | (with_reducible assumption) | assumption)
             have q207 : x6_3 < (l1_4.length : Int) := of_decide_eq_true (by first | (with_reducible assumption) | assumption)
             obtain ⟨ad207, e207, hx207_0, hx207_1⟩ := at_T74 HR1_4.out x6_3 p207 q207
             cases e207
             replace hx207_0 := (HB.out.cell (World.block_lt_of_cell? w _ hx207_0)).trans hx207_0
             replace hx207_1 := (HB.out.cell (World.block_lt_of_cell? w _ hx207_1)).trans hx207_1
             replace p207 := eq_true p207
             replace q207 := eq_true q207
             go_wp2
             repeat (go_quiet (fail); try go_wp2)
             go_ret
             exact ⟨by first | rfl | (simp [errW_none, errW_some] <;> rfl) | (simp [*, errW_none, errW_some] <;> rfl), by repeat (first | (with_reducible first | exact HB.out | apply below_alloc | apply pw_below_drewN | apply below_drew1 | refine below_set ?_ GE201.out | refine below_set ?_ GE202.out) | exact HB.out)⟩
            ·rw [if_neg c31] at H
             have c31b0 : (!(((rd_T74 l0_4 x6_3).f0) == ((rd_T74 l1_4 x6_3).f0)) || (!(((rd_T74 l0_4 x6_3).f1) == ((rd_T74 l1_4 x6_3).f1)))) = false := by simpa using c31
             clear c31
             have H' := Aside0.mk H
             clear H
             have hnb35 := NB201_202.out
             have hnc35 := NB202_201.out
             have hcz36_0 : wr.cell? ⟨gb201, 0, none⟩ = some (.int .i8 a0_0) := (blk_cell BK201.out 0).trans rfl
             have hcz36_1 : wr.cell? ⟨gb201, 1, none⟩ = some (.int .i8 a0_1) := (blk_cell BK201.out 1).trans rfl
             have hcz36_2 : wr.cell? ⟨gb201, 2, none⟩ = some (.slice A0_2 l0_2.length c0_2) := (blk_cell BK201.out 2).trans rfl
             have hcz36_3 : wr.cell? ⟨gb201, 3, none⟩ = some (.slice A0_3 l0_3.length c0_3) := (blk_cell BK201.out 3).trans rfl
             have hcz36_4 : wr.cell? ⟨gb201, 4, none⟩ = some (.slice A0_4 l0_4.length c0_4) := (blk_cell BK201.out 4).trans rfl
             have hfz36_0 := blk_frozen BK201.out 0
             have hfz36_1 := blk_frozen BK201.out 1
             have hfz36_2 := blk_frozen BK201.out 2
             have hfz36_3 := blk_frozen BK201.out 3
             have hfz36_4 := blk_frozen BK201.out 4
             have p206 : 0 ≤ (x6_3 : Int) := of_decide_eq_true (by first | (with_reducible assumption) | assumption)
             have q206 : x6_3 < (l0_4.length : Int) := of_decide_eq_true (by first | (with_reducible assumption) | assumption)
             obtain ⟨ad206, e206, hx206_0, hx206_1⟩ := at_T74 HR0_4.out x6_3 p206 q206
             cases e206
             replace hx206_0 := (HB.out.cell (World.block_lt_of_cell? w _ hx206_0)).trans hx206_0
             replace hx206_1 := (HB.out.cell (World.block_lt_of_cell? w _ hx206_1)).trans hx206_1
             replace p206 := eq_true p206
             replace q206 := eq_true q206
             have hcz37_0 : wr.cell? ⟨gb202, 0, none⟩ = some (.int .i8 a1_0) := (blk_cell BK202.out 0).trans rfl
             have hcz37_1 : wr.cell? ⟨gb202, 1, none⟩ = some (.int .i8 a1_1) := (blk_cell BK202.out 1).trans rfl
             have hcz37_2 : wr.cell? ⟨gb202, 2, none⟩ = some (.slice A1_2 l1_2.length c1_2) := (blk_cell BK202.out 2).trans rfl
             have hcz37_3 : wr.cell? ⟨gb202, 3, none⟩ = some (.slice A1_3 l1_3.length c1_3) := (blk_cell BK202.out 3).trans rfl
             have hcz37_4 : wr.cell? ⟨gb202, 4, none⟩ = some (.slice A1_4 l1_4.length c1_4) := (blk_cell BK202.out 4).trans rfl
             have hfz37_0 := blk_frozen BK202.out 0
             have hfz37_1 := blk_frozen BK202.out 1
             have hfz37_2 := blk_frozen BK202.out 2
             have hfz37_3 := blk_frozen BK202.out 3
             have hfz37_4 := blk_frozen BK202.out 4
             have p207 : 0 ≤ (x6_3 : Int) := of_decide_eq_true (by first | (with_reducible assumption) | assumption)
             have q207 : x6_3 < (l1_4.length : Int) := of_decide_eq_true (by first | (with_reducible assumption) | assumption)
             obtain ⟨ad207, e207, hx207_0, hx207_1⟩ := at_T74 HR1_4.out x6_3 p207 q207
             cases e207
             replace hx207_0 := (HB.out.cell (World.block_lt_of_cell? w _ hx207_0)).trans hx207_0
             replace hx207_1 := (HB.out.cell (World.block_lt_of_cell? w _ hx207_1)).trans hx207_1
             replace p207 := eq_true p207
             replace q207 := eq_true q207
             go_wp2
             repeat (go_quiet (fail); try go_wp2)
             go_roundg k3
             case measure => have := HJ2.out; have := HK2.out; have := HK3.out; omega
             case rel => exact ⟨(wrap64 (x6_3 + 1)), (by first | rfl | (simp; done) | (simp [*]; done) | (exact congrArg (Value.int .i64) (wrap_eq (by omega)))), H', ⟨by have := HJ2.out; have := HK2.out; have := HK3.out; omega⟩, ⟨by (with_reducible repeat (first | refine blk_drewN ?_ _ | refine blk_drew ?_ | refine blk_alloc ?_ _)); exact BK201.out⟩, ⟨by (with_reducible repeat (first | refine blk_drewN ?_ _ | refine blk_drew ?_ | refine blk_alloc ?_ _)); exact BK202.out⟩, ⟨by repeat (first | (with_reducible first | exact HB.out | apply below_alloc | apply pw_below_drewN | apply below_drew1 | refine below_set ?_ GE201.out | refine below_set ?_ GE202.out) | exact HB.out)⟩⟩
           ·rw [if_neg c30] at H
            exact absurd H (by simp)
          ·rw [if_neg c29] at H
           exact absurd H (by simp)
         ·rw [if_neg c28] at H
          have c28b0 : decide (x6_3 < (l0_4.length : Int)) = false := decide_eq_false c28
          clear c28
          obtain rfl := Option.some.inj H
          have hnb38 := NB201_202.out
          have hnc38 := NB202_201.out
          have hcz39_0 : wr.cell? ⟨gb201, 0, none⟩ = some (.int .i8 a0_0) := (blk_cell BK201.out 0).trans rfl
          have hcz39_1 : wr.cell? ⟨gb201, 1, none⟩ = some (.int .i8 a0_1) := (blk_cell BK201.out 1).trans rfl
          have hcz39_2 : wr.cell? ⟨gb201, 2, none⟩ = some (.slice A0_2 l0_2.length c0_2) := (blk_cell BK201.out 2).trans rfl
          have hcz39_3 : wr.cell? ⟨gb201, 3, none⟩ = some (.slice A0_3 l0_3.length c0_3) := (blk_cell BK201.out 3).trans rfl
          have hcz39_4 : wr.cell? ⟨gb201, 4, none⟩ = some (.slice A0_4 l0_4.length c0_4) := (blk_cell BK201.out 4).trans rfl
          have hfz39_0 := blk_frozen BK201.out 0
          have hfz39_1 := blk_frozen BK201.out 1
          have hfz39_2 := blk_frozen BK201.out 2
          have hfz39_3 := blk_frozen BK201.out 3
          have hfz39_4 := blk_frozen BK201.out 4
          go_wp2
          repeat (go_quiet (fail); try go_wp2)
          go_ret
          exact ⟨by first | rfl | (simp [errW_none, errW_some] <;> rfl) | (simp [*, errW_none, errW_some] <;> rfl), by repeat (first | (with_reducible first | exact HB.out | apply below_alloc | apply pw_below_drewN | apply below_drew1 | refine below_set ?_ GE201.out | refine below_set ?_ GE202.out) | exact HB.out)⟩

/-! ### impl_Piece: function 176 -/
def impl_Piece.l0 : Nat → List (S91) → List (S91) → Int → Int → Option (Bool)
 | 0, _, _, _, _ => none
 | k + 1, x0, x1, x12, x13 => if x13 < x12 then (if 0 ≤ x13 then (if x13 < (x0.length : Int) then (if x13 < (x1.length : Int) then (if ((!(((rd_T91 x0 x13).f0.f0) == ((rd_T91 x1 x13).f0.f0)) || (!(((rd_T91 x0 x13).f0.f1) == ((rd_T91 x1 x13).f0.f1)))) || (!(((rd_T91 x0 x13).f1) == ((rd_T91 x1 x13).f1)) || (!(((rd_T91 x0 x13).f2) == ((rd_T91 x1 x13).f2)) || (!(((rd_T91 x0 x13).f3) == ((rd_T91 x1 x13).f3)))))) = true then (some false) else (impl_Piece.l0 k x0 x1 x12 (wrap64 (x13 + 1)))) else (none)) else (none)) else (none)) else (some true)
def impl_Piece.f (k : Nat) (l0 : List (S91)) (l1 : List (S91)) : Option (Bool) := if (l0.length : Int) = (l1.length : Int) then (impl_Piece.l0 k l0 l1 (l0.length : Int) 0) else (some false)
theorem impl_Piece.mono_l : ∀ k, (∀ y0 y1 y2 y3, LeO (impl_Piece.l0 k y0 y1 y2 y3) (impl_Piece.l0 (k + 1) y0 y1 y2 y3))
 | 0 => fun _ _ _ _ r h => by simp [impl_Piece.l0] at h
 | k + 1 => by
  have ih0 := impl_Piece.mono_l k
  ·intro y0 y1 y2 y3
   unfold impl_Piece.l0
   repeat' first
   | (with_reducible exact ih0 _ _ _ _)
   | (with_reducible exact LeO.refl _)
   | (with_reducible exact LeO.none _)
   | (with_reducible refine LeO.ite ?_ ?_)
   | (with_reducible refine LeO.bind ?_ (fun _ => ?_))
   | exact ih0 _ _ _ _
   | exact LeO.none _
   | refine LeO.ite ?_ ?_
   | refine LeO.bind ?_ (fun _ => ?_)
theorem impl_Piece.mono : ∀ a0 a1 k, LeO (impl_Piece.f k a0 a1) (impl_Piece.f (k + 1) a0 a1) := by
 intro a0 a1 k
 have ih0 := impl_Piece.mono_l k
 unfold impl_Piece.f
 repeat' first
   | (with_reducible exact ih0 _ _ _ _)
   | (with_reducible exact LeO.refl _)
   | (with_reducible exact LeO.none _)
   | (with_reducible refine LeO.ite ?_ ?_)
   | (with_reducible refine LeO.bind ?_ (fun _ => ?_))
   | exact ih0 _ _ _ _
   | exact LeO.none _
   | refine LeO.ite ?_ ?_
   | refine LeO.bind ?_ (fun _ => ?_)
set_option maxHeartbeats 8000000 in
set_option maxRecDepth 100000 in
theorem impl_Piece.calls (k : Nat) (A0 : Option Addr) (c0 : Nat) (l0 : List (S91)) (A1 : Option Addr) (c1 : Nat) (l1 : List (S91)) (r : Bool) (w : World) (hr0 : Kd.C k91 w A0 l0.length l0) (hc0 : l0.length ≤ c0) (hr1 : Kd.C k91 w A1 l1.length l1) (hc1 : l1.length ≤ c1) (h : impl_Piece.f k l0 l1 = some r) :
  Calls Try.prog 176 #[.slice A0 l0.length c0, .slice A1 l1.length c1] w fun e w' => e = .returned (.bool r) ∧ Drawn0 w w' := by
 have hu91 := Try.underlying91
 have HR0 := Aside0.mk hr0
 have HC0 := Aside0.mk hc0
 clear hr0 hc0
 have HR1 := Aside0.mk hr1
 have HC1 := Aside0.mk hc1
 clear hr1 hc1
 have H : (if (l0.length : Int) = (l1.length : Int) then (impl_Piece.l0 k l0 l1 (l0.length : Int) 0) else (some false)) = some r := h
 clear h
 by_cases c3 : (l0.length : Int) = (l1.length : Int)
 ·rw [if_pos c3] at H
  have c3b0 : ((l0.length : Int) == (l1.length : Int)) = true := beq_iff_eq.mpr c3
  have c3b1 : ((l0.length : Int) != (l1.length : Int)) = false := bne_eq_false_iff_eq.mpr c3
  have c3b2 : (l0.length == l1.length) = true := by first | simpa using c3 | (simp at c3 ⊢; omega)
  clear c3
  have H' := Aside0.mk H
  clear H
  go_enter Try.func176, Try.ntmps176
  go_wp2
  repeat (go_quiet (fail); try go_wp2)
  go_loopg [13] k (fun kq v13 w' => ∃ (x13_1 : Int), v13 = .int .i64 x13_1 ∧ Aside0 (impl_Piece.l0 kq l0 l1 (l0.length : Int) x13_1 = some r) ∧ Aside0 (kq ≤ k) ∧ Drawn0 w w')
  case atStart => exact ⟨(0), (by first | rfl | (simp; done) | (simp [*]; done) | (exact congrArg (Value.int .i64) (wrap_eq (by omega)))), H', ⟨Nat.le_refl _⟩, by repeat (first | exact Drawn0.refl _ | apply Drawn0.step)⟩
  case round =>
   clear H'
   try clear c1
   try clear p2
   try clear c3
   try clear c3b0
   try clear c3b1
   try clear c3b2
   obtain ⟨x13_1, rfl, HA, HK1, ⟨m1, rfl⟩⟩ := hrel
   cases gk with
   | zero => exact absurd HA.out (by simp [impl_Piece.l0])
   | succ k1 =>
    have H := HA.out
    clear HA
    simp only [impl_Piece.l0] at H
    by_cases c4 : x13_1 < (l0.length : Int)
    ·rw [if_pos c4] at H
     have c4b0 : decide (x13_1 < (l0.length : Int)) = true := decide_eq_true c4
     clear c4
     by_cases c5 : 0 ≤ x13_1
     ·rw [if_pos c5] at H
      have c5b0 : decide (0 ≤ x13_1) = true := decide_eq_true c5
      clear c5
      by_cases c6 : x13_1 < (l0.length : Int)
      ·rw [if_pos c6] at H
       have c6b0 : decide (x13_1 < (l0.length : Int)) = true := decide_eq_true c6
       clear c6
       by_cases c7 : x13_1 < (l1.length : Int)
       ·rw [if_pos c7] at H
        have c7b0 : decide (x13_1 < (l1.length : Int)) = true := decide_eq_true c7
        clear c7
        by_cases c8 : ((!(((rd_T91 l0 x13_1).f0.f0) == ((rd_T91 l1 x13_1).f0.f0)) || (!(((rd_T91 l0 x13_1).f0.f1) == ((rd_T91 l1 x13_1).f0.f1)))) || (!(((rd_T91 l0 x13_1).f1) == ((rd_T91 l1 x13_1).f1)) || (!(((rd_T91 l0 x13_1).f2) == ((rd_T91 l1 x13_1).f2)) || (!(((rd_T91 l0 x13_1).f3) == ((rd_T91 l1 x13_1).f3)))))) = true
        ·rw [if_pos c8] at H
         have c8b0 : ((!(((rd_T91 l0 x13_1).f0.f0) == ((rd_T91 l1 x13_1).f0.f0)) || (!(((rd_T91 l0 x13_1).f0.f1) == ((rd_T91 l1 x13_1).f0.f1)))) || (!(((rd_T91 l0 x13_1).f1) == ((rd_T91 l1 x13_1).f1)) || (!(((rd_T91 l0 x13_1).f2) == ((rd_T91 l1 x13_1).f2)) || (!(((rd_T91 l0 x13_1).f3) == ((rd_T91 l1 x13_1).f3)))))) = true := c8
         clear c8
         obtain rfl := Option.some.inj H
         have p208 : 0 ≤ (x13_1 : Int) := of_decide_eq_true (by first | (with_reducible assumption) | assumption)
         have q208 : x13_1 < (l0.length : Int) := of_decide_eq_true (by first | (with_reducible assumption) | assumption)
         obtain ⟨ad208, e208, hx208_0, hx208_1, hx208_2, hx208_3, hx208_4⟩ := at_T91 HR0.out x13_1 p208 q208
         cases e208
         replace p208 := eq_true p208
         replace q208 := eq_true q208
         have p209 : 0 ≤ (x13_1 : Int) := of_decide_eq_true (by first | (with_reducible assumption) | assumption)
         have q209 : x13_1 < (l1.length : Int) := of_decide_eq_true (by first | (with_reducible assumption) | assumption)
         obtain ⟨ad209, e209, hx209_0, hx209_1, hx209_2, hx209_3, hx209_4⟩ := at_T91 HR1.out x13_1 p209 q209
         cases e209
         replace p209 := eq_true p209
         replace q209 := eq_true q209
         go_wp2
         repeat (go_quiet (fail); try go_wp2)
         go_ret
         exact ⟨by first | rfl | (simp; done) | (simp [*]; done) | (exact congrArg (Value.int .i64) (wrap_eq (by omega))), by repeat (first | exact Drawn0.refl _ | apply Drawn0.step)⟩
        ·rw [if_neg c8] at H
         have c8b0 : ((!(((rd_T91 l0 x13_1).f0.f0) == ((rd_T91 l1 x13_1).f0.f0)) || (!(((rd_T91 l0 x13_1).f0.f1) == ((rd_T91 l1 x13_1).f0.f1)))) || (!(((rd_T91 l0 x13_1).f1) == ((rd_T91 l1 x13_1).f1)) || (!(((rd_T91 l0 x13_1).f2) == ((rd_T91 l1 x13_1).f2)) || (!(((rd_T91 l0 x13_1).f3) == ((rd_T91 l1 x13_1).f3)))))) = false := by simpa using c8
         clear c8
         have H' := Aside0.mk H
         clear H
         have p208 : 0 ≤ (x13_1 : Int) := of_decide_eq_true (by first | (with_reducible assumption) | assumption)
         have q208 : x13_1 < (l0.length : Int) := of_decide_eq_true (by first | (with_reducible assumption) | assumption)
         obtain ⟨ad208, e208, hx208_0, hx208_1, hx208_2, hx208_3, hx208_4⟩ := at_T91 HR0.out x13_1 p208 q208
         cases e208
         replace p208 := eq_true p208
         replace q208 := eq_true q208
         have p209 : 0 ≤ (x13_1 : Int) := of_decide_eq_true (by first | (with_reducible assumption) | assumption)
         have q209 : x13_1 < (l1.length : Int) := of_decide_eq_true (by first | (with_reducible assumption) | assumption)
         obtain ⟨ad209, e209, hx209_0, hx209_1, hx209_2, hx209_3, hx209_4⟩ := at_T91 HR1.out x13_1 p209 q209
         cases e209
         replace p209 := eq_true p209
         replace q209 := eq_true q209
         go_wp2
         repeat (go_quiet (fail); try go_wp2)
         go_roundg k1
         case measure => have := HK1.out; omega
         case rel => exact ⟨(wrap64 (x13_1 + 1)), (by first | rfl | (simp; done) | (simp [*]; done) | (exact congrArg (Value.int .i64) (wrap_eq (by omega)))), H', ⟨by have := HK1.out; omega⟩, by repeat (first | exact Drawn0.refl _ | apply Drawn0.step)⟩
       ·rw [if_neg c7] at H
        exact absurd H (by simp)
      ·rw [if_neg c6] at H
       exact absurd H (by simp)
     ·rw [if_neg c5] at H
      exact absurd H (by simp)
    ·rw [if_neg c4] at H
     have c4b0 : decide (x13_1 < (l0.length : Int)) = false := decide_eq_false c4
     clear c4
     obtain rfl := Option.some.inj H
     go_wp2
     repeat (go_quiet (fail); try go_wp2)
     go_ret
     exact ⟨by first | rfl | (simp; done) | (simp [*]; done) | (exact congrArg (Value.int .i64) (wrap_eq (by omega))), by repeat (first | exact Drawn0.refl _ | apply Drawn0.step)⟩
 ·rw [if_neg c3] at H
  have c3b0 : ((l0.length : Int) == (l1.length : Int)) = false := beq_eq_false_iff_ne.mpr c3
  have c3b1 : ((l0.length : Int) != (l1.length : Int)) = true := bne_iff_ne.mpr c3
  have c3b2 : (l0.length == l1.length) = false := by first | simpa using c3 | (simp at c3 ⊢; omega)
  obtain rfl := Option.some.inj H
  go_enter Try.func176, Try.ntmps176
  go_wp2
  repeat (go_quiet (fail); try go_wp2)
  go_ret
  exact ⟨by first | rfl | (simp; done) | (simp [*]; done) | (exact congrArg (Value.int .i64) (wrap_eq (by omega))), by repeat (first | exact Drawn0.refl _ | apply Drawn0.step)⟩

end Go.Proofs.Ytffnfpnajkgnaaa.PFnExactSameMachine
