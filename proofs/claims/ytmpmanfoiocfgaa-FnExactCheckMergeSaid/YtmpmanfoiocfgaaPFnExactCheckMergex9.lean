-- WRITTEN by xprint.py, a program of this session's. Not trusted: Lean checks it.
import Derived.Test.YtmpmanfoiocfgaaPFnExactCheckMergex0
import Derived.Test.YtmpmanfoiocfgaaPFnExactCheckMergex6
import Derived.Test.YtmpmanfoiocfgaaPFnExactCheckMergex7
import Derived.Test.YtmpmanfoiocfgaaPFnExactCheckMergex8
namespace Go.Proofs.Ytmpmanfoiocfgaa.PFnExactCheckMerge
open Go.RowKit Go.Proofs.YtmpmanfoiocfgaaW.PrintWords Go.Proofs.YtmpmanfoiocfgaaW.PrintLast Go.Proofs.YtmpmanfoiocfgaaW.PrintMore Go.Proofs.YtmpmanfoiocfgaaX
attribute [local go_sem] max2_int min2_int max_two min_two max_three min_three max_four min_four   -- for this text's walks alone
set_option linter.unusedVariables false
set_option linter.unusedSimpArgs false

/-! ### impl_CheckMerge: function 43 -/
mutual
def impl_CheckMerge.j0 : Nat → List Int → Bool → Int → List (S81) → List Int → Int → List (S81) → List Int → Option (Bool × Int)
  | 0, _, _, _, _, _, _, _, _ => none
  | k + 1, x2, x21, x257000, x257001, x257002, x258000, x258001, x258002 => if x21 = true then (some (false, 1)) else (if (x2.length : Int) = (x257001.length : Int) then (if x257000 = x258000 then (impl_CheckMerge.j1 k x2 ((x257002.length : Int) != (x258002.length : Int)) x257000 x257001 x257002 x258000 x258001 x258002) else (impl_CheckMerge.j1 k x2 true x257000 x257001 x257002 x258000 x258001 x258002)) else (impl_CheckMerge.j1 k x2 true x257000 x257001 x257002 x258000 x258001 x258002))
def impl_CheckMerge.j1 : Nat → List Int → Bool → Int → List (S81) → List Int → Int → List (S81) → List Int → Option (Bool × Int)
  | 0, _, _, _, _, _, _, _, _ => none
  | k + 1, x2, x43, x257000, x257001, x257002, x258000, x258001, x258002 => if x43 = true then (some (false, 0)) else ((impl_Network_tables.f k [(⟨x257000, x257001, x257002⟩ : S31)]).bind fun t260 => ((impl_Network_tables.f k [(⟨x258000, x258001, x258002⟩ : S31)]).bind fun t263 => (impl_CheckMerge.l0 k x2 t260 t263 x2 (x2.length : Int) 0 x257000 x257001 x257002 x258000 x258001 x258002)))
def impl_CheckMerge.l0 : Nat → List Int → List Int → List Int → List Int → Int → Int → Int → List (S81) → List Int → Int → List (S81) → List Int → Option (Bool × Int)
  | 0, _, _, _, _, _, _, _, _, _, _, _, _ => none
  | k + 1, x2, x8, x9, x46, x47, x48, x257000, x257001, x257002, x258000, x258001, x258002 => if x48 < x47 then (if 0 ≤ x48 then (if x48 < (x46.length : Int) then ((impl_in.f (rd x46 x48) 0 (wrap64 ((x9.length : Int) - 1))).bind fun t267 => (if t267 = true then (if x48 < (x8.length : Int) then (if 0 ≤ (rd x46 x48) then (if (rd x46 x48) < (x9.length : Int) then (if (rd x8 x48) = (rd x9 (rd x46 x48)) then (impl_CheckMerge.l0 k x2 x8 x9 x46 x47 (wrap64 (x48 + 1)) x257000 x257001 x257002 x258000 x258001 x258002) else (some (false, 0))) else (none)) else (none)) else (none)) else (some (false, 0)))) else (none)) else (none)) else (impl_CheckMerge.l1 k x2 x257002 (x257002.length : Int) 0 x258000 x258001 x258002)
def impl_CheckMerge.l1 : Nat → List Int → List Int → Int → Int → Int → List (S81) → List Int → Option (Bool × Int)
  | 0, _, _, _, _, _, _, _ => none
  | k + 1, x2, x72, x73, x74, x258000, x258001, x258002 => if x74 < x73 then (if 0 ≤ x74 then (if x74 < (x72.length : Int) then (if 0 ≤ (rd x72 x74) then (if (rd x72 x74) < (x2.length : Int) then (if x74 < (x258002.length : Int) then (if (rd x2 (rd x72 x74)) = (wrap64 (rd x258002 x74)) then (impl_CheckMerge.l1 k x2 x72 x73 (wrap64 (x74 + 1)) x258000 x258001 x258002) else (some (false, 0))) else (none)) else (none)) else (none)) else (none)) else (none)) else (some (true, 0))
end
def impl_CheckMerge.f (k : Nat) (a0_0 : Int) (l0_1 : List (S81)) (l0_2 : List Int) (a1_0 : Int) (l1_1 : List (S81)) (l1_2 : List Int) (l2 : List Int) : Option (Bool × Int) := (impl_ValidNetwork.f k a0_0 l0_1 l0_2).bind fun t258 => (if t258 = true then ((impl_ValidNetwork.f k a1_0 l1_1 l1_2).bind fun t259 => (impl_CheckMerge.j0 k l2 (!t259) a0_0 l0_1 l0_2 a1_0 l1_1 l1_2)) else (impl_CheckMerge.j0 k l2 true a0_0 l0_1 l0_2 a1_0 l1_1 l1_2))
theorem impl_CheckMerge.mono_l : ∀ k, (∀ y0 y1 y2 y3 y4 y5 y6 y7, LeO (impl_CheckMerge.j0 k y0 y1 y2 y3 y4 y5 y6 y7) (impl_CheckMerge.j0 (k + 1) y0 y1 y2 y3 y4 y5 y6 y7)) ∧ (∀ y0 y1 y2 y3 y4 y5 y6 y7, LeO (impl_CheckMerge.j1 k y0 y1 y2 y3 y4 y5 y6 y7) (impl_CheckMerge.j1 (k + 1) y0 y1 y2 y3 y4 y5 y6 y7)) ∧ (∀ y0 y1 y2 y3 y4 y5 y6 y7 y8 y9 y10 y11, LeO (impl_CheckMerge.l0 k y0 y1 y2 y3 y4 y5 y6 y7 y8 y9 y10 y11) (impl_CheckMerge.l0 (k + 1) y0 y1 y2 y3 y4 y5 y6 y7 y8 y9 y10 y11)) ∧ (∀ y0 y1 y2 y3 y4 y5 y6, LeO (impl_CheckMerge.l1 k y0 y1 y2 y3 y4 y5 y6) (impl_CheckMerge.l1 (k + 1) y0 y1 y2 y3 y4 y5 y6))
  | 0 => ⟨fun _ _ _ _ _ _ _ _ r h => by simp [impl_CheckMerge.j0] at h, fun _ _ _ _ _ _ _ _ r h => by simp [impl_CheckMerge.j1] at h, fun _ _ _ _ _ _ _ _ _ _ _ _ r h => by simp [impl_CheckMerge.l0] at h, fun _ _ _ _ _ _ _ r h => by simp [impl_CheckMerge.l1] at h⟩
  | k + 1 => by
    obtain ⟨ih0, ih1, ih2, ih3⟩ := impl_CheckMerge.mono_l k
    refine ⟨?_, ?_, ?_, ?_⟩
    · intro y0 y1 y2 y3 y4 y5 y6 y7
      unfold impl_CheckMerge.j0
      repeat' first
      | (with_reducible exact ih0 _ _ _ _ _ _ _ _)
      | (with_reducible exact ih1 _ _ _ _ _ _ _ _)
      | (with_reducible exact ih2 _ _ _ _ _ _ _ _ _ _ _ _)
      | (with_reducible exact ih3 _ _ _ _ _ _ _)
      | (with_reducible exact impl_Network_tables.mono _ _)
      | (with_reducible exact impl_ValidNetwork.mono _ _ _ _)
      | (with_reducible exact LeO.refl _)
      | (with_reducible exact LeO.none _)
      | (with_reducible refine LeO.ite ?_ ?_)
      | (with_reducible refine LeO.bind ?_ (fun _ => ?_))
      | exact ih0 _ _ _ _ _ _ _ _
      | exact ih1 _ _ _ _ _ _ _ _
      | exact ih2 _ _ _ _ _ _ _ _ _ _ _ _
      | exact ih3 _ _ _ _ _ _ _
      | exact impl_Network_tables.mono _ _
      | exact impl_ValidNetwork.mono _ _ _ _
      | exact LeO.none _
      | refine LeO.ite ?_ ?_
      | refine LeO.bind ?_ (fun _ => ?_)
    · intro y0 y1 y2 y3 y4 y5 y6 y7
      unfold impl_CheckMerge.j1
      repeat' first
      | (with_reducible exact ih0 _ _ _ _ _ _ _ _)
      | (with_reducible exact ih1 _ _ _ _ _ _ _ _)
      | (with_reducible exact ih2 _ _ _ _ _ _ _ _ _ _ _ _)
      | (with_reducible exact ih3 _ _ _ _ _ _ _)
      | (with_reducible exact impl_Network_tables.mono _ _)
      | (with_reducible exact impl_ValidNetwork.mono _ _ _ _)
      | (with_reducible exact LeO.refl _)
      | (with_reducible exact LeO.none _)
      | (with_reducible refine LeO.ite ?_ ?_)
      | (with_reducible refine LeO.bind ?_ (fun _ => ?_))
      | exact ih0 _ _ _ _ _ _ _ _
      | exact ih1 _ _ _ _ _ _ _ _
      | exact ih2 _ _ _ _ _ _ _ _ _ _ _ _
      | exact ih3 _ _ _ _ _ _ _
      | exact impl_Network_tables.mono _ _
      | exact impl_ValidNetwork.mono _ _ _ _
      | exact LeO.none _
      | refine LeO.ite ?_ ?_
      | refine LeO.bind ?_ (fun _ => ?_)
    · intro y0 y1 y2 y3 y4 y5 y6 y7 y8 y9 y10 y11
      unfold impl_CheckMerge.l0
      repeat' first
      | (with_reducible exact ih0 _ _ _ _ _ _ _ _)
      | (with_reducible exact ih1 _ _ _ _ _ _ _ _)
      | (with_reducible exact ih2 _ _ _ _ _ _ _ _ _ _ _ _)
      | (with_reducible exact ih3 _ _ _ _ _ _ _)
      | (with_reducible exact impl_Network_tables.mono _ _)
      | (with_reducible exact impl_ValidNetwork.mono _ _ _ _)
      | (with_reducible exact LeO.refl _)
      | (with_reducible exact LeO.none _)
      | (with_reducible refine LeO.ite ?_ ?_)
      | (with_reducible refine LeO.bind ?_ (fun _ => ?_))
      | exact ih0 _ _ _ _ _ _ _ _
      | exact ih1 _ _ _ _ _ _ _ _
      | exact ih2 _ _ _ _ _ _ _ _ _ _ _ _
      | exact ih3 _ _ _ _ _ _ _
      | exact impl_Network_tables.mono _ _
      | exact impl_ValidNetwork.mono _ _ _ _
      | exact LeO.none _
      | refine LeO.ite ?_ ?_
      | refine LeO.bind ?_ (fun _ => ?_)
    · intro y0 y1 y2 y3 y4 y5 y6
      unfold impl_CheckMerge.l1
      repeat' first
      | (with_reducible exact ih0 _ _ _ _ _ _ _ _)
      | (with_reducible exact ih1 _ _ _ _ _ _ _ _)
      | (with_reducible exact ih2 _ _ _ _ _ _ _ _ _ _ _ _)
      | (with_reducible exact ih3 _ _ _ _ _ _ _)
      | (with_reducible exact impl_Network_tables.mono _ _)
      | (with_reducible exact impl_ValidNetwork.mono _ _ _ _)
      | (with_reducible exact LeO.refl _)
      | (with_reducible exact LeO.none _)
      | (with_reducible refine LeO.ite ?_ ?_)
      | (with_reducible refine LeO.bind ?_ (fun _ => ?_))
      | exact ih0 _ _ _ _ _ _ _ _
      | exact ih1 _ _ _ _ _ _ _ _
      | exact ih2 _ _ _ _ _ _ _ _ _ _ _ _
      | exact ih3 _ _ _ _ _ _ _
      | exact impl_Network_tables.mono _ _
      | exact impl_ValidNetwork.mono _ _ _ _
      | exact LeO.none _
      | refine LeO.ite ?_ ?_
      | refine LeO.bind ?_ (fun _ => ?_)
theorem impl_CheckMerge.mono : ∀ a0 a1 a2 a3 a4 a5 a6 k, LeO (impl_CheckMerge.f k a0 a1 a2 a3 a4 a5 a6) (impl_CheckMerge.f (k + 1) a0 a1 a2 a3 a4 a5 a6) := by
  intro a0 a1 a2 a3 a4 a5 a6 k
  obtain ⟨ih0, ih1, ih2, ih3⟩ := impl_CheckMerge.mono_l k
  unfold impl_CheckMerge.f
  repeat' first
      | (with_reducible exact ih0 _ _ _ _ _ _ _ _)
      | (with_reducible exact ih1 _ _ _ _ _ _ _ _)
      | (with_reducible exact ih2 _ _ _ _ _ _ _ _ _ _ _ _)
      | (with_reducible exact ih3 _ _ _ _ _ _ _)
      | (with_reducible exact impl_Network_tables.mono _ _)
      | (with_reducible exact impl_ValidNetwork.mono _ _ _ _)
      | (with_reducible exact LeO.refl _)
      | (with_reducible exact LeO.none _)
      | (with_reducible refine LeO.ite ?_ ?_)
      | (with_reducible refine LeO.bind ?_ (fun _ => ?_))
      | exact ih0 _ _ _ _ _ _ _ _
      | exact ih1 _ _ _ _ _ _ _ _
      | exact ih2 _ _ _ _ _ _ _ _ _ _ _ _
      | exact ih3 _ _ _ _ _ _ _
      | exact impl_Network_tables.mono _ _
      | exact impl_ValidNetwork.mono _ _ _ _
      | exact LeO.none _
      | refine LeO.ite ?_ ?_
      | refine LeO.bind ?_ (fun _ => ?_)
set_option maxHeartbeats 8000000 in
set_option maxRecDepth 100000 in
theorem impl_CheckMerge.calls (k : Nat) (a0_0 : Int) (A0_1 : Option Addr) (c0_1 : Nat) (l0_1 : List (S81)) (A0_2 : Option Addr) (c0_2 : Nat) (l0_2 : List Int) (a1_0 : Int) (A1_1 : Option Addr) (c1_1 : Nat) (l1_1 : List (S81)) (A1_2 : Option Addr) (c1_2 : Nat) (l1_2 : List Int) (A2 : Option Addr) (c2 : Nat) (l2 : List Int) (r1 : Bool) (r2 : Int) (w : World) (hr0_1 : Kd.C k81 w A0_1 l0_1.length l0_1) (hc0_1 : l0_1.length ≤ c0_1) (hr0_2 : Kd.C (Kd.int .i16) w A0_2 l0_2.length l0_2) (hc0_2 : l0_2.length ≤ c0_2) (hr1_1 : Kd.C k81 w A1_1 l1_1.length l1_1) (hc1_1 : l1_1.length ≤ c1_1) (hr1_2 : Kd.C (Kd.int .i16) w A1_2 l1_2.length l1_2) (hc1_2 : l1_2.length ≤ c1_2) (hr2 : Kd.C (Kd.int .i64) w A2 l2.length l2) (hc2 : l2.length ≤ c2) (h : impl_CheckMerge.f k a0_0 l0_1 l0_2 a1_0 l1_1 l1_2 l2 = some (r1, r2)) :
    Calls Try.prog 43 #[.agg #[.int .i8 a0_0, .slice A0_1 l0_1.length c0_1, .slice A0_2 l0_2.length c0_2], .agg #[.int .i8 a1_0, .slice A1_1 l1_1.length c1_1, .slice A1_2 l1_2.length c1_2], .slice A2 l2.length c2] w fun e w' => e = .returned (.tuple #[.bool r1, .int .i64 r2]) ∧ Below w.heap.size w w' := by
  have hu31 := Try.underlying31
  have HR0_1 := Aside0.mk hr0_1
  have HC0_1 := Aside0.mk hc0_1
  clear hr0_1 hc0_1
  have HR0_2 := Aside0.mk hr0_2
  have HC0_2 := Aside0.mk hc0_2
  clear hr0_2 hc0_2
  have HR1_1 := Aside0.mk hr1_1
  have HC1_1 := Aside0.mk hc1_1
  clear hr1_1 hc1_1
  have HR1_2 := Aside0.mk hr1_2
  have HC1_2 := Aside0.mk hc1_2
  clear hr1_2 hc1_2
  have HR2 := Aside0.mk hr2
  have HC2 := Aside0.mk hc2
  clear hr2 hc2
  have HB := Aside0.mk (Below.refl w.heap.size w)
  have H : ((impl_ValidNetwork.f k a0_0 l0_1 l0_2).bind fun t258 => (if t258 = true then ((impl_ValidNetwork.f k a1_0 l1_1 l1_2).bind fun t259 => (impl_CheckMerge.j0 k l2 (!t259) a0_0 l0_1 l0_2 a1_0 l1_1 l1_2)) else (impl_CheckMerge.j0 k l2 true a0_0 l0_1 l0_2 a1_0 l1_1 l1_2))) = some (r1, r2) := h
  clear h
  have HC4 := Aside0.mk H
  clear H
  go_enter Try.func43, Try.ntmps43
  go_upto_region 1 with (first | ((with_reducible refine gate_dst (N := 3) rfl ?_); (try (refine gate_guard (by rfl) ?_; dsimp only)); refine box_event ?hg (N := 3) ?hd (cs := #[.int .i8 a0_0, .slice A0_1 l0_1.length c0_1, .slice A0_2 l0_2.length c0_2]) (t := 31) ?hr ?_; (case hd => rfl); (case hg => rfl); (case hr => first | (go_simp; done) | (go_simp; rfl)); intro gb256 hg w5 hbox hb; have n0_ := Aside0.mk (below_step (by repeat (first | (with_reducible first | exact HB.out | apply below_alloc | apply pw_below_drewN | apply below_drew1) | exact HB.out)) hb); have n1_ := Aside0.mk (hbox); have n2_ := Aside0.mk ((by rw [hg]; exact (below_size (by repeat (first | (with_reducible first | exact HB.out | apply below_alloc | apply pw_below_drewN | apply below_drew1) | exact HB.out))) : w.heap.size ≤ gb256)); have n3_ := Aside0.mk ((by rw [hg]; exact (below_size (by repeat (first | (with_reducible first | exact HB.out | apply below_alloc | apply pw_below_drewN | apply below_drew1) | exact HB.out))) : w.heap.size ≤ gb256)); clear HB; have HB := n0_; have BK256 := n1_; have GW256 := n2_; have GE256 := n3_; clear n0_ n1_ n2_ n3_; clear hb hbox hg) | ((with_reducible refine gate_dst (N := 4) rfl ?_); (try (refine gate_guard (by rfl) ?_; dsimp only)); refine box_event ?hg (N := 4) ?hd (cs := #[.int .i8 a1_0, .slice A1_1 l1_1.length c1_1, .slice A1_2 l1_2.length c1_2]) (t := 31) ?hr ?_; (case hd => rfl); (case hg => rfl); (case hr => first | (go_simp; done) | (go_simp; rfl)); intro gb257 hg w6 hbox hb; have n0_ := Aside0.mk (blk_below (g := gb256) (o := .cells #[.int .i8 a0_0, .slice A0_1 l0_1.length c0_1, .slice A0_2 l0_2.length c0_2] 31 (0, 0)) (by (with_reducible repeat (first | refine blk_drewN ?_ _ | refine blk_drew ?_ | refine blk_alloc ?_ _)); exact BK256.out) hb); have n1_ := Aside0.mk (below_step (by repeat (first | (with_reducible first | exact HB.out | apply below_alloc | apply pw_below_drewN | apply below_drew1 | refine below_set ?_ GE256.out) | exact HB.out)) hb); have n2_ := Aside0.mk (hbox); have n3_ := Aside0.mk ((by rw [hg]; exact (below_size (by repeat (first | (with_reducible first | exact HB.out | apply below_alloc | apply pw_below_drewN | apply below_drew1 | refine below_set ?_ GE256.out) | exact HB.out))) : w.heap.size ≤ gb257)); have n4_ := Aside0.mk ((by rw [hg]; exact (below_size (by repeat (first | (with_reducible first | exact HB.out | apply below_alloc | apply pw_below_drewN | apply below_drew1 | refine below_set ?_ GE256.out) | exact HB.out))) : w.heap.size ≤ gb257)); have n5_ := Aside0.mk ((by rw [hg]; exact Nat.ne_of_lt (blk_lt (g := gb256) (o := .cells #[.int .i8 a0_0, .slice A0_1 l0_1.length c0_1, .slice A0_2 l0_2.length c0_2] 31 (0, 0)) (by (with_reducible repeat (first | refine blk_drewN ?_ _ | refine blk_drew ?_ | refine blk_alloc ?_ _)); exact BK256.out)) : gb256 ≠ gb257)); have n6_ := Aside0.mk ((by rw [hg]; exact Nat.ne_of_gt (blk_lt (g := gb256) (o := .cells #[.int .i8 a0_0, .slice A0_1 l0_1.length c0_1, .slice A0_2 l0_2.length c0_2] 31 (0, 0)) (by (with_reducible repeat (first | refine blk_drewN ?_ _ | refine blk_drew ?_ | refine blk_alloc ?_ _)); exact BK256.out)) : gb257 ≠ gb256)); clear BK256; clear HB; have BK256 := n0_; have HB := n1_; have BK257 := n2_; have GW257 := n3_; have GE257 := n4_; have NB256_257 := n5_; have NB257_256 := n6_; clear n0_ n1_ n2_ n3_ n4_ n5_ n6_; clear hb hbox hg))
  repeat (go_quiet (first | ((with_reducible refine gate_dst (N := 3) rfl ?_); (try (refine gate_guard (by rfl) ?_; dsimp only)); refine box_event ?hg (N := 3) ?hd (cs := #[.int .i8 a0_0, .slice A0_1 l0_1.length c0_1, .slice A0_2 l0_2.length c0_2]) (t := 31) ?hr ?_; (case hd => rfl); (case hg => rfl); (case hr => first | (go_simp; done) | (go_simp; rfl)); intro gb256 hg w5 hbox hb; have n0_ := Aside0.mk (below_step (by repeat (first | (with_reducible first | exact HB.out | apply below_alloc | apply pw_below_drewN | apply below_drew1) | exact HB.out)) hb); have n1_ := Aside0.mk (hbox); have n2_ := Aside0.mk ((by rw [hg]; exact (below_size (by repeat (first | (with_reducible first | exact HB.out | apply below_alloc | apply pw_below_drewN | apply below_drew1) | exact HB.out))) : w.heap.size ≤ gb256)); have n3_ := Aside0.mk ((by rw [hg]; exact (below_size (by repeat (first | (with_reducible first | exact HB.out | apply below_alloc | apply pw_below_drewN | apply below_drew1) | exact HB.out))) : w.heap.size ≤ gb256)); clear HB; have HB := n0_; have BK256 := n1_; have GW256 := n2_; have GE256 := n3_; clear n0_ n1_ n2_ n3_; clear hb hbox hg) | ((with_reducible refine gate_dst (N := 4) rfl ?_); (try (refine gate_guard (by rfl) ?_; dsimp only)); refine box_event ?hg (N := 4) ?hd (cs := #[.int .i8 a1_0, .slice A1_1 l1_1.length c1_1, .slice A1_2 l1_2.length c1_2]) (t := 31) ?hr ?_; (case hd => rfl); (case hg => rfl); (case hr => first | (go_simp; done) | (go_simp; rfl)); intro gb257 hg w6 hbox hb; have n0_ := Aside0.mk (blk_below (g := gb256) (o := .cells #[.int .i8 a0_0, .slice A0_1 l0_1.length c0_1, .slice A0_2 l0_2.length c0_2] 31 (0, 0)) (by (with_reducible repeat (first | refine blk_drewN ?_ _ | refine blk_drew ?_ | refine blk_alloc ?_ _)); exact BK256.out) hb); have n1_ := Aside0.mk (below_step (by repeat (first | (with_reducible first | exact HB.out | apply below_alloc | apply pw_below_drewN | apply below_drew1 | refine below_set ?_ GE256.out) | exact HB.out)) hb); have n2_ := Aside0.mk (hbox); have n3_ := Aside0.mk ((by rw [hg]; exact (below_size (by repeat (first | (with_reducible first | exact HB.out | apply below_alloc | apply pw_below_drewN | apply below_drew1 | refine below_set ?_ GE256.out) | exact HB.out))) : w.heap.size ≤ gb257)); have n4_ := Aside0.mk ((by rw [hg]; exact (below_size (by repeat (first | (with_reducible first | exact HB.out | apply below_alloc | apply pw_below_drewN | apply below_drew1 | refine below_set ?_ GE256.out) | exact HB.out))) : w.heap.size ≤ gb257)); have n5_ := Aside0.mk ((by rw [hg]; exact Nat.ne_of_lt (blk_lt (g := gb256) (o := .cells #[.int .i8 a0_0, .slice A0_1 l0_1.length c0_1, .slice A0_2 l0_2.length c0_2] 31 (0, 0)) (by (with_reducible repeat (first | refine blk_drewN ?_ _ | refine blk_drew ?_ | refine blk_alloc ?_ _)); exact BK256.out)) : gb256 ≠ gb257)); have n6_ := Aside0.mk ((by rw [hg]; exact Nat.ne_of_gt (blk_lt (g := gb256) (o := .cells #[.int .i8 a0_0, .slice A0_1 l0_1.length c0_1, .slice A0_2 l0_2.length c0_2] 31 (0, 0)) (by (with_reducible repeat (first | refine blk_drewN ?_ _ | refine blk_drew ?_ | refine blk_alloc ?_ _)); exact BK256.out)) : gb257 ≠ gb256)); clear BK256; clear HB; have BK256 := n0_; have HB := n1_; have BK257 := n2_; have GW257 := n3_; have GE257 := n4_; have NB256_257 := n5_; have NB257_256 := n6_; clear n0_ n1_ n2_ n3_ n4_ n5_ n6_; clear hb hbox hg)); go_upto_region 1 with (first | ((with_reducible refine gate_dst (N := 3) rfl ?_); (try (refine gate_guard (by rfl) ?_; dsimp only)); refine box_event ?hg (N := 3) ?hd (cs := #[.int .i8 a0_0, .slice A0_1 l0_1.length c0_1, .slice A0_2 l0_2.length c0_2]) (t := 31) ?hr ?_; (case hd => rfl); (case hg => rfl); (case hr => first | (go_simp; done) | (go_simp; rfl)); intro gb256 hg w5 hbox hb; have n0_ := Aside0.mk (below_step (by repeat (first | (with_reducible first | exact HB.out | apply below_alloc | apply pw_below_drewN | apply below_drew1) | exact HB.out)) hb); have n1_ := Aside0.mk (hbox); have n2_ := Aside0.mk ((by rw [hg]; exact (below_size (by repeat (first | (with_reducible first | exact HB.out | apply below_alloc | apply pw_below_drewN | apply below_drew1) | exact HB.out))) : w.heap.size ≤ gb256)); have n3_ := Aside0.mk ((by rw [hg]; exact (below_size (by repeat (first | (with_reducible first | exact HB.out | apply below_alloc | apply pw_below_drewN | apply below_drew1) | exact HB.out))) : w.heap.size ≤ gb256)); clear HB; have HB := n0_; have BK256 := n1_; have GW256 := n2_; have GE256 := n3_; clear n0_ n1_ n2_ n3_; clear hb hbox hg) | ((with_reducible refine gate_dst (N := 4) rfl ?_); (try (refine gate_guard (by rfl) ?_; dsimp only)); refine box_event ?hg (N := 4) ?hd (cs := #[.int .i8 a1_0, .slice A1_1 l1_1.length c1_1, .slice A1_2 l1_2.length c1_2]) (t := 31) ?hr ?_; (case hd => rfl); (case hg => rfl); (case hr => first | (go_simp; done) | (go_simp; rfl)); intro gb257 hg w6 hbox hb; have n0_ := Aside0.mk (blk_below (g := gb256) (o := .cells #[.int .i8 a0_0, .slice A0_1 l0_1.length c0_1, .slice A0_2 l0_2.length c0_2] 31 (0, 0)) (by (with_reducible repeat (first | refine blk_drewN ?_ _ | refine blk_drew ?_ | refine blk_alloc ?_ _)); exact BK256.out) hb); have n1_ := Aside0.mk (below_step (by repeat (first | (with_reducible first | exact HB.out | apply below_alloc | apply pw_below_drewN | apply below_drew1 | refine below_set ?_ GE256.out) | exact HB.out)) hb); have n2_ := Aside0.mk (hbox); have n3_ := Aside0.mk ((by rw [hg]; exact (below_size (by repeat (first | (with_reducible first | exact HB.out | apply below_alloc | apply pw_below_drewN | apply below_drew1 | refine below_set ?_ GE256.out) | exact HB.out))) : w.heap.size ≤ gb257)); have n4_ := Aside0.mk ((by rw [hg]; exact (below_size (by repeat (first | (with_reducible first | exact HB.out | apply below_alloc | apply pw_below_drewN | apply below_drew1 | refine below_set ?_ GE256.out) | exact HB.out))) : w.heap.size ≤ gb257)); have n5_ := Aside0.mk ((by rw [hg]; exact Nat.ne_of_lt (blk_lt (g := gb256) (o := .cells #[.int .i8 a0_0, .slice A0_1 l0_1.length c0_1, .slice A0_2 l0_2.length c0_2] 31 (0, 0)) (by (with_reducible repeat (first | refine blk_drewN ?_ _ | refine blk_drew ?_ | refine blk_alloc ?_ _)); exact BK256.out)) : gb256 ≠ gb257)); have n6_ := Aside0.mk ((by rw [hg]; exact Nat.ne_of_gt (blk_lt (g := gb256) (o := .cells #[.int .i8 a0_0, .slice A0_1 l0_1.length c0_1, .slice A0_2 l0_2.length c0_2] 31 (0, 0)) (by (with_reducible repeat (first | refine blk_drewN ?_ _ | refine blk_drew ?_ | refine blk_alloc ?_ _)); exact BK256.out)) : gb257 ≠ gb256)); clear BK256; clear HB; have BK256 := n0_; have HB := n1_; have BK257 := n2_; have GW257 := n3_; have GE257 := n4_; have NB256_257 := n5_; have NB257_256 := n6_; clear n0_ n1_ n2_ n3_ n4_ n5_ n6_; clear hb hbox hg)))
  (try simp only [Act.put, List.setIfInBounds_toArray, List.set_cons_zero, List.set_cons_succ])
  go_cut [21] (fun v21 wc => ∃ (kq : Nat) (x21_3 : Bool), v21 = .bool x21_3 ∧ Aside0 (impl_CheckMerge.j0 kq l2 x21_3 a0_0 l0_1 l0_2 a1_0 l1_1 l1_2 = some (r1, r2)) ∧ Aside0 (kq ≤ k) ∧ Aside0 (wc.heap[gb256]? = some (.cells #[.int .i8 a0_0, (.slice A0_1 l0_1.length c0_1), (.slice A0_2 l0_2.length c0_2)] 31 (0, 0))) ∧ Aside0 (wc.heap[gb257]? = some (.cells #[.int .i8 a1_0, (.slice A1_1 l1_1.length c1_1), (.slice A1_2 l1_2.length c1_2)] 31 (0, 0))) ∧ Aside0 (Below w.heap.size w wc))
  case first =>
    have H := HC4.out
    clear HC4
    replace H := Option.bind_eq_some_iff.mp H
    obtain ⟨t258, A70, H⟩ := H
    replace H : (if t258 = true then ((impl_ValidNetwork.f k a1_0 l1_1 l1_2).bind fun t259 => (impl_CheckMerge.j0 k l2 (!t259) a0_0 l0_1 l0_2 a1_0 l1_1 l1_2)) else (impl_CheckMerge.j0 k l2 true a0_0 l0_1 l0_2 a1_0 l1_1 l1_2)) = some (r1, r2) := H
    have A7 := Aside0.mk A70
    clear A70
    by_cases c8 : t258 = true
    · subst c8
      have H1 : ((impl_ValidNetwork.f k a1_0 l1_1 l1_2).bind fun t259 => (impl_CheckMerge.j0 k l2 (!t259) a0_0 l0_1 l0_2 a1_0 l1_1 l1_2)) = some (r1, r2) := by rw [if_pos rfl] at H; exact H
      clear H
      have H := H1
      clear H1
      replace H := Option.bind_eq_some_iff.mp H
      obtain ⟨t259, A90, H⟩ := H
      replace H : (impl_CheckMerge.j0 k l2 (!t259) a0_0 l0_1 l0_2 a1_0 l1_1 l1_2) = some (r1, r2) := H
      have A9 := Aside0.mk A90
      clear A90
      have H' := Aside0.mk H
      clear H
      have hnb10 := NB256_257.out
      have hnc10 := NB257_256.out
      have hcz11_0 : w6.cell? ⟨gb256, 0, none⟩ = some (.int .i8 a0_0) := (blk_cell BK256.out 0).trans rfl
      have hcz11_1 : w6.cell? ⟨gb256, 1, none⟩ = some (.slice A0_1 l0_1.length c0_1) := (blk_cell BK256.out 1).trans rfl
      have hcz11_2 : w6.cell? ⟨gb256, 2, none⟩ = some (.slice A0_2 l0_2.length c0_2) := (blk_cell BK256.out 2).trans rfl
      have hfz11_0 := blk_frozen BK256.out 0
      have hfz11_1 := blk_frozen BK256.out 1
      have hfz11_2 := blk_frozen BK256.out 2
      go_wp2_with (first | (go_at_call 27; (with_reducible refine (impl_ValidNetwork.calls k a0_0 _ _ l0_1 _ _ l0_2 true _ ?side1 ?side2 ?side3 ?side4 A7.out).mono ?_); (case side1 => repeat (first | exact (Kd.C_below HR0_1.out HB.out) | (with_reducible refine Kd.C_alloc ?_ _) | (with_reducible refine Kd.C_drewN ?_ _) | (with_reducible refine Kd.C_drew ?_))); (case side2 => exact HC0_1.out); (case side3 => repeat (first | exact (Kd.C_below HR0_2.out HB.out) | (with_reducible refine Kd.C_alloc ?_ _) | (with_reducible refine Kd.C_drewN ?_ _) | (with_reducible refine Kd.C_drew ?_))); (case side4 => exact HC0_2.out); rintro e w12 ⟨rfl, hb⟩; have n0_ := Aside0.mk (blk_below (g := gb256) (o := .cells #[.int .i8 a0_0, .slice A0_1 l0_1.length c0_1, .slice A0_2 l0_2.length c0_2] 31 (0, 0)) (by (with_reducible repeat (first | refine blk_drewN ?_ _ | refine blk_drew ?_ | refine blk_alloc ?_ _)); exact BK256.out) hb); have n1_ := Aside0.mk (blk_below (g := gb257) (o := .cells #[.int .i8 a1_0, .slice A1_1 l1_1.length c1_1, .slice A1_2 l1_2.length c1_2] 31 (0, 0)) (by (with_reducible repeat (first | refine blk_drewN ?_ _ | refine blk_drew ?_ | refine blk_alloc ?_ _)); exact BK257.out) hb); have n2_ := Aside0.mk (below_step (by repeat (first | (with_reducible first | exact HB.out | apply below_alloc | apply pw_below_drewN | apply below_drew1 | refine below_set ?_ GE256.out | refine below_set ?_ GE257.out) | exact HB.out)) hb); clear BK256; clear BK257; clear HB; have BK256 := n0_; have BK257 := n1_; have HB := n2_; clear n0_ n1_ n2_; (try clear hb); (try clear hb2); (try clear hk); (try clear hi); have hcz13_0 : w12.cell? ⟨gb257, 0, none⟩ = some (.int .i8 a1_0) := (blk_cell BK257.out 0).trans rfl; have hcz13_1 : w12.cell? ⟨gb257, 1, none⟩ = some (.slice A1_1 l1_1.length c1_1) := (blk_cell BK257.out 1).trans rfl; have hcz13_2 : w12.cell? ⟨gb257, 2, none⟩ = some (.slice A1_2 l1_2.length c1_2) := (blk_cell BK257.out 2).trans rfl; have hfz13_0 := blk_frozen BK257.out 0; have hfz13_1 := blk_frozen BK257.out 1; have hfz13_2 := blk_frozen BK257.out 2) | (go_at_call 27; (with_reducible refine (impl_ValidNetwork.calls k a1_0 _ _ l1_1 _ _ l1_2 t259 _ ?side1 ?side2 ?side3 ?side4 A9.out).mono ?_); (case side1 => repeat (first | exact (Kd.C_below HR1_1.out HB.out) | (with_reducible refine Kd.C_alloc ?_ _) | (with_reducible refine Kd.C_drewN ?_ _) | (with_reducible refine Kd.C_drew ?_))); (case side2 => exact HC1_1.out); (case side3 => repeat (first | exact (Kd.C_below HR1_2.out HB.out) | (with_reducible refine Kd.C_alloc ?_ _) | (with_reducible refine Kd.C_drewN ?_ _) | (with_reducible refine Kd.C_drew ?_))); (case side4 => exact HC1_2.out); rintro e w14 ⟨rfl, hb⟩; have n0_ := Aside0.mk (blk_below (g := gb256) (o := .cells #[.int .i8 a0_0, .slice A0_1 l0_1.length c0_1, .slice A0_2 l0_2.length c0_2] 31 (0, 0)) (by (with_reducible repeat (first | refine blk_drewN ?_ _ | refine blk_drew ?_ | refine blk_alloc ?_ _)); exact BK256.out) hb); have n1_ := Aside0.mk (blk_below (g := gb257) (o := .cells #[.int .i8 a1_0, .slice A1_1 l1_1.length c1_1, .slice A1_2 l1_2.length c1_2] 31 (0, 0)) (by (with_reducible repeat (first | refine blk_drewN ?_ _ | refine blk_drew ?_ | refine blk_alloc ?_ _)); exact BK257.out) hb); have n2_ := Aside0.mk (below_step (by repeat (first | (with_reducible first | exact HB.out | apply below_alloc | apply pw_below_drewN | apply below_drew1 | refine below_set ?_ GE256.out | refine below_set ?_ GE257.out) | exact HB.out)) hb); clear BK256; clear BK257; clear HB; have BK256 := n0_; have BK257 := n1_; have HB := n2_; clear n0_ n1_ n2_; (try clear hb); (try clear hb2); (try clear hk); (try clear hi)))
      repeat (go_quiet (first | (go_at_call 27; (with_reducible refine (impl_ValidNetwork.calls k a0_0 _ _ l0_1 _ _ l0_2 true _ ?side1 ?side2 ?side3 ?side4 A7.out).mono ?_); (case side1 => repeat (first | exact (Kd.C_below HR0_1.out HB.out) | (with_reducible refine Kd.C_alloc ?_ _) | (with_reducible refine Kd.C_drewN ?_ _) | (with_reducible refine Kd.C_drew ?_))); (case side2 => exact HC0_1.out); (case side3 => repeat (first | exact (Kd.C_below HR0_2.out HB.out) | (with_reducible refine Kd.C_alloc ?_ _) | (with_reducible refine Kd.C_drewN ?_ _) | (with_reducible refine Kd.C_drew ?_))); (case side4 => exact HC0_2.out); rintro e w12 ⟨rfl, hb⟩; have n0_ := Aside0.mk (blk_below (g := gb256) (o := .cells #[.int .i8 a0_0, .slice A0_1 l0_1.length c0_1, .slice A0_2 l0_2.length c0_2] 31 (0, 0)) (by (with_reducible repeat (first | refine blk_drewN ?_ _ | refine blk_drew ?_ | refine blk_alloc ?_ _)); exact BK256.out) hb); have n1_ := Aside0.mk (blk_below (g := gb257) (o := .cells #[.int .i8 a1_0, .slice A1_1 l1_1.length c1_1, .slice A1_2 l1_2.length c1_2] 31 (0, 0)) (by (with_reducible repeat (first | refine blk_drewN ?_ _ | refine blk_drew ?_ | refine blk_alloc ?_ _)); exact BK257.out) hb); have n2_ := Aside0.mk (below_step (by repeat (first | (with_reducible first | exact HB.out | apply below_alloc | apply pw_below_drewN | apply below_drew1 | refine below_set ?_ GE256.out | refine below_set ?_ GE257.out) | exact HB.out)) hb); clear BK256; clear BK257; clear HB; have BK256 := n0_; have BK257 := n1_; have HB := n2_; clear n0_ n1_ n2_; (try clear hb); (try clear hb2); (try clear hk); (try clear hi); have hcz13_0 : w12.cell? ⟨gb257, 0, none⟩ = some (.int .i8 a1_0) := (blk_cell BK257.out 0).trans rfl; have hcz13_1 : w12.cell? ⟨gb257, 1, none⟩ = some (.slice A1_1 l1_1.length c1_1) := (blk_cell BK257.out 1).trans rfl; have hcz13_2 : w12.cell? ⟨gb257, 2, none⟩ = some (.slice A1_2 l1_2.length c1_2) := (blk_cell BK257.out 2).trans rfl; have hfz13_0 := blk_frozen BK257.out 0; have hfz13_1 := blk_frozen BK257.out 1; have hfz13_2 := blk_frozen BK257.out 2) | (go_at_call 27; (with_reducible refine (impl_ValidNetwork.calls k a1_0 _ _ l1_1 _ _ l1_2 t259 _ ?side1 ?side2 ?side3 ?side4 A9.out).mono ?_); (case side1 => repeat (first | exact (Kd.C_below HR1_1.out HB.out) | (with_reducible refine Kd.C_alloc ?_ _) | (with_reducible refine Kd.C_drewN ?_ _) | (with_reducible refine Kd.C_drew ?_))); (case side2 => exact HC1_1.out); (case side3 => repeat (first | exact (Kd.C_below HR1_2.out HB.out) | (with_reducible refine Kd.C_alloc ?_ _) | (with_reducible refine Kd.C_drewN ?_ _) | (with_reducible refine Kd.C_drew ?_))); (case side4 => exact HC1_2.out); rintro e w14 ⟨rfl, hb⟩; have n0_ := Aside0.mk (blk_below (g := gb256) (o := .cells #[.int .i8 a0_0, .slice A0_1 l0_1.length c0_1, .slice A0_2 l0_2.length c0_2] 31 (0, 0)) (by (with_reducible repeat (first | refine blk_drewN ?_ _ | refine blk_drew ?_ | refine blk_alloc ?_ _)); exact BK256.out) hb); have n1_ := Aside0.mk (blk_below (g := gb257) (o := .cells #[.int .i8 a1_0, .slice A1_1 l1_1.length c1_1, .slice A1_2 l1_2.length c1_2] 31 (0, 0)) (by (with_reducible repeat (first | refine blk_drewN ?_ _ | refine blk_drew ?_ | refine blk_alloc ?_ _)); exact BK257.out) hb); have n2_ := Aside0.mk (below_step (by repeat (first | (with_reducible first | exact HB.out | apply below_alloc | apply pw_below_drewN | apply below_drew1 | refine below_set ?_ GE256.out | refine below_set ?_ GE257.out) | exact HB.out)) hb); clear BK256; clear BK257; clear HB; have BK256 := n0_; have BK257 := n1_; have HB := n2_; clear n0_ n1_ n2_; (try clear hb); (try clear hb2); (try clear hk); (try clear hi))); try go_wp2_with (first | (go_at_call 27; (with_reducible refine (impl_ValidNetwork.calls k a0_0 _ _ l0_1 _ _ l0_2 true _ ?side1 ?side2 ?side3 ?side4 A7.out).mono ?_); (case side1 => repeat (first | exact (Kd.C_below HR0_1.out HB.out) | (with_reducible refine Kd.C_alloc ?_ _) | (with_reducible refine Kd.C_drewN ?_ _) | (with_reducible refine Kd.C_drew ?_))); (case side2 => exact HC0_1.out); (case side3 => repeat (first | exact (Kd.C_below HR0_2.out HB.out) | (with_reducible refine Kd.C_alloc ?_ _) | (with_reducible refine Kd.C_drewN ?_ _) | (with_reducible refine Kd.C_drew ?_))); (case side4 => exact HC0_2.out); rintro e w12 ⟨rfl, hb⟩; have n0_ := Aside0.mk (blk_below (g := gb256) (o := .cells #[.int .i8 a0_0, .slice A0_1 l0_1.length c0_1, .slice A0_2 l0_2.length c0_2] 31 (0, 0)) (by (with_reducible repeat (first | refine blk_drewN ?_ _ | refine blk_drew ?_ | refine blk_alloc ?_ _)); exact BK256.out) hb); have n1_ := Aside0.mk (blk_below (g := gb257) (o := .cells #[.int .i8 a1_0, .slice A1_1 l1_1.length c1_1, .slice A1_2 l1_2.length c1_2] 31 (0, 0)) (by (with_reducible repeat (first | refine blk_drewN ?_ _ | refine blk_drew ?_ | refine blk_alloc ?_ _)); exact BK257.out) hb); have n2_ := Aside0.mk (below_step (by repeat (first | (with_reducible first | exact HB.out | apply below_alloc | apply pw_below_drewN | apply below_drew1 | refine below_set ?_ GE256.out | refine below_set ?_ GE257.out) | exact HB.out)) hb); clear BK256; clear BK257; clear HB; have BK256 := n0_; have BK257 := n1_; have HB := n2_; clear n0_ n1_ n2_; (try clear hb); (try clear hb2); (try clear hk); (try clear hi); have hcz13_0 : w12.cell? ⟨gb257, 0, none⟩ = some (.int .i8 a1_0) := (blk_cell BK257.out 0).trans rfl; have hcz13_1 : w12.cell? ⟨gb257, 1, none⟩ = some (.slice A1_1 l1_1.length c1_1) := (blk_cell BK257.out 1).trans rfl; have hcz13_2 : w12.cell? ⟨gb257, 2, none⟩ = some (.slice A1_2 l1_2.length c1_2) := (blk_cell BK257.out 2).trans rfl; have hfz13_0 := blk_frozen BK257.out 0; have hfz13_1 := blk_frozen BK257.out 1; have hfz13_2 := blk_frozen BK257.out 2) | (go_at_call 27; (with_reducible refine (impl_ValidNetwork.calls k a1_0 _ _ l1_1 _ _ l1_2 t259 _ ?side1 ?side2 ?side3 ?side4 A9.out).mono ?_); (case side1 => repeat (first | exact (Kd.C_below HR1_1.out HB.out) | (with_reducible refine Kd.C_alloc ?_ _) | (with_reducible refine Kd.C_drewN ?_ _) | (with_reducible refine Kd.C_drew ?_))); (case side2 => exact HC1_1.out); (case side3 => repeat (first | exact (Kd.C_below HR1_2.out HB.out) | (with_reducible refine Kd.C_alloc ?_ _) | (with_reducible refine Kd.C_drewN ?_ _) | (with_reducible refine Kd.C_drew ?_))); (case side4 => exact HC1_2.out); rintro e w14 ⟨rfl, hb⟩; have n0_ := Aside0.mk (blk_below (g := gb256) (o := .cells #[.int .i8 a0_0, .slice A0_1 l0_1.length c0_1, .slice A0_2 l0_2.length c0_2] 31 (0, 0)) (by (with_reducible repeat (first | refine blk_drewN ?_ _ | refine blk_drew ?_ | refine blk_alloc ?_ _)); exact BK256.out) hb); have n1_ := Aside0.mk (blk_below (g := gb257) (o := .cells #[.int .i8 a1_0, .slice A1_1 l1_1.length c1_1, .slice A1_2 l1_2.length c1_2] 31 (0, 0)) (by (with_reducible repeat (first | refine blk_drewN ?_ _ | refine blk_drew ?_ | refine blk_alloc ?_ _)); exact BK257.out) hb); have n2_ := Aside0.mk (below_step (by repeat (first | (with_reducible first | exact HB.out | apply below_alloc | apply pw_below_drewN | apply below_drew1 | refine below_set ?_ GE256.out | refine below_set ?_ GE257.out) | exact HB.out)) hb); clear BK256; clear BK257; clear HB; have BK256 := n0_; have BK257 := n1_; have HB := n2_; clear n0_ n1_ n2_; (try clear hb); (try clear hb2); (try clear hk); (try clear hi))))
      go_meet
      case rel => exact ⟨_, (!t259), (by first | rfl | (simp; done) | (simp [*]; done) | (exact congrArg (Value.int .i64) (wrap_eq (by omega)))), H', ⟨by first | omega | exact Nat.le_refl _⟩, ⟨by (with_reducible repeat (first | refine blk_drewN ?_ _ | refine blk_drew ?_ | refine blk_alloc ?_ _)); exact BK256.out⟩, ⟨by (with_reducible repeat (first | refine blk_drewN ?_ _ | refine blk_drew ?_ | refine blk_alloc ?_ _)); exact BK257.out⟩, ⟨by repeat (first | (with_reducible first | exact HB.out | apply below_alloc | apply pw_below_drewN | apply below_drew1 | refine below_set ?_ GE256.out | refine below_set ?_ GE257.out) | exact HB.out)⟩⟩
    · replace c8 := Bool.eq_false_iff.mpr c8
      subst c8
      have H1 : (impl_CheckMerge.j0 k l2 true a0_0 l0_1 l0_2 a1_0 l1_1 l1_2) = some (r1, r2) := by rw [if_neg (show ¬ (false = true) by decide)] at H; exact H
      clear H
      have H := H1
      clear H1
      have H' := Aside0.mk H
      clear H
      have hnb15 := NB256_257.out
      have hnc15 := NB257_256.out
      have hcz16_0 : w6.cell? ⟨gb256, 0, none⟩ = some (.int .i8 a0_0) := (blk_cell BK256.out 0).trans rfl
      have hcz16_1 : w6.cell? ⟨gb256, 1, none⟩ = some (.slice A0_1 l0_1.length c0_1) := (blk_cell BK256.out 1).trans rfl
      have hcz16_2 : w6.cell? ⟨gb256, 2, none⟩ = some (.slice A0_2 l0_2.length c0_2) := (blk_cell BK256.out 2).trans rfl
      have hfz16_0 := blk_frozen BK256.out 0
      have hfz16_1 := blk_frozen BK256.out 1
      have hfz16_2 := blk_frozen BK256.out 2
      go_wp2_with (first | (go_at_call 27; (with_reducible refine (impl_ValidNetwork.calls k a0_0 _ _ l0_1 _ _ l0_2 false _ ?side1 ?side2 ?side3 ?side4 A7.out).mono ?_); (case side1 => repeat (first | exact (Kd.C_below HR0_1.out HB.out) | (with_reducible refine Kd.C_alloc ?_ _) | (with_reducible refine Kd.C_drewN ?_ _) | (with_reducible refine Kd.C_drew ?_))); (case side2 => exact HC0_1.out); (case side3 => repeat (first | exact (Kd.C_below HR0_2.out HB.out) | (with_reducible refine Kd.C_alloc ?_ _) | (with_reducible refine Kd.C_drewN ?_ _) | (with_reducible refine Kd.C_drew ?_))); (case side4 => exact HC0_2.out); rintro e w17 ⟨rfl, hb⟩; have n0_ := Aside0.mk (blk_below (g := gb256) (o := .cells #[.int .i8 a0_0, .slice A0_1 l0_1.length c0_1, .slice A0_2 l0_2.length c0_2] 31 (0, 0)) (by (with_reducible repeat (first | refine blk_drewN ?_ _ | refine blk_drew ?_ | refine blk_alloc ?_ _)); exact BK256.out) hb); have n1_ := Aside0.mk (blk_below (g := gb257) (o := .cells #[.int .i8 a1_0, .slice A1_1 l1_1.length c1_1, .slice A1_2 l1_2.length c1_2] 31 (0, 0)) (by (with_reducible repeat (first | refine blk_drewN ?_ _ | refine blk_drew ?_ | refine blk_alloc ?_ _)); exact BK257.out) hb); have n2_ := Aside0.mk (below_step (by repeat (first | (with_reducible first | exact HB.out | apply below_alloc | apply pw_below_drewN | apply below_drew1 | refine below_set ?_ GE256.out | refine below_set ?_ GE257.out) | exact HB.out)) hb); clear BK256; clear BK257; clear HB; have BK256 := n0_; have BK257 := n1_; have HB := n2_; clear n0_ n1_ n2_; (try clear hb); (try clear hb2); (try clear hk); (try clear hi)))
      repeat (go_quiet (first | (go_at_call 27; (with_reducible refine (impl_ValidNetwork.calls k a0_0 _ _ l0_1 _ _ l0_2 false _ ?side1 ?side2 ?side3 ?side4 A7.out).mono ?_); (case side1 => repeat (first | exact (Kd.C_below HR0_1.out HB.out) | (with_reducible refine Kd.C_alloc ?_ _) | (with_reducible refine Kd.C_drewN ?_ _) | (with_reducible refine Kd.C_drew ?_))); (case side2 => exact HC0_1.out); (case side3 => repeat (first | exact (Kd.C_below HR0_2.out HB.out) | (with_reducible refine Kd.C_alloc ?_ _) | (with_reducible refine Kd.C_drewN ?_ _) | (with_reducible refine Kd.C_drew ?_))); (case side4 => exact HC0_2.out); rintro e w17 ⟨rfl, hb⟩; have n0_ := Aside0.mk (blk_below (g := gb256) (o := .cells #[.int .i8 a0_0, .slice A0_1 l0_1.length c0_1, .slice A0_2 l0_2.length c0_2] 31 (0, 0)) (by (with_reducible repeat (first | refine blk_drewN ?_ _ | refine blk_drew ?_ | refine blk_alloc ?_ _)); exact BK256.out) hb); have n1_ := Aside0.mk (blk_below (g := gb257) (o := .cells #[.int .i8 a1_0, .slice A1_1 l1_1.length c1_1, .slice A1_2 l1_2.length c1_2] 31 (0, 0)) (by (with_reducible repeat (first | refine blk_drewN ?_ _ | refine blk_drew ?_ | refine blk_alloc ?_ _)); exact BK257.out) hb); have n2_ := Aside0.mk (below_step (by repeat (first | (with_reducible first | exact HB.out | apply below_alloc | apply pw_below_drewN | apply below_drew1 | refine below_set ?_ GE256.out | refine below_set ?_ GE257.out) | exact HB.out)) hb); clear BK256; clear BK257; clear HB; have BK256 := n0_; have BK257 := n1_; have HB := n2_; clear n0_ n1_ n2_; (try clear hb); (try clear hb2); (try clear hk); (try clear hi))); try go_wp2_with (first | (go_at_call 27; (with_reducible refine (impl_ValidNetwork.calls k a0_0 _ _ l0_1 _ _ l0_2 false _ ?side1 ?side2 ?side3 ?side4 A7.out).mono ?_); (case side1 => repeat (first | exact (Kd.C_below HR0_1.out HB.out) | (with_reducible refine Kd.C_alloc ?_ _) | (with_reducible refine Kd.C_drewN ?_ _) | (with_reducible refine Kd.C_drew ?_))); (case side2 => exact HC0_1.out); (case side3 => repeat (first | exact (Kd.C_below HR0_2.out HB.out) | (with_reducible refine Kd.C_alloc ?_ _) | (with_reducible refine Kd.C_drewN ?_ _) | (with_reducible refine Kd.C_drew ?_))); (case side4 => exact HC0_2.out); rintro e w17 ⟨rfl, hb⟩; have n0_ := Aside0.mk (blk_below (g := gb256) (o := .cells #[.int .i8 a0_0, .slice A0_1 l0_1.length c0_1, .slice A0_2 l0_2.length c0_2] 31 (0, 0)) (by (with_reducible repeat (first | refine blk_drewN ?_ _ | refine blk_drew ?_ | refine blk_alloc ?_ _)); exact BK256.out) hb); have n1_ := Aside0.mk (blk_below (g := gb257) (o := .cells #[.int .i8 a1_0, .slice A1_1 l1_1.length c1_1, .slice A1_2 l1_2.length c1_2] 31 (0, 0)) (by (with_reducible repeat (first | refine blk_drewN ?_ _ | refine blk_drew ?_ | refine blk_alloc ?_ _)); exact BK257.out) hb); have n2_ := Aside0.mk (below_step (by repeat (first | (with_reducible first | exact HB.out | apply below_alloc | apply pw_below_drewN | apply below_drew1 | refine below_set ?_ GE256.out | refine below_set ?_ GE257.out) | exact HB.out)) hb); clear BK256; clear BK257; clear HB; have BK256 := n0_; have BK257 := n1_; have HB := n2_; clear n0_ n1_ n2_; (try clear hb); (try clear hb2); (try clear hk); (try clear hi))))
      go_meet
      case rel => exact ⟨_, (true), (by first | rfl | (simp; done) | (simp [*]; done) | (exact congrArg (Value.int .i64) (wrap_eq (by omega)))), H', ⟨by first | omega | exact Nat.le_refl _⟩, ⟨by (with_reducible repeat (first | refine blk_drewN ?_ _ | refine blk_drew ?_ | refine blk_alloc ?_ _)); exact BK256.out⟩, ⟨by (with_reducible repeat (first | refine blk_drewN ?_ _ | refine blk_drew ?_ | refine blk_alloc ?_ _)); exact BK257.out⟩, ⟨by repeat (first | (with_reducible first | exact HB.out | apply below_alloc | apply pw_below_drewN | apply below_drew1 | refine below_set ?_ GE256.out | refine below_set ?_ GE257.out) | exact HB.out)⟩⟩
  case rest =>
    clear HC4
    try clear c1
    try clear c2
    try clear p2
    try clear c4
    try clear c8
    try clear c10
    try clear c15
    try clear hcz11_0
    try clear hcz11_1
    try clear hcz11_2
    try clear hcz13_0
    try clear hcz13_1
    try clear hcz13_2
    try clear hcz16_0
    try clear hcz16_1
    try clear hcz16_2
    try clear hfz11_0
    try clear hfz11_1
    try clear hfz11_2
    try clear hfz13_0
    try clear hfz13_1
    try clear hfz13_2
    try clear hfz16_0
    try clear hfz16_1
    try clear hfz16_2
    obtain ⟨kq, x21_3, rfl, HA, HJ3, BK256, BK257, HB⟩ := hcut
    cases kq with
    | zero => exact absurd HA.out (by simp [impl_CheckMerge.j0])
    | succ kj3 =>
      have H := HA.out
      clear HA
      simp only [impl_CheckMerge.j0] at H
      by_cases c18 : x21_3 = true
      · subst c18
        have H1 : (some (false, 1)) = some (r1, r2) := by rw [if_pos rfl] at H; exact H
        clear H
        have H := H1
        clear H1
        simp only [Option.some.injEq, Prod.mk.injEq] at H
        obtain ⟨rfl, rfl⟩ := H
        go_wp2
        repeat (go_quiet (fail); try go_wp2)
        go_ret2
        exact ⟨by first | rfl | (simp [errW_none, errW_some] <;> rfl) | (simp [*, errW_none, errW_some] <;> rfl), by repeat (first | (with_reducible first | exact HB.out | apply below_alloc | apply pw_below_drewN | apply below_drew1 | refine below_set ?_ GE256.out | refine below_set ?_ GE257.out) | exact HB.out)⟩
      · replace c18 := Bool.eq_false_iff.mpr c18
        subst c18
        have H1 : (if (l2.length : Int) = (l0_1.length : Int) then (if a0_0 = a1_0 then (impl_CheckMerge.j1 kj3 l2 ((l0_2.length : Int) != (l1_2.length : Int)) a0_0 l0_1 l0_2 a1_0 l1_1 l1_2) else (impl_CheckMerge.j1 kj3 l2 true a0_0 l0_1 l0_2 a1_0 l1_1 l1_2)) else (impl_CheckMerge.j1 kj3 l2 true a0_0 l0_1 l0_2 a1_0 l1_1 l1_2)) = some (r1, r2) := by rw [if_neg (show ¬ (false = true) by decide)] at H; exact H
        clear H
        have H := H1
        clear H1
        have HC19 := Aside0.mk H
        clear H
        go_upto_region 3 with (fail)
        repeat (go_quiet (fail); go_upto_region 3 with (fail))
        go_cut [43] (fun v43 wc => ∃ (kq : Nat) (x43_18 : Bool), v43 = .bool x43_18 ∧ Aside0 (impl_CheckMerge.j1 kq l2 x43_18 a0_0 l0_1 l0_2 a1_0 l1_1 l1_2 = some (r1, r2)) ∧ Aside0 (kq ≤ kj3) ∧ Aside0 (wc.heap[gb256]? = some (.cells #[.int .i8 a0_0, (.slice A0_1 l0_1.length c0_1), (.slice A0_2 l0_2.length c0_2)] 31 (0, 0))) ∧ Aside0 (wc.heap[gb257]? = some (.cells #[.int .i8 a1_0, (.slice A1_1 l1_1.length c1_1), (.slice A1_2 l1_2.length c1_2)] 31 (0, 0))) ∧ Aside0 (Below w.heap.size w wc))
        case first =>
          have H := HC19.out
          clear HC19
          by_cases c20 : (l2.length : Int) = (l0_1.length : Int)
          · rw [if_pos c20] at H
            have c20b0 : ((l2.length : Int) == (l0_1.length : Int)) = true := beq_iff_eq.mpr c20
            have c20b1 : ((l2.length : Int) != (l0_1.length : Int)) = false := bne_eq_false_iff_eq.mpr c20
            have c20b2 : (l2.length == l0_1.length) = true := by first | simpa using c20 | (simp at c20 ⊢; omega)
            clear c20
            (first | rw [c20b0] | (simp only [i64_w, i32_w]; rw [c20b0]) | (have h_ := c20b0; simp only [bne] at h_; rw [h_]) | skip)
            by_cases c21 : a0_0 = a1_0
            · rw [if_pos c21] at H
              have c21b0 : (a0_0 == a1_0) = true := beq_iff_eq.mpr c21
              have c21b1 : (a0_0 != a1_0) = false := bne_eq_false_iff_eq.mpr c21
              clear c21
              have H' := Aside0.mk H
              clear H
              have hnb22 := NB256_257.out
              have hnc22 := NB257_256.out
              have hcz23_0 : wc.cell? ⟨gb256, 0, none⟩ = some (.int .i8 a0_0) := (blk_cell BK256.out 0).trans rfl
              have hcz23_1 : wc.cell? ⟨gb256, 1, none⟩ = some (.slice A0_1 l0_1.length c0_1) := (blk_cell BK256.out 1).trans rfl
              have hcz23_2 : wc.cell? ⟨gb256, 2, none⟩ = some (.slice A0_2 l0_2.length c0_2) := (blk_cell BK256.out 2).trans rfl
              have hfz23_0 := blk_frozen BK256.out 0
              have hfz23_1 := blk_frozen BK256.out 1
              have hfz23_2 := blk_frozen BK256.out 2
              have hcz24_0 : wc.cell? ⟨gb257, 0, none⟩ = some (.int .i8 a1_0) := (blk_cell BK257.out 0).trans rfl
              have hcz24_1 : wc.cell? ⟨gb257, 1, none⟩ = some (.slice A1_1 l1_1.length c1_1) := (blk_cell BK257.out 1).trans rfl
              have hcz24_2 : wc.cell? ⟨gb257, 2, none⟩ = some (.slice A1_2 l1_2.length c1_2) := (blk_cell BK257.out 2).trans rfl
              have hfz24_0 := blk_frozen BK257.out 0
              have hfz24_1 := blk_frozen BK257.out 1
              have hfz24_2 := blk_frozen BK257.out 2
              go_wp2
              repeat (go_quiet (fail); try go_wp2)
              go_meet
              case rel => exact ⟨_, (((l0_2.length : Int) != (l1_2.length : Int))), (by first | rfl | (simp; done) | (simp [*]; done) | (exact congrArg (Value.int .i64) (wrap_eq (by omega)))), H', ⟨by have := HJ3.out; first | omega | exact Nat.le_refl _⟩, ⟨by (with_reducible repeat (first | refine blk_drewN ?_ _ | refine blk_drew ?_ | refine blk_alloc ?_ _)); exact BK256.out⟩, ⟨by (with_reducible repeat (first | refine blk_drewN ?_ _ | refine blk_drew ?_ | refine blk_alloc ?_ _)); exact BK257.out⟩, ⟨by repeat (first | (with_reducible first | exact HB.out | apply below_alloc | apply pw_below_drewN | apply below_drew1 | refine below_set ?_ GE256.out | refine below_set ?_ GE257.out) | exact HB.out)⟩⟩
            · rw [if_neg c21] at H
              have c21b0 : (a0_0 == a1_0) = false := beq_eq_false_iff_ne.mpr c21
              have c21b1 : (a0_0 != a1_0) = true := bne_iff_ne.mpr c21
              have H' := Aside0.mk H
              clear H
              have hnb25 := NB256_257.out
              have hnc25 := NB257_256.out
              have hcz26_0 : wc.cell? ⟨gb256, 0, none⟩ = some (.int .i8 a0_0) := (blk_cell BK256.out 0).trans rfl
              have hcz26_1 : wc.cell? ⟨gb256, 1, none⟩ = some (.slice A0_1 l0_1.length c0_1) := (blk_cell BK256.out 1).trans rfl
              have hcz26_2 : wc.cell? ⟨gb256, 2, none⟩ = some (.slice A0_2 l0_2.length c0_2) := (blk_cell BK256.out 2).trans rfl
              have hfz26_0 := blk_frozen BK256.out 0
              have hfz26_1 := blk_frozen BK256.out 1
              have hfz26_2 := blk_frozen BK256.out 2
              have hcz27_0 : wc.cell? ⟨gb257, 0, none⟩ = some (.int .i8 a1_0) := (blk_cell BK257.out 0).trans rfl
              have hcz27_1 : wc.cell? ⟨gb257, 1, none⟩ = some (.slice A1_1 l1_1.length c1_1) := (blk_cell BK257.out 1).trans rfl
              have hcz27_2 : wc.cell? ⟨gb257, 2, none⟩ = some (.slice A1_2 l1_2.length c1_2) := (blk_cell BK257.out 2).trans rfl
              have hfz27_0 := blk_frozen BK257.out 0
              have hfz27_1 := blk_frozen BK257.out 1
              have hfz27_2 := blk_frozen BK257.out 2
              go_wp2
              repeat (go_quiet (fail); try go_wp2)
              go_meet
              case rel => exact ⟨_, (true), (by first | rfl | (simp; done) | (simp [*]; done) | (exact congrArg (Value.int .i64) (wrap_eq (by omega)))), H', ⟨by have := HJ3.out; first | omega | exact Nat.le_refl _⟩, ⟨by (with_reducible repeat (first | refine blk_drewN ?_ _ | refine blk_drew ?_ | refine blk_alloc ?_ _)); exact BK256.out⟩, ⟨by (with_reducible repeat (first | refine blk_drewN ?_ _ | refine blk_drew ?_ | refine blk_alloc ?_ _)); exact BK257.out⟩, ⟨by repeat (first | (with_reducible first | exact HB.out | apply below_alloc | apply pw_below_drewN | apply below_drew1 | refine below_set ?_ GE256.out | refine below_set ?_ GE257.out) | exact HB.out)⟩⟩
          · rw [if_neg c20] at H
            have c20b0 : ((l2.length : Int) == (l0_1.length : Int)) = false := beq_eq_false_iff_ne.mpr c20
            have c20b1 : ((l2.length : Int) != (l0_1.length : Int)) = true := bne_iff_ne.mpr c20
            have c20b2 : (l2.length == l0_1.length) = false := by first | simpa using c20 | (simp at c20 ⊢; omega)
            (first | rw [c20b0] | (simp only [i64_w, i32_w]; rw [c20b0]) | (have h_ := c20b0; simp only [bne] at h_; rw [h_]) | skip)
            have H' := Aside0.mk H
            clear H
            have hnb28 := NB256_257.out
            have hnc28 := NB257_256.out
            have hcz29_0 : wc.cell? ⟨gb256, 0, none⟩ = some (.int .i8 a0_0) := (blk_cell BK256.out 0).trans rfl
            have hcz29_1 : wc.cell? ⟨gb256, 1, none⟩ = some (.slice A0_1 l0_1.length c0_1) := (blk_cell BK256.out 1).trans rfl
            have hcz29_2 : wc.cell? ⟨gb256, 2, none⟩ = some (.slice A0_2 l0_2.length c0_2) := (blk_cell BK256.out 2).trans rfl
            have hfz29_0 := blk_frozen BK256.out 0
            have hfz29_1 := blk_frozen BK256.out 1
            have hfz29_2 := blk_frozen BK256.out 2
            go_wp2
            repeat (go_quiet (fail); try go_wp2)
            go_meet
            case rel => exact ⟨_, (true), (by first | rfl | (simp; done) | (simp [*]; done) | (exact congrArg (Value.int .i64) (wrap_eq (by omega)))), H', ⟨by have := HJ3.out; first | omega | exact Nat.le_refl _⟩, ⟨by (with_reducible repeat (first | refine blk_drewN ?_ _ | refine blk_drew ?_ | refine blk_alloc ?_ _)); exact BK256.out⟩, ⟨by (with_reducible repeat (first | refine blk_drewN ?_ _ | refine blk_drew ?_ | refine blk_alloc ?_ _)); exact BK257.out⟩, ⟨by repeat (first | (with_reducible first | exact HB.out | apply below_alloc | apply pw_below_drewN | apply below_drew1 | refine below_set ?_ GE256.out | refine below_set ?_ GE257.out) | exact HB.out)⟩⟩
        case rest =>
          clear HC19
          try clear c1
          try clear c2
          try clear p2
          try clear c4
          try clear c8
          try clear c10
          try clear c15
          try clear c18
          try clear c20
          try clear c20b0
          try clear c20b1
          try clear c20b2
          try clear c21
          try clear c21b0
          try clear c21b1
          try clear c22
          try clear c25
          try clear c28
          try clear hcz11_0
          try clear hcz11_1
          try clear hcz11_2
          try clear hcz13_0
          try clear hcz13_1
          try clear hcz13_2
          try clear hcz16_0
          try clear hcz16_1
          try clear hcz16_2
          try clear hcz23_0
          try clear hcz23_1
          try clear hcz23_2
          try clear hcz24_0
          try clear hcz24_1
          try clear hcz24_2
          try clear hcz26_0
          try clear hcz26_1
          try clear hcz26_2
          try clear hcz27_0
          try clear hcz27_1
          try clear hcz27_2
          try clear hcz29_0
          try clear hcz29_1
          try clear hcz29_2
          try clear hfz11_0
          try clear hfz11_1
          try clear hfz11_2
          try clear hfz13_0
          try clear hfz13_1
          try clear hfz13_2
          try clear hfz16_0
          try clear hfz16_1
          try clear hfz16_2
          try clear hfz23_0
          try clear hfz23_1
          try clear hfz23_2
          try clear hfz24_0
          try clear hfz24_1
          try clear hfz24_2
          try clear hfz26_0
          try clear hfz26_1
          try clear hfz26_2
          try clear hfz27_0
          try clear hfz27_1
          try clear hfz27_2
          try clear hfz29_0
          try clear hfz29_1
          try clear hfz29_2
          try clear p2
          obtain ⟨kq, x43_18, rfl, HA, HJ18, BK256, BK257, HB⟩ := hcut
          cases kq with
          | zero => exact absurd HA.out (by simp [impl_CheckMerge.j1])
          | succ kj18 =>
            have H := HA.out
            clear HA
            simp only [impl_CheckMerge.j1] at H
            by_cases c30 : x43_18 = true
            · subst c30
              have H1 : (some (false, 0)) = some (r1, r2) := by rw [if_pos rfl] at H; exact H
              clear H
              have H := H1
              clear H1
              simp only [Option.some.injEq, Prod.mk.injEq] at H
              obtain ⟨rfl, rfl⟩ := H
              go_wp2
              repeat (go_quiet (fail); try go_wp2)
              go_ret2
              exact ⟨by first | rfl | (simp [errW_none, errW_some] <;> rfl) | (simp [*, errW_none, errW_some] <;> rfl), by repeat (first | (with_reducible first | exact HB.out | apply below_alloc | apply pw_below_drewN | apply below_drew1 | refine below_set ?_ GE256.out | refine below_set ?_ GE257.out) | exact HB.out)⟩
            · replace c30 := Bool.eq_false_iff.mpr c30
              subst c30
              have H1 : ((impl_Network_tables.f kj18 [(⟨a0_0, l0_1, l0_2⟩ : S31)]).bind fun t260 => ((impl_Network_tables.f kj18 [(⟨a1_0, l1_1, l1_2⟩ : S31)]).bind fun t263 => (impl_CheckMerge.l0 kj18 l2 t260 t263 l2 (l2.length : Int) 0 a0_0 l0_1 l0_2 a1_0 l1_1 l1_2))) = some (r1, r2) := by rw [if_neg (show ¬ (false = true) by decide)] at H; exact H
              clear H
              have H := H1
              clear H1
              replace H := Option.bind_eq_some_iff.mp H
              obtain ⟨t260, A310, H⟩ := H
              replace H : ((impl_Network_tables.f kj18 [(⟨a1_0, l1_1, l1_2⟩ : S31)]).bind fun t263 => (impl_CheckMerge.l0 kj18 l2 t260 t263 l2 (l2.length : Int) 0 a0_0 l0_1 l0_2 a1_0 l1_1 l1_2)) = some (r1, r2) := H
              have A31 := Aside0.mk A310
              clear A310
              replace H := Option.bind_eq_some_iff.mp H
              obtain ⟨t263, A320, H⟩ := H
              replace H : (impl_CheckMerge.l0 kj18 l2 t260 t263 l2 (l2.length : Int) 0 a0_0 l0_1 l0_2 a1_0 l1_1 l1_2) = some (r1, r2) := H
              have A32 := Aside0.mk A320
              clear A320
              have H' := Aside0.mk H
              clear H
              go_wp2_with (first | (go_at_call 97; (with_reducible refine (impl_Network_tables.calls kj18 _ [(⟨a0_0, l0_1, l0_2⟩ : S31)] t260 _ ?side1 A31.out).mono ?_); (case side1 => refine ro_of_blk (T := 31) (cs := #[.int .i8 a0_0, .slice A0_1 l0_1.length c0_1, .slice A0_2 l0_2.length c0_2]) (by (with_reducible repeat (first | refine blk_drewN ?_ _ | refine blk_drew ?_ | refine blk_alloc ?_ _)); exact BK256.out) ?_; exact k31_mk _ (⟨a0_0, l0_1, l0_2⟩ : S31) (by exact HC0_1.out) (by repeat (first | exact (Kd.C_below HR0_1.out HB.out) | (with_reducible refine Kd.C_alloc ?_ _) | (with_reducible refine Kd.C_drewN ?_ _) | (with_reducible refine Kd.C_drew ?_))) (by exact HC0_2.out) (by repeat (first | exact (Kd.C_below HR0_2.out HB.out) | (with_reducible refine Kd.C_alloc ?_ _) | (with_reducible refine Kd.C_drewN ?_ _) | (with_reducible refine Kd.C_drew ?_)))); rintro e w33 ⟨v261, rfl, ho0, hb⟩; have n0_ := Aside0.mk (Kd.R_lower ho0 (below_size (by repeat (first | (with_reducible first | exact HB.out | apply below_alloc | apply pw_below_drewN | apply below_drew1 | refine below_set ?_ GE256.out | refine below_set ?_ GE257.out) | exact HB.out)))); have n1_ := Aside0.mk (blk_below (g := gb256) (o := .cells #[.int .i8 a0_0, .slice A0_1 l0_1.length c0_1, .slice A0_2 l0_2.length c0_2] 31 (0, 0)) (by (with_reducible repeat (first | refine blk_drewN ?_ _ | refine blk_drew ?_ | refine blk_alloc ?_ _)); exact BK256.out) hb); have n2_ := Aside0.mk (blk_below (g := gb257) (o := .cells #[.int .i8 a1_0, .slice A1_1 l1_1.length c1_1, .slice A1_2 l1_2.length c1_2] 31 (0, 0)) (by (with_reducible repeat (first | refine blk_drewN ?_ _ | refine blk_drew ?_ | refine blk_alloc ?_ _)); exact BK257.out) hb); have n3_ := Aside0.mk (below_step (by repeat (first | (with_reducible first | exact HB.out | apply below_alloc | apply pw_below_drewN | apply below_drew1 | refine below_set ?_ GE256.out | refine below_set ?_ GE257.out) | exact HB.out)) hb); clear BK256; clear BK257; clear HB; have HO262 := n0_; have BK256 := n1_; have BK257 := n2_; have HB := n3_; clear n0_ n1_ n2_ n3_; (try clear hb); (try clear hb2); (try clear hk); (try clear hi); (try clear ho0)) | (go_at_call 97; (with_reducible refine (impl_Network_tables.calls kj18 _ [(⟨a1_0, l1_1, l1_2⟩ : S31)] t263 _ ?side1 A32.out).mono ?_); (case side1 => refine ro_of_blk (T := 31) (cs := #[.int .i8 a1_0, .slice A1_1 l1_1.length c1_1, .slice A1_2 l1_2.length c1_2]) (by (with_reducible repeat (first | refine blk_drewN ?_ _ | refine blk_drew ?_ | refine blk_alloc ?_ _)); exact BK257.out) ?_; exact k31_mk _ (⟨a1_0, l1_1, l1_2⟩ : S31) (by exact HC1_1.out) (by repeat (first | exact (Kd.C_below HR1_1.out HB.out) | (with_reducible refine Kd.C_alloc ?_ _) | (with_reducible refine Kd.C_drewN ?_ _) | (with_reducible refine Kd.C_drew ?_))) (by exact HC1_2.out) (by repeat (first | exact (Kd.C_below HR1_2.out HB.out) | (with_reducible refine Kd.C_alloc ?_ _) | (with_reducible refine Kd.C_drewN ?_ _) | (with_reducible refine Kd.C_drew ?_)))); rintro e w34 ⟨v264, rfl, ho0, hb⟩; have n0_ := Aside0.mk (Kd.R_elder' (by (with_reducible repeat (first | apply Kd.R_alloc | apply Kd.R_drewN | apply Kd.R_drew)); exact HO262.out) (Kd.R_base ho0) hb); have n1_ := Aside0.mk (Kd.R_lower (Kd.R_new' ho0 (Kd.R_lt (by (with_reducible repeat (first | apply Kd.R_alloc | apply Kd.R_drewN | apply Kd.R_drew)); exact HO262.out))) (below_size (by repeat (first | (with_reducible first | exact HB.out | apply below_alloc | apply pw_below_drewN | apply below_drew1 | refine below_set ?_ GE256.out | refine below_set ?_ GE257.out) | exact HB.out)))); have n2_ := Aside0.mk (blk_below (g := gb256) (o := .cells #[.int .i8 a0_0, .slice A0_1 l0_1.length c0_1, .slice A0_2 l0_2.length c0_2] 31 (0, 0)) (by (with_reducible repeat (first | refine blk_drewN ?_ _ | refine blk_drew ?_ | refine blk_alloc ?_ _)); exact BK256.out) hb); have n3_ := Aside0.mk (blk_below (g := gb257) (o := .cells #[.int .i8 a1_0, .slice A1_1 l1_1.length c1_1, .slice A1_2 l1_2.length c1_2] 31 (0, 0)) (by (with_reducible repeat (first | refine blk_drewN ?_ _ | refine blk_drew ?_ | refine blk_alloc ?_ _)); exact BK257.out) hb); have n4_ := Aside0.mk (below_step (by repeat (first | (with_reducible first | exact HB.out | apply below_alloc | apply pw_below_drewN | apply below_drew1 | refine below_set ?_ GE256.out | refine below_set ?_ GE257.out) | exact HB.out)) hb); clear HO262; clear BK256; clear BK257; clear HB; have HO262 := n0_; have HO265 := n1_; have BK256 := n2_; have BK257 := n3_; have HB := n4_; clear n0_ n1_ n2_ n3_ n4_; (try clear hb); (try clear hb2); (try clear hk); (try clear hi); (try clear ho0)))
              repeat (go_quiet (first | (go_at_call 97; (with_reducible refine (impl_Network_tables.calls kj18 _ [(⟨a0_0, l0_1, l0_2⟩ : S31)] t260 _ ?side1 A31.out).mono ?_); (case side1 => refine ro_of_blk (T := 31) (cs := #[.int .i8 a0_0, .slice A0_1 l0_1.length c0_1, .slice A0_2 l0_2.length c0_2]) (by (with_reducible repeat (first | refine blk_drewN ?_ _ | refine blk_drew ?_ | refine blk_alloc ?_ _)); exact BK256.out) ?_; exact k31_mk _ (⟨a0_0, l0_1, l0_2⟩ : S31) (by exact HC0_1.out) (by repeat (first | exact (Kd.C_below HR0_1.out HB.out) | (with_reducible refine Kd.C_alloc ?_ _) | (with_reducible refine Kd.C_drewN ?_ _) | (with_reducible refine Kd.C_drew ?_))) (by exact HC0_2.out) (by repeat (first | exact (Kd.C_below HR0_2.out HB.out) | (with_reducible refine Kd.C_alloc ?_ _) | (with_reducible refine Kd.C_drewN ?_ _) | (with_reducible refine Kd.C_drew ?_)))); rintro e w33 ⟨v261, rfl, ho0, hb⟩; have n0_ := Aside0.mk (Kd.R_lower ho0 (below_size (by repeat (first | (with_reducible first | exact HB.out | apply below_alloc | apply pw_below_drewN | apply below_drew1 | refine below_set ?_ GE256.out | refine below_set ?_ GE257.out) | exact HB.out)))); have n1_ := Aside0.mk (blk_below (g := gb256) (o := .cells #[.int .i8 a0_0, .slice A0_1 l0_1.length c0_1, .slice A0_2 l0_2.length c0_2] 31 (0, 0)) (by (with_reducible repeat (first | refine blk_drewN ?_ _ | refine blk_drew ?_ | refine blk_alloc ?_ _)); exact BK256.out) hb); have n2_ := Aside0.mk (blk_below (g := gb257) (o := .cells #[.int .i8 a1_0, .slice A1_1 l1_1.length c1_1, .slice A1_2 l1_2.length c1_2] 31 (0, 0)) (by (with_reducible repeat (first | refine blk_drewN ?_ _ | refine blk_drew ?_ | refine blk_alloc ?_ _)); exact BK257.out) hb); have n3_ := Aside0.mk (below_step (by repeat (first | (with_reducible first | exact HB.out | apply below_alloc | apply pw_below_drewN | apply below_drew1 | refine below_set ?_ GE256.out | refine below_set ?_ GE257.out) | exact HB.out)) hb); clear BK256; clear BK257; clear HB; have HO262 := n0_; have BK256 := n1_; have BK257 := n2_; have HB := n3_; clear n0_ n1_ n2_ n3_; (try clear hb); (try clear hb2); (try clear hk); (try clear hi); (try clear ho0)) | (go_at_call 97; (with_reducible refine (impl_Network_tables.calls kj18 _ [(⟨a1_0, l1_1, l1_2⟩ : S31)] t263 _ ?side1 A32.out).mono ?_); (case side1 => refine ro_of_blk (T := 31) (cs := #[.int .i8 a1_0, .slice A1_1 l1_1.length c1_1, .slice A1_2 l1_2.length c1_2]) (by (with_reducible repeat (first | refine blk_drewN ?_ _ | refine blk_drew ?_ | refine blk_alloc ?_ _)); exact BK257.out) ?_; exact k31_mk _ (⟨a1_0, l1_1, l1_2⟩ : S31) (by exact HC1_1.out) (by repeat (first | exact (Kd.C_below HR1_1.out HB.out) | (with_reducible refine Kd.C_alloc ?_ _) | (with_reducible refine Kd.C_drewN ?_ _) | (with_reducible refine Kd.C_drew ?_))) (by exact HC1_2.out) (by repeat (first | exact (Kd.C_below HR1_2.out HB.out) | (with_reducible refine Kd.C_alloc ?_ _) | (with_reducible refine Kd.C_drewN ?_ _) | (with_reducible refine Kd.C_drew ?_)))); rintro e w34 ⟨v264, rfl, ho0, hb⟩; have n0_ := Aside0.mk (Kd.R_elder' (by (with_reducible repeat (first | apply Kd.R_alloc | apply Kd.R_drewN | apply Kd.R_drew)); exact HO262.out) (Kd.R_base ho0) hb); have n1_ := Aside0.mk (Kd.R_lower (Kd.R_new' ho0 (Kd.R_lt (by (with_reducible repeat (first | apply Kd.R_alloc | apply Kd.R_drewN | apply Kd.R_drew)); exact HO262.out))) (below_size (by repeat (first | (with_reducible first | exact HB.out | apply below_alloc | apply pw_below_drewN | apply below_drew1 | refine below_set ?_ GE256.out | refine below_set ?_ GE257.out) | exact HB.out)))); have n2_ := Aside0.mk (blk_below (g := gb256) (o := .cells #[.int .i8 a0_0, .slice A0_1 l0_1.length c0_1, .slice A0_2 l0_2.length c0_2] 31 (0, 0)) (by (with_reducible repeat (first | refine blk_drewN ?_ _ | refine blk_drew ?_ | refine blk_alloc ?_ _)); exact BK256.out) hb); have n3_ := Aside0.mk (blk_below (g := gb257) (o := .cells #[.int .i8 a1_0, .slice A1_1 l1_1.length c1_1, .slice A1_2 l1_2.length c1_2] 31 (0, 0)) (by (with_reducible repeat (first | refine blk_drewN ?_ _ | refine blk_drew ?_ | refine blk_alloc ?_ _)); exact BK257.out) hb); have n4_ := Aside0.mk (below_step (by repeat (first | (with_reducible first | exact HB.out | apply below_alloc | apply pw_below_drewN | apply below_drew1 | refine below_set ?_ GE256.out | refine below_set ?_ GE257.out) | exact HB.out)) hb); clear HO262; clear BK256; clear BK257; clear HB; have HO262 := n0_; have HO265 := n1_; have BK256 := n2_; have BK257 := n3_; have HB := n4_; clear n0_ n1_ n2_ n3_ n4_; (try clear hb); (try clear hb2); (try clear hk); (try clear hi); (try clear ho0))); try go_wp2_with (first | (go_at_call 97; (with_reducible refine (impl_Network_tables.calls kj18 _ [(⟨a0_0, l0_1, l0_2⟩ : S31)] t260 _ ?side1 A31.out).mono ?_); (case side1 => refine ro_of_blk (T := 31) (cs := #[.int .i8 a0_0, .slice A0_1 l0_1.length c0_1, .slice A0_2 l0_2.length c0_2]) (by (with_reducible repeat (first | refine blk_drewN ?_ _ | refine blk_drew ?_ | refine blk_alloc ?_ _)); exact BK256.out) ?_; exact k31_mk _ (⟨a0_0, l0_1, l0_2⟩ : S31) (by exact HC0_1.out) (by repeat (first | exact (Kd.C_below HR0_1.out HB.out) | (with_reducible refine Kd.C_alloc ?_ _) | (with_reducible refine Kd.C_drewN ?_ _) | (with_reducible refine Kd.C_drew ?_))) (by exact HC0_2.out) (by repeat (first | exact (Kd.C_below HR0_2.out HB.out) | (with_reducible refine Kd.C_alloc ?_ _) | (with_reducible refine Kd.C_drewN ?_ _) | (with_reducible refine Kd.C_drew ?_)))); rintro e w33 ⟨v261, rfl, ho0, hb⟩; have n0_ := Aside0.mk (Kd.R_lower ho0 (below_size (by repeat (first | (with_reducible first | exact HB.out | apply below_alloc | apply pw_below_drewN | apply below_drew1 | refine below_set ?_ GE256.out | refine below_set ?_ GE257.out) | exact HB.out)))); have n1_ := Aside0.mk (blk_below (g := gb256) (o := .cells #[.int .i8 a0_0, .slice A0_1 l0_1.length c0_1, .slice A0_2 l0_2.length c0_2] 31 (0, 0)) (by (with_reducible repeat (first | refine blk_drewN ?_ _ | refine blk_drew ?_ | refine blk_alloc ?_ _)); exact BK256.out) hb); have n2_ := Aside0.mk (blk_below (g := gb257) (o := .cells #[.int .i8 a1_0, .slice A1_1 l1_1.length c1_1, .slice A1_2 l1_2.length c1_2] 31 (0, 0)) (by (with_reducible repeat (first | refine blk_drewN ?_ _ | refine blk_drew ?_ | refine blk_alloc ?_ _)); exact BK257.out) hb); have n3_ := Aside0.mk (below_step (by repeat (first | (with_reducible first | exact HB.out | apply below_alloc | apply pw_below_drewN | apply below_drew1 | refine below_set ?_ GE256.out | refine below_set ?_ GE257.out) | exact HB.out)) hb); clear BK256; clear BK257; clear HB; have HO262 := n0_; have BK256 := n1_; have BK257 := n2_; have HB := n3_; clear n0_ n1_ n2_ n3_; (try clear hb); (try clear hb2); (try clear hk); (try clear hi); (try clear ho0)) | (go_at_call 97; (with_reducible refine (impl_Network_tables.calls kj18 _ [(⟨a1_0, l1_1, l1_2⟩ : S31)] t263 _ ?side1 A32.out).mono ?_); (case side1 => refine ro_of_blk (T := 31) (cs := #[.int .i8 a1_0, .slice A1_1 l1_1.length c1_1, .slice A1_2 l1_2.length c1_2]) (by (with_reducible repeat (first | refine blk_drewN ?_ _ | refine blk_drew ?_ | refine blk_alloc ?_ _)); exact BK257.out) ?_; exact k31_mk _ (⟨a1_0, l1_1, l1_2⟩ : S31) (by exact HC1_1.out) (by repeat (first | exact (Kd.C_below HR1_1.out HB.out) | (with_reducible refine Kd.C_alloc ?_ _) | (with_reducible refine Kd.C_drewN ?_ _) | (with_reducible refine Kd.C_drew ?_))) (by exact HC1_2.out) (by repeat (first | exact (Kd.C_below HR1_2.out HB.out) | (with_reducible refine Kd.C_alloc ?_ _) | (with_reducible refine Kd.C_drewN ?_ _) | (with_reducible refine Kd.C_drew ?_)))); rintro e w34 ⟨v264, rfl, ho0, hb⟩; have n0_ := Aside0.mk (Kd.R_elder' (by (with_reducible repeat (first | apply Kd.R_alloc | apply Kd.R_drewN | apply Kd.R_drew)); exact HO262.out) (Kd.R_base ho0) hb); have n1_ := Aside0.mk (Kd.R_lower (Kd.R_new' ho0 (Kd.R_lt (by (with_reducible repeat (first | apply Kd.R_alloc | apply Kd.R_drewN | apply Kd.R_drew)); exact HO262.out))) (below_size (by repeat (first | (with_reducible first | exact HB.out | apply below_alloc | apply pw_below_drewN | apply below_drew1 | refine below_set ?_ GE256.out | refine below_set ?_ GE257.out) | exact HB.out)))); have n2_ := Aside0.mk (blk_below (g := gb256) (o := .cells #[.int .i8 a0_0, .slice A0_1 l0_1.length c0_1, .slice A0_2 l0_2.length c0_2] 31 (0, 0)) (by (with_reducible repeat (first | refine blk_drewN ?_ _ | refine blk_drew ?_ | refine blk_alloc ?_ _)); exact BK256.out) hb); have n3_ := Aside0.mk (blk_below (g := gb257) (o := .cells #[.int .i8 a1_0, .slice A1_1 l1_1.length c1_1, .slice A1_2 l1_2.length c1_2] 31 (0, 0)) (by (with_reducible repeat (first | refine blk_drewN ?_ _ | refine blk_drew ?_ | refine blk_alloc ?_ _)); exact BK257.out) hb); have n4_ := Aside0.mk (below_step (by repeat (first | (with_reducible first | exact HB.out | apply below_alloc | apply pw_below_drewN | apply below_drew1 | refine below_set ?_ GE256.out | refine below_set ?_ GE257.out) | exact HB.out)) hb); clear HO262; clear BK256; clear BK257; clear HB; have HO262 := n0_; have HO265 := n1_; have BK256 := n2_; have BK257 := n3_; have HB := n4_; clear n0_ n1_ n2_ n3_ n4_; (try clear hb); (try clear hb2); (try clear hk); (try clear hi); (try clear ho0))))
              go_loopg [48] kj18 (fun kq v48 w' => ∃ (x48_3 : Int), v48 = .int .i64 x48_3 ∧ Aside0 (impl_CheckMerge.l0 kq l2 t260 t263 l2 (l2.length : Int) x48_3 a0_0 l0_1 l0_2 a1_0 l1_1 l1_2 = some (r1, r2)) ∧ Aside0 (kq ≤ kj18) ∧ Aside0 (Kd.R (Kd.int .u64) 98 w' w.heap.size (fun k_ => some k_ ≠ (v264 : Value).ownBlock) v261 t260) ∧ Aside0 (Kd.R (Kd.int .u64) 98 w' w.heap.size (fun k_ => some k_ ≠ (v261 : Value).ownBlock) v264 t263) ∧ Aside0 (w'.heap[gb256]? = some (.cells #[.int .i8 a0_0, (.slice A0_1 l0_1.length c0_1), (.slice A0_2 l0_2.length c0_2)] 31 (0, 0))) ∧ Aside0 (w'.heap[gb257]? = some (.cells #[.int .i8 a1_0, (.slice A1_1 l1_1.length c1_1), (.slice A1_2 l1_2.length c1_2)] 31 (0, 0))) ∧ Aside0 (Below w.heap.size w w'))
              case atStart => exact ⟨(0), (by first | rfl | (simp; done) | (simp [*]; done) | (exact congrArg (Value.int .i64) (wrap_eq (by omega)))), H', ⟨Nat.le_refl _⟩, ⟨by (with_reducible repeat (first | apply Kd.R_alloc | apply Kd.R_drewN | apply Kd.R_drew)); exact Kd.R_mono HO262.out (fun _ hk => hk.2)⟩, ⟨by (with_reducible repeat (first | apply Kd.R_alloc | apply Kd.R_drewN | apply Kd.R_drew)); exact Kd.R_mono HO265.out (fun _ hk => hk.2)⟩, ⟨by (with_reducible repeat (first | refine blk_drewN ?_ _ | refine blk_drew ?_ | refine blk_alloc ?_ _)); exact BK256.out⟩, ⟨by (with_reducible repeat (first | refine blk_drewN ?_ _ | refine blk_drew ?_ | refine blk_alloc ?_ _)); exact BK257.out⟩, ⟨by repeat (first | (with_reducible first | exact HB.out | apply below_alloc | apply pw_below_drewN | apply below_drew1 | refine below_set ?_ GE256.out | refine below_set ?_ GE257.out) | exact HB.out)⟩⟩
              case round =>
                clear H'
                try clear c1
                try clear c2
                try clear p2
                try clear c3
                try clear c4
                try clear c8
                try clear c10
                try clear c15
                try clear c18
                try clear c20
                try clear c20b0
                try clear c20b1
                try clear c20b2
                try clear c21
                try clear c21b0
                try clear c21b1
                try clear c22
                try clear c25
                try clear c28
                try clear c30
                try clear hcz11_0
                try clear hcz11_1
                try clear hcz11_2
                try clear hcz13_0
                try clear hcz13_1
                try clear hcz13_2
                try clear hcz16_0
                try clear hcz16_1
                try clear hcz16_2
                try clear hcz23_0
                try clear hcz23_1
                try clear hcz23_2
                try clear hcz24_0
                try clear hcz24_1
                try clear hcz24_2
                try clear hcz26_0
                try clear hcz26_1
                try clear hcz26_2
                try clear hcz27_0
                try clear hcz27_1
                try clear hcz27_2
                try clear hcz29_0
                try clear hcz29_1
                try clear hcz29_2
                try clear hfz11_0
                try clear hfz11_1
                try clear hfz11_2
                try clear hfz13_0
                try clear hfz13_1
                try clear hfz13_2
                try clear hfz16_0
                try clear hfz16_1
                try clear hfz16_2
                try clear hfz23_0
                try clear hfz23_1
                try clear hfz23_2
                try clear hfz24_0
                try clear hfz24_1
                try clear hfz24_2
                try clear hfz26_0
                try clear hfz26_1
                try clear hfz26_2
                try clear hfz27_0
                try clear hfz27_1
                try clear hfz27_2
                try clear hfz29_0
                try clear hfz29_1
                try clear hfz29_2
                try clear p2
                obtain ⟨x48_3, rfl, HA, HK3, HO_8, HO_9, BK256, BK257, HB⟩ := hrel
                cases gk with
                | zero => exact absurd HA.out (by simp [impl_CheckMerge.l0])
                | succ k3 =>
                  have H := HA.out
                  clear HA
                  simp only [impl_CheckMerge.l0] at H
                  by_cases c35 : x48_3 < (l2.length : Int)
                  · rw [if_pos c35] at H
                    have c35b0 : decide (x48_3 < (l2.length : Int)) = true := decide_eq_true c35
                    clear c35
                    by_cases c36 : 0 ≤ x48_3
                    · rw [if_pos c36] at H
                      have c36b0 : decide (0 ≤ x48_3) = true := decide_eq_true c36
                      clear c36
                      by_cases c37 : x48_3 < (l2.length : Int)
                      · rw [if_pos c37] at H
                        have c37b0 : decide (x48_3 < (l2.length : Int)) = true := decide_eq_true c37
                        clear c37
                        replace H := Option.bind_eq_some_iff.mp H
                        obtain ⟨t267, A380, H⟩ := H
                        replace H : (if t267 = true then (if x48_3 < (t260.length : Int) then (if 0 ≤ (rd l2 x48_3) then (if (rd l2 x48_3) < (t263.length : Int) then (if (rd t260 x48_3) = (rd t263 (rd l2 x48_3)) then (impl_CheckMerge.l0 k3 l2 t260 t263 l2 (l2.length : Int) (wrap64 (x48_3 + 1)) a0_0 l0_1 l0_2 a1_0 l1_1 l1_2) else (some (false, 0))) else (none)) else (none)) else (none)) else (some (false, 0))) = some (r1, r2) := H
                        have A38 := Aside0.mk A380
                        clear A380
                        by_cases c39 : t267 = true
                        · subst c39
                          have H1 : (if x48_3 < (t260.length : Int) then (if 0 ≤ (rd l2 x48_3) then (if (rd l2 x48_3) < (t263.length : Int) then (if (rd t260 x48_3) = (rd t263 (rd l2 x48_3)) then (impl_CheckMerge.l0 k3 l2 t260 t263 l2 (l2.length : Int) (wrap64 (x48_3 + 1)) a0_0 l0_1 l0_2 a1_0 l1_1 l1_2) else (some (false, 0))) else (none)) else (none)) else (none)) = some (r1, r2) := by rw [if_pos rfl] at H; exact H
                          clear H
                          have H := H1
                          clear H1
                          by_cases c40 : x48_3 < (t260.length : Int)
                          · rw [if_pos c40] at H
                            have c40b0 : decide (x48_3 < (t260.length : Int)) = true := decide_eq_true c40
                            clear c40
                            by_cases c41 : 0 ≤ (rd l2 x48_3)
                            · rw [if_pos c41] at H
                              have c41b0 : decide (0 ≤ (rd l2 x48_3)) = true := decide_eq_true c41
                              clear c41
                              by_cases c42 : (rd l2 x48_3) < (t263.length : Int)
                              · rw [if_pos c42] at H
                                have c42b0 : decide ((rd l2 x48_3) < (t263.length : Int)) = true := decide_eq_true c42
                                clear c42
                                by_cases c43 : (rd t260 x48_3) = (rd t263 (rd l2 x48_3))
                                · rw [if_pos c43] at H
                                  have c43b0 : ((rd t260 x48_3) == (rd t263 (rd l2 x48_3))) = true := beq_iff_eq.mpr c43
                                  have c43b1 : ((rd t260 x48_3) != (rd t263 (rd l2 x48_3))) = false := bne_eq_false_iff_eq.mpr c43
                                  clear c43
                                  have H' := Aside0.mk H
                                  clear H
                                  have p266 : 0 ≤ (x48_3 : Int) := of_decide_eq_true (by first | (with_reducible assumption) | assumption)
                                  have q266 : x48_3 < (l2.length : Int) := of_decide_eq_true (by first | (with_reducible assumption) | assumption)
                                  obtain ⟨ad266, e266, hx266_0⟩ := Kd.at_int HR2.out x48_3 p266 q266
                                  cases e266
                                  replace hx266_0 := (HB.out.cell (World.block_lt_of_cell? w _ hx266_0)).trans hx266_0
                                  replace p266 := eq_true p266
                                  replace q266 := eq_true q266
                                  obtain ⟨Ao44, co44, eo44⟩ := Kd.R_slice HO_9.out
                                  subst eo44
                                  obtain ⟨Ao45, co45, eo45⟩ := Kd.R_slice HO_8.out
                                  subst eo45
                                  have p268 : 0 ≤ (x48_3 : Int) := of_decide_eq_true (by first | (with_reducible assumption) | assumption)
                                  have q268 : x48_3 < (t260.length : Int) := of_decide_eq_true (by first | (with_reducible assumption) | assumption)
                                  obtain ⟨ad268, e268, hx268_0⟩ := Kd.at_int (Kd.R_reads' HO_8.out).2.2 x48_3 p268 q268
                                  cases e268
                                  replace p268 := eq_true p268
                                  replace q268 := eq_true q268
                                  have p269 : 0 ≤ ((rd l2 x48_3) : Int) := of_decide_eq_true (by first | (with_reducible assumption) | assumption)
                                  have q269 : (rd l2 x48_3) < (t263.length : Int) := of_decide_eq_true (by first | (with_reducible assumption) | assumption)
                                  obtain ⟨ad269, e269, hx269_0⟩ := Kd.at_int (Kd.R_reads' HO_9.out).2.2 (rd l2 x48_3) p269 q269
                                  cases e269
                                  replace p269 := eq_true p269
                                  replace q269 := eq_true q269
                                  go_wp2_with (first | (go_at_call 82; (with_reducible refine (impl_in.calls (rd l2 x48_3) 0 (wrap64 ((t263.length : Int) - 1)) true _ A38.out).mono ?_); rintro e w' ⟨rfl, ⟨nd, rfl⟩⟩; (try first | exact ⟨rfl, _, World.drewN_drewN _ _ _⟩ | exact ⟨rfl, _, Eq.trans (World.drewN_drewN _ _ _) (congrArg (World.drewN _) (Nat.add_assoc _ _ _))⟩)))
                                  repeat (go_quiet (first | (go_at_call 82; (with_reducible refine (impl_in.calls (rd l2 x48_3) 0 (wrap64 ((t263.length : Int) - 1)) true _ A38.out).mono ?_); rintro e w' ⟨rfl, ⟨nd, rfl⟩⟩; (try first | exact ⟨rfl, _, World.drewN_drewN _ _ _⟩ | exact ⟨rfl, _, Eq.trans (World.drewN_drewN _ _ _) (congrArg (World.drewN _) (Nat.add_assoc _ _ _))⟩))); try go_wp2_with (first | (go_at_call 82; (with_reducible refine (impl_in.calls (rd l2 x48_3) 0 (wrap64 ((t263.length : Int) - 1)) true _ A38.out).mono ?_); rintro e w' ⟨rfl, ⟨nd, rfl⟩⟩; (try first | exact ⟨rfl, _, World.drewN_drewN _ _ _⟩ | exact ⟨rfl, _, Eq.trans (World.drewN_drewN _ _ _) (congrArg (World.drewN _) (Nat.add_assoc _ _ _))⟩))))
                                  go_roundg k3
                                  case measure => have := HJ3.out; have := HJ18.out; have := HK3.out; omega
                                  case rel => exact ⟨(wrap64 (x48_3 + 1)), (by first | rfl | (simp; done) | (simp [*]; done) | (exact congrArg (Value.int .i64) (wrap_eq (by omega)))), H', ⟨by have := HJ3.out; have := HJ18.out; have := HK3.out; omega⟩, ⟨by (with_reducible repeat (first | apply Kd.R_alloc | apply Kd.R_drewN | apply Kd.R_drew)); exact HO_8.out⟩, ⟨by (with_reducible repeat (first | apply Kd.R_alloc | apply Kd.R_drewN | apply Kd.R_drew)); exact HO_9.out⟩, ⟨by (with_reducible repeat (first | refine blk_drewN ?_ _ | refine blk_drew ?_ | refine blk_alloc ?_ _)); exact BK256.out⟩, ⟨by (with_reducible repeat (first | refine blk_drewN ?_ _ | refine blk_drew ?_ | refine blk_alloc ?_ _)); exact BK257.out⟩, ⟨by repeat (first | (with_reducible first | exact HB.out | apply below_alloc | apply pw_below_drewN | apply below_drew1 | refine below_set ?_ GE256.out | refine below_set ?_ GE257.out) | exact HB.out)⟩⟩
                                · rw [if_neg c43] at H
                                  have c43b0 : ((rd t260 x48_3) == (rd t263 (rd l2 x48_3))) = false := beq_eq_false_iff_ne.mpr c43
                                  have c43b1 : ((rd t260 x48_3) != (rd t263 (rd l2 x48_3))) = true := bne_iff_ne.mpr c43
                                  simp only [Option.some.injEq, Prod.mk.injEq] at H
                                  obtain ⟨rfl, rfl⟩ := H
                                  have p266 : 0 ≤ (x48_3 : Int) := of_decide_eq_true (by first | (with_reducible assumption) | assumption)
                                  have q266 : x48_3 < (l2.length : Int) := of_decide_eq_true (by first | (with_reducible assumption) | assumption)
                                  obtain ⟨ad266, e266, hx266_0⟩ := Kd.at_int HR2.out x48_3 p266 q266
                                  cases e266
                                  replace hx266_0 := (HB.out.cell (World.block_lt_of_cell? w _ hx266_0)).trans hx266_0
                                  replace p266 := eq_true p266
                                  replace q266 := eq_true q266
                                  obtain ⟨Ao46, co46, eo46⟩ := Kd.R_slice HO_9.out
                                  subst eo46
                                  obtain ⟨Ao47, co47, eo47⟩ := Kd.R_slice HO_8.out
                                  subst eo47
                                  have p268 : 0 ≤ (x48_3 : Int) := of_decide_eq_true (by first | (with_reducible assumption) | assumption)
                                  have q268 : x48_3 < (t260.length : Int) := of_decide_eq_true (by first | (with_reducible assumption) | assumption)
                                  obtain ⟨ad268, e268, hx268_0⟩ := Kd.at_int (Kd.R_reads' HO_8.out).2.2 x48_3 p268 q268
                                  cases e268
                                  replace p268 := eq_true p268
                                  replace q268 := eq_true q268
                                  have p269 : 0 ≤ ((rd l2 x48_3) : Int) := of_decide_eq_true (by first | (with_reducible assumption) | assumption)
                                  have q269 : (rd l2 x48_3) < (t263.length : Int) := of_decide_eq_true (by first | (with_reducible assumption) | assumption)
                                  obtain ⟨ad269, e269, hx269_0⟩ := Kd.at_int (Kd.R_reads' HO_9.out).2.2 (rd l2 x48_3) p269 q269
                                  cases e269
                                  replace p269 := eq_true p269
                                  replace q269 := eq_true q269
                                  go_wp2_with (first | (go_at_call 82; (with_reducible refine (impl_in.calls (rd l2 x48_3) 0 (wrap64 ((t263.length : Int) - 1)) true _ A38.out).mono ?_); rintro e w' ⟨rfl, ⟨nd, rfl⟩⟩; (try first | exact ⟨rfl, _, World.drewN_drewN _ _ _⟩ | exact ⟨rfl, _, Eq.trans (World.drewN_drewN _ _ _) (congrArg (World.drewN _) (Nat.add_assoc _ _ _))⟩)))
                                  repeat (go_quiet (first | (go_at_call 82; (with_reducible refine (impl_in.calls (rd l2 x48_3) 0 (wrap64 ((t263.length : Int) - 1)) true _ A38.out).mono ?_); rintro e w' ⟨rfl, ⟨nd, rfl⟩⟩; (try first | exact ⟨rfl, _, World.drewN_drewN _ _ _⟩ | exact ⟨rfl, _, Eq.trans (World.drewN_drewN _ _ _) (congrArg (World.drewN _) (Nat.add_assoc _ _ _))⟩))); try go_wp2_with (first | (go_at_call 82; (with_reducible refine (impl_in.calls (rd l2 x48_3) 0 (wrap64 ((t263.length : Int) - 1)) true _ A38.out).mono ?_); rintro e w' ⟨rfl, ⟨nd, rfl⟩⟩; (try first | exact ⟨rfl, _, World.drewN_drewN _ _ _⟩ | exact ⟨rfl, _, Eq.trans (World.drewN_drewN _ _ _) (congrArg (World.drewN _) (Nat.add_assoc _ _ _))⟩))))
                                  go_ret2
                                  exact ⟨by first | rfl | (simp [errW_none, errW_some] <;> rfl) | (simp [*, errW_none, errW_some] <;> rfl), by repeat (first | (with_reducible first | exact HB.out | apply below_alloc | apply pw_below_drewN | apply below_drew1 | refine below_set ?_ GE256.out | refine below_set ?_ GE257.out) | exact HB.out)⟩
                              · rw [if_neg c42] at H
                                exact absurd H (by simp)
                            · rw [if_neg c41] at H
                              exact absurd H (by simp)
                          · rw [if_neg c40] at H
                            exact absurd H (by simp)
                        · replace c39 := Bool.eq_false_iff.mpr c39
                          subst c39
                          have H1 : (some (false, 0)) = some (r1, r2) := by rw [if_neg (show ¬ (false = true) by decide)] at H; exact H
                          clear H
                          have H := H1
                          clear H1
                          simp only [Option.some.injEq, Prod.mk.injEq] at H
                          obtain ⟨rfl, rfl⟩ := H
                          have p266 : 0 ≤ (x48_3 : Int) := of_decide_eq_true (by first | (with_reducible assumption) | assumption)
                          have q266 : x48_3 < (l2.length : Int) := of_decide_eq_true (by first | (with_reducible assumption) | assumption)
                          obtain ⟨ad266, e266, hx266_0⟩ := Kd.at_int HR2.out x48_3 p266 q266
                          cases e266
                          replace hx266_0 := (HB.out.cell (World.block_lt_of_cell? w _ hx266_0)).trans hx266_0
                          replace p266 := eq_true p266
                          replace q266 := eq_true q266
                          obtain ⟨Ao48, co48, eo48⟩ := Kd.R_slice HO_9.out
                          subst eo48
                          go_wp2_with (first | (go_at_call 82; (with_reducible refine (impl_in.calls (rd l2 x48_3) 0 (wrap64 ((t263.length : Int) - 1)) false _ A38.out).mono ?_); rintro e w' ⟨rfl, ⟨nd, rfl⟩⟩; (try first | exact ⟨rfl, _, World.drewN_drewN _ _ _⟩ | exact ⟨rfl, _, Eq.trans (World.drewN_drewN _ _ _) (congrArg (World.drewN _) (Nat.add_assoc _ _ _))⟩)))
                          repeat (go_quiet (first | (go_at_call 82; (with_reducible refine (impl_in.calls (rd l2 x48_3) 0 (wrap64 ((t263.length : Int) - 1)) false _ A38.out).mono ?_); rintro e w' ⟨rfl, ⟨nd, rfl⟩⟩; (try first | exact ⟨rfl, _, World.drewN_drewN _ _ _⟩ | exact ⟨rfl, _, Eq.trans (World.drewN_drewN _ _ _) (congrArg (World.drewN _) (Nat.add_assoc _ _ _))⟩))); try go_wp2_with (first | (go_at_call 82; (with_reducible refine (impl_in.calls (rd l2 x48_3) 0 (wrap64 ((t263.length : Int) - 1)) false _ A38.out).mono ?_); rintro e w' ⟨rfl, ⟨nd, rfl⟩⟩; (try first | exact ⟨rfl, _, World.drewN_drewN _ _ _⟩ | exact ⟨rfl, _, Eq.trans (World.drewN_drewN _ _ _) (congrArg (World.drewN _) (Nat.add_assoc _ _ _))⟩))))
                          go_ret2
                          exact ⟨by first | rfl | (simp [errW_none, errW_some] <;> rfl) | (simp [*, errW_none, errW_some] <;> rfl), by repeat (first | (with_reducible first | exact HB.out | apply below_alloc | apply pw_below_drewN | apply below_drew1 | refine below_set ?_ GE256.out | refine below_set ?_ GE257.out) | exact HB.out)⟩
                      · rw [if_neg c37] at H
                        exact absurd H (by simp)
                    · rw [if_neg c36] at H
                      exact absurd H (by simp)
                  · rw [if_neg c35] at H
                    have c35b0 : decide (x48_3 < (l2.length : Int)) = false := decide_eq_false c35
                    clear c35
                    have H' := Aside0.mk H
                    clear H
                    have hnb49 := NB256_257.out
                    have hnc49 := NB257_256.out
                    have hcz50_0 : wr.cell? ⟨gb256, 0, none⟩ = some (.int .i8 a0_0) := (blk_cell BK256.out 0).trans rfl
                    have hcz50_1 : wr.cell? ⟨gb256, 1, none⟩ = some (.slice A0_1 l0_1.length c0_1) := (blk_cell BK256.out 1).trans rfl
                    have hcz50_2 : wr.cell? ⟨gb256, 2, none⟩ = some (.slice A0_2 l0_2.length c0_2) := (blk_cell BK256.out 2).trans rfl
                    have hfz50_0 := blk_frozen BK256.out 0
                    have hfz50_1 := blk_frozen BK256.out 1
                    have hfz50_2 := blk_frozen BK256.out 2
                    go_wp2
                    repeat (go_quiet (fail); try go_wp2)
                    go_loopg [74] k3 (fun kq v74 w' => ∃ (x74_4 : Int), v74 = .int .i64 x74_4 ∧ Aside0 (impl_CheckMerge.l1 kq l2 l0_2 (l0_2.length : Int) x74_4 a1_0 l1_1 l1_2 = some (r1, r2)) ∧ Aside0 (kq ≤ k3) ∧ Aside0 (w'.heap[gb256]? = some (.cells #[.int .i8 a0_0, (.slice A0_1 l0_1.length c0_1), (.slice A0_2 l0_2.length c0_2)] 31 (0, 0))) ∧ Aside0 (w'.heap[gb257]? = some (.cells #[.int .i8 a1_0, (.slice A1_1 l1_1.length c1_1), (.slice A1_2 l1_2.length c1_2)] 31 (0, 0))) ∧ Aside0 (Below w.heap.size w w'))
                    case atStart => exact ⟨(0), (by first | rfl | (simp; done) | (simp [*]; done) | (exact congrArg (Value.int .i64) (wrap_eq (by omega)))), H', ⟨Nat.le_refl _⟩, ⟨by (with_reducible repeat (first | refine blk_drewN ?_ _ | refine blk_drew ?_ | refine blk_alloc ?_ _)); exact BK256.out⟩, ⟨by (with_reducible repeat (first | refine blk_drewN ?_ _ | refine blk_drew ?_ | refine blk_alloc ?_ _)); exact BK257.out⟩, ⟨by repeat (first | (with_reducible first | exact HB.out | apply below_alloc | apply pw_below_drewN | apply below_drew1 | refine below_set ?_ GE256.out | refine below_set ?_ GE257.out) | exact HB.out)⟩⟩
                    case round =>
                      clear H'
                      try clear c1
                      try clear c2
                      try clear p2
                      try clear q2
                      try clear hx2
                      try clear c3
                      try clear c4
                      try clear p6
                      try clear c8
                      try clear c10
                      try clear c15
                      try clear c18
                      try clear c20
                      try clear c20b0
                      try clear c20b1
                      try clear c20b2
                      try clear c21
                      try clear c21b0
                      try clear c21b1
                      try clear c22
                      try clear c25
                      try clear p26
                      try clear q26
                      try clear hx26
                      try clear c28
                      try clear c30
                      try clear c35
                      try clear c35b0
                      try clear c36
                      try clear c36b0
                      try clear c37
                      try clear c37b0
                      try clear c39
                      try clear c40
                      try clear c40b0
                      try clear c41
                      try clear c41b0
                      try clear c42
                      try clear c42b0
                      try clear c43
                      try clear c43b0
                      try clear c43b1
                      try clear c49
                      try clear hcz11_0
                      try clear hcz11_1
                      try clear hcz11_2
                      try clear hcz13_0
                      try clear hcz13_1
                      try clear hcz13_2
                      try clear hcz16_0
                      try clear hcz16_1
                      try clear hcz16_2
                      try clear hcz23_0
                      try clear hcz23_1
                      try clear hcz23_2
                      try clear hcz24_0
                      try clear hcz24_1
                      try clear hcz24_2
                      try clear hcz26_0
                      try clear hcz26_1
                      try clear hcz26_2
                      try clear hcz27_0
                      try clear hcz27_1
                      try clear hcz27_2
                      try clear hcz29_0
                      try clear hcz29_1
                      try clear hcz29_2
                      try clear hcz50_0
                      try clear hcz50_1
                      try clear hcz50_2
                      try clear hfz11_0
                      try clear hfz11_1
                      try clear hfz11_2
                      try clear hfz13_0
                      try clear hfz13_1
                      try clear hfz13_2
                      try clear hfz16_0
                      try clear hfz16_1
                      try clear hfz16_2
                      try clear hfz23_0
                      try clear hfz23_1
                      try clear hfz23_2
                      try clear hfz24_0
                      try clear hfz24_1
                      try clear hfz24_2
                      try clear hfz26_0
                      try clear hfz26_1
                      try clear hfz26_2
                      try clear hfz27_0
                      try clear hfz27_1
                      try clear hfz27_2
                      try clear hfz29_0
                      try clear hfz29_1
                      try clear hfz29_2
                      try clear hfz50_0
                      try clear hfz50_1
                      try clear hfz50_2
                      try clear hx266_0
                      try clear hx268_0
                      try clear hx269_0
                      try clear p2
                      try clear p266
                      try clear p268
                      try clear p269
                      try clear q266
                      try clear q268
                      try clear q269
                      obtain ⟨x74_4, rfl, HA, HK4, BK256, BK257, HB⟩ := hrel
                      cases gk with
                      | zero => exact absurd HA.out (by simp [impl_CheckMerge.l1])
                      | succ k4 =>
                        have H := HA.out
                        clear HA
                        simp only [impl_CheckMerge.l1] at H
                        by_cases c51 : x74_4 < (l0_2.length : Int)
                        · rw [if_pos c51] at H
                          have c51b0 : decide (x74_4 < (l0_2.length : Int)) = true := decide_eq_true c51
                          clear c51
                          by_cases c52 : 0 ≤ x74_4
                          · rw [if_pos c52] at H
                            have c52b0 : decide (0 ≤ x74_4) = true := decide_eq_true c52
                            clear c52
                            by_cases c53 : x74_4 < (l0_2.length : Int)
                            · rw [if_pos c53] at H
                              have c53b0 : decide (x74_4 < (l0_2.length : Int)) = true := decide_eq_true c53
                              clear c53
                              by_cases c54 : 0 ≤ (rd l0_2 x74_4)
                              · rw [if_pos c54] at H
                                have c54b0 : decide (0 ≤ (rd l0_2 x74_4)) = true := decide_eq_true c54
                                clear c54
                                by_cases c55 : (rd l0_2 x74_4) < (l2.length : Int)
                                · rw [if_pos c55] at H
                                  have c55b0 : decide ((rd l0_2 x74_4) < (l2.length : Int)) = true := decide_eq_true c55
                                  clear c55
                                  by_cases c56 : x74_4 < (l1_2.length : Int)
                                  · rw [if_pos c56] at H
                                    have c56b0 : decide (x74_4 < (l1_2.length : Int)) = true := decide_eq_true c56
                                    clear c56
                                    by_cases c57 : (rd l2 (rd l0_2 x74_4)) = (wrap64 (rd l1_2 x74_4))
                                    · rw [if_pos c57] at H
                                      have c57b0 : ((rd l2 (rd l0_2 x74_4)) == (wrap64 (rd l1_2 x74_4))) = true := beq_iff_eq.mpr c57
                                      have c57b1 : ((rd l2 (rd l0_2 x74_4)) != (wrap64 (rd l1_2 x74_4))) = false := bne_eq_false_iff_eq.mpr c57
                                      clear c57
                                      have H' := Aside0.mk H
                                      clear H
                                      have p270 : 0 ≤ (x74_4 : Int) := of_decide_eq_true (by first | (with_reducible assumption) | assumption)
                                      have q270 : x74_4 < (l0_2.length : Int) := of_decide_eq_true (by first | (with_reducible assumption) | assumption)
                                      obtain ⟨ad270, e270, hx270_0⟩ := Kd.at_int HR0_2.out x74_4 p270 q270
                                      cases e270
                                      replace hx270_0 := (HB.out.cell (World.block_lt_of_cell? w _ hx270_0)).trans hx270_0
                                      replace p270 := eq_true p270
                                      replace q270 := eq_true q270
                                      have p271 : 0 ≤ ((rd l0_2 x74_4) : Int) := of_decide_eq_true (by first | (with_reducible assumption) | assumption)
                                      have q271 : (rd l0_2 x74_4) < (l2.length : Int) := of_decide_eq_true (by first | (with_reducible assumption) | assumption)
                                      obtain ⟨ad271, e271, hx271_0⟩ := Kd.at_int HR2.out (rd l0_2 x74_4) p271 q271
                                      cases e271
                                      replace hx271_0 := (HB.out.cell (World.block_lt_of_cell? w _ hx271_0)).trans hx271_0
                                      replace p271 := eq_true p271
                                      replace q271 := eq_true q271
                                      have hnb58 := NB257_256.out
                                      have hnc58 := NB256_257.out
                                      have hcz59_0 : wr.cell? ⟨gb257, 0, none⟩ = some (.int .i8 a1_0) := (blk_cell BK257.out 0).trans rfl
                                      have hcz59_1 : wr.cell? ⟨gb257, 1, none⟩ = some (.slice A1_1 l1_1.length c1_1) := (blk_cell BK257.out 1).trans rfl
                                      have hcz59_2 : wr.cell? ⟨gb257, 2, none⟩ = some (.slice A1_2 l1_2.length c1_2) := (blk_cell BK257.out 2).trans rfl
                                      have hfz59_0 := blk_frozen BK257.out 0
                                      have hfz59_1 := blk_frozen BK257.out 1
                                      have hfz59_2 := blk_frozen BK257.out 2
                                      have p272 : 0 ≤ (x74_4 : Int) := of_decide_eq_true (by first | (with_reducible assumption) | assumption)
                                      have q272 : x74_4 < (l1_2.length : Int) := of_decide_eq_true (by first | (with_reducible assumption) | assumption)
                                      obtain ⟨ad272, e272, hx272_0⟩ := Kd.at_int HR1_2.out x74_4 p272 q272
                                      cases e272
                                      replace hx272_0 := (HB.out.cell (World.block_lt_of_cell? w _ hx272_0)).trans hx272_0
                                      replace p272 := eq_true p272
                                      replace q272 := eq_true q272
                                      go_wp2
                                      repeat (go_quiet (fail); try go_wp2)
                                      go_roundg k4
                                      case measure => have := HJ3.out; have := HJ18.out; have := HK3.out; have := HK4.out; omega
                                      case rel => exact ⟨(wrap64 (x74_4 + 1)), (by first | rfl | (simp; done) | (simp [*]; done) | (exact congrArg (Value.int .i64) (wrap_eq (by omega)))), H', ⟨by have := HJ3.out; have := HJ18.out; have := HK3.out; have := HK4.out; omega⟩, ⟨by (with_reducible repeat (first | refine blk_drewN ?_ _ | refine blk_drew ?_ | refine blk_alloc ?_ _)); exact BK256.out⟩, ⟨by (with_reducible repeat (first | refine blk_drewN ?_ _ | refine blk_drew ?_ | refine blk_alloc ?_ _)); exact BK257.out⟩, ⟨by repeat (first | (with_reducible first | exact HB.out | apply below_alloc | apply pw_below_drewN | apply below_drew1 | refine below_set ?_ GE256.out | refine below_set ?_ GE257.out) | exact HB.out)⟩⟩
                                    · rw [if_neg c57] at H
                                      have c57b0 : ((rd l2 (rd l0_2 x74_4)) == (wrap64 (rd l1_2 x74_4))) = false := beq_eq_false_iff_ne.mpr c57
                                      have c57b1 : ((rd l2 (rd l0_2 x74_4)) != (wrap64 (rd l1_2 x74_4))) = true := bne_iff_ne.mpr c57
                                      simp only [Option.some.injEq, Prod.mk.injEq] at H
                                      obtain ⟨rfl, rfl⟩ := H
                                      have p270 : 0 ≤ (x74_4 : Int) := of_decide_eq_true (by first | (with_reducible assumption) | assumption)
                                      have q270 : x74_4 < (l0_2.length : Int) := of_decide_eq_true (by first | (with_reducible assumption) | assumption)
                                      obtain ⟨ad270, e270, hx270_0⟩ := Kd.at_int HR0_2.out x74_4 p270 q270
                                      cases e270
                                      replace hx270_0 := (HB.out.cell (World.block_lt_of_cell? w _ hx270_0)).trans hx270_0
                                      replace p270 := eq_true p270
                                      replace q270 := eq_true q270
                                      have p271 : 0 ≤ ((rd l0_2 x74_4) : Int) := of_decide_eq_true (by first | (with_reducible assumption) | assumption)
                                      have q271 : (rd l0_2 x74_4) < (l2.length : Int) := of_decide_eq_true (by first | (with_reducible assumption) | assumption)
                                      obtain ⟨ad271, e271, hx271_0⟩ := Kd.at_int HR2.out (rd l0_2 x74_4) p271 q271
                                      cases e271
                                      replace hx271_0 := (HB.out.cell (World.block_lt_of_cell? w _ hx271_0)).trans hx271_0
                                      replace p271 := eq_true p271
                                      replace q271 := eq_true q271
                                      have hnb60 := NB257_256.out
                                      have hnc60 := NB256_257.out
                                      have hcz61_0 : wr.cell? ⟨gb257, 0, none⟩ = some (.int .i8 a1_0) := (blk_cell BK257.out 0).trans rfl
                                      have hcz61_1 : wr.cell? ⟨gb257, 1, none⟩ = some (.slice A1_1 l1_1.length c1_1) := (blk_cell BK257.out 1).trans rfl
                                      have hcz61_2 : wr.cell? ⟨gb257, 2, none⟩ = some (.slice A1_2 l1_2.length c1_2) := (blk_cell BK257.out 2).trans rfl
                                      have hfz61_0 := blk_frozen BK257.out 0
                                      have hfz61_1 := blk_frozen BK257.out 1
                                      have hfz61_2 := blk_frozen BK257.out 2
                                      have p272 : 0 ≤ (x74_4 : Int) := of_decide_eq_true (by first | (with_reducible assumption) | assumption)
                                      have q272 : x74_4 < (l1_2.length : Int) := of_decide_eq_true (by first | (with_reducible assumption) | assumption)
                                      obtain ⟨ad272, e272, hx272_0⟩ := Kd.at_int HR1_2.out x74_4 p272 q272
                                      cases e272
                                      replace hx272_0 := (HB.out.cell (World.block_lt_of_cell? w _ hx272_0)).trans hx272_0
                                      replace p272 := eq_true p272
                                      replace q272 := eq_true q272
                                      go_wp2
                                      repeat (go_quiet (fail); try go_wp2)
                                      go_ret2
                                      exact ⟨by first | rfl | (simp [errW_none, errW_some] <;> rfl) | (simp [*, errW_none, errW_some] <;> rfl), by repeat (first | (with_reducible first | exact HB.out | apply below_alloc | apply pw_below_drewN | apply below_drew1 | refine below_set ?_ GE256.out | refine below_set ?_ GE257.out) | exact HB.out)⟩
                                  · rw [if_neg c56] at H
                                    exact absurd H (by simp)
                                · rw [if_neg c55] at H
                                  exact absurd H (by simp)
                              · rw [if_neg c54] at H
                                exact absurd H (by simp)
                            · rw [if_neg c53] at H
                              exact absurd H (by simp)
                          · rw [if_neg c52] at H
                            exact absurd H (by simp)
                        · rw [if_neg c51] at H
                          have c51b0 : decide (x74_4 < (l0_2.length : Int)) = false := decide_eq_false c51
                          clear c51
                          simp only [Option.some.injEq, Prod.mk.injEq] at H
                          obtain ⟨rfl, rfl⟩ := H
                          go_wp2
                          repeat (go_quiet (fail); try go_wp2)
                          go_ret2
                          exact ⟨by first | rfl | (simp [errW_none, errW_some] <;> rfl) | (simp [*, errW_none, errW_some] <;> rfl), by repeat (first | (with_reducible first | exact HB.out | apply below_alloc | apply pw_below_drewN | apply below_drew1 | refine below_set ?_ GE256.out | refine below_set ?_ GE257.out) | exact HB.out)⟩

end Go.Proofs.Ytmpmanfoiocfgaa.PFnExactCheckMerge
