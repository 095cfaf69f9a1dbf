-- WRITTEN by xprint.py, a program of this session's. Not trusted: Lean checks it.
import Derived.Test.YtffnfpnajkgnaaaPFnExactNeighboursOfx0
import Derived.Test.YtffnfpnajkgnaaaPFnExactNeighboursOfx7
namespace Go.Proofs.Ytffnfpnajkgnaaa.PFnExactNeighboursOf
open Go.RowKit Go.Proofs.YtffnfpnajkgnaaaW.PrintWords Go.Proofs.YtffnfpnajkgnaaaW.PrintLast Go.Proofs.YtffnfpnajkgnaaaW.PrintMore Go.Proofs.YtffnfpnajkgnaaaX
attribute [local go_sem] max2_int min2_int max_two min_two max_three min_three max_four min_four   -- for this text's walks alone
set_option linter.unusedVariables false
set_option linter.unusedSimpArgs false

/-! ### impl_NeighboursOf: function 56 -/
def impl_NeighboursOf.l0 : Nat → Int → Int → Int → Int → List (S91) → Int → Int → Int → Int → Option (Int × Int × Int × Int × Int)
  | 0, _, _, _, _, _, _, _, _, _ => none
  | k + 1, x1, x19, x205000, x205001, x205002, x209000, x209001, x209002, x209003 => if x19 < 4 then (if 0 ≤ x1 then (if x1 < (x205002.length : Int) then ((impl_Cell_next.f ((rd_T91 x205002 x1).f0.f0) ((rd_T91 x205002 x1).f0.f1) x19).bind fun bt210 => ((impl_Board_at.f k [(⟨x205000, x205001, x205002⟩ : S37)] bt210.1 bt210.2).bind fun t212 => (if x19 = 0 then (impl_NeighboursOf.l0 k x1 (wrap64 (x19 + 1)) x205000 x205001 x205002 t212 x209001 x209002 x209003) else (if x19 = 1 then (impl_NeighboursOf.l0 k x1 (wrap64 (x19 + 1)) x205000 x205001 x205002 x209000 t212 x209002 x209003) else (if x19 = 2 then (impl_NeighboursOf.l0 k x1 (wrap64 (x19 + 1)) x205000 x205001 x205002 x209000 x209001 t212 x209003) else (if x19 = 3 then (impl_NeighboursOf.l0 k x1 (wrap64 (x19 + 1)) x205000 x205001 x205002 x209000 x209001 x209002 t212) else (none))))))) else (none)) else (none)) else (some (x209000, x209001, x209002, x209003, 0))
def impl_NeighboursOf.f (k : Nat) (a0_0 : Int) (a0_1 : Int) (l0_2 : List (S91)) (a1 : Int) : Option (Int × Int × Int × Int × Int) := (impl_ValidBoard.f k a0_0 a0_1 l0_2).bind fun t206 => (if t206 = true then ((impl_Board_indexOk.f [(⟨a0_0, a0_1, l0_2⟩ : S37)] a1).bind fun t207 => (if t207 = true then (impl_NeighboursOf.l0 k a1 0 a0_0 a0_1 l0_2 0 0 0 0) else (some (0, 0, 0, 0, 2)))) else (some (0, 0, 0, 0, 1)))
theorem impl_NeighboursOf.mono_l : ∀ k, (∀ y0 y1 y2 y3 y4 y5 y6 y7 y8, LeO (impl_NeighboursOf.l0 k y0 y1 y2 y3 y4 y5 y6 y7 y8) (impl_NeighboursOf.l0 (k + 1) y0 y1 y2 y3 y4 y5 y6 y7 y8))
  | 0 => fun _ _ _ _ _ _ _ _ _ r h => by simp [impl_NeighboursOf.l0] at h
  | k + 1 => by
    have ih0 := impl_NeighboursOf.mono_l k
    · intro y0 y1 y2 y3 y4 y5 y6 y7 y8
      unfold impl_NeighboursOf.l0
      repeat' first
      | (with_reducible exact ih0 _ _ _ _ _ _ _ _ _)
      | (with_reducible exact impl_Board_at.mono _ _ _ _)
      | (with_reducible exact impl_ValidBoard.mono _ _ _ _)
      | (with_reducible exact LeO.refl _)
      | (with_reducible exact LeO.none _)
      | (with_reducible refine LeO.ite ?_ ?_)
      | (with_reducible refine LeO.bind ?_ (fun _ => ?_))
      | exact ih0 _ _ _ _ _ _ _ _ _
      | exact impl_Board_at.mono _ _ _ _
      | exact impl_ValidBoard.mono _ _ _ _
      | exact LeO.none _
      | refine LeO.ite ?_ ?_
      | refine LeO.bind ?_ (fun _ => ?_)
theorem impl_NeighboursOf.mono : ∀ a0 a1 a2 a3 k, LeO (impl_NeighboursOf.f k a0 a1 a2 a3) (impl_NeighboursOf.f (k + 1) a0 a1 a2 a3) := by
  intro a0 a1 a2 a3 k
  have ih0 := impl_NeighboursOf.mono_l k
  unfold impl_NeighboursOf.f
  repeat' first
      | (with_reducible exact ih0 _ _ _ _ _ _ _ _ _)
      | (with_reducible exact impl_Board_at.mono _ _ _ _)
      | (with_reducible exact impl_ValidBoard.mono _ _ _ _)
      | (with_reducible exact LeO.refl _)
      | (with_reducible exact LeO.none _)
      | (with_reducible refine LeO.ite ?_ ?_)
      | (with_reducible refine LeO.bind ?_ (fun _ => ?_))
      | exact ih0 _ _ _ _ _ _ _ _ _
      | exact impl_Board_at.mono _ _ _ _
      | exact impl_ValidBoard.mono _ _ _ _
      | exact LeO.none _
      | refine LeO.ite ?_ ?_
      | refine LeO.bind ?_ (fun _ => ?_)
set_option maxHeartbeats 8000000 in
set_option maxRecDepth 100000 in
theorem impl_NeighboursOf.calls (k : Nat) (a0_0 : Int) (a0_1 : Int) (A0_2 : Option Addr) (c0_2 : Nat) (l0_2 : List (S91)) (a1 : Int) (r1 : Int) (r2 : Int) (r3 : Int) (r4 : Int) (r5 : Int) (w : World) (hr0_2 : Kd.C k91 w A0_2 l0_2.length l0_2) (hc0_2 : l0_2.length ≤ c0_2) (h : impl_NeighboursOf.f k a0_0 a0_1 l0_2 a1 = some (r1, r2, r3, r4, r5)) :
    Calls Try.prog 56 #[.agg #[.int .i8 a0_0, .int .i8 a0_1, .slice A0_2 l0_2.length c0_2], .int .i64 a1] w fun e w' => e = .returned (.tuple #[.agg #[.int .i64 r1, .int .i64 r2, .int .i64 r3, .int .i64 r4], .int .i64 r5]) ∧ Below w.heap.size w w' := by
  have hu37 := Try.underlying37
  have hu77 := Try.underlying77
  have hu74 := Try.underlying74
  have HR0_2 := Aside0.mk hr0_2
  have HC0_2 := Aside0.mk hc0_2
  clear hr0_2 hc0_2
  have HB := Aside0.mk (Below.refl w.heap.size w)
  have H : ((impl_ValidBoard.f k a0_0 a0_1 l0_2).bind fun t206 => (if t206 = true then ((impl_Board_indexOk.f [(⟨a0_0, a0_1, l0_2⟩ : S37)] a1).bind fun t207 => (if t207 = true then (impl_NeighboursOf.l0 k a1 0 a0_0 a0_1 l0_2 0 0 0 0) else (some (0, 0, 0, 0, 2)))) else (some (0, 0, 0, 0, 1)))) = some (r1, r2, r3, r4, r5) := h
  clear h
  replace H := Option.bind_eq_some_iff.mp H
  obtain ⟨t206, A30, H⟩ := H
  replace H : (if t206 = true then ((impl_Board_indexOk.f [(⟨a0_0, a0_1, l0_2⟩ : S37)] a1).bind fun t207 => (if t207 = true then (impl_NeighboursOf.l0 k a1 0 a0_0 a0_1 l0_2 0 0 0 0) else (some (0, 0, 0, 0, 2)))) else (some (0, 0, 0, 0, 1))) = some (r1, r2, r3, r4, r5) := H
  have A3 := Aside0.mk A30
  clear A30
  by_cases c4 : t206 = true
  · subst c4
    have H1 : ((impl_Board_indexOk.f [(⟨a0_0, a0_1, l0_2⟩ : S37)] a1).bind fun t207 => (if t207 = true then (impl_NeighboursOf.l0 k a1 0 a0_0 a0_1 l0_2 0 0 0 0) else (some (0, 0, 0, 0, 2)))) = some (r1, r2, r3, r4, r5) := by rw [if_pos rfl] at H; exact H
    clear H
    have H := H1
    clear H1
    replace H := Option.bind_eq_some_iff.mp H
    obtain ⟨t207, A50, H⟩ := H
    replace H : (if t207 = true then (impl_NeighboursOf.l0 k a1 0 a0_0 a0_1 l0_2 0 0 0 0) else (some (0, 0, 0, 0, 2))) = some (r1, r2, r3, r4, r5) := H
    have A5 := Aside0.mk A50
    clear A50
    by_cases c6 : t207 = true
    · subst c6
      have H1 : (impl_NeighboursOf.l0 k a1 0 a0_0 a0_1 l0_2 0 0 0 0) = some (r1, r2, r3, r4, r5) := by rw [if_pos rfl] at H; exact H
      clear H
      have H := H1
      clear H1
      have H' := Aside0.mk H
      clear H
      go_enter Try.func56, Try.ntmps56
      go_wp2_with (first | ((with_reducible refine gate_dst (N := 2) rfl ?_); refine box_event ?hg (N := 2) ?hd (cs := #[.int .i8 a0_0, .int .i8 a0_1, .slice A0_2 l0_2.length c0_2]) (t := 37) ?hr ?_; (case hd => rfl); (case hg => rfl); (case hr => first | (go_simp; done) | (go_simp; rfl)); intro gb204 hg w7 hbox hb; have n0_ := Aside0.mk (below_step (by repeat (first | (with_reducible first | exact HB.out | apply below_alloc | apply pw_below_drewN | apply below_drew1) | exact HB.out)) hb); have n1_ := Aside0.mk (hbox); have n2_ := Aside0.mk ((by rw [hg]; exact (below_size (by repeat (first | (with_reducible first | exact HB.out | apply below_alloc | apply pw_below_drewN | apply below_drew1) | exact HB.out))) : w.heap.size ≤ gb204)); have n3_ := Aside0.mk ((by rw [hg]; exact (below_size (by repeat (first | (with_reducible first | exact HB.out | apply below_alloc | apply pw_below_drewN | apply below_drew1) | exact HB.out))) : w.heap.size ≤ gb204)); clear HB; have HB := n0_; have BK204 := n1_; have GW204 := n2_; have GE204 := n3_; clear n0_ n1_ n2_ n3_; clear hb hbox hg) | ((with_reducible refine gate_dst (N := 4) rfl ?_); refine box_event ?hg (N := 4) ?hd (cs := #[.int .i64 0, .int .i64 0, .int .i64 0, .int .i64 0]) (t := 77) ?hr ?_; (case hd => rfl); (case hg => rfl); (case hr => first | (go_simp; done) | (go_simp; rfl)); intro gb205 hg w8 hbox hb; have n0_ := Aside0.mk (blk_below (g := gb204) (o := .cells #[.int .i8 a0_0, .int .i8 a0_1, .slice A0_2 l0_2.length c0_2] 37 (0, 0)) (by (with_reducible repeat (first | refine blk_drewN ?_ _ | refine blk_drew ?_ | refine blk_alloc ?_ _)); exact BK204.out) hb); have n1_ := Aside0.mk (below_step (by repeat (first | (with_reducible first | exact HB.out | apply below_alloc | apply pw_below_drewN | apply below_drew1 | refine below_set ?_ GE204.out) | exact HB.out)) hb); have n2_ := Aside0.mk (hbox); have n3_ := Aside0.mk ((by rw [hg]; exact (below_size (by repeat (first | (with_reducible first | exact HB.out | apply below_alloc | apply pw_below_drewN | apply below_drew1 | refine below_set ?_ GE204.out) | exact HB.out))) : w.heap.size ≤ gb205)); have n4_ := Aside0.mk ((by rw [hg]; exact (below_size (by repeat (first | (with_reducible first | exact HB.out | apply below_alloc | apply pw_below_drewN | apply below_drew1 | refine below_set ?_ GE204.out) | exact HB.out))) : w.heap.size ≤ gb205)); have n5_ := Aside0.mk ((by rw [hg]; exact Nat.ne_of_lt (blk_lt (g := gb204) (o := .cells #[.int .i8 a0_0, .int .i8 a0_1, .slice A0_2 l0_2.length c0_2] 37 (0, 0)) (by (with_reducible repeat (first | refine blk_drewN ?_ _ | refine blk_drew ?_ | refine blk_alloc ?_ _)); exact BK204.out)) : gb204 ≠ gb205)); have n6_ := Aside0.mk ((by rw [hg]; exact Nat.ne_of_gt (blk_lt (g := gb204) (o := .cells #[.int .i8 a0_0, .int .i8 a0_1, .slice A0_2 l0_2.length c0_2] 37 (0, 0)) (by (with_reducible repeat (first | refine blk_drewN ?_ _ | refine blk_drew ?_ | refine blk_alloc ?_ _)); exact BK204.out)) : gb205 ≠ gb204)); clear BK204; clear HB; have BK204 := n0_; have HB := n1_; have BK205 := n2_; have GW205 := n3_; have GE205 := n4_; have NB204_205 := n5_; have NB205_204 := n6_; clear n0_ n1_ n2_ n3_ n4_ n5_ n6_; clear hb hbox hg; have hnb9 := NB204_205.out; have hnc9 := NB205_204.out; have hcz10_0 : w8.cell? ⟨gb204, 0, none⟩ = some (.int .i8 a0_0) := (blk_cell BK204.out 0).trans rfl; have hcz10_1 : w8.cell? ⟨gb204, 1, none⟩ = some (.int .i8 a0_1) := (blk_cell BK204.out 1).trans rfl; have hcz10_2 : w8.cell? ⟨gb204, 2, none⟩ = some (.slice A0_2 l0_2.length c0_2) := (blk_cell BK204.out 2).trans rfl; have hfz10_0 := blk_frozen BK204.out 0; have hfz10_1 := blk_frozen BK204.out 1; have hfz10_2 := blk_frozen BK204.out 2) | ((with_reducible refine gate_callee (f := 43) rfl ?_); refine goesL_ (some 10) rfl rfl Try.func43 (by kernel_rfl) rfl #[.agg #[.int .i8 a0_0, .int .i8 a0_1, .slice A0_2 l0_2.length c0_2]] rfl (by (try simp only [List.map_toArray, List.map_cons, List.map_nil]); first | done | rfl | (simp only [List.length_drop, List.length_take]; rfl)) ?_; (with_reducible refine (impl_ValidBoard.calls k a0_0 a0_1 _ _ l0_2 true _ ?side1 ?side2 A3.out).mono ?_); (case side1 => repeat (first | exact (Kd.C_below HR0_2.out HB.out) | (with_reducible refine Kd.C_alloc ?_ _) | (with_reducible refine Kd.C_drewN ?_ _) | (with_reducible refine Kd.C_drew ?_))); (case side2 => exact HC0_2.out); rintro e w11 ⟨rfl, hb⟩; refine ⟨_, rfl, ?_⟩; have n0_ := Aside0.mk (blk_below (g := gb204) (o := .cells #[.int .i8 a0_0, .int .i8 a0_1, .slice A0_2 l0_2.length c0_2] 37 (0, 0)) (by (with_reducible repeat (first | refine blk_drewN ?_ _ | refine blk_drew ?_ | refine blk_alloc ?_ _)); exact BK204.out) hb); have n1_ := Aside0.mk (blk_below (g := gb205) (o := .cells #[.int .i64 0, .int .i64 0, .int .i64 0, .int .i64 0] 77 (0, 0)) (by (with_reducible repeat (first | refine blk_drewN ?_ _ | refine blk_drew ?_ | refine blk_alloc ?_ _)); exact BK205.out) hb); have n2_ := Aside0.mk (below_step (by repeat (first | (with_reducible first | exact HB.out | apply below_alloc | apply pw_below_drewN | apply below_drew1 | refine below_set ?_ GE204.out | refine below_set ?_ GE205.out) | exact HB.out)) hb); clear BK204; clear BK205; clear HB; have BK204 := n0_; have BK205 := n1_; have HB := n2_; clear n0_ n1_ n2_; (try clear hb); (try clear hb2); (try clear hk); (try clear hi)) | ((with_reducible refine gate_callee (f := 121) rfl ?_); refine goesL_ (some 15) rfl rfl Try.func121 (by kernel_rfl) rfl #[.pointer (some ⟨gb204, 0, none⟩), .int .i64 a1] rfl (by (try simp only [List.map_toArray, List.map_cons, List.map_nil]); first | done | rfl | (simp only [List.length_drop, List.length_take]; rfl)) ?_; (with_reducible refine (impl_Board_indexOk.calls _ [(⟨a0_0, a0_1, l0_2⟩ : S37)] a1 true _ ?side1 A5.out).mono ?_); (case side1 => refine ro_of_blk (T := 37) (cs := #[.int .i8 a0_0, .int .i8 a0_1, .slice A0_2 l0_2.length c0_2]) (by (with_reducible repeat (first | refine blk_drewN ?_ _ | refine blk_drew ?_ | refine blk_alloc ?_ _)); exact BK204.out) ?_; exact k37_mk _ (⟨a0_0, a0_1, l0_2⟩ : S37) (by exact HC0_2.out) (by repeat (first | exact (Kd.C_below HR0_2.out HB.out) | (with_reducible refine Kd.C_alloc ?_ _) | (with_reducible refine Kd.C_drewN ?_ _) | (with_reducible refine Kd.C_drew ?_)))); rintro e w' ⟨rfl, ⟨nd, rfl⟩⟩; refine ⟨_, rfl, ?_⟩; (try (rw [drewN_self w11]; generalize hq_ : World.drewN w11 _ = w11; have n0_ : Aside0 (w11.heap[gb204]? = some (.cells #[.int .i8 a0_0, .int .i8 a0_1, .slice A0_2 l0_2.length c0_2] 37 (0, 0))) := ⟨by rw [← hq_]; exact (by (with_reducible repeat (first | refine blk_drewN ?_ _ | refine blk_drew ?_ | refine blk_alloc ?_ _)); exact BK204.out)⟩; have n1_ : Aside0 (w11.heap[gb205]? = some (.cells #[.int .i64 0, .int .i64 0, .int .i64 0, .int .i64 0] 77 (0, 0))) := ⟨by rw [← hq_]; exact (by (with_reducible repeat (first | refine blk_drewN ?_ _ | refine blk_drew ?_ | refine blk_alloc ?_ _)); exact BK205.out)⟩; have n2_ : Aside0 (Below w.heap.size w w11) := ⟨by rw [← hq_]; exact (by repeat (first | (with_reducible first | exact HB.out | apply below_alloc | apply pw_below_drewN | apply below_drew1 | refine below_set ?_ GE204.out | refine below_set ?_ GE205.out) | exact HB.out))⟩; clear BK204 BK205 HB hq_; have BK204 := n0_; have BK205 := n1_; have HB := n2_; clear n0_ n1_ n2_))) | ((with_reducible refine gate_dst (N := 6) rfl ?_); refine box_event ?hg (N := 6) ?hd (cs := #[.int .i64 0, .int .i64 0, .int .i64 0, .int .i64 0]) (t := 77) ?hr ?_; (case hd => rfl); (case hg => rfl); (case hr => first | (go_simp; done) | (go_simp; rfl)); intro gb208 hg w12 hbox hb; have n0_ := Aside0.mk (blk_below (g := gb204) (o := .cells #[.int .i8 a0_0, .int .i8 a0_1, .slice A0_2 l0_2.length c0_2] 37 (0, 0)) (by (with_reducible repeat (first | refine blk_drewN ?_ _ | refine blk_drew ?_ | refine blk_alloc ?_ _)); exact BK204.out) hb); have n1_ := Aside0.mk (blk_below (g := gb205) (o := .cells #[.int .i64 0, .int .i64 0, .int .i64 0, .int .i64 0] 77 (0, 0)) (by (with_reducible repeat (first | refine blk_drewN ?_ _ | refine blk_drew ?_ | refine blk_alloc ?_ _)); exact BK205.out) hb); have n2_ := Aside0.mk (below_step (by repeat (first | (with_reducible first | exact HB.out | apply below_alloc | apply pw_below_drewN | apply below_drew1 | refine below_set ?_ GE204.out | refine below_set ?_ GE205.out) | exact HB.out)) hb); have n3_ := Aside0.mk (hbox); have n4_ := Aside0.mk ((by rw [hg]; exact (below_size (by repeat (first | (with_reducible first | exact HB.out | apply below_alloc | apply pw_below_drewN | apply below_drew1 | refine below_set ?_ GE204.out | refine below_set ?_ GE205.out) | exact HB.out))) : w.heap.size ≤ gb208)); have n5_ := Aside0.mk ((by rw [hg]; exact (below_size (by repeat (first | (with_reducible first | exact HB.out | apply below_alloc | apply pw_below_drewN | apply below_drew1 | refine below_set ?_ GE204.out | refine below_set ?_ GE205.out) | exact HB.out))) : w.heap.size ≤ gb208)); have n6_ := Aside0.mk ((by rw [hg]; exact Nat.ne_of_lt (blk_lt (g := gb204) (o := .cells #[.int .i8 a0_0, .int .i8 a0_1, .slice A0_2 l0_2.length c0_2] 37 (0, 0)) (by (with_reducible repeat (first | refine blk_drewN ?_ _ | refine blk_drew ?_ | refine blk_alloc ?_ _)); exact BK204.out)) : gb204 ≠ gb208)); have n7_ := Aside0.mk ((by rw [hg]; exact Nat.ne_of_gt (blk_lt (g := gb204) (o := .cells #[.int .i8 a0_0, .int .i8 a0_1, .slice A0_2 l0_2.length c0_2] 37 (0, 0)) (by (with_reducible repeat (first | refine blk_drewN ?_ _ | refine blk_drew ?_ | refine blk_alloc ?_ _)); exact BK204.out)) : gb208 ≠ gb204)); have n8_ := Aside0.mk ((by rw [hg]; exact Nat.ne_of_lt (blk_lt (g := gb205) (o := .cells #[.int .i64 0, .int .i64 0, .int .i64 0, .int .i64 0] 77 (0, 0)) (by (with_reducible repeat (first | refine blk_drewN ?_ _ | refine blk_drew ?_ | refine blk_alloc ?_ _)); exact BK205.out)) : gb205 ≠ gb208)); have n9_ := Aside0.mk ((by rw [hg]; exact Nat.ne_of_gt (blk_lt (g := gb205) (o := .cells #[.int .i64 0, .int .i64 0, .int .i64 0, .int .i64 0] 77 (0, 0)) (by (with_reducible repeat (first | refine blk_drewN ?_ _ | refine blk_drew ?_ | refine blk_alloc ?_ _)); exact BK205.out)) : gb208 ≠ gb205)); clear BK204; clear BK205; clear HB; have BK204 := n0_; have BK205 := n1_; have HB := n2_; have BK208 := n3_; have GW208 := n4_; have GE208 := n5_; have NB204_208 := n6_; have NB208_204 := n7_; have NB205_208 := n8_; have NB208_205 := n9_; clear n0_ n1_ n2_ n3_ n4_ n5_ n6_ n7_ n8_ n9_; clear hb hbox hg; have hnb13 := NB208_204.out; have hnc13 := NB204_208.out; have hnb14 := NB208_205.out; have hnc14 := NB205_208.out; have hcz15_0 : w12.cell? ⟨gb208, 0, none⟩ = some (.int .i64 0) := (blk_cell BK208.out 0).trans rfl; have hcz15_1 : w12.cell? ⟨gb208, 1, none⟩ = some (.int .i64 0) := (blk_cell BK208.out 1).trans rfl; have hcz15_2 : w12.cell? ⟨gb208, 2, none⟩ = some (.int .i64 0) := (blk_cell BK208.out 2).trans rfl; have hcz15_3 : w12.cell? ⟨gb208, 3, none⟩ = some (.int .i64 0) := (blk_cell BK208.out 3).trans rfl; have hfz15_0 := blk_frozen BK208.out 0; have hfz15_1 := blk_frozen BK208.out 1; have hfz15_2 := blk_frozen BK208.out 2; have hfz15_3 := blk_frozen BK208.out 3))
      go_loopg [19] k (fun kq v19 w' => ∃ (x19_1 : Int) (x209000_1 : Int) (x209001_1 : Int) (x209002_1 : Int) (x209003_1 : Int), v19 = .int .i64 x19_1 ∧ Aside0 (impl_NeighboursOf.l0 kq a1 x19_1 a0_0 a0_1 l0_2 x209000_1 x209001_1 x209002_1 x209003_1 = some (r1, r2, r3, r4, r5)) ∧ Aside0 (kq ≤ k) ∧ Aside0 (w'.heap[gb204]? = some (.cells #[.int .i8 a0_0, .int .i8 a0_1, (.slice A0_2 l0_2.length c0_2)] 37 (0, 0))) ∧ Aside0 (w'.heap[gb205]? = some (.cells #[.int .i64 0, .int .i64 0, .int .i64 0, .int .i64 0] 77 (0, 0))) ∧ Aside0 (w'.heap[gb208]? = some (.cells #[.int .i64 x209000_1, .int .i64 x209001_1, .int .i64 x209002_1, .int .i64 x209003_1] 77 (0, 0))) ∧ Aside0 (Below w.heap.size w w'))
      case atStart => exact ⟨(0), (0), (0), (0), (0), (by first | rfl | (simp; done) | (simp [*]; done) | (exact congrArg (Value.int .i64) (wrap_eq (by omega)))), H', ⟨Nat.le_refl _⟩, ⟨by (with_reducible repeat (first | refine blk_drewN ?_ _ | refine blk_drew ?_ | refine blk_alloc ?_ _)); refine blk_far ?_ NB204_208.out _; (with_reducible repeat (first | refine blk_drewN ?_ _ | refine blk_drew ?_ | refine blk_alloc ?_ _)); refine blk_far ?_ NB204_208.out _; (with_reducible repeat (first | refine blk_drewN ?_ _ | refine blk_drew ?_ | refine blk_alloc ?_ _)); refine blk_far ?_ NB204_208.out _; (with_reducible repeat (first | refine blk_drewN ?_ _ | refine blk_drew ?_ | refine blk_alloc ?_ _)); refine blk_far ?_ NB204_208.out _; (with_reducible repeat (first | refine blk_drewN ?_ _ | refine blk_drew ?_ | refine blk_alloc ?_ _)); exact BK204.out⟩, ⟨by (with_reducible repeat (first | refine blk_drewN ?_ _ | refine blk_drew ?_ | refine blk_alloc ?_ _)); refine blk_far ?_ NB205_208.out _; (with_reducible repeat (first | refine blk_drewN ?_ _ | refine blk_drew ?_ | refine blk_alloc ?_ _)); refine blk_far ?_ NB205_208.out _; (with_reducible repeat (first | refine blk_drewN ?_ _ | refine blk_drew ?_ | refine blk_alloc ?_ _)); refine blk_far ?_ NB205_208.out _; (with_reducible repeat (first | refine blk_drewN ?_ _ | refine blk_drew ?_ | refine blk_alloc ?_ _)); refine blk_far ?_ NB205_208.out _; (with_reducible repeat (first | refine blk_drewN ?_ _ | refine blk_drew ?_ | refine blk_alloc ?_ _)); exact BK205.out⟩, ⟨by (with_reducible repeat (first | refine blk_drewN ?_ _ | refine blk_drew ?_ | refine blk_alloc ?_ _)); refine blk_put (cs := #[.int .i64 0, .int .i64 0, .int .i64 0, .int .i64 0]) ?_ 3 _ rfl; (with_reducible repeat (first | refine blk_drewN ?_ _ | refine blk_drew ?_ | refine blk_alloc ?_ _)); refine blk_put (cs := #[.int .i64 0, .int .i64 0, .int .i64 0, .int .i64 0]) ?_ 2 _ rfl; (with_reducible repeat (first | refine blk_drewN ?_ _ | refine blk_drew ?_ | refine blk_alloc ?_ _)); refine blk_put (cs := #[.int .i64 0, .int .i64 0, .int .i64 0, .int .i64 0]) ?_ 1 _ rfl; (with_reducible repeat (first | refine blk_drewN ?_ _ | refine blk_drew ?_ | refine blk_alloc ?_ _)); refine blk_put (cs := #[.int .i64 0, .int .i64 0, .int .i64 0, .int .i64 0]) ?_ 0 _ rfl; (with_reducible repeat (first | refine blk_drewN ?_ _ | refine blk_drew ?_ | refine blk_alloc ?_ _)); exact BK208.out⟩, ⟨by repeat (first | (with_reducible first | exact HB.out | apply below_alloc | apply pw_below_drewN | apply below_drew1 | refine below_set ?_ GE204.out | refine below_set ?_ GE205.out | refine below_set ?_ GE208.out) | exact HB.out)⟩⟩
      case round =>
        clear H'
        try clear c1
        try clear p2
        try clear c4
        try clear c5
        try clear c6
        try clear c9
        try clear c12
        try clear c13
        try clear c14
        try clear hcz10_0
        try clear hcz10_1
        try clear hcz10_2
        try clear hcz15_0
        try clear hcz15_1
        try clear hcz15_2
        try clear hcz15_3
        try clear hfz10_0
        try clear hfz10_1
        try clear hfz10_2
        try clear hfz15_0
        try clear hfz15_1
        try clear hfz15_2
        try clear hfz15_3
        obtain ⟨x19_1, x209000_1, x209001_1, x209002_1, x209003_1, rfl, HA, HK1, BK204, BK205, BK208, HB⟩ := hrel
        cases gk with
        | zero => exact absurd HA.out (by simp [impl_NeighboursOf.l0])
        | succ k1 =>
          have H := HA.out
          clear HA
          simp only [impl_NeighboursOf.l0] at H
          by_cases c16 : x19_1 < 4
          · rw [if_pos c16] at H
            have c16b0 : decide (x19_1 < 4) = true := decide_eq_true c16
            clear c16
            by_cases c17 : 0 ≤ a1
            · rw [if_pos c17] at H
              have c17b0 : decide (0 ≤ a1) = true := decide_eq_true c17
              clear c17
              by_cases c18 : a1 < (l0_2.length : Int)
              · rw [if_pos c18] at H
                have c18b0 : decide (a1 < (l0_2.length : Int)) = true := decide_eq_true c18
                clear c18
                replace H := Option.bind_eq_some_iff.mp H
                obtain ⟨⟨t210, t211⟩, A190, H⟩ := H
                replace H : ((impl_Board_at.f k1 [(⟨a0_0, a0_1, l0_2⟩ : S37)] t210 t211).bind fun t212 => (if x19_1 = 0 then (impl_NeighboursOf.l0 k1 a1 (wrap64 (x19_1 + 1)) a0_0 a0_1 l0_2 t212 x209001_1 x209002_1 x209003_1) else (if x19_1 = 1 then (impl_NeighboursOf.l0 k1 a1 (wrap64 (x19_1 + 1)) a0_0 a0_1 l0_2 x209000_1 t212 x209002_1 x209003_1) else (if x19_1 = 2 then (impl_NeighboursOf.l0 k1 a1 (wrap64 (x19_1 + 1)) a0_0 a0_1 l0_2 x209000_1 x209001_1 t212 x209003_1) else (if x19_1 = 3 then (impl_NeighboursOf.l0 k1 a1 (wrap64 (x19_1 + 1)) a0_0 a0_1 l0_2 x209000_1 x209001_1 x209002_1 t212) else (none)))))) = some (r1, r2, r3, r4, r5) := H
                have A19 := Aside0.mk A190
                clear A190
                replace H := Option.bind_eq_some_iff.mp H
                obtain ⟨t212, A200, H⟩ := H
                replace H : (if x19_1 = 0 then (impl_NeighboursOf.l0 k1 a1 (wrap64 (x19_1 + 1)) a0_0 a0_1 l0_2 t212 x209001_1 x209002_1 x209003_1) else (if x19_1 = 1 then (impl_NeighboursOf.l0 k1 a1 (wrap64 (x19_1 + 1)) a0_0 a0_1 l0_2 x209000_1 t212 x209002_1 x209003_1) else (if x19_1 = 2 then (impl_NeighboursOf.l0 k1 a1 (wrap64 (x19_1 + 1)) a0_0 a0_1 l0_2 x209000_1 x209001_1 t212 x209003_1) else (if x19_1 = 3 then (impl_NeighboursOf.l0 k1 a1 (wrap64 (x19_1 + 1)) a0_0 a0_1 l0_2 x209000_1 x209001_1 x209002_1 t212) else (none))))) = some (r1, r2, r3, r4, r5) := H
                have A20 := Aside0.mk A200
                clear A200
                by_cases c21 : x19_1 = 0
                · rw [if_pos c21] at H
                  have Ac21 : Aside0 (x19_1 = 0) := ⟨c21⟩
                  clear c21
                  have ar22e : x19_1 = 0 := by first | exact (show Aside0 (x19_1 = 0) by assumption).out | exact beq_iff_eq.mp (by assumption) | omega
                  have ar22n : (x19_1).toNat = 0 := by rw [ar22e]; rfl
                  have ar22l : decide (0 ≤ x19_1) = true := decide_eq_true (by omega)
                  have ar22L := eq_true (of_decide_eq_true ar22l)
                  have ar22h : decide (x19_1 < 4) = true := decide_eq_true (by omega)
                  have ar22H := eq_true (of_decide_eq_true ar22h)
                  clear ar22e
                  have H' := Aside0.mk H
                  clear H
                  have hnb23 := NB204_205.out
                  have hnc23 := NB205_204.out
                  have hnb24 := NB204_208.out
                  have hnc24 := NB208_204.out
                  have hcz25_0 : wr.cell? ⟨gb204, 0, none⟩ = some (.int .i8 a0_0) := (blk_cell BK204.out 0).trans rfl
                  have hcz25_1 : wr.cell? ⟨gb204, 1, none⟩ = some (.int .i8 a0_1) := (blk_cell BK204.out 1).trans rfl
                  have hcz25_2 : wr.cell? ⟨gb204, 2, none⟩ = some (.slice A0_2 l0_2.length c0_2) := (blk_cell BK204.out 2).trans rfl
                  have hfz25_0 := blk_frozen BK204.out 0
                  have hfz25_1 := blk_frozen BK204.out 1
                  have hfz25_2 := blk_frozen BK204.out 2
                  have p209 : 0 ≤ (a1 : Int) := of_decide_eq_true (by first | (with_reducible assumption) | assumption)
                  have q209 : a1 < (l0_2.length : Int) := of_decide_eq_true (by first | (with_reducible assumption) | assumption)
                  obtain ⟨ad209, e209, hx209_0, hx209_1, hx209_2, hx209_3, hx209_4⟩ := at_T91 HR0_2.out a1 p209 q209
                  cases e209
                  replace hx209_0 := (HB.out.cell (World.block_lt_of_cell? w _ hx209_0)).trans hx209_0
                  replace hx209_1 := (HB.out.cell (World.block_lt_of_cell? w _ hx209_1)).trans hx209_1
                  replace hx209_2 := (HB.out.cell (World.block_lt_of_cell? w _ hx209_2)).trans hx209_2
                  replace hx209_3 := (HB.out.cell (World.block_lt_of_cell? w _ hx209_3)).trans hx209_3
                  replace hx209_4 := (HB.out.cell (World.block_lt_of_cell? w _ hx209_4)).trans hx209_4
                  replace p209 := eq_true p209
                  replace q209 := eq_true q209
                  go_wp2_with (first | ((with_reducible refine gate_callee (f := 122) rfl ?_); refine goesL_ (some 30) rfl rfl Try.func122 (by kernel_rfl) rfl #[.agg #[.int .i8 ((rd_T91 l0_2 a1).f0.f0), .int .i8 ((rd_T91 l0_2 a1).f0.f1)], .int .i64 x19_1] rfl (by (try simp only [List.map_toArray, List.map_cons, List.map_nil]); first | done | rfl | (simp only [List.length_drop, List.length_take]; rfl)) ?_; (with_reducible refine (impl_Cell_next.calls ((rd_T91 l0_2 a1).f0.f0) ((rd_T91 l0_2 a1).f0.f1) x19_1 t210 t211 _ A19.out).mono ?_); rintro e w26 ⟨rfl, hb⟩; refine ⟨_, rfl, ?_⟩; have n0_ := Aside0.mk (blk_below (g := gb204) (o := .cells #[.int .i8 a0_0, .int .i8 a0_1, .slice (some ad209) l0_2.length c0_2] 37 (0, 0)) (by (with_reducible repeat (first | refine blk_drewN ?_ _ | refine blk_drew ?_ | refine blk_alloc ?_ _)); exact BK204.out) hb); have n1_ := Aside0.mk (blk_below (g := gb205) (o := .cells #[.int .i64 0, .int .i64 0, .int .i64 0, .int .i64 0] 77 (0, 0)) (by (with_reducible repeat (first | refine blk_drewN ?_ _ | refine blk_drew ?_ | refine blk_alloc ?_ _)); exact BK205.out) hb); have n2_ := Aside0.mk (blk_below (g := gb208) (o := .cells #[.int .i64 x209000_1, .int .i64 x209001_1, .int .i64 x209002_1, .int .i64 x209003_1] 77 (0, 0)) (by (with_reducible repeat (first | refine blk_drewN ?_ _ | refine blk_drew ?_ | refine blk_alloc ?_ _)); exact BK208.out) hb); have n3_ := Aside0.mk (below_step (by repeat (first | (with_reducible first | exact HB.out | apply below_alloc | apply pw_below_drewN | apply below_drew1 | refine below_set ?_ GE204.out | refine below_set ?_ GE205.out | refine below_set ?_ GE208.out) | exact HB.out)) hb); clear BK204; clear BK205; clear BK208; clear HB; have BK204 := n0_; have BK205 := n1_; have BK208 := n2_; have HB := n3_; clear n0_ n1_ n2_ n3_; (try clear hb); (try clear hb2); (try clear hk); (try clear hi)) | ((with_reducible refine gate_callee (f := 119) rfl ?_); refine goesL_ (some 31) rfl rfl Try.func119 (by kernel_rfl) rfl #[.pointer (some ⟨gb204, 0, none⟩), .agg #[.int .i8 t210, .int .i8 t211]] rfl (by (try simp only [List.map_toArray, List.map_cons, List.map_nil]); first | done | rfl | (simp only [List.length_drop, List.length_take]; rfl)) ?_; (with_reducible refine (impl_Board_at.calls k1 _ [(⟨a0_0, a0_1, l0_2⟩ : S37)] t210 t211 t212 _ ?side1 A20.out).mono ?_); (case side1 => refine ro_of_blk (T := 37) (cs := #[.int .i8 a0_0, .int .i8 a0_1, .slice (some ad209) l0_2.length c0_2]) (by (with_reducible repeat (first | refine blk_drewN ?_ _ | refine blk_drew ?_ | refine blk_alloc ?_ _)); exact BK204.out) ?_; exact k37_mk _ (⟨a0_0, a0_1, l0_2⟩ : S37) (by exact HC0_2.out) (by repeat (first | exact (Kd.C_below HR0_2.out HB.out) | (with_reducible refine Kd.C_alloc ?_ _) | (with_reducible refine Kd.C_drewN ?_ _) | (with_reducible refine Kd.C_drew ?_)))); rintro e w27 ⟨rfl, hb⟩; refine ⟨_, rfl, ?_⟩; have n0_ := Aside0.mk (blk_below (g := gb204) (o := .cells #[.int .i8 a0_0, .int .i8 a0_1, .slice (some ad209) l0_2.length c0_2] 37 (0, 0)) (by (with_reducible repeat (first | refine blk_drewN ?_ _ | refine blk_drew ?_ | refine blk_alloc ?_ _)); exact BK204.out) hb); have n1_ := Aside0.mk (blk_below (g := gb205) (o := .cells #[.int .i64 0, .int .i64 0, .int .i64 0, .int .i64 0] 77 (0, 0)) (by (with_reducible repeat (first | refine blk_drewN ?_ _ | refine blk_drew ?_ | refine blk_alloc ?_ _)); exact BK205.out) hb); have n2_ := Aside0.mk (blk_below (g := gb208) (o := .cells #[.int .i64 x209000_1, .int .i64 x209001_1, .int .i64 x209002_1, .int .i64 x209003_1] 77 (0, 0)) (by (with_reducible repeat (first | refine blk_drewN ?_ _ | refine blk_drew ?_ | refine blk_alloc ?_ _)); exact BK208.out) hb); have n3_ := Aside0.mk (below_step (by repeat (first | (with_reducible first | exact HB.out | apply below_alloc | apply pw_below_drewN | apply below_drew1 | refine below_set ?_ GE204.out | refine below_set ?_ GE205.out | refine below_set ?_ GE208.out) | exact HB.out)) hb); clear BK204; clear BK205; clear BK208; clear HB; have BK204 := n0_; have BK205 := n1_; have BK208 := n2_; have HB := n3_; clear n0_ n1_ n2_ n3_; (try clear hb); (try clear hb2); (try clear hk); (try clear hi); have hnb28 := NB208_205.out; have hnc28 := NB205_208.out; have hcz29_0 : w27.cell? ⟨gb208, 0, none⟩ = some (.int .i64 x209000_1) := (blk_cell BK208.out 0).trans rfl; have hcz29_1 : w27.cell? ⟨gb208, 1, none⟩ = some (.int .i64 x209001_1) := (blk_cell BK208.out 1).trans rfl; have hcz29_2 : w27.cell? ⟨gb208, 2, none⟩ = some (.int .i64 x209002_1) := (blk_cell BK208.out 2).trans rfl; have hcz29_3 : w27.cell? ⟨gb208, 3, none⟩ = some (.int .i64 x209003_1) := (blk_cell BK208.out 3).trans rfl; have hfz29_0 := blk_frozen BK208.out 0; have hfz29_1 := blk_frozen BK208.out 1; have hfz29_2 := blk_frozen BK208.out 2; have hfz29_3 := blk_frozen BK208.out 3))
                  go_roundg k1
                  case measure => have := HK1.out; omega
                  case rel => exact ⟨(wrap64 (x19_1 + 1)), (t212), (x209001_1), (x209002_1), (x209003_1), (by first | rfl | (simp; done) | (simp [*]; done) | (exact congrArg (Value.int .i64) (wrap_eq (by omega)))), H', ⟨by have := HK1.out; omega⟩, ⟨by (with_reducible repeat (first | refine blk_drewN ?_ _ | refine blk_drew ?_ | refine blk_alloc ?_ _)); refine blk_far ?_ NB204_208.out _; (with_reducible repeat (first | refine blk_drewN ?_ _ | refine blk_drew ?_ | refine blk_alloc ?_ _)); exact BK204.out⟩, ⟨by (with_reducible repeat (first | refine blk_drewN ?_ _ | refine blk_drew ?_ | refine blk_alloc ?_ _)); refine blk_far ?_ NB205_208.out _; (with_reducible repeat (first | refine blk_drewN ?_ _ | refine blk_drew ?_ | refine blk_alloc ?_ _)); exact BK205.out⟩, ⟨by (with_reducible repeat (first | refine blk_drewN ?_ _ | refine blk_drew ?_ | refine blk_alloc ?_ _)); refine blk_put (cs := #[.int .i64 x209000_1, .int .i64 x209001_1, .int .i64 x209002_1, .int .i64 x209003_1]) ?_ 0 _ rfl; (with_reducible repeat (first | refine blk_drewN ?_ _ | refine blk_drew ?_ | refine blk_alloc ?_ _)); exact BK208.out⟩, ⟨by repeat (first | (with_reducible first | exact HB.out | apply below_alloc | apply pw_below_drewN | apply below_drew1 | refine below_set ?_ GE204.out | refine below_set ?_ GE205.out | refine below_set ?_ GE208.out) | exact HB.out)⟩⟩
                · rw [if_neg c21] at H
                  clear c21
                  by_cases c30 : x19_1 = 1
                  · rw [if_pos c30] at H
                    have Ac30 : Aside0 (x19_1 = 1) := ⟨c30⟩
                    clear c30
                    have ar31e : x19_1 = 1 := by first | exact (show Aside0 (x19_1 = 1) by assumption).out | exact beq_iff_eq.mp (by assumption) | omega
                    have ar31n : (x19_1).toNat = 1 := by rw [ar31e]; rfl
                    have ar31l : decide (0 ≤ x19_1) = true := decide_eq_true (by omega)
                    have ar31L := eq_true (of_decide_eq_true ar31l)
                    have ar31h : decide (x19_1 < 4) = true := decide_eq_true (by omega)
                    have ar31H := eq_true (of_decide_eq_true ar31h)
                    clear ar31e
                    have H' := Aside0.mk H
                    clear H
                    have hnb32 := NB204_205.out
                    have hnc32 := NB205_204.out
                    have hnb33 := NB204_208.out
                    have hnc33 := NB208_204.out
                    have hcz34_0 : wr.cell? ⟨gb204, 0, none⟩ = some (.int .i8 a0_0) := (blk_cell BK204.out 0).trans rfl
                    have hcz34_1 : wr.cell? ⟨gb204, 1, none⟩ = some (.int .i8 a0_1) := (blk_cell BK204.out 1).trans rfl
                    have hcz34_2 : wr.cell? ⟨gb204, 2, none⟩ = some (.slice A0_2 l0_2.length c0_2) := (blk_cell BK204.out 2).trans rfl
                    have hfz34_0 := blk_frozen BK204.out 0
                    have hfz34_1 := blk_frozen BK204.out 1
                    have hfz34_2 := blk_frozen BK204.out 2
                    have p209 : 0 ≤ (a1 : Int) := of_decide_eq_true (by first | (with_reducible assumption) | assumption)
                    have q209 : a1 < (l0_2.length : Int) := of_decide_eq_true (by first | (with_reducible assumption) | assumption)
                    obtain ⟨ad209, e209, hx209_0, hx209_1, hx209_2, hx209_3, hx209_4⟩ := at_T91 HR0_2.out a1 p209 q209
                    cases e209
                    replace hx209_0 := (HB.out.cell (World.block_lt_of_cell? w _ hx209_0)).trans hx209_0
                    replace hx209_1 := (HB.out.cell (World.block_lt_of_cell? w _ hx209_1)).trans hx209_1
                    replace hx209_2 := (HB.out.cell (World.block_lt_of_cell? w _ hx209_2)).trans hx209_2
                    replace hx209_3 := (HB.out.cell (World.block_lt_of_cell? w _ hx209_3)).trans hx209_3
                    replace hx209_4 := (HB.out.cell (World.block_lt_of_cell? w _ hx209_4)).trans hx209_4
                    replace p209 := eq_true p209
                    replace q209 := eq_true q209
                    go_wp2_with (first | ((with_reducible refine gate_callee (f := 122) rfl ?_); refine goesL_ (some 30) rfl rfl Try.func122 (by kernel_rfl) rfl #[.agg #[.int .i8 ((rd_T91 l0_2 a1).f0.f0), .int .i8 ((rd_T91 l0_2 a1).f0.f1)], .int .i64 x19_1] rfl (by (try simp only [List.map_toArray, List.map_cons, List.map_nil]); first | done | rfl | (simp only [List.length_drop, List.length_take]; rfl)) ?_; (with_reducible refine (impl_Cell_next.calls ((rd_T91 l0_2 a1).f0.f0) ((rd_T91 l0_2 a1).f0.f1) x19_1 t210 t211 _ A19.out).mono ?_); rintro e w35 ⟨rfl, hb⟩; refine ⟨_, rfl, ?_⟩; have n0_ := Aside0.mk (blk_below (g := gb204) (o := .cells #[.int .i8 a0_0, .int .i8 a0_1, .slice (some ad209) l0_2.length c0_2] 37 (0, 0)) (by (with_reducible repeat (first | refine blk_drewN ?_ _ | refine blk_drew ?_ | refine blk_alloc ?_ _)); exact BK204.out) hb); have n1_ := Aside0.mk (blk_below (g := gb205) (o := .cells #[.int .i64 0, .int .i64 0, .int .i64 0, .int .i64 0] 77 (0, 0)) (by (with_reducible repeat (first | refine blk_drewN ?_ _ | refine blk_drew ?_ | refine blk_alloc ?_ _)); exact BK205.out) hb); have n2_ := Aside0.mk (blk_below (g := gb208) (o := .cells #[.int .i64 x209000_1, .int .i64 x209001_1, .int .i64 x209002_1, .int .i64 x209003_1] 77 (0, 0)) (by (with_reducible repeat (first | refine blk_drewN ?_ _ | refine blk_drew ?_ | refine blk_alloc ?_ _)); exact BK208.out) hb); have n3_ := Aside0.mk (below_step (by repeat (first | (with_reducible first | exact HB.out | apply below_alloc | apply pw_below_drewN | apply below_drew1 | refine below_set ?_ GE204.out | refine below_set ?_ GE205.out | refine below_set ?_ GE208.out) | exact HB.out)) hb); clear BK204; clear BK205; clear BK208; clear HB; have BK204 := n0_; have BK205 := n1_; have BK208 := n2_; have HB := n3_; clear n0_ n1_ n2_ n3_; (try clear hb); (try clear hb2); (try clear hk); (try clear hi)) | ((with_reducible refine gate_callee (f := 119) rfl ?_); refine goesL_ (some 31) rfl rfl Try.func119 (by kernel_rfl) rfl #[.pointer (some ⟨gb204, 0, none⟩), .agg #[.int .i8 t210, .int .i8 t211]] rfl (by (try simp only [List.map_toArray, List.map_cons, List.map_nil]); first | done | rfl | (simp only [List.length_drop, List.length_take]; rfl)) ?_; (with_reducible refine (impl_Board_at.calls k1 _ [(⟨a0_0, a0_1, l0_2⟩ : S37)] t210 t211 t212 _ ?side1 A20.out).mono ?_); (case side1 => refine ro_of_blk (T := 37) (cs := #[.int .i8 a0_0, .int .i8 a0_1, .slice (some ad209) l0_2.length c0_2]) (by (with_reducible repeat (first | refine blk_drewN ?_ _ | refine blk_drew ?_ | refine blk_alloc ?_ _)); exact BK204.out) ?_; exact k37_mk _ (⟨a0_0, a0_1, l0_2⟩ : S37) (by exact HC0_2.out) (by repeat (first | exact (Kd.C_below HR0_2.out HB.out) | (with_reducible refine Kd.C_alloc ?_ _) | (with_reducible refine Kd.C_drewN ?_ _) | (with_reducible refine Kd.C_drew ?_)))); rintro e w36 ⟨rfl, hb⟩; refine ⟨_, rfl, ?_⟩; have n0_ := Aside0.mk (blk_below (g := gb204) (o := .cells #[.int .i8 a0_0, .int .i8 a0_1, .slice (some ad209) l0_2.length c0_2] 37 (0, 0)) (by (with_reducible repeat (first | refine blk_drewN ?_ _ | refine blk_drew ?_ | refine blk_alloc ?_ _)); exact BK204.out) hb); have n1_ := Aside0.mk (blk_below (g := gb205) (o := .cells #[.int .i64 0, .int .i64 0, .int .i64 0, .int .i64 0] 77 (0, 0)) (by (with_reducible repeat (first | refine blk_drewN ?_ _ | refine blk_drew ?_ | refine blk_alloc ?_ _)); exact BK205.out) hb); have n2_ := Aside0.mk (blk_below (g := gb208) (o := .cells #[.int .i64 x209000_1, .int .i64 x209001_1, .int .i64 x209002_1, .int .i64 x209003_1] 77 (0, 0)) (by (with_reducible repeat (first | refine blk_drewN ?_ _ | refine blk_drew ?_ | refine blk_alloc ?_ _)); exact BK208.out) hb); have n3_ := Aside0.mk (below_step (by repeat (first | (with_reducible first | exact HB.out | apply below_alloc | apply pw_below_drewN | apply below_drew1 | refine below_set ?_ GE204.out | refine below_set ?_ GE205.out | refine below_set ?_ GE208.out) | exact HB.out)) hb); clear BK204; clear BK205; clear BK208; clear HB; have BK204 := n0_; have BK205 := n1_; have BK208 := n2_; have HB := n3_; clear n0_ n1_ n2_ n3_; (try clear hb); (try clear hb2); (try clear hk); (try clear hi); have hnb37 := NB208_205.out; have hnc37 := NB205_208.out; have hcz38_0 : w36.cell? ⟨gb208, 0, none⟩ = some (.int .i64 x209000_1) := (blk_cell BK208.out 0).trans rfl; have hcz38_1 : w36.cell? ⟨gb208, 1, none⟩ = some (.int .i64 x209001_1) := (blk_cell BK208.out 1).trans rfl; have hcz38_2 : w36.cell? ⟨gb208, 2, none⟩ = some (.int .i64 x209002_1) := (blk_cell BK208.out 2).trans rfl; have hcz38_3 : w36.cell? ⟨gb208, 3, none⟩ = some (.int .i64 x209003_1) := (blk_cell BK208.out 3).trans rfl; have hfz38_0 := blk_frozen BK208.out 0; have hfz38_1 := blk_frozen BK208.out 1; have hfz38_2 := blk_frozen BK208.out 2; have hfz38_3 := blk_frozen BK208.out 3))
                    go_roundg k1
                    case measure => have := HK1.out; omega
                    case rel => exact ⟨(wrap64 (x19_1 + 1)), (x209000_1), (t212), (x209002_1), (x209003_1), (by first | rfl | (simp; done) | (simp [*]; done) | (exact congrArg (Value.int .i64) (wrap_eq (by omega)))), H', ⟨by have := HK1.out; omega⟩, ⟨by (with_reducible repeat (first | refine blk_drewN ?_ _ | refine blk_drew ?_ | refine blk_alloc ?_ _)); refine blk_far ?_ NB204_208.out _; (with_reducible repeat (first | refine blk_drewN ?_ _ | refine blk_drew ?_ | refine blk_alloc ?_ _)); exact BK204.out⟩, ⟨by (with_reducible repeat (first | refine blk_drewN ?_ _ | refine blk_drew ?_ | refine blk_alloc ?_ _)); refine blk_far ?_ NB205_208.out _; (with_reducible repeat (first | refine blk_drewN ?_ _ | refine blk_drew ?_ | refine blk_alloc ?_ _)); exact BK205.out⟩, ⟨by (with_reducible repeat (first | refine blk_drewN ?_ _ | refine blk_drew ?_ | refine blk_alloc ?_ _)); refine blk_put (cs := #[.int .i64 x209000_1, .int .i64 x209001_1, .int .i64 x209002_1, .int .i64 x209003_1]) ?_ 1 _ rfl; (with_reducible repeat (first | refine blk_drewN ?_ _ | refine blk_drew ?_ | refine blk_alloc ?_ _)); exact BK208.out⟩, ⟨by repeat (first | (with_reducible first | exact HB.out | apply below_alloc | apply pw_below_drewN | apply below_drew1 | refine below_set ?_ GE204.out | refine below_set ?_ GE205.out | refine below_set ?_ GE208.out) | exact HB.out)⟩⟩
                  · rw [if_neg c30] at H
                    clear c30
                    by_cases c39 : x19_1 = 2
                    · rw [if_pos c39] at H
                      have Ac39 : Aside0 (x19_1 = 2) := ⟨c39⟩
                      clear c39
                      have ar40e : x19_1 = 2 := by first | exact (show Aside0 (x19_1 = 2) by assumption).out | exact beq_iff_eq.mp (by assumption) | omega
                      have ar40n : (x19_1).toNat = 2 := by rw [ar40e]; rfl
                      have ar40l : decide (0 ≤ x19_1) = true := decide_eq_true (by omega)
                      have ar40L := eq_true (of_decide_eq_true ar40l)
                      have ar40h : decide (x19_1 < 4) = true := decide_eq_true (by omega)
                      have ar40H := eq_true (of_decide_eq_true ar40h)
                      clear ar40e
                      have H' := Aside0.mk H
                      clear H
                      have hnb41 := NB204_205.out
                      have hnc41 := NB205_204.out
                      have hnb42 := NB204_208.out
                      have hnc42 := NB208_204.out
                      have hcz43_0 : wr.cell? ⟨gb204, 0, none⟩ = some (.int .i8 a0_0) := (blk_cell BK204.out 0).trans rfl
                      have hcz43_1 : wr.cell? ⟨gb204, 1, none⟩ = some (.int .i8 a0_1) := (blk_cell BK204.out 1).trans rfl
                      have hcz43_2 : wr.cell? ⟨gb204, 2, none⟩ = some (.slice A0_2 l0_2.length c0_2) := (blk_cell BK204.out 2).trans rfl
                      have hfz43_0 := blk_frozen BK204.out 0
                      have hfz43_1 := blk_frozen BK204.out 1
                      have hfz43_2 := blk_frozen BK204.out 2
                      have p209 : 0 ≤ (a1 : Int) := of_decide_eq_true (by first | (with_reducible assumption) | assumption)
                      have q209 : a1 < (l0_2.length : Int) := of_decide_eq_true (by first | (with_reducible assumption) | assumption)
                      obtain ⟨ad209, e209, hx209_0, hx209_1, hx209_2, hx209_3, hx209_4⟩ := at_T91 HR0_2.out a1 p209 q209
                      cases e209
                      replace hx209_0 := (HB.out.cell (World.block_lt_of_cell? w _ hx209_0)).trans hx209_0
                      replace hx209_1 := (HB.out.cell (World.block_lt_of_cell? w _ hx209_1)).trans hx209_1
                      replace hx209_2 := (HB.out.cell (World.block_lt_of_cell? w _ hx209_2)).trans hx209_2
                      replace hx209_3 := (HB.out.cell (World.block_lt_of_cell? w _ hx209_3)).trans hx209_3
                      replace hx209_4 := (HB.out.cell (World.block_lt_of_cell? w _ hx209_4)).trans hx209_4
                      replace p209 := eq_true p209
                      replace q209 := eq_true q209
                      go_wp2_with (first | ((with_reducible refine gate_callee (f := 122) rfl ?_); refine goesL_ (some 30) rfl rfl Try.func122 (by kernel_rfl) rfl #[.agg #[.int .i8 ((rd_T91 l0_2 a1).f0.f0), .int .i8 ((rd_T91 l0_2 a1).f0.f1)], .int .i64 x19_1] rfl (by (try simp only [List.map_toArray, List.map_cons, List.map_nil]); first | done | rfl | (simp only [List.length_drop, List.length_take]; rfl)) ?_; (with_reducible refine (impl_Cell_next.calls ((rd_T91 l0_2 a1).f0.f0) ((rd_T91 l0_2 a1).f0.f1) x19_1 t210 t211 _ A19.out).mono ?_); rintro e w44 ⟨rfl, hb⟩; refine ⟨_, rfl, ?_⟩; have n0_ := Aside0.mk (blk_below (g := gb204) (o := .cells #[.int .i8 a0_0, .int .i8 a0_1, .slice (some ad209) l0_2.length c0_2] 37 (0, 0)) (by (with_reducible repeat (first | refine blk_drewN ?_ _ | refine blk_drew ?_ | refine blk_alloc ?_ _)); exact BK204.out) hb); have n1_ := Aside0.mk (blk_below (g := gb205) (o := .cells #[.int .i64 0, .int .i64 0, .int .i64 0, .int .i64 0] 77 (0, 0)) (by (with_reducible repeat (first | refine blk_drewN ?_ _ | refine blk_drew ?_ | refine blk_alloc ?_ _)); exact BK205.out) hb); have n2_ := Aside0.mk (blk_below (g := gb208) (o := .cells #[.int .i64 x209000_1, .int .i64 x209001_1, .int .i64 x209002_1, .int .i64 x209003_1] 77 (0, 0)) (by (with_reducible repeat (first | refine blk_drewN ?_ _ | refine blk_drew ?_ | refine blk_alloc ?_ _)); exact BK208.out) hb); have n3_ := Aside0.mk (below_step (by repeat (first | (with_reducible first | exact HB.out | apply below_alloc | apply pw_below_drewN | apply below_drew1 | refine below_set ?_ GE204.out | refine below_set ?_ GE205.out | refine below_set ?_ GE208.out) | exact HB.out)) hb); clear BK204; clear BK205; clear BK208; clear HB; have BK204 := n0_; have BK205 := n1_; have BK208 := n2_; have HB := n3_; clear n0_ n1_ n2_ n3_; (try clear hb); (try clear hb2); (try clear hk); (try clear hi)) | ((with_reducible refine gate_callee (f := 119) rfl ?_); refine goesL_ (some 31) rfl rfl Try.func119 (by kernel_rfl) rfl #[.pointer (some ⟨gb204, 0, none⟩), .agg #[.int .i8 t210, .int .i8 t211]] rfl (by (try simp only [List.map_toArray, List.map_cons, List.map_nil]); first | done | rfl | (simp only [List.length_drop, List.length_take]; rfl)) ?_; (with_reducible refine (impl_Board_at.calls k1 _ [(⟨a0_0, a0_1, l0_2⟩ : S37)] t210 t211 t212 _ ?side1 A20.out).mono ?_); (case side1 => refine ro_of_blk (T := 37) (cs := #[.int .i8 a0_0, .int .i8 a0_1, .slice (some ad209) l0_2.length c0_2]) (by (with_reducible repeat (first | refine blk_drewN ?_ _ | refine blk_drew ?_ | refine blk_alloc ?_ _)); exact BK204.out) ?_; exact k37_mk _ (⟨a0_0, a0_1, l0_2⟩ : S37) (by exact HC0_2.out) (by repeat (first | exact (Kd.C_below HR0_2.out HB.out) | (with_reducible refine Kd.C_alloc ?_ _) | (with_reducible refine Kd.C_drewN ?_ _) | (with_reducible refine Kd.C_drew ?_)))); rintro e w45 ⟨rfl, hb⟩; refine ⟨_, rfl, ?_⟩; have n0_ := Aside0.mk (blk_below (g := gb204) (o := .cells #[.int .i8 a0_0, .int .i8 a0_1, .slice (some ad209) l0_2.length c0_2] 37 (0, 0)) (by (with_reducible repeat (first | refine blk_drewN ?_ _ | refine blk_drew ?_ | refine blk_alloc ?_ _)); exact BK204.out) hb); have n1_ := Aside0.mk (blk_below (g := gb205) (o := .cells #[.int .i64 0, .int .i64 0, .int .i64 0, .int .i64 0] 77 (0, 0)) (by (with_reducible repeat (first | refine blk_drewN ?_ _ | refine blk_drew ?_ | refine blk_alloc ?_ _)); exact BK205.out) hb); have n2_ := Aside0.mk (blk_below (g := gb208) (o := .cells #[.int .i64 x209000_1, .int .i64 x209001_1, .int .i64 x209002_1, .int .i64 x209003_1] 77 (0, 0)) (by (with_reducible repeat (first | refine blk_drewN ?_ _ | refine blk_drew ?_ | refine blk_alloc ?_ _)); exact BK208.out) hb); have n3_ := Aside0.mk (below_step (by repeat (first | (with_reducible first | exact HB.out | apply below_alloc | apply pw_below_drewN | apply below_drew1 | refine below_set ?_ GE204.out | refine below_set ?_ GE205.out | refine below_set ?_ GE208.out) | exact HB.out)) hb); clear BK204; clear BK205; clear BK208; clear HB; have BK204 := n0_; have BK205 := n1_; have BK208 := n2_; have HB := n3_; clear n0_ n1_ n2_ n3_; (try clear hb); (try clear hb2); (try clear hk); (try clear hi); have hnb46 := NB208_205.out; have hnc46 := NB205_208.out; have hcz47_0 : w45.cell? ⟨gb208, 0, none⟩ = some (.int .i64 x209000_1) := (blk_cell BK208.out 0).trans rfl; have hcz47_1 : w45.cell? ⟨gb208, 1, none⟩ = some (.int .i64 x209001_1) := (blk_cell BK208.out 1).trans rfl; have hcz47_2 : w45.cell? ⟨gb208, 2, none⟩ = some (.int .i64 x209002_1) := (blk_cell BK208.out 2).trans rfl; have hcz47_3 : w45.cell? ⟨gb208, 3, none⟩ = some (.int .i64 x209003_1) := (blk_cell BK208.out 3).trans rfl; have hfz47_0 := blk_frozen BK208.out 0; have hfz47_1 := blk_frozen BK208.out 1; have hfz47_2 := blk_frozen BK208.out 2; have hfz47_3 := blk_frozen BK208.out 3))
                      go_roundg k1
                      case measure => have := HK1.out; omega
                      case rel => exact ⟨(wrap64 (x19_1 + 1)), (x209000_1), (x209001_1), (t212), (x209003_1), (by first | rfl | (simp; done) | (simp [*]; done) | (exact congrArg (Value.int .i64) (wrap_eq (by omega)))), H', ⟨by have := HK1.out; omega⟩, ⟨by (with_reducible repeat (first | refine blk_drewN ?_ _ | refine blk_drew ?_ | refine blk_alloc ?_ _)); refine blk_far ?_ NB204_208.out _; (with_reducible repeat (first | refine blk_drewN ?_ _ | refine blk_drew ?_ | refine blk_alloc ?_ _)); exact BK204.out⟩, ⟨by (with_reducible repeat (first | refine blk_drewN ?_ _ | refine blk_drew ?_ | refine blk_alloc ?_ _)); refine blk_far ?_ NB205_208.out _; (with_reducible repeat (first | refine blk_drewN ?_ _ | refine blk_drew ?_ | refine blk_alloc ?_ _)); exact BK205.out⟩, ⟨by (with_reducible repeat (first | refine blk_drewN ?_ _ | refine blk_drew ?_ | refine blk_alloc ?_ _)); refine blk_put (cs := #[.int .i64 x209000_1, .int .i64 x209001_1, .int .i64 x209002_1, .int .i64 x209003_1]) ?_ 2 _ rfl; (with_reducible repeat (first | refine blk_drewN ?_ _ | refine blk_drew ?_ | refine blk_alloc ?_ _)); exact BK208.out⟩, ⟨by repeat (first | (with_reducible first | exact HB.out | apply below_alloc | apply pw_below_drewN | apply below_drew1 | refine below_set ?_ GE204.out | refine below_set ?_ GE205.out | refine below_set ?_ GE208.out) | exact HB.out)⟩⟩
                    · rw [if_neg c39] at H
                      clear c39
                      by_cases c48 : x19_1 = 3
                      · rw [if_pos c48] at H
                        have Ac48 : Aside0 (x19_1 = 3) := ⟨c48⟩
                        clear c48
                        have ar49e : x19_1 = 3 := by first | exact (show Aside0 (x19_1 = 3) by assumption).out | exact beq_iff_eq.mp (by assumption) | omega
                        have ar49n : (x19_1).toNat = 3 := by rw [ar49e]; rfl
                        have ar49l : decide (0 ≤ x19_1) = true := decide_eq_true (by omega)
                        have ar49L := eq_true (of_decide_eq_true ar49l)
                        have ar49h : decide (x19_1 < 4) = true := decide_eq_true (by omega)
                        have ar49H := eq_true (of_decide_eq_true ar49h)
                        clear ar49e
                        have H' := Aside0.mk H
                        clear H
                        have hnb50 := NB204_205.out
                        have hnc50 := NB205_204.out
                        have hnb51 := NB204_208.out
                        have hnc51 := NB208_204.out
                        have hcz52_0 : wr.cell? ⟨gb204, 0, none⟩ = some (.int .i8 a0_0) := (blk_cell BK204.out 0).trans rfl
                        have hcz52_1 : wr.cell? ⟨gb204, 1, none⟩ = some (.int .i8 a0_1) := (blk_cell BK204.out 1).trans rfl
                        have hcz52_2 : wr.cell? ⟨gb204, 2, none⟩ = some (.slice A0_2 l0_2.length c0_2) := (blk_cell BK204.out 2).trans rfl
                        have hfz52_0 := blk_frozen BK204.out 0
                        have hfz52_1 := blk_frozen BK204.out 1
                        have hfz52_2 := blk_frozen BK204.out 2
                        have p209 : 0 ≤ (a1 : Int) := of_decide_eq_true (by first | (with_reducible assumption) | assumption)
                        have q209 : a1 < (l0_2.length : Int) := of_decide_eq_true (by first | (with_reducible assumption) | assumption)
                        obtain ⟨ad209, e209, hx209_0, hx209_1, hx209_2, hx209_3, hx209_4⟩ := at_T91 HR0_2.out a1 p209 q209
                        cases e209
                        replace hx209_0 := (HB.out.cell (World.block_lt_of_cell? w _ hx209_0)).trans hx209_0
                        replace hx209_1 := (HB.out.cell (World.block_lt_of_cell? w _ hx209_1)).trans hx209_1
                        replace hx209_2 := (HB.out.cell (World.block_lt_of_cell? w _ hx209_2)).trans hx209_2
                        replace hx209_3 := (HB.out.cell (World.block_lt_of_cell? w _ hx209_3)).trans hx209_3
                        replace hx209_4 := (HB.out.cell (World.block_lt_of_cell? w _ hx209_4)).trans hx209_4
                        replace p209 := eq_true p209
                        replace q209 := eq_true q209
                        go_wp2_with (first | ((with_reducible refine gate_callee (f := 122) rfl ?_); refine goesL_ (some 30) rfl rfl Try.func122 (by kernel_rfl) rfl #[.agg #[.int .i8 ((rd_T91 l0_2 a1).f0.f0), .int .i8 ((rd_T91 l0_2 a1).f0.f1)], .int .i64 x19_1] rfl (by (try simp only [List.map_toArray, List.map_cons, List.map_nil]); first | done | rfl | (simp only [List.length_drop, List.length_take]; rfl)) ?_; (with_reducible refine (impl_Cell_next.calls ((rd_T91 l0_2 a1).f0.f0) ((rd_T91 l0_2 a1).f0.f1) x19_1 t210 t211 _ A19.out).mono ?_); rintro e w53 ⟨rfl, hb⟩; refine ⟨_, rfl, ?_⟩; have n0_ := Aside0.mk (blk_below (g := gb204) (o := .cells #[.int .i8 a0_0, .int .i8 a0_1, .slice (some ad209) l0_2.length c0_2] 37 (0, 0)) (by (with_reducible repeat (first | refine blk_drewN ?_ _ | refine blk_drew ?_ | refine blk_alloc ?_ _)); exact BK204.out) hb); have n1_ := Aside0.mk (blk_below (g := gb205) (o := .cells #[.int .i64 0, .int .i64 0, .int .i64 0, .int .i64 0] 77 (0, 0)) (by (with_reducible repeat (first | refine blk_drewN ?_ _ | refine blk_drew ?_ | refine blk_alloc ?_ _)); exact BK205.out) hb); have n2_ := Aside0.mk (blk_below (g := gb208) (o := .cells #[.int .i64 x209000_1, .int .i64 x209001_1, .int .i64 x209002_1, .int .i64 x209003_1] 77 (0, 0)) (by (with_reducible repeat (first | refine blk_drewN ?_ _ | refine blk_drew ?_ | refine blk_alloc ?_ _)); exact BK208.out) hb); have n3_ := Aside0.mk (below_step (by repeat (first | (with_reducible first | exact HB.out | apply below_alloc | apply pw_below_drewN | apply below_drew1 | refine below_set ?_ GE204.out | refine below_set ?_ GE205.out | refine below_set ?_ GE208.out) | exact HB.out)) hb); clear BK204; clear BK205; clear BK208; clear HB; have BK204 := n0_; have BK205 := n1_; have BK208 := n2_; have HB := n3_; clear n0_ n1_ n2_ n3_; (try clear hb); (try clear hb2); (try clear hk); (try clear hi)) | ((with_reducible refine gate_callee (f := 119) rfl ?_); refine goesL_ (some 31) rfl rfl Try.func119 (by kernel_rfl) rfl #[.pointer (some ⟨gb204, 0, none⟩), .agg #[.int .i8 t210, .int .i8 t211]] rfl (by (try simp only [List.map_toArray, List.map_cons, List.map_nil]); first | done | rfl | (simp only [List.length_drop, List.length_take]; rfl)) ?_; (with_reducible refine (impl_Board_at.calls k1 _ [(⟨a0_0, a0_1, l0_2⟩ : S37)] t210 t211 t212 _ ?side1 A20.out).mono ?_); (case side1 => refine ro_of_blk (T := 37) (cs := #[.int .i8 a0_0, .int .i8 a0_1, .slice (some ad209) l0_2.length c0_2]) (by (with_reducible repeat (first | refine blk_drewN ?_ _ | refine blk_drew ?_ | refine blk_alloc ?_ _)); exact BK204.out) ?_; exact k37_mk _ (⟨a0_0, a0_1, l0_2⟩ : S37) (by exact HC0_2.out) (by repeat (first | exact (Kd.C_below HR0_2.out HB.out) | (with_reducible refine Kd.C_alloc ?_ _) | (with_reducible refine Kd.C_drewN ?_ _) | (with_reducible refine Kd.C_drew ?_)))); rintro e w54 ⟨rfl, hb⟩; refine ⟨_, rfl, ?_⟩; have n0_ := Aside0.mk (blk_below (g := gb204) (o := .cells #[.int .i8 a0_0, .int .i8 a0_1, .slice (some ad209) l0_2.length c0_2] 37 (0, 0)) (by (with_reducible repeat (first | refine blk_drewN ?_ _ | refine blk_drew ?_ | refine blk_alloc ?_ _)); exact BK204.out) hb); have n1_ := Aside0.mk (blk_below (g := gb205) (o := .cells #[.int .i64 0, .int .i64 0, .int .i64 0, .int .i64 0] 77 (0, 0)) (by (with_reducible repeat (first | refine blk_drewN ?_ _ | refine blk_drew ?_ | refine blk_alloc ?_ _)); exact BK205.out) hb); have n2_ := Aside0.mk (blk_below (g := gb208) (o := .cells #[.int .i64 x209000_1, .int .i64 x209001_1, .int .i64 x209002_1, .int .i64 x209003_1] 77 (0, 0)) (by (with_reducible repeat (first | refine blk_drewN ?_ _ | refine blk_drew ?_ | refine blk_alloc ?_ _)); exact BK208.out) hb); have n3_ := Aside0.mk (below_step (by repeat (first | (with_reducible first | exact HB.out | apply below_alloc | apply pw_below_drewN | apply below_drew1 | refine below_set ?_ GE204.out | refine below_set ?_ GE205.out | refine below_set ?_ GE208.out) | exact HB.out)) hb); clear BK204; clear BK205; clear BK208; clear HB; have BK204 := n0_; have BK205 := n1_; have BK208 := n2_; have HB := n3_; clear n0_ n1_ n2_ n3_; (try clear hb); (try clear hb2); (try clear hk); (try clear hi); have hnb55 := NB208_205.out; have hnc55 := NB205_208.out; have hcz56_0 : w54.cell? ⟨gb208, 0, none⟩ = some (.int .i64 x209000_1) := (blk_cell BK208.out 0).trans rfl; have hcz56_1 : w54.cell? ⟨gb208, 1, none⟩ = some (.int .i64 x209001_1) := (blk_cell BK208.out 1).trans rfl; have hcz56_2 : w54.cell? ⟨gb208, 2, none⟩ = some (.int .i64 x209002_1) := (blk_cell BK208.out 2).trans rfl; have hcz56_3 : w54.cell? ⟨gb208, 3, none⟩ = some (.int .i64 x209003_1) := (blk_cell BK208.out 3).trans rfl; have hfz56_0 := blk_frozen BK208.out 0; have hfz56_1 := blk_frozen BK208.out 1; have hfz56_2 := blk_frozen BK208.out 2; have hfz56_3 := blk_frozen BK208.out 3))
                        go_roundg k1
                        case measure => have := HK1.out; omega
                        case rel => exact ⟨(wrap64 (x19_1 + 1)), (x209000_1), (x209001_1), (x209002_1), (t212), (by first | rfl | (simp; done) | (simp [*]; done) | (exact congrArg (Value.int .i64) (wrap_eq (by omega)))), H', ⟨by have := HK1.out; omega⟩, ⟨by (with_reducible repeat (first | refine blk_drewN ?_ _ | refine blk_drew ?_ | refine blk_alloc ?_ _)); refine blk_far ?_ NB204_208.out _; (with_reducible repeat (first | refine blk_drewN ?_ _ | refine blk_drew ?_ | refine blk_alloc ?_ _)); exact BK204.out⟩, ⟨by (with_reducible repeat (first | refine blk_drewN ?_ _ | refine blk_drew ?_ | refine blk_alloc ?_ _)); refine blk_far ?_ NB205_208.out _; (with_reducible repeat (first | refine blk_drewN ?_ _ | refine blk_drew ?_ | refine blk_alloc ?_ _)); exact BK205.out⟩, ⟨by (with_reducible repeat (first | refine blk_drewN ?_ _ | refine blk_drew ?_ | refine blk_alloc ?_ _)); refine blk_put (cs := #[.int .i64 x209000_1, .int .i64 x209001_1, .int .i64 x209002_1, .int .i64 x209003_1]) ?_ 3 _ rfl; (with_reducible repeat (first | refine blk_drewN ?_ _ | refine blk_drew ?_ | refine blk_alloc ?_ _)); exact BK208.out⟩, ⟨by repeat (first | (with_reducible first | exact HB.out | apply below_alloc | apply pw_below_drewN | apply below_drew1 | refine below_set ?_ GE204.out | refine below_set ?_ GE205.out | refine below_set ?_ GE208.out) | exact HB.out)⟩⟩
                      · rw [if_neg c48] at H
                        exact absurd H (by simp)
              · rw [if_neg c18] at H
                exact absurd H (by simp)
            · rw [if_neg c17] at H
              exact absurd H (by simp)
          · rw [if_neg c16] at H
            have c16b0 : decide (x19_1 < 4) = false := decide_eq_false c16
            clear c16
            simp only [Option.some.injEq, Prod.mk.injEq] at H
            obtain ⟨rfl, rfl, rfl, rfl, rfl⟩ := H
            have hnb57 := NB208_204.out
            have hnc57 := NB204_208.out
            have hnb58 := NB208_205.out
            have hnc58 := NB205_208.out
            have hcz59_0 : wr.cell? ⟨gb208, 0, none⟩ = some (.int .i64 x209000_1) := (blk_cell BK208.out 0).trans rfl
            have hcz59_1 : wr.cell? ⟨gb208, 1, none⟩ = some (.int .i64 x209001_1) := (blk_cell BK208.out 1).trans rfl
            have hcz59_2 : wr.cell? ⟨gb208, 2, none⟩ = some (.int .i64 x209002_1) := (blk_cell BK208.out 2).trans rfl
            have hcz59_3 : wr.cell? ⟨gb208, 3, none⟩ = some (.int .i64 x209003_1) := (blk_cell BK208.out 3).trans rfl
            have hfz59_0 := blk_frozen BK208.out 0
            have hfz59_1 := blk_frozen BK208.out 1
            have hfz59_2 := blk_frozen BK208.out 2
            have hfz59_3 := blk_frozen BK208.out 3
            have hnb60 := NB205_204.out
            have hnc60 := NB204_205.out
            have hcz61_0 : wr.cell? ⟨gb205, 0, none⟩ = some (.int .i64 0) := (blk_cell BK205.out 0).trans rfl
            have hcz61_1 : wr.cell? ⟨gb205, 1, none⟩ = some (.int .i64 0) := (blk_cell BK205.out 1).trans rfl
            have hcz61_2 : wr.cell? ⟨gb205, 2, none⟩ = some (.int .i64 0) := (blk_cell BK205.out 2).trans rfl
            have hcz61_3 : wr.cell? ⟨gb205, 3, none⟩ = some (.int .i64 0) := (blk_cell BK205.out 3).trans rfl
            have hfz61_0 := blk_frozen BK205.out 0
            have hfz61_1 := blk_frozen BK205.out 1
            have hfz61_2 := blk_frozen BK205.out 2
            have hfz61_3 := blk_frozen BK205.out 3
            go_wp2
            refine bodyPost_ret (results_ct rfl _ _ gb205 77 #[.int .i64 x209000_1, .int .i64 x209001_1, .int .i64 x209002_1, .int .i64 x209003_1] (0, 0) _ rfl (by (with_reducible repeat (first | refine blk_drewN ?_ _ | refine blk_drew ?_ | refine blk_alloc ?_ _)); refine blk_put (cs := #[.int .i64 x209000_1, .int .i64 x209001_1, .int .i64 x209002_1, .int .i64 0]) ?_ 3 _ rfl; (with_reducible repeat (first | refine blk_drewN ?_ _ | refine blk_drew ?_ | refine blk_alloc ?_ _)); refine blk_put (cs := #[.int .i64 x209000_1, .int .i64 x209001_1, .int .i64 0, .int .i64 0]) ?_ 2 _ rfl; (with_reducible repeat (first | refine blk_drewN ?_ _ | refine blk_drew ?_ | refine blk_alloc ?_ _)); refine blk_put (cs := #[.int .i64 x209000_1, .int .i64 0, .int .i64 0, .int .i64 0]) ?_ 1 _ rfl; (with_reducible repeat (first | refine blk_drewN ?_ _ | refine blk_drew ?_ | refine blk_alloc ?_ _)); refine blk_put (cs := #[.int .i64 0, .int .i64 0, .int .i64 0, .int .i64 0]) ?_ 0 _ rfl; (with_reducible repeat (first | refine blk_drewN ?_ _ | refine blk_drew ?_ | refine blk_alloc ?_ _)); exact BK205.out) Try.underlying77 rfl (by kernel_rfl)) rfl ?_
            exact ⟨by first | rfl | (simp [errW_none, errW_some] <;> rfl) | (simp [*, errW_none, errW_some] <;> rfl), by repeat (first | (with_reducible first | exact HB.out | apply below_alloc | apply pw_below_drewN | apply below_drew1 | refine below_set ?_ GE204.out | refine below_set ?_ GE205.out | refine below_set ?_ GE208.out) | exact HB.out)⟩
    · replace c6 := Bool.eq_false_iff.mpr c6
      subst c6
      have H1 : (some (0, 0, 0, 0, 2)) = some (r1, r2, r3, r4, r5) := by rw [if_neg (show ¬ (false = true) by decide)] at H; exact H
      clear H
      have H := H1
      clear H1
      simp only [Option.some.injEq, Prod.mk.injEq] at H
      obtain ⟨rfl, rfl, rfl, rfl, rfl⟩ := H
      go_enter Try.func56, Try.ntmps56
      go_wp2_with (first | ((with_reducible refine gate_dst (N := 2) rfl ?_); refine box_event ?hg (N := 2) ?hd (cs := #[.int .i8 a0_0, .int .i8 a0_1, .slice A0_2 l0_2.length c0_2]) (t := 37) ?hr ?_; (case hd => rfl); (case hg => rfl); (case hr => first | (go_simp; done) | (go_simp; rfl)); intro gb204 hg w62 hbox hb; have n0_ := Aside0.mk (below_step (by repeat (first | (with_reducible first | exact HB.out | apply below_alloc | apply pw_below_drewN | apply below_drew1) | exact HB.out)) hb); have n1_ := Aside0.mk (hbox); have n2_ := Aside0.mk ((by rw [hg]; exact (below_size (by repeat (first | (with_reducible first | exact HB.out | apply below_alloc | apply pw_below_drewN | apply below_drew1) | exact HB.out))) : w.heap.size ≤ gb204)); have n3_ := Aside0.mk ((by rw [hg]; exact (below_size (by repeat (first | (with_reducible first | exact HB.out | apply below_alloc | apply pw_below_drewN | apply below_drew1) | exact HB.out))) : w.heap.size ≤ gb204)); clear HB; have HB := n0_; have BK204 := n1_; have GW204 := n2_; have GE204 := n3_; clear n0_ n1_ n2_ n3_; clear hb hbox hg) | ((with_reducible refine gate_dst (N := 4) rfl ?_); refine box_event ?hg (N := 4) ?hd (cs := #[.int .i64 0, .int .i64 0, .int .i64 0, .int .i64 0]) (t := 77) ?hr ?_; (case hd => rfl); (case hg => rfl); (case hr => first | (go_simp; done) | (go_simp; rfl)); intro gb205 hg w63 hbox hb; have n0_ := Aside0.mk (blk_below (g := gb204) (o := .cells #[.int .i8 a0_0, .int .i8 a0_1, .slice A0_2 l0_2.length c0_2] 37 (0, 0)) (by (with_reducible repeat (first | refine blk_drewN ?_ _ | refine blk_drew ?_ | refine blk_alloc ?_ _)); exact BK204.out) hb); have n1_ := Aside0.mk (below_step (by repeat (first | (with_reducible first | exact HB.out | apply below_alloc | apply pw_below_drewN | apply below_drew1 | refine below_set ?_ GE204.out) | exact HB.out)) hb); have n2_ := Aside0.mk (hbox); have n3_ := Aside0.mk ((by rw [hg]; exact (below_size (by repeat (first | (with_reducible first | exact HB.out | apply below_alloc | apply pw_below_drewN | apply below_drew1 | refine below_set ?_ GE204.out) | exact HB.out))) : w.heap.size ≤ gb205)); have n4_ := Aside0.mk ((by rw [hg]; exact (below_size (by repeat (first | (with_reducible first | exact HB.out | apply below_alloc | apply pw_below_drewN | apply below_drew1 | refine below_set ?_ GE204.out) | exact HB.out))) : w.heap.size ≤ gb205)); have n5_ := Aside0.mk ((by rw [hg]; exact Nat.ne_of_lt (blk_lt (g := gb204) (o := .cells #[.int .i8 a0_0, .int .i8 a0_1, .slice A0_2 l0_2.length c0_2] 37 (0, 0)) (by (with_reducible repeat (first | refine blk_drewN ?_ _ | refine blk_drew ?_ | refine blk_alloc ?_ _)); exact BK204.out)) : gb204 ≠ gb205)); have n6_ := Aside0.mk ((by rw [hg]; exact Nat.ne_of_gt (blk_lt (g := gb204) (o := .cells #[.int .i8 a0_0, .int .i8 a0_1, .slice A0_2 l0_2.length c0_2] 37 (0, 0)) (by (with_reducible repeat (first | refine blk_drewN ?_ _ | refine blk_drew ?_ | refine blk_alloc ?_ _)); exact BK204.out)) : gb205 ≠ gb204)); clear BK204; clear HB; have BK204 := n0_; have HB := n1_; have BK205 := n2_; have GW205 := n3_; have GE205 := n4_; have NB204_205 := n5_; have NB205_204 := n6_; clear n0_ n1_ n2_ n3_ n4_ n5_ n6_; clear hb hbox hg; have hnb64 := NB204_205.out; have hnc64 := NB205_204.out; have hcz65_0 : w63.cell? ⟨gb204, 0, none⟩ = some (.int .i8 a0_0) := (blk_cell BK204.out 0).trans rfl; have hcz65_1 : w63.cell? ⟨gb204, 1, none⟩ = some (.int .i8 a0_1) := (blk_cell BK204.out 1).trans rfl; have hcz65_2 : w63.cell? ⟨gb204, 2, none⟩ = some (.slice A0_2 l0_2.length c0_2) := (blk_cell BK204.out 2).trans rfl; have hfz65_0 := blk_frozen BK204.out 0; have hfz65_1 := blk_frozen BK204.out 1; have hfz65_2 := blk_frozen BK204.out 2) | ((with_reducible refine gate_callee (f := 43) rfl ?_); refine goesL_ (some 10) rfl rfl Try.func43 (by kernel_rfl) rfl #[.agg #[.int .i8 a0_0, .int .i8 a0_1, .slice A0_2 l0_2.length c0_2]] rfl (by (try simp only [List.map_toArray, List.map_cons, List.map_nil]); first | done | rfl | (simp only [List.length_drop, List.length_take]; rfl)) ?_; (with_reducible refine (impl_ValidBoard.calls k a0_0 a0_1 _ _ l0_2 true _ ?side1 ?side2 A3.out).mono ?_); (case side1 => repeat (first | exact (Kd.C_below HR0_2.out HB.out) | (with_reducible refine Kd.C_alloc ?_ _) | (with_reducible refine Kd.C_drewN ?_ _) | (with_reducible refine Kd.C_drew ?_))); (case side2 => exact HC0_2.out); rintro e w66 ⟨rfl, hb⟩; refine ⟨_, rfl, ?_⟩; have n0_ := Aside0.mk (blk_below (g := gb204) (o := .cells #[.int .i8 a0_0, .int .i8 a0_1, .slice A0_2 l0_2.length c0_2] 37 (0, 0)) (by (with_reducible repeat (first | refine blk_drewN ?_ _ | refine blk_drew ?_ | refine blk_alloc ?_ _)); exact BK204.out) hb); have n1_ := Aside0.mk (blk_below (g := gb205) (o := .cells #[.int .i64 0, .int .i64 0, .int .i64 0, .int .i64 0] 77 (0, 0)) (by (with_reducible repeat (first | refine blk_drewN ?_ _ | refine blk_drew ?_ | refine blk_alloc ?_ _)); exact BK205.out) hb); have n2_ := Aside0.mk (below_step (by repeat (first | (with_reducible first | exact HB.out | apply below_alloc | apply pw_below_drewN | apply below_drew1 | refine below_set ?_ GE204.out | refine below_set ?_ GE205.out) | exact HB.out)) hb); clear BK204; clear BK205; clear HB; have BK204 := n0_; have BK205 := n1_; have HB := n2_; clear n0_ n1_ n2_; (try clear hb); (try clear hb2); (try clear hk); (try clear hi)) | ((with_reducible refine gate_callee (f := 121) rfl ?_); refine goesL_ (some 15) rfl rfl Try.func121 (by kernel_rfl) rfl #[.pointer (some ⟨gb204, 0, none⟩), .int .i64 a1] rfl (by (try simp only [List.map_toArray, List.map_cons, List.map_nil]); first | done | rfl | (simp only [List.length_drop, List.length_take]; rfl)) ?_; (with_reducible refine (impl_Board_indexOk.calls _ [(⟨a0_0, a0_1, l0_2⟩ : S37)] a1 false _ ?side1 A5.out).mono ?_); (case side1 => refine ro_of_blk (T := 37) (cs := #[.int .i8 a0_0, .int .i8 a0_1, .slice A0_2 l0_2.length c0_2]) (by (with_reducible repeat (first | refine blk_drewN ?_ _ | refine blk_drew ?_ | refine blk_alloc ?_ _)); exact BK204.out) ?_; exact k37_mk _ (⟨a0_0, a0_1, l0_2⟩ : S37) (by exact HC0_2.out) (by repeat (first | exact (Kd.C_below HR0_2.out HB.out) | (with_reducible refine Kd.C_alloc ?_ _) | (with_reducible refine Kd.C_drewN ?_ _) | (with_reducible refine Kd.C_drew ?_)))); rintro e w' ⟨rfl, ⟨nd, rfl⟩⟩; refine ⟨_, rfl, ?_⟩; (try (rw [drewN_self w66]; generalize hq_ : World.drewN w66 _ = w66; have n0_ : Aside0 (w66.heap[gb204]? = some (.cells #[.int .i8 a0_0, .int .i8 a0_1, .slice A0_2 l0_2.length c0_2] 37 (0, 0))) := ⟨by rw [← hq_]; exact (by (with_reducible repeat (first | refine blk_drewN ?_ _ | refine blk_drew ?_ | refine blk_alloc ?_ _)); exact BK204.out)⟩; have n1_ : Aside0 (w66.heap[gb205]? = some (.cells #[.int .i64 0, .int .i64 0, .int .i64 0, .int .i64 0] 77 (0, 0))) := ⟨by rw [← hq_]; exact (by (with_reducible repeat (first | refine blk_drewN ?_ _ | refine blk_drew ?_ | refine blk_alloc ?_ _)); exact BK205.out)⟩; have n2_ : Aside0 (Below w.heap.size w w66) := ⟨by rw [← hq_]; exact (by repeat (first | (with_reducible first | exact HB.out | apply below_alloc | apply pw_below_drewN | apply below_drew1 | refine below_set ?_ GE204.out | refine below_set ?_ GE205.out) | exact HB.out))⟩; clear BK204 BK205 HB hq_; have BK204 := n0_; have BK205 := n1_; have HB := n2_; clear n0_ n1_ n2_)); have hcz67_0 : w66.cell? ⟨gb205, 0, none⟩ = some (.int .i64 0) := (blk_cell BK205.out 0).trans rfl; have hcz67_1 : w66.cell? ⟨gb205, 1, none⟩ = some (.int .i64 0) := (blk_cell BK205.out 1).trans rfl; have hcz67_2 : w66.cell? ⟨gb205, 2, none⟩ = some (.int .i64 0) := (blk_cell BK205.out 2).trans rfl; have hcz67_3 : w66.cell? ⟨gb205, 3, none⟩ = some (.int .i64 0) := (blk_cell BK205.out 3).trans rfl; have hfz67_0 := blk_frozen BK205.out 0; have hfz67_1 := blk_frozen BK205.out 1; have hfz67_2 := blk_frozen BK205.out 2; have hfz67_3 := blk_frozen BK205.out 3))
      refine bodyPost_ret (results_ct rfl _ _ gb205 77 #[.int .i64 0, .int .i64 0, .int .i64 0, .int .i64 0] (0, 0) _ rfl (by (with_reducible repeat (first | refine blk_drewN ?_ _ | refine blk_drew ?_ | refine blk_alloc ?_ _)); refine blk_put (cs := #[.int .i64 0, .int .i64 0, .int .i64 0, .int .i64 0]) ?_ 3 _ rfl; (with_reducible repeat (first | refine blk_drewN ?_ _ | refine blk_drew ?_ | refine blk_alloc ?_ _)); refine blk_put (cs := #[.int .i64 0, .int .i64 0, .int .i64 0, .int .i64 0]) ?_ 2 _ rfl; (with_reducible repeat (first | refine blk_drewN ?_ _ | refine blk_drew ?_ | refine blk_alloc ?_ _)); refine blk_put (cs := #[.int .i64 0, .int .i64 0, .int .i64 0, .int .i64 0]) ?_ 1 _ rfl; (with_reducible repeat (first | refine blk_drewN ?_ _ | refine blk_drew ?_ | refine blk_alloc ?_ _)); refine blk_put (cs := #[.int .i64 0, .int .i64 0, .int .i64 0, .int .i64 0]) ?_ 0 _ rfl; (with_reducible repeat (first | refine blk_drewN ?_ _ | refine blk_drew ?_ | refine blk_alloc ?_ _)); exact BK205.out) Try.underlying77 rfl (by kernel_rfl)) rfl ?_
      exact ⟨by first | rfl | (simp [errW_none, errW_some] <;> rfl) | (simp [*, errW_none, errW_some] <;> rfl), by repeat (first | (with_reducible first | exact HB.out | apply below_alloc | apply pw_below_drewN | apply below_drew1 | refine below_set ?_ GE204.out | refine below_set ?_ GE205.out) | exact HB.out)⟩
  · replace c4 := Bool.eq_false_iff.mpr c4
    subst c4
    have H1 : (some (0, 0, 0, 0, 1)) = some (r1, r2, r3, r4, r5) := by rw [if_neg (show ¬ (false = true) by decide)] at H; exact H
    clear H
    have H := H1
    clear H1
    simp only [Option.some.injEq, Prod.mk.injEq] at H
    obtain ⟨rfl, rfl, rfl, rfl, rfl⟩ := H
    go_enter Try.func56, Try.ntmps56
    go_wp2_with (first | ((with_reducible refine gate_dst (N := 2) rfl ?_); refine box_event ?hg (N := 2) ?hd (cs := #[.int .i8 a0_0, .int .i8 a0_1, .slice A0_2 l0_2.length c0_2]) (t := 37) ?hr ?_; (case hd => rfl); (case hg => rfl); (case hr => first | (go_simp; done) | (go_simp; rfl)); intro gb204 hg w68 hbox hb; have n0_ := Aside0.mk (below_step (by repeat (first | (with_reducible first | exact HB.out | apply below_alloc | apply pw_below_drewN | apply below_drew1) | exact HB.out)) hb); have n1_ := Aside0.mk (hbox); have n2_ := Aside0.mk ((by rw [hg]; exact (below_size (by repeat (first | (with_reducible first | exact HB.out | apply below_alloc | apply pw_below_drewN | apply below_drew1) | exact HB.out))) : w.heap.size ≤ gb204)); have n3_ := Aside0.mk ((by rw [hg]; exact (below_size (by repeat (first | (with_reducible first | exact HB.out | apply below_alloc | apply pw_below_drewN | apply below_drew1) | exact HB.out))) : w.heap.size ≤ gb204)); clear HB; have HB := n0_; have BK204 := n1_; have GW204 := n2_; have GE204 := n3_; clear n0_ n1_ n2_ n3_; clear hb hbox hg) | ((with_reducible refine gate_dst (N := 4) rfl ?_); refine box_event ?hg (N := 4) ?hd (cs := #[.int .i64 0, .int .i64 0, .int .i64 0, .int .i64 0]) (t := 77) ?hr ?_; (case hd => rfl); (case hg => rfl); (case hr => first | (go_simp; done) | (go_simp; rfl)); intro gb205 hg w69 hbox hb; have n0_ := Aside0.mk (blk_below (g := gb204) (o := .cells #[.int .i8 a0_0, .int .i8 a0_1, .slice A0_2 l0_2.length c0_2] 37 (0, 0)) (by (with_reducible repeat (first | refine blk_drewN ?_ _ | refine blk_drew ?_ | refine blk_alloc ?_ _)); exact BK204.out) hb); have n1_ := Aside0.mk (below_step (by repeat (first | (with_reducible first | exact HB.out | apply below_alloc | apply pw_below_drewN | apply below_drew1 | refine below_set ?_ GE204.out) | exact HB.out)) hb); have n2_ := Aside0.mk (hbox); have n3_ := Aside0.mk ((by rw [hg]; exact (below_size (by repeat (first | (with_reducible first | exact HB.out | apply below_alloc | apply pw_below_drewN | apply below_drew1 | refine below_set ?_ GE204.out) | exact HB.out))) : w.heap.size ≤ gb205)); have n4_ := Aside0.mk ((by rw [hg]; exact (below_size (by repeat (first | (with_reducible first | exact HB.out | apply below_alloc | apply pw_below_drewN | apply below_drew1 | refine below_set ?_ GE204.out) | exact HB.out))) : w.heap.size ≤ gb205)); have n5_ := Aside0.mk ((by rw [hg]; exact Nat.ne_of_lt (blk_lt (g := gb204) (o := .cells #[.int .i8 a0_0, .int .i8 a0_1, .slice A0_2 l0_2.length c0_2] 37 (0, 0)) (by (with_reducible repeat (first | refine blk_drewN ?_ _ | refine blk_drew ?_ | refine blk_alloc ?_ _)); exact BK204.out)) : gb204 ≠ gb205)); have n6_ := Aside0.mk ((by rw [hg]; exact Nat.ne_of_gt (blk_lt (g := gb204) (o := .cells #[.int .i8 a0_0, .int .i8 a0_1, .slice A0_2 l0_2.length c0_2] 37 (0, 0)) (by (with_reducible repeat (first | refine blk_drewN ?_ _ | refine blk_drew ?_ | refine blk_alloc ?_ _)); exact BK204.out)) : gb205 ≠ gb204)); clear BK204; clear HB; have BK204 := n0_; have HB := n1_; have BK205 := n2_; have GW205 := n3_; have GE205 := n4_; have NB204_205 := n5_; have NB205_204 := n6_; clear n0_ n1_ n2_ n3_ n4_ n5_ n6_; clear hb hbox hg; have hnb70 := NB204_205.out; have hnc70 := NB205_204.out; have hcz71_0 : w69.cell? ⟨gb204, 0, none⟩ = some (.int .i8 a0_0) := (blk_cell BK204.out 0).trans rfl; have hcz71_1 : w69.cell? ⟨gb204, 1, none⟩ = some (.int .i8 a0_1) := (blk_cell BK204.out 1).trans rfl; have hcz71_2 : w69.cell? ⟨gb204, 2, none⟩ = some (.slice A0_2 l0_2.length c0_2) := (blk_cell BK204.out 2).trans rfl; have hfz71_0 := blk_frozen BK204.out 0; have hfz71_1 := blk_frozen BK204.out 1; have hfz71_2 := blk_frozen BK204.out 2) | ((with_reducible refine gate_callee (f := 43) rfl ?_); refine goesL_ (some 10) rfl rfl Try.func43 (by kernel_rfl) rfl #[.agg #[.int .i8 a0_0, .int .i8 a0_1, .slice A0_2 l0_2.length c0_2]] rfl (by (try simp only [List.map_toArray, List.map_cons, List.map_nil]); first | done | rfl | (simp only [List.length_drop, List.length_take]; rfl)) ?_; (with_reducible refine (impl_ValidBoard.calls k a0_0 a0_1 _ _ l0_2 false _ ?side1 ?side2 A3.out).mono ?_); (case side1 => repeat (first | exact (Kd.C_below HR0_2.out HB.out) | (with_reducible refine Kd.C_alloc ?_ _) | (with_reducible refine Kd.C_drewN ?_ _) | (with_reducible refine Kd.C_drew ?_))); (case side2 => exact HC0_2.out); rintro e w72 ⟨rfl, hb⟩; refine ⟨_, rfl, ?_⟩; have n0_ := Aside0.mk (blk_below (g := gb204) (o := .cells #[.int .i8 a0_0, .int .i8 a0_1, .slice A0_2 l0_2.length c0_2] 37 (0, 0)) (by (with_reducible repeat (first | refine blk_drewN ?_ _ | refine blk_drew ?_ | refine blk_alloc ?_ _)); exact BK204.out) hb); have n1_ := Aside0.mk (blk_below (g := gb205) (o := .cells #[.int .i64 0, .int .i64 0, .int .i64 0, .int .i64 0] 77 (0, 0)) (by (with_reducible repeat (first | refine blk_drewN ?_ _ | refine blk_drew ?_ | refine blk_alloc ?_ _)); exact BK205.out) hb); have n2_ := Aside0.mk (below_step (by repeat (first | (with_reducible first | exact HB.out | apply below_alloc | apply pw_below_drewN | apply below_drew1 | refine below_set ?_ GE204.out | refine below_set ?_ GE205.out) | exact HB.out)) hb); clear BK204; clear BK205; clear HB; have BK204 := n0_; have BK205 := n1_; have HB := n2_; clear n0_ n1_ n2_; (try clear hb); (try clear hb2); (try clear hk); (try clear hi); have hcz73_0 : w72.cell? ⟨gb205, 0, none⟩ = some (.int .i64 0) := (blk_cell BK205.out 0).trans rfl; have hcz73_1 : w72.cell? ⟨gb205, 1, none⟩ = some (.int .i64 0) := (blk_cell BK205.out 1).trans rfl; have hcz73_2 : w72.cell? ⟨gb205, 2, none⟩ = some (.int .i64 0) := (blk_cell BK205.out 2).trans rfl; have hcz73_3 : w72.cell? ⟨gb205, 3, none⟩ = some (.int .i64 0) := (blk_cell BK205.out 3).trans rfl; have hfz73_0 := blk_frozen BK205.out 0; have hfz73_1 := blk_frozen BK205.out 1; have hfz73_2 := blk_frozen BK205.out 2; have hfz73_3 := blk_frozen BK205.out 3))
    refine bodyPost_ret (results_ct rfl _ _ gb205 77 #[.int .i64 0, .int .i64 0, .int .i64 0, .int .i64 0] (0, 0) _ rfl (by (with_reducible repeat (first | refine blk_drewN ?_ _ | refine blk_drew ?_ | refine blk_alloc ?_ _)); refine blk_put (cs := #[.int .i64 0, .int .i64 0, .int .i64 0, .int .i64 0]) ?_ 3 _ rfl; (with_reducible repeat (first | refine blk_drewN ?_ _ | refine blk_drew ?_ | refine blk_alloc ?_ _)); refine blk_put (cs := #[.int .i64 0, .int .i64 0, .int .i64 0, .int .i64 0]) ?_ 2 _ rfl; (with_reducible repeat (first | refine blk_drewN ?_ _ | refine blk_drew ?_ | refine blk_alloc ?_ _)); refine blk_put (cs := #[.int .i64 0, .int .i64 0, .int .i64 0, .int .i64 0]) ?_ 1 _ rfl; (with_reducible repeat (first | refine blk_drewN ?_ _ | refine blk_drew ?_ | refine blk_alloc ?_ _)); refine blk_put (cs := #[.int .i64 0, .int .i64 0, .int .i64 0, .int .i64 0]) ?_ 0 _ rfl; (with_reducible repeat (first | refine blk_drewN ?_ _ | refine blk_drew ?_ | refine blk_alloc ?_ _)); exact BK205.out) Try.underlying77 rfl (by kernel_rfl)) rfl ?_
    exact ⟨by first | rfl | (simp [errW_none, errW_some] <;> rfl) | (simp [*, errW_none, errW_some] <;> rfl), by repeat (first | (with_reducible first | exact HB.out | apply below_alloc | apply pw_below_drewN | apply below_drew1 | refine below_set ?_ GE204.out | refine below_set ?_ GE205.out) | exact HB.out)⟩

/-! ### laws_eqInt64A4: function 57 -/
def laws_eqInt64A4.l0 : Nat → Int → Int → Int → Int → Int → Int → Int → Int → Int → Option (Bool)
  | 0, _, _, _, _, _, _, _, _, _ => none
  | k + 1, x5, x214000, x214001, x214002, x214003, x215000, x215001, x215002, x215003 => if x5 < 4 then (if x5 = 0 then (if x214000 = x215000 then (laws_eqInt64A4.l0 k (wrap64 (x5 + 1)) x214000 x214001 x214002 x214003 x215000 x215001 x215002 x215003) else (some false)) else (if x5 = 1 then (if x214001 = x215001 then (laws_eqInt64A4.l0 k (wrap64 (x5 + 1)) x214000 x214001 x214002 x214003 x215000 x215001 x215002 x215003) else (some false)) else (if x5 = 2 then (if x214002 = x215002 then (laws_eqInt64A4.l0 k (wrap64 (x5 + 1)) x214000 x214001 x214002 x214003 x215000 x215001 x215002 x215003) else (some false)) else (if x5 = 3 then (if x214003 = x215003 then (laws_eqInt64A4.l0 k (wrap64 (x5 + 1)) x214000 x214001 x214002 x214003 x215000 x215001 x215002 x215003) else (some false)) else (none))))) else (some true)
def laws_eqInt64A4.f (k : Nat) (a0_0 : Int) (a0_1 : Int) (a0_2 : Int) (a0_3 : Int) (a1_0 : Int) (a1_1 : Int) (a1_2 : Int) (a1_3 : Int) : Option (Bool) := laws_eqInt64A4.l0 k 0 a0_0 a0_1 a0_2 a0_3 a1_0 a1_1 a1_2 a1_3
theorem laws_eqInt64A4.mono_l : ∀ k, (∀ y0 y1 y2 y3 y4 y5 y6 y7 y8, LeO (laws_eqInt64A4.l0 k y0 y1 y2 y3 y4 y5 y6 y7 y8) (laws_eqInt64A4.l0 (k + 1) y0 y1 y2 y3 y4 y5 y6 y7 y8))
  | 0 => fun _ _ _ _ _ _ _ _ _ r h => by simp [laws_eqInt64A4.l0] at h
  | k + 1 => by
    have ih0 := laws_eqInt64A4.mono_l k
    · intro y0 y1 y2 y3 y4 y5 y6 y7 y8
      unfold laws_eqInt64A4.l0
      repeat' first
      | (with_reducible exact ih0 _ _ _ _ _ _ _ _ _)
      | (with_reducible exact LeO.refl _)
      | (with_reducible exact LeO.none _)
      | (with_reducible refine LeO.ite ?_ ?_)
      | (with_reducible refine LeO.bind ?_ (fun _ => ?_))
      | exact ih0 _ _ _ _ _ _ _ _ _
      | exact LeO.none _
      | refine LeO.ite ?_ ?_
      | refine LeO.bind ?_ (fun _ => ?_)
theorem laws_eqInt64A4.mono : ∀ a0 a1 a2 a3 a4 a5 a6 a7 k, LeO (laws_eqInt64A4.f k a0 a1 a2 a3 a4 a5 a6 a7) (laws_eqInt64A4.f (k + 1) a0 a1 a2 a3 a4 a5 a6 a7) := by
  intro a0 a1 a2 a3 a4 a5 a6 a7 k
  have ih0 := laws_eqInt64A4.mono_l k
  unfold laws_eqInt64A4.f
  repeat' first
      | (with_reducible exact ih0 _ _ _ _ _ _ _ _ _)
      | (with_reducible exact LeO.refl _)
      | (with_reducible exact LeO.none _)
      | (with_reducible refine LeO.ite ?_ ?_)
      | (with_reducible refine LeO.bind ?_ (fun _ => ?_))
      | exact ih0 _ _ _ _ _ _ _ _ _
      | exact LeO.none _
      | refine LeO.ite ?_ ?_
      | refine LeO.bind ?_ (fun _ => ?_)
set_option maxHeartbeats 8000000 in
set_option maxRecDepth 100000 in
theorem laws_eqInt64A4.calls (k : Nat) (a0_0 : Int) (a0_1 : Int) (a0_2 : Int) (a0_3 : Int) (a1_0 : Int) (a1_1 : Int) (a1_2 : Int) (a1_3 : Int) (r : Bool) (w : World) (h : laws_eqInt64A4.f k a0_0 a0_1 a0_2 a0_3 a1_0 a1_1 a1_2 a1_3 = some r) :
    Calls Try.prog 57 #[.agg #[.int .i64 a0_0, .int .i64 a0_1, .int .i64 a0_2, .int .i64 a0_3], .agg #[.int .i64 a1_0, .int .i64 a1_1, .int .i64 a1_2, .int .i64 a1_3]] w fun e w' => e = .returned (.bool r) ∧ Below w.heap.size w w' := by
  have hu77 := Try.underlying77
  have HB := Aside0.mk (Below.refl w.heap.size w)
  have H : (laws_eqInt64A4.l0 k 0 a0_0 a0_1 a0_2 a0_3 a1_0 a1_1 a1_2 a1_3) = some r := h
  clear h
  have H' := Aside0.mk H
  clear H
  go_enter Try.func57, Try.ntmps57
  go_wp2_with (first | ((with_reducible refine gate_dst (N := 2) rfl ?_); refine box_event ?hg (N := 2) ?hd (cs := #[.int .i64 a0_0, .int .i64 a0_1, .int .i64 a0_2, .int .i64 a0_3]) (t := 77) ?hr ?_; (case hd => rfl); (case hg => rfl); (case hr => first | (go_simp; done) | (go_simp; rfl)); intro gb213 hg w3 hbox hb; have n0_ := Aside0.mk (below_step (by repeat (first | (with_reducible first | exact HB.out | apply below_alloc | apply pw_below_drewN | apply below_drew1) | exact HB.out)) hb); have n1_ := Aside0.mk (hbox); have n2_ := Aside0.mk ((by rw [hg]; exact (below_size (by repeat (first | (with_reducible first | exact HB.out | apply below_alloc | apply pw_below_drewN | apply below_drew1) | exact HB.out))) : w.heap.size ≤ gb213)); have n3_ := Aside0.mk ((by rw [hg]; exact (below_size (by repeat (first | (with_reducible first | exact HB.out | apply below_alloc | apply pw_below_drewN | apply below_drew1) | exact HB.out))) : w.heap.size ≤ gb213)); clear HB; have HB := n0_; have BK213 := n1_; have GW213 := n2_; have GE213 := n3_; clear n0_ n1_ n2_ n3_; clear hb hbox hg) | ((with_reducible refine gate_dst (N := 3) rfl ?_); refine box_event ?hg (N := 3) ?hd (cs := #[.int .i64 a1_0, .int .i64 a1_1, .int .i64 a1_2, .int .i64 a1_3]) (t := 77) ?hr ?_; (case hd => rfl); (case hg => rfl); (case hr => first | (go_simp; done) | (go_simp; rfl)); intro gb214 hg w4 hbox hb; have n0_ := Aside0.mk (blk_below (g := gb213) (o := .cells #[.int .i64 a0_0, .int .i64 a0_1, .int .i64 a0_2, .int .i64 a0_3] 77 (0, 0)) (by (with_reducible repeat (first | refine blk_drewN ?_ _ | refine blk_drew ?_ | refine blk_alloc ?_ _)); exact BK213.out) hb); have n1_ := Aside0.mk (below_step (by repeat (first | (with_reducible first | exact HB.out | apply below_alloc | apply pw_below_drewN | apply below_drew1 | refine below_set ?_ GE213.out) | exact HB.out)) hb); have n2_ := Aside0.mk (hbox); have n3_ := Aside0.mk ((by rw [hg]; exact (below_size (by repeat (first | (with_reducible first | exact HB.out | apply below_alloc | apply pw_below_drewN | apply below_drew1 | refine below_set ?_ GE213.out) | exact HB.out))) : w.heap.size ≤ gb214)); have n4_ := Aside0.mk ((by rw [hg]; exact (below_size (by repeat (first | (with_reducible first | exact HB.out | apply below_alloc | apply pw_below_drewN | apply below_drew1 | refine below_set ?_ GE213.out) | exact HB.out))) : w.heap.size ≤ gb214)); have n5_ := Aside0.mk ((by rw [hg]; exact Nat.ne_of_lt (blk_lt (g := gb213) (o := .cells #[.int .i64 a0_0, .int .i64 a0_1, .int .i64 a0_2, .int .i64 a0_3] 77 (0, 0)) (by (with_reducible repeat (first | refine blk_drewN ?_ _ | refine blk_drew ?_ | refine blk_alloc ?_ _)); exact BK213.out)) : gb213 ≠ gb214)); have n6_ := Aside0.mk ((by rw [hg]; exact Nat.ne_of_gt (blk_lt (g := gb213) (o := .cells #[.int .i64 a0_0, .int .i64 a0_1, .int .i64 a0_2, .int .i64 a0_3] 77 (0, 0)) (by (with_reducible repeat (first | refine blk_drewN ?_ _ | refine blk_drew ?_ | refine blk_alloc ?_ _)); exact BK213.out)) : gb214 ≠ gb213)); clear BK213; clear HB; have BK213 := n0_; have HB := n1_; have BK214 := n2_; have GW214 := n3_; have GE214 := n4_; have NB213_214 := n5_; have NB214_213 := n6_; clear n0_ n1_ n2_ n3_ n4_ n5_ n6_; clear hb hbox hg))
  repeat (go_quiet (first | ((with_reducible refine gate_dst (N := 2) rfl ?_); refine box_event ?hg (N := 2) ?hd (cs := #[.int .i64 a0_0, .int .i64 a0_1, .int .i64 a0_2, .int .i64 a0_3]) (t := 77) ?hr ?_; (case hd => rfl); (case hg => rfl); (case hr => first | (go_simp; done) | (go_simp; rfl)); intro gb213 hg w3 hbox hb; have n0_ := Aside0.mk (below_step (by repeat (first | (with_reducible first | exact HB.out | apply below_alloc | apply pw_below_drewN | apply below_drew1) | exact HB.out)) hb); have n1_ := Aside0.mk (hbox); have n2_ := Aside0.mk ((by rw [hg]; exact (below_size (by repeat (first | (with_reducible first | exact HB.out | apply below_alloc | apply pw_below_drewN | apply below_drew1) | exact HB.out))) : w.heap.size ≤ gb213)); have n3_ := Aside0.mk ((by rw [hg]; exact (below_size (by repeat (first | (with_reducible first | exact HB.out | apply below_alloc | apply pw_below_drewN | apply below_drew1) | exact HB.out))) : w.heap.size ≤ gb213)); clear HB; have HB := n0_; have BK213 := n1_; have GW213 := n2_; have GE213 := n3_; clear n0_ n1_ n2_ n3_; clear hb hbox hg) | ((with_reducible refine gate_dst (N := 3) rfl ?_); refine box_event ?hg (N := 3) ?hd (cs := #[.int .i64 a1_0, .int .i64 a1_1, .int .i64 a1_2, .int .i64 a1_3]) (t := 77) ?hr ?_; (case hd => rfl); (case hg => rfl); (case hr => first | (go_simp; done) | (go_simp; rfl)); intro gb214 hg w4 hbox hb; have n0_ := Aside0.mk (blk_below (g := gb213) (o := .cells #[.int .i64 a0_0, .int .i64 a0_1, .int .i64 a0_2, .int .i64 a0_3] 77 (0, 0)) (by (with_reducible repeat (first | refine blk_drewN ?_ _ | refine blk_drew ?_ | refine blk_alloc ?_ _)); exact BK213.out) hb); have n1_ := Aside0.mk (below_step (by repeat (first | (with_reducible first | exact HB.out | apply below_alloc | apply pw_below_drewN | apply below_drew1 | refine below_set ?_ GE213.out) | exact HB.out)) hb); have n2_ := Aside0.mk (hbox); have n3_ := Aside0.mk ((by rw [hg]; exact (below_size (by repeat (first | (with_reducible first | exact HB.out | apply below_alloc | apply pw_below_drewN | apply below_drew1 | refine below_set ?_ GE213.out) | exact HB.out))) : w.heap.size ≤ gb214)); have n4_ := Aside0.mk ((by rw [hg]; exact (below_size (by repeat (first | (with_reducible first | exact HB.out | apply below_alloc | apply pw_below_drewN | apply below_drew1 | refine below_set ?_ GE213.out) | exact HB.out))) : w.heap.size ≤ gb214)); have n5_ := Aside0.mk ((by rw [hg]; exact Nat.ne_of_lt (blk_lt (g := gb213) (o := .cells #[.int .i64 a0_0, .int .i64 a0_1, .int .i64 a0_2, .int .i64 a0_3] 77 (0, 0)) (by (with_reducible repeat (first | refine blk_drewN ?_ _ | refine blk_drew ?_ | refine blk_alloc ?_ _)); exact BK213.out)) : gb213 ≠ gb214)); have n6_ := Aside0.mk ((by rw [hg]; exact Nat.ne_of_gt (blk_lt (g := gb213) (o := .cells #[.int .i64 a0_0, .int .i64 a0_1, .int .i64 a0_2, .int .i64 a0_3] 77 (0, 0)) (by (with_reducible repeat (first | refine blk_drewN ?_ _ | refine blk_drew ?_ | refine blk_alloc ?_ _)); exact BK213.out)) : gb214 ≠ gb213)); clear BK213; clear HB; have BK213 := n0_; have HB := n1_; have BK214 := n2_; have GW214 := n3_; have GE214 := n4_; have NB213_214 := n5_; have NB214_213 := n6_; clear n0_ n1_ n2_ n3_ n4_ n5_ n6_; clear hb hbox hg)); try go_wp2_with (first | ((with_reducible refine gate_dst (N := 2) rfl ?_); refine box_event ?hg (N := 2) ?hd (cs := #[.int .i64 a0_0, .int .i64 a0_1, .int .i64 a0_2, .int .i64 a0_3]) (t := 77) ?hr ?_; (case hd => rfl); (case hg => rfl); (case hr => first | (go_simp; done) | (go_simp; rfl)); intro gb213 hg w3 hbox hb; have n0_ := Aside0.mk (below_step (by repeat (first | (with_reducible first | exact HB.out | apply below_alloc | apply pw_below_drewN | apply below_drew1) | exact HB.out)) hb); have n1_ := Aside0.mk (hbox); have n2_ := Aside0.mk ((by rw [hg]; exact (below_size (by repeat (first | (with_reducible first | exact HB.out | apply below_alloc | apply pw_below_drewN | apply below_drew1) | exact HB.out))) : w.heap.size ≤ gb213)); have n3_ := Aside0.mk ((by rw [hg]; exact (below_size (by repeat (first | (with_reducible first | exact HB.out | apply below_alloc | apply pw_below_drewN | apply below_drew1) | exact HB.out))) : w.heap.size ≤ gb213)); clear HB; have HB := n0_; have BK213 := n1_; have GW213 := n2_; have GE213 := n3_; clear n0_ n1_ n2_ n3_; clear hb hbox hg) | ((with_reducible refine gate_dst (N := 3) rfl ?_); refine box_event ?hg (N := 3) ?hd (cs := #[.int .i64 a1_0, .int .i64 a1_1, .int .i64 a1_2, .int .i64 a1_3]) (t := 77) ?hr ?_; (case hd => rfl); (case hg => rfl); (case hr => first | (go_simp; done) | (go_simp; rfl)); intro gb214 hg w4 hbox hb; have n0_ := Aside0.mk (blk_below (g := gb213) (o := .cells #[.int .i64 a0_0, .int .i64 a0_1, .int .i64 a0_2, .int .i64 a0_3] 77 (0, 0)) (by (with_reducible repeat (first | refine blk_drewN ?_ _ | refine blk_drew ?_ | refine blk_alloc ?_ _)); exact BK213.out) hb); have n1_ := Aside0.mk (below_step (by repeat (first | (with_reducible first | exact HB.out | apply below_alloc | apply pw_below_drewN | apply below_drew1 | refine below_set ?_ GE213.out) | exact HB.out)) hb); have n2_ := Aside0.mk (hbox); have n3_ := Aside0.mk ((by rw [hg]; exact (below_size (by repeat (first | (with_reducible first | exact HB.out | apply below_alloc | apply pw_below_drewN | apply below_drew1 | refine below_set ?_ GE213.out) | exact HB.out))) : w.heap.size ≤ gb214)); have n4_ := Aside0.mk ((by rw [hg]; exact (below_size (by repeat (first | (with_reducible first | exact HB.out | apply below_alloc | apply pw_below_drewN | apply below_drew1 | refine below_set ?_ GE213.out) | exact HB.out))) : w.heap.size ≤ gb214)); have n5_ := Aside0.mk ((by rw [hg]; exact Nat.ne_of_lt (blk_lt (g := gb213) (o := .cells #[.int .i64 a0_0, .int .i64 a0_1, .int .i64 a0_2, .int .i64 a0_3] 77 (0, 0)) (by (with_reducible repeat (first | refine blk_drewN ?_ _ | refine blk_drew ?_ | refine blk_alloc ?_ _)); exact BK213.out)) : gb213 ≠ gb214)); have n6_ := Aside0.mk ((by rw [hg]; exact Nat.ne_of_gt (blk_lt (g := gb213) (o := .cells #[.int .i64 a0_0, .int .i64 a0_1, .int .i64 a0_2, .int .i64 a0_3] 77 (0, 0)) (by (with_reducible repeat (first | refine blk_drewN ?_ _ | refine blk_drew ?_ | refine blk_alloc ?_ _)); exact BK213.out)) : gb214 ≠ gb213)); clear BK213; clear HB; have BK213 := n0_; have HB := n1_; have BK214 := n2_; have GW214 := n3_; have GE214 := n4_; have NB213_214 := n5_; have NB214_213 := n6_; clear n0_ n1_ n2_ n3_ n4_ n5_ n6_; clear hb hbox hg)))
  go_loopg [5] k (fun kq v5 w' => ∃ (x5_1 : Int), v5 = .int .i64 x5_1 ∧ Aside0 (laws_eqInt64A4.l0 kq x5_1 a0_0 a0_1 a0_2 a0_3 a1_0 a1_1 a1_2 a1_3 = some r) ∧ Aside0 (kq ≤ k) ∧ Aside0 (w'.heap[gb213]? = some (.cells #[.int .i64 a0_0, .int .i64 a0_1, .int .i64 a0_2, .int .i64 a0_3] 77 (0, 0))) ∧ Aside0 (w'.heap[gb214]? = some (.cells #[.int .i64 a1_0, .int .i64 a1_1, .int .i64 a1_2, .int .i64 a1_3] 77 (0, 0))) ∧ Aside0 (Below w.heap.size w w'))
  case atStart => exact ⟨(0), (by first | rfl | (simp; done) | (simp [*]; done) | (exact congrArg (Value.int .i64) (wrap_eq (by omega)))), H', ⟨Nat.le_refl _⟩, ⟨by (with_reducible repeat (first | refine blk_drewN ?_ _ | refine blk_drew ?_ | refine blk_alloc ?_ _)); exact BK213.out⟩, ⟨by (with_reducible repeat (first | refine blk_drewN ?_ _ | refine blk_drew ?_ | refine blk_alloc ?_ _)); exact BK214.out⟩, ⟨by repeat (first | (with_reducible first | exact HB.out | apply below_alloc | apply pw_below_drewN | apply below_drew1 | refine below_set ?_ GE213.out | refine below_set ?_ GE214.out) | exact HB.out)⟩⟩
  case round =>
    clear H'
    try clear p2
    obtain ⟨x5_1, rfl, HA, HK1, BK213, BK214, HB⟩ := hrel
    cases gk with
    | zero => exact absurd HA.out (by simp [laws_eqInt64A4.l0])
    | succ k1 =>
      have H := HA.out
      clear HA
      simp only [laws_eqInt64A4.l0] at H
      by_cases c5 : x5_1 < 4
      · rw [if_pos c5] at H
        have c5b0 : decide (x5_1 < 4) = true := decide_eq_true c5
        clear c5
        by_cases c6 : x5_1 = 0
        · rw [if_pos c6] at H
          have Ac6 : Aside0 (x5_1 = 0) := ⟨c6⟩
          clear c6
          have ar7e : x5_1 = 0 := by first | exact (show Aside0 (x5_1 = 0) by assumption).out | exact beq_iff_eq.mp (by assumption) | omega
          have ar7n : (x5_1).toNat = 0 := by rw [ar7e]; rfl
          have ar7l : decide (0 ≤ x5_1) = true := decide_eq_true (by omega)
          have ar7L := eq_true (of_decide_eq_true ar7l)
          have ar7h : decide (x5_1 < 4) = true := decide_eq_true (by omega)
          have ar7H := eq_true (of_decide_eq_true ar7h)
          clear ar7e
          have ar8e : x5_1 = 0 := by first | exact (show Aside0 (x5_1 = 0) by assumption).out | exact beq_iff_eq.mp (by assumption) | omega
          have ar8n : (x5_1).toNat = 0 := by rw [ar8e]; rfl
          have ar8l : decide (0 ≤ x5_1) = true := decide_eq_true (by omega)
          have ar8L := eq_true (of_decide_eq_true ar8l)
          have ar8h : decide (x5_1 < 4) = true := decide_eq_true (by omega)
          have ar8H := eq_true (of_decide_eq_true ar8h)
          clear ar8e
          by_cases c9 : a0_0 = a1_0
          · rw [if_pos c9] at H
            have c9b0 : (a0_0 == a1_0) = true := beq_iff_eq.mpr c9
            have c9b1 : (a0_0 != a1_0) = false := bne_eq_false_iff_eq.mpr c9
            clear c9
            have H' := Aside0.mk H
            clear H
            have hnb10 := NB213_214.out
            have hnc10 := NB214_213.out
            have hcz11_0 : wr.cell? ⟨gb213, 0, none⟩ = some (.int .i64 a0_0) := (blk_cell BK213.out 0).trans rfl
            have hcz11_1 : wr.cell? ⟨gb213, 1, none⟩ = some (.int .i64 a0_1) := (blk_cell BK213.out 1).trans rfl
            have hcz11_2 : wr.cell? ⟨gb213, 2, none⟩ = some (.int .i64 a0_2) := (blk_cell BK213.out 2).trans rfl
            have hcz11_3 : wr.cell? ⟨gb213, 3, none⟩ = some (.int .i64 a0_3) := (blk_cell BK213.out 3).trans rfl
            have hfz11_0 := blk_frozen BK213.out 0
            have hfz11_1 := blk_frozen BK213.out 1
            have hfz11_2 := blk_frozen BK213.out 2
            have hfz11_3 := blk_frozen BK213.out 3
            have hcz12_0 : wr.cell? ⟨gb214, 0, none⟩ = some (.int .i64 a1_0) := (blk_cell BK214.out 0).trans rfl
            have hcz12_1 : wr.cell? ⟨gb214, 1, none⟩ = some (.int .i64 a1_1) := (blk_cell BK214.out 1).trans rfl
            have hcz12_2 : wr.cell? ⟨gb214, 2, none⟩ = some (.int .i64 a1_2) := (blk_cell BK214.out 2).trans rfl
            have hcz12_3 : wr.cell? ⟨gb214, 3, none⟩ = some (.int .i64 a1_3) := (blk_cell BK214.out 3).trans rfl
            have hfz12_0 := blk_frozen BK214.out 0
            have hfz12_1 := blk_frozen BK214.out 1
            have hfz12_2 := blk_frozen BK214.out 2
            have hfz12_3 := blk_frozen BK214.out 3
            go_wp2
            repeat (go_quiet (fail); try go_wp2)
            go_roundg k1
            case measure => have := HK1.out; omega
            case rel => exact ⟨(wrap64 (x5_1 + 1)), (by first | rfl | (simp; done) | (simp [*]; done) | (exact congrArg (Value.int .i64) (wrap_eq (by omega)))), H', ⟨by have := HK1.out; omega⟩, ⟨by (with_reducible repeat (first | refine blk_drewN ?_ _ | refine blk_drew ?_ | refine blk_alloc ?_ _)); exact BK213.out⟩, ⟨by (with_reducible repeat (first | refine blk_drewN ?_ _ | refine blk_drew ?_ | refine blk_alloc ?_ _)); exact BK214.out⟩, ⟨by repeat (first | (with_reducible first | exact HB.out | apply below_alloc | apply pw_below_drewN | apply below_drew1 | refine below_set ?_ GE213.out | refine below_set ?_ GE214.out) | exact HB.out)⟩⟩
          · rw [if_neg c9] at H
            have c9b0 : (a0_0 == a1_0) = false := beq_eq_false_iff_ne.mpr c9
            have c9b1 : (a0_0 != a1_0) = true := bne_iff_ne.mpr c9
            obtain rfl := Option.some.inj H
            have hnb13 := NB213_214.out
            have hnc13 := NB214_213.out
            have hcz14_0 : wr.cell? ⟨gb213, 0, none⟩ = some (.int .i64 a0_0) := (blk_cell BK213.out 0).trans rfl
            have hcz14_1 : wr.cell? ⟨gb213, 1, none⟩ = some (.int .i64 a0_1) := (blk_cell BK213.out 1).trans rfl
            have hcz14_2 : wr.cell? ⟨gb213, 2, none⟩ = some (.int .i64 a0_2) := (blk_cell BK213.out 2).trans rfl
            have hcz14_3 : wr.cell? ⟨gb213, 3, none⟩ = some (.int .i64 a0_3) := (blk_cell BK213.out 3).trans rfl
            have hfz14_0 := blk_frozen BK213.out 0
            have hfz14_1 := blk_frozen BK213.out 1
            have hfz14_2 := blk_frozen BK213.out 2
            have hfz14_3 := blk_frozen BK213.out 3
            have hcz15_0 : wr.cell? ⟨gb214, 0, none⟩ = some (.int .i64 a1_0) := (blk_cell BK214.out 0).trans rfl
            have hcz15_1 : wr.cell? ⟨gb214, 1, none⟩ = some (.int .i64 a1_1) := (blk_cell BK214.out 1).trans rfl
            have hcz15_2 : wr.cell? ⟨gb214, 2, none⟩ = some (.int .i64 a1_2) := (blk_cell BK214.out 2).trans rfl
            have hcz15_3 : wr.cell? ⟨gb214, 3, none⟩ = some (.int .i64 a1_3) := (blk_cell BK214.out 3).trans rfl
            have hfz15_0 := blk_frozen BK214.out 0
            have hfz15_1 := blk_frozen BK214.out 1
            have hfz15_2 := blk_frozen BK214.out 2
            have hfz15_3 := blk_frozen BK214.out 3
            go_wp2
            repeat (go_quiet (fail); try go_wp2)
            go_ret
            exact ⟨by first | rfl | (simp [errW_none, errW_some] <;> rfl) | (simp [*, errW_none, errW_some] <;> rfl), by repeat (first | (with_reducible first | exact HB.out | apply below_alloc | apply pw_below_drewN | apply below_drew1 | refine below_set ?_ GE213.out | refine below_set ?_ GE214.out) | exact HB.out)⟩
        · rw [if_neg c6] at H
          clear c6
          by_cases c16 : x5_1 = 1
          · rw [if_pos c16] at H
            have Ac16 : Aside0 (x5_1 = 1) := ⟨c16⟩
            clear c16
            have ar17e : x5_1 = 1 := by first | exact (show Aside0 (x5_1 = 1) by assumption).out | exact beq_iff_eq.mp (by assumption) | omega
            have ar17n : (x5_1).toNat = 1 := by rw [ar17e]; rfl
            have ar17l : decide (0 ≤ x5_1) = true := decide_eq_true (by omega)
            have ar17L := eq_true (of_decide_eq_true ar17l)
            have ar17h : decide (x5_1 < 4) = true := decide_eq_true (by omega)
            have ar17H := eq_true (of_decide_eq_true ar17h)
            clear ar17e
            have ar18e : x5_1 = 1 := by first | exact (show Aside0 (x5_1 = 1) by assumption).out | exact beq_iff_eq.mp (by assumption) | omega
            have ar18n : (x5_1).toNat = 1 := by rw [ar18e]; rfl
            have ar18l : decide (0 ≤ x5_1) = true := decide_eq_true (by omega)
            have ar18L := eq_true (of_decide_eq_true ar18l)
            have ar18h : decide (x5_1 < 4) = true := decide_eq_true (by omega)
            have ar18H := eq_true (of_decide_eq_true ar18h)
            clear ar18e
            by_cases c19 : a0_1 = a1_1
            · rw [if_pos c19] at H
              have c19b0 : (a0_1 == a1_1) = true := beq_iff_eq.mpr c19
              have c19b1 : (a0_1 != a1_1) = false := bne_eq_false_iff_eq.mpr c19
              clear c19
              have H' := Aside0.mk H
              clear H
              have hnb20 := NB213_214.out
              have hnc20 := NB214_213.out
              have hcz21_0 : wr.cell? ⟨gb213, 0, none⟩ = some (.int .i64 a0_0) := (blk_cell BK213.out 0).trans rfl
              have hcz21_1 : wr.cell? ⟨gb213, 1, none⟩ = some (.int .i64 a0_1) := (blk_cell BK213.out 1).trans rfl
              have hcz21_2 : wr.cell? ⟨gb213, 2, none⟩ = some (.int .i64 a0_2) := (blk_cell BK213.out 2).trans rfl
              have hcz21_3 : wr.cell? ⟨gb213, 3, none⟩ = some (.int .i64 a0_3) := (blk_cell BK213.out 3).trans rfl
              have hfz21_0 := blk_frozen BK213.out 0
              have hfz21_1 := blk_frozen BK213.out 1
              have hfz21_2 := blk_frozen BK213.out 2
              have hfz21_3 := blk_frozen BK213.out 3
              have hcz22_0 : wr.cell? ⟨gb214, 0, none⟩ = some (.int .i64 a1_0) := (blk_cell BK214.out 0).trans rfl
              have hcz22_1 : wr.cell? ⟨gb214, 1, none⟩ = some (.int .i64 a1_1) := (blk_cell BK214.out 1).trans rfl
              have hcz22_2 : wr.cell? ⟨gb214, 2, none⟩ = some (.int .i64 a1_2) := (blk_cell BK214.out 2).trans rfl
              have hcz22_3 : wr.cell? ⟨gb214, 3, none⟩ = some (.int .i64 a1_3) := (blk_cell BK214.out 3).trans rfl
              have hfz22_0 := blk_frozen BK214.out 0
              have hfz22_1 := blk_frozen BK214.out 1
              have hfz22_2 := blk_frozen BK214.out 2
              have hfz22_3 := blk_frozen BK214.out 3
              go_wp2
              repeat (go_quiet (fail); try go_wp2)
              go_roundg k1
              case measure => have := HK1.out; omega
              case rel => exact ⟨(wrap64 (x5_1 + 1)), (by first | rfl | (simp; done) | (simp [*]; done) | (exact congrArg (Value.int .i64) (wrap_eq (by omega)))), H', ⟨by have := HK1.out; omega⟩, ⟨by (with_reducible repeat (first | refine blk_drewN ?_ _ | refine blk_drew ?_ | refine blk_alloc ?_ _)); exact BK213.out⟩, ⟨by (with_reducible repeat (first | refine blk_drewN ?_ _ | refine blk_drew ?_ | refine blk_alloc ?_ _)); exact BK214.out⟩, ⟨by repeat (first | (with_reducible first | exact HB.out | apply below_alloc | apply pw_below_drewN | apply below_drew1 | refine below_set ?_ GE213.out | refine below_set ?_ GE214.out) | exact HB.out)⟩⟩
            · rw [if_neg c19] at H
              have c19b0 : (a0_1 == a1_1) = false := beq_eq_false_iff_ne.mpr c19
              have c19b1 : (a0_1 != a1_1) = true := bne_iff_ne.mpr c19
              obtain rfl := Option.some.inj H
              have hnb23 := NB213_214.out
              have hnc23 := NB214_213.out
              have hcz24_0 : wr.cell? ⟨gb213, 0, none⟩ = some (.int .i64 a0_0) := (blk_cell BK213.out 0).trans rfl
              have hcz24_1 : wr.cell? ⟨gb213, 1, none⟩ = some (.int .i64 a0_1) := (blk_cell BK213.out 1).trans rfl
              have hcz24_2 : wr.cell? ⟨gb213, 2, none⟩ = some (.int .i64 a0_2) := (blk_cell BK213.out 2).trans rfl
              have hcz24_3 : wr.cell? ⟨gb213, 3, none⟩ = some (.int .i64 a0_3) := (blk_cell BK213.out 3).trans rfl
              have hfz24_0 := blk_frozen BK213.out 0
              have hfz24_1 := blk_frozen BK213.out 1
              have hfz24_2 := blk_frozen BK213.out 2
              have hfz24_3 := blk_frozen BK213.out 3
              have hcz25_0 : wr.cell? ⟨gb214, 0, none⟩ = some (.int .i64 a1_0) := (blk_cell BK214.out 0).trans rfl
              have hcz25_1 : wr.cell? ⟨gb214, 1, none⟩ = some (.int .i64 a1_1) := (blk_cell BK214.out 1).trans rfl
              have hcz25_2 : wr.cell? ⟨gb214, 2, none⟩ = some (.int .i64 a1_2) := (blk_cell BK214.out 2).trans rfl
              have hcz25_3 : wr.cell? ⟨gb214, 3, none⟩ = some (.int .i64 a1_3) := (blk_cell BK214.out 3).trans rfl
              have hfz25_0 := blk_frozen BK214.out 0
              have hfz25_1 := blk_frozen BK214.out 1
              have hfz25_2 := blk_frozen BK214.out 2
              have hfz25_3 := blk_frozen BK214.out 3
              go_wp2
              repeat (go_quiet (fail); try go_wp2)
              go_ret
              exact ⟨by first | rfl | (simp [errW_none, errW_some] <;> rfl) | (simp [*, errW_none, errW_some] <;> rfl), by repeat (first | (with_reducible first | exact HB.out | apply below_alloc | apply pw_below_drewN | apply below_drew1 | refine below_set ?_ GE213.out | refine below_set ?_ GE214.out) | exact HB.out)⟩
          · rw [if_neg c16] at H
            clear c16
            by_cases c26 : x5_1 = 2
            · rw [if_pos c26] at H
              have Ac26 : Aside0 (x5_1 = 2) := ⟨c26⟩
              clear c26
              have ar27e : x5_1 = 2 := by first | exact (show Aside0 (x5_1 = 2) by assumption).out | exact beq_iff_eq.mp (by assumption) | omega
              have ar27n : (x5_1).toNat = 2 := by rw [ar27e]; rfl
              have ar27l : decide (0 ≤ x5_1) = true := decide_eq_true (by omega)
              have ar27L := eq_true (of_decide_eq_true ar27l)
              have ar27h : decide (x5_1 < 4) = true := decide_eq_true (by omega)
              have ar27H := eq_true (of_decide_eq_true ar27h)
              clear ar27e
              have ar28e : x5_1 = 2 := by first | exact (show Aside0 (x5_1 = 2) by assumption).out | exact beq_iff_eq.mp (by assumption) | omega
              have ar28n : (x5_1).toNat = 2 := by rw [ar28e]; rfl
              have ar28l : decide (0 ≤ x5_1) = true := decide_eq_true (by omega)
              have ar28L := eq_true (of_decide_eq_true ar28l)
              have ar28h : decide (x5_1 < 4) = true := decide_eq_true (by omega)
              have ar28H := eq_true (of_decide_eq_true ar28h)
              clear ar28e
              by_cases c29 : a0_2 = a1_2
              · rw [if_pos c29] at H
                have c29b0 : (a0_2 == a1_2) = true := beq_iff_eq.mpr c29
                have c29b1 : (a0_2 != a1_2) = false := bne_eq_false_iff_eq.mpr c29
                clear c29
                have H' := Aside0.mk H
                clear H
                have hnb30 := NB213_214.out
                have hnc30 := NB214_213.out
                have hcz31_0 : wr.cell? ⟨gb213, 0, none⟩ = some (.int .i64 a0_0) := (blk_cell BK213.out 0).trans rfl
                have hcz31_1 : wr.cell? ⟨gb213, 1, none⟩ = some (.int .i64 a0_1) := (blk_cell BK213.out 1).trans rfl
                have hcz31_2 : wr.cell? ⟨gb213, 2, none⟩ = some (.int .i64 a0_2) := (blk_cell BK213.out 2).trans rfl
                have hcz31_3 : wr.cell? ⟨gb213, 3, none⟩ = some (.int .i64 a0_3) := (blk_cell BK213.out 3).trans rfl
                have hfz31_0 := blk_frozen BK213.out 0
                have hfz31_1 := blk_frozen BK213.out 1
                have hfz31_2 := blk_frozen BK213.out 2
                have hfz31_3 := blk_frozen BK213.out 3
                have hcz32_0 : wr.cell? ⟨gb214, 0, none⟩ = some (.int .i64 a1_0) := (blk_cell BK214.out 0).trans rfl
                have hcz32_1 : wr.cell? ⟨gb214, 1, none⟩ = some (.int .i64 a1_1) := (blk_cell BK214.out 1).trans rfl
                have hcz32_2 : wr.cell? ⟨gb214, 2, none⟩ = some (.int .i64 a1_2) := (blk_cell BK214.out 2).trans rfl
                have hcz32_3 : wr.cell? ⟨gb214, 3, none⟩ = some (.int .i64 a1_3) := (blk_cell BK214.out 3).trans rfl
                have hfz32_0 := blk_frozen BK214.out 0
                have hfz32_1 := blk_frozen BK214.out 1
                have hfz32_2 := blk_frozen BK214.out 2
                have hfz32_3 := blk_frozen BK214.out 3
                go_wp2
                repeat (go_quiet (fail); try go_wp2)
                go_roundg k1
                case measure => have := HK1.out; omega
                case rel => exact ⟨(wrap64 (x5_1 + 1)), (by first | rfl | (simp; done) | (simp [*]; done) | (exact congrArg (Value.int .i64) (wrap_eq (by omega)))), H', ⟨by have := HK1.out; omega⟩, ⟨by (with_reducible repeat (first | refine blk_drewN ?_ _ | refine blk_drew ?_ | refine blk_alloc ?_ _)); exact BK213.out⟩, ⟨by (with_reducible repeat (first | refine blk_drewN ?_ _ | refine blk_drew ?_ | refine blk_alloc ?_ _)); exact BK214.out⟩, ⟨by repeat (first | (with_reducible first | exact HB.out | apply below_alloc | apply pw_below_drewN | apply below_drew1 | refine below_set ?_ GE213.out | refine below_set ?_ GE214.out) | exact HB.out)⟩⟩
              · rw [if_neg c29] at H
                have c29b0 : (a0_2 == a1_2) = false := beq_eq_false_iff_ne.mpr c29
                have c29b1 : (a0_2 != a1_2) = true := bne_iff_ne.mpr c29
                obtain rfl := Option.some.inj H
                have hnb33 := NB213_214.out
                have hnc33 := NB214_213.out
                have hcz34_0 : wr.cell? ⟨gb213, 0, none⟩ = some (.int .i64 a0_0) := (blk_cell BK213.out 0).trans rfl
                have hcz34_1 : wr.cell? ⟨gb213, 1, none⟩ = some (.int .i64 a0_1) := (blk_cell BK213.out 1).trans rfl
                have hcz34_2 : wr.cell? ⟨gb213, 2, none⟩ = some (.int .i64 a0_2) := (blk_cell BK213.out 2).trans rfl
                have hcz34_3 : wr.cell? ⟨gb213, 3, none⟩ = some (.int .i64 a0_3) := (blk_cell BK213.out 3).trans rfl
                have hfz34_0 := blk_frozen BK213.out 0
                have hfz34_1 := blk_frozen BK213.out 1
                have hfz34_2 := blk_frozen BK213.out 2
                have hfz34_3 := blk_frozen BK213.out 3
                have hcz35_0 : wr.cell? ⟨gb214, 0, none⟩ = some (.int .i64 a1_0) := (blk_cell BK214.out 0).trans rfl
                have hcz35_1 : wr.cell? ⟨gb214, 1, none⟩ = some (.int .i64 a1_1) := (blk_cell BK214.out 1).trans rfl
                have hcz35_2 : wr.cell? ⟨gb214, 2, none⟩ = some (.int .i64 a1_2) := (blk_cell BK214.out 2).trans rfl
                have hcz35_3 : wr.cell? ⟨gb214, 3, none⟩ = some (.int .i64 a1_3) := (blk_cell BK214.out 3).trans rfl
                have hfz35_0 := blk_frozen BK214.out 0
                have hfz35_1 := blk_frozen BK214.out 1
                have hfz35_2 := blk_frozen BK214.out 2
                have hfz35_3 := blk_frozen BK214.out 3
                go_wp2
                repeat (go_quiet (fail); try go_wp2)
                go_ret
                exact ⟨by first | rfl | (simp [errW_none, errW_some] <;> rfl) | (simp [*, errW_none, errW_some] <;> rfl), by repeat (first | (with_reducible first | exact HB.out | apply below_alloc | apply pw_below_drewN | apply below_drew1 | refine below_set ?_ GE213.out | refine below_set ?_ GE214.out) | exact HB.out)⟩
            · rw [if_neg c26] at H
              clear c26
              by_cases c36 : x5_1 = 3
              · rw [if_pos c36] at H
                have Ac36 : Aside0 (x5_1 = 3) := ⟨c36⟩
                clear c36
                have ar37e : x5_1 = 3 := by first | exact (show Aside0 (x5_1 = 3) by assumption).out | exact beq_iff_eq.mp (by assumption) | omega
                have ar37n : (x5_1).toNat = 3 := by rw [ar37e]; rfl
                have ar37l : decide (0 ≤ x5_1) = true := decide_eq_true (by omega)
                have ar37L := eq_true (of_decide_eq_true ar37l)
                have ar37h : decide (x5_1 < 4) = true := decide_eq_true (by omega)
                have ar37H := eq_true (of_decide_eq_true ar37h)
                clear ar37e
                have ar38e : x5_1 = 3 := by first | exact (show Aside0 (x5_1 = 3) by assumption).out | exact beq_iff_eq.mp (by assumption) | omega
                have ar38n : (x5_1).toNat = 3 := by rw [ar38e]; rfl
                have ar38l : decide (0 ≤ x5_1) = true := decide_eq_true (by omega)
                have ar38L := eq_true (of_decide_eq_true ar38l)
                have ar38h : decide (x5_1 < 4) = true := decide_eq_true (by omega)
                have ar38H := eq_true (of_decide_eq_true ar38h)
                clear ar38e
                by_cases c39 : a0_3 = a1_3
                · rw [if_pos c39] at H
                  have c39b0 : (a0_3 == a1_3) = true := beq_iff_eq.mpr c39
                  have c39b1 : (a0_3 != a1_3) = false := bne_eq_false_iff_eq.mpr c39
                  clear c39
                  have H' := Aside0.mk H
                  clear H
                  have hnb40 := NB213_214.out
                  have hnc40 := NB214_213.out
                  have hcz41_0 : wr.cell? ⟨gb213, 0, none⟩ = some (.int .i64 a0_0) := (blk_cell BK213.out 0).trans rfl
                  have hcz41_1 : wr.cell? ⟨gb213, 1, none⟩ = some (.int .i64 a0_1) := (blk_cell BK213.out 1).trans rfl
                  have hcz41_2 : wr.cell? ⟨gb213, 2, none⟩ = some (.int .i64 a0_2) := (blk_cell BK213.out 2).trans rfl
                  have hcz41_3 : wr.cell? ⟨gb213, 3, none⟩ = some (.int .i64 a0_3) := (blk_cell BK213.out 3).trans rfl
                  have hfz41_0 := blk_frozen BK213.out 0
                  have hfz41_1 := blk_frozen BK213.out 1
                  have hfz41_2 := blk_frozen BK213.out 2
                  have hfz41_3 := blk_frozen BK213.out 3
                  have hcz42_0 : wr.cell? ⟨gb214, 0, none⟩ = some (.int .i64 a1_0) := (blk_cell BK214.out 0).trans rfl
                  have hcz42_1 : wr.cell? ⟨gb214, 1, none⟩ = some (.int .i64 a1_1) := (blk_cell BK214.out 1).trans rfl
                  have hcz42_2 : wr.cell? ⟨gb214, 2, none⟩ = some (.int .i64 a1_2) := (blk_cell BK214.out 2).trans rfl
                  have hcz42_3 : wr.cell? ⟨gb214, 3, none⟩ = some (.int .i64 a1_3) := (blk_cell BK214.out 3).trans rfl
                  have hfz42_0 := blk_frozen BK214.out 0
                  have hfz42_1 := blk_frozen BK214.out 1
                  have hfz42_2 := blk_frozen BK214.out 2
                  have hfz42_3 := blk_frozen BK214.out 3
                  go_wp2
                  repeat (go_quiet (fail); try go_wp2)
                  go_roundg k1
                  case measure => have := HK1.out; omega
                  case rel => exact ⟨(wrap64 (x5_1 + 1)), (by first | rfl | (simp; done) | (simp [*]; done) | (exact congrArg (Value.int .i64) (wrap_eq (by omega)))), H', ⟨by have := HK1.out; omega⟩, ⟨by (with_reducible repeat (first | refine blk_drewN ?_ _ | refine blk_drew ?_ | refine blk_alloc ?_ _)); exact BK213.out⟩, ⟨by (with_reducible repeat (first | refine blk_drewN ?_ _ | refine blk_drew ?_ | refine blk_alloc ?_ _)); exact BK214.out⟩, ⟨by repeat (first | (with_reducible first | exact HB.out | apply below_alloc | apply pw_below_drewN | apply below_drew1 | refine below_set ?_ GE213.out | refine below_set ?_ GE214.out) | exact HB.out)⟩⟩
                · rw [if_neg c39] at H
                  have c39b0 : (a0_3 == a1_3) = false := beq_eq_false_iff_ne.mpr c39
                  have c39b1 : (a0_3 != a1_3) = true := bne_iff_ne.mpr c39
                  obtain rfl := Option.some.inj H
                  have hnb43 := NB213_214.out
                  have hnc43 := NB214_213.out
                  have hcz44_0 : wr.cell? ⟨gb213, 0, none⟩ = some (.int .i64 a0_0) := (blk_cell BK213.out 0).trans rfl
                  have hcz44_1 : wr.cell? ⟨gb213, 1, none⟩ = some (.int .i64 a0_1) := (blk_cell BK213.out 1).trans rfl
                  have hcz44_2 : wr.cell? ⟨gb213, 2, none⟩ = some (.int .i64 a0_2) := (blk_cell BK213.out 2).trans rfl
                  have hcz44_3 : wr.cell? ⟨gb213, 3, none⟩ = some (.int .i64 a0_3) := (blk_cell BK213.out 3).trans rfl
                  have hfz44_0 := blk_frozen BK213.out 0
                  have hfz44_1 := blk_frozen BK213.out 1
                  have hfz44_2 := blk_frozen BK213.out 2
                  have hfz44_3 := blk_frozen BK213.out 3
                  have hcz45_0 : wr.cell? ⟨gb214, 0, none⟩ = some (.int .i64 a1_0) := (blk_cell BK214.out 0).trans rfl
                  have hcz45_1 : wr.cell? ⟨gb214, 1, none⟩ = some (.int .i64 a1_1) := (blk_cell BK214.out 1).trans rfl
                  have hcz45_2 : wr.cell? ⟨gb214, 2, none⟩ = some (.int .i64 a1_2) := (blk_cell BK214.out 2).trans rfl
                  have hcz45_3 : wr.cell? ⟨gb214, 3, none⟩ = some (.int .i64 a1_3) := (blk_cell BK214.out 3).trans rfl
                  have hfz45_0 := blk_frozen BK214.out 0
                  have hfz45_1 := blk_frozen BK214.out 1
                  have hfz45_2 := blk_frozen BK214.out 2
                  have hfz45_3 := blk_frozen BK214.out 3
                  go_wp2
                  repeat (go_quiet (fail); try go_wp2)
                  go_ret
                  exact ⟨by first | rfl | (simp [errW_none, errW_some] <;> rfl) | (simp [*, errW_none, errW_some] <;> rfl), by repeat (first | (with_reducible first | exact HB.out | apply below_alloc | apply pw_below_drewN | apply below_drew1 | refine below_set ?_ GE213.out | refine below_set ?_ GE214.out) | exact HB.out)⟩
              · rw [if_neg c36] at H
                exact absurd H (by simp)
      · rw [if_neg c5] at H
        have c5b0 : decide (x5_1 < 4) = false := decide_eq_false c5
        clear c5
        obtain rfl := Option.some.inj H
        go_wp2
        repeat (go_quiet (fail); try go_wp2)
        go_ret
        exact ⟨by first | rfl | (simp [errW_none, errW_some] <;> rfl) | (simp [*, errW_none, errW_some] <;> rfl), by repeat (first | (with_reducible first | exact HB.out | apply below_alloc | apply pw_below_drewN | apply below_drew1 | refine below_set ?_ GE213.out | refine below_set ?_ GE214.out) | exact HB.out)⟩

end Go.Proofs.Ytffnfpnajkgnaaa.PFnExactNeighboursOf
