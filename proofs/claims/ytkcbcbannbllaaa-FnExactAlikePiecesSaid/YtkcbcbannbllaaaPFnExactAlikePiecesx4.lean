-- WRITTEN by xprint.py, a program of this session's. Not trusted: Lean checks it.
import Derived.Test.YtkcbcbannbllaaaPFnExactAlikePiecesx0
import Derived.Test.YtkcbcbannbllaaaPFnExactAlikePiecesx3
namespace Go.Proofs.Ytkcbcbannbllaaa.PFnExactAlikePieces
open Go.RowKit Go.Proofs.YtkcbcbannbllaaaW.PrintWords Go.Proofs.YtkcbcbannbllaaaW.PrintLast Go.Proofs.YtkcbcbannbllaaaW.PrintMore Go.Proofs.YtkcbcbannbllaaaX
attribute [local go_sem] max2_int min2_int max_two min_two max_three min_three max_four min_four   -- for this text's walks alone
set_option linter.unusedVariables false
set_option linter.unusedSimpArgs false

/-! ### impl_AlikePieces: function 40 -/
mutual
def impl_AlikePieces.j0 : Nat → Bool → Int → Int → Int → Int → Int → Int → Int → Int → Int → Int → Option (Bool × Int)
  | 0, _, _, _, _, _, _, _, _, _, _, _ => none
  | k + 1, x18, x205000, x205001, x205002, x205003, x205004, x206000, x206001, x206002, x206003, x206004 => if x18 = true then (some (false, 1)) else (impl_AlikePieces.l0 k 0 x205000 x205001 x205002 x205003 x205004 x206000 x206001 x206002 x206003 x206004)
def impl_AlikePieces.l0 : Nat → Int → Int → Int → Int → Int → Int → Int → Int → Int → Int → Int → Option (Bool × Int)
  | 0, _, _, _, _, _, _, _, _, _, _, _ => none
  | k + 1, x19, x205000, x205001, x205002, x205003, x205004, x206000, x206001, x206002, x206003, x206004 => if x19 < 4 then ((impl_Piece_falls.f k x205000 x205001 x205002 x205003 x205004 x19).bind fun bt208 => ((impl_Piece_falls.f k x206000 x206001 x206002 x206003 x206004 x19).bind fun bt210 => (if (bt208.1 != bt210.1) = true then (some (false, 0)) else (if bt208.2 = bt210.2 then (impl_AlikePieces.l0 k (wrap64 (x19 + 1)) x205000 x205001 x205002 x205003 x205004 x206000 x206001 x206002 x206003 x206004) else (some (false, 0)))))) else (some ((x205004 == x206004), 0))
end
def impl_AlikePieces.f (k : Nat) (a0_0 : Int) (a0_1 : Int) (a0_2 : Int) (a0_3 : Int) (a0_4 : Int) (a1_0 : Int) (a1_1 : Int) (a1_2 : Int) (a1_3 : Int) (a1_4 : Int) : Option (Bool × Int) := (impl_ValidPiece.f a0_0 a0_1 a0_2 a0_3 a0_4).bind fun t206 => (if t206 = true then ((impl_ValidPiece.f a1_0 a1_1 a1_2 a1_3 a1_4).bind fun t207 => (impl_AlikePieces.j0 k (!t207) a0_0 a0_1 a0_2 a0_3 a0_4 a1_0 a1_1 a1_2 a1_3 a1_4)) else (impl_AlikePieces.j0 k true a0_0 a0_1 a0_2 a0_3 a0_4 a1_0 a1_1 a1_2 a1_3 a1_4))
theorem impl_AlikePieces.mono_l : ∀ k, (∀ y0 y1 y2 y3 y4 y5 y6 y7 y8 y9 y10, LeO (impl_AlikePieces.j0 k y0 y1 y2 y3 y4 y5 y6 y7 y8 y9 y10) (impl_AlikePieces.j0 (k + 1) y0 y1 y2 y3 y4 y5 y6 y7 y8 y9 y10)) ∧ (∀ y0 y1 y2 y3 y4 y5 y6 y7 y8 y9 y10, LeO (impl_AlikePieces.l0 k y0 y1 y2 y3 y4 y5 y6 y7 y8 y9 y10) (impl_AlikePieces.l0 (k + 1) y0 y1 y2 y3 y4 y5 y6 y7 y8 y9 y10))
  | 0 => ⟨fun _ _ _ _ _ _ _ _ _ _ _ r h => by simp [impl_AlikePieces.j0] at h, fun _ _ _ _ _ _ _ _ _ _ _ r h => by simp [impl_AlikePieces.l0] at h⟩
  | k + 1 => by
    obtain ⟨ih0, ih1⟩ := impl_AlikePieces.mono_l k
    refine ⟨?_, ?_⟩
    · intro y0 y1 y2 y3 y4 y5 y6 y7 y8 y9 y10
      unfold impl_AlikePieces.j0
      repeat' first
      | (with_reducible exact ih0 _ _ _ _ _ _ _ _ _ _ _)
      | (with_reducible exact ih1 _ _ _ _ _ _ _ _ _ _ _)
      | (with_reducible exact impl_Piece_falls.mono _ _ _ _ _ _ _)
      | (with_reducible exact LeO.refl _)
      | (with_reducible exact LeO.none _)
      | (with_reducible refine LeO.ite ?_ ?_)
      | (with_reducible refine LeO.bind ?_ (fun _ => ?_))
      | exact ih0 _ _ _ _ _ _ _ _ _ _ _
      | exact ih1 _ _ _ _ _ _ _ _ _ _ _
      | exact impl_Piece_falls.mono _ _ _ _ _ _ _
      | exact LeO.none _
      | refine LeO.ite ?_ ?_
      | refine LeO.bind ?_ (fun _ => ?_)
    · intro y0 y1 y2 y3 y4 y5 y6 y7 y8 y9 y10
      unfold impl_AlikePieces.l0
      repeat' first
      | (with_reducible exact ih0 _ _ _ _ _ _ _ _ _ _ _)
      | (with_reducible exact ih1 _ _ _ _ _ _ _ _ _ _ _)
      | (with_reducible exact impl_Piece_falls.mono _ _ _ _ _ _ _)
      | (with_reducible exact LeO.refl _)
      | (with_reducible exact LeO.none _)
      | (with_reducible refine LeO.ite ?_ ?_)
      | (with_reducible refine LeO.bind ?_ (fun _ => ?_))
      | exact ih0 _ _ _ _ _ _ _ _ _ _ _
      | exact ih1 _ _ _ _ _ _ _ _ _ _ _
      | exact impl_Piece_falls.mono _ _ _ _ _ _ _
      | exact LeO.none _
      | refine LeO.ite ?_ ?_
      | refine LeO.bind ?_ (fun _ => ?_)
theorem impl_AlikePieces.mono : ∀ a0 a1 a2 a3 a4 a5 a6 a7 a8 a9 k, LeO (impl_AlikePieces.f k a0 a1 a2 a3 a4 a5 a6 a7 a8 a9) (impl_AlikePieces.f (k + 1) a0 a1 a2 a3 a4 a5 a6 a7 a8 a9) := by
  intro a0 a1 a2 a3 a4 a5 a6 a7 a8 a9 k
  obtain ⟨ih0, ih1⟩ := impl_AlikePieces.mono_l k
  unfold impl_AlikePieces.f
  repeat' first
      | (with_reducible exact ih0 _ _ _ _ _ _ _ _ _ _ _)
      | (with_reducible exact ih1 _ _ _ _ _ _ _ _ _ _ _)
      | (with_reducible exact impl_Piece_falls.mono _ _ _ _ _ _ _)
      | (with_reducible exact LeO.refl _)
      | (with_reducible exact LeO.none _)
      | (with_reducible refine LeO.ite ?_ ?_)
      | (with_reducible refine LeO.bind ?_ (fun _ => ?_))
      | exact ih0 _ _ _ _ _ _ _ _ _ _ _
      | exact ih1 _ _ _ _ _ _ _ _ _ _ _
      | exact impl_Piece_falls.mono _ _ _ _ _ _ _
      | exact LeO.none _
      | refine LeO.ite ?_ ?_
      | refine LeO.bind ?_ (fun _ => ?_)
set_option maxHeartbeats 8000000 in
set_option maxRecDepth 100000 in
theorem impl_AlikePieces.calls (k : Nat) (a0_0 : Int) (a0_1 : Int) (a0_2 : Int) (a0_3 : Int) (a0_4 : Int) (a1_0 : Int) (a1_1 : Int) (a1_2 : Int) (a1_3 : Int) (a1_4 : Int) (r1 : Bool) (r2 : Int) (w : World) (h : impl_AlikePieces.f k a0_0 a0_1 a0_2 a0_3 a0_4 a1_0 a1_1 a1_2 a1_3 a1_4 = some (r1, r2)) :
    Calls Try.prog 40 #[.agg #[.int .i8 a0_0, .int .i8 a0_1, .int .i8 a0_2, .int .i8 a0_3, .int .i8 a0_4], .agg #[.int .i8 a1_0, .int .i8 a1_1, .int .i8 a1_2, .int .i8 a1_3, .int .i8 a1_4]] w fun e w' => e = .returned (.tuple #[.bool r1, .int .i64 r2]) ∧ Below w.heap.size w w' := by
  have hu34 := Try.underlying34
  have HB := Aside0.mk (Below.refl w.heap.size w)
  have H : ((impl_ValidPiece.f a0_0 a0_1 a0_2 a0_3 a0_4).bind fun t206 => (if t206 = true then ((impl_ValidPiece.f a1_0 a1_1 a1_2 a1_3 a1_4).bind fun t207 => (impl_AlikePieces.j0 k (!t207) a0_0 a0_1 a0_2 a0_3 a0_4 a1_0 a1_1 a1_2 a1_3 a1_4)) else (impl_AlikePieces.j0 k true a0_0 a0_1 a0_2 a0_3 a0_4 a1_0 a1_1 a1_2 a1_3 a1_4))) = some (r1, r2) := h
  clear h
  have HC3 := Aside0.mk H
  clear H
  go_enter Try.func40, Try.ntmps40
  go_upto_region 1 with (first | ((with_reducible refine gate_dst (N := 2) rfl ?_); refine box_event ?hg (N := 2) ?hd (cs := #[.int .i8 a0_0, .int .i8 a0_1, .int .i8 a0_2, .int .i8 a0_3, .int .i8 a0_4]) (t := 34) ?hr ?_; (case hd => rfl); (case hg => rfl); (case hr => first | (go_simp; done) | (go_simp; rfl)); intro gb204 hg w4 hbox hb; have n0_ := Aside0.mk (below_step (by repeat (first | (with_reducible first | exact HB.out | apply below_alloc | apply pw_below_drewN | apply below_drew1) | exact HB.out)) hb); have n1_ := Aside0.mk (hbox); have n2_ := Aside0.mk ((by rw [hg]; exact (below_size (by repeat (first | (with_reducible first | exact HB.out | apply below_alloc | apply pw_below_drewN | apply below_drew1) | exact HB.out))) : w.heap.size ≤ gb204)); have n3_ := Aside0.mk ((by rw [hg]; exact (below_size (by repeat (first | (with_reducible first | exact HB.out | apply below_alloc | apply pw_below_drewN | apply below_drew1) | exact HB.out))) : w.heap.size ≤ gb204)); clear HB; have HB := n0_; have BK204 := n1_; have GW204 := n2_; have GE204 := n3_; clear n0_ n1_ n2_ n3_; clear hb hbox hg) | ((with_reducible refine gate_dst (N := 3) rfl ?_); refine box_event ?hg (N := 3) ?hd (cs := #[.int .i8 a1_0, .int .i8 a1_1, .int .i8 a1_2, .int .i8 a1_3, .int .i8 a1_4]) (t := 34) ?hr ?_; (case hd => rfl); (case hg => rfl); (case hr => first | (go_simp; done) | (go_simp; rfl)); intro gb205 hg w5 hbox hb; have n0_ := Aside0.mk (blk_below (g := gb204) (o := .cells #[.int .i8 a0_0, .int .i8 a0_1, .int .i8 a0_2, .int .i8 a0_3, .int .i8 a0_4] 34 (0, 0)) (by (with_reducible repeat (first | refine blk_drewN ?_ _ | refine blk_drew ?_ | refine blk_alloc ?_ _)); exact BK204.out) hb); have n1_ := Aside0.mk (below_step (by repeat (first | (with_reducible first | exact HB.out | apply below_alloc | apply pw_below_drewN | apply below_drew1 | refine below_set ?_ GE204.out) | exact HB.out)) hb); have n2_ := Aside0.mk (hbox); have n3_ := Aside0.mk ((by rw [hg]; exact (below_size (by repeat (first | (with_reducible first | exact HB.out | apply below_alloc | apply pw_below_drewN | apply below_drew1 | refine below_set ?_ GE204.out) | exact HB.out))) : w.heap.size ≤ gb205)); have n4_ := Aside0.mk ((by rw [hg]; exact (below_size (by repeat (first | (with_reducible first | exact HB.out | apply below_alloc | apply pw_below_drewN | apply below_drew1 | refine below_set ?_ GE204.out) | exact HB.out))) : w.heap.size ≤ gb205)); have n5_ := Aside0.mk ((by rw [hg]; exact Nat.ne_of_lt (blk_lt (g := gb204) (o := .cells #[.int .i8 a0_0, .int .i8 a0_1, .int .i8 a0_2, .int .i8 a0_3, .int .i8 a0_4] 34 (0, 0)) (by (with_reducible repeat (first | refine blk_drewN ?_ _ | refine blk_drew ?_ | refine blk_alloc ?_ _)); exact BK204.out)) : gb204 ≠ gb205)); have n6_ := Aside0.mk ((by rw [hg]; exact Nat.ne_of_gt (blk_lt (g := gb204) (o := .cells #[.int .i8 a0_0, .int .i8 a0_1, .int .i8 a0_2, .int .i8 a0_3, .int .i8 a0_4] 34 (0, 0)) (by (with_reducible repeat (first | refine blk_drewN ?_ _ | refine blk_drew ?_ | refine blk_alloc ?_ _)); exact BK204.out)) : gb205 ≠ gb204)); clear BK204; clear HB; have BK204 := n0_; have HB := n1_; have BK205 := n2_; have GW205 := n3_; have GE205 := n4_; have NB204_205 := n5_; have NB205_204 := n6_; clear n0_ n1_ n2_ n3_ n4_ n5_ n6_; clear hb hbox hg))
  (try simp only [Act.put, List.setIfInBounds_toArray, List.set_cons_zero, List.set_cons_succ])
  go_cut [18] (fun v18 wc => ∃ (kq : Nat) (x18_2 : Bool), v18 = .bool x18_2 ∧ Aside0 (impl_AlikePieces.j0 kq x18_2 a0_0 a0_1 a0_2 a0_3 a0_4 a1_0 a1_1 a1_2 a1_3 a1_4 = some (r1, r2)) ∧ Aside0 (kq ≤ k) ∧ Aside0 (wc.heap[gb204]? = some (.cells #[.int .i8 a0_0, .int .i8 a0_1, .int .i8 a0_2, .int .i8 a0_3, .int .i8 a0_4] 34 (0, 0))) ∧ Aside0 (wc.heap[gb205]? = some (.cells #[.int .i8 a1_0, .int .i8 a1_1, .int .i8 a1_2, .int .i8 a1_3, .int .i8 a1_4] 34 (0, 0))) ∧ Aside0 (Below w.heap.size w wc))
  case first =>
    have H := HC3.out
    clear HC3
    replace H := Option.bind_eq_some_iff.mp H
    obtain ⟨t206, A60, H⟩ := H
    replace H : (if t206 = true then ((impl_ValidPiece.f a1_0 a1_1 a1_2 a1_3 a1_4).bind fun t207 => (impl_AlikePieces.j0 k (!t207) a0_0 a0_1 a0_2 a0_3 a0_4 a1_0 a1_1 a1_2 a1_3 a1_4)) else (impl_AlikePieces.j0 k true a0_0 a0_1 a0_2 a0_3 a0_4 a1_0 a1_1 a1_2 a1_3 a1_4)) = some (r1, r2) := H
    have A6 := Aside0.mk A60
    clear A60
    by_cases c7 : t206 = true
    · subst c7
      have H1 : ((impl_ValidPiece.f a1_0 a1_1 a1_2 a1_3 a1_4).bind fun t207 => (impl_AlikePieces.j0 k (!t207) a0_0 a0_1 a0_2 a0_3 a0_4 a1_0 a1_1 a1_2 a1_3 a1_4)) = some (r1, r2) := by rw [if_pos rfl] at H; exact H
      clear H
      have H := H1
      clear H1
      replace H := Option.bind_eq_some_iff.mp H
      obtain ⟨t207, A80, H⟩ := H
      replace H : (impl_AlikePieces.j0 k (!t207) a0_0 a0_1 a0_2 a0_3 a0_4 a1_0 a1_1 a1_2 a1_3 a1_4) = some (r1, r2) := H
      have A8 := Aside0.mk A80
      clear A80
      have H' := Aside0.mk H
      clear H
      have hnb9 := NB204_205.out
      have hnc9 := NB205_204.out
      have hcz10_0 : w5.cell? ⟨gb204, 0, none⟩ = some (.int .i8 a0_0) := (blk_cell BK204.out 0).trans rfl
      have hcz10_1 : w5.cell? ⟨gb204, 1, none⟩ = some (.int .i8 a0_1) := (blk_cell BK204.out 1).trans rfl
      have hcz10_2 : w5.cell? ⟨gb204, 2, none⟩ = some (.int .i8 a0_2) := (blk_cell BK204.out 2).trans rfl
      have hcz10_3 : w5.cell? ⟨gb204, 3, none⟩ = some (.int .i8 a0_3) := (blk_cell BK204.out 3).trans rfl
      have hcz10_4 : w5.cell? ⟨gb204, 4, none⟩ = some (.int .i8 a0_4) := (blk_cell BK204.out 4).trans rfl
      have hfz10_0 := blk_frozen BK204.out 0
      have hfz10_1 := blk_frozen BK204.out 1
      have hfz10_2 := blk_frozen BK204.out 2
      have hfz10_3 := blk_frozen BK204.out 3
      have hfz10_4 := blk_frozen BK204.out 4
      go_wp2_with (first | ((with_reducible refine gate_callee (f := 21) rfl ?_); refine goesL_ (some 12) rfl rfl Try.func21 (by kernel_rfl) rfl #[.agg #[.int .i8 a0_0, .int .i8 a0_1, .int .i8 a0_2, .int .i8 a0_3, .int .i8 a0_4]] rfl (by (try simp only [List.map_toArray, List.map_cons, List.map_nil]); first | done | rfl | (simp only [List.length_drop, List.length_take]; rfl)) ?_; (with_reducible refine (impl_ValidPiece.calls a0_0 a0_1 a0_2 a0_3 a0_4 true _ A6.out).mono ?_); rintro e w11 ⟨rfl, hb⟩; refine ⟨_, rfl, ?_⟩; have n0_ := Aside0.mk (blk_below (g := gb204) (o := .cells #[.int .i8 a0_0, .int .i8 a0_1, .int .i8 a0_2, .int .i8 a0_3, .int .i8 a0_4] 34 (0, 0)) (by (with_reducible repeat (first | refine blk_drewN ?_ _ | refine blk_drew ?_ | refine blk_alloc ?_ _)); exact BK204.out) hb); have n1_ := Aside0.mk (blk_below (g := gb205) (o := .cells #[.int .i8 a1_0, .int .i8 a1_1, .int .i8 a1_2, .int .i8 a1_3, .int .i8 a1_4] 34 (0, 0)) (by (with_reducible repeat (first | refine blk_drewN ?_ _ | refine blk_drew ?_ | refine blk_alloc ?_ _)); exact BK205.out) hb); have n2_ := Aside0.mk (below_step (by repeat (first | (with_reducible first | exact HB.out | apply below_alloc | apply pw_below_drewN | apply below_drew1 | refine below_set ?_ GE204.out | refine below_set ?_ GE205.out) | exact HB.out)) hb); clear BK204; clear BK205; clear HB; have BK204 := n0_; have BK205 := n1_; have HB := n2_; clear n0_ n1_ n2_; (try clear hb); (try clear hb2); (try clear hk); (try clear hi); have hcz12_0 : w11.cell? ⟨gb205, 0, none⟩ = some (.int .i8 a1_0) := (blk_cell BK205.out 0).trans rfl; have hcz12_1 : w11.cell? ⟨gb205, 1, none⟩ = some (.int .i8 a1_1) := (blk_cell BK205.out 1).trans rfl; have hcz12_2 : w11.cell? ⟨gb205, 2, none⟩ = some (.int .i8 a1_2) := (blk_cell BK205.out 2).trans rfl; have hcz12_3 : w11.cell? ⟨gb205, 3, none⟩ = some (.int .i8 a1_3) := (blk_cell BK205.out 3).trans rfl; have hcz12_4 : w11.cell? ⟨gb205, 4, none⟩ = some (.int .i8 a1_4) := (blk_cell BK205.out 4).trans rfl; have hfz12_0 := blk_frozen BK205.out 0; have hfz12_1 := blk_frozen BK205.out 1; have hfz12_2 := blk_frozen BK205.out 2; have hfz12_3 := blk_frozen BK205.out 3; have hfz12_4 := blk_frozen BK205.out 4) | (go_at_call 21; (with_reducible refine (impl_ValidPiece.calls a1_0 a1_1 a1_2 a1_3 a1_4 t207 _ A8.out).mono ?_); rintro e w13 ⟨rfl, hb⟩; have n0_ := Aside0.mk (blk_below (g := gb204) (o := .cells #[.int .i8 a0_0, .int .i8 a0_1, .int .i8 a0_2, .int .i8 a0_3, .int .i8 a0_4] 34 (0, 0)) (by (with_reducible repeat (first | refine blk_drewN ?_ _ | refine blk_drew ?_ | refine blk_alloc ?_ _)); exact BK204.out) hb); have n1_ := Aside0.mk (blk_below (g := gb205) (o := .cells #[.int .i8 a1_0, .int .i8 a1_1, .int .i8 a1_2, .int .i8 a1_3, .int .i8 a1_4] 34 (0, 0)) (by (with_reducible repeat (first | refine blk_drewN ?_ _ | refine blk_drew ?_ | refine blk_alloc ?_ _)); exact BK205.out) hb); have n2_ := Aside0.mk (below_step (by repeat (first | (with_reducible first | exact HB.out | apply below_alloc | apply pw_below_drewN | apply below_drew1 | refine below_set ?_ GE204.out | refine below_set ?_ GE205.out) | exact HB.out)) hb); clear BK204; clear BK205; clear HB; have BK204 := n0_; have BK205 := n1_; have HB := n2_; clear n0_ n1_ n2_; (try clear hb); (try clear hb2); (try clear hk); (try clear hi)))
      go_meet
      case rel => exact ⟨_, (!t207), (by first | rfl | (simp; done) | (simp [*]; done) | (exact congrArg (Value.int .i64) (wrap_eq (by omega)))), H', ⟨by first | omega | exact Nat.le_refl _⟩, ⟨by (with_reducible repeat (first | refine blk_drewN ?_ _ | refine blk_drew ?_ | refine blk_alloc ?_ _)); exact BK204.out⟩, ⟨by (with_reducible repeat (first | refine blk_drewN ?_ _ | refine blk_drew ?_ | refine blk_alloc ?_ _)); exact BK205.out⟩, ⟨by repeat (first | (with_reducible first | exact HB.out | apply below_alloc | apply pw_below_drewN | apply below_drew1 | refine below_set ?_ GE204.out | refine below_set ?_ GE205.out) | exact HB.out)⟩⟩
    · replace c7 := Bool.eq_false_iff.mpr c7
      subst c7
      have H1 : (impl_AlikePieces.j0 k true a0_0 a0_1 a0_2 a0_3 a0_4 a1_0 a1_1 a1_2 a1_3 a1_4) = some (r1, r2) := by rw [if_neg (show ¬ (false = true) by decide)] at H; exact H
      clear H
      have H := H1
      clear H1
      have H' := Aside0.mk H
      clear H
      have hnb14 := NB204_205.out
      have hnc14 := NB205_204.out
      have hcz15_0 : w5.cell? ⟨gb204, 0, none⟩ = some (.int .i8 a0_0) := (blk_cell BK204.out 0).trans rfl
      have hcz15_1 : w5.cell? ⟨gb204, 1, none⟩ = some (.int .i8 a0_1) := (blk_cell BK204.out 1).trans rfl
      have hcz15_2 : w5.cell? ⟨gb204, 2, none⟩ = some (.int .i8 a0_2) := (blk_cell BK204.out 2).trans rfl
      have hcz15_3 : w5.cell? ⟨gb204, 3, none⟩ = some (.int .i8 a0_3) := (blk_cell BK204.out 3).trans rfl
      have hcz15_4 : w5.cell? ⟨gb204, 4, none⟩ = some (.int .i8 a0_4) := (blk_cell BK204.out 4).trans rfl
      have hfz15_0 := blk_frozen BK204.out 0
      have hfz15_1 := blk_frozen BK204.out 1
      have hfz15_2 := blk_frozen BK204.out 2
      have hfz15_3 := blk_frozen BK204.out 3
      have hfz15_4 := blk_frozen BK204.out 4
      go_wp2_with (first | ((with_reducible refine gate_callee (f := 21) rfl ?_); refine goesL_ (some 12) rfl rfl Try.func21 (by kernel_rfl) rfl #[.agg #[.int .i8 a0_0, .int .i8 a0_1, .int .i8 a0_2, .int .i8 a0_3, .int .i8 a0_4]] rfl (by (try simp only [List.map_toArray, List.map_cons, List.map_nil]); first | done | rfl | (simp only [List.length_drop, List.length_take]; rfl)) ?_; (with_reducible refine (impl_ValidPiece.calls a0_0 a0_1 a0_2 a0_3 a0_4 false _ A6.out).mono ?_); rintro e w16 ⟨rfl, hb⟩; refine ⟨_, rfl, ?_⟩; have n0_ := Aside0.mk (blk_below (g := gb204) (o := .cells #[.int .i8 a0_0, .int .i8 a0_1, .int .i8 a0_2, .int .i8 a0_3, .int .i8 a0_4] 34 (0, 0)) (by (with_reducible repeat (first | refine blk_drewN ?_ _ | refine blk_drew ?_ | refine blk_alloc ?_ _)); exact BK204.out) hb); have n1_ := Aside0.mk (blk_below (g := gb205) (o := .cells #[.int .i8 a1_0, .int .i8 a1_1, .int .i8 a1_2, .int .i8 a1_3, .int .i8 a1_4] 34 (0, 0)) (by (with_reducible repeat (first | refine blk_drewN ?_ _ | refine blk_drew ?_ | refine blk_alloc ?_ _)); exact BK205.out) hb); have n2_ := Aside0.mk (below_step (by repeat (first | (with_reducible first | exact HB.out | apply below_alloc | apply pw_below_drewN | apply below_drew1 | refine below_set ?_ GE204.out | refine below_set ?_ GE205.out) | exact HB.out)) hb); clear BK204; clear BK205; clear HB; have BK204 := n0_; have BK205 := n1_; have HB := n2_; clear n0_ n1_ n2_; (try clear hb); (try clear hb2); (try clear hk); (try clear hi)))
      go_meet
      case rel => exact ⟨_, (true), (by first | rfl | (simp; done) | (simp [*]; done) | (exact congrArg (Value.int .i64) (wrap_eq (by omega)))), H', ⟨by first | omega | exact Nat.le_refl _⟩, ⟨by (with_reducible repeat (first | refine blk_drewN ?_ _ | refine blk_drew ?_ | refine blk_alloc ?_ _)); exact BK204.out⟩, ⟨by (with_reducible repeat (first | refine blk_drewN ?_ _ | refine blk_drew ?_ | refine blk_alloc ?_ _)); exact BK205.out⟩, ⟨by repeat (first | (with_reducible first | exact HB.out | apply below_alloc | apply pw_below_drewN | apply below_drew1 | refine below_set ?_ GE204.out | refine below_set ?_ GE205.out) | exact HB.out)⟩⟩
  case rest =>
    clear HC3
    try clear c1
    try clear c2
    try clear p2
    try clear c4
    try clear c7
    try clear c9
    try clear c14
    try clear hcz10_0
    try clear hcz10_1
    try clear hcz10_2
    try clear hcz10_3
    try clear hcz10_4
    try clear hcz12_0
    try clear hcz12_1
    try clear hcz12_2
    try clear hcz12_3
    try clear hcz12_4
    try clear hcz15_0
    try clear hcz15_1
    try clear hcz15_2
    try clear hcz15_3
    try clear hcz15_4
    try clear hfz10_0
    try clear hfz10_1
    try clear hfz10_2
    try clear hfz10_3
    try clear hfz10_4
    try clear hfz12_0
    try clear hfz12_1
    try clear hfz12_2
    try clear hfz12_3
    try clear hfz12_4
    try clear hfz15_0
    try clear hfz15_1
    try clear hfz15_2
    try clear hfz15_3
    try clear hfz15_4
    obtain ⟨kq, x18_2, rfl, HA, HJ2, BK204, BK205, HB⟩ := hcut
    cases kq with
    | zero => exact absurd HA.out (by simp [impl_AlikePieces.j0])
    | succ kj2 =>
      have H := HA.out
      clear HA
      simp only [impl_AlikePieces.j0] at H
      by_cases c17 : x18_2 = true
      · subst c17
        have H1 : (some (false, 1)) = some (r1, r2) := by rw [if_pos rfl] at H; exact H
        clear H
        have H := H1
        clear H1
        simp only [Option.some.injEq, Prod.mk.injEq] at H
        obtain ⟨rfl, rfl⟩ := H
        go_wp2
        go_ret2
        exact ⟨by first | rfl | (simp [errW_none, errW_some] <;> rfl) | (simp [*, errW_none, errW_some] <;> rfl), by repeat (first | (with_reducible first | exact HB.out | apply below_alloc | apply pw_below_drewN | apply below_drew1 | refine below_set ?_ GE204.out | refine below_set ?_ GE205.out) | exact HB.out)⟩
      · replace c17 := Bool.eq_false_iff.mpr c17
        subst c17
        have H1 : (impl_AlikePieces.l0 kj2 0 a0_0 a0_1 a0_2 a0_3 a0_4 a1_0 a1_1 a1_2 a1_3 a1_4) = some (r1, r2) := by rw [if_neg (show ¬ (false = true) by decide)] at H; exact H
        clear H
        have H := H1
        clear H1
        have H' := Aside0.mk H
        clear H
        go_wp2
        go_loopg [19] kj2 (fun kq v19 w' => ∃ (x19_2 : Int), v19 = .int .i64 x19_2 ∧ Aside0 (impl_AlikePieces.l0 kq x19_2 a0_0 a0_1 a0_2 a0_3 a0_4 a1_0 a1_1 a1_2 a1_3 a1_4 = some (r1, r2)) ∧ Aside0 (kq ≤ kj2) ∧ Aside0 (w'.heap[gb204]? = some (.cells #[.int .i8 a0_0, .int .i8 a0_1, .int .i8 a0_2, .int .i8 a0_3, .int .i8 a0_4] 34 (0, 0))) ∧ Aside0 (w'.heap[gb205]? = some (.cells #[.int .i8 a1_0, .int .i8 a1_1, .int .i8 a1_2, .int .i8 a1_3, .int .i8 a1_4] 34 (0, 0))) ∧ Aside0 (Below w.heap.size w w'))
        case atStart => exact ⟨(0), (by first | rfl | (simp; done) | (simp [*]; done) | (exact congrArg (Value.int .i64) (wrap_eq (by omega)))), H', ⟨Nat.le_refl _⟩, ⟨by (with_reducible repeat (first | refine blk_drewN ?_ _ | refine blk_drew ?_ | refine blk_alloc ?_ _)); exact BK204.out⟩, ⟨by (with_reducible repeat (first | refine blk_drewN ?_ _ | refine blk_drew ?_ | refine blk_alloc ?_ _)); exact BK205.out⟩, ⟨by repeat (first | (with_reducible first | exact HB.out | apply below_alloc | apply pw_below_drewN | apply below_drew1 | refine below_set ?_ GE204.out | refine below_set ?_ GE205.out) | exact HB.out)⟩⟩
        case round =>
          clear H'
          try clear c1
          try clear c2
          try clear p2
          try clear c4
          try clear c7
          try clear c9
          try clear c14
          try clear c17
          try clear hcz10_0
          try clear hcz10_1
          try clear hcz10_2
          try clear hcz10_3
          try clear hcz10_4
          try clear hcz12_0
          try clear hcz12_1
          try clear hcz12_2
          try clear hcz12_3
          try clear hcz12_4
          try clear hcz15_0
          try clear hcz15_1
          try clear hcz15_2
          try clear hcz15_3
          try clear hcz15_4
          try clear hfz10_0
          try clear hfz10_1
          try clear hfz10_2
          try clear hfz10_3
          try clear hfz10_4
          try clear hfz12_0
          try clear hfz12_1
          try clear hfz12_2
          try clear hfz12_3
          try clear hfz12_4
          try clear hfz15_0
          try clear hfz15_1
          try clear hfz15_2
          try clear hfz15_3
          try clear hfz15_4
          try clear p2
          obtain ⟨x19_2, rfl, HA, HK2, BK204, BK205, HB⟩ := hrel
          cases gk with
          | zero => exact absurd HA.out (by simp [impl_AlikePieces.l0])
          | succ k2 =>
            have H := HA.out
            clear HA
            simp only [impl_AlikePieces.l0] at H
            by_cases c18 : x19_2 < 4
            · rw [if_pos c18] at H
              have c18b0 : decide (x19_2 < 4) = true := decide_eq_true c18
              clear c18
              replace H := Option.bind_eq_some_iff.mp H
              obtain ⟨⟨t208, t209⟩, A190, H⟩ := H
              replace H : ((impl_Piece_falls.f k2 a1_0 a1_1 a1_2 a1_3 a1_4 x19_2).bind fun bt210 => (if (t208 != bt210.1) = true then (some (false, 0)) else (if t209 = bt210.2 then (impl_AlikePieces.l0 k2 (wrap64 (x19_2 + 1)) a0_0 a0_1 a0_2 a0_3 a0_4 a1_0 a1_1 a1_2 a1_3 a1_4) else (some (false, 0))))) = some (r1, r2) := H
              have A19 := Aside0.mk A190
              clear A190
              replace H := Option.bind_eq_some_iff.mp H
              obtain ⟨⟨t210, t211⟩, A200, H⟩ := H
              replace H : (if (t208 != t210) = true then (some (false, 0)) else (if t209 = t211 then (impl_AlikePieces.l0 k2 (wrap64 (x19_2 + 1)) a0_0 a0_1 a0_2 a0_3 a0_4 a1_0 a1_1 a1_2 a1_3 a1_4) else (some (false, 0)))) = some (r1, r2) := H
              have A20 := Aside0.mk A200
              clear A200
              by_cases c21 : (t208 != t210) = true
              · rw [if_pos c21] at H
                have c21b0 : (t208 != t210) = true := c21
                (try (have c21b1 : decide (t208 = t210) = false := by first | (simpa using c21) | (have h_ := c21; revert h_; cases t208 <;> cases t210 <;> decide)))
                (try (have c21b2 : (t208 == t210) = false := by first | (simpa using c21) | (have h_ := c21; revert h_; cases t208 <;> cases t210 <;> decide)))
                (try (have c21b3 : ¬ (t208 = t210) := by simpa using c21))
                clear c21
                simp only [Option.some.injEq, Prod.mk.injEq] at H
                obtain ⟨rfl, rfl⟩ := H
                have hnb22 := NB204_205.out
                have hnc22 := NB205_204.out
                have hcz23_0 : wr.cell? ⟨gb204, 0, none⟩ = some (.int .i8 a0_0) := (blk_cell BK204.out 0).trans rfl
                have hcz23_1 : wr.cell? ⟨gb204, 1, none⟩ = some (.int .i8 a0_1) := (blk_cell BK204.out 1).trans rfl
                have hcz23_2 : wr.cell? ⟨gb204, 2, none⟩ = some (.int .i8 a0_2) := (blk_cell BK204.out 2).trans rfl
                have hcz23_3 : wr.cell? ⟨gb204, 3, none⟩ = some (.int .i8 a0_3) := (blk_cell BK204.out 3).trans rfl
                have hcz23_4 : wr.cell? ⟨gb204, 4, none⟩ = some (.int .i8 a0_4) := (blk_cell BK204.out 4).trans rfl
                have hfz23_0 := blk_frozen BK204.out 0
                have hfz23_1 := blk_frozen BK204.out 1
                have hfz23_2 := blk_frozen BK204.out 2
                have hfz23_3 := blk_frozen BK204.out 3
                have hfz23_4 := blk_frozen BK204.out 4
                go_wp2_with (first | ((with_reducible refine gate_callee (f := 72) rfl ?_); refine goesL_ (some 25) rfl rfl Try.func72 (by kernel_rfl) rfl #[.agg #[.int .i8 a0_0, .int .i8 a0_1, .int .i8 a0_2, .int .i8 a0_3, .int .i8 a0_4], .int .i64 x19_2] rfl (by (try simp only [List.map_toArray, List.map_cons, List.map_nil]); first | done | rfl | (simp only [List.length_drop, List.length_take]; rfl)) ?_; (with_reducible refine (impl_Piece_falls.calls k2 a0_0 a0_1 a0_2 a0_3 a0_4 x19_2 t208 t209 _ A19.out).mono ?_); rintro e w24 ⟨rfl, hb⟩; refine ⟨_, rfl, ?_⟩; have n0_ := Aside0.mk (blk_below (g := gb204) (o := .cells #[.int .i8 a0_0, .int .i8 a0_1, .int .i8 a0_2, .int .i8 a0_3, .int .i8 a0_4] 34 (0, 0)) (by (with_reducible repeat (first | refine blk_drewN ?_ _ | refine blk_drew ?_ | refine blk_alloc ?_ _)); exact BK204.out) hb); have n1_ := Aside0.mk (blk_below (g := gb205) (o := .cells #[.int .i8 a1_0, .int .i8 a1_1, .int .i8 a1_2, .int .i8 a1_3, .int .i8 a1_4] 34 (0, 0)) (by (with_reducible repeat (first | refine blk_drewN ?_ _ | refine blk_drew ?_ | refine blk_alloc ?_ _)); exact BK205.out) hb); have n2_ := Aside0.mk (below_step (by repeat (first | (with_reducible first | exact HB.out | apply below_alloc | apply pw_below_drewN | apply below_drew1 | refine below_set ?_ GE204.out | refine below_set ?_ GE205.out) | exact HB.out)) hb); clear BK204; clear BK205; clear HB; have BK204 := n0_; have BK205 := n1_; have HB := n2_; clear n0_ n1_ n2_; (try clear hb); (try clear hb2); (try clear hk); (try clear hi); have hcz25_0 : w24.cell? ⟨gb205, 0, none⟩ = some (.int .i8 a1_0) := (blk_cell BK205.out 0).trans rfl; have hcz25_1 : w24.cell? ⟨gb205, 1, none⟩ = some (.int .i8 a1_1) := (blk_cell BK205.out 1).trans rfl; have hcz25_2 : w24.cell? ⟨gb205, 2, none⟩ = some (.int .i8 a1_2) := (blk_cell BK205.out 2).trans rfl; have hcz25_3 : w24.cell? ⟨gb205, 3, none⟩ = some (.int .i8 a1_3) := (blk_cell BK205.out 3).trans rfl; have hcz25_4 : w24.cell? ⟨gb205, 4, none⟩ = some (.int .i8 a1_4) := (blk_cell BK205.out 4).trans rfl; have hfz25_0 := blk_frozen BK205.out 0; have hfz25_1 := blk_frozen BK205.out 1; have hfz25_2 := blk_frozen BK205.out 2; have hfz25_3 := blk_frozen BK205.out 3; have hfz25_4 := blk_frozen BK205.out 4) | ((with_reducible refine gate_callee (f := 72) rfl ?_); refine goesL_ (some 31) rfl rfl Try.func72 (by kernel_rfl) rfl #[.agg #[.int .i8 a1_0, .int .i8 a1_1, .int .i8 a1_2, .int .i8 a1_3, .int .i8 a1_4], .int .i64 x19_2] rfl (by (try simp only [List.map_toArray, List.map_cons, List.map_nil]); first | done | rfl | (simp only [List.length_drop, List.length_take]; rfl)) ?_; (with_reducible refine (impl_Piece_falls.calls k2 a1_0 a1_1 a1_2 a1_3 a1_4 x19_2 t210 t211 _ A20.out).mono ?_); rintro e w26 ⟨rfl, hb⟩; refine ⟨_, rfl, ?_⟩; have n0_ := Aside0.mk (blk_below (g := gb204) (o := .cells #[.int .i8 a0_0, .int .i8 a0_1, .int .i8 a0_2, .int .i8 a0_3, .int .i8 a0_4] 34 (0, 0)) (by (with_reducible repeat (first | refine blk_drewN ?_ _ | refine blk_drew ?_ | refine blk_alloc ?_ _)); exact BK204.out) hb); have n1_ := Aside0.mk (blk_below (g := gb205) (o := .cells #[.int .i8 a1_0, .int .i8 a1_1, .int .i8 a1_2, .int .i8 a1_3, .int .i8 a1_4] 34 (0, 0)) (by (with_reducible repeat (first | refine blk_drewN ?_ _ | refine blk_drew ?_ | refine blk_alloc ?_ _)); exact BK205.out) hb); have n2_ := Aside0.mk (below_step (by repeat (first | (with_reducible first | exact HB.out | apply below_alloc | apply pw_below_drewN | apply below_drew1 | refine below_set ?_ GE204.out | refine below_set ?_ GE205.out) | exact HB.out)) hb); clear BK204; clear BK205; clear HB; have BK204 := n0_; have BK205 := n1_; have HB := n2_; clear n0_ n1_ n2_; (try clear hb); (try clear hb2); (try clear hk); (try clear hi)))
                go_ret2
                exact ⟨by first | rfl | (simp [errW_none, errW_some] <;> rfl) | (simp [*, errW_none, errW_some] <;> rfl), by repeat (first | (with_reducible first | exact HB.out | apply below_alloc | apply pw_below_drewN | apply below_drew1 | refine below_set ?_ GE204.out | refine below_set ?_ GE205.out) | exact HB.out)⟩
              · rw [if_neg c21] at H
                have c21b0 : (t208 != t210) = false := by simpa using c21
                (try (have c21b1 : decide (t208 = t210) = true := by first | (simpa using c21) | (have h_ := c21; revert h_; cases t208 <;> cases t210 <;> decide)))
                (try (have c21b2 : (t208 == t210) = true := by first | (simpa using c21) | (have h_ := c21; revert h_; cases t208 <;> cases t210 <;> decide)))
                clear c21
                by_cases c27 : t209 = t211
                · rw [if_pos c27] at H
                  have c27b0 : (t209 == t211) = true := beq_iff_eq.mpr c27
                  have c27b1 : (t209 != t211) = false := bne_eq_false_iff_eq.mpr c27
                  clear c27
                  have H' := Aside0.mk H
                  clear H
                  have hnb28 := NB204_205.out
                  have hnc28 := NB205_204.out
                  have hcz29_0 : wr.cell? ⟨gb204, 0, none⟩ = some (.int .i8 a0_0) := (blk_cell BK204.out 0).trans rfl
                  have hcz29_1 : wr.cell? ⟨gb204, 1, none⟩ = some (.int .i8 a0_1) := (blk_cell BK204.out 1).trans rfl
                  have hcz29_2 : wr.cell? ⟨gb204, 2, none⟩ = some (.int .i8 a0_2) := (blk_cell BK204.out 2).trans rfl
                  have hcz29_3 : wr.cell? ⟨gb204, 3, none⟩ = some (.int .i8 a0_3) := (blk_cell BK204.out 3).trans rfl
                  have hcz29_4 : wr.cell? ⟨gb204, 4, none⟩ = some (.int .i8 a0_4) := (blk_cell BK204.out 4).trans rfl
                  have hfz29_0 := blk_frozen BK204.out 0
                  have hfz29_1 := blk_frozen BK204.out 1
                  have hfz29_2 := blk_frozen BK204.out 2
                  have hfz29_3 := blk_frozen BK204.out 3
                  have hfz29_4 := blk_frozen BK204.out 4
                  go_wp2_with (first | ((with_reducible refine gate_callee (f := 72) rfl ?_); refine goesL_ (some 25) rfl rfl Try.func72 (by kernel_rfl) rfl #[.agg #[.int .i8 a0_0, .int .i8 a0_1, .int .i8 a0_2, .int .i8 a0_3, .int .i8 a0_4], .int .i64 x19_2] rfl (by (try simp only [List.map_toArray, List.map_cons, List.map_nil]); first | done | rfl | (simp only [List.length_drop, List.length_take]; rfl)) ?_; (with_reducible refine (impl_Piece_falls.calls k2 a0_0 a0_1 a0_2 a0_3 a0_4 x19_2 t208 t209 _ A19.out).mono ?_); rintro e w30 ⟨rfl, hb⟩; refine ⟨_, rfl, ?_⟩; have n0_ := Aside0.mk (blk_below (g := gb204) (o := .cells #[.int .i8 a0_0, .int .i8 a0_1, .int .i8 a0_2, .int .i8 a0_3, .int .i8 a0_4] 34 (0, 0)) (by (with_reducible repeat (first | refine blk_drewN ?_ _ | refine blk_drew ?_ | refine blk_alloc ?_ _)); exact BK204.out) hb); have n1_ := Aside0.mk (blk_below (g := gb205) (o := .cells #[.int .i8 a1_0, .int .i8 a1_1, .int .i8 a1_2, .int .i8 a1_3, .int .i8 a1_4] 34 (0, 0)) (by (with_reducible repeat (first | refine blk_drewN ?_ _ | refine blk_drew ?_ | refine blk_alloc ?_ _)); exact BK205.out) hb); have n2_ := Aside0.mk (below_step (by repeat (first | (with_reducible first | exact HB.out | apply below_alloc | apply pw_below_drewN | apply below_drew1 | refine below_set ?_ GE204.out | refine below_set ?_ GE205.out) | exact HB.out)) hb); clear BK204; clear BK205; clear HB; have BK204 := n0_; have BK205 := n1_; have HB := n2_; clear n0_ n1_ n2_; (try clear hb); (try clear hb2); (try clear hk); (try clear hi); have hcz31_0 : w30.cell? ⟨gb205, 0, none⟩ = some (.int .i8 a1_0) := (blk_cell BK205.out 0).trans rfl; have hcz31_1 : w30.cell? ⟨gb205, 1, none⟩ = some (.int .i8 a1_1) := (blk_cell BK205.out 1).trans rfl; have hcz31_2 : w30.cell? ⟨gb205, 2, none⟩ = some (.int .i8 a1_2) := (blk_cell BK205.out 2).trans rfl; have hcz31_3 : w30.cell? ⟨gb205, 3, none⟩ = some (.int .i8 a1_3) := (blk_cell BK205.out 3).trans rfl; have hcz31_4 : w30.cell? ⟨gb205, 4, none⟩ = some (.int .i8 a1_4) := (blk_cell BK205.out 4).trans rfl; have hfz31_0 := blk_frozen BK205.out 0; have hfz31_1 := blk_frozen BK205.out 1; have hfz31_2 := blk_frozen BK205.out 2; have hfz31_3 := blk_frozen BK205.out 3; have hfz31_4 := blk_frozen BK205.out 4) | ((with_reducible refine gate_callee (f := 72) rfl ?_); refine goesL_ (some 31) rfl rfl Try.func72 (by kernel_rfl) rfl #[.agg #[.int .i8 a1_0, .int .i8 a1_1, .int .i8 a1_2, .int .i8 a1_3, .int .i8 a1_4], .int .i64 x19_2] rfl (by (try simp only [List.map_toArray, List.map_cons, List.map_nil]); first | done | rfl | (simp only [List.length_drop, List.length_take]; rfl)) ?_; (with_reducible refine (impl_Piece_falls.calls k2 a1_0 a1_1 a1_2 a1_3 a1_4 x19_2 t210 t211 _ A20.out).mono ?_); rintro e w32 ⟨rfl, hb⟩; refine ⟨_, rfl, ?_⟩; have n0_ := Aside0.mk (blk_below (g := gb204) (o := .cells #[.int .i8 a0_0, .int .i8 a0_1, .int .i8 a0_2, .int .i8 a0_3, .int .i8 a0_4] 34 (0, 0)) (by (with_reducible repeat (first | refine blk_drewN ?_ _ | refine blk_drew ?_ | refine blk_alloc ?_ _)); exact BK204.out) hb); have n1_ := Aside0.mk (blk_below (g := gb205) (o := .cells #[.int .i8 a1_0, .int .i8 a1_1, .int .i8 a1_2, .int .i8 a1_3, .int .i8 a1_4] 34 (0, 0)) (by (with_reducible repeat (first | refine blk_drewN ?_ _ | refine blk_drew ?_ | refine blk_alloc ?_ _)); exact BK205.out) hb); have n2_ := Aside0.mk (below_step (by repeat (first | (with_reducible first | exact HB.out | apply below_alloc | apply pw_below_drewN | apply below_drew1 | refine below_set ?_ GE204.out | refine below_set ?_ GE205.out) | exact HB.out)) hb); clear BK204; clear BK205; clear HB; have BK204 := n0_; have BK205 := n1_; have HB := n2_; clear n0_ n1_ n2_; (try clear hb); (try clear hb2); (try clear hk); (try clear hi)))
                  go_roundg k2
                  case measure => have := HJ2.out; have := HK2.out; omega
                  case rel => exact ⟨(wrap64 (x19_2 + 1)), (by first | rfl | (simp; done) | (simp [*]; done) | (exact congrArg (Value.int .i64) (wrap_eq (by omega)))), H', ⟨by have := HJ2.out; have := HK2.out; omega⟩, ⟨by (with_reducible repeat (first | refine blk_drewN ?_ _ | refine blk_drew ?_ | refine blk_alloc ?_ _)); exact BK204.out⟩, ⟨by (with_reducible repeat (first | refine blk_drewN ?_ _ | refine blk_drew ?_ | refine blk_alloc ?_ _)); exact BK205.out⟩, ⟨by repeat (first | (with_reducible first | exact HB.out | apply below_alloc | apply pw_below_drewN | apply below_drew1 | refine below_set ?_ GE204.out | refine below_set ?_ GE205.out) | exact HB.out)⟩⟩
                · rw [if_neg c27] at H
                  have c27b0 : (t209 == t211) = false := beq_eq_false_iff_ne.mpr c27
                  have c27b1 : (t209 != t211) = true := bne_iff_ne.mpr c27
                  simp only [Option.some.injEq, Prod.mk.injEq] at H
                  obtain ⟨rfl, rfl⟩ := H
                  have hnb33 := NB204_205.out
                  have hnc33 := NB205_204.out
                  have hcz34_0 : wr.cell? ⟨gb204, 0, none⟩ = some (.int .i8 a0_0) := (blk_cell BK204.out 0).trans rfl
                  have hcz34_1 : wr.cell? ⟨gb204, 1, none⟩ = some (.int .i8 a0_1) := (blk_cell BK204.out 1).trans rfl
                  have hcz34_2 : wr.cell? ⟨gb204, 2, none⟩ = some (.int .i8 a0_2) := (blk_cell BK204.out 2).trans rfl
                  have hcz34_3 : wr.cell? ⟨gb204, 3, none⟩ = some (.int .i8 a0_3) := (blk_cell BK204.out 3).trans rfl
                  have hcz34_4 : wr.cell? ⟨gb204, 4, none⟩ = some (.int .i8 a0_4) := (blk_cell BK204.out 4).trans rfl
                  have hfz34_0 := blk_frozen BK204.out 0
                  have hfz34_1 := blk_frozen BK204.out 1
                  have hfz34_2 := blk_frozen BK204.out 2
                  have hfz34_3 := blk_frozen BK204.out 3
                  have hfz34_4 := blk_frozen BK204.out 4
                  go_wp2_with (first | ((with_reducible refine gate_callee (f := 72) rfl ?_); refine goesL_ (some 25) rfl rfl Try.func72 (by kernel_rfl) rfl #[.agg #[.int .i8 a0_0, .int .i8 a0_1, .int .i8 a0_2, .int .i8 a0_3, .int .i8 a0_4], .int .i64 x19_2] rfl (by (try simp only [List.map_toArray, List.map_cons, List.map_nil]); first | done | rfl | (simp only [List.length_drop, List.length_take]; rfl)) ?_; (with_reducible refine (impl_Piece_falls.calls k2 a0_0 a0_1 a0_2 a0_3 a0_4 x19_2 t208 t209 _ A19.out).mono ?_); rintro e w35 ⟨rfl, hb⟩; refine ⟨_, rfl, ?_⟩; have n0_ := Aside0.mk (blk_below (g := gb204) (o := .cells #[.int .i8 a0_0, .int .i8 a0_1, .int .i8 a0_2, .int .i8 a0_3, .int .i8 a0_4] 34 (0, 0)) (by (with_reducible repeat (first | refine blk_drewN ?_ _ | refine blk_drew ?_ | refine blk_alloc ?_ _)); exact BK204.out) hb); have n1_ := Aside0.mk (blk_below (g := gb205) (o := .cells #[.int .i8 a1_0, .int .i8 a1_1, .int .i8 a1_2, .int .i8 a1_3, .int .i8 a1_4] 34 (0, 0)) (by (with_reducible repeat (first | refine blk_drewN ?_ _ | refine blk_drew ?_ | refine blk_alloc ?_ _)); exact BK205.out) hb); have n2_ := Aside0.mk (below_step (by repeat (first | (with_reducible first | exact HB.out | apply below_alloc | apply pw_below_drewN | apply below_drew1 | refine below_set ?_ GE204.out | refine below_set ?_ GE205.out) | exact HB.out)) hb); clear BK204; clear BK205; clear HB; have BK204 := n0_; have BK205 := n1_; have HB := n2_; clear n0_ n1_ n2_; (try clear hb); (try clear hb2); (try clear hk); (try clear hi); have hcz36_0 : w35.cell? ⟨gb205, 0, none⟩ = some (.int .i8 a1_0) := (blk_cell BK205.out 0).trans rfl; have hcz36_1 : w35.cell? ⟨gb205, 1, none⟩ = some (.int .i8 a1_1) := (blk_cell BK205.out 1).trans rfl; have hcz36_2 : w35.cell? ⟨gb205, 2, none⟩ = some (.int .i8 a1_2) := (blk_cell BK205.out 2).trans rfl; have hcz36_3 : w35.cell? ⟨gb205, 3, none⟩ = some (.int .i8 a1_3) := (blk_cell BK205.out 3).trans rfl; have hcz36_4 : w35.cell? ⟨gb205, 4, none⟩ = some (.int .i8 a1_4) := (blk_cell BK205.out 4).trans rfl; have hfz36_0 := blk_frozen BK205.out 0; have hfz36_1 := blk_frozen BK205.out 1; have hfz36_2 := blk_frozen BK205.out 2; have hfz36_3 := blk_frozen BK205.out 3; have hfz36_4 := blk_frozen BK205.out 4) | ((with_reducible refine gate_callee (f := 72) rfl ?_); refine goesL_ (some 31) rfl rfl Try.func72 (by kernel_rfl) rfl #[.agg #[.int .i8 a1_0, .int .i8 a1_1, .int .i8 a1_2, .int .i8 a1_3, .int .i8 a1_4], .int .i64 x19_2] rfl (by (try simp only [List.map_toArray, List.map_cons, List.map_nil]); first | done | rfl | (simp only [List.length_drop, List.length_take]; rfl)) ?_; (with_reducible refine (impl_Piece_falls.calls k2 a1_0 a1_1 a1_2 a1_3 a1_4 x19_2 t210 t211 _ A20.out).mono ?_); rintro e w37 ⟨rfl, hb⟩; refine ⟨_, rfl, ?_⟩; have n0_ := Aside0.mk (blk_below (g := gb204) (o := .cells #[.int .i8 a0_0, .int .i8 a0_1, .int .i8 a0_2, .int .i8 a0_3, .int .i8 a0_4] 34 (0, 0)) (by (with_reducible repeat (first | refine blk_drewN ?_ _ | refine blk_drew ?_ | refine blk_alloc ?_ _)); exact BK204.out) hb); have n1_ := Aside0.mk (blk_below (g := gb205) (o := .cells #[.int .i8 a1_0, .int .i8 a1_1, .int .i8 a1_2, .int .i8 a1_3, .int .i8 a1_4] 34 (0, 0)) (by (with_reducible repeat (first | refine blk_drewN ?_ _ | refine blk_drew ?_ | refine blk_alloc ?_ _)); exact BK205.out) hb); have n2_ := Aside0.mk (below_step (by repeat (first | (with_reducible first | exact HB.out | apply below_alloc | apply pw_below_drewN | apply below_drew1 | refine below_set ?_ GE204.out | refine below_set ?_ GE205.out) | exact HB.out)) hb); clear BK204; clear BK205; clear HB; have BK204 := n0_; have BK205 := n1_; have HB := n2_; clear n0_ n1_ n2_; (try clear hb); (try clear hb2); (try clear hk); (try clear hi)))
                  go_ret2
                  exact ⟨by first | rfl | (simp [errW_none, errW_some] <;> rfl) | (simp [*, errW_none, errW_some] <;> rfl), by repeat (first | (with_reducible first | exact HB.out | apply below_alloc | apply pw_below_drewN | apply below_drew1 | refine below_set ?_ GE204.out | refine below_set ?_ GE205.out) | exact HB.out)⟩
            · rw [if_neg c18] at H
              have c18b0 : decide (x19_2 < 4) = false := decide_eq_false c18
              clear c18
              simp only [Option.some.injEq, Prod.mk.injEq] at H
              obtain ⟨rfl, rfl⟩ := H
              have hnb38 := NB204_205.out
              have hnc38 := NB205_204.out
              have hcz39_0 : wr.cell? ⟨gb204, 0, none⟩ = some (.int .i8 a0_0) := (blk_cell BK204.out 0).trans rfl
              have hcz39_1 : wr.cell? ⟨gb204, 1, none⟩ = some (.int .i8 a0_1) := (blk_cell BK204.out 1).trans rfl
              have hcz39_2 : wr.cell? ⟨gb204, 2, none⟩ = some (.int .i8 a0_2) := (blk_cell BK204.out 2).trans rfl
              have hcz39_3 : wr.cell? ⟨gb204, 3, none⟩ = some (.int .i8 a0_3) := (blk_cell BK204.out 3).trans rfl
              have hcz39_4 : wr.cell? ⟨gb204, 4, none⟩ = some (.int .i8 a0_4) := (blk_cell BK204.out 4).trans rfl
              have hfz39_0 := blk_frozen BK204.out 0
              have hfz39_1 := blk_frozen BK204.out 1
              have hfz39_2 := blk_frozen BK204.out 2
              have hfz39_3 := blk_frozen BK204.out 3
              have hfz39_4 := blk_frozen BK204.out 4
              have hcz40_0 : wr.cell? ⟨gb205, 0, none⟩ = some (.int .i8 a1_0) := (blk_cell BK205.out 0).trans rfl
              have hcz40_1 : wr.cell? ⟨gb205, 1, none⟩ = some (.int .i8 a1_1) := (blk_cell BK205.out 1).trans rfl
              have hcz40_2 : wr.cell? ⟨gb205, 2, none⟩ = some (.int .i8 a1_2) := (blk_cell BK205.out 2).trans rfl
              have hcz40_3 : wr.cell? ⟨gb205, 3, none⟩ = some (.int .i8 a1_3) := (blk_cell BK205.out 3).trans rfl
              have hcz40_4 : wr.cell? ⟨gb205, 4, none⟩ = some (.int .i8 a1_4) := (blk_cell BK205.out 4).trans rfl
              have hfz40_0 := blk_frozen BK205.out 0
              have hfz40_1 := blk_frozen BK205.out 1
              have hfz40_2 := blk_frozen BK205.out 2
              have hfz40_3 := blk_frozen BK205.out 3
              have hfz40_4 := blk_frozen BK205.out 4
              go_wp2
              go_ret2
              exact ⟨by first | rfl | (simp [errW_none, errW_some] <;> rfl) | (simp [*, errW_none, errW_some] <;> rfl), by repeat (first | (with_reducible first | exact HB.out | apply below_alloc | apply pw_below_drewN | apply below_drew1 | refine below_set ?_ GE204.out | refine below_set ?_ GE205.out) | exact HB.out)⟩

end Go.Proofs.Ytkcbcbannbllaaa.PFnExactAlikePieces
