-- WRITTEN by xprint.py, a program of this session's. Not trusted: Lean checks it.
import Derived.Laws.CopyRow
import Derived.Deep.OwnRows
import Derived.Test.YtdjhcnepndflmaaPFnExactBoardPicturex0
import Derived.Test.YtdjhcnepndflmaaPFnExactBoardPicturex6
namespace Go.Proofs.Ytdjhcnepndflmaa.PFnExactBoardPicture
open Go.RowKit Go.Proofs.YtdjhcnepndflmaaW.PrintWords Go.Proofs.YtdjhcnepndflmaaW.PrintLast Go.Proofs.YtdjhcnepndflmaaW.PrintMore Go.Proofs.YtdjhcnepndflmaaX
attribute [local go_sem] max2_int min2_int max_two min_two max_three min_three max_four min_four   -- for this text's walks alone
set_option linter.unusedVariables false
set_option linter.unusedSimpArgs false

/-! ### impl_ValidBoard: function 29 -/
theorem cellKey : CellKey Try.prog 34 22 := ⟨Try.underlying34, Try.underlying22, by kernel_rfl⟩
theorem zeroBool (w : World) : (zeroValue 4).run Try.prog w = .ok (.bool false) w := by kernel_rfl
mutual
def impl_ValidBoard.j0 : Nat → Bool → Int → Int → List (S62) → Option (Bool)
  | 0, _, _, _, _ => none
  | k + 1, x23, x171000, x171001, x171002 => if x23 = true then (some false) else (impl_ValidBoard.l0 k x171002 (x171002.length : Int) 0 x171000 x171001 x171002 [])
def impl_ValidBoard.l0 : Nat → List (S62) → Int → Int → Int → Int → List (S62) → List ((Int × Int) × Unit) → Option (Bool)
  | 0, _, _, _, _, _, _, _ => none
  | k + 1, x26, x27, x28, x171000, x171001, x171002, x900 => if x28 < x27 then (if 0 ≤ x28 then (if x28 < (x26.length : Int) then ((impl_ValidPiece.f ((rd_T62 x26 x28).f0.f0) ((rd_T62 x26 x28).f0.f1) ((rd_T62 x26 x28).f1) ((rd_T62 x26 x28).f2) ((rd_T62 x26 x28).f3)).bind fun t175 => (if t175 = true then ((impl_Board_has.f [(⟨x171000, x171001, x171002⟩ : S30)] ((rd_T62 x26 x28).f0.f0) ((rd_T62 x26 x28).f0.f1)).bind fun t176 => (if t176 = true then (if (mfind x900 ((rd_T62 x26 x28).f0.f0) ((rd_T62 x26 x28).f0.f1)).isSome = true then (some false) else (impl_ValidBoard.l0 k x26 x27 (wrap64 (x28 + 1)) x171000 x171001 x171002 (x900 ++ [((((rd_T62 x26 x28).f0.f0), ((rd_T62 x26 x28).f0.f1)), ())]))) else (some false))) else (some false))) else (none)) else (none)) else (some true)
end
def impl_ValidBoard.f (k : Nat) (a0_0 : Int) (a0_1 : Int) (l0_2 : List (S62)) : Option (Bool) := (impl_in.f (wrap64 (a0_0)) 1 24).bind fun t171 => (if t171 = true then ((impl_in.f (wrap64 (a0_1)) 1 24).bind fun t172 => (if t172 = true then (impl_ValidBoard.j0 k (decide ((l0_2.length : Int) > 200)) a0_0 a0_1 l0_2) else (impl_ValidBoard.j0 k true a0_0 a0_1 l0_2))) else (impl_ValidBoard.j0 k true a0_0 a0_1 l0_2))
theorem impl_ValidBoard.mono_l : ∀ k, (∀ y0 y1 y2 y3, LeO (impl_ValidBoard.j0 k y0 y1 y2 y3) (impl_ValidBoard.j0 (k + 1) y0 y1 y2 y3)) ∧ (∀ y0 y1 y2 y3 y4 y5 y6, LeO (impl_ValidBoard.l0 k y0 y1 y2 y3 y4 y5 y6) (impl_ValidBoard.l0 (k + 1) y0 y1 y2 y3 y4 y5 y6))
  | 0 => ⟨fun _ _ _ _ r h => by simp [impl_ValidBoard.j0] at h, fun _ _ _ _ _ _ _ r h => by simp [impl_ValidBoard.l0] at h⟩
  | k + 1 => by
    obtain ⟨ih0, ih1⟩ := impl_ValidBoard.mono_l k
    refine ⟨?_, ?_⟩
    · intro y0 y1 y2 y3
      unfold impl_ValidBoard.j0
      repeat' first
      | (with_reducible exact ih0 _ _ _ _)
      | (with_reducible exact ih1 _ _ _ _ _ _ _)
      | (with_reducible exact LeO.refl _)
      | (with_reducible exact LeO.none _)
      | (with_reducible refine LeO.ite ?_ ?_)
      | (with_reducible refine LeO.bind ?_ (fun _ => ?_))
      | exact ih0 _ _ _ _
      | exact ih1 _ _ _ _ _ _ _
      | exact LeO.none _
      | refine LeO.ite ?_ ?_
      | refine LeO.bind ?_ (fun _ => ?_)
    · intro y0 y1 y2 y3 y4 y5 y6
      unfold impl_ValidBoard.l0
      repeat' first
      | (with_reducible exact ih0 _ _ _ _)
      | (with_reducible exact ih1 _ _ _ _ _ _ _)
      | (with_reducible exact LeO.refl _)
      | (with_reducible exact LeO.none _)
      | (with_reducible refine LeO.ite ?_ ?_)
      | (with_reducible refine LeO.bind ?_ (fun _ => ?_))
      | exact ih0 _ _ _ _
      | exact ih1 _ _ _ _ _ _ _
      | exact LeO.none _
      | refine LeO.ite ?_ ?_
      | refine LeO.bind ?_ (fun _ => ?_)
theorem impl_ValidBoard.mono : ∀ a0 a1 a2 k, LeO (impl_ValidBoard.f k a0 a1 a2) (impl_ValidBoard.f (k + 1) a0 a1 a2) := by
  intro a0 a1 a2 k
  obtain ⟨ih0, ih1⟩ := impl_ValidBoard.mono_l k
  unfold impl_ValidBoard.f
  repeat' first
      | (with_reducible exact ih0 _ _ _ _)
      | (with_reducible exact ih1 _ _ _ _ _ _ _)
      | (with_reducible exact LeO.refl _)
      | (with_reducible exact LeO.none _)
      | (with_reducible refine LeO.ite ?_ ?_)
      | (with_reducible refine LeO.bind ?_ (fun _ => ?_))
      | exact ih0 _ _ _ _
      | exact ih1 _ _ _ _ _ _ _
      | exact LeO.none _
      | refine LeO.ite ?_ ?_
      | refine LeO.bind ?_ (fun _ => ?_)
set_option maxHeartbeats 8000000 in
set_option maxRecDepth 100000 in
theorem impl_ValidBoard.calls (k : Nat) (a0_0 : Int) (a0_1 : Int) (A0_2 : Option Addr) (c0_2 : Nat) (l0_2 : List (S62)) (r : Bool) (w : World) (hr0_2 : Kd.C k62 w A0_2 l0_2.length l0_2) (hc0_2 : l0_2.length ≤ c0_2) (h : impl_ValidBoard.f k a0_0 a0_1 l0_2 = some r) :
    Calls Try.prog 29 #[.agg #[.int .i8 a0_0, .int .i8 a0_1, .slice A0_2 l0_2.length c0_2]] w fun e w' => e = .returned (.bool r) ∧ Below w.heap.size w w' := by
  have hu30 := Try.underlying30
  have hu62 := Try.underlying62
  have hu34 := Try.underlying34
  have HR0_2 := Aside0.mk hr0_2
  have HC0_2 := Aside0.mk hc0_2
  clear hr0_2 hc0_2
  have HB := Aside0.mk (Below.refl w.heap.size w)
  have H : ((impl_in.f (wrap64 (a0_0)) 1 24).bind fun t171 => (if t171 = true then ((impl_in.f (wrap64 (a0_1)) 1 24).bind fun t172 => (if t172 = true then (impl_ValidBoard.j0 k (decide ((l0_2.length : Int) > 200)) a0_0 a0_1 l0_2) else (impl_ValidBoard.j0 k true a0_0 a0_1 l0_2))) else (impl_ValidBoard.j0 k true a0_0 a0_1 l0_2))) = some r := h
  clear h
  have HC2 := Aside0.mk H
  clear H
  go_enter Try.func29, Try.ntmps29
  go_upto_region 1 with (first | ((with_reducible refine gate_dst (N := 1) rfl ?_); (try (refine gate_guard (by rfl) ?_; dsimp only)); refine box_event ?hg (N := 1) ?hd (cs := #[.int .i8 a0_0, .int .i8 a0_1, .slice A0_2 l0_2.length c0_2]) (t := 30) ?hr ?_; (case hd => rfl); (case hg => rfl); (case hr => first | (go_simp; done) | (go_simp; rfl)); intro gb170 hg w3 hbox hb; have n0_ := Aside0.mk (below_step (by repeat (first | (with_reducible first | exact HB.out | apply below_alloc | apply pw_below_drewN | apply below_drew1) | exact HB.out)) hb); have n1_ := Aside0.mk (hbox); have n2_ := Aside0.mk ((by rw [hg]; exact (below_size (by repeat (first | (with_reducible first | exact HB.out | apply below_alloc | apply pw_below_drewN | apply below_drew1) | exact HB.out))) : w.heap.size ≤ gb170)); have n3_ := Aside0.mk ((by rw [hg]; exact (below_size (by repeat (first | (with_reducible first | exact HB.out | apply below_alloc | apply pw_below_drewN | apply below_drew1) | exact HB.out))) : w.heap.size ≤ gb170)); clear HB; have HB := n0_; have BK170 := n1_; have GW170 := n2_; have GE170 := n3_; clear n0_ n1_ n2_ n3_; clear hb hbox hg))
  (try simp only [Act.put, List.setIfInBounds_toArray, List.set_cons_zero, List.set_cons_succ])
  go_cut [23] (fun v23 wc => ∃ (kq : Nat) (x23_1 : Bool), v23 = .bool x23_1 ∧ Aside0 (impl_ValidBoard.j0 kq x23_1 a0_0 a0_1 l0_2 = some r) ∧ Aside0 (kq ≤ k) ∧ Aside0 (wc.heap[gb170]? = some (.cells #[.int .i8 a0_0, .int .i8 a0_1, (.slice A0_2 l0_2.length c0_2)] 30 (0, 0))) ∧ Aside0 (Below w.heap.size w wc))
  case first =>
    have H := HC2.out
    clear HC2
    replace H := Option.bind_eq_some_iff.mp H
    obtain ⟨t171, A40, H⟩ := H
    replace H : (if t171 = true then ((impl_in.f (wrap64 (a0_1)) 1 24).bind fun t172 => (if t172 = true then (impl_ValidBoard.j0 k (decide ((l0_2.length : Int) > 200)) a0_0 a0_1 l0_2) else (impl_ValidBoard.j0 k true a0_0 a0_1 l0_2))) else (impl_ValidBoard.j0 k true a0_0 a0_1 l0_2)) = some r := H
    have A4 := Aside0.mk A40
    clear A40
    by_cases c5 : t171 = true
    · subst c5
      have H1 : ((impl_in.f (wrap64 (a0_1)) 1 24).bind fun t172 => (if t172 = true then (impl_ValidBoard.j0 k (decide ((l0_2.length : Int) > 200)) a0_0 a0_1 l0_2) else (impl_ValidBoard.j0 k true a0_0 a0_1 l0_2))) = some r := by rw [if_pos rfl] at H; exact H
      clear H
      have H := H1
      clear H1
      replace H := Option.bind_eq_some_iff.mp H
      obtain ⟨t172, A60, H⟩ := H
      replace H : (if t172 = true then (impl_ValidBoard.j0 k (decide ((l0_2.length : Int) > 200)) a0_0 a0_1 l0_2) else (impl_ValidBoard.j0 k true a0_0 a0_1 l0_2)) = some r := H
      have A6 := Aside0.mk A60
      clear A60
      by_cases c7 : t172 = true
      · subst c7
        have H1 : (impl_ValidBoard.j0 k (decide ((l0_2.length : Int) > 200)) a0_0 a0_1 l0_2) = some r := by rw [if_pos rfl] at H; exact H
        clear H
        have H := H1
        clear H1
        have H' := Aside0.mk H
        clear H
        have hcz8_0 : w3.cell? ⟨gb170, 0, none⟩ = some (.int .i8 a0_0) := (blk_cell BK170.out 0).trans rfl
        have hcz8_1 : w3.cell? ⟨gb170, 1, none⟩ = some (.int .i8 a0_1) := (blk_cell BK170.out 1).trans rfl
        have hcz8_2 : w3.cell? ⟨gb170, 2, none⟩ = some (.slice A0_2 l0_2.length c0_2) := (blk_cell BK170.out 2).trans rfl
        have hfz8_0 := blk_frozen BK170.out 0
        have hfz8_1 := blk_frozen BK170.out 1
        have hfz8_2 := blk_frozen BK170.out 2
        go_wp2_with (first | ((with_reducible refine gate_callee (f := 47) rfl ?_); refine goesL_ (some 9) rfl rfl Try.func47 (by kernel_rfl) rfl #[.int .i64 (wrap64 (a0_0)), .int .i64 1, .int .i64 24] rfl (by (try simp only [List.map_toArray, List.map_cons, List.map_nil]); first | done | rfl | (simp only [List.length_drop, List.length_take]; rfl)) ?_; (with_reducible refine (impl_in.calls (wrap64 (a0_0)) 1 24 true _ A4.out).mono ?_); rintro e w' ⟨rfl, ⟨nd, rfl⟩⟩; refine ⟨_, rfl, ?_⟩) | (go_at_call 47; (with_reducible refine (impl_in.calls (wrap64 (a0_1)) 1 24 true _ A6.out).mono ?_); rintro e w' ⟨rfl, ⟨nd, rfl⟩⟩))
        go_meet
        case rel => exact ⟨_, (decide ((l0_2.length : Int) > 200)), (by first | rfl | (simp; done) | (simp [*]; done) | (exact congrArg (Value.int .i64) (wrap_eq (by omega)))), H', ⟨by first | omega | exact Nat.le_refl _⟩, ⟨by (with_reducible repeat (first | refine blk_drewN ?_ _ | refine blk_drew ?_ | refine blk_alloc ?_ _)); exact BK170.out⟩, ⟨by repeat (first | (with_reducible first | exact HB.out | apply below_alloc | apply pw_below_drewN | apply below_drew1 | refine below_set ?_ GE170.out) | exact HB.out)⟩⟩
      · replace c7 := Bool.eq_false_iff.mpr c7
        subst c7
        have H1 : (impl_ValidBoard.j0 k true a0_0 a0_1 l0_2) = some r := by rw [if_neg (show ¬ (false = true) by decide)] at H; exact H
        clear H
        have H := H1
        clear H1
        have H' := Aside0.mk H
        clear H
        have hcz9_0 : w3.cell? ⟨gb170, 0, none⟩ = some (.int .i8 a0_0) := (blk_cell BK170.out 0).trans rfl
        have hcz9_1 : w3.cell? ⟨gb170, 1, none⟩ = some (.int .i8 a0_1) := (blk_cell BK170.out 1).trans rfl
        have hcz9_2 : w3.cell? ⟨gb170, 2, none⟩ = some (.slice A0_2 l0_2.length c0_2) := (blk_cell BK170.out 2).trans rfl
        have hfz9_0 := blk_frozen BK170.out 0
        have hfz9_1 := blk_frozen BK170.out 1
        have hfz9_2 := blk_frozen BK170.out 2
        go_wp2_with (first | ((with_reducible refine gate_callee (f := 47) rfl ?_); refine goesL_ (some 9) rfl rfl Try.func47 (by kernel_rfl) rfl #[.int .i64 (wrap64 (a0_0)), .int .i64 1, .int .i64 24] rfl (by (try simp only [List.map_toArray, List.map_cons, List.map_nil]); first | done | rfl | (simp only [List.length_drop, List.length_take]; rfl)) ?_; (with_reducible refine (impl_in.calls (wrap64 (a0_0)) 1 24 true _ A4.out).mono ?_); rintro e w' ⟨rfl, ⟨nd, rfl⟩⟩; refine ⟨_, rfl, ?_⟩) | (go_at_call 47; (with_reducible refine (impl_in.calls (wrap64 (a0_1)) 1 24 false _ A6.out).mono ?_); rintro e w' ⟨rfl, ⟨nd, rfl⟩⟩))
        go_meet
        case rel => exact ⟨_, (true), (by first | rfl | (simp; done) | (simp [*]; done) | (exact congrArg (Value.int .i64) (wrap_eq (by omega)))), H', ⟨by first | omega | exact Nat.le_refl _⟩, ⟨by (with_reducible repeat (first | refine blk_drewN ?_ _ | refine blk_drew ?_ | refine blk_alloc ?_ _)); exact BK170.out⟩, ⟨by repeat (first | (with_reducible first | exact HB.out | apply below_alloc | apply pw_below_drewN | apply below_drew1 | refine below_set ?_ GE170.out) | exact HB.out)⟩⟩
    · replace c5 := Bool.eq_false_iff.mpr c5
      subst c5
      have H1 : (impl_ValidBoard.j0 k true a0_0 a0_1 l0_2) = some r := by rw [if_neg (show ¬ (false = true) by decide)] at H; exact H
      clear H
      have H := H1
      clear H1
      have H' := Aside0.mk H
      clear H
      have hcz10_0 : w3.cell? ⟨gb170, 0, none⟩ = some (.int .i8 a0_0) := (blk_cell BK170.out 0).trans rfl
      have hcz10_1 : w3.cell? ⟨gb170, 1, none⟩ = some (.int .i8 a0_1) := (blk_cell BK170.out 1).trans rfl
      have hcz10_2 : w3.cell? ⟨gb170, 2, none⟩ = some (.slice A0_2 l0_2.length c0_2) := (blk_cell BK170.out 2).trans rfl
      have hfz10_0 := blk_frozen BK170.out 0
      have hfz10_1 := blk_frozen BK170.out 1
      have hfz10_2 := blk_frozen BK170.out 2
      go_wp2_with (first | ((with_reducible refine gate_callee (f := 47) rfl ?_); refine goesL_ (some 9) rfl rfl Try.func47 (by kernel_rfl) rfl #[.int .i64 (wrap64 (a0_0)), .int .i64 1, .int .i64 24] rfl (by (try simp only [List.map_toArray, List.map_cons, List.map_nil]); first | done | rfl | (simp only [List.length_drop, List.length_take]; rfl)) ?_; (with_reducible refine (impl_in.calls (wrap64 (a0_0)) 1 24 false _ A4.out).mono ?_); rintro e w' ⟨rfl, ⟨nd, rfl⟩⟩; refine ⟨_, rfl, ?_⟩))
      go_meet
      case rel => exact ⟨_, (true), (by first | rfl | (simp; done) | (simp [*]; done) | (exact congrArg (Value.int .i64) (wrap_eq (by omega)))), H', ⟨by first | omega | exact Nat.le_refl _⟩, ⟨by (with_reducible repeat (first | refine blk_drewN ?_ _ | refine blk_drew ?_ | refine blk_alloc ?_ _)); exact BK170.out⟩, ⟨by repeat (first | (with_reducible first | exact HB.out | apply below_alloc | apply pw_below_drewN | apply below_drew1 | refine below_set ?_ GE170.out) | exact HB.out)⟩⟩
  case rest =>
    clear HC2
    try clear p2
    try clear c4
    try clear c5
    try clear p6
    try clear c7
    try clear c9
    try clear hcz10_0
    try clear hcz10_1
    try clear hcz10_2
    try clear hcz8_0
    try clear hcz8_1
    try clear hcz8_2
    try clear hcz9_0
    try clear hcz9_1
    try clear hcz9_2
    try clear hfz10_0
    try clear hfz10_1
    try clear hfz10_2
    try clear hfz8_0
    try clear hfz8_1
    try clear hfz8_2
    try clear hfz9_0
    try clear hfz9_1
    try clear hfz9_2
    obtain ⟨kq, x23_1, rfl, HA, HJ1, BK170, HB⟩ := hcut
    cases kq with
    | zero => exact absurd HA.out (by simp [impl_ValidBoard.j0])
    | succ kj1 =>
      have H := HA.out
      clear HA
      simp only [impl_ValidBoard.j0] at H
      by_cases c11 : x23_1 = true
      · subst c11
        have H1 : (some false) = some r := by rw [if_pos rfl] at H; exact H
        clear H
        have H := H1
        clear H1
        obtain rfl := Option.some.inj H
        go_wp2
        go_ret
        exact ⟨by first | rfl | (simp [errW_none, errW_some] <;> rfl) | (simp [*, errW_none, errW_some] <;> rfl), by repeat (first | (with_reducible first | exact HB.out | apply below_alloc | apply pw_below_drewN | apply below_drew1 | refine below_set ?_ GE170.out) | exact HB.out)⟩
      · replace c11 := Bool.eq_false_iff.mpr c11
        subst c11
        have H1 : (impl_ValidBoard.l0 kj1 l0_2 (l0_2.length : Int) 0 a0_0 a0_1 l0_2 []) = some r := by rw [if_neg (show ¬ (false = true) by decide)] at H; exact H
        clear H
        have H := H1
        clear H1
        have H' := Aside0.mk H
        clear H
        have hcz12_0 : wc.cell? ⟨gb170, 0, none⟩ = some (.int .i8 a0_0) := (blk_cell BK170.out 0).trans rfl
        have hcz12_1 : wc.cell? ⟨gb170, 1, none⟩ = some (.int .i8 a0_1) := (blk_cell BK170.out 1).trans rfl
        have hcz12_2 : wc.cell? ⟨gb170, 2, none⟩ = some (.slice A0_2 l0_2.length c0_2) := (blk_cell BK170.out 2).trans rfl
        have hfz12_0 := blk_frozen BK170.out 0
        have hfz12_1 := blk_frozen BK170.out 1
        have hfz12_2 := blk_frozen BK170.out 2
        go_wp2_with (first | ((with_reducible refine gate_dst (N := 24) rfl ?_); (try (refine gate_guard (by rfl) ?_; dsimp only)); refine map_event rfl 79 rfl ?_; intro gm hg w40 hmap hb; have n0_ := Aside0.mk (blk_below (g := gb170) (o := .cells #[.int .i8 a0_0, .int .i8 a0_1, .slice A0_2 l0_2.length c0_2] 30 (0, 0)) (by (with_reducible repeat (first | refine blk_drewN ?_ _ | refine blk_drew ?_ | refine blk_alloc ?_ _)); exact BK170.out) hb); have n1_ := Aside0.mk (below_step (by repeat (first | (with_reducible first | exact HB.out | apply below_alloc | apply pw_below_drewN | apply below_drew1 | refine below_set ?_ GE170.out) | exact HB.out)) hb); have n2_ := Aside0.mk hmap; have n3_ := Aside0.mk ((by rw [hg]; exact (below_size (by repeat (first | (with_reducible first | exact HB.out | apply below_alloc | apply pw_below_drewN | apply below_drew1 | refine below_set ?_ GE170.out) | exact HB.out)))) : w.heap.size ≤ gm); clear BK170; clear HB; have BK170 := n0_; have HB := n1_; have MM := n2_; have GEM := n3_; clear n0_ n1_ n2_ n3_; clear hb hmap hg; have hcz40_0 : w40.cell? ⟨gb170, 0, none⟩ = some (.int .i8 a0_0) := (blk_cell BK170.out 0).trans rfl; have hcz40_1 : w40.cell? ⟨gb170, 1, none⟩ = some (.int .i8 a0_1) := (blk_cell BK170.out 1).trans rfl; have hcz40_2 : w40.cell? ⟨gb170, 2, none⟩ = some (.slice A0_2 l0_2.length c0_2) := (blk_cell BK170.out 2).trans rfl; have hfz40_0 := blk_frozen BK170.out 0; have hfz40_1 := blk_frozen BK170.out 1; have hfz40_2 := blk_frozen BK170.out 2))
        go_loopg [28] kj1 (fun kq v28 w' => ∃ (x28_2 : Int) (x900 : List ((Int × Int) × Unit)) (es : Array MapEntry) (ck : Nat), v28 = .int .i64 x28_2 ∧ Aside0 (impl_ValidBoard.l0 kq l0_2 (l0_2.length : Int) x28_2 a0_0 a0_1 l0_2 x900 = some r) ∧ Aside0 (kq ≤ kj1) ∧ Aside0 (w'.heap[gb170]? = some (.cells #[.int .i8 a0_0, .int .i8 a0_1, (.slice A0_2 l0_2.length c0_2)] 30 (0, 0))) ∧ Aside0 (w'.heap[gm]? = some (.map es ck)) ∧ Aside0 (ER (fun _ : Unit => Value.bool true) es x900) ∧ Aside0 (Below w.heap.size w w'))
        case atStart => exact ⟨(0), [], #[], 0, (by first | rfl | (simp; done) | (simp [*]; done) | (exact congrArg (Value.int .i64) (wrap_eq (by omega)))), H', ⟨Nat.le_refl _⟩, ⟨by (with_reducible repeat (first | refine blk_drewN ?_ _ | refine blk_drew ?_ | refine blk_alloc ?_ _)); exact BK170.out⟩, ⟨by (with_reducible repeat (first | refine blk_drewN ?_ _ | refine blk_drew ?_ | refine blk_alloc ?_ _)); exact MM.out⟩, ⟨rfl⟩, ⟨by repeat (first | (with_reducible first | exact HB.out | apply below_alloc | apply pw_below_drewN | apply below_drew1 | refine below_set ?_ GE170.out) | exact HB.out)⟩⟩
        case round =>
          clear H'
          try clear c1
          try clear p2
          try clear c4
          try clear c5
          try clear p6
          try clear c7
          try clear c9
          try clear c11
          try clear hcz10_0
          try clear hcz10_1
          try clear hcz10_2
          try clear hcz12_0
          try clear hcz12_1
          try clear hcz12_2
          try clear hcz8_0
          try clear hcz8_1
          try clear hcz8_2
          try clear hcz9_0
          try clear hcz9_1
          try clear hcz9_2
          try clear hfz10_0
          try clear hfz10_1
          try clear hfz10_2
          try clear hfz12_0
          try clear hfz12_1
          try clear hfz12_2
          try clear hfz8_0
          try clear hfz8_1
          try clear hfz8_2
          try clear hfz9_0
          try clear hfz9_1
          try clear hfz9_2
          try clear p2
          try clear p6
          obtain ⟨x28_2, x900, es, ck, rfl, HA, HK2, BK170, MM, MER, HB⟩ := hrel
          have GMB : Aside0 (gb170 ≠ gm) := ⟨by rintro rfl; have h1 := BK170.out; rw [MM.out] at h1; cases h1⟩
          try clear hcz40_0
          try clear hcz40_1
          try clear hcz40_2
          try clear hfz40_0
          try clear hfz40_1
          try clear hfz40_2
          cases gk with
          | zero => exact absurd HA.out (by simp [impl_ValidBoard.l0])
          | succ k2 =>
            have H := HA.out
            clear HA
            simp only [impl_ValidBoard.l0] at H
            by_cases c13 : x28_2 < (l0_2.length : Int)
            · rw [if_pos c13] at H
              have c13b0 : decide (x28_2 < (l0_2.length : Int)) = true := decide_eq_true c13
              clear c13
              by_cases c14 : 0 ≤ x28_2
              · rw [if_pos c14] at H
                have c14b0 : decide (0 ≤ x28_2) = true := decide_eq_true c14
                clear c14
                by_cases c15 : x28_2 < (l0_2.length : Int)
                · rw [if_pos c15] at H
                  have c15b0 : decide (x28_2 < (l0_2.length : Int)) = true := decide_eq_true c15
                  clear c15
                  replace H := Option.bind_eq_some_iff.mp H
                  obtain ⟨t175, A160, H⟩ := H
                  replace H : (if t175 = true then ((impl_Board_has.f [(⟨a0_0, a0_1, l0_2⟩ : S30)] ((rd_T62 l0_2 x28_2).f0.f0) ((rd_T62 l0_2 x28_2).f0.f1)).bind fun t176 => (if t176 = true then (if (mfind x900 ((rd_T62 l0_2 x28_2).f0.f0) ((rd_T62 l0_2 x28_2).f0.f1)).isSome = true then (some false) else (impl_ValidBoard.l0 k2 l0_2 (l0_2.length : Int) (wrap64 (x28_2 + 1)) a0_0 a0_1 l0_2 (x900 ++ [((((rd_T62 l0_2 x28_2).f0.f0), ((rd_T62 l0_2 x28_2).f0.f1)), ())]))) else (some false))) else (some false)) = some r := H
                  have A16 := Aside0.mk A160
                  clear A160
                  by_cases c17 : t175 = true
                  · subst c17
                    have H1 : ((impl_Board_has.f [(⟨a0_0, a0_1, l0_2⟩ : S30)] ((rd_T62 l0_2 x28_2).f0.f0) ((rd_T62 l0_2 x28_2).f0.f1)).bind fun t176 => (if t176 = true then (if (mfind x900 ((rd_T62 l0_2 x28_2).f0.f0) ((rd_T62 l0_2 x28_2).f0.f1)).isSome = true then (some false) else (impl_ValidBoard.l0 k2 l0_2 (l0_2.length : Int) (wrap64 (x28_2 + 1)) a0_0 a0_1 l0_2 (x900 ++ [((((rd_T62 l0_2 x28_2).f0.f0), ((rd_T62 l0_2 x28_2).f0.f1)), ())]))) else (some false))) = some r := by rw [if_pos rfl] at H; exact H
                    clear H
                    have H := H1
                    clear H1
                    replace H := Option.bind_eq_some_iff.mp H
                    obtain ⟨t176, A180, H⟩ := H
                    replace H : (if t176 = true then (if (mfind x900 ((rd_T62 l0_2 x28_2).f0.f0) ((rd_T62 l0_2 x28_2).f0.f1)).isSome = true then (some false) else (impl_ValidBoard.l0 k2 l0_2 (l0_2.length : Int) (wrap64 (x28_2 + 1)) a0_0 a0_1 l0_2 (x900 ++ [((((rd_T62 l0_2 x28_2).f0.f0), ((rd_T62 l0_2 x28_2).f0.f1)), ())]))) else (some false)) = some r := H
                    have A18 := Aside0.mk A180
                    clear A180
                    by_cases c19 : t176 = true
                    · subst c19
                      have H1 : (if (mfind x900 ((rd_T62 l0_2 x28_2).f0.f0) ((rd_T62 l0_2 x28_2).f0.f1)).isSome = true then (some false) else (impl_ValidBoard.l0 k2 l0_2 (l0_2.length : Int) (wrap64 (x28_2 + 1)) a0_0 a0_1 l0_2 (x900 ++ [((((rd_T62 l0_2 x28_2).f0.f0), ((rd_T62 l0_2 x28_2).f0.f1)), ())]))) = some r := by rw [if_pos rfl] at H; exact H
                      clear H
                      have H := H1
                      clear H1
                      by_cases c21 : (mfind x900 ((rd_T62 l0_2 x28_2).f0.f0) ((rd_T62 l0_2 x28_2).f0.f1)).isSome = true
                      · rw [if_pos c21] at H
                        obtain rfl := Option.some.inj H
                        have p173 : 0 ≤ (x28_2 : Int) := of_decide_eq_true (by first | (with_reducible assumption) | assumption)
                        have q173 : x28_2 < (l0_2.length : Int) := of_decide_eq_true (by first | (with_reducible assumption) | assumption)
                        obtain ⟨ad173, e173, hx173_0, hx173_1, hx173_2, hx173_3, hx173_4⟩ := at_T62 HR0_2.out x28_2 p173 q173
                        cases e173
                        replace hx173_0 := (HB.out.cell (World.block_lt_of_cell? w _ hx173_0)).trans hx173_0
                        replace hx173_1 := (HB.out.cell (World.block_lt_of_cell? w _ hx173_1)).trans hx173_1
                        replace hx173_2 := (HB.out.cell (World.block_lt_of_cell? w _ hx173_2)).trans hx173_2
                        replace hx173_3 := (HB.out.cell (World.block_lt_of_cell? w _ hx173_3)).trans hx173_3
                        replace hx173_4 := (HB.out.cell (World.block_lt_of_cell? w _ hx173_4)).trans hx173_4
                        replace p173 := eq_true p173
                        replace q173 := eq_true q173
                        have ml : ∀ W : World, W.heap[gm]? = some (.map es ck) → (Instr.lookup 79 (.map (some gm)) (.agg #[.int .i8 ((rd_T62 l0_2 x28_2).f0.f0), .int .i8 ((rd_T62 l0_2 x28_2).f0.f1)]) false).run Try.prog W = .ok (.bool true) W := by
                          intro W hW
                          refine (run_mlook (V := 4) cellKey Try.underlying79 (zeroBool W) hW MER.out _ _ false).trans ?_
                          simp only [Bool.false_eq_true, if_false]; obtain ⟨v_, hv_⟩ := Option.isSome_iff_exists.mp c21; rw [hv_]; rfl
                        go_wp2_with (first | ((with_reducible refine gate_dst (N := 5) rfl ?_); (try (refine gate_guard (by rfl) ?_; dsimp only)); refine box_event ?hg (N := 5) ?hd (cs := #[.int .i8 0, .int .i8 0, .int .i8 0, .int .i8 0, .int .i8 0]) (t := 62) ?hr ?_; (case hd => rfl); (case hg => rfl); (case hr => first | (go_simp; done) | (go_simp; rfl)); intro gb174 hg w20 hbox hb; have NM174 := Aside0.mk ((by rw [hg]; exact Nat.ne_of_lt (blk_lt (g := gm) (o := .map es ck) (by (with_reducible repeat (first | refine blk_drewN ?_ _ | refine blk_drew ?_ | refine blk_alloc ?_ _)); exact MM.out))) : gm ≠ gb174); have m0_ := Aside0.mk (blk_below (g := gm) (o := .map es ck) (by (with_reducible repeat (first | refine blk_drewN ?_ _ | refine blk_drew ?_ | refine blk_alloc ?_ _)); exact MM.out) hb); clear MM; have MM := m0_; clear m0_; have n0_ := Aside0.mk (blk_below (g := gb170) (o := .cells #[.int .i8 a0_0, .int .i8 a0_1, .slice (some ad173) l0_2.length c0_2] 30 (0, 0)) (by (with_reducible repeat (first | refine blk_drewN ?_ _ | refine blk_drew ?_ | refine blk_alloc ?_ _)); exact BK170.out) hb); have n1_ := Aside0.mk (below_step (by repeat (first | (with_reducible first | exact HB.out | apply below_alloc | apply pw_below_drewN | apply below_drew1 | refine below_set ?_ GE170.out) | exact HB.out)) hb); have n2_ := Aside0.mk (hbox); have n3_ := Aside0.mk ((by rw [hg]; exact (below_size (by repeat (first | (with_reducible first | exact HB.out | apply below_alloc | apply pw_below_drewN | apply below_drew1 | refine below_set ?_ GE170.out) | exact HB.out))) : w.heap.size ≤ gb174)); have n4_ := Aside0.mk ((by rw [hg]; exact (below_size (by repeat (first | (with_reducible first | exact HB.out | apply below_alloc | apply pw_below_drewN | apply below_drew1 | refine below_set ?_ GE170.out) | exact HB.out))) : w.heap.size ≤ gb174)); have n5_ := Aside0.mk ((by rw [hg]; exact Nat.ne_of_lt (blk_lt (g := gb170) (o := .cells #[.int .i8 a0_0, .int .i8 a0_1, .slice (some ad173) l0_2.length c0_2] 30 (0, 0)) (by (with_reducible repeat (first | refine blk_drewN ?_ _ | refine blk_drew ?_ | refine blk_alloc ?_ _)); exact BK170.out)) : gb170 ≠ gb174)); have n6_ := Aside0.mk ((by rw [hg]; exact Nat.ne_of_gt (blk_lt (g := gb170) (o := .cells #[.int .i8 a0_0, .int .i8 a0_1, .slice (some ad173) l0_2.length c0_2] 30 (0, 0)) (by (with_reducible repeat (first | refine blk_drewN ?_ _ | refine blk_drew ?_ | refine blk_alloc ?_ _)); exact BK170.out)) : gb174 ≠ gb170)); clear BK170; clear HB; have BK170 := n0_; have HB := n1_; have BK174 := n2_; have GW174 := n3_; have GE174 := n4_; have NB170_174 := n5_; have NB174_170 := n6_; clear n0_ n1_ n2_ n3_ n4_ n5_ n6_; clear hb hbox hg; have hnb21 := NB174_170.out; have hnc21 := NB170_174.out; have hcz22_0 : w20.cell? ⟨gb174, 0, none⟩ = some (.int .i8 0) := (blk_cell BK174.out 0).trans rfl; have hcz22_1 : w20.cell? ⟨gb174, 1, none⟩ = some (.int .i8 0) := (blk_cell BK174.out 1).trans rfl; have hcz22_2 : w20.cell? ⟨gb174, 2, none⟩ = some (.int .i8 0) := (blk_cell BK174.out 2).trans rfl; have hcz22_3 : w20.cell? ⟨gb174, 3, none⟩ = some (.int .i8 0) := (blk_cell BK174.out 3).trans rfl; have hcz22_4 : w20.cell? ⟨gb174, 4, none⟩ = some (.int .i8 0) := (blk_cell BK174.out 4).trans rfl; have hfz22_0 := blk_frozen BK174.out 0; have hfz22_1 := blk_frozen BK174.out 1; have hfz22_2 := blk_frozen BK174.out 2; have hfz22_3 := blk_frozen BK174.out 3; have hfz22_4 := blk_frozen BK174.out 4) | ((with_reducible refine gate_callee (f := 48) rfl ?_); refine goesL_ (some 33) rfl rfl Try.func48 (by kernel_rfl) rfl #[.agg #[.int .i8 ((rd_T62 l0_2 x28_2).f0.f0), .int .i8 ((rd_T62 l0_2 x28_2).f0.f1), .int .i8 ((rd_T62 l0_2 x28_2).f1), .int .i8 ((rd_T62 l0_2 x28_2).f2), .int .i8 ((rd_T62 l0_2 x28_2).f3)]] rfl (by (try simp only [List.map_toArray, List.map_cons, List.map_nil]); first | done | rfl | (simp only [List.length_drop, List.length_take]; rfl)) ?_; (with_reducible refine (impl_ValidPiece.calls ((rd_T62 l0_2 x28_2).f0.f0) ((rd_T62 l0_2 x28_2).f0.f1) ((rd_T62 l0_2 x28_2).f1) ((rd_T62 l0_2 x28_2).f2) ((rd_T62 l0_2 x28_2).f3) true _ A16.out).mono ?_); rintro e w23 ⟨rfl, hb⟩; refine ⟨_, rfl, ?_⟩; have m0_ := Aside0.mk (blk_below (g := gm) (o := .map es ck) (by (repeat (first | (with_reducible refine blk_drewN ?_ _) | (with_reducible refine blk_drew ?_) | (with_reducible refine blk_alloc ?_ _) | (refine mblk_far ?_ NM174.out _))); exact MM.out) hb); clear MM; have MM := m0_; clear m0_; have n0_ := Aside0.mk (blk_below (g := gb170) (o := .cells #[.int .i8 a0_0, .int .i8 a0_1, .slice (some ad173) l0_2.length c0_2] 30 (0, 0)) (by (with_reducible repeat (first | refine blk_drewN ?_ _ | refine blk_drew ?_ | refine blk_alloc ?_ _)); refine blk_far ?_ NB170_174.out _; (with_reducible repeat (first | refine blk_drewN ?_ _ | refine blk_drew ?_ | refine blk_alloc ?_ _)); refine blk_far ?_ NB170_174.out _; (with_reducible repeat (first | refine blk_drewN ?_ _ | refine blk_drew ?_ | refine blk_alloc ?_ _)); refine blk_far ?_ NB170_174.out _; (with_reducible repeat (first | refine blk_drewN ?_ _ | refine blk_drew ?_ | refine blk_alloc ?_ _)); refine blk_far ?_ NB170_174.out _; (with_reducible repeat (first | refine blk_drewN ?_ _ | refine blk_drew ?_ | refine blk_alloc ?_ _)); refine blk_far ?_ NB170_174.out _; (with_reducible repeat (first | refine blk_drewN ?_ _ | refine blk_drew ?_ | refine blk_alloc ?_ _)); exact BK170.out) hb); have n1_ := Aside0.mk (blk_below (g := gb174) (o := .cells #[.int .i8 ((rd_T62 l0_2 x28_2).f0.f0), .int .i8 ((rd_T62 l0_2 x28_2).f0.f1), .int .i8 ((rd_T62 l0_2 x28_2).f1), .int .i8 ((rd_T62 l0_2 x28_2).f2), .int .i8 ((rd_T62 l0_2 x28_2).f3)] 62 (0, 0)) (by (with_reducible repeat (first | refine blk_drewN ?_ _ | refine blk_drew ?_ | refine blk_alloc ?_ _)); refine blk_put (cs := #[.int .i8 ((rd_T62 l0_2 x28_2).f0.f0), .int .i8 ((rd_T62 l0_2 x28_2).f0.f1), .int .i8 ((rd_T62 l0_2 x28_2).f1), .int .i8 ((rd_T62 l0_2 x28_2).f2), .int .i8 0]) ?_ 4 _ rfl; (with_reducible repeat (first | refine blk_drewN ?_ _ | refine blk_drew ?_ | refine blk_alloc ?_ _)); refine blk_put (cs := #[.int .i8 ((rd_T62 l0_2 x28_2).f0.f0), .int .i8 ((rd_T62 l0_2 x28_2).f0.f1), .int .i8 ((rd_T62 l0_2 x28_2).f1), .int .i8 0, .int .i8 0]) ?_ 3 _ rfl; (with_reducible repeat (first | refine blk_drewN ?_ _ | refine blk_drew ?_ | refine blk_alloc ?_ _)); refine blk_put (cs := #[.int .i8 ((rd_T62 l0_2 x28_2).f0.f0), .int .i8 ((rd_T62 l0_2 x28_2).f0.f1), .int .i8 0, .int .i8 0, .int .i8 0]) ?_ 2 _ rfl; (with_reducible repeat (first | refine blk_drewN ?_ _ | refine blk_drew ?_ | refine blk_alloc ?_ _)); refine blk_put (cs := #[.int .i8 ((rd_T62 l0_2 x28_2).f0.f0), .int .i8 0, .int .i8 0, .int .i8 0, .int .i8 0]) ?_ 1 _ rfl; (with_reducible repeat (first | refine blk_drewN ?_ _ | refine blk_drew ?_ | refine blk_alloc ?_ _)); refine blk_put (cs := #[.int .i8 0, .int .i8 0, .int .i8 0, .int .i8 0, .int .i8 0]) ?_ 0 _ rfl; (with_reducible repeat (first | refine blk_drewN ?_ _ | refine blk_drew ?_ | refine blk_alloc ?_ _)); exact BK174.out) hb); have n2_ := Aside0.mk (below_step (by repeat (first | (with_reducible first | exact HB.out | apply below_alloc | apply pw_below_drewN | apply below_drew1 | refine below_set ?_ GE170.out | refine below_set ?_ GE174.out) | exact HB.out)) hb); clear BK170; clear BK174; clear HB; have BK170 := n0_; have BK174 := n1_; have HB := n2_; clear n0_ n1_ n2_; (try clear hb); (try clear hb2); (try clear hk); (try clear hi); have hcz24_0 : w23.cell? ⟨gb174, 0, none⟩ = some (.int .i8 ((rd_T62 l0_2 x28_2).f0.f0)) := (blk_cell BK174.out 0).trans rfl; have hcz24_1 : w23.cell? ⟨gb174, 1, none⟩ = some (.int .i8 ((rd_T62 l0_2 x28_2).f0.f1)) := (blk_cell BK174.out 1).trans rfl; have hcz24_2 : w23.cell? ⟨gb174, 2, none⟩ = some (.int .i8 ((rd_T62 l0_2 x28_2).f1)) := (blk_cell BK174.out 2).trans rfl; have hcz24_3 : w23.cell? ⟨gb174, 3, none⟩ = some (.int .i8 ((rd_T62 l0_2 x28_2).f2)) := (blk_cell BK174.out 3).trans rfl; have hcz24_4 : w23.cell? ⟨gb174, 4, none⟩ = some (.int .i8 ((rd_T62 l0_2 x28_2).f3)) := (blk_cell BK174.out 4).trans rfl; have hfz24_0 := blk_frozen BK174.out 0; have hfz24_1 := blk_frozen BK174.out 1; have hfz24_2 := blk_frozen BK174.out 2; have hfz24_3 := blk_frozen BK174.out 3; have hfz24_4 := blk_frozen BK174.out 4) | (go_at_call 49; (with_reducible refine (impl_Board_has.calls _ [(⟨a0_0, a0_1, l0_2⟩ : S30)] ((rd_T62 l0_2 x28_2).f0.f0) ((rd_T62 l0_2 x28_2).f0.f1) true _ ?side1 A18.out).mono ?_); (case side1 => refine ro_of_blk (T := 30) (cs := #[.int .i8 a0_0, .int .i8 a0_1, .slice (some ad173) l0_2.length c0_2]) (by (with_reducible repeat (first | refine blk_drewN ?_ _ | refine blk_drew ?_ | refine blk_alloc ?_ _)); exact BK170.out) ?_; exact k30_mk _ (⟨a0_0, a0_1, l0_2⟩ : S30) (by exact HC0_2.out) (by repeat (first | exact (Kd.C_below HR0_2.out HB.out) | (with_reducible refine Kd.C_alloc ?_ _) | (with_reducible refine Kd.C_drewN ?_ _) | (with_reducible refine Kd.C_drew ?_)))); rintro e w25 ⟨rfl, hb⟩; have m0_ := Aside0.mk (blk_below (g := gm) (o := .map es ck) (by (with_reducible repeat (first | refine blk_drewN ?_ _ | refine blk_drew ?_ | refine blk_alloc ?_ _)); exact MM.out) hb); clear MM; have MM := m0_; clear m0_; have n0_ := Aside0.mk (blk_below (g := gb170) (o := .cells #[.int .i8 a0_0, .int .i8 a0_1, .slice (some ad173) l0_2.length c0_2] 30 (0, 0)) (by (with_reducible repeat (first | refine blk_drewN ?_ _ | refine blk_drew ?_ | refine blk_alloc ?_ _)); exact BK170.out) hb); have n1_ := Aside0.mk (blk_below (g := gb174) (o := .cells #[.int .i8 ((rd_T62 l0_2 x28_2).f0.f0), .int .i8 ((rd_T62 l0_2 x28_2).f0.f1), .int .i8 ((rd_T62 l0_2 x28_2).f1), .int .i8 ((rd_T62 l0_2 x28_2).f2), .int .i8 ((rd_T62 l0_2 x28_2).f3)] 62 (0, 0)) (by (with_reducible repeat (first | refine blk_drewN ?_ _ | refine blk_drew ?_ | refine blk_alloc ?_ _)); exact BK174.out) hb); have n2_ := Aside0.mk (below_step (by repeat (first | (with_reducible first | exact HB.out | apply below_alloc | apply pw_below_drewN | apply below_drew1 | refine below_set ?_ GE170.out | refine below_set ?_ GE174.out) | exact HB.out)) hb); clear BK170; clear BK174; clear HB; have BK170 := n0_; have BK174 := n1_; have HB := n2_; clear n0_ n1_ n2_; (try clear hb); (try clear hb2); (try clear hk); (try clear hi); have hcz26_0 : w25.cell? ⟨gb174, 0, none⟩ = some (.int .i8 ((rd_T62 l0_2 x28_2).f0.f0)) := (blk_cell BK174.out 0).trans rfl; have hcz26_1 : w25.cell? ⟨gb174, 1, none⟩ = some (.int .i8 ((rd_T62 l0_2 x28_2).f0.f1)) := (blk_cell BK174.out 1).trans rfl; have hcz26_2 : w25.cell? ⟨gb174, 2, none⟩ = some (.int .i8 ((rd_T62 l0_2 x28_2).f1)) := (blk_cell BK174.out 2).trans rfl; have hcz26_3 : w25.cell? ⟨gb174, 3, none⟩ = some (.int .i8 ((rd_T62 l0_2 x28_2).f2)) := (blk_cell BK174.out 3).trans rfl; have hcz26_4 : w25.cell? ⟨gb174, 4, none⟩ = some (.int .i8 ((rd_T62 l0_2 x28_2).f3)) := (blk_cell BK174.out 4).trans rfl; have hfz26_0 := blk_frozen BK174.out 0; have hfz26_1 := blk_frozen BK174.out 1; have hfz26_2 := blk_frozen BK174.out 2; have hfz26_3 := blk_frozen BK174.out 3; have hfz26_4 := blk_frozen BK174.out 4) | ((with_reducible refine gate_dst (N := 45) rfl ?_); (try (refine gate_guard (by rfl) ?_; dsimp only)); refine look_event rfl rfl rfl rfl (ml _ (by (with_reducible repeat (first | refine blk_drewN ?_ _ | refine blk_drew ?_ | refine blk_alloc ?_ _)); exact MM.out)) ?_))
                        go_ret
                        exact ⟨by first | rfl | (simp [errW_none, errW_some] <;> rfl) | (simp [*, errW_none, errW_some] <;> rfl), by repeat (first | (with_reducible first | exact HB.out | apply below_alloc | apply pw_below_drewN | apply below_drew1 | refine below_set ?_ GE170.out | refine below_set ?_ GE174.out) | exact HB.out)⟩
                      · rw [if_neg c21] at H
                        have H' := Aside0.mk H
                        clear H
                        have p173 : 0 ≤ (x28_2 : Int) := of_decide_eq_true (by first | (with_reducible assumption) | assumption)
                        have q173 : x28_2 < (l0_2.length : Int) := of_decide_eq_true (by first | (with_reducible assumption) | assumption)
                        obtain ⟨ad173, e173, hx173_0, hx173_1, hx173_2, hx173_3, hx173_4⟩ := at_T62 HR0_2.out x28_2 p173 q173
                        cases e173
                        replace hx173_0 := (HB.out.cell (World.block_lt_of_cell? w _ hx173_0)).trans hx173_0
                        replace hx173_1 := (HB.out.cell (World.block_lt_of_cell? w _ hx173_1)).trans hx173_1
                        replace hx173_2 := (HB.out.cell (World.block_lt_of_cell? w _ hx173_2)).trans hx173_2
                        replace hx173_3 := (HB.out.cell (World.block_lt_of_cell? w _ hx173_3)).trans hx173_3
                        replace hx173_4 := (HB.out.cell (World.block_lt_of_cell? w _ hx173_4)).trans hx173_4
                        replace p173 := eq_true p173
                        replace q173 := eq_true q173
                        have ml : ∀ W : World, W.heap[gm]? = some (.map es ck) → (Instr.lookup 79 (.map (some gm)) (.agg #[.int .i8 ((rd_T62 l0_2 x28_2).f0.f0), .int .i8 ((rd_T62 l0_2 x28_2).f0.f1)]) false).run Try.prog W = .ok (.bool false) W := by
                          intro W hW
                          refine (run_mlook (V := 4) cellKey Try.underlying79 (zeroBool W) hW MER.out _ _ false).trans ?_
                          simp only [Bool.false_eq_true, if_false]; rw [show mfind x900 ((rd_T62 l0_2 x28_2).f0.f0) ((rd_T62 l0_2 x28_2).f0.f1) = none by simpa using c21]; rfl
                        have mp : ∀ W : World, W.heap[gm]? = some (.map es ck) → (Instr.mapUpdate 79 (.map (some gm)) (.agg #[.int .i8 ((rd_T62 l0_2 x28_2).f0.f0), .int .i8 ((rd_T62 l0_2 x28_2).f0.f1)]) (.bool true)).run Try.prog W = .ok () (ChangeMaps.setBlock W gm (.map (es.push ⟨ckey ((rd_T62 l0_2 x28_2).f0.f0) ((rd_T62 l0_2 x28_2).f0.f1), .bool true, ck⟩) (ck + 1))) := fun W hW => run_mput (V := 4) (vv := fun _ : Unit => Value.bool true) cellKey Try.underlying79 hW MER.out _ _ (by simpa using c21) ()
                        go_wp2_with (first | ((with_reducible refine gate_dst (N := 5) rfl ?_); (try (refine gate_guard (by rfl) ?_; dsimp only)); refine box_event ?hg (N := 5) ?hd (cs := #[.int .i8 0, .int .i8 0, .int .i8 0, .int .i8 0, .int .i8 0]) (t := 62) ?hr ?_; (case hd => rfl); (case hg => rfl); (case hr => first | (go_simp; done) | (go_simp; rfl)); intro gb174 hg w20 hbox hb; have NM174 := Aside0.mk ((by rw [hg]; exact Nat.ne_of_lt (blk_lt (g := gm) (o := .map es ck) (by (with_reducible repeat (first | refine blk_drewN ?_ _ | refine blk_drew ?_ | refine blk_alloc ?_ _)); exact MM.out))) : gm ≠ gb174); have m0_ := Aside0.mk (blk_below (g := gm) (o := .map es ck) (by (with_reducible repeat (first | refine blk_drewN ?_ _ | refine blk_drew ?_ | refine blk_alloc ?_ _)); exact MM.out) hb); clear MM; have MM := m0_; clear m0_; have n0_ := Aside0.mk (blk_below (g := gb170) (o := .cells #[.int .i8 a0_0, .int .i8 a0_1, .slice (some ad173) l0_2.length c0_2] 30 (0, 0)) (by (with_reducible repeat (first | refine blk_drewN ?_ _ | refine blk_drew ?_ | refine blk_alloc ?_ _)); exact BK170.out) hb); have n1_ := Aside0.mk (below_step (by repeat (first | (with_reducible first | exact HB.out | apply below_alloc | apply pw_below_drewN | apply below_drew1 | refine below_set ?_ GE170.out) | exact HB.out)) hb); have n2_ := Aside0.mk (hbox); have n3_ := Aside0.mk ((by rw [hg]; exact (below_size (by repeat (first | (with_reducible first | exact HB.out | apply below_alloc | apply pw_below_drewN | apply below_drew1 | refine below_set ?_ GE170.out) | exact HB.out))) : w.heap.size ≤ gb174)); have n4_ := Aside0.mk ((by rw [hg]; exact (below_size (by repeat (first | (with_reducible first | exact HB.out | apply below_alloc | apply pw_below_drewN | apply below_drew1 | refine below_set ?_ GE170.out) | exact HB.out))) : w.heap.size ≤ gb174)); have n5_ := Aside0.mk ((by rw [hg]; exact Nat.ne_of_lt (blk_lt (g := gb170) (o := .cells #[.int .i8 a0_0, .int .i8 a0_1, .slice (some ad173) l0_2.length c0_2] 30 (0, 0)) (by (with_reducible repeat (first | refine blk_drewN ?_ _ | refine blk_drew ?_ | refine blk_alloc ?_ _)); exact BK170.out)) : gb170 ≠ gb174)); have n6_ := Aside0.mk ((by rw [hg]; exact Nat.ne_of_gt (blk_lt (g := gb170) (o := .cells #[.int .i8 a0_0, .int .i8 a0_1, .slice (some ad173) l0_2.length c0_2] 30 (0, 0)) (by (with_reducible repeat (first | refine blk_drewN ?_ _ | refine blk_drew ?_ | refine blk_alloc ?_ _)); exact BK170.out)) : gb174 ≠ gb170)); clear BK170; clear HB; have BK170 := n0_; have HB := n1_; have BK174 := n2_; have GW174 := n3_; have GE174 := n4_; have NB170_174 := n5_; have NB174_170 := n6_; clear n0_ n1_ n2_ n3_ n4_ n5_ n6_; clear hb hbox hg; have hnb21 := NB174_170.out; have hnc21 := NB170_174.out; have hcz22_0 : w20.cell? ⟨gb174, 0, none⟩ = some (.int .i8 0) := (blk_cell BK174.out 0).trans rfl; have hcz22_1 : w20.cell? ⟨gb174, 1, none⟩ = some (.int .i8 0) := (blk_cell BK174.out 1).trans rfl; have hcz22_2 : w20.cell? ⟨gb174, 2, none⟩ = some (.int .i8 0) := (blk_cell BK174.out 2).trans rfl; have hcz22_3 : w20.cell? ⟨gb174, 3, none⟩ = some (.int .i8 0) := (blk_cell BK174.out 3).trans rfl; have hcz22_4 : w20.cell? ⟨gb174, 4, none⟩ = some (.int .i8 0) := (blk_cell BK174.out 4).trans rfl; have hfz22_0 := blk_frozen BK174.out 0; have hfz22_1 := blk_frozen BK174.out 1; have hfz22_2 := blk_frozen BK174.out 2; have hfz22_3 := blk_frozen BK174.out 3; have hfz22_4 := blk_frozen BK174.out 4) | ((with_reducible refine gate_callee (f := 48) rfl ?_); refine goesL_ (some 33) rfl rfl Try.func48 (by kernel_rfl) rfl #[.agg #[.int .i8 ((rd_T62 l0_2 x28_2).f0.f0), .int .i8 ((rd_T62 l0_2 x28_2).f0.f1), .int .i8 ((rd_T62 l0_2 x28_2).f1), .int .i8 ((rd_T62 l0_2 x28_2).f2), .int .i8 ((rd_T62 l0_2 x28_2).f3)]] rfl (by (try simp only [List.map_toArray, List.map_cons, List.map_nil]); first | done | rfl | (simp only [List.length_drop, List.length_take]; rfl)) ?_; (with_reducible refine (impl_ValidPiece.calls ((rd_T62 l0_2 x28_2).f0.f0) ((rd_T62 l0_2 x28_2).f0.f1) ((rd_T62 l0_2 x28_2).f1) ((rd_T62 l0_2 x28_2).f2) ((rd_T62 l0_2 x28_2).f3) true _ A16.out).mono ?_); rintro e w23 ⟨rfl, hb⟩; refine ⟨_, rfl, ?_⟩; have m0_ := Aside0.mk (blk_below (g := gm) (o := .map es ck) (by (repeat (first | (with_reducible refine blk_drewN ?_ _) | (with_reducible refine blk_drew ?_) | (with_reducible refine blk_alloc ?_ _) | (refine mblk_far ?_ NM174.out _))); exact MM.out) hb); clear MM; have MM := m0_; clear m0_; have n0_ := Aside0.mk (blk_below (g := gb170) (o := .cells #[.int .i8 a0_0, .int .i8 a0_1, .slice (some ad173) l0_2.length c0_2] 30 (0, 0)) (by (with_reducible repeat (first | refine blk_drewN ?_ _ | refine blk_drew ?_ | refine blk_alloc ?_ _)); refine blk_far ?_ NB170_174.out _; (with_reducible repeat (first | refine blk_drewN ?_ _ | refine blk_drew ?_ | refine blk_alloc ?_ _)); refine blk_far ?_ NB170_174.out _; (with_reducible repeat (first | refine blk_drewN ?_ _ | refine blk_drew ?_ | refine blk_alloc ?_ _)); refine blk_far ?_ NB170_174.out _; (with_reducible repeat (first | refine blk_drewN ?_ _ | refine blk_drew ?_ | refine blk_alloc ?_ _)); refine blk_far ?_ NB170_174.out _; (with_reducible repeat (first | refine blk_drewN ?_ _ | refine blk_drew ?_ | refine blk_alloc ?_ _)); refine blk_far ?_ NB170_174.out _; (with_reducible repeat (first | refine blk_drewN ?_ _ | refine blk_drew ?_ | refine blk_alloc ?_ _)); exact BK170.out) hb); have n1_ := Aside0.mk (blk_below (g := gb174) (o := .cells #[.int .i8 ((rd_T62 l0_2 x28_2).f0.f0), .int .i8 ((rd_T62 l0_2 x28_2).f0.f1), .int .i8 ((rd_T62 l0_2 x28_2).f1), .int .i8 ((rd_T62 l0_2 x28_2).f2), .int .i8 ((rd_T62 l0_2 x28_2).f3)] 62 (0, 0)) (by (with_reducible repeat (first | refine blk_drewN ?_ _ | refine blk_drew ?_ | refine blk_alloc ?_ _)); refine blk_put (cs := #[.int .i8 ((rd_T62 l0_2 x28_2).f0.f0), .int .i8 ((rd_T62 l0_2 x28_2).f0.f1), .int .i8 ((rd_T62 l0_2 x28_2).f1), .int .i8 ((rd_T62 l0_2 x28_2).f2), .int .i8 0]) ?_ 4 _ rfl; (with_reducible repeat (first | refine blk_drewN ?_ _ | refine blk_drew ?_ | refine blk_alloc ?_ _)); refine blk_put (cs := #[.int .i8 ((rd_T62 l0_2 x28_2).f0.f0), .int .i8 ((rd_T62 l0_2 x28_2).f0.f1), .int .i8 ((rd_T62 l0_2 x28_2).f1), .int .i8 0, .int .i8 0]) ?_ 3 _ rfl; (with_reducible repeat (first | refine blk_drewN ?_ _ | refine blk_drew ?_ | refine blk_alloc ?_ _)); refine blk_put (cs := #[.int .i8 ((rd_T62 l0_2 x28_2).f0.f0), .int .i8 ((rd_T62 l0_2 x28_2).f0.f1), .int .i8 0, .int .i8 0, .int .i8 0]) ?_ 2 _ rfl; (with_reducible repeat (first | refine blk_drewN ?_ _ | refine blk_drew ?_ | refine blk_alloc ?_ _)); refine blk_put (cs := #[.int .i8 ((rd_T62 l0_2 x28_2).f0.f0), .int .i8 0, .int .i8 0, .int .i8 0, .int .i8 0]) ?_ 1 _ rfl; (with_reducible repeat (first | refine blk_drewN ?_ _ | refine blk_drew ?_ | refine blk_alloc ?_ _)); refine blk_put (cs := #[.int .i8 0, .int .i8 0, .int .i8 0, .int .i8 0, .int .i8 0]) ?_ 0 _ rfl; (with_reducible repeat (first | refine blk_drewN ?_ _ | refine blk_drew ?_ | refine blk_alloc ?_ _)); exact BK174.out) hb); have n2_ := Aside0.mk (below_step (by repeat (first | (with_reducible first | exact HB.out | apply below_alloc | apply pw_below_drewN | apply below_drew1 | refine below_set ?_ GE170.out | refine below_set ?_ GE174.out) | exact HB.out)) hb); clear BK170; clear BK174; clear HB; have BK170 := n0_; have BK174 := n1_; have HB := n2_; clear n0_ n1_ n2_; (try clear hb); (try clear hb2); (try clear hk); (try clear hi); have hcz24_0 : w23.cell? ⟨gb174, 0, none⟩ = some (.int .i8 ((rd_T62 l0_2 x28_2).f0.f0)) := (blk_cell BK174.out 0).trans rfl; have hcz24_1 : w23.cell? ⟨gb174, 1, none⟩ = some (.int .i8 ((rd_T62 l0_2 x28_2).f0.f1)) := (blk_cell BK174.out 1).trans rfl; have hcz24_2 : w23.cell? ⟨gb174, 2, none⟩ = some (.int .i8 ((rd_T62 l0_2 x28_2).f1)) := (blk_cell BK174.out 2).trans rfl; have hcz24_3 : w23.cell? ⟨gb174, 3, none⟩ = some (.int .i8 ((rd_T62 l0_2 x28_2).f2)) := (blk_cell BK174.out 3).trans rfl; have hcz24_4 : w23.cell? ⟨gb174, 4, none⟩ = some (.int .i8 ((rd_T62 l0_2 x28_2).f3)) := (blk_cell BK174.out 4).trans rfl; have hfz24_0 := blk_frozen BK174.out 0; have hfz24_1 := blk_frozen BK174.out 1; have hfz24_2 := blk_frozen BK174.out 2; have hfz24_3 := blk_frozen BK174.out 3; have hfz24_4 := blk_frozen BK174.out 4) | (go_at_call 49; (with_reducible refine (impl_Board_has.calls _ [(⟨a0_0, a0_1, l0_2⟩ : S30)] ((rd_T62 l0_2 x28_2).f0.f0) ((rd_T62 l0_2 x28_2).f0.f1) true _ ?side1 A18.out).mono ?_); (case side1 => refine ro_of_blk (T := 30) (cs := #[.int .i8 a0_0, .int .i8 a0_1, .slice (some ad173) l0_2.length c0_2]) (by (with_reducible repeat (first | refine blk_drewN ?_ _ | refine blk_drew ?_ | refine blk_alloc ?_ _)); exact BK170.out) ?_; exact k30_mk _ (⟨a0_0, a0_1, l0_2⟩ : S30) (by exact HC0_2.out) (by repeat (first | exact (Kd.C_below HR0_2.out HB.out) | (with_reducible refine Kd.C_alloc ?_ _) | (with_reducible refine Kd.C_drewN ?_ _) | (with_reducible refine Kd.C_drew ?_)))); rintro e w25 ⟨rfl, hb⟩; have m0_ := Aside0.mk (blk_below (g := gm) (o := .map es ck) (by (with_reducible repeat (first | refine blk_drewN ?_ _ | refine blk_drew ?_ | refine blk_alloc ?_ _)); exact MM.out) hb); clear MM; have MM := m0_; clear m0_; have n0_ := Aside0.mk (blk_below (g := gb170) (o := .cells #[.int .i8 a0_0, .int .i8 a0_1, .slice (some ad173) l0_2.length c0_2] 30 (0, 0)) (by (with_reducible repeat (first | refine blk_drewN ?_ _ | refine blk_drew ?_ | refine blk_alloc ?_ _)); exact BK170.out) hb); have n1_ := Aside0.mk (blk_below (g := gb174) (o := .cells #[.int .i8 ((rd_T62 l0_2 x28_2).f0.f0), .int .i8 ((rd_T62 l0_2 x28_2).f0.f1), .int .i8 ((rd_T62 l0_2 x28_2).f1), .int .i8 ((rd_T62 l0_2 x28_2).f2), .int .i8 ((rd_T62 l0_2 x28_2).f3)] 62 (0, 0)) (by (with_reducible repeat (first | refine blk_drewN ?_ _ | refine blk_drew ?_ | refine blk_alloc ?_ _)); exact BK174.out) hb); have n2_ := Aside0.mk (below_step (by repeat (first | (with_reducible first | exact HB.out | apply below_alloc | apply pw_below_drewN | apply below_drew1 | refine below_set ?_ GE170.out | refine below_set ?_ GE174.out) | exact HB.out)) hb); clear BK170; clear BK174; clear HB; have BK170 := n0_; have BK174 := n1_; have HB := n2_; clear n0_ n1_ n2_; (try clear hb); (try clear hb2); (try clear hk); (try clear hi); have hcz26_0 : w25.cell? ⟨gb174, 0, none⟩ = some (.int .i8 ((rd_T62 l0_2 x28_2).f0.f0)) := (blk_cell BK174.out 0).trans rfl; have hcz26_1 : w25.cell? ⟨gb174, 1, none⟩ = some (.int .i8 ((rd_T62 l0_2 x28_2).f0.f1)) := (blk_cell BK174.out 1).trans rfl; have hcz26_2 : w25.cell? ⟨gb174, 2, none⟩ = some (.int .i8 ((rd_T62 l0_2 x28_2).f1)) := (blk_cell BK174.out 2).trans rfl; have hcz26_3 : w25.cell? ⟨gb174, 3, none⟩ = some (.int .i8 ((rd_T62 l0_2 x28_2).f2)) := (blk_cell BK174.out 3).trans rfl; have hcz26_4 : w25.cell? ⟨gb174, 4, none⟩ = some (.int .i8 ((rd_T62 l0_2 x28_2).f3)) := (blk_cell BK174.out 4).trans rfl; have hfz26_0 := blk_frozen BK174.out 0; have hfz26_1 := blk_frozen BK174.out 1; have hfz26_2 := blk_frozen BK174.out 2; have hfz26_3 := blk_frozen BK174.out 3; have hfz26_4 := blk_frozen BK174.out 4) | ((with_reducible refine gate_dst (N := 45) rfl ?_); (try (refine gate_guard (by rfl) ?_; dsimp only)); refine look_event rfl rfl rfl rfl (ml _ (by (with_reducible repeat (first | refine blk_drewN ?_ _ | refine blk_drew ?_ | refine blk_alloc ?_ _)); exact MM.out)) ?_) | (at_mapUpdate; refine put_event rfl rfl rfl rfl rfl (mp _ (by (with_reducible repeat (first | refine blk_drewN ?_ _ | refine blk_drew ?_ | refine blk_alloc ?_ _)); exact MM.out)) (by (with_reducible repeat (first | refine blk_drewN ?_ _ | refine blk_drew ?_ | refine blk_alloc ?_ _)); exact MM.out) ?_; intro w60 hm1 hm2 hm3; have n0_ := Aside0.mk ((hm2 gb170 GMB.out).trans (by (with_reducible repeat (first | refine blk_drewN ?_ _ | refine blk_drew ?_ | refine blk_alloc ?_ _)); exact BK170.out)); have n1_ := Aside0.mk (hm3 w (by repeat (first | (with_reducible first | exact HB.out | apply below_alloc | apply pw_below_drewN | apply below_drew1 | refine below_set ?_ GE170.out | refine below_set ?_ GE174.out) | exact HB.out)) GEM.out); clear BK170; clear BK174; clear HB; clear MM; have BK170 := n0_; have HB := n1_; have MM := Aside0.mk hm1; clear n0_ n1_ hm1 hm2 hm3))
                        go_roundg k2
                        case measure => have := HJ1.out; have := HK2.out; omega
                        case rel => exact ⟨(wrap64 (x28_2 + 1)), (x900 ++ [((((rd_T62 l0_2 x28_2).f0.f0), ((rd_T62 l0_2 x28_2).f0.f1)), ())]), _, _, (by first | rfl | (simp; done) | (simp [*]; done) | (exact congrArg (Value.int .i64) (wrap_eq (by omega)))), H', ⟨by have := HJ1.out; have := HK2.out; omega⟩, ⟨by (with_reducible repeat (first | refine blk_drewN ?_ _ | refine blk_drew ?_ | refine blk_alloc ?_ _)); exact BK170.out⟩, ⟨by (with_reducible repeat (first | refine blk_drewN ?_ _ | refine blk_drew ?_ | refine blk_alloc ?_ _)); exact MM.out⟩, ⟨ER_push MER.out _ _ _ _⟩, ⟨by repeat (first | (with_reducible first | exact HB.out | apply below_alloc | apply pw_below_drewN | apply below_drew1 | refine below_set ?_ GE170.out | refine below_set ?_ GE174.out) | exact HB.out)⟩⟩
                    · replace c19 := Bool.eq_false_iff.mpr c19
                      subst c19
                      have H1 : (some false) = some r := by rw [if_neg (show ¬ (false = true) by decide)] at H; exact H
                      clear H
                      have H := H1
                      clear H1
                      obtain rfl := Option.some.inj H
                      have p173 : 0 ≤ (x28_2 : Int) := of_decide_eq_true (by first | (with_reducible assumption) | assumption)
                      have q173 : x28_2 < (l0_2.length : Int) := of_decide_eq_true (by first | (with_reducible assumption) | assumption)
                      obtain ⟨ad173, e173, hx173_0, hx173_1, hx173_2, hx173_3, hx173_4⟩ := at_T62 HR0_2.out x28_2 p173 q173
                      cases e173
                      replace hx173_0 := (HB.out.cell (World.block_lt_of_cell? w _ hx173_0)).trans hx173_0
                      replace hx173_1 := (HB.out.cell (World.block_lt_of_cell? w _ hx173_1)).trans hx173_1
                      replace hx173_2 := (HB.out.cell (World.block_lt_of_cell? w _ hx173_2)).trans hx173_2
                      replace hx173_3 := (HB.out.cell (World.block_lt_of_cell? w _ hx173_3)).trans hx173_3
                      replace hx173_4 := (HB.out.cell (World.block_lt_of_cell? w _ hx173_4)).trans hx173_4
                      replace p173 := eq_true p173
                      replace q173 := eq_true q173
                      go_wp2_with (first | ((with_reducible refine gate_dst (N := 5) rfl ?_); (try (refine gate_guard (by rfl) ?_; dsimp only)); refine box_event ?hg (N := 5) ?hd (cs := #[.int .i8 0, .int .i8 0, .int .i8 0, .int .i8 0, .int .i8 0]) (t := 62) ?hr ?_; (case hd => rfl); (case hg => rfl); (case hr => first | (go_simp; done) | (go_simp; rfl)); intro gb174 hg w27 hbox hb; have NM174 := Aside0.mk ((by rw [hg]; exact Nat.ne_of_lt (blk_lt (g := gm) (o := .map es ck) (by (with_reducible repeat (first | refine blk_drewN ?_ _ | refine blk_drew ?_ | refine blk_alloc ?_ _)); exact MM.out))) : gm ≠ gb174); have m0_ := Aside0.mk (blk_below (g := gm) (o := .map es ck) (by (with_reducible repeat (first | refine blk_drewN ?_ _ | refine blk_drew ?_ | refine blk_alloc ?_ _)); exact MM.out) hb); clear MM; have MM := m0_; clear m0_; have n0_ := Aside0.mk (blk_below (g := gb170) (o := .cells #[.int .i8 a0_0, .int .i8 a0_1, .slice (some ad173) l0_2.length c0_2] 30 (0, 0)) (by (with_reducible repeat (first | refine blk_drewN ?_ _ | refine blk_drew ?_ | refine blk_alloc ?_ _)); exact BK170.out) hb); have n1_ := Aside0.mk (below_step (by repeat (first | (with_reducible first | exact HB.out | apply below_alloc | apply pw_below_drewN | apply below_drew1 | refine below_set ?_ GE170.out) | exact HB.out)) hb); have n2_ := Aside0.mk (hbox); have n3_ := Aside0.mk ((by rw [hg]; exact (below_size (by repeat (first | (with_reducible first | exact HB.out | apply below_alloc | apply pw_below_drewN | apply below_drew1 | refine below_set ?_ GE170.out) | exact HB.out))) : w.heap.size ≤ gb174)); have n4_ := Aside0.mk ((by rw [hg]; exact (below_size (by repeat (first | (with_reducible first | exact HB.out | apply below_alloc | apply pw_below_drewN | apply below_drew1 | refine below_set ?_ GE170.out) | exact HB.out))) : w.heap.size ≤ gb174)); have n5_ := Aside0.mk ((by rw [hg]; exact Nat.ne_of_lt (blk_lt (g := gb170) (o := .cells #[.int .i8 a0_0, .int .i8 a0_1, .slice (some ad173) l0_2.length c0_2] 30 (0, 0)) (by (with_reducible repeat (first | refine blk_drewN ?_ _ | refine blk_drew ?_ | refine blk_alloc ?_ _)); exact BK170.out)) : gb170 ≠ gb174)); have n6_ := Aside0.mk ((by rw [hg]; exact Nat.ne_of_gt (blk_lt (g := gb170) (o := .cells #[.int .i8 a0_0, .int .i8 a0_1, .slice (some ad173) l0_2.length c0_2] 30 (0, 0)) (by (with_reducible repeat (first | refine blk_drewN ?_ _ | refine blk_drew ?_ | refine blk_alloc ?_ _)); exact BK170.out)) : gb174 ≠ gb170)); clear BK170; clear HB; have BK170 := n0_; have HB := n1_; have BK174 := n2_; have GW174 := n3_; have GE174 := n4_; have NB170_174 := n5_; have NB174_170 := n6_; clear n0_ n1_ n2_ n3_ n4_ n5_ n6_; clear hb hbox hg; have hnb28 := NB174_170.out; have hnc28 := NB170_174.out; have hcz29_0 : w27.cell? ⟨gb174, 0, none⟩ = some (.int .i8 0) := (blk_cell BK174.out 0).trans rfl; have hcz29_1 : w27.cell? ⟨gb174, 1, none⟩ = some (.int .i8 0) := (blk_cell BK174.out 1).trans rfl; have hcz29_2 : w27.cell? ⟨gb174, 2, none⟩ = some (.int .i8 0) := (blk_cell BK174.out 2).trans rfl; have hcz29_3 : w27.cell? ⟨gb174, 3, none⟩ = some (.int .i8 0) := (blk_cell BK174.out 3).trans rfl; have hcz29_4 : w27.cell? ⟨gb174, 4, none⟩ = some (.int .i8 0) := (blk_cell BK174.out 4).trans rfl; have hfz29_0 := blk_frozen BK174.out 0; have hfz29_1 := blk_frozen BK174.out 1; have hfz29_2 := blk_frozen BK174.out 2; have hfz29_3 := blk_frozen BK174.out 3; have hfz29_4 := blk_frozen BK174.out 4) | ((with_reducible refine gate_callee (f := 48) rfl ?_); refine goesL_ (some 33) rfl rfl Try.func48 (by kernel_rfl) rfl #[.agg #[.int .i8 ((rd_T62 l0_2 x28_2).f0.f0), .int .i8 ((rd_T62 l0_2 x28_2).f0.f1), .int .i8 ((rd_T62 l0_2 x28_2).f1), .int .i8 ((rd_T62 l0_2 x28_2).f2), .int .i8 ((rd_T62 l0_2 x28_2).f3)]] rfl (by (try simp only [List.map_toArray, List.map_cons, List.map_nil]); first | done | rfl | (simp only [List.length_drop, List.length_take]; rfl)) ?_; (with_reducible refine (impl_ValidPiece.calls ((rd_T62 l0_2 x28_2).f0.f0) ((rd_T62 l0_2 x28_2).f0.f1) ((rd_T62 l0_2 x28_2).f1) ((rd_T62 l0_2 x28_2).f2) ((rd_T62 l0_2 x28_2).f3) true _ A16.out).mono ?_); rintro e w30 ⟨rfl, hb⟩; refine ⟨_, rfl, ?_⟩; have m0_ := Aside0.mk (blk_below (g := gm) (o := .map es ck) (by (repeat (first | (with_reducible refine blk_drewN ?_ _) | (with_reducible refine blk_drew ?_) | (with_reducible refine blk_alloc ?_ _) | (refine mblk_far ?_ NM174.out _))); exact MM.out) hb); clear MM; have MM := m0_; clear m0_; have n0_ := Aside0.mk (blk_below (g := gb170) (o := .cells #[.int .i8 a0_0, .int .i8 a0_1, .slice (some ad173) l0_2.length c0_2] 30 (0, 0)) (by (with_reducible repeat (first | refine blk_drewN ?_ _ | refine blk_drew ?_ | refine blk_alloc ?_ _)); refine blk_far ?_ NB170_174.out _; (with_reducible repeat (first | refine blk_drewN ?_ _ | refine blk_drew ?_ | refine blk_alloc ?_ _)); refine blk_far ?_ NB170_174.out _; (with_reducible repeat (first | refine blk_drewN ?_ _ | refine blk_drew ?_ | refine blk_alloc ?_ _)); refine blk_far ?_ NB170_174.out _; (with_reducible repeat (first | refine blk_drewN ?_ _ | refine blk_drew ?_ | refine blk_alloc ?_ _)); refine blk_far ?_ NB170_174.out _; (with_reducible repeat (first | refine blk_drewN ?_ _ | refine blk_drew ?_ | refine blk_alloc ?_ _)); refine blk_far ?_ NB170_174.out _; (with_reducible repeat (first | refine blk_drewN ?_ _ | refine blk_drew ?_ | refine blk_alloc ?_ _)); exact BK170.out) hb); have n1_ := Aside0.mk (blk_below (g := gb174) (o := .cells #[.int .i8 ((rd_T62 l0_2 x28_2).f0.f0), .int .i8 ((rd_T62 l0_2 x28_2).f0.f1), .int .i8 ((rd_T62 l0_2 x28_2).f1), .int .i8 ((rd_T62 l0_2 x28_2).f2), .int .i8 ((rd_T62 l0_2 x28_2).f3)] 62 (0, 0)) (by (with_reducible repeat (first | refine blk_drewN ?_ _ | refine blk_drew ?_ | refine blk_alloc ?_ _)); refine blk_put (cs := #[.int .i8 ((rd_T62 l0_2 x28_2).f0.f0), .int .i8 ((rd_T62 l0_2 x28_2).f0.f1), .int .i8 ((rd_T62 l0_2 x28_2).f1), .int .i8 ((rd_T62 l0_2 x28_2).f2), .int .i8 0]) ?_ 4 _ rfl; (with_reducible repeat (first | refine blk_drewN ?_ _ | refine blk_drew ?_ | refine blk_alloc ?_ _)); refine blk_put (cs := #[.int .i8 ((rd_T62 l0_2 x28_2).f0.f0), .int .i8 ((rd_T62 l0_2 x28_2).f0.f1), .int .i8 ((rd_T62 l0_2 x28_2).f1), .int .i8 0, .int .i8 0]) ?_ 3 _ rfl; (with_reducible repeat (first | refine blk_drewN ?_ _ | refine blk_drew ?_ | refine blk_alloc ?_ _)); refine blk_put (cs := #[.int .i8 ((rd_T62 l0_2 x28_2).f0.f0), .int .i8 ((rd_T62 l0_2 x28_2).f0.f1), .int .i8 0, .int .i8 0, .int .i8 0]) ?_ 2 _ rfl; (with_reducible repeat (first | refine blk_drewN ?_ _ | refine blk_drew ?_ | refine blk_alloc ?_ _)); refine blk_put (cs := #[.int .i8 ((rd_T62 l0_2 x28_2).f0.f0), .int .i8 0, .int .i8 0, .int .i8 0, .int .i8 0]) ?_ 1 _ rfl; (with_reducible repeat (first | refine blk_drewN ?_ _ | refine blk_drew ?_ | refine blk_alloc ?_ _)); refine blk_put (cs := #[.int .i8 0, .int .i8 0, .int .i8 0, .int .i8 0, .int .i8 0]) ?_ 0 _ rfl; (with_reducible repeat (first | refine blk_drewN ?_ _ | refine blk_drew ?_ | refine blk_alloc ?_ _)); exact BK174.out) hb); have n2_ := Aside0.mk (below_step (by repeat (first | (with_reducible first | exact HB.out | apply below_alloc | apply pw_below_drewN | apply below_drew1 | refine below_set ?_ GE170.out | refine below_set ?_ GE174.out) | exact HB.out)) hb); clear BK170; clear BK174; clear HB; have BK170 := n0_; have BK174 := n1_; have HB := n2_; clear n0_ n1_ n2_; (try clear hb); (try clear hb2); (try clear hk); (try clear hi); have hcz31_0 : w30.cell? ⟨gb174, 0, none⟩ = some (.int .i8 ((rd_T62 l0_2 x28_2).f0.f0)) := (blk_cell BK174.out 0).trans rfl; have hcz31_1 : w30.cell? ⟨gb174, 1, none⟩ = some (.int .i8 ((rd_T62 l0_2 x28_2).f0.f1)) := (blk_cell BK174.out 1).trans rfl; have hcz31_2 : w30.cell? ⟨gb174, 2, none⟩ = some (.int .i8 ((rd_T62 l0_2 x28_2).f1)) := (blk_cell BK174.out 2).trans rfl; have hcz31_3 : w30.cell? ⟨gb174, 3, none⟩ = some (.int .i8 ((rd_T62 l0_2 x28_2).f2)) := (blk_cell BK174.out 3).trans rfl; have hcz31_4 : w30.cell? ⟨gb174, 4, none⟩ = some (.int .i8 ((rd_T62 l0_2 x28_2).f3)) := (blk_cell BK174.out 4).trans rfl; have hfz31_0 := blk_frozen BK174.out 0; have hfz31_1 := blk_frozen BK174.out 1; have hfz31_2 := blk_frozen BK174.out 2; have hfz31_3 := blk_frozen BK174.out 3; have hfz31_4 := blk_frozen BK174.out 4) | (go_at_call 49; (with_reducible refine (impl_Board_has.calls _ [(⟨a0_0, a0_1, l0_2⟩ : S30)] ((rd_T62 l0_2 x28_2).f0.f0) ((rd_T62 l0_2 x28_2).f0.f1) false _ ?side1 A18.out).mono ?_); (case side1 => refine ro_of_blk (T := 30) (cs := #[.int .i8 a0_0, .int .i8 a0_1, .slice (some ad173) l0_2.length c0_2]) (by (with_reducible repeat (first | refine blk_drewN ?_ _ | refine blk_drew ?_ | refine blk_alloc ?_ _)); exact BK170.out) ?_; exact k30_mk _ (⟨a0_0, a0_1, l0_2⟩ : S30) (by exact HC0_2.out) (by repeat (first | exact (Kd.C_below HR0_2.out HB.out) | (with_reducible refine Kd.C_alloc ?_ _) | (with_reducible refine Kd.C_drewN ?_ _) | (with_reducible refine Kd.C_drew ?_)))); rintro e w32 ⟨rfl, hb⟩; have m0_ := Aside0.mk (blk_below (g := gm) (o := .map es ck) (by (with_reducible repeat (first | refine blk_drewN ?_ _ | refine blk_drew ?_ | refine blk_alloc ?_ _)); exact MM.out) hb); clear MM; have MM := m0_; clear m0_; have n0_ := Aside0.mk (blk_below (g := gb170) (o := .cells #[.int .i8 a0_0, .int .i8 a0_1, .slice (some ad173) l0_2.length c0_2] 30 (0, 0)) (by (with_reducible repeat (first | refine blk_drewN ?_ _ | refine blk_drew ?_ | refine blk_alloc ?_ _)); exact BK170.out) hb); have n1_ := Aside0.mk (blk_below (g := gb174) (o := .cells #[.int .i8 ((rd_T62 l0_2 x28_2).f0.f0), .int .i8 ((rd_T62 l0_2 x28_2).f0.f1), .int .i8 ((rd_T62 l0_2 x28_2).f1), .int .i8 ((rd_T62 l0_2 x28_2).f2), .int .i8 ((rd_T62 l0_2 x28_2).f3)] 62 (0, 0)) (by (with_reducible repeat (first | refine blk_drewN ?_ _ | refine blk_drew ?_ | refine blk_alloc ?_ _)); exact BK174.out) hb); have n2_ := Aside0.mk (below_step (by repeat (first | (with_reducible first | exact HB.out | apply below_alloc | apply pw_below_drewN | apply below_drew1 | refine below_set ?_ GE170.out | refine below_set ?_ GE174.out) | exact HB.out)) hb); clear BK170; clear BK174; clear HB; have BK170 := n0_; have BK174 := n1_; have HB := n2_; clear n0_ n1_ n2_; (try clear hb); (try clear hb2); (try clear hk); (try clear hi)))
                      go_ret
                      exact ⟨by first | rfl | (simp [errW_none, errW_some] <;> rfl) | (simp [*, errW_none, errW_some] <;> rfl), by repeat (first | (with_reducible first | exact HB.out | apply below_alloc | apply pw_below_drewN | apply below_drew1 | refine below_set ?_ GE170.out | refine below_set ?_ GE174.out) | exact HB.out)⟩
                  · replace c17 := Bool.eq_false_iff.mpr c17
                    subst c17
                    have H1 : (some false) = some r := by rw [if_neg (show ¬ (false = true) by decide)] at H; exact H
                    clear H
                    have H := H1
                    clear H1
                    obtain rfl := Option.some.inj H
                    have p173 : 0 ≤ (x28_2 : Int) := of_decide_eq_true (by first | (with_reducible assumption) | assumption)
                    have q173 : x28_2 < (l0_2.length : Int) := of_decide_eq_true (by first | (with_reducible assumption) | assumption)
                    obtain ⟨ad173, e173, hx173_0, hx173_1, hx173_2, hx173_3, hx173_4⟩ := at_T62 HR0_2.out x28_2 p173 q173
                    cases e173
                    replace hx173_0 := (HB.out.cell (World.block_lt_of_cell? w _ hx173_0)).trans hx173_0
                    replace hx173_1 := (HB.out.cell (World.block_lt_of_cell? w _ hx173_1)).trans hx173_1
                    replace hx173_2 := (HB.out.cell (World.block_lt_of_cell? w _ hx173_2)).trans hx173_2
                    replace hx173_3 := (HB.out.cell (World.block_lt_of_cell? w _ hx173_3)).trans hx173_3
                    replace hx173_4 := (HB.out.cell (World.block_lt_of_cell? w _ hx173_4)).trans hx173_4
                    replace p173 := eq_true p173
                    replace q173 := eq_true q173
                    go_wp2_with (first | ((with_reducible refine gate_dst (N := 5) rfl ?_); (try (refine gate_guard (by rfl) ?_; dsimp only)); refine box_event ?hg (N := 5) ?hd (cs := #[.int .i8 0, .int .i8 0, .int .i8 0, .int .i8 0, .int .i8 0]) (t := 62) ?hr ?_; (case hd => rfl); (case hg => rfl); (case hr => first | (go_simp; done) | (go_simp; rfl)); intro gb174 hg w33 hbox hb; have NM174 := Aside0.mk ((by rw [hg]; exact Nat.ne_of_lt (blk_lt (g := gm) (o := .map es ck) (by (with_reducible repeat (first | refine blk_drewN ?_ _ | refine blk_drew ?_ | refine blk_alloc ?_ _)); exact MM.out))) : gm ≠ gb174); have m0_ := Aside0.mk (blk_below (g := gm) (o := .map es ck) (by (with_reducible repeat (first | refine blk_drewN ?_ _ | refine blk_drew ?_ | refine blk_alloc ?_ _)); exact MM.out) hb); clear MM; have MM := m0_; clear m0_; have n0_ := Aside0.mk (blk_below (g := gb170) (o := .cells #[.int .i8 a0_0, .int .i8 a0_1, .slice (some ad173) l0_2.length c0_2] 30 (0, 0)) (by (with_reducible repeat (first | refine blk_drewN ?_ _ | refine blk_drew ?_ | refine blk_alloc ?_ _)); exact BK170.out) hb); have n1_ := Aside0.mk (below_step (by repeat (first | (with_reducible first | exact HB.out | apply below_alloc | apply pw_below_drewN | apply below_drew1 | refine below_set ?_ GE170.out) | exact HB.out)) hb); have n2_ := Aside0.mk (hbox); have n3_ := Aside0.mk ((by rw [hg]; exact (below_size (by repeat (first | (with_reducible first | exact HB.out | apply below_alloc | apply pw_below_drewN | apply below_drew1 | refine below_set ?_ GE170.out) | exact HB.out))) : w.heap.size ≤ gb174)); have n4_ := Aside0.mk ((by rw [hg]; exact (below_size (by repeat (first | (with_reducible first | exact HB.out | apply below_alloc | apply pw_below_drewN | apply below_drew1 | refine below_set ?_ GE170.out) | exact HB.out))) : w.heap.size ≤ gb174)); have n5_ := Aside0.mk ((by rw [hg]; exact Nat.ne_of_lt (blk_lt (g := gb170) (o := .cells #[.int .i8 a0_0, .int .i8 a0_1, .slice (some ad173) l0_2.length c0_2] 30 (0, 0)) (by (with_reducible repeat (first | refine blk_drewN ?_ _ | refine blk_drew ?_ | refine blk_alloc ?_ _)); exact BK170.out)) : gb170 ≠ gb174)); have n6_ := Aside0.mk ((by rw [hg]; exact Nat.ne_of_gt (blk_lt (g := gb170) (o := .cells #[.int .i8 a0_0, .int .i8 a0_1, .slice (some ad173) l0_2.length c0_2] 30 (0, 0)) (by (with_reducible repeat (first | refine blk_drewN ?_ _ | refine blk_drew ?_ | refine blk_alloc ?_ _)); exact BK170.out)) : gb174 ≠ gb170)); clear BK170; clear HB; have BK170 := n0_; have HB := n1_; have BK174 := n2_; have GW174 := n3_; have GE174 := n4_; have NB170_174 := n5_; have NB174_170 := n6_; clear n0_ n1_ n2_ n3_ n4_ n5_ n6_; clear hb hbox hg; have hnb34 := NB174_170.out; have hnc34 := NB170_174.out; have hcz35_0 : w33.cell? ⟨gb174, 0, none⟩ = some (.int .i8 0) := (blk_cell BK174.out 0).trans rfl; have hcz35_1 : w33.cell? ⟨gb174, 1, none⟩ = some (.int .i8 0) := (blk_cell BK174.out 1).trans rfl; have hcz35_2 : w33.cell? ⟨gb174, 2, none⟩ = some (.int .i8 0) := (blk_cell BK174.out 2).trans rfl; have hcz35_3 : w33.cell? ⟨gb174, 3, none⟩ = some (.int .i8 0) := (blk_cell BK174.out 3).trans rfl; have hcz35_4 : w33.cell? ⟨gb174, 4, none⟩ = some (.int .i8 0) := (blk_cell BK174.out 4).trans rfl; have hfz35_0 := blk_frozen BK174.out 0; have hfz35_1 := blk_frozen BK174.out 1; have hfz35_2 := blk_frozen BK174.out 2; have hfz35_3 := blk_frozen BK174.out 3; have hfz35_4 := blk_frozen BK174.out 4) | ((with_reducible refine gate_callee (f := 48) rfl ?_); refine goesL_ (some 33) rfl rfl Try.func48 (by kernel_rfl) rfl #[.agg #[.int .i8 ((rd_T62 l0_2 x28_2).f0.f0), .int .i8 ((rd_T62 l0_2 x28_2).f0.f1), .int .i8 ((rd_T62 l0_2 x28_2).f1), .int .i8 ((rd_T62 l0_2 x28_2).f2), .int .i8 ((rd_T62 l0_2 x28_2).f3)]] rfl (by (try simp only [List.map_toArray, List.map_cons, List.map_nil]); first | done | rfl | (simp only [List.length_drop, List.length_take]; rfl)) ?_; (with_reducible refine (impl_ValidPiece.calls ((rd_T62 l0_2 x28_2).f0.f0) ((rd_T62 l0_2 x28_2).f0.f1) ((rd_T62 l0_2 x28_2).f1) ((rd_T62 l0_2 x28_2).f2) ((rd_T62 l0_2 x28_2).f3) false _ A16.out).mono ?_); rintro e w36 ⟨rfl, hb⟩; refine ⟨_, rfl, ?_⟩; have m0_ := Aside0.mk (blk_below (g := gm) (o := .map es ck) (by (repeat (first | (with_reducible refine blk_drewN ?_ _) | (with_reducible refine blk_drew ?_) | (with_reducible refine blk_alloc ?_ _) | (refine mblk_far ?_ NM174.out _))); exact MM.out) hb); clear MM; have MM := m0_; clear m0_; have n0_ := Aside0.mk (blk_below (g := gb170) (o := .cells #[.int .i8 a0_0, .int .i8 a0_1, .slice (some ad173) l0_2.length c0_2] 30 (0, 0)) (by (with_reducible repeat (first | refine blk_drewN ?_ _ | refine blk_drew ?_ | refine blk_alloc ?_ _)); refine blk_far ?_ NB170_174.out _; (with_reducible repeat (first | refine blk_drewN ?_ _ | refine blk_drew ?_ | refine blk_alloc ?_ _)); refine blk_far ?_ NB170_174.out _; (with_reducible repeat (first | refine blk_drewN ?_ _ | refine blk_drew ?_ | refine blk_alloc ?_ _)); refine blk_far ?_ NB170_174.out _; (with_reducible repeat (first | refine blk_drewN ?_ _ | refine blk_drew ?_ | refine blk_alloc ?_ _)); refine blk_far ?_ NB170_174.out _; (with_reducible repeat (first | refine blk_drewN ?_ _ | refine blk_drew ?_ | refine blk_alloc ?_ _)); refine blk_far ?_ NB170_174.out _; (with_reducible repeat (first | refine blk_drewN ?_ _ | refine blk_drew ?_ | refine blk_alloc ?_ _)); exact BK170.out) hb); have n1_ := Aside0.mk (blk_below (g := gb174) (o := .cells #[.int .i8 ((rd_T62 l0_2 x28_2).f0.f0), .int .i8 ((rd_T62 l0_2 x28_2).f0.f1), .int .i8 ((rd_T62 l0_2 x28_2).f1), .int .i8 ((rd_T62 l0_2 x28_2).f2), .int .i8 ((rd_T62 l0_2 x28_2).f3)] 62 (0, 0)) (by (with_reducible repeat (first | refine blk_drewN ?_ _ | refine blk_drew ?_ | refine blk_alloc ?_ _)); refine blk_put (cs := #[.int .i8 ((rd_T62 l0_2 x28_2).f0.f0), .int .i8 ((rd_T62 l0_2 x28_2).f0.f1), .int .i8 ((rd_T62 l0_2 x28_2).f1), .int .i8 ((rd_T62 l0_2 x28_2).f2), .int .i8 0]) ?_ 4 _ rfl; (with_reducible repeat (first | refine blk_drewN ?_ _ | refine blk_drew ?_ | refine blk_alloc ?_ _)); refine blk_put (cs := #[.int .i8 ((rd_T62 l0_2 x28_2).f0.f0), .int .i8 ((rd_T62 l0_2 x28_2).f0.f1), .int .i8 ((rd_T62 l0_2 x28_2).f1), .int .i8 0, .int .i8 0]) ?_ 3 _ rfl; (with_reducible repeat (first | refine blk_drewN ?_ _ | refine blk_drew ?_ | refine blk_alloc ?_ _)); refine blk_put (cs := #[.int .i8 ((rd_T62 l0_2 x28_2).f0.f0), .int .i8 ((rd_T62 l0_2 x28_2).f0.f1), .int .i8 0, .int .i8 0, .int .i8 0]) ?_ 2 _ rfl; (with_reducible repeat (first | refine blk_drewN ?_ _ | refine blk_drew ?_ | refine blk_alloc ?_ _)); refine blk_put (cs := #[.int .i8 ((rd_T62 l0_2 x28_2).f0.f0), .int .i8 0, .int .i8 0, .int .i8 0, .int .i8 0]) ?_ 1 _ rfl; (with_reducible repeat (first | refine blk_drewN ?_ _ | refine blk_drew ?_ | refine blk_alloc ?_ _)); refine blk_put (cs := #[.int .i8 0, .int .i8 0, .int .i8 0, .int .i8 0, .int .i8 0]) ?_ 0 _ rfl; (with_reducible repeat (first | refine blk_drewN ?_ _ | refine blk_drew ?_ | refine blk_alloc ?_ _)); exact BK174.out) hb); have n2_ := Aside0.mk (below_step (by repeat (first | (with_reducible first | exact HB.out | apply below_alloc | apply pw_below_drewN | apply below_drew1 | refine below_set ?_ GE170.out | refine below_set ?_ GE174.out) | exact HB.out)) hb); clear BK170; clear BK174; clear HB; have BK170 := n0_; have BK174 := n1_; have HB := n2_; clear n0_ n1_ n2_; (try clear hb); (try clear hb2); (try clear hk); (try clear hi)))
                    go_ret
                    exact ⟨by first | rfl | (simp [errW_none, errW_some] <;> rfl) | (simp [*, errW_none, errW_some] <;> rfl), by repeat (first | (with_reducible first | exact HB.out | apply below_alloc | apply pw_below_drewN | apply below_drew1 | refine below_set ?_ GE170.out | refine below_set ?_ GE174.out) | exact HB.out)⟩
                · rw [if_neg c15] at H
                  exact absurd H (by simp)
              · rw [if_neg c14] at H
                exact absurd H (by simp)
            · rw [if_neg c13] at H
              have c13b0 : decide (x28_2 < (l0_2.length : Int)) = false := decide_eq_false c13
              clear c13
              obtain rfl := Option.some.inj H
              go_wp2
              go_ret
              exact ⟨by first | rfl | (simp [errW_none, errW_some] <;> rfl) | (simp [*, errW_none, errW_some] <;> rfl), by repeat (first | (with_reducible first | exact HB.out | apply below_alloc | apply pw_below_drewN | apply below_drew1 | refine below_set ?_ GE170.out) | exact HB.out)⟩



/-! ### bits_Mul32: function 71 -/
def bits_Mul32.f (a0 : Int) (a1 : Int) : Option (Int × Int) := some (((IntKind.u64.wrap ((IntKind.u64.wrap (a0)) * (IntKind.u64.wrap (a1)))) / 4294967296) % 4294967296, (IntKind.u64.wrap ((IntKind.u64.wrap (a0)) * (IntKind.u64.wrap (a1)))) % 4294967296)
set_option maxHeartbeats 8000000 in
set_option maxRecDepth 100000 in
theorem bits_Mul32.calls (a0 : Int) (a1 : Int) (r1 : Int) (r2 : Int) (w : World) (h : bits_Mul32.f a0 a1 = some (r1, r2)) :
    Calls Try.prog 71 #[.int .u32 a0, .int .u32 a1] w fun e w' => e = .returned (.tuple #[.int .u32 r1, .int .u32 r2]) ∧ Drawn0 w w' := by
  have H : (some (((IntKind.u64.wrap ((IntKind.u64.wrap (a0)) * (IntKind.u64.wrap (a1)))) / 4294967296) % 4294967296, (IntKind.u64.wrap ((IntKind.u64.wrap (a0)) * (IntKind.u64.wrap (a1)))) % 4294967296)) = some (r1, r2) := h
  clear h
  simp only [Option.some.injEq, Prod.mk.injEq] at H
  obtain ⟨rfl, rfl⟩ := H
  go_enter Try.func71, Try.ntmps71
  go_wp2
  go_ret2
  exact ⟨by first | rfl | (simp; done) | (simp [*]; done) | (exact congrArg (Value.int .i64) (wrap_eq (by omega))), by repeat (first | exact Drawn0.refl _ | apply Drawn0.step)⟩

/-! ### bits_Mul64: function 72 -/
def bits_Mul64.f (a0 : Int) (a1 : Int) : Option (Int × Int) := some (IntKind.u64.wrap ((IntKind.u64.wrap ((IntKind.u64.wrap ((a0 / 4294967296) * (a1 / 4294967296))) + ((IntKind.u64.wrap ((IntKind.u64.wrap ((a0 / 4294967296) * (Go.bits .and .u64 a1 4294967295))) + ((IntKind.u64.wrap ((Go.bits .and .u64 a0 4294967295) * (Go.bits .and .u64 a1 4294967295))) / 4294967296))) / 4294967296))) + ((IntKind.u64.wrap ((Go.bits .and .u64 (IntKind.u64.wrap ((IntKind.u64.wrap ((a0 / 4294967296) * (Go.bits .and .u64 a1 4294967295))) + ((IntKind.u64.wrap ((Go.bits .and .u64 a0 4294967295) * (Go.bits .and .u64 a1 4294967295))) / 4294967296))) 4294967295) + (IntKind.u64.wrap ((Go.bits .and .u64 a0 4294967295) * (a1 / 4294967296))))) / 4294967296)), IntKind.u64.wrap (a0 * a1))
set_option maxHeartbeats 8000000 in
set_option maxRecDepth 100000 in
theorem bits_Mul64.calls (a0 : Int) (a1 : Int) (r1 : Int) (r2 : Int) (w : World) (h : bits_Mul64.f a0 a1 = some (r1, r2)) :
    Calls Try.prog 72 #[.int .u64 a0, .int .u64 a1] w fun e w' => e = .returned (.tuple #[.int .u64 r1, .int .u64 r2]) ∧ Drawn0 w w' := by
  have H : (some (IntKind.u64.wrap ((IntKind.u64.wrap ((IntKind.u64.wrap ((a0 / 4294967296) * (a1 / 4294967296))) + ((IntKind.u64.wrap ((IntKind.u64.wrap ((a0 / 4294967296) * (Go.bits .and .u64 a1 4294967295))) + ((IntKind.u64.wrap ((Go.bits .and .u64 a0 4294967295) * (Go.bits .and .u64 a1 4294967295))) / 4294967296))) / 4294967296))) + ((IntKind.u64.wrap ((Go.bits .and .u64 (IntKind.u64.wrap ((IntKind.u64.wrap ((a0 / 4294967296) * (Go.bits .and .u64 a1 4294967295))) + ((IntKind.u64.wrap ((Go.bits .and .u64 a0 4294967295) * (Go.bits .and .u64 a1 4294967295))) / 4294967296))) 4294967295) + (IntKind.u64.wrap ((Go.bits .and .u64 a0 4294967295) * (a1 / 4294967296))))) / 4294967296)), IntKind.u64.wrap (a0 * a1))) = some (r1, r2) := h
  clear h
  simp only [Option.some.injEq, Prod.mk.injEq] at H
  obtain ⟨rfl, rfl⟩ := H
  go_enter Try.func72, Try.ntmps72
  go_wp2
  go_ret2
  exact ⟨by first | rfl | (simp; done) | (simp [*]; done) | (exact congrArg (Value.int .i64) (wrap_eq (by omega))), by repeat (first | exact Drawn0.refl _ | apply Drawn0.step)⟩

/-! ### bits_Mul: function 67 -/
def bits_Mul.f (a0 : Int) (a1 : Int) : Option (Int × Int) := (bits_Mul64.f a0 a1).bind fun bt200 => (some (bt200.1, bt200.2))
set_option maxHeartbeats 8000000 in
set_option maxRecDepth 100000 in
theorem bits_Mul.calls (a0 : Int) (a1 : Int) (r1 : Int) (r2 : Int) (w : World) (h : bits_Mul.f a0 a1 = some (r1, r2)) :
    Calls Try.prog 67 #[.int .u64 a0, .int .u64 a1] w fun e w' => e = .returned (.tuple #[.int .u64 r1, .int .u64 r2]) ∧ Drawn0 w w' := by
  have H : ((bits_Mul64.f a0 a1).bind fun bt200 => (some (bt200.1, bt200.2))) = some (r1, r2) := h
  clear h
  replace H := Option.bind_eq_some_iff.mp H
  obtain ⟨⟨t200, t201⟩, A30, H⟩ := H
  replace H : (some (t200, t201)) = some (r1, r2) := H
  have A3 := Aside0.mk A30
  clear A30
  simp only [Option.some.injEq, Prod.mk.injEq] at H
  obtain ⟨rfl, rfl⟩ := H
  go_enter Try.func67, Try.ntmps67
  go_wp2_with (first | ((with_reducible refine gate_callee (f := 72) rfl ?_); refine goesL_ (some 25) rfl rfl Try.func72 (by kernel_rfl) rfl #[.int .u64 a0, .int .u64 a1] rfl (by (try simp only [List.map_toArray, List.map_cons, List.map_nil]); first | done | rfl | (simp only [List.length_drop, List.length_take]; rfl)) ?_; (with_reducible refine (bits_Mul64.calls a0 a1 t200 t201 _ A3.out).mono ?_); rintro e w' ⟨rfl, ⟨nd, rfl⟩⟩; refine ⟨_, rfl, ?_⟩))
  go_ret2
  exact ⟨by first | rfl | (simp; done) | (simp [*]; done) | (exact congrArg (Value.int .i64) (wrap_eq (by omega))), by repeat (first | exact Drawn0.refl _ | apply Drawn0.step)⟩

/-! ### slices_Repeat_byte_byte: function 56 -/
theorem slices_Repeat_byte_byte.mul {n : Nat} (hn : n ≤ 127) : bits_Mul.f 1 (n : Int) = some (0, (n : Int)) := by
  have h : ∀ i : Fin 128, bits_Mul.f 1 (i.val : Int) = some (0, (i.val : Int)) := by decide +kernel
  exact h ⟨n, by omega⟩
/-- n bytes, the first m of them v. -/
def slices_Repeat_byte_byte.rw (n m : Nat) (v : Int) : List Value := List.replicate m (.int .u8 v) ++ List.replicate (n - m) (.int .u8 0)
theorem slices_Repeat_byte_byte.rw_len {n m : Nat} (v : Int) (h : m ≤ n) : (slices_Repeat_byte_byte.rw n m v).length = n := by simp [slices_Repeat_byte_byte.rw]; omega
theorem slices_Repeat_byte_byte.rw_put {n m j : Nat} (v : Int) (h : m + j ≤ n) : (slices_Repeat_byte_byte.rw n m v).take m ++ List.replicate j (.int .u8 v) ++ (slices_Repeat_byte_byte.rw n m v).drop (m + j) = slices_Repeat_byte_byte.rw n (m + j) v := by
  have e1 : (slices_Repeat_byte_byte.rw n m v).take m = List.replicate m (.int .u8 v) := by simp [slices_Repeat_byte_byte.rw]
  have e2 : (slices_Repeat_byte_byte.rw n m v).drop (m + j) = List.replicate (n - (m + j)) (.int .u8 0) := by
    simp only [slices_Repeat_byte_byte.rw, List.drop_append, List.length_replicate, List.drop_replicate]
    rw [show m - (m + j) = 0 by omega, show n - m - (m + j - m) = n - (m + j) by omega]
    rfl
  rw [e1, e2]
  simp [slices_Repeat_byte_byte.rw, List.replicate_append_replicate]
theorem slices_Repeat_byte_byte.rw_at {n m i : Nat} (v : Int) (h : i < m) : (slices_Repeat_byte_byte.rw n m v)[i]? = some (.int .u8 v) := by
  simp [slices_Repeat_byte_byte.rw, List.getElem?_append, h]
theorem slices_Repeat_byte_byte.made (n : Nat) : madeCells #[Value.int .u8 0] n = (List.replicate n (Value.int .u8 0)).toArray := by
  apply Array.ext
  · simp [madeCells]
  · intro i h1 h2
    simp [madeCells, Nat.mod_one]
/-- A block of bytes. -/
def slices_Repeat_byte_byte.BB (g : Nat) (cs : List Value) (w : World) : Prop := w.heap[g]? = some (.cells cs.toArray 5 (0, 0))
theorem slices_Repeat_byte_byte.set {w : World} {g : Nat} {cs ds : List Value} (h : slices_Repeat_byte_byte.BB g cs w) : slices_Repeat_byte_byte.BB g ds (w.setRow g ds.toArray) := by
  unfold slices_Repeat_byte_byte.BB at *
  simp only [World.setRow, Array.getElem?_modify, h]
  simp
theorem slices_Repeat_byte_byte.below {w0 w : World} {g : Nat} {cs : Array Value} (h : Below w0.heap.size w0 w) (hg : w0.heap.size ≤ g) : Below w0.heap.size w0 (w.setRow g cs) :=
  ⟨h.os, h.tape, h.output, by simpa [World.setRow] using h.size, fun i hi => by
    have := h.block i hi
    simp only [World.setRow, Array.getElem?_modify]
    rw [if_neg (by omega)]
    exact this⟩
theorem slices_Repeat_byte_byte.crun {P : Program} (w : World) {ops : Array Oper} {rest : List Oper} {o : Oper} {a : Act} {Q : Exit → Act → World → Prop} (hgd : o.guard = none) (d s : Operand) (t : TypeId)
    (ho : o.op = .call { callee := .builtin .copy, args := #[d, s], argTypes := #[t, t] }) (vd vs : Value) (hd : a.eval d = vd) (hs : a.eval s = vs)
    (v' : Value) (w' : World) (hr : ∀ ty, (Builtin.copy_ #[t, t] ty #[vd, vs]).run P w = .ok v' w') (h : wpList P ops Q rest (a.put o.dst v') w') : wpList P ops Q (o :: rest) a w :=
  wpList_plain hgd fun _ hK => by
    unfold Oper.wp execOp
    simp only [ho, resolve, invoke, builtin, Sem.run_bind, Sem.run_pure, Result.andThen_ok, List.map_toArray, List.map_cons, List.map_nil, hd, hs, hr o.type]
    exact hK _ _ h
/-- A copy of j bytes v behind the m that are v. -/
theorem slices_Repeat_byte_byte.cpW {w0 W : World} {ops : Array Oper} {rest : List Oper} {o : Oper} {a : Act} {Q : Exit → Act → World → Prop} (hgd : o.guard = none) (d s : Operand)
    (ho : o.op = .call { callee := .builtin .copy, args := #[d, s], argTypes := #[88, 88] }) (g n m j dl dc sl sc : Nat) (sa : Addr) (v : Int) (hd : a.eval d = .slice (some ⟨g, m, none⟩) dl dc) (hs : a.eval s = .slice (some sa) sl sc)
    (hj : j = Nat.min sl dl) (hm : m + j ≤ n) (hB : slices_Repeat_byte_byte.BB g (slices_Repeat_byte_byte.rw n m v) W) (hc : ∀ i, i < j → W.cell? (sa.add i) = some (.int .u8 v)) (hb : Below w0.heap.size w0 W) (hg : w0.heap.size ≤ g)
    (h : ∀ w1, slices_Repeat_byte_byte.BB g (slices_Repeat_byte_byte.rw n (m + j) v) w1 → Below w0.heap.size w0 w1 → wpList Try.prog ops Q rest (a.put o.dst (.int .i64 (j : Int))) w1) : wpList Try.prog ops Q (o :: rest) a W := by
  have hr := fun ty => run_copy_row (P := Try.prog) W 88 88 ty 5 g m dl dc sa sl sc (slices_Repeat_byte_byte.rw n m v).toArray 5 (List.replicate j (.int .u8 v)) Try.underlying88 (by kernel_rfl) hB (by simpa using hj)
    (fun i u hu => by
      rw [List.getElem?_replicate] at hu
      split at hu
      · rename_i hi
        cases hu
        exact hc i hi
      · cases hu) (by have := slices_Repeat_byte_byte.rw_len (n := n) v (show m ≤ n by omega); simp [this]; omega) (fun u hu => by obtain ⟨_, rfl⟩ := List.mem_replicate.1 hu; rfl)
  rw [List.length_replicate, slices_Repeat_byte_byte.rw_put v hm] at hr
  exact slices_Repeat_byte_byte.crun W hgd d s 88 ho _ _ hd hs _ _ hr (h _ (slices_Repeat_byte_byte.set hB) (slices_Repeat_byte_byte.below hb hg))
theorem slices_Repeat_byte_byte.fresh (g n : Nat) (v : Int) (W : World) (hg : g = W.heap.size := by rfl) : slices_Repeat_byte_byte.BB g (slices_Repeat_byte_byte.rw n 0 v) (W.alloc (.cells (madeCells #[.int .u8 0] n) 5)) := by
  subst hg
  unfold slices_Repeat_byte_byte.BB
  rw [heap_alloc_new, slices_Repeat_byte_byte.made]
  simp [slices_Repeat_byte_byte.rw]
theorem slices_Repeat_byte_byte.src {w : World} {ad : Addr} {v : Int} {n : Nat} {o : Obj} {m : Nat} (h : w.cell? ad = some (.int .u8 v)) {i : Nat} (hi : i < Nat.min 1 n) : ((w.drewN m).alloc o).cell? (ad.add i) = some (.int .u8 v) := by
  obtain rfl : i = 0 := by have := Nat.lt_of_lt_of_le hi (Nat.min_le_left 1 n); omega
  have e : ad.add 0 = ad := by simp [Addr.add]
  rw [e]
  exact pw_cell_below (below_alloc (pw_below_drewN (Below.refl _ _) _) _) h
theorem slices_Repeat_byte_byte.src2 {w : World} {g n m i : Nat} {v : Int} (h : slices_Repeat_byte_byte.BB g (slices_Repeat_byte_byte.rw n m v) w) (hi : i < m) : w.cell? ((⟨g, 0, none⟩ : Addr).add i) = some (.int .u8 v) := by
  rw [add_plain, blk_cell h]
  simpa using slices_Repeat_byte_byte.rw_at (n := n) v hi
theorem slices_Repeat_byte_byte.cut1 (g n m : Nat) (h : m < n) : ∀ W : World, (Instr.slice 88 (.slice (some ⟨g, 0, none⟩) n n) (some (.int .i64 (m : Int))) none none).run Try.prog W = .ok (.slice (some ⟨g, m, none⟩) (n - m) (n - m)) W := by
  intro W
  obtain ⟨i, hi, hs⟩ := Option.map_eq_some_iff.1 (show (Try.prog.info? 5).map (·.size) = some 1 by kernel_rfl)
  rw [run_slice_l W 88 (some ⟨g, 0, none⟩) n n (by rw [show Try.prog.elem 88 = 5 by simp [Program.elem, Try.underlying88]]; exact Try.underlying88) .i64 (m : Int) (Int.natCast_nonneg _) (by omega), show Try.prog.elem 88 = 5 by simp [Program.elem, Try.underlying88]]
  simp [sizeOf, typeInfo, hi, hs, sliced, Result.andThen, show ¬ n = m by omega, add_plain]
theorem slices_Repeat_byte_byte.cut2 (g n m : Nat) (h : m ≤ n) : ∀ W : World, (Instr.slice 88 (.slice (some ⟨g, 0, none⟩) n n) none (some (.int .i64 (m : Int))) none).run Try.prog W = .ok (.slice (some ⟨g, 0, none⟩) m n) W := by
  intro W
  obtain ⟨i, hi, hs⟩ := Option.map_eq_some_iff.1 (show (Try.prog.info? 5).map (·.size) = some 1 by kernel_rfl)
  rw [run_slice_h W 88 (some ⟨g, 0, none⟩) n n (by rw [show Try.prog.elem 88 = 5 by simp [Program.elem, Try.underlying88]]; exact Try.underlying88) .i64 (m : Int) (Int.natCast_nonneg _) (by omega), show Try.prog.elem 88 = 5 by simp [Program.elem, Try.underlying88]]
  simp [sizeOf, typeInfo, hi, hs, sliced, Result.andThen, add_plain]
/-- The same in a region that draws its order. -/
theorem slices_Repeat_byte_byte.cpO {w0 W : World} {ops : Array Oper} {o : Oper} {a : Act} {K : Act → World → Prop} {Q : Exit → Act → World → Prop} {N : Option Tmp} (hw : Region.wanted o (yielded ops a.tmps) = true) (hN : o.dst = N) (d s : Operand)
    (ho : o.op = .call { callee := .builtin .copy, args := #[d, s], argTypes := #[88, 88] }) (g n m j dl dc sl sc : Nat) (sa : Addr) (v : Int) (hd : a.eval d = .slice (some ⟨g, m, none⟩) dl dc) (hs : a.eval s = .slice (some sa) sl sc)
    (hj : j = Nat.min sl dl) (hm : m + j ≤ n) (hB : slices_Repeat_byte_byte.BB g (slices_Repeat_byte_byte.rw n m v) W) (hc : ∀ i, i < j → W.cell? (sa.add i) = some (.int .u8 v)) (hb : Below w0.heap.size w0 W) (hg : w0.heap.size ≤ g)
    (h : ∀ w1, slices_Repeat_byte_byte.BB g (slices_Repeat_byte_byte.rw n (m + j) v) w1 → Below w0.heap.size w0 w1 → K (a.put N (.int .i64 (j : Int))) w1) : if Region.wanted o (yielded ops a.tmps) = true then Oper.wp Try.prog o a W K Q else K (a.put N undef) W := by
  subst hN
  have hr := fun ty => run_copy_row (P := Try.prog) W 88 88 ty 5 g m dl dc sa sl sc (slices_Repeat_byte_byte.rw n m v).toArray 5 (List.replicate j (.int .u8 v)) Try.underlying88 (by kernel_rfl) hB (by simpa using hj)
    (fun i u hu => by
      rw [List.getElem?_replicate] at hu
      split at hu
      · rename_i hi
        cases hu
        exact hc i hi
      · cases hu) (by have := slices_Repeat_byte_byte.rw_len (n := n) v (show m ≤ n by omega); simp [this]; omega) (fun u hu => by obtain ⟨_, rfl⟩ := List.mem_replicate.1 hu; rfl)
  rw [List.length_replicate, slices_Repeat_byte_byte.rw_put v hm] at hr
  refine event_step hw (v := .int .i64 (j : Int)) (w1 := W.setRow g (slices_Repeat_byte_byte.rw n (m + j) v).toArray) ?_ (h _ (slices_Repeat_byte_byte.set hB) (slices_Repeat_byte_byte.below hb hg))
  unfold execOp
  simp only [ho, resolve, invoke, builtin, Sem.run_bind, Sem.run_pure, Result.andThen_ok, List.map_toArray, List.map_cons, List.map_nil, hd, hs, hr o.type]
  rfl
theorem slices_Repeat_byte_byte.row {w : World} {g base m : Nat} {v : Int} (h : slices_Repeat_byte_byte.BB g (nums .u8 (List.replicate m v)) w) (hb : base ≤ g) (hm : m ≤ 127) : Kd.R (Kd.int .u8) 5 w base (fun _ => True) (.slice (some ⟨g, 0, none⟩) m m) (List.replicate m v) := by
  refine Kd.R_of_own (enc := fun x => Value.int .u8 x) ?_ (fun _ _ => trivial)
  rw [List.length_replicate]
  exact ⟨by simp [encs], .inr ⟨g, m, _, rfl, hb, h, Nat.le_refl _, by simp only [maxLen]; omega, by simp [nums], by simp [nums, encs]⟩⟩
theorem slices_Repeat_byte_byte.meas {n m j : Nat} (h : m < n) (hj : 0 < j) : n - (intOf (Value.int IntKind.i64 ((m + j : Nat) : Int))).toNat < n - (intOf (Value.int IntKind.i64 (m : Int))).toNat := by
  have e : ∀ x : Int, intOf (.int .i64 x) = x := fun _ => rfl
  rw [e, e]
  omega
theorem info5_ : (Try.prog.info? 5).map (fun i => (i.zero, i.size, i.bytes)) = some (some (.int .u8 0), 1, 1) := by kernel_rfl
theorem size5_ : (Try.prog.info? 5).map (·.size) = some 1 := by kernel_rfl
def slices_Repeat_byte_byte.f (l0 : List Int) (a1 : Int) : Option (List Int) := if l0.length = 1 ∧ 0 ≤ a1 ∧ a1 ≤ 127 then some (List.replicate a1.toNat (rd l0 0)) else none
def slices_Repeat_byte_byte.T9 : Bool × List (List Nat × List Nat) := (true, [([], []), ([], []), ([], []), ([1, 2], [1, 2]), ([], []), ([], []), ([4, 5], [4, 5]), ([3, 6], [3, 6]), ([0, 7], [0, 7]), ([8, 7, 0, 1, 2, 3, 4, 5, 6, 7, 8], [0, 2, 5, 8])])
def slices_Repeat_byte_byte.B9 : List Nat := [0, 0, 0, 6, 0, 0, 48, 126, 255, 511]
theorem slices_Repeat_byte_byte.tab9 : rtab .any (opsOf Try.f56 9) = slices_Repeat_byte_byte.T9 := by kernel_rfl
theorem slices_Repeat_byte_byte.bits9 : waitsOk slices_Repeat_byte_byte.T9.2 slices_Repeat_byte_byte.B9 = true := by kernel_rfl
set_option maxHeartbeats 8000000 in
set_option maxRecDepth 100000 in
theorem slices_Repeat_byte_byte.calls (A0 : Option Addr) (c0 : Nat) (l0 : List Int) (a1 : Int) (r : List Int) (w : World) (hr0 : Kd.C (Kd.int .u8) w A0 l0.length l0) (hc0 : l0.length ≤ c0) (h : slices_Repeat_byte_byte.f l0 a1 = some r) :
    Calls Try.prog 56 #[.slice A0 l0.length c0, .int .i64 a1] w fun e w' => ∃ v0_ : Value, e = .returned (v0_) ∧ Kd.R (Kd.int .u8) 5 w' w.heap.size (fun _ => True) v0_ r ∧ Below w.heap.size w w' := by
  unfold slices_Repeat_byte_byte.f at h
  by_cases c : l0.length = 1 ∧ 0 ≤ a1 ∧ a1 ≤ 127
  rotate_left
  · rw [if_neg c] at h; cases h
  rw [if_pos c] at h
  obtain rfl := Option.some.inj h
  clear h
  obtain ⟨n, rfl⟩ := Int.eq_ofNat_of_zero_le c.2.1
  rw [Int.toNat_natCast]
  obtain ⟨v, rfl⟩ : ∃ v, l0 = [v] := List.length_eq_one_iff.1 c.1
  rw [show rd [v] 0 = v from rfl]
  have C127 := Aside0.mk c.2.2
  obtain ⟨ad, rfl, hcell⟩ := hr0.2.2 (by simp)
  have hc : w.cell? ad = some (.int .u8 v) := by
    obtain ⟨cs, h1, h2, h3⟩ := hcell 0 v rfl
    obtain rfl : cs = [.int .u8 v] := h2
    have := h3 0 (.int .u8 v) rfl
    simpa [Addr.add] using this
  have HC := Aside0.mk hc
  have HM := Aside0.mk (slices_Repeat_byte_byte.mul (n := n) (by omega))
  have hw1 : wrap64 (n : Int) = (n : Int) := by unfold wrap64; omega
  have hw2 : IntKind.u64.wrap (n : Int) = (n : Int) := by have := c.2.2; rw [IntKind.wrap_u64]; omega
  have hn1 : decide ((n : Int) < 0) = false := decide_eq_false (by omega)
  have hn2 : decide ((n : Int) > 9223372036854775807) = false := decide_eq_false (fun h_ => by have := c.2.2; omega)
  have hmk := fun W : World => run_make_row' (P := Try.prog) 88 5 (.int .u8 0) 1 Try.underlying88 info5_ rfl .i64 .i64 n (by have := c.2.2; omega) (by have := c.2.2; omega) W
  clear hr0 hc0 hcell c
  have HB := Aside0.mk (Below.refl w.heap.size w)
  go_enter Try.func56, Try.ntmps56
  go_wp2_with (first | ((with_reducible refine gate_callee (f := 67) rfl ?_); refine goesL_ (some 18) rfl rfl Try.func67 (by kernel_rfl) rfl #[.int .u64 1, .int .u64 (n : Int)] rfl (by (try simp only [List.map_toArray, List.map_cons, List.map_nil]); first | done | rfl) ?_; (with_reducible refine (bits_Mul.calls 1 (n : Int) 0 (n : Int) _ HM.out).mono ?_); rintro e w2 ⟨rfl, ⟨nd_, rfl⟩⟩; refine ⟨_, rfl, ?_⟩) | ((with_reducible refine gate_builtin (b := .copy) (xs := #[.tmp 31, .tmp 32]) rfl ?_); refine slices_Repeat_byte_byte.cpW (w0 := w) rfl _ _ rfl w.heap.size n 0 (Nat.min 1 n) n n 1 c0 ad v rfl rfl rfl (by rw [Nat.zero_add]; exact Nat.min_le_right _ _) ?h1 ?h2 ?h3 (Nat.le_refl _) ?_; (case h1 => exact slices_Repeat_byte_byte.fresh _ n v (w.drewN nd_)); (case h2 => exact fun i hi => slices_Repeat_byte_byte.src HC.out hi); (case h3 => exact below_alloc (pw_below_drewN (Below.refl _ _) _) _); intro w3 hb3 hB3))
  have MX : Aside0 (Nat.min 1 n ≤ n ∧ (n ≤ 0 ∨ 0 < Nat.min 1 n)) := ⟨Nat.min_le_right 1 n, by rcases Nat.eq_zero_or_pos n with h_ | h_; exact .inl (by omega); exact .inr (Nat.lt_of_lt_of_le Nat.zero_lt_one (Nat.le_min.2 ⟨Nat.le_refl 1, h_⟩))⟩
  have H3 := Aside0.mk hb3
  have HB3 := Aside0.mk hB3
  rw [Nat.zero_add] at H3
  clear hb3 hB3 hc HC HM hmk hw2 HB
  go_loopw [8] (fun v8 w' => ∃ (m : Nat), v8 = .int .i64 (m : Int) ∧ Aside0 (m ≤ n ∧ (n ≤ 0 ∨ 0 < m)) ∧ Aside0 (slices_Repeat_byte_byte.BB w.heap.size (slices_Repeat_byte_byte.rw n m v) w') ∧ Aside0 (Below w.heap.size w w')) (fun v8 _ => n - (intOf v8).toNat)
  case atStart => exact ⟨_, rfl, MX, H3, HB3⟩
  case round =>
    clear H3 HB3 MX
    obtain ⟨m, rfl, MX, HBB, HB4⟩ := hrel
    by_cases cm : m < n
    · have c0_ : decide (m < n) = true := decide_eq_true cm
      have c1_ : decide ((m : Int) < (n : Int)) = true := decide_eq_true (by omega)
      have hcut1 := slices_Repeat_byte_byte.cut1 w.heap.size n m (by omega)
      have hcut2 := slices_Repeat_byte_byte.cut2 w.heap.size n m (by omega)
      have CM := Aside0.mk cm
      clear cm
      go_wp2
      replace HBB : Aside0 (slices_Repeat_byte_byte.BB w.heap.size (slices_Repeat_byte_byte.rw n m v) wr.drew) := ⟨HBB.out⟩
      replace HB4 : Aside0 (Below w.heap.size w wr.drew) := ⟨below_drew HB4.out⟩
      refine start_ (n := 10) (S := fun w' => True) (ds := []) #[false, false, false, false, false, false, false, false, false, false] (by kernel_rfl) rfl rfl trivial (fun hHeld => ?_); refine with_tabW slices_Repeat_byte_byte.tab9 slices_Repeat_byte_byte.bits9 (fun HT_ HW_ => ?_)
      generalize wr.drew = w5 at HB4 HBB hHeld ⊢
      refine pure_ (i := 0) (N := some 38) (v := ?_) (a' := ?_) #[true, false, false, false, false, false, false, false, false, false] rfl rfl (any_of HT_.out (by kernel_rfl)) (fun _ _ _ h => h) (Or.inl ⟨by rfl, ?_⟩) ?_ ?_
      rotate_left
      · intro w'
        go_simp
        with_reducible rfl
      rotate_left
      · simp only [Act.put, List.setIfInBounds_toArray, List.set_cons_zero, List.set_cons_succ, i64_w, i32_w]
        rfl
      refine pure_ (i := 1) (N := some 39) (v := ?_) (a' := ?_) #[true, true, false, false, false, false, false, false, false, false] rfl rfl (any_of HT_.out (by kernel_rfl)) (fun _ _ _ h => h) (Or.inl ⟨by rfl, ?_⟩) ?_ ?_
      rotate_left
      · intro w'
        go_simp
        with_reducible rfl
      rotate_left
      · simp only [Act.put, List.setIfInBounds_toArray, List.set_cons_zero, List.set_cons_succ, i64_w, i32_w]
        rfl
      refine pure_ (i := 2) (N := some 40) (v := ?_) (a' := ?_) #[true, true, true, false, false, false, false, false, false, false] rfl rfl (any_of HT_.out (by kernel_rfl)) (fun _ _ _ h => h) (Or.inl ⟨by rfl, ?_⟩) ?_ ?_
      rotate_left
      · intro w'
        go_simp
        with_reducible rfl
      rotate_left
      · simp only [Act.put, List.setIfInBounds_toArray, List.set_cons_zero, List.set_cons_succ, i64_w, i32_w]
        rfl
      refine pure_ (i := 3) (N := some 41) (v := ?_) (a' := ?_) #[true, true, true, true, false, false, false, false, false, false] rfl rfl (any_of HT_.out (by kernel_rfl)) (fun _ _ _ h => h) (Or.inl ⟨by rfl, ?_⟩) ?_ ?_
      rotate_left
      · intro w'
        go_simp
        with_reducible rfl
      rotate_left
      · simp only [Act.put, List.setIfInBounds_toArray, List.set_cons_zero, List.set_cons_succ, i64_w, i32_w]
        rfl
      refine pure_ (i := 4) (N := some 42) (v := ?_) (a' := ?_) #[true, true, true, true, true, false, false, false, false, false] rfl rfl (any_of HT_.out (by kernel_rfl)) (fun _ _ _ h => h) (Or.inl ⟨by rfl, ?_⟩) ?_ ?_
      rotate_left
      · intro w'
        go_simp
        with_reducible rfl
      rotate_left
      · simp only [Act.put, List.setIfInBounds_toArray, List.set_cons_zero, List.set_cons_succ, i64_w, i32_w]
        rfl
      refine pure_ (i := 5) (N := some 43) (v := ?_) (a' := ?_) #[true, true, true, true, true, true, false, false, false, false] rfl rfl (any_of HT_.out (by kernel_rfl)) (fun _ _ _ h => h) (Or.inl ⟨by rfl, ?_⟩) ?_ ?_
      rotate_left
      · intro w'
        go_simp
        with_reducible rfl
      rotate_left
      · simp only [Act.put, List.setIfInBounds_toArray, List.set_cons_zero, List.set_cons_succ, i64_w, i32_w]
        rfl
      refine pure_ (i := 6) (N := some 44) (v := ?_) (a' := ?_) #[true, true, true, true, true, true, true, false, false, false] rfl rfl (any_of HT_.out (by kernel_rfl)) (fun _ _ _ h => h) (Or.inl ⟨by rfl, ?_⟩) ?_ ?_
      rotate_left
      · intro w'
        go_simp
        with_reducible rfl
      rotate_left
      · simp only [Act.put, List.setIfInBounds_toArray, List.set_cons_zero, List.set_cons_succ, i64_w, i32_w]
        rfl
      refine one_ (i := 7) (N := some 45) #[true, true, true, true, true, true, true, true, false, false] rfl rfl (one_of HT_.out (by kernel_rfl)) (by decide) (fun K hK => ?_)
      refine slices_Repeat_byte_byte.cpO (w0 := w) (by rfl) rfl _ _ rfl w.heap.size n m (Nat.min m (n - m)) (n - m) (n - m) m n ⟨w.heap.size, 0, none⟩ v rfl rfl rfl (by have := CM.out; have h1 : Nat.min m (n - m) ≤ n - m := Nat.min_le_right m (n - m); omega) HBB.out (fun i hi => slices_Repeat_byte_byte.src2 HBB.out (Nat.lt_of_lt_of_le hi (Nat.min_le_left _ _))) HB4.out (Nat.le_refl _) ?_
      intro w6 hb6 hB6
      refine hK.out _ _ trivial (fun hHeld => ?_)
      clear hK K HBB HB4
      have HBB := Aside0.mk hb6
      have HB4 := Aside0.mk hB6
      clear hb6 hB6
      refine pure_ (i := 8) (N := some 46) (v := ?_) (a' := ?_) #[true, true, true, true, true, true, true, true, true, false] rfl rfl (any_of HT_.out (by kernel_rfl)) (fun _ _ _ h => h) (Or.inl ⟨by rfl, ?_⟩) ?_ ?_
      rotate_left
      · intro w'
        go_simp
        with_reducible rfl
      rotate_left
      · simp only [Act.put, List.setIfInBounds_toArray, List.set_cons_zero, List.set_cons_succ, i64_w, i32_w]
        rfl
      refine pure_ (i := 9) (N := some 8) (v := ?_) (a' := ?_) #[true, true, true, true, true, true, true, true, true, true] rfl rfl (any_of HT_.out (by kernel_rfl)) (fun _ _ _ h => h) (Or.inl ⟨by rfl, ?_⟩) ?_ ?_
      rotate_left
      · intro w'
        go_simp
        with_reducible rfl
      rotate_left
      · simp only [Act.put, List.setIfInBounds_toArray, List.set_cons_zero, List.set_cons_succ, i64_w, i32_w]
        rfl
      refine done_ (done_of HT_.out (by kernel_rfl)) ?_
      clear hHeld HT_ HW_
      go_wp2
      go_roundw
      case rel =>
        have h1 : Nat.min m (n - m) ≤ n - m := Nat.min_le_right m (n - m)
        have h2 := CM.out
        have h3 : 0 < Nat.min m (n - m) := Nat.lt_of_lt_of_le Nat.zero_lt_one (Nat.le_min.2 ⟨by have := MX.out; omega, by omega⟩)
        have h4 := C127.out
        exact ⟨m + Nat.min m (n - m), congrArg (Value.int .i64) (by unfold wrap64; omega), ⟨by omega, .inr (by omega)⟩, HBB, HB4⟩
      case measure =>
        have h1 : Nat.min m (n - m) ≤ n - m := Nat.min_le_right m (n - m)
        have h2 := CM.out
        have h3 : 0 < Nat.min m (n - m) := Nat.lt_of_lt_of_le Nat.zero_lt_one (Nat.le_min.2 ⟨by have := MX.out; omega, by omega⟩)
        have h4 := C127.out
        rw [show wrap64 ((m : Int) + ((Nat.min m (n - m) : Nat) : Int)) = ((m + Nat.min m (n - m) : Nat) : Int) by unfold wrap64; omega]
        exact slices_Repeat_byte_byte.meas h2 h3
    · have c0_ : decide (m < n) = false := decide_eq_false cm
      have c1_ : decide ((m : Int) < (n : Int)) = false := decide_eq_false (by omega)
      obtain rfl : m = n := by have := MX.out; omega
      go_wp2
      go_ret
      have e : slices_Repeat_byte_byte.rw m m v = nums .u8 (List.replicate m v) := by simp [slices_Repeat_byte_byte.rw, nums]
      have hb := HBB.out
      rw [e] at hb
      refine ⟨_, rfl, slices_Repeat_byte_byte.row hb (Nat.le_refl _) (by have := C127.out; omega), HB4.out⟩

-- NOT PRINTED: function 35 (impl_Board_picture)

/-! ### impl_Board_kindSign: function 36 -/
def impl_Board_kindSign.f (l0 : List (S30)) (a1 : Int) : Option (Int) := if 0 < (l0.length : Int) then (if 0 ≤ a1 then (if a1 < (((rd_T30 l0 0).f2).length : Int) then (if 0 ≤ ((rd_T62 ((rd_T30 l0 0).f2) a1).f1) then (if ((rd_T62 ((rd_T30 l0 0).f2) a1).f1) < 6 then (some (bt (⟨#[108, 99, 102, 111, 103, 120]⟩ : ByteArray) ((rd_T62 ((rd_T30 l0 0).f2) a1).f1))) else (none)) else (none)) else (none)) else (none)) else (none)
set_option maxHeartbeats 8000000 in
set_option maxRecDepth 100000 in
theorem impl_Board_kindSign.calls (adp0 : Addr) (l0 : List (S30)) (a1 : Int) (r : Int) (w : World) (hr0 : Kd.C k30 w (some adp0) l0.length l0) (h : impl_Board_kindSign.f l0 a1 = some r) :
    Calls Try.prog 36 #[.pointer (some adp0), .int .i64 a1] w fun e w' => e = .returned (.int .u8 r) ∧ Drawn0 w w' := by
  have HR0 := Aside0.mk hr0
  clear hr0
  have H : (if 0 < (l0.length : Int) then (if 0 ≤ a1 then (if a1 < (((rd_T30 l0 0).f2).length : Int) then (if 0 ≤ ((rd_T62 ((rd_T30 l0 0).f2) a1).f1) then (if ((rd_T62 ((rd_T30 l0 0).f2) a1).f1) < 6 then (some (bt (⟨#[108, 99, 102, 111, 103, 120]⟩ : ByteArray) ((rd_T62 ((rd_T30 l0 0).f2) a1).f1))) else (none)) else (none)) else (none)) else (none)) else (none)) = some r := h
  clear h
  by_cases c3 : 0 < (l0.length : Int)
  · rw [if_pos c3] at H
    have c3b0 : decide (0 < (l0.length : Int)) = true := decide_eq_true c3
    have c3b1 : decide (0 < l0.length) = true := decide_eq_true (by omega)
    clear c3
    by_cases c4 : 0 ≤ a1
    · rw [if_pos c4] at H
      have c4b0 : decide (0 ≤ a1) = true := decide_eq_true c4
      clear c4
      by_cases c5 : a1 < (((rd_T30 l0 0).f2).length : Int)
      · rw [if_pos c5] at H
        have c5b0 : decide (a1 < (((rd_T30 l0 0).f2).length : Int)) = true := decide_eq_true c5
        clear c5
        by_cases c6 : 0 ≤ ((rd_T62 ((rd_T30 l0 0).f2) a1).f1)
        · rw [if_pos c6] at H
          have c6b0 : decide (0 ≤ ((rd_T62 ((rd_T30 l0 0).f2) a1).f1)) = true := decide_eq_true c6
          clear c6
          by_cases c7 : ((rd_T62 ((rd_T30 l0 0).f2) a1).f1) < 6
          · rw [if_pos c7] at H
            have c7b0 : decide (((rd_T62 ((rd_T30 l0 0).f2) a1).f1) < 6) = true := decide_eq_true c7
            clear c7
            obtain rfl := Option.some.inj H
            have p202 : 0 ≤ (0 : Int) := (by omega)
            have q202 : 0 < (l0.length : Int) := of_decide_eq_true (by first | (with_reducible assumption) | assumption)
            obtain ⟨ad202, A202_2, c202_2, e202, hx202_0, hx202_1, hx202_2, hl202_2, hi202_2⟩ := at_T30 HR0.out 0 p202 q202
            obtain rfl : adp0 = ad202 := (by injection e202)
            have qi202 : (0 < l0.length) = True := eq_true (by omega)
            (try rw [show ((0 : Int)).toNat = 0 from rfl] at hx202_0)
            (try rw [show 0 * 3 = 0 from rfl] at hx202_0)
            (try rw [Addr.add_zero'] at hx202_0)
            (try rw [show ((0 : Int)).toNat = 0 from rfl] at hx202_1)
            (try rw [show 0 * 3 = 0 from rfl] at hx202_1)
            (try rw [Addr.add_zero'] at hx202_1)
            (try rw [show ((0 : Int)).toNat = 0 from rfl] at hx202_2)
            (try rw [show 0 * 3 = 0 from rfl] at hx202_2)
            (try rw [Addr.add_zero'] at hx202_2)
            have HR202_2 := Aside0.mk hi202_2
            have HC202_2 := Aside0.mk hl202_2
            clear hi202_2 hl202_2
            replace p202 := eq_true p202
            replace q202 := eq_true q202
            have p203 : 0 ≤ (a1 : Int) := of_decide_eq_true (by first | (with_reducible assumption) | assumption)
            have q203 : a1 < (((rd_T30 l0 0).f2).length : Int) := of_decide_eq_true (by first | (with_reducible assumption) | assumption)
            obtain ⟨ad203, e203, hx203_0, hx203_1, hx203_2, hx203_3, hx203_4⟩ := at_T62 HR202_2.out a1 p203 q203
            cases e203
            replace p203 := eq_true p203
            replace q203 := eq_true q203
            have p8 : 0 ≤ (((rd_T62 ((rd_T30 l0 0).f2) a1).f1) : Int) := of_decide_eq_true (by first | (with_reducible assumption) | assumption)
            have q8 : ((rd_T62 ((rd_T30 l0 0).f2) a1).f1) < (6 : Int) := of_decide_eq_true (by first | (with_reducible assumption) | assumption)
            have hx8 := bt_at (⟨#[108, 99, 102, 111, 103, 120]⟩ : ByteArray) ((rd_T62 ((rd_T30 l0 0).f2) a1).f1)
            replace p8 := eq_true p8
            replace q8 := eq_true q8
            go_enter Try.func36, Try.ntmps36
            go_wp2
            go_ret
            exact ⟨by first | rfl | (simp; done) | (simp [*]; done) | (exact congrArg (Value.int .i64) (wrap_eq (by omega))), by repeat (first | exact Drawn0.refl _ | apply Drawn0.step)⟩
          · rw [if_neg c7] at H
            exact absurd H (by simp)
        · rw [if_neg c6] at H
          exact absurd H (by simp)
      · rw [if_neg c5] at H
        exact absurd H (by simp)
    · rw [if_neg c4] at H
      exact absurd H (by simp)
  · rw [if_neg c3] at H
    exact absurd H (by simp)

end Go.Proofs.Ytdjhcnepndflmaa.PFnExactBoardPicture
