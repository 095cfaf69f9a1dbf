-- WRITTEN by xprint.py, a program of this session's. Not trusted: Lean checks it.
import Derived.Test.YtdjhcnepndflmaaPFnExactNeverHitx0
import Derived.Test.YtdjhcnepndflmaaPFnExactNeverHitx2
namespace Go.Proofs.Ytdjhcnepndflmaa.PFnExactNeverHit
open Go.RowKit Go.Proofs.YtdjhcnepndflmaaW.PrintWords Go.Proofs.YtdjhcnepndflmaaW.PrintLast Go.Proofs.YtdjhcnepndflmaaW.PrintMore Go.Proofs.YtdjhcnepndflmaaX
attribute [local go_sem] max2_int min2_int max_two min_two max_three min_three max_four min_four   -- for this text's walks alone
set_option linter.unusedVariables false
set_option linter.unusedSimpArgs false

/-! ### laws_eqPieceS: function 32 -/
def laws_eqPieceS.l0 : Nat → List (S62) → List (S62) → Int → Option (Bool)
  | 0, _, _, _ => none
  | k + 1, x0, x1, x5 => if x5 < (x0.length : Int) then (if 0 ≤ x5 then (if x5 < (x1.length : Int) then ((laws_eqPiece.f k ((rd_T62 x0 x5).f0.f0) ((rd_T62 x0 x5).f0.f1) ((rd_T62 x0 x5).f1) ((rd_T62 x0 x5).f2) ((rd_T62 x0 x5).f3) ((rd_T62 x1 x5).f0.f0) ((rd_T62 x1 x5).f0.f1) ((rd_T62 x1 x5).f1) ((rd_T62 x1 x5).f2) ((rd_T62 x1 x5).f3)).bind fun t134 => (if t134 = true then (laws_eqPieceS.l0 k x0 x1 (wrap64 (x5 + 1))) else (some false))) else (none)) else (none)) else (some true)
def laws_eqPieceS.f (k : Nat) (l0 : List (S62)) (l1 : List (S62)) : Option (Bool) := if (l0.length : Int) = (l1.length : Int) then (laws_eqPieceS.l0 k l0 l1 0) else (some false)
theorem laws_eqPieceS.mono_l : ∀ k, (∀ y0 y1 y2, LeO (laws_eqPieceS.l0 k y0 y1 y2) (laws_eqPieceS.l0 (k + 1) y0 y1 y2))
  | 0 => fun _ _ _ r h => by simp [laws_eqPieceS.l0] at h
  | k + 1 => by
    have ih0 := laws_eqPieceS.mono_l k
    · intro y0 y1 y2
      unfold laws_eqPieceS.l0
      repeat' first
      | (with_reducible exact ih0 _ _ _)
      | (with_reducible exact laws_eqPiece.mono _ _ _ _ _ _ _ _ _ _ _)
      | (with_reducible exact LeO.refl _)
      | (with_reducible exact LeO.none _)
      | (with_reducible refine LeO.ite ?_ ?_)
      | (with_reducible refine LeO.bind ?_ (fun _ => ?_))
      | exact ih0 _ _ _
      | exact laws_eqPiece.mono _ _ _ _ _ _ _ _ _ _ _
      | exact LeO.none _
      | refine LeO.ite ?_ ?_
      | refine LeO.bind ?_ (fun _ => ?_)
theorem laws_eqPieceS.mono : ∀ a0 a1 k, LeO (laws_eqPieceS.f k a0 a1) (laws_eqPieceS.f (k + 1) a0 a1) := by
  intro a0 a1 k
  have ih0 := laws_eqPieceS.mono_l k
  unfold laws_eqPieceS.f
  repeat' first
      | (with_reducible exact ih0 _ _ _)
      | (with_reducible exact laws_eqPiece.mono _ _ _ _ _ _ _ _ _ _ _)
      | (with_reducible exact LeO.refl _)
      | (with_reducible exact LeO.none _)
      | (with_reducible refine LeO.ite ?_ ?_)
      | (with_reducible refine LeO.bind ?_ (fun _ => ?_))
      | exact ih0 _ _ _
      | exact laws_eqPiece.mono _ _ _ _ _ _ _ _ _ _ _
      | exact LeO.none _
      | refine LeO.ite ?_ ?_
      | refine LeO.bind ?_ (fun _ => ?_)
def laws_eqPieceS.T6 : Bool × List (List Nat × List Nat) := (true, [([], []), ([], []), ([0, 1], [0, 1]), ([2], [2]), ([], []), ([], []), ([4, 5], [4, 5]), ([6], [6]), ([3, 7], [3, 7]), ([8], [8])])
def laws_eqPieceS.B6 : List Nat := [0, 0, 3, 7, 0, 0, 48, 112, 255, 511]
theorem laws_eqPieceS.tab6 : rtab .any (opsOf Try.f32 6) = laws_eqPieceS.T6 := by kernel_rfl
theorem laws_eqPieceS.bits6 : waitsOk laws_eqPieceS.T6.2 laws_eqPieceS.B6 = true := by kernel_rfl
set_option maxHeartbeats 8000000 in
set_option maxRecDepth 100000 in
theorem laws_eqPieceS.calls (k : Nat) (A0 : Option Addr) (c0 : Nat) (l0 : List (S62)) (A1 : Option Addr) (c1 : Nat) (l1 : List (S62)) (r : Bool) (w : World) (hr0 : Kd.C k62 w A0 l0.length l0) (hc0 : l0.length ≤ c0) (hr1 : Kd.C k62 w A1 l1.length l1) (hc1 : l1.length ≤ c1) (h : laws_eqPieceS.f k l0 l1 = some r) :
    Calls Try.prog 32 #[.slice A0 l0.length c0, .slice A1 l1.length c1] w fun e w' => e = .returned (.bool r) ∧ Below w.heap.size w w' := by
  have hu62 := Try.underlying62
  have HR0 := Aside0.mk hr0
  have HC0 := Aside0.mk hc0
  clear hr0 hc0
  have HR1 := Aside0.mk hr1
  have HC1 := Aside0.mk hc1
  clear hr1 hc1
  have HB := Aside0.mk (Below.refl w.heap.size w)
  have H : (if (l0.length : Int) = (l1.length : Int) then (laws_eqPieceS.l0 k l0 l1 0) else (some false)) = some r := h
  clear h
  by_cases c3 : (l0.length : Int) = (l1.length : Int)
  · rw [if_pos c3] at H
    have c3b0 : ((l0.length : Int) == (l1.length : Int)) = true := beq_iff_eq.mpr c3
    have c3b1 : ((l0.length : Int) != (l1.length : Int)) = false := bne_eq_false_iff_eq.mpr c3
    have c3b2 : (l0.length == l1.length) = true := by first | simpa using c3 | (simp at c3 ⊢; omega)
    clear c3
    have H' := Aside0.mk H
    clear H
    go_enter Try.func32, Try.ntmps32
    go_wp2
    go_loopg [5] k (fun kq v5 w' => ∃ (x5_1 : Int), v5 = .int .i64 x5_1 ∧ Aside0 (laws_eqPieceS.l0 kq l0 l1 x5_1 = some r) ∧ Aside0 (kq ≤ k) ∧ Aside0 (Below w.heap.size w w'))
    case atStart => exact ⟨(0), (by first | rfl | (simp; done) | (simp [*]; done) | (exact congrArg (Value.int .i64) (wrap_eq (by omega)))), H', ⟨Nat.le_refl _⟩, ⟨by repeat (first | (with_reducible first | exact HB.out | apply below_alloc | apply pw_below_drewN | apply below_drew1) | exact HB.out)⟩⟩
    case round =>
      clear H'
      try clear c1
      try clear p2
      try clear c3
      try clear c3b0
      try clear c3b1
      try clear c3b2
      obtain ⟨x5_1, rfl, HA, HK1, HB⟩ := hrel
      cases gk with
      | zero => exact absurd HA.out (by simp [laws_eqPieceS.l0])
      | succ k1 =>
        have H := HA.out
        clear HA
        simp only [laws_eqPieceS.l0] at H
        by_cases c4 : x5_1 < (l0.length : Int)
        · rw [if_pos c4] at H
          have c4b0 : decide (x5_1 < (l0.length : Int)) = true := decide_eq_true c4
          clear c4
          by_cases c5 : 0 ≤ x5_1
          · rw [if_pos c5] at H
            have c5b0 : decide (0 ≤ x5_1) = true := decide_eq_true c5
            clear c5
            by_cases c6 : x5_1 < (l1.length : Int)
            · rw [if_pos c6] at H
              have c6b0 : decide (x5_1 < (l1.length : Int)) = true := decide_eq_true c6
              clear c6
              replace H := Option.bind_eq_some_iff.mp H
              obtain ⟨t134, A70, H⟩ := H
              replace H : (if t134 = true then (laws_eqPieceS.l0 k1 l0 l1 (wrap64 (x5_1 + 1))) else (some false)) = some r := H
              have A7 := Aside0.mk A70
              clear A70
              by_cases c8 : t134 = true
              · subst c8
                have H1 : (laws_eqPieceS.l0 k1 l0 l1 (wrap64 (x5_1 + 1))) = some r := by rw [if_pos rfl] at H; exact H
                clear H
                have H := H1
                clear H1
                have H' := Aside0.mk H
                clear H
                try go_wp2
                have n0_ := Aside0.mk (below_drew1 HB.out)
                clear HB
                have HB := n0_
                clear n0_
                have p132 : 0 ≤ (x5_1 : Int) := of_decide_eq_true (by first | (with_reducible assumption) | assumption)
                have q132 : x5_1 < (l0.length : Int) := of_decide_eq_true (by first | (with_reducible assumption) | assumption)
                obtain ⟨ad132, e132, hx132_0, hx132_1, hx132_2, hx132_3, hx132_4⟩ := at_T62 HR0.out x5_1 p132 q132
                have hw132_4 := hx132_4
                have hw132_3 := hx132_3
                have hw132_2 := hx132_2
                have hw132_1 := hx132_1
                have hw132_0 := hx132_0
                cases e132
                replace hx132_0 := (HB.out.cell (World.block_lt_of_cell? w _ hx132_0)).trans hx132_0
                replace hx132_1 := (HB.out.cell (World.block_lt_of_cell? w _ hx132_1)).trans hx132_1
                replace hx132_2 := (HB.out.cell (World.block_lt_of_cell? w _ hx132_2)).trans hx132_2
                replace hx132_3 := (HB.out.cell (World.block_lt_of_cell? w _ hx132_3)).trans hx132_3
                replace hx132_4 := (HB.out.cell (World.block_lt_of_cell? w _ hx132_4)).trans hx132_4
                replace p132 := eq_true p132
                replace q132 := eq_true q132
                have p133 : 0 ≤ (x5_1 : Int) := of_decide_eq_true (by first | (with_reducible assumption) | assumption)
                have q133 : x5_1 < (l1.length : Int) := of_decide_eq_true (by first | (with_reducible assumption) | assumption)
                obtain ⟨ad133, e133, hx133_0, hx133_1, hx133_2, hx133_3, hx133_4⟩ := at_T62 HR1.out x5_1 p133 q133
                have hw133_4 := hx133_4
                have hw133_3 := hx133_3
                have hw133_2 := hx133_2
                have hw133_1 := hx133_1
                have hw133_0 := hx133_0
                cases e133
                replace hx133_0 := (HB.out.cell (World.block_lt_of_cell? w _ hx133_0)).trans hx133_0
                replace hx133_1 := (HB.out.cell (World.block_lt_of_cell? w _ hx133_1)).trans hx133_1
                replace hx133_2 := (HB.out.cell (World.block_lt_of_cell? w _ hx133_2)).trans hx133_2
                replace hx133_3 := (HB.out.cell (World.block_lt_of_cell? w _ hx133_3)).trans hx133_3
                replace hx133_4 := (HB.out.cell (World.block_lt_of_cell? w _ hx133_4)).trans hx133_4
                replace p133 := eq_true p133
                replace q133 := eq_true q133
                refine start_ (n := 10) (S := fun w' => w'.cell? (ad132.add ((x5_1).toNat * 5)) = some (.int .i8 ((rd_T62 l0 x5_1).f0.f0)) ∧ w'.cell? ⟨(ad132.add ((x5_1).toNat * 5)).block, (ad132.add ((x5_1).toNat * 5)).off + 1, none⟩ = some (.int .i8 ((rd_T62 l0 x5_1).f0.f1)) ∧ w'.cell? ⟨(ad132.add ((x5_1).toNat * 5)).block, (ad132.add ((x5_1).toNat * 5)).off + 2, none⟩ = some (.int .i8 ((rd_T62 l0 x5_1).f1)) ∧ w'.cell? ⟨(ad132.add ((x5_1).toNat * 5)).block, (ad132.add ((x5_1).toNat * 5)).off + 3, none⟩ = some (.int .i8 ((rd_T62 l0 x5_1).f2)) ∧ w'.cell? ⟨(ad132.add ((x5_1).toNat * 5)).block, (ad132.add ((x5_1).toNat * 5)).off + 4, none⟩ = some (.int .i8 ((rd_T62 l0 x5_1).f3)) ∧ w'.cell? (ad133.add ((x5_1).toNat * 5)) = some (.int .i8 ((rd_T62 l1 x5_1).f0.f0)) ∧ w'.cell? ⟨(ad133.add ((x5_1).toNat * 5)).block, (ad133.add ((x5_1).toNat * 5)).off + 1, none⟩ = some (.int .i8 ((rd_T62 l1 x5_1).f0.f1)) ∧ w'.cell? ⟨(ad133.add ((x5_1).toNat * 5)).block, (ad133.add ((x5_1).toNat * 5)).off + 2, none⟩ = some (.int .i8 ((rd_T62 l1 x5_1).f1)) ∧ w'.cell? ⟨(ad133.add ((x5_1).toNat * 5)).block, (ad133.add ((x5_1).toNat * 5)).off + 3, none⟩ = some (.int .i8 ((rd_T62 l1 x5_1).f2)) ∧ w'.cell? ⟨(ad133.add ((x5_1).toNat * 5)).block, (ad133.add ((x5_1).toNat * 5)).off + 4, none⟩ = some (.int .i8 ((rd_T62 l1 x5_1).f3))) (ds := []) #[false, false, false, false, false, false, false, false, false, false] (by kernel_rfl) rfl rfl ⟨((HB.out.cell (World.block_lt_of_cell? w _ hw132_0)).trans hw132_0), ((HB.out.cell (World.block_lt_of_cell? w _ hw132_1)).trans hw132_1), ((HB.out.cell (World.block_lt_of_cell? w _ hw132_2)).trans hw132_2), ((HB.out.cell (World.block_lt_of_cell? w _ hw132_3)).trans hw132_3), ((HB.out.cell (World.block_lt_of_cell? w _ hw132_4)).trans hw132_4), ((HB.out.cell (World.block_lt_of_cell? w _ hw133_0)).trans hw133_0), ((HB.out.cell (World.block_lt_of_cell? w _ hw133_1)).trans hw133_1), ((HB.out.cell (World.block_lt_of_cell? w _ hw133_2)).trans hw133_2), ((HB.out.cell (World.block_lt_of_cell? w _ hw133_3)).trans hw133_3), ((HB.out.cell (World.block_lt_of_cell? w _ hw133_4)).trans hw133_4)⟩ (fun hHeld => ?_); refine with_tabW laws_eqPieceS.tab6 laws_eqPieceS.bits6 (fun HT_ HW_ => ?_)
                generalize wr.drew = w9 at HB hx132_0 hx132_1 hx132_2 hx132_3 hx132_4 hx133_0 hx133_1 hx133_2 hx133_3 hx133_4 hHeld ⊢
                refine pure_ (i := 0) (N := some 17) (v := ?_) (a' := ?_) #[true, false, false, false, false, false, false, false, false, false] rfl rfl (any_of HT_.out (by kernel_rfl)) (fun _ _ _ h => h) (Or.inl ⟨by rfl, ?_⟩) ?_ ?_
                rotate_left
                · intro w'
                  go_simp
                  with_reducible rfl
                rotate_left
                · simp only [Act.put, List.setIfInBounds_toArray, List.set_cons_zero, List.set_cons_succ, i64_w, i32_w]
                  rfl
                refine pure_ (i := 1) (N := some 18) (v := ?_) (a' := ?_) #[true, true, false, false, false, false, false, false, false, false] rfl rfl (any_of HT_.out (by kernel_rfl)) (fun _ _ _ h => h) (Or.inl ⟨by rfl, ?_⟩) ?_ ?_
                rotate_left
                · intro w'
                  go_simp
                  with_reducible rfl
                rotate_left
                · simp only [Act.put, List.setIfInBounds_toArray, List.set_cons_zero, List.set_cons_succ, i64_w, i32_w]
                  rfl
                refine pure_ (i := 2) (N := some 19) (v := ?_) (a' := ?_) #[true, true, true, false, false, false, false, false, false, false] rfl rfl (any_of HT_.out (by kernel_rfl)) (fun _ _ _ h => h) (Or.inl ⟨by rfl, ?_⟩) ?_ ?_
                rotate_left
                · intro w'
                  go_simp
                  with_reducible rfl
                rotate_left
                · simp only [Act.put, List.setIfInBounds_toArray, List.set_cons_zero, List.set_cons_succ, i64_w, i32_w]
                  rfl
                refine pure_ (i := 4) (N := some 21) (v := ?_) (a' := ?_) #[true, true, true, false, true, false, false, false, false, false] rfl rfl (any_of HT_.out (by kernel_rfl)) (fun _ _ _ h => h) (Or.inl ⟨by rfl, ?_⟩) ?_ ?_
                rotate_left
                · intro w'
                  go_simp
                  with_reducible rfl
                rotate_left
                · simp only [Act.put, List.setIfInBounds_toArray, List.set_cons_zero, List.set_cons_succ, i64_w, i32_w]
                  rfl
                refine pure_ (i := 5) (N := some 22) (v := ?_) (a' := ?_) #[true, true, true, false, true, true, false, false, false, false] rfl rfl (any_of HT_.out (by kernel_rfl)) (fun _ _ _ h => h) (Or.inl ⟨by rfl, ?_⟩) ?_ ?_
                rotate_left
                · intro w'
                  go_simp
                  with_reducible rfl
                rotate_left
                · simp only [Act.put, List.setIfInBounds_toArray, List.set_cons_zero, List.set_cons_succ, i64_w, i32_w]
                  rfl
                refine pure_ (i := 6) (N := some 23) (v := ?_) (a' := ?_) #[true, true, true, false, true, true, true, false, false, false] rfl rfl (any_of HT_.out (by kernel_rfl)) (fun _ _ _ h => h) (Or.inl ⟨by rfl, ?_⟩) ?_ ?_
                rotate_left
                · intro w'
                  go_simp
                  with_reducible rfl
                rotate_left
                · simp only [Act.put, List.setIfInBounds_toArray, List.set_cons_zero, List.set_cons_succ, i64_w, i32_w]
                  rfl
                refine take_ (i := 3) (N := some 20) (v := ?_) (a' := ?_) #[true, true, true, true, true, true, true, false, false, false] rfl rfl (take_ofW HT_.out HW_.out (by kernel_rfl)) (fun _ _ _ h => h) (Or.inl ⟨by rfl, ?_⟩) hHeld ?_ ?_
                rotate_left
                · rintro w' ⟨s0, s1, s2, s3, s4, s5, s6, s7, s8, s9⟩
                  go_simp
                  with_reducible rfl
                rotate_left
                · simp only [Act.put, List.setIfInBounds_toArray, List.set_cons_zero, List.set_cons_succ, i64_w, i32_w]
                  rfl
                refine take_ (i := 7) (N := some 24) (v := ?_) (a' := ?_) #[true, true, true, true, true, true, true, true, false, false] rfl rfl (take_ofW HT_.out HW_.out (by kernel_rfl)) (fun _ _ _ h => h) (Or.inl ⟨by rfl, ?_⟩) hHeld ?_ ?_
                rotate_left
                · rintro w' ⟨s0, s1, s2, s3, s4, s5, s6, s7, s8, s9⟩
                  go_simp
                  with_reducible rfl
                rotate_left
                · simp only [Act.put, List.setIfInBounds_toArray, List.set_cons_zero, List.set_cons_succ, i64_w, i32_w]
                  rfl
                refine one_ (i := 8) (N := some 25) #[true, true, true, true, true, true, true, true, true, false] rfl rfl (one_of HT_.out (by kernel_rfl)) (by decide) (fun K hK => ?_)
                refine goes_ Try.func55 (by kernel_rfl) rfl #[.agg #[.int .i8 ((rd_T62 l0 x5_1).f0.f0), .int .i8 ((rd_T62 l0 x5_1).f0.f1), .int .i8 ((rd_T62 l0 x5_1).f1), .int .i8 ((rd_T62 l0 x5_1).f2), .int .i8 ((rd_T62 l0 x5_1).f3)], .agg #[.int .i8 ((rd_T62 l1 x5_1).f0.f0), .int .i8 ((rd_T62 l1 x5_1).f0.f1), .int .i8 ((rd_T62 l1 x5_1).f1), .int .i8 ((rd_T62 l1 x5_1).f2), .int .i8 ((rd_T62 l1 x5_1).f3)]] (by rfl) rfl rfl (by (try simp only [List.map_toArray, List.map_cons, List.map_nil]); first | done | rfl | (simp only [List.length_drop, List.length_take]; rfl)) ?_
                with_reducible refine (laws_eqPiece.calls k1 ((rd_T62 l0 x5_1).f0.f0) ((rd_T62 l0 x5_1).f0.f1) ((rd_T62 l0 x5_1).f1) ((rd_T62 l0 x5_1).f2) ((rd_T62 l0 x5_1).f3) ((rd_T62 l1 x5_1).f0.f0) ((rd_T62 l1 x5_1).f0.f1) ((rd_T62 l1 x5_1).f1) ((rd_T62 l1 x5_1).f2) ((rd_T62 l1 x5_1).f3) true _ A7.out).mono ?_
                rintro e w10 ⟨rfl, hb⟩
                refine ⟨_, rfl, ?_⟩
                have n0_ := Aside0.mk (below_step (by repeat (first | (with_reducible first | exact HB.out | apply below_alloc | apply pw_below_drewN | apply below_drew1) | exact HB.out)) hb)
                clear HB
                have HB := n0_
                clear n0_
                (try clear hb)
                (try clear hb2)
                (try clear hk)
                (try clear hi)
                refine hK.out _ _ ⟨((HB.out.cell (World.block_lt_of_cell? w _ hw132_0)).trans hw132_0), ((HB.out.cell (World.block_lt_of_cell? w _ hw132_1)).trans hw132_1), ((HB.out.cell (World.block_lt_of_cell? w _ hw132_2)).trans hw132_2), ((HB.out.cell (World.block_lt_of_cell? w _ hw132_3)).trans hw132_3), ((HB.out.cell (World.block_lt_of_cell? w _ hw132_4)).trans hw132_4), ((HB.out.cell (World.block_lt_of_cell? w _ hw133_0)).trans hw133_0), ((HB.out.cell (World.block_lt_of_cell? w _ hw133_1)).trans hw133_1), ((HB.out.cell (World.block_lt_of_cell? w _ hw133_2)).trans hw133_2), ((HB.out.cell (World.block_lt_of_cell? w _ hw133_3)).trans hw133_3), ((HB.out.cell (World.block_lt_of_cell? w _ hw133_4)).trans hw133_4)⟩ (fun hHeld => ?_)
                clear hK K
                refine norm_ (a' := ?_) ?_ ?_
                rotate_left
                · show Act.put _ (some 25) _ = _
                  simp only [Act.put, List.setIfInBounds_toArray, List.set_cons_zero, List.set_cons_succ, i64_w, i32_w]
                  rfl
                refine pure_ (i := 9) (N := some 26) (v := ?_) (a' := ?_) #[true, true, true, true, true, true, true, true, true, true] rfl rfl (any_of HT_.out (by kernel_rfl)) (fun _ _ _ h => h) (Or.inl ⟨by rfl, ?_⟩) ?_ ?_
                rotate_left
                · intro w'
                  go_simp
                  with_reducible rfl
                rotate_left
                · simp only [Act.put, List.setIfInBounds_toArray, List.set_cons_zero, List.set_cons_succ, i64_w, i32_w]
                  rfl
                refine done_ (done_of HT_.out (by kernel_rfl)) ?_
                try go_wp2
                go_roundg k1
                case measure => have := HK1.out; omega
                case rel => exact ⟨(wrap64 (x5_1 + 1)), (by first | rfl | (simp; done) | (simp [*]; done) | (exact congrArg (Value.int .i64) (wrap_eq (by omega)))), H', ⟨by have := HK1.out; omega⟩, ⟨by repeat (first | (with_reducible first | exact HB.out | apply below_alloc | apply pw_below_drewN | apply below_drew1) | exact HB.out)⟩⟩
              · replace c8 := Bool.eq_false_iff.mpr c8
                subst c8
                have H1 : (some false) = some r := by rw [if_neg (show ¬ (false = true) by decide)] at H; exact H
                clear H
                have H := H1
                clear H1
                obtain rfl := Option.some.inj H
                try go_wp2
                have n0_ := Aside0.mk (below_drew1 HB.out)
                clear HB
                have HB := n0_
                clear n0_
                have p132 : 0 ≤ (x5_1 : Int) := of_decide_eq_true (by first | (with_reducible assumption) | assumption)
                have q132 : x5_1 < (l0.length : Int) := of_decide_eq_true (by first | (with_reducible assumption) | assumption)
                obtain ⟨ad132, e132, hx132_0, hx132_1, hx132_2, hx132_3, hx132_4⟩ := at_T62 HR0.out x5_1 p132 q132
                have hw132_4 := hx132_4
                have hw132_3 := hx132_3
                have hw132_2 := hx132_2
                have hw132_1 := hx132_1
                have hw132_0 := hx132_0
                cases e132
                replace hx132_0 := (HB.out.cell (World.block_lt_of_cell? w _ hx132_0)).trans hx132_0
                replace hx132_1 := (HB.out.cell (World.block_lt_of_cell? w _ hx132_1)).trans hx132_1
                replace hx132_2 := (HB.out.cell (World.block_lt_of_cell? w _ hx132_2)).trans hx132_2
                replace hx132_3 := (HB.out.cell (World.block_lt_of_cell? w _ hx132_3)).trans hx132_3
                replace hx132_4 := (HB.out.cell (World.block_lt_of_cell? w _ hx132_4)).trans hx132_4
                replace p132 := eq_true p132
                replace q132 := eq_true q132
                have p133 : 0 ≤ (x5_1 : Int) := of_decide_eq_true (by first | (with_reducible assumption) | assumption)
                have q133 : x5_1 < (l1.length : Int) := of_decide_eq_true (by first | (with_reducible assumption) | assumption)
                obtain ⟨ad133, e133, hx133_0, hx133_1, hx133_2, hx133_3, hx133_4⟩ := at_T62 HR1.out x5_1 p133 q133
                have hw133_4 := hx133_4
                have hw133_3 := hx133_3
                have hw133_2 := hx133_2
                have hw133_1 := hx133_1
                have hw133_0 := hx133_0
                cases e133
                replace hx133_0 := (HB.out.cell (World.block_lt_of_cell? w _ hx133_0)).trans hx133_0
                replace hx133_1 := (HB.out.cell (World.block_lt_of_cell? w _ hx133_1)).trans hx133_1
                replace hx133_2 := (HB.out.cell (World.block_lt_of_cell? w _ hx133_2)).trans hx133_2
                replace hx133_3 := (HB.out.cell (World.block_lt_of_cell? w _ hx133_3)).trans hx133_3
                replace hx133_4 := (HB.out.cell (World.block_lt_of_cell? w _ hx133_4)).trans hx133_4
                replace p133 := eq_true p133
                replace q133 := eq_true q133
                refine start_ (n := 10) (S := fun w' => w'.cell? (ad132.add ((x5_1).toNat * 5)) = some (.int .i8 ((rd_T62 l0 x5_1).f0.f0)) ∧ w'.cell? ⟨(ad132.add ((x5_1).toNat * 5)).block, (ad132.add ((x5_1).toNat * 5)).off + 1, none⟩ = some (.int .i8 ((rd_T62 l0 x5_1).f0.f1)) ∧ w'.cell? ⟨(ad132.add ((x5_1).toNat * 5)).block, (ad132.add ((x5_1).toNat * 5)).off + 2, none⟩ = some (.int .i8 ((rd_T62 l0 x5_1).f1)) ∧ w'.cell? ⟨(ad132.add ((x5_1).toNat * 5)).block, (ad132.add ((x5_1).toNat * 5)).off + 3, none⟩ = some (.int .i8 ((rd_T62 l0 x5_1).f2)) ∧ w'.cell? ⟨(ad132.add ((x5_1).toNat * 5)).block, (ad132.add ((x5_1).toNat * 5)).off + 4, none⟩ = some (.int .i8 ((rd_T62 l0 x5_1).f3)) ∧ w'.cell? (ad133.add ((x5_1).toNat * 5)) = some (.int .i8 ((rd_T62 l1 x5_1).f0.f0)) ∧ w'.cell? ⟨(ad133.add ((x5_1).toNat * 5)).block, (ad133.add ((x5_1).toNat * 5)).off + 1, none⟩ = some (.int .i8 ((rd_T62 l1 x5_1).f0.f1)) ∧ w'.cell? ⟨(ad133.add ((x5_1).toNat * 5)).block, (ad133.add ((x5_1).toNat * 5)).off + 2, none⟩ = some (.int .i8 ((rd_T62 l1 x5_1).f1)) ∧ w'.cell? ⟨(ad133.add ((x5_1).toNat * 5)).block, (ad133.add ((x5_1).toNat * 5)).off + 3, none⟩ = some (.int .i8 ((rd_T62 l1 x5_1).f2)) ∧ w'.cell? ⟨(ad133.add ((x5_1).toNat * 5)).block, (ad133.add ((x5_1).toNat * 5)).off + 4, none⟩ = some (.int .i8 ((rd_T62 l1 x5_1).f3))) (ds := []) #[false, false, false, false, false, false, false, false, false, false] (by kernel_rfl) rfl rfl ⟨((HB.out.cell (World.block_lt_of_cell? w _ hw132_0)).trans hw132_0), ((HB.out.cell (World.block_lt_of_cell? w _ hw132_1)).trans hw132_1), ((HB.out.cell (World.block_lt_of_cell? w _ hw132_2)).trans hw132_2), ((HB.out.cell (World.block_lt_of_cell? w _ hw132_3)).trans hw132_3), ((HB.out.cell (World.block_lt_of_cell? w _ hw132_4)).trans hw132_4), ((HB.out.cell (World.block_lt_of_cell? w _ hw133_0)).trans hw133_0), ((HB.out.cell (World.block_lt_of_cell? w _ hw133_1)).trans hw133_1), ((HB.out.cell (World.block_lt_of_cell? w _ hw133_2)).trans hw133_2), ((HB.out.cell (World.block_lt_of_cell? w _ hw133_3)).trans hw133_3), ((HB.out.cell (World.block_lt_of_cell? w _ hw133_4)).trans hw133_4)⟩ (fun hHeld => ?_); refine with_tabW laws_eqPieceS.tab6 laws_eqPieceS.bits6 (fun HT_ HW_ => ?_)
                generalize wr.drew = w11 at HB hx132_0 hx132_1 hx132_2 hx132_3 hx132_4 hx133_0 hx133_1 hx133_2 hx133_3 hx133_4 hHeld ⊢
                refine pure_ (i := 0) (N := some 17) (v := ?_) (a' := ?_) #[true, false, false, false, false, false, false, false, false, false] rfl rfl (any_of HT_.out (by kernel_rfl)) (fun _ _ _ h => h) (Or.inl ⟨by rfl, ?_⟩) ?_ ?_
                rotate_left
                · intro w'
                  go_simp
                  with_reducible rfl
                rotate_left
                · simp only [Act.put, List.setIfInBounds_toArray, List.set_cons_zero, List.set_cons_succ, i64_w, i32_w]
                  rfl
                refine pure_ (i := 1) (N := some 18) (v := ?_) (a' := ?_) #[true, true, false, false, false, false, false, false, false, false] rfl rfl (any_of HT_.out (by kernel_rfl)) (fun _ _ _ h => h) (Or.inl ⟨by rfl, ?_⟩) ?_ ?_
                rotate_left
                · intro w'
                  go_simp
                  with_reducible rfl
                rotate_left
                · simp only [Act.put, List.setIfInBounds_toArray, List.set_cons_zero, List.set_cons_succ, i64_w, i32_w]
                  rfl
                refine pure_ (i := 2) (N := some 19) (v := ?_) (a' := ?_) #[true, true, true, false, false, false, false, false, false, false] rfl rfl (any_of HT_.out (by kernel_rfl)) (fun _ _ _ h => h) (Or.inl ⟨by rfl, ?_⟩) ?_ ?_
                rotate_left
                · intro w'
                  go_simp
                  with_reducible rfl
                rotate_left
                · simp only [Act.put, List.setIfInBounds_toArray, List.set_cons_zero, List.set_cons_succ, i64_w, i32_w]
                  rfl
                refine pure_ (i := 4) (N := some 21) (v := ?_) (a' := ?_) #[true, true, true, false, true, false, false, false, false, false] rfl rfl (any_of HT_.out (by kernel_rfl)) (fun _ _ _ h => h) (Or.inl ⟨by rfl, ?_⟩) ?_ ?_
                rotate_left
                · intro w'
                  go_simp
                  with_reducible rfl
                rotate_left
                · simp only [Act.put, List.setIfInBounds_toArray, List.set_cons_zero, List.set_cons_succ, i64_w, i32_w]
                  rfl
                refine pure_ (i := 5) (N := some 22) (v := ?_) (a' := ?_) #[true, true, true, false, true, true, false, false, false, false] rfl rfl (any_of HT_.out (by kernel_rfl)) (fun _ _ _ h => h) (Or.inl ⟨by rfl, ?_⟩) ?_ ?_
                rotate_left
                · intro w'
                  go_simp
                  with_reducible rfl
                rotate_left
                · simp only [Act.put, List.setIfInBounds_toArray, List.set_cons_zero, List.set_cons_succ, i64_w, i32_w]
                  rfl
                refine pure_ (i := 6) (N := some 23) (v := ?_) (a' := ?_) #[true, true, true, false, true, true, true, false, false, false] rfl rfl (any_of HT_.out (by kernel_rfl)) (fun _ _ _ h => h) (Or.inl ⟨by rfl, ?_⟩) ?_ ?_
                rotate_left
                · intro w'
                  go_simp
                  with_reducible rfl
                rotate_left
                · simp only [Act.put, List.setIfInBounds_toArray, List.set_cons_zero, List.set_cons_succ, i64_w, i32_w]
                  rfl
                refine take_ (i := 3) (N := some 20) (v := ?_) (a' := ?_) #[true, true, true, true, true, true, true, false, false, false] rfl rfl (take_ofW HT_.out HW_.out (by kernel_rfl)) (fun _ _ _ h => h) (Or.inl ⟨by rfl, ?_⟩) hHeld ?_ ?_
                rotate_left
                · rintro w' ⟨s0, s1, s2, s3, s4, s5, s6, s7, s8, s9⟩
                  go_simp
                  with_reducible rfl
                rotate_left
                · simp only [Act.put, List.setIfInBounds_toArray, List.set_cons_zero, List.set_cons_succ, i64_w, i32_w]
                  rfl
                refine take_ (i := 7) (N := some 24) (v := ?_) (a' := ?_) #[true, true, true, true, true, true, true, true, false, false] rfl rfl (take_ofW HT_.out HW_.out (by kernel_rfl)) (fun _ _ _ h => h) (Or.inl ⟨by rfl, ?_⟩) hHeld ?_ ?_
                rotate_left
                · rintro w' ⟨s0, s1, s2, s3, s4, s5, s6, s7, s8, s9⟩
                  go_simp
                  with_reducible rfl
                rotate_left
                · simp only [Act.put, List.setIfInBounds_toArray, List.set_cons_zero, List.set_cons_succ, i64_w, i32_w]
                  rfl
                refine one_ (i := 8) (N := some 25) #[true, true, true, true, true, true, true, true, true, false] rfl rfl (one_of HT_.out (by kernel_rfl)) (by decide) (fun K hK => ?_)
                refine goes_ Try.func55 (by kernel_rfl) rfl #[.agg #[.int .i8 ((rd_T62 l0 x5_1).f0.f0), .int .i8 ((rd_T62 l0 x5_1).f0.f1), .int .i8 ((rd_T62 l0 x5_1).f1), .int .i8 ((rd_T62 l0 x5_1).f2), .int .i8 ((rd_T62 l0 x5_1).f3)], .agg #[.int .i8 ((rd_T62 l1 x5_1).f0.f0), .int .i8 ((rd_T62 l1 x5_1).f0.f1), .int .i8 ((rd_T62 l1 x5_1).f1), .int .i8 ((rd_T62 l1 x5_1).f2), .int .i8 ((rd_T62 l1 x5_1).f3)]] (by rfl) rfl rfl (by (try simp only [List.map_toArray, List.map_cons, List.map_nil]); first | done | rfl | (simp only [List.length_drop, List.length_take]; rfl)) ?_
                with_reducible refine (laws_eqPiece.calls k1 ((rd_T62 l0 x5_1).f0.f0) ((rd_T62 l0 x5_1).f0.f1) ((rd_T62 l0 x5_1).f1) ((rd_T62 l0 x5_1).f2) ((rd_T62 l0 x5_1).f3) ((rd_T62 l1 x5_1).f0.f0) ((rd_T62 l1 x5_1).f0.f1) ((rd_T62 l1 x5_1).f1) ((rd_T62 l1 x5_1).f2) ((rd_T62 l1 x5_1).f3) false _ A7.out).mono ?_
                rintro e w12 ⟨rfl, hb⟩
                refine ⟨_, rfl, ?_⟩
                have n0_ := Aside0.mk (below_step (by repeat (first | (with_reducible first | exact HB.out | apply below_alloc | apply pw_below_drewN | apply below_drew1) | exact HB.out)) hb)
                clear HB
                have HB := n0_
                clear n0_
                (try clear hb)
                (try clear hb2)
                (try clear hk)
                (try clear hi)
                refine hK.out _ _ ⟨((HB.out.cell (World.block_lt_of_cell? w _ hw132_0)).trans hw132_0), ((HB.out.cell (World.block_lt_of_cell? w _ hw132_1)).trans hw132_1), ((HB.out.cell (World.block_lt_of_cell? w _ hw132_2)).trans hw132_2), ((HB.out.cell (World.block_lt_of_cell? w _ hw132_3)).trans hw132_3), ((HB.out.cell (World.block_lt_of_cell? w _ hw132_4)).trans hw132_4), ((HB.out.cell (World.block_lt_of_cell? w _ hw133_0)).trans hw133_0), ((HB.out.cell (World.block_lt_of_cell? w _ hw133_1)).trans hw133_1), ((HB.out.cell (World.block_lt_of_cell? w _ hw133_2)).trans hw133_2), ((HB.out.cell (World.block_lt_of_cell? w _ hw133_3)).trans hw133_3), ((HB.out.cell (World.block_lt_of_cell? w _ hw133_4)).trans hw133_4)⟩ (fun hHeld => ?_)
                clear hK K
                refine norm_ (a' := ?_) ?_ ?_
                rotate_left
                · show Act.put _ (some 25) _ = _
                  simp only [Act.put, List.setIfInBounds_toArray, List.set_cons_zero, List.set_cons_succ, i64_w, i32_w]
                  rfl
                refine pure_ (i := 9) (N := some 26) (v := ?_) (a' := ?_) #[true, true, true, true, true, true, true, true, true, true] rfl rfl (any_of HT_.out (by kernel_rfl)) (fun _ _ _ h => h) (Or.inl ⟨by rfl, ?_⟩) ?_ ?_
                rotate_left
                · intro w'
                  go_simp
                  with_reducible rfl
                rotate_left
                · simp only [Act.put, List.setIfInBounds_toArray, List.set_cons_zero, List.set_cons_succ, i64_w, i32_w]
                  rfl
                refine done_ (done_of HT_.out (by kernel_rfl)) ?_
                try go_wp2
                go_ret
                exact ⟨by first | rfl | (simp [errW_none, errW_some] <;> rfl) | (simp [*, errW_none, errW_some] <;> rfl), by repeat (first | (with_reducible first | exact HB.out | apply below_alloc | apply pw_below_drewN | apply below_drew1) | exact HB.out)⟩
            · rw [if_neg c6] at H
              exact absurd H (by simp)
          · rw [if_neg c5] at H
            exact absurd H (by simp)
        · rw [if_neg c4] at H
          have c4b0 : decide (x5_1 < (l0.length : Int)) = false := decide_eq_false c4
          clear c4
          obtain rfl := Option.some.inj H
          go_wp2
          go_ret
          exact ⟨by first | rfl | (simp [errW_none, errW_some] <;> rfl) | (simp [*, errW_none, errW_some] <;> rfl), by repeat (first | (with_reducible first | exact HB.out | apply below_alloc | apply pw_below_drewN | apply below_drew1) | exact HB.out)⟩
  · rw [if_neg c3] at H
    have c3b0 : ((l0.length : Int) == (l1.length : Int)) = false := beq_eq_false_iff_ne.mpr c3
    have c3b1 : ((l0.length : Int) != (l1.length : Int)) = true := bne_iff_ne.mpr c3
    have c3b2 : (l0.length == l1.length) = false := by first | simpa using c3 | (simp at c3 ⊢; omega)
    obtain rfl := Option.some.inj H
    go_enter Try.func32, Try.ntmps32
    go_wp2
    go_ret
    exact ⟨by first | rfl | (simp [errW_none, errW_some] <;> rfl) | (simp [*, errW_none, errW_some] <;> rfl), by repeat (first | (with_reducible first | exact HB.out | apply below_alloc | apply pw_below_drewN | apply below_drew1) | exact HB.out)⟩

/-! ### laws_eqBoard: function 11 -/
def laws_eqBoard.f (k : Nat) (a0_0 : Int) (a0_1 : Int) (l0_2 : List (S62)) (a1_0 : Int) (a1_1 : Int) (l1_2 : List (S62)) : Option (Bool) := if a0_0 = a1_0 then (if a0_1 = a1_1 then ((laws_eqPieceS.f k l0_2 l1_2).bind fun t137 => (if t137 = true then (some true) else (some false))) else (some false)) else (some false)
theorem laws_eqBoard.mono : ∀ a0 a1 a2 a3 a4 a5 k, LeO (laws_eqBoard.f k a0 a1 a2 a3 a4 a5) (laws_eqBoard.f (k + 1) a0 a1 a2 a3 a4 a5) := by
  intro a0 a1 a2 a3 a4 a5 k
  unfold laws_eqBoard.f
  repeat' first
      | (with_reducible exact laws_eqPieceS.mono _ _ _)
      | (with_reducible exact LeO.refl _)
      | (with_reducible exact LeO.none _)
      | (with_reducible refine LeO.ite ?_ ?_)
      | (with_reducible refine LeO.bind ?_ (fun _ => ?_))
      | exact laws_eqPieceS.mono _ _ _
      | exact LeO.none _
      | refine LeO.ite ?_ ?_
      | refine LeO.bind ?_ (fun _ => ?_)
set_option maxHeartbeats 8000000 in
set_option maxRecDepth 100000 in
theorem laws_eqBoard.calls (k : Nat) (a0_0 : Int) (a0_1 : Int) (A0_2 : Option Addr) (c0_2 : Nat) (l0_2 : List (S62)) (a1_0 : Int) (a1_1 : Int) (A1_2 : Option Addr) (c1_2 : Nat) (l1_2 : List (S62)) (r : Bool) (w : World) (hr0_2 : Kd.C k62 w A0_2 l0_2.length l0_2) (hc0_2 : l0_2.length ≤ c0_2) (hr1_2 : Kd.C k62 w A1_2 l1_2.length l1_2) (hc1_2 : l1_2.length ≤ c1_2) (h : laws_eqBoard.f k a0_0 a0_1 l0_2 a1_0 a1_1 l1_2 = some r) :
    Calls Try.prog 11 #[.agg #[.int .i8 a0_0, .int .i8 a0_1, .slice A0_2 l0_2.length c0_2], .agg #[.int .i8 a1_0, .int .i8 a1_1, .slice A1_2 l1_2.length c1_2]] w fun e w' => e = .returned (.bool r) ∧ Below w.heap.size w w' := by
  have hu30 := Try.underlying30
  have HR0_2 := Aside0.mk hr0_2
  have HC0_2 := Aside0.mk hc0_2
  clear hr0_2 hc0_2
  have HR1_2 := Aside0.mk hr1_2
  have HC1_2 := Aside0.mk hc1_2
  clear hr1_2 hc1_2
  have HB := Aside0.mk (Below.refl w.heap.size w)
  have H : (if a0_0 = a1_0 then (if a0_1 = a1_1 then ((laws_eqPieceS.f k l0_2 l1_2).bind fun t137 => (if t137 = true then (some true) else (some false))) else (some false)) else (some false)) = some r := h
  clear h
  by_cases c3 : a0_0 = a1_0
  · rw [if_pos c3] at H
    have c3b0 : (a0_0 == a1_0) = true := beq_iff_eq.mpr c3
    have c3b1 : (a0_0 != a1_0) = false := bne_eq_false_iff_eq.mpr c3
    clear c3
    by_cases c4 : a0_1 = a1_1
    · rw [if_pos c4] at H
      have c4b0 : (a0_1 == a1_1) = true := beq_iff_eq.mpr c4
      have c4b1 : (a0_1 != a1_1) = false := bne_eq_false_iff_eq.mpr c4
      clear c4
      replace H := Option.bind_eq_some_iff.mp H
      obtain ⟨t137, A50, H⟩ := H
      replace H : (if t137 = true then (some true) else (some false)) = some r := H
      have A5 := Aside0.mk A50
      clear A50
      by_cases c6 : t137 = true
      · subst c6
        have H1 : (some true) = some r := by rw [if_pos rfl] at H; exact H
        clear H
        have H := H1
        clear H1
        obtain rfl := Option.some.inj H
        go_enter Try.func11, Try.ntmps11
        go_wp2_with (first | ((with_reducible refine gate_dst (N := 2) rfl ?_); refine box_event ?hg (N := 2) ?hd (cs := #[.int .i8 a0_0, .int .i8 a0_1, .slice A0_2 l0_2.length c0_2]) (t := 30) ?hr ?_; (case hd => rfl); (case hg => rfl); (case hr => first | (go_simp; done) | (go_simp; rfl)); intro gb135 hg w7 hbox hb; have n0_ := Aside0.mk (below_step (by repeat (first | (with_reducible first | exact HB.out | apply below_alloc | apply pw_below_drewN | apply below_drew1) | exact HB.out)) hb); have n1_ := Aside0.mk (hbox); have n2_ := Aside0.mk ((by rw [hg]; exact (below_size (by repeat (first | (with_reducible first | exact HB.out | apply below_alloc | apply pw_below_drewN | apply below_drew1) | exact HB.out))) : w.heap.size ≤ gb135)); have n3_ := Aside0.mk ((by rw [hg]; exact (below_size (by repeat (first | (with_reducible first | exact HB.out | apply below_alloc | apply pw_below_drewN | apply below_drew1) | exact HB.out))) : w.heap.size ≤ gb135)); clear HB; have HB := n0_; have BK135 := n1_; have GW135 := n2_; have GE135 := n3_; clear n0_ n1_ n2_ n3_; clear hb hbox hg) | ((with_reducible refine gate_dst (N := 3) rfl ?_); refine box_event ?hg (N := 3) ?hd (cs := #[.int .i8 a1_0, .int .i8 a1_1, .slice A1_2 l1_2.length c1_2]) (t := 30) ?hr ?_; (case hd => rfl); (case hg => rfl); (case hr => first | (go_simp; done) | (go_simp; rfl)); intro gb136 hg w8 hbox hb; have n0_ := Aside0.mk (blk_below (g := gb135) (o := .cells #[.int .i8 a0_0, .int .i8 a0_1, .slice A0_2 l0_2.length c0_2] 30 (0, 0)) (by (with_reducible repeat (first | refine blk_drewN ?_ _ | refine blk_drew ?_ | refine blk_alloc ?_ _)); exact BK135.out) hb); have n1_ := Aside0.mk (below_step (by repeat (first | (with_reducible first | exact HB.out | apply below_alloc | apply pw_below_drewN | apply below_drew1 | refine below_set ?_ GE135.out) | exact HB.out)) hb); have n2_ := Aside0.mk (hbox); have n3_ := Aside0.mk ((by rw [hg]; exact (below_size (by repeat (first | (with_reducible first | exact HB.out | apply below_alloc | apply pw_below_drewN | apply below_drew1 | refine below_set ?_ GE135.out) | exact HB.out))) : w.heap.size ≤ gb136)); have n4_ := Aside0.mk ((by rw [hg]; exact (below_size (by repeat (first | (with_reducible first | exact HB.out | apply below_alloc | apply pw_below_drewN | apply below_drew1 | refine below_set ?_ GE135.out) | exact HB.out))) : w.heap.size ≤ gb136)); have n5_ := Aside0.mk ((by rw [hg]; exact Nat.ne_of_lt (blk_lt (g := gb135) (o := .cells #[.int .i8 a0_0, .int .i8 a0_1, .slice A0_2 l0_2.length c0_2] 30 (0, 0)) (by (with_reducible repeat (first | refine blk_drewN ?_ _ | refine blk_drew ?_ | refine blk_alloc ?_ _)); exact BK135.out)) : gb135 ≠ gb136)); have n6_ := Aside0.mk ((by rw [hg]; exact Nat.ne_of_gt (blk_lt (g := gb135) (o := .cells #[.int .i8 a0_0, .int .i8 a0_1, .slice A0_2 l0_2.length c0_2] 30 (0, 0)) (by (with_reducible repeat (first | refine blk_drewN ?_ _ | refine blk_drew ?_ | refine blk_alloc ?_ _)); exact BK135.out)) : gb136 ≠ gb135)); clear BK135; clear HB; have BK135 := n0_; have HB := n1_; have BK136 := n2_; have GW136 := n3_; have GE136 := n4_; have NB135_136 := n5_; have NB136_135 := n6_; clear n0_ n1_ n2_ n3_ n4_ n5_ n6_; clear hb hbox hg; have hnb9 := NB135_136.out; have hnc9 := NB136_135.out; have hcz10_0 : w8.cell? ⟨gb135, 0, none⟩ = some (.int .i8 a0_0) := (blk_cell BK135.out 0).trans rfl; have hcz10_1 : w8.cell? ⟨gb135, 1, none⟩ = some (.int .i8 a0_1) := (blk_cell BK135.out 1).trans rfl; have hcz10_2 : w8.cell? ⟨gb135, 2, none⟩ = some (.slice A0_2 l0_2.length c0_2) := (blk_cell BK135.out 2).trans rfl; have hfz10_0 := blk_frozen BK135.out 0; have hfz10_1 := blk_frozen BK135.out 1; have hfz10_2 := blk_frozen BK135.out 2; have hcz11_0 : w8.cell? ⟨gb136, 0, none⟩ = some (.int .i8 a1_0) := (blk_cell BK136.out 0).trans rfl; have hcz11_1 : w8.cell? ⟨gb136, 1, none⟩ = some (.int .i8 a1_1) := (blk_cell BK136.out 1).trans rfl; have hcz11_2 : w8.cell? ⟨gb136, 2, none⟩ = some (.slice A1_2 l1_2.length c1_2) := (blk_cell BK136.out 2).trans rfl; have hfz11_0 := blk_frozen BK136.out 0; have hfz11_1 := blk_frozen BK136.out 1; have hfz11_2 := blk_frozen BK136.out 2) | ((with_reducible refine gate_callee (f := 32) rfl ?_); refine goesL_ (some 19) rfl rfl Try.func32 (by kernel_rfl) rfl #[.slice A0_2 l0_2.length c0_2, .slice A1_2 l1_2.length c1_2] rfl (by (try simp only [List.map_toArray, List.map_cons, List.map_nil]); first | done | rfl | (simp only [List.length_drop, List.length_take]; rfl)) ?_; (with_reducible refine (laws_eqPieceS.calls k _ _ l0_2 _ _ l1_2 true _ ?side1 ?side2 ?side3 ?side4 A5.out).mono ?_); (case side1 => repeat (first | exact (Kd.C_below HR0_2.out HB.out) | (with_reducible refine Kd.C_alloc ?_ _) | (with_reducible refine Kd.C_drewN ?_ _) | (with_reducible refine Kd.C_drew ?_))); (case side2 => exact HC0_2.out); (case side3 => repeat (first | exact (Kd.C_below HR1_2.out HB.out) | (with_reducible refine Kd.C_alloc ?_ _) | (with_reducible refine Kd.C_drewN ?_ _) | (with_reducible refine Kd.C_drew ?_))); (case side4 => exact HC1_2.out); rintro e w12 ⟨rfl, hb⟩; refine ⟨_, rfl, ?_⟩; have n0_ := Aside0.mk (blk_below (g := gb135) (o := .cells #[.int .i8 a0_0, .int .i8 a0_1, .slice A0_2 l0_2.length c0_2] 30 (0, 0)) (by (with_reducible repeat (first | refine blk_drewN ?_ _ | refine blk_drew ?_ | refine blk_alloc ?_ _)); exact BK135.out) hb); have n1_ := Aside0.mk (blk_below (g := gb136) (o := .cells #[.int .i8 a1_0, .int .i8 a1_1, .slice A1_2 l1_2.length c1_2] 30 (0, 0)) (by (with_reducible repeat (first | refine blk_drewN ?_ _ | refine blk_drew ?_ | refine blk_alloc ?_ _)); exact BK136.out) hb); have n2_ := Aside0.mk (below_step (by repeat (first | (with_reducible first | exact HB.out | apply below_alloc | apply pw_below_drewN | apply below_drew1 | refine below_set ?_ GE135.out | refine below_set ?_ GE136.out) | exact HB.out)) hb); clear BK135; clear BK136; clear HB; have BK135 := n0_; have BK136 := n1_; have HB := n2_; clear n0_ n1_ n2_; (try clear hb); (try clear hb2); (try clear hk); (try clear hi)))
        go_ret
        exact ⟨by first | rfl | (simp [errW_none, errW_some] <;> rfl) | (simp [*, errW_none, errW_some] <;> rfl), by repeat (first | (with_reducible first | exact HB.out | apply below_alloc | apply pw_below_drewN | apply below_drew1 | refine below_set ?_ GE135.out | refine below_set ?_ GE136.out) | exact HB.out)⟩
      · replace c6 := Bool.eq_false_iff.mpr c6
        subst c6
        have H1 : (some false) = some r := by rw [if_neg (show ¬ (false = true) by decide)] at H; exact H
        clear H
        have H := H1
        clear H1
        obtain rfl := Option.some.inj H
        go_enter Try.func11, Try.ntmps11
        go_wp2_with (first | ((with_reducible refine gate_dst (N := 2) rfl ?_); refine box_event ?hg (N := 2) ?hd (cs := #[.int .i8 a0_0, .int .i8 a0_1, .slice A0_2 l0_2.length c0_2]) (t := 30) ?hr ?_; (case hd => rfl); (case hg => rfl); (case hr => first | (go_simp; done) | (go_simp; rfl)); intro gb135 hg w13 hbox hb; have n0_ := Aside0.mk (below_step (by repeat (first | (with_reducible first | exact HB.out | apply below_alloc | apply pw_below_drewN | apply below_drew1) | exact HB.out)) hb); have n1_ := Aside0.mk (hbox); have n2_ := Aside0.mk ((by rw [hg]; exact (below_size (by repeat (first | (with_reducible first | exact HB.out | apply below_alloc | apply pw_below_drewN | apply below_drew1) | exact HB.out))) : w.heap.size ≤ gb135)); have n3_ := Aside0.mk ((by rw [hg]; exact (below_size (by repeat (first | (with_reducible first | exact HB.out | apply below_alloc | apply pw_below_drewN | apply below_drew1) | exact HB.out))) : w.heap.size ≤ gb135)); clear HB; have HB := n0_; have BK135 := n1_; have GW135 := n2_; have GE135 := n3_; clear n0_ n1_ n2_ n3_; clear hb hbox hg) | ((with_reducible refine gate_dst (N := 3) rfl ?_); refine box_event ?hg (N := 3) ?hd (cs := #[.int .i8 a1_0, .int .i8 a1_1, .slice A1_2 l1_2.length c1_2]) (t := 30) ?hr ?_; (case hd => rfl); (case hg => rfl); (case hr => first | (go_simp; done) | (go_simp; rfl)); intro gb136 hg w14 hbox hb; have n0_ := Aside0.mk (blk_below (g := gb135) (o := .cells #[.int .i8 a0_0, .int .i8 a0_1, .slice A0_2 l0_2.length c0_2] 30 (0, 0)) (by (with_reducible repeat (first | refine blk_drewN ?_ _ | refine blk_drew ?_ | refine blk_alloc ?_ _)); exact BK135.out) hb); have n1_ := Aside0.mk (below_step (by repeat (first | (with_reducible first | exact HB.out | apply below_alloc | apply pw_below_drewN | apply below_drew1 | refine below_set ?_ GE135.out) | exact HB.out)) hb); have n2_ := Aside0.mk (hbox); have n3_ := Aside0.mk ((by rw [hg]; exact (below_size (by repeat (first | (with_reducible first | exact HB.out | apply below_alloc | apply pw_below_drewN | apply below_drew1 | refine below_set ?_ GE135.out) | exact HB.out))) : w.heap.size ≤ gb136)); have n4_ := Aside0.mk ((by rw [hg]; exact (below_size (by repeat (first | (with_reducible first | exact HB.out | apply below_alloc | apply pw_below_drewN | apply below_drew1 | refine below_set ?_ GE135.out) | exact HB.out))) : w.heap.size ≤ gb136)); have n5_ := Aside0.mk ((by rw [hg]; exact Nat.ne_of_lt (blk_lt (g := gb135) (o := .cells #[.int .i8 a0_0, .int .i8 a0_1, .slice A0_2 l0_2.length c0_2] 30 (0, 0)) (by (with_reducible repeat (first | refine blk_drewN ?_ _ | refine blk_drew ?_ | refine blk_alloc ?_ _)); exact BK135.out)) : gb135 ≠ gb136)); have n6_ := Aside0.mk ((by rw [hg]; exact Nat.ne_of_gt (blk_lt (g := gb135) (o := .cells #[.int .i8 a0_0, .int .i8 a0_1, .slice A0_2 l0_2.length c0_2] 30 (0, 0)) (by (with_reducible repeat (first | refine blk_drewN ?_ _ | refine blk_drew ?_ | refine blk_alloc ?_ _)); exact BK135.out)) : gb136 ≠ gb135)); clear BK135; clear HB; have BK135 := n0_; have HB := n1_; have BK136 := n2_; have GW136 := n3_; have GE136 := n4_; have NB135_136 := n5_; have NB136_135 := n6_; clear n0_ n1_ n2_ n3_ n4_ n5_ n6_; clear hb hbox hg; have hnb15 := NB135_136.out; have hnc15 := NB136_135.out; have hcz16_0 : w14.cell? ⟨gb135, 0, none⟩ = some (.int .i8 a0_0) := (blk_cell BK135.out 0).trans rfl; have hcz16_1 : w14.cell? ⟨gb135, 1, none⟩ = some (.int .i8 a0_1) := (blk_cell BK135.out 1).trans rfl; have hcz16_2 : w14.cell? ⟨gb135, 2, none⟩ = some (.slice A0_2 l0_2.length c0_2) := (blk_cell BK135.out 2).trans rfl; have hfz16_0 := blk_frozen BK135.out 0; have hfz16_1 := blk_frozen BK135.out 1; have hfz16_2 := blk_frozen BK135.out 2; have hcz17_0 : w14.cell? ⟨gb136, 0, none⟩ = some (.int .i8 a1_0) := (blk_cell BK136.out 0).trans rfl; have hcz17_1 : w14.cell? ⟨gb136, 1, none⟩ = some (.int .i8 a1_1) := (blk_cell BK136.out 1).trans rfl; have hcz17_2 : w14.cell? ⟨gb136, 2, none⟩ = some (.slice A1_2 l1_2.length c1_2) := (blk_cell BK136.out 2).trans rfl; have hfz17_0 := blk_frozen BK136.out 0; have hfz17_1 := blk_frozen BK136.out 1; have hfz17_2 := blk_frozen BK136.out 2) | ((with_reducible refine gate_callee (f := 32) rfl ?_); refine goesL_ (some 19) rfl rfl Try.func32 (by kernel_rfl) rfl #[.slice A0_2 l0_2.length c0_2, .slice A1_2 l1_2.length c1_2] rfl (by (try simp only [List.map_toArray, List.map_cons, List.map_nil]); first | done | rfl | (simp only [List.length_drop, List.length_take]; rfl)) ?_; (with_reducible refine (laws_eqPieceS.calls k _ _ l0_2 _ _ l1_2 false _ ?side1 ?side2 ?side3 ?side4 A5.out).mono ?_); (case side1 => repeat (first | exact (Kd.C_below HR0_2.out HB.out) | (with_reducible refine Kd.C_alloc ?_ _) | (with_reducible refine Kd.C_drewN ?_ _) | (with_reducible refine Kd.C_drew ?_))); (case side2 => exact HC0_2.out); (case side3 => repeat (first | exact (Kd.C_below HR1_2.out HB.out) | (with_reducible refine Kd.C_alloc ?_ _) | (with_reducible refine Kd.C_drewN ?_ _) | (with_reducible refine Kd.C_drew ?_))); (case side4 => exact HC1_2.out); rintro e w18 ⟨rfl, hb⟩; refine ⟨_, rfl, ?_⟩; have n0_ := Aside0.mk (blk_below (g := gb135) (o := .cells #[.int .i8 a0_0, .int .i8 a0_1, .slice A0_2 l0_2.length c0_2] 30 (0, 0)) (by (with_reducible repeat (first | refine blk_drewN ?_ _ | refine blk_drew ?_ | refine blk_alloc ?_ _)); exact BK135.out) hb); have n1_ := Aside0.mk (blk_below (g := gb136) (o := .cells #[.int .i8 a1_0, .int .i8 a1_1, .slice A1_2 l1_2.length c1_2] 30 (0, 0)) (by (with_reducible repeat (first | refine blk_drewN ?_ _ | refine blk_drew ?_ | refine blk_alloc ?_ _)); exact BK136.out) hb); have n2_ := Aside0.mk (below_step (by repeat (first | (with_reducible first | exact HB.out | apply below_alloc | apply pw_below_drewN | apply below_drew1 | refine below_set ?_ GE135.out | refine below_set ?_ GE136.out) | exact HB.out)) hb); clear BK135; clear BK136; clear HB; have BK135 := n0_; have BK136 := n1_; have HB := n2_; clear n0_ n1_ n2_; (try clear hb); (try clear hb2); (try clear hk); (try clear hi)))
        go_ret
        exact ⟨by first | rfl | (simp [errW_none, errW_some] <;> rfl) | (simp [*, errW_none, errW_some] <;> rfl), by repeat (first | (with_reducible first | exact HB.out | apply below_alloc | apply pw_below_drewN | apply below_drew1 | refine below_set ?_ GE135.out | refine below_set ?_ GE136.out) | exact HB.out)⟩
    · rw [if_neg c4] at H
      have c4b0 : (a0_1 == a1_1) = false := beq_eq_false_iff_ne.mpr c4
      have c4b1 : (a0_1 != a1_1) = true := bne_iff_ne.mpr c4
      obtain rfl := Option.some.inj H
      go_enter Try.func11, Try.ntmps11
      go_wp2_with (first | ((with_reducible refine gate_dst (N := 2) rfl ?_); refine box_event ?hg (N := 2) ?hd (cs := #[.int .i8 a0_0, .int .i8 a0_1, .slice A0_2 l0_2.length c0_2]) (t := 30) ?hr ?_; (case hd => rfl); (case hg => rfl); (case hr => first | (go_simp; done) | (go_simp; rfl)); intro gb135 hg w19 hbox hb; have n0_ := Aside0.mk (below_step (by repeat (first | (with_reducible first | exact HB.out | apply below_alloc | apply pw_below_drewN | apply below_drew1) | exact HB.out)) hb); have n1_ := Aside0.mk (hbox); have n2_ := Aside0.mk ((by rw [hg]; exact (below_size (by repeat (first | (with_reducible first | exact HB.out | apply below_alloc | apply pw_below_drewN | apply below_drew1) | exact HB.out))) : w.heap.size ≤ gb135)); have n3_ := Aside0.mk ((by rw [hg]; exact (below_size (by repeat (first | (with_reducible first | exact HB.out | apply below_alloc | apply pw_below_drewN | apply below_drew1) | exact HB.out))) : w.heap.size ≤ gb135)); clear HB; have HB := n0_; have BK135 := n1_; have GW135 := n2_; have GE135 := n3_; clear n0_ n1_ n2_ n3_; clear hb hbox hg) | ((with_reducible refine gate_dst (N := 3) rfl ?_); refine box_event ?hg (N := 3) ?hd (cs := #[.int .i8 a1_0, .int .i8 a1_1, .slice A1_2 l1_2.length c1_2]) (t := 30) ?hr ?_; (case hd => rfl); (case hg => rfl); (case hr => first | (go_simp; done) | (go_simp; rfl)); intro gb136 hg w20 hbox hb; have n0_ := Aside0.mk (blk_below (g := gb135) (o := .cells #[.int .i8 a0_0, .int .i8 a0_1, .slice A0_2 l0_2.length c0_2] 30 (0, 0)) (by (with_reducible repeat (first | refine blk_drewN ?_ _ | refine blk_drew ?_ | refine blk_alloc ?_ _)); exact BK135.out) hb); have n1_ := Aside0.mk (below_step (by repeat (first | (with_reducible first | exact HB.out | apply below_alloc | apply pw_below_drewN | apply below_drew1 | refine below_set ?_ GE135.out) | exact HB.out)) hb); have n2_ := Aside0.mk (hbox); have n3_ := Aside0.mk ((by rw [hg]; exact (below_size (by repeat (first | (with_reducible first | exact HB.out | apply below_alloc | apply pw_below_drewN | apply below_drew1 | refine below_set ?_ GE135.out) | exact HB.out))) : w.heap.size ≤ gb136)); have n4_ := Aside0.mk ((by rw [hg]; exact (below_size (by repeat (first | (with_reducible first | exact HB.out | apply below_alloc | apply pw_below_drewN | apply below_drew1 | refine below_set ?_ GE135.out) | exact HB.out))) : w.heap.size ≤ gb136)); have n5_ := Aside0.mk ((by rw [hg]; exact Nat.ne_of_lt (blk_lt (g := gb135) (o := .cells #[.int .i8 a0_0, .int .i8 a0_1, .slice A0_2 l0_2.length c0_2] 30 (0, 0)) (by (with_reducible repeat (first | refine blk_drewN ?_ _ | refine blk_drew ?_ | refine blk_alloc ?_ _)); exact BK135.out)) : gb135 ≠ gb136)); have n6_ := Aside0.mk ((by rw [hg]; exact Nat.ne_of_gt (blk_lt (g := gb135) (o := .cells #[.int .i8 a0_0, .int .i8 a0_1, .slice A0_2 l0_2.length c0_2] 30 (0, 0)) (by (with_reducible repeat (first | refine blk_drewN ?_ _ | refine blk_drew ?_ | refine blk_alloc ?_ _)); exact BK135.out)) : gb136 ≠ gb135)); clear BK135; clear HB; have BK135 := n0_; have HB := n1_; have BK136 := n2_; have GW136 := n3_; have GE136 := n4_; have NB135_136 := n5_; have NB136_135 := n6_; clear n0_ n1_ n2_ n3_ n4_ n5_ n6_; clear hb hbox hg; have hnb21 := NB135_136.out; have hnc21 := NB136_135.out; have hcz22_0 : w20.cell? ⟨gb135, 0, none⟩ = some (.int .i8 a0_0) := (blk_cell BK135.out 0).trans rfl; have hcz22_1 : w20.cell? ⟨gb135, 1, none⟩ = some (.int .i8 a0_1) := (blk_cell BK135.out 1).trans rfl; have hcz22_2 : w20.cell? ⟨gb135, 2, none⟩ = some (.slice A0_2 l0_2.length c0_2) := (blk_cell BK135.out 2).trans rfl; have hfz22_0 := blk_frozen BK135.out 0; have hfz22_1 := blk_frozen BK135.out 1; have hfz22_2 := blk_frozen BK135.out 2; have hcz23_0 : w20.cell? ⟨gb136, 0, none⟩ = some (.int .i8 a1_0) := (blk_cell BK136.out 0).trans rfl; have hcz23_1 : w20.cell? ⟨gb136, 1, none⟩ = some (.int .i8 a1_1) := (blk_cell BK136.out 1).trans rfl; have hcz23_2 : w20.cell? ⟨gb136, 2, none⟩ = some (.slice A1_2 l1_2.length c1_2) := (blk_cell BK136.out 2).trans rfl; have hfz23_0 := blk_frozen BK136.out 0; have hfz23_1 := blk_frozen BK136.out 1; have hfz23_2 := blk_frozen BK136.out 2))
      go_ret
      exact ⟨by first | rfl | (simp [errW_none, errW_some] <;> rfl) | (simp [*, errW_none, errW_some] <;> rfl), by repeat (first | (with_reducible first | exact HB.out | apply below_alloc | apply pw_below_drewN | apply below_drew1 | refine below_set ?_ GE135.out | refine below_set ?_ GE136.out) | exact HB.out)⟩
  · rw [if_neg c3] at H
    have c3b0 : (a0_0 == a1_0) = false := beq_eq_false_iff_ne.mpr c3
    have c3b1 : (a0_0 != a1_0) = true := bne_iff_ne.mpr c3
    obtain rfl := Option.some.inj H
    go_enter Try.func11, Try.ntmps11
    go_wp2_with (first | ((with_reducible refine gate_dst (N := 2) rfl ?_); refine box_event ?hg (N := 2) ?hd (cs := #[.int .i8 a0_0, .int .i8 a0_1, .slice A0_2 l0_2.length c0_2]) (t := 30) ?hr ?_; (case hd => rfl); (case hg => rfl); (case hr => first | (go_simp; done) | (go_simp; rfl)); intro gb135 hg w24 hbox hb; have n0_ := Aside0.mk (below_step (by repeat (first | (with_reducible first | exact HB.out | apply below_alloc | apply pw_below_drewN | apply below_drew1) | exact HB.out)) hb); have n1_ := Aside0.mk (hbox); have n2_ := Aside0.mk ((by rw [hg]; exact (below_size (by repeat (first | (with_reducible first | exact HB.out | apply below_alloc | apply pw_below_drewN | apply below_drew1) | exact HB.out))) : w.heap.size ≤ gb135)); have n3_ := Aside0.mk ((by rw [hg]; exact (below_size (by repeat (first | (with_reducible first | exact HB.out | apply below_alloc | apply pw_below_drewN | apply below_drew1) | exact HB.out))) : w.heap.size ≤ gb135)); clear HB; have HB := n0_; have BK135 := n1_; have GW135 := n2_; have GE135 := n3_; clear n0_ n1_ n2_ n3_; clear hb hbox hg) | ((with_reducible refine gate_dst (N := 3) rfl ?_); refine box_event ?hg (N := 3) ?hd (cs := #[.int .i8 a1_0, .int .i8 a1_1, .slice A1_2 l1_2.length c1_2]) (t := 30) ?hr ?_; (case hd => rfl); (case hg => rfl); (case hr => first | (go_simp; done) | (go_simp; rfl)); intro gb136 hg w25 hbox hb; have n0_ := Aside0.mk (blk_below (g := gb135) (o := .cells #[.int .i8 a0_0, .int .i8 a0_1, .slice A0_2 l0_2.length c0_2] 30 (0, 0)) (by (with_reducible repeat (first | refine blk_drewN ?_ _ | refine blk_drew ?_ | refine blk_alloc ?_ _)); exact BK135.out) hb); have n1_ := Aside0.mk (below_step (by repeat (first | (with_reducible first | exact HB.out | apply below_alloc | apply pw_below_drewN | apply below_drew1 | refine below_set ?_ GE135.out) | exact HB.out)) hb); have n2_ := Aside0.mk (hbox); have n3_ := Aside0.mk ((by rw [hg]; exact (below_size (by repeat (first | (with_reducible first | exact HB.out | apply below_alloc | apply pw_below_drewN | apply below_drew1 | refine below_set ?_ GE135.out) | exact HB.out))) : w.heap.size ≤ gb136)); have n4_ := Aside0.mk ((by rw [hg]; exact (below_size (by repeat (first | (with_reducible first | exact HB.out | apply below_alloc | apply pw_below_drewN | apply below_drew1 | refine below_set ?_ GE135.out) | exact HB.out))) : w.heap.size ≤ gb136)); have n5_ := Aside0.mk ((by rw [hg]; exact Nat.ne_of_lt (blk_lt (g := gb135) (o := .cells #[.int .i8 a0_0, .int .i8 a0_1, .slice A0_2 l0_2.length c0_2] 30 (0, 0)) (by (with_reducible repeat (first | refine blk_drewN ?_ _ | refine blk_drew ?_ | refine blk_alloc ?_ _)); exact BK135.out)) : gb135 ≠ gb136)); have n6_ := Aside0.mk ((by rw [hg]; exact Nat.ne_of_gt (blk_lt (g := gb135) (o := .cells #[.int .i8 a0_0, .int .i8 a0_1, .slice A0_2 l0_2.length c0_2] 30 (0, 0)) (by (with_reducible repeat (first | refine blk_drewN ?_ _ | refine blk_drew ?_ | refine blk_alloc ?_ _)); exact BK135.out)) : gb136 ≠ gb135)); clear BK135; clear HB; have BK135 := n0_; have HB := n1_; have BK136 := n2_; have GW136 := n3_; have GE136 := n4_; have NB135_136 := n5_; have NB136_135 := n6_; clear n0_ n1_ n2_ n3_ n4_ n5_ n6_; clear hb hbox hg; have hnb26 := NB135_136.out; have hnc26 := NB136_135.out; have hcz27_0 : w25.cell? ⟨gb135, 0, none⟩ = some (.int .i8 a0_0) := (blk_cell BK135.out 0).trans rfl; have hcz27_1 : w25.cell? ⟨gb135, 1, none⟩ = some (.int .i8 a0_1) := (blk_cell BK135.out 1).trans rfl; have hcz27_2 : w25.cell? ⟨gb135, 2, none⟩ = some (.slice A0_2 l0_2.length c0_2) := (blk_cell BK135.out 2).trans rfl; have hfz27_0 := blk_frozen BK135.out 0; have hfz27_1 := blk_frozen BK135.out 1; have hfz27_2 := blk_frozen BK135.out 2; have hcz28_0 : w25.cell? ⟨gb136, 0, none⟩ = some (.int .i8 a1_0) := (blk_cell BK136.out 0).trans rfl; have hcz28_1 : w25.cell? ⟨gb136, 1, none⟩ = some (.int .i8 a1_1) := (blk_cell BK136.out 1).trans rfl; have hcz28_2 : w25.cell? ⟨gb136, 2, none⟩ = some (.slice A1_2 l1_2.length c1_2) := (blk_cell BK136.out 2).trans rfl; have hfz28_0 := blk_frozen BK136.out 0; have hfz28_1 := blk_frozen BK136.out 1; have hfz28_2 := blk_frozen BK136.out 2))
    go_ret
    exact ⟨by first | rfl | (simp [errW_none, errW_some] <;> rfl) | (simp [*, errW_none, errW_some] <;> rfl), by repeat (first | (with_reducible first | exact HB.out | apply below_alloc | apply pw_below_drewN | apply below_drew1 | refine below_set ?_ GE135.out | refine below_set ?_ GE136.out) | exact HB.out)⟩

/-! ### laws_markPieceS: function 33 -/
mutual
def laws_markPieceS.l0 : Nat → List (S62) → Int → Int → Option (Int × (List (S62)))
  | 0, _, _, _ => none
  | k + 1, x0, x1, x5 => if x5 < (x0.length : Int) then (laws_markPieceS.l1 k x0 x1 x5 0) else (some (x1, x0))
def laws_markPieceS.l1 : Nat → List (S62) → Int → Int → Int → Option (Int × (List (S62)))
  | 0, _, _, _, _ => none
  | k + 1, x0, x1, x5, x6 => if x6 < 2 then (if 0 ≤ x5 then (if x5 < (x0.length : Int) then (if x6 = 0 then (laws_markPieceS.l1 k (x0.set (x5 : Int).toNat (⟨(⟨IntKind.i8.wrap (x1), (rd_T62 x0 x5).f0.f1⟩ : S34), (rd_T62 x0 x5).f1, (rd_T62 x0 x5).f2, (rd_T62 x0 x5).f3⟩ : S62)) (wrap64 (x1 + 1)) x5 (wrap64 (x6 + 1))) else (if x6 = 1 then (laws_markPieceS.l1 k (x0.set (x5 : Int).toNat (⟨(⟨(rd_T62 x0 x5).f0.f0, IntKind.i8.wrap (x1)⟩ : S34), (rd_T62 x0 x5).f1, (rd_T62 x0 x5).f2, (rd_T62 x0 x5).f3⟩ : S62)) (wrap64 (x1 + 1)) x5 (wrap64 (x6 + 1))) else (none))) else (none)) else (none)) else (if 0 ≤ x5 then (if x5 < (x0.length : Int) then ((some (x0.set (x5 : Int).toNat (⟨(⟨(rd_T62 x0 x5).f0.f0, (rd_T62 x0 x5).f0.f1⟩ : S34), IntKind.i8.wrap (x1), (rd_T62 x0 x5).f2, (rd_T62 x0 x5).f3⟩ : S62) : List (S62))).bind fun y140 => ((some (y140.set (x5 : Int).toNat (⟨(⟨(rd_T62 y140 x5).f0.f0, (rd_T62 y140 x5).f0.f1⟩ : S34), (rd_T62 y140 x5).f1, IntKind.i8.wrap (wrap64 (x1 + 1)), (rd_T62 y140 x5).f3⟩ : S62) : List (S62))).bind fun y141 => (laws_markPieceS.l0 k (y141.set (x5 : Int).toNat (⟨(⟨(rd_T62 y141 x5).f0.f0, (rd_T62 y141 x5).f0.f1⟩ : S34), (rd_T62 y141 x5).f1, (rd_T62 y141 x5).f2, IntKind.i8.wrap (wrap64 ((wrap64 (x1 + 1)) + 1))⟩ : S62)) (wrap64 ((wrap64 ((wrap64 (x1 + 1)) + 1)) + 1)) (wrap64 (x5 + 1))))) else (none)) else (none))
end
def laws_markPieceS.f (k : Nat) (l0 : List (S62)) (a1 : Int) : Option (Int × (List (S62))) := laws_markPieceS.l0 k l0 a1 0
theorem laws_markPieceS.mono_l : ∀ k, (∀ y0 y1 y2, LeO (laws_markPieceS.l0 k y0 y1 y2) (laws_markPieceS.l0 (k + 1) y0 y1 y2)) ∧ (∀ y0 y1 y2 y3, LeO (laws_markPieceS.l1 k y0 y1 y2 y3) (laws_markPieceS.l1 (k + 1) y0 y1 y2 y3))
  | 0 => ⟨fun _ _ _ r h => by simp [laws_markPieceS.l0] at h, fun _ _ _ _ r h => by simp [laws_markPieceS.l1] at h⟩
  | k + 1 => by
    obtain ⟨ih0, ih1⟩ := laws_markPieceS.mono_l k
    refine ⟨?_, ?_⟩
    · intro y0 y1 y2
      unfold laws_markPieceS.l0
      repeat' first
      | (with_reducible exact ih0 _ _ _)
      | (with_reducible exact ih1 _ _ _ _)
      | (with_reducible exact LeO.refl _)
      | (with_reducible exact LeO.none _)
      | (with_reducible refine LeO.ite ?_ ?_)
      | (with_reducible refine LeO.bind ?_ (fun _ => ?_))
      | exact ih0 _ _ _
      | exact ih1 _ _ _ _
      | exact LeO.none _
      | refine LeO.ite ?_ ?_
      | refine LeO.bind ?_ (fun _ => ?_)
    · intro y0 y1 y2 y3
      unfold laws_markPieceS.l1
      repeat' first
      | (with_reducible exact ih0 _ _ _)
      | (with_reducible exact ih1 _ _ _ _)
      | (with_reducible exact LeO.refl _)
      | (with_reducible exact LeO.none _)
      | (with_reducible refine LeO.ite ?_ ?_)
      | (with_reducible refine LeO.bind ?_ (fun _ => ?_))
      | exact ih0 _ _ _
      | exact ih1 _ _ _ _
      | exact LeO.none _
      | refine LeO.ite ?_ ?_
      | refine LeO.bind ?_ (fun _ => ?_)
theorem laws_markPieceS.mono : ∀ a0 a1 k, LeO (laws_markPieceS.f k a0 a1) (laws_markPieceS.f (k + 1) a0 a1) := by
  intro a0 a1 k
  obtain ⟨ih0, ih1⟩ := laws_markPieceS.mono_l k
  unfold laws_markPieceS.f
  repeat' first
      | (with_reducible exact ih0 _ _ _)
      | (with_reducible exact ih1 _ _ _ _)
      | (with_reducible exact LeO.refl _)
      | (with_reducible exact LeO.none _)
      | (with_reducible refine LeO.ite ?_ ?_)
      | (with_reducible refine LeO.bind ?_ (fun _ => ?_))
      | exact ih0 _ _ _
      | exact ih1 _ _ _ _
      | exact LeO.none _
      | refine LeO.ite ?_ ?_
      | refine LeO.bind ?_ (fun _ => ?_)
set_option maxHeartbeats 8000000 in
set_option maxRecDepth 100000 in
theorem laws_markPieceS.calls (k : Nat) (P0_ : Nat → Prop) (u9000_ : Value) (l0 : List (S62)) (a1 : Int) (r1 : Int) (r2 : List (S62)) (w0 w : World) (hB : Below w0.heap.size w0 w) (ho0 : Kd.R k62 62 w w0.heap.size P0_ u9000_ l0) (h : laws_markPieceS.f k l0 a1 = some (r1, r2)) :
    Calls Try.prog 33 #[u9000_, .int .i64 a1] w fun e w' => e = .returned (.int .i64 r1) ∧ Kd.R k62 62 w' w0.heap.size (fun k_ => (P0_ k_ ∨ w.heap.size ≤ k_)) u9000_ r2 ∧ Below w0.heap.size w0 w' ∧ Kept w w' (fun k_ => P0_ k_) := by
  have HO0 := Aside0.mk (show Kd.R k62 62 w w0.heap.size (fun k_ => (P0_ k_ ∨ w.heap.size ≤ k_)) u9000_ l0 from Kd.R_mono ho0 (fun k_ hk => (.inl hk)))
  have HK := Aside0.mk (Kept.refl w (fun k_ => P0_ k_))
  have HW0 := Aside0.mk hB.size
  have HB := Aside0.mk hB
  clear hB
  have H : (laws_markPieceS.l0 k l0 a1 0) = some (r1, r2) := h
  clear h
  have H' := Aside0.mk H
  clear H
  go_enter Try.func33, Try.ntmps33
  go_wp2
  go_loopg [1, 5] k (fun kq v1 v5 w' => ∃ (x0_1 : List (S62)) (x1_1 : Int) (x5_1 : Int), v1 = .int .i64 x1_1 ∧ v5 = .int .i64 x5_1 ∧ Aside0 (laws_markPieceS.l0 kq x0_1 x1_1 x5_1 = some (r1, r2)) ∧ Aside0 (kq ≤ k) ∧ Aside0 (Kd.R k62 62 w' w0.heap.size (fun k_ => (P0_ k_ ∨ w.heap.size ≤ k_)) u9000_ x0_1) ∧ Aside0 (Kept w w' (fun k_ => P0_ k_)) ∧ Aside0 (Below w0.heap.size w0 w'))
  case atStart => exact ⟨(l0), (a1), (0), (by first | rfl | (simp; done) | (simp [*]; done) | (exact congrArg (Value.int .i64) (wrap_eq (by omega)))), (by first | rfl | (simp; done) | (simp [*]; done) | (exact congrArg (Value.int .i64) (wrap_eq (by omega)))), H', ⟨Nat.le_refl _⟩, ⟨by (with_reducible repeat (first | apply Kd.R_alloc | apply Kd.R_drewN | apply Kd.R_drew)); exact HO0.out⟩, ⟨by repeat (first | (with_reducible first | exact HK.out | apply Kept.alloc | apply Kept.drewN | apply Kept.drew) | exact HK.out)⟩, ⟨by repeat (first | (with_reducible first | exact HB.out | apply below_alloc | apply pw_below_drewN | apply below_drew1) | exact HB.out)⟩⟩
  case round =>
    clear H'
    try clear p2
    obtain ⟨x0_1, x1_1, x5_1, rfl, rfl, HA, HK1, HO_0, HK, HB⟩ := hrel
    cases gk with
    | zero => exact absurd HA.out (by simp [laws_markPieceS.l0])
    | succ k1 =>
      have H := HA.out
      clear HA
      simp only [laws_markPieceS.l0] at H
      by_cases c3 : x5_1 < (x0_1.length : Int)
      · rw [if_pos c3] at H
        have c3b0 : decide (x5_1 < (x0_1.length : Int)) = true := decide_eq_true c3
        clear c3
        have H' := Aside0.mk H
        clear H
        obtain ⟨Ao4, co4, eo4⟩ := Kd.R_slice HO_0.out
        subst eo4
        go_wp2
        go_loopg [1, 6] k1 (fun kq v1 v6 w' => ∃ (x0_2 : List (S62)) (x1_2 : Int) (x6_2 : Int), v1 = .int .i64 x1_2 ∧ v6 = .int .i64 x6_2 ∧ Aside0 (laws_markPieceS.l1 kq x0_2 x1_2 x5_1 x6_2 = some (r1, r2)) ∧ Aside0 (kq ≤ k1) ∧ Aside0 (Kd.R k62 62 w' w0.heap.size (fun k_ => (P0_ k_ ∨ w.heap.size ≤ k_)) (.slice Ao4 x0_1.length co4) x0_2) ∧ Aside0 (Kept w w' (fun k_ => P0_ k_)) ∧ Aside0 (Below w0.heap.size w0 w'))
        case atStart => exact ⟨(x0_1), (x1_1), (0), (by first | rfl | (simp; done) | (simp [*]; done) | (exact congrArg (Value.int .i64) (wrap_eq (by omega)))), (by first | rfl | (simp; done) | (simp [*]; done) | (exact congrArg (Value.int .i64) (wrap_eq (by omega)))), H', ⟨Nat.le_refl _⟩, ⟨by (with_reducible repeat (first | apply Kd.R_alloc | apply Kd.R_drewN | apply Kd.R_drew)); exact HO_0.out⟩, ⟨by repeat (first | (with_reducible first | exact HK.out | apply Kept.alloc | apply Kept.drewN | apply Kept.drew) | exact HK.out)⟩, ⟨by repeat (first | (with_reducible first | exact HB.out | apply below_alloc | apply pw_below_drewN | apply below_drew1) | exact HB.out)⟩⟩
        case round =>
          clear H'
          try clear p2
          try clear c3
          try clear c3b0
          try clear p2
          obtain ⟨x0_2, x1_2, x6_2, rfl, rfl, HA, HK2, HO_0, HK, HB⟩ := hrel
          have hl0_2 := (Kd.R_reads' HO_0.out).1
          rw [hl0_2] at HO_0
          (try simp only [hl0_2])
          cases gk with
          | zero => exact absurd HA.out (by simp [laws_markPieceS.l1])
          | succ k2 =>
            have H := HA.out
            clear HA
            simp only [laws_markPieceS.l1] at H
            by_cases c5 : x6_2 < 2
            · rw [if_pos c5] at H
              have c5b0 : decide (x6_2 < 2) = true := decide_eq_true c5
              clear c5
              by_cases c6 : 0 ≤ x5_1
              · rw [if_pos c6] at H
                have c6b0 : decide (0 ≤ x5_1) = true := decide_eq_true c6
                clear c6
                by_cases c7 : x5_1 < (x0_2.length : Int)
                · rw [if_pos c7] at H
                  have c7b0 : decide (x5_1 < (x0_2.length : Int)) = true := decide_eq_true c7
                  clear c7
                  by_cases c9 : x6_2 = 0
                  · rw [if_pos c9] at H
                    have Ac9 : Aside0 (x6_2 = 0) := ⟨c9⟩
                    clear c9
                    have ar10e : x6_2 = 0 := by first | exact (show Aside0 (x6_2 = 0) by assumption).out | exact beq_iff_eq.mp (by assumption) | omega
                    have ar10n : (x6_2).toNat = 0 := by rw [ar10e]; rfl
                    have ar10l : decide (0 ≤ x6_2) = true := decide_eq_true (by omega)
                    have ar10L := eq_true (of_decide_eq_true ar10l)
                    have ar10h : decide (x6_2 < 2) = true := decide_eq_true (by omega)
                    have ar10H := eq_true (of_decide_eq_true ar10h)
                    clear ar10e
                    obtain ⟨y138, hy138⟩ : ∃ y_ : List (S62), y_ = (x0_2.set (x5_1 : Int).toNat (⟨(⟨IntKind.i8.wrap (x1_2), (rd_T62 x0_2 x5_1).f0.f1⟩ : S34), (rd_T62 x0_2 x5_1).f1, (rd_T62 x0_2 x5_1).f2, (rd_T62 x0_2 x5_1).f3⟩ : S62)) := ⟨_, rfl⟩
                    replace H : (laws_markPieceS.l1 k2 y138 (wrap64 (x1_2 + 1)) x5_1 (wrap64 (x6_2 + 1))) = some (r1, r2) := by first | (rw [hy138]; with_reducible exact H) | (have H2_ := (Option.bind_some _ _).symm.trans H; rw [hy138]; with_reducible exact H2_) | (have H2_ := (Option.bind_some _ _).symm.trans H; with_reducible exact H2_) | with_reducible exact H | (rw [hy138]; exact H) | exact H
                    have Ny138 := Aside0.mk hy138
                    clear hy138
                    have H' := Aside0.mk H
                    clear H
                    have p8 : 0 ≤ (x5_1 : Int) := of_decide_eq_true (by first | (with_reducible assumption) | assumption)
                    have q8 : (x5_1 : Int) < ((x0_2.length : Int) : Int) := of_decide_eq_true (by first | (with_reducible assumption) | assumption)
                    obtain ⟨go8, co8, eo8, gb8, gl8, cl8, HG8⟩ := Kd.R_form HO_0.out (by omega)
                    (first | cases eo8 | (injection eo8 with ea_ en_ ec_; (first | subst ea_ | (injection ea_ with ea_; subst ea_)); subst ec_; clear en_))
                    have GB8 := Aside0.mk gb8
                    have GG8 := Aside0.mk HG8
                    clear gb8 gl8 HG8
                    have HMgo8 := Aside0.mk (show (P0_ go8 ∨ w.heap.size ≤ go8) from (HO_0.out.1 _ rfl))
                    obtain ⟨ce8, hcl8, hM8, hcc8, hfr8⟩ := Kd.R_elem HO_0.out z62 (x5_1 : Int) p8 q8
                    obtain rfl := k62_openM hM8
                    have hx8_0 : wr.cell? ⟨go8, (x5_1 : Int).toNat * 5, none⟩ = some (.int .i8 ((rd_T62 x0_2 x5_1).f0.f0)) := hcc8 0 _ rfl
                    have hx8_1 : wr.cell? ⟨go8, (x5_1 : Int).toNat * 5 + 1, none⟩ = some (.int .i8 ((rd_T62 x0_2 x5_1).f0.f1)) := hcc8 1 _ rfl
                    have hx8_2 : wr.cell? ⟨go8, (x5_1 : Int).toNat * 5 + 2, none⟩ = some (.int .i8 ((rd_T62 x0_2 x5_1).f1)) := hcc8 2 _ rfl
                    have hx8_3 : wr.cell? ⟨go8, (x5_1 : Int).toNat * 5 + 3, none⟩ = some (.int .i8 ((rd_T62 x0_2 x5_1).f2)) := hcc8 3 _ rfl
                    have hx8_4 : wr.cell? ⟨go8, (x5_1 : Int).toNat * 5 + 4, none⟩ = some (.int .i8 ((rd_T62 x0_2 x5_1).f3)) := hcc8 4 _ rfl
                    have hf8_0 : wr.frozen? ⟨go8, (x5_1 : Int).toNat * 5, none⟩ = false := hfr8 0
                    have hf8_1 : wr.frozen? ⟨go8, (x5_1 : Int).toNat * 5 + 1, none⟩ = false := hfr8 1
                    have hf8_2 : wr.frozen? ⟨go8, (x5_1 : Int).toNat * 5 + 2, none⟩ = false := hfr8 2
                    have hf8_3 : wr.frozen? ⟨go8, (x5_1 : Int).toNat * 5 + 3, none⟩ = false := hfr8 3
                    have hf8_4 : wr.frozen? ⟨go8, (x5_1 : Int).toNat * 5 + 4, none⟩ = false := hfr8 4
                    clear hcl8 hcc8 hfr8 hM8
                    replace p8 := eq_true p8
                    replace q8 := eq_true q8
                    have HX11 := Aside0.mk (show Kd.R k62 62 wr w0.heap.size (fun k_ => (P0_ k_ ∨ w.heap.size ≤ k_)) (.slice (some ⟨go8, 0, none⟩) x0_2.length co4) x0_2 from (by (with_reducible repeat (first | apply Kd.R_alloc | apply Kd.R_drewN | apply Kd.R_drew)); exact HO_0.out))
                    obtain ⟨ce11, hcl11, hM11, hcc11, hfr11⟩ := Kd.R_elem HX11.out z62 (x5_1 : Int) (of_decide_eq_true (by first | (with_reducible assumption) | assumption)) (by have h_ : (x5_1 : Int) < ((x0_2.length : Int) : Int) := of_decide_eq_true (by first | (with_reducible assumption) | assumption); first | exact h_ | (have e_ := (Kd.R_reads' HO_0.out).1; omega) | simpa using h_)
                    obtain rfl := k62_openM hM11
                    have HP11 := Kd.R_seg HX11.out (x5_1 : Int) (of_decide_eq_true (by first | (with_reducible assumption) | assumption)) (by have h_ : (x5_1 : Int) < ((x0_2.length : Int) : Int) := of_decide_eq_true (by first | (with_reducible assumption) | assumption); first | exact h_ | (have e_ := (Kd.R_reads' HO_0.out).1; omega) | simpa using h_) (seg := [.int .i8 (IntKind.i8.wrap (x1_2))]) (j := 0) hcl11 hcc11 (show 1 ≤ 5 from by decide) (x' := (⟨(⟨IntKind.i8.wrap (x1_2), (rd_T62 x0_2 x5_1).f0.f1⟩ : S34), (rd_T62 x0_2 x5_1).f1, (rd_T62 x0_2 x5_1).f2, (rd_T62 x0_2 x5_1).f3⟩ : S62)) (k62_mkM _ _ _ (⟨(⟨IntKind.i8.wrap (x1_2), (rd_T62 x0_2 x5_1).f0.f1⟩ : S34), (rd_T62 x0_2 x5_1).f1, (rd_T62 x0_2 x5_1).f2, (rd_T62 x0_2 x5_1).f3⟩ : S62) ) (fun _ hk => hk)
                    have hx11_0 := hcc11 0 _ rfl
                    (try simp only [show (k62).sz = 5 from rfl, Nat.mul_one, Nat.add_zero] at hx11_0)
                    have hf11_0 := hfr11 0
                    (try simp only [show (k62).sz = 5 from rfl, Nat.mul_one, Nat.add_zero] at hf11_0)
                    clear hcl11 hcc11 hfr11 hM11
                    go_wp2_with (first | ((with_reducible refine gate_store (t := 22) (p := 24) rfl ?_); refine store_event (t := 22) (p := 24) (v := ?vo_w12) (w1 := (wr.setCell ⟨go8, (x5_1 : Int).toNat * 5, none⟩ (.int .i8 (IntKind.i8.wrap (x1_2))))) ?hg ?ho ?hn ?hr ?_; (case ho => rfl); (case hg => rfl); (case hn => rfl); (case hr => first | (go_simp; done) | (go_simp; rfl)); intro w12 hw; have hg : wr.grownBy w12 (some go8) := (by rw [hw]; exact HP11.2); have hp_ : Kd.R k62 62 w12 w0.heap.size (fun k_ => (P0_ k_ ∨ w.heap.size ≤ k_)) (.slice (some ⟨go8, 0, none⟩) x0_2.length co4) y138 := (by rw [hw, Ny138.out]; exact HP11.1); clear HP11; have n0_ := Aside0.mk (hp_); have n1_ := Aside0.mk ((by rw [hw]; exact below_set (HB.out) GB8.out : Below w0.heap.size w0 w12)); have n2_ := Aside0.mk (Kept.of_grown (S := (fun k_ => P0_ k_)) hg (by repeat (first | (with_reducible first | exact HK.out | apply Kept.alloc | apply Kept.drewN | apply Kept.drew) | exact HK.out)) (fun k_ e_ => (HO_0.out.1 k_ e_))); clear HO_0; clear HB; clear HK; have HO_0 := n0_; have HB := n1_; have HK := n2_; clear n0_ n1_ n2_; clear hg hw hp_))
                    (try simp only [← hl0_2])
                    go_roundg k2
                    case measure => have := HK1.out; have := HK2.out; omega
                    case rel => exact ⟨(y138), (wrap64 (x1_2 + 1)), (wrap64 (x6_2 + 1)), (by first | rfl | (simp; done) | (simp [*]; done) | (exact congrArg (Value.int .i64) (wrap_eq (by omega)))), (by first | rfl | (simp; done) | (simp [*]; done) | (exact congrArg (Value.int .i64) (wrap_eq (by omega)))), H', ⟨by have := HK1.out; have := HK2.out; omega⟩, ⟨by (try simp only [hl0_2]); (with_reducible repeat (first | apply Kd.R_alloc | apply Kd.R_drewN | apply Kd.R_drew)); exact HO_0.out⟩, ⟨by repeat (first | (with_reducible first | exact HK.out | apply Kept.alloc | apply Kept.drewN | apply Kept.drew) | exact HK.out)⟩, ⟨by repeat (first | (with_reducible first | exact HB.out | apply below_alloc | apply pw_below_drewN | apply below_drew1) | exact HB.out)⟩⟩
                  · rw [if_neg c9] at H
                    clear c9
                    by_cases c13 : x6_2 = 1
                    · rw [if_pos c13] at H
                      have Ac13 : Aside0 (x6_2 = 1) := ⟨c13⟩
                      clear c13
                      have ar14e : x6_2 = 1 := by first | exact (show Aside0 (x6_2 = 1) by assumption).out | exact beq_iff_eq.mp (by assumption) | omega
                      have ar14n : (x6_2).toNat = 1 := by rw [ar14e]; rfl
                      have ar14l : decide (0 ≤ x6_2) = true := decide_eq_true (by omega)
                      have ar14L := eq_true (of_decide_eq_true ar14l)
                      have ar14h : decide (x6_2 < 2) = true := decide_eq_true (by omega)
                      have ar14H := eq_true (of_decide_eq_true ar14h)
                      clear ar14e
                      obtain ⟨y139, hy139⟩ : ∃ y_ : List (S62), y_ = (x0_2.set (x5_1 : Int).toNat (⟨(⟨(rd_T62 x0_2 x5_1).f0.f0, IntKind.i8.wrap (x1_2)⟩ : S34), (rd_T62 x0_2 x5_1).f1, (rd_T62 x0_2 x5_1).f2, (rd_T62 x0_2 x5_1).f3⟩ : S62)) := ⟨_, rfl⟩
                      replace H : (laws_markPieceS.l1 k2 y139 (wrap64 (x1_2 + 1)) x5_1 (wrap64 (x6_2 + 1))) = some (r1, r2) := by first | (rw [hy139]; with_reducible exact H) | (have H2_ := (Option.bind_some _ _).symm.trans H; rw [hy139]; with_reducible exact H2_) | (have H2_ := (Option.bind_some _ _).symm.trans H; with_reducible exact H2_) | with_reducible exact H | (rw [hy139]; exact H) | exact H
                      have Ny139 := Aside0.mk hy139
                      clear hy139
                      have H' := Aside0.mk H
                      clear H
                      have p8 : 0 ≤ (x5_1 : Int) := of_decide_eq_true (by first | (with_reducible assumption) | assumption)
                      have q8 : (x5_1 : Int) < ((x0_2.length : Int) : Int) := of_decide_eq_true (by first | (with_reducible assumption) | assumption)
                      obtain ⟨go8, co8, eo8, gb8, gl8, cl8, HG8⟩ := Kd.R_form HO_0.out (by omega)
                      (first | cases eo8 | (injection eo8 with ea_ en_ ec_; (first | subst ea_ | (injection ea_ with ea_; subst ea_)); subst ec_; clear en_))
                      have GB8 := Aside0.mk gb8
                      have GG8 := Aside0.mk HG8
                      clear gb8 gl8 HG8
                      have HMgo8 := Aside0.mk (show (P0_ go8 ∨ w.heap.size ≤ go8) from (HO_0.out.1 _ rfl))
                      obtain ⟨ce8, hcl8, hM8, hcc8, hfr8⟩ := Kd.R_elem HO_0.out z62 (x5_1 : Int) p8 q8
                      obtain rfl := k62_openM hM8
                      have hx8_0 : wr.cell? ⟨go8, (x5_1 : Int).toNat * 5, none⟩ = some (.int .i8 ((rd_T62 x0_2 x5_1).f0.f0)) := hcc8 0 _ rfl
                      have hx8_1 : wr.cell? ⟨go8, (x5_1 : Int).toNat * 5 + 1, none⟩ = some (.int .i8 ((rd_T62 x0_2 x5_1).f0.f1)) := hcc8 1 _ rfl
                      have hx8_2 : wr.cell? ⟨go8, (x5_1 : Int).toNat * 5 + 2, none⟩ = some (.int .i8 ((rd_T62 x0_2 x5_1).f1)) := hcc8 2 _ rfl
                      have hx8_3 : wr.cell? ⟨go8, (x5_1 : Int).toNat * 5 + 3, none⟩ = some (.int .i8 ((rd_T62 x0_2 x5_1).f2)) := hcc8 3 _ rfl
                      have hx8_4 : wr.cell? ⟨go8, (x5_1 : Int).toNat * 5 + 4, none⟩ = some (.int .i8 ((rd_T62 x0_2 x5_1).f3)) := hcc8 4 _ rfl
                      have hf8_0 : wr.frozen? ⟨go8, (x5_1 : Int).toNat * 5, none⟩ = false := hfr8 0
                      have hf8_1 : wr.frozen? ⟨go8, (x5_1 : Int).toNat * 5 + 1, none⟩ = false := hfr8 1
                      have hf8_2 : wr.frozen? ⟨go8, (x5_1 : Int).toNat * 5 + 2, none⟩ = false := hfr8 2
                      have hf8_3 : wr.frozen? ⟨go8, (x5_1 : Int).toNat * 5 + 3, none⟩ = false := hfr8 3
                      have hf8_4 : wr.frozen? ⟨go8, (x5_1 : Int).toNat * 5 + 4, none⟩ = false := hfr8 4
                      clear hcl8 hcc8 hfr8 hM8
                      replace p8 := eq_true p8
                      replace q8 := eq_true q8
                      have HX15 := Aside0.mk (show Kd.R k62 62 wr w0.heap.size (fun k_ => (P0_ k_ ∨ w.heap.size ≤ k_)) (.slice (some ⟨go8, 0, none⟩) x0_2.length co4) x0_2 from (by (with_reducible repeat (first | apply Kd.R_alloc | apply Kd.R_drewN | apply Kd.R_drew)); exact HO_0.out))
                      obtain ⟨ce15, hcl15, hM15, hcc15, hfr15⟩ := Kd.R_elem HX15.out z62 (x5_1 : Int) (of_decide_eq_true (by first | (with_reducible assumption) | assumption)) (by have h_ : (x5_1 : Int) < ((x0_2.length : Int) : Int) := of_decide_eq_true (by first | (with_reducible assumption) | assumption); first | exact h_ | (have e_ := (Kd.R_reads' HO_0.out).1; omega) | simpa using h_)
                      obtain rfl := k62_openM hM15
                      have HP15 := Kd.R_seg HX15.out (x5_1 : Int) (of_decide_eq_true (by first | (with_reducible assumption) | assumption)) (by have h_ : (x5_1 : Int) < ((x0_2.length : Int) : Int) := of_decide_eq_true (by first | (with_reducible assumption) | assumption); first | exact h_ | (have e_ := (Kd.R_reads' HO_0.out).1; omega) | simpa using h_) (seg := [.int .i8 (IntKind.i8.wrap (x1_2))]) (j := 1) hcl15 hcc15 (show 2 ≤ 5 from by decide) (x' := (⟨(⟨(rd_T62 x0_2 x5_1).f0.f0, IntKind.i8.wrap (x1_2)⟩ : S34), (rd_T62 x0_2 x5_1).f1, (rd_T62 x0_2 x5_1).f2, (rd_T62 x0_2 x5_1).f3⟩ : S62)) (k62_mkM _ _ _ (⟨(⟨(rd_T62 x0_2 x5_1).f0.f0, IntKind.i8.wrap (x1_2)⟩ : S34), (rd_T62 x0_2 x5_1).f1, (rd_T62 x0_2 x5_1).f2, (rd_T62 x0_2 x5_1).f3⟩ : S62) ) (fun _ hk => hk)
                      have hx15_1 := hcc15 1 _ rfl
                      (try simp only [show (k62).sz = 5 from rfl, Nat.mul_one, Nat.add_zero] at hx15_1)
                      have hf15_1 := hfr15 1
                      (try simp only [show (k62).sz = 5 from rfl, Nat.mul_one, Nat.add_zero] at hf15_1)
                      clear hcl15 hcc15 hfr15 hM15
                      go_wp2_with (first | ((with_reducible refine gate_store (t := 22) (p := 24) rfl ?_); refine store_event (t := 22) (p := 24) (v := ?vo_w16) (w1 := (wr.setCell ⟨go8, (x5_1 : Int).toNat * 5 + 1, none⟩ (.int .i8 (IntKind.i8.wrap (x1_2))))) ?hg ?ho ?hn ?hr ?_; (case ho => rfl); (case hg => rfl); (case hn => rfl); (case hr => first | (go_simp; done) | (go_simp; rfl)); intro w16 hw; have hg : wr.grownBy w16 (some go8) := (by rw [hw]; exact HP15.2); have hp_ : Kd.R k62 62 w16 w0.heap.size (fun k_ => (P0_ k_ ∨ w.heap.size ≤ k_)) (.slice (some ⟨go8, 0, none⟩) x0_2.length co4) y139 := (by rw [hw, Ny139.out]; exact HP15.1); clear HP15; have n0_ := Aside0.mk (hp_); have n1_ := Aside0.mk ((by rw [hw]; exact below_set (HB.out) GB8.out : Below w0.heap.size w0 w16)); have n2_ := Aside0.mk (Kept.of_grown (S := (fun k_ => P0_ k_)) hg (by repeat (first | (with_reducible first | exact HK.out | apply Kept.alloc | apply Kept.drewN | apply Kept.drew) | exact HK.out)) (fun k_ e_ => (HO_0.out.1 k_ e_))); clear HO_0; clear HB; clear HK; have HO_0 := n0_; have HB := n1_; have HK := n2_; clear n0_ n1_ n2_; clear hg hw hp_))
                      (try simp only [← hl0_2])
                      go_roundg k2
                      case measure => have := HK1.out; have := HK2.out; omega
                      case rel => exact ⟨(y139), (wrap64 (x1_2 + 1)), (wrap64 (x6_2 + 1)), (by first | rfl | (simp; done) | (simp [*]; done) | (exact congrArg (Value.int .i64) (wrap_eq (by omega)))), (by first | rfl | (simp; done) | (simp [*]; done) | (exact congrArg (Value.int .i64) (wrap_eq (by omega)))), H', ⟨by have := HK1.out; have := HK2.out; omega⟩, ⟨by (try simp only [hl0_2]); (with_reducible repeat (first | apply Kd.R_alloc | apply Kd.R_drewN | apply Kd.R_drew)); exact HO_0.out⟩, ⟨by repeat (first | (with_reducible first | exact HK.out | apply Kept.alloc | apply Kept.drewN | apply Kept.drew) | exact HK.out)⟩, ⟨by repeat (first | (with_reducible first | exact HB.out | apply below_alloc | apply pw_below_drewN | apply below_drew1) | exact HB.out)⟩⟩
                    · rw [if_neg c13] at H
                      exact absurd H (by simp)
                · rw [if_neg c7] at H
                  exact absurd H (by simp)
              · rw [if_neg c6] at H
                exact absurd H (by simp)
            · rw [if_neg c5] at H
              have c5b0 : decide (x6_2 < 2) = false := decide_eq_false c5
              clear c5
              by_cases c17 : 0 ≤ x5_1
              · rw [if_pos c17] at H
                have c17b0 : decide (0 ≤ x5_1) = true := decide_eq_true c17
                clear c17
                by_cases c18 : x5_1 < (x0_2.length : Int)
                · rw [if_pos c18] at H
                  have c18b0 : decide (x5_1 < (x0_2.length : Int)) = true := decide_eq_true c18
                  clear c18
                  obtain ⟨y140, hy140⟩ : ∃ y_ : List (S62), y_ = (x0_2.set (x5_1 : Int).toNat (⟨(⟨(rd_T62 x0_2 x5_1).f0.f0, (rd_T62 x0_2 x5_1).f0.f1⟩ : S34), IntKind.i8.wrap (x1_2), (rd_T62 x0_2 x5_1).f2, (rd_T62 x0_2 x5_1).f3⟩ : S62)) := ⟨_, rfl⟩
                  replace H : ((some (y140.set (x5_1 : Int).toNat (⟨(⟨(rd_T62 y140 x5_1).f0.f0, (rd_T62 y140 x5_1).f0.f1⟩ : S34), (rd_T62 y140 x5_1).f1, IntKind.i8.wrap (wrap64 (x1_2 + 1)), (rd_T62 y140 x5_1).f3⟩ : S62) : List (S62))).bind fun y141 => (laws_markPieceS.l0 k2 (y141.set (x5_1 : Int).toNat (⟨(⟨(rd_T62 y141 x5_1).f0.f0, (rd_T62 y141 x5_1).f0.f1⟩ : S34), (rd_T62 y141 x5_1).f1, (rd_T62 y141 x5_1).f2, IntKind.i8.wrap (wrap64 ((wrap64 (x1_2 + 1)) + 1))⟩ : S62)) (wrap64 ((wrap64 ((wrap64 (x1_2 + 1)) + 1)) + 1)) (wrap64 (x5_1 + 1)))) = some (r1, r2) := by first | (rw [hy140]; with_reducible exact H) | (have H2_ := (Option.bind_some _ _).symm.trans H; rw [hy140]; with_reducible exact H2_) | (have H2_ := (Option.bind_some _ _).symm.trans H; with_reducible exact H2_) | with_reducible exact H | (rw [hy140]; exact H) | exact H
                  have Ny140 := Aside0.mk hy140
                  clear hy140
                  obtain ⟨y141, hy141⟩ : ∃ y_ : List (S62), y_ = (y140.set (x5_1 : Int).toNat (⟨(⟨(rd_T62 y140 x5_1).f0.f0, (rd_T62 y140 x5_1).f0.f1⟩ : S34), (rd_T62 y140 x5_1).f1, IntKind.i8.wrap (wrap64 (x1_2 + 1)), (rd_T62 y140 x5_1).f3⟩ : S62)) := ⟨_, rfl⟩
                  replace H : (laws_markPieceS.l0 k2 (y141.set (x5_1 : Int).toNat (⟨(⟨(rd_T62 y141 x5_1).f0.f0, (rd_T62 y141 x5_1).f0.f1⟩ : S34), (rd_T62 y141 x5_1).f1, (rd_T62 y141 x5_1).f2, IntKind.i8.wrap (wrap64 ((wrap64 (x1_2 + 1)) + 1))⟩ : S62)) (wrap64 ((wrap64 ((wrap64 (x1_2 + 1)) + 1)) + 1)) (wrap64 (x5_1 + 1))) = some (r1, r2) := by first | (rw [hy141]; with_reducible exact H) | (have H2_ := (Option.bind_some _ _).symm.trans H; rw [hy141]; with_reducible exact H2_) | (have H2_ := (Option.bind_some _ _).symm.trans H; with_reducible exact H2_) | with_reducible exact H | (rw [hy141]; exact H) | exact H
                  have Ny141 := Aside0.mk hy141
                  clear hy141
                  obtain ⟨y142, hy142⟩ : ∃ y_ : List (S62), y_ = (y141.set (x5_1 : Int).toNat (⟨(⟨(rd_T62 y141 x5_1).f0.f0, (rd_T62 y141 x5_1).f0.f1⟩ : S34), (rd_T62 y141 x5_1).f1, (rd_T62 y141 x5_1).f2, IntKind.i8.wrap (wrap64 ((wrap64 (x1_2 + 1)) + 1))⟩ : S62)) := ⟨_, rfl⟩
                  replace H : (laws_markPieceS.l0 k2 y142 (wrap64 ((wrap64 ((wrap64 (x1_2 + 1)) + 1)) + 1)) (wrap64 (x5_1 + 1))) = some (r1, r2) := by first | (rw [hy142]; with_reducible exact H) | (have H2_ := (Option.bind_some _ _).symm.trans H; rw [hy142]; with_reducible exact H2_) | (have H2_ := (Option.bind_some _ _).symm.trans H; with_reducible exact H2_) | with_reducible exact H | (rw [hy142]; exact H) | exact H
                  have Ny142 := Aside0.mk hy142
                  clear hy142
                  have H' := Aside0.mk H
                  clear H
                  have p19 : 0 ≤ (x5_1 : Int) := of_decide_eq_true (by first | (with_reducible assumption) | assumption)
                  have q19 : (x5_1 : Int) < ((x0_2.length : Int) : Int) := of_decide_eq_true (by first | (with_reducible assumption) | assumption)
                  obtain ⟨go19, co19, eo19, gb19, gl19, cl19, HG19⟩ := Kd.R_form HO_0.out (by omega)
                  (first | cases eo19 | (injection eo19 with ea_ en_ ec_; (first | subst ea_ | (injection ea_ with ea_; subst ea_)); subst ec_; clear en_))
                  have GB19 := Aside0.mk gb19
                  have GG19 := Aside0.mk HG19
                  clear gb19 gl19 HG19
                  have HMgo19 := Aside0.mk (show (P0_ go19 ∨ w.heap.size ≤ go19) from (HO_0.out.1 _ rfl))
                  obtain ⟨ce19, hcl19, hM19, hcc19, hfr19⟩ := Kd.R_elem HO_0.out z62 (x5_1 : Int) p19 q19
                  obtain rfl := k62_openM hM19
                  have hx19_0 : wr.cell? ⟨go19, (x5_1 : Int).toNat * 5, none⟩ = some (.int .i8 ((rd_T62 x0_2 x5_1).f0.f0)) := hcc19 0 _ rfl
                  have hx19_1 : wr.cell? ⟨go19, (x5_1 : Int).toNat * 5 + 1, none⟩ = some (.int .i8 ((rd_T62 x0_2 x5_1).f0.f1)) := hcc19 1 _ rfl
                  have hx19_2 : wr.cell? ⟨go19, (x5_1 : Int).toNat * 5 + 2, none⟩ = some (.int .i8 ((rd_T62 x0_2 x5_1).f1)) := hcc19 2 _ rfl
                  have hx19_3 : wr.cell? ⟨go19, (x5_1 : Int).toNat * 5 + 3, none⟩ = some (.int .i8 ((rd_T62 x0_2 x5_1).f2)) := hcc19 3 _ rfl
                  have hx19_4 : wr.cell? ⟨go19, (x5_1 : Int).toNat * 5 + 4, none⟩ = some (.int .i8 ((rd_T62 x0_2 x5_1).f3)) := hcc19 4 _ rfl
                  have hf19_0 : wr.frozen? ⟨go19, (x5_1 : Int).toNat * 5, none⟩ = false := hfr19 0
                  have hf19_1 : wr.frozen? ⟨go19, (x5_1 : Int).toNat * 5 + 1, none⟩ = false := hfr19 1
                  have hf19_2 : wr.frozen? ⟨go19, (x5_1 : Int).toNat * 5 + 2, none⟩ = false := hfr19 2
                  have hf19_3 : wr.frozen? ⟨go19, (x5_1 : Int).toNat * 5 + 3, none⟩ = false := hfr19 3
                  have hf19_4 : wr.frozen? ⟨go19, (x5_1 : Int).toNat * 5 + 4, none⟩ = false := hfr19 4
                  clear hcl19 hcc19 hfr19 hM19
                  replace p19 := eq_true p19
                  replace q19 := eq_true q19
                  have HX22 := Aside0.mk (show Kd.R k62 62 wr w0.heap.size (fun k_ => (P0_ k_ ∨ w.heap.size ≤ k_)) (.slice (some ⟨go19, 0, none⟩) x0_2.length co4) x0_2 from (by (with_reducible repeat (first | apply Kd.R_alloc | apply Kd.R_drewN | apply Kd.R_drew)); exact HO_0.out))
                  obtain ⟨ce22, hcl22, hM22, hcc22, hfr22⟩ := Kd.R_elem HX22.out z62 (x5_1 : Int) (of_decide_eq_true (by first | (with_reducible assumption) | assumption)) (by have h_ : (x5_1 : Int) < ((x0_2.length : Int) : Int) := of_decide_eq_true (by first | (with_reducible assumption) | assumption); first | exact h_ | (have e_ := (Kd.R_reads' HO_0.out).1; omega) | simpa using h_)
                  obtain rfl := k62_openM hM22
                  have HP22 := Kd.R_seg HX22.out (x5_1 : Int) (of_decide_eq_true (by first | (with_reducible assumption) | assumption)) (by have h_ : (x5_1 : Int) < ((x0_2.length : Int) : Int) := of_decide_eq_true (by first | (with_reducible assumption) | assumption); first | exact h_ | (have e_ := (Kd.R_reads' HO_0.out).1; omega) | simpa using h_) (seg := [.int .i8 (IntKind.i8.wrap (x1_2))]) (j := 2) hcl22 hcc22 (show 3 ≤ 5 from by decide) (x' := (⟨(⟨(rd_T62 x0_2 x5_1).f0.f0, (rd_T62 x0_2 x5_1).f0.f1⟩ : S34), IntKind.i8.wrap (x1_2), (rd_T62 x0_2 x5_1).f2, (rd_T62 x0_2 x5_1).f3⟩ : S62)) (k62_mkM _ _ _ (⟨(⟨(rd_T62 x0_2 x5_1).f0.f0, (rd_T62 x0_2 x5_1).f0.f1⟩ : S34), IntKind.i8.wrap (x1_2), (rd_T62 x0_2 x5_1).f2, (rd_T62 x0_2 x5_1).f3⟩ : S62) ) (fun _ hk => hk)
                  have hx22_2 := hcc22 2 _ rfl
                  (try simp only [show (k62).sz = 5 from rfl, Nat.mul_one, Nat.add_zero] at hx22_2)
                  have hf22_2 := hfr22 2
                  (try simp only [show (k62).sz = 5 from rfl, Nat.mul_one, Nat.add_zero] at hf22_2)
                  clear hcl22 hcc22 hfr22 hM22
                  go_wp2_with (first | ((with_reducible refine gate_store (t := 22) (p := 32) rfl ?_); refine store_event (t := 22) (p := 32) (v := ?vo_w23) (w1 := (wr.setCell ⟨go19, (x5_1 : Int).toNat * 5 + 2, none⟩ (.int .i8 (IntKind.i8.wrap (x1_2))))) ?hg ?ho ?hn ?hr ?_; (case ho => rfl); (case hg => rfl); (case hn => rfl); (case hr => first | (go_simp; done) | (go_simp; rfl)); intro w23 hw; have hg : wr.grownBy w23 (some go19) := (by rw [hw]; exact HP22.2); have hp_ : Kd.R k62 62 w23 w0.heap.size (fun k_ => (P0_ k_ ∨ w.heap.size ≤ k_)) (.slice (some ⟨go19, 0, none⟩) x0_2.length co4) y140 := (by rw [hw, Ny140.out]; exact HP22.1); clear HP22; have n0_ := Aside0.mk (hp_); have n1_ := Aside0.mk ((by rw [hw]; exact below_set (HB.out) GB19.out : Below w0.heap.size w0 w23)); have n2_ := Aside0.mk (Kept.of_grown (S := (fun k_ => P0_ k_)) hg (by repeat (first | (with_reducible first | exact HK.out | apply Kept.alloc | apply Kept.drewN | apply Kept.drew) | exact HK.out)) (fun k_ e_ => (HO_0.out.1 k_ e_))); clear HO_0; clear HB; clear HK; have HO_0 := n0_; have HB := n1_; have HK := n2_; clear n0_ n1_ n2_; clear hg hw hp_; have p20 : 0 ≤ (x5_1 : Int) := of_decide_eq_true (by first | (with_reducible assumption) | assumption); have q20 : (x5_1 : Int) < ((x0_2.length : Int) : Int) := of_decide_eq_true (by first | (with_reducible assumption) | assumption); obtain ⟨ce20, hcl20, hM20, hcc20, hfr20⟩ := Kd.R_elem HO_0.out z62 (x5_1 : Int) p20 q20; obtain rfl := k62_openM hM20; have hx20_0 : w23.cell? ⟨go19, (x5_1 : Int).toNat * 5, none⟩ = some (.int .i8 ((rd_T62 y140 x5_1).f0.f0)) := hcc20 0 _ rfl; have hx20_1 : w23.cell? ⟨go19, (x5_1 : Int).toNat * 5 + 1, none⟩ = some (.int .i8 ((rd_T62 y140 x5_1).f0.f1)) := hcc20 1 _ rfl; have hx20_2 : w23.cell? ⟨go19, (x5_1 : Int).toNat * 5 + 2, none⟩ = some (.int .i8 ((rd_T62 y140 x5_1).f1)) := hcc20 2 _ rfl; have hx20_3 : w23.cell? ⟨go19, (x5_1 : Int).toNat * 5 + 3, none⟩ = some (.int .i8 ((rd_T62 y140 x5_1).f2)) := hcc20 3 _ rfl; have hx20_4 : w23.cell? ⟨go19, (x5_1 : Int).toNat * 5 + 4, none⟩ = some (.int .i8 ((rd_T62 y140 x5_1).f3)) := hcc20 4 _ rfl; have hf20_0 : w23.frozen? ⟨go19, (x5_1 : Int).toNat * 5, none⟩ = false := hfr20 0; have hf20_1 : w23.frozen? ⟨go19, (x5_1 : Int).toNat * 5 + 1, none⟩ = false := hfr20 1; have hf20_2 : w23.frozen? ⟨go19, (x5_1 : Int).toNat * 5 + 2, none⟩ = false := hfr20 2; have hf20_3 : w23.frozen? ⟨go19, (x5_1 : Int).toNat * 5 + 3, none⟩ = false := hfr20 3; have hf20_4 : w23.frozen? ⟨go19, (x5_1 : Int).toNat * 5 + 4, none⟩ = false := hfr20 4; clear hcl20 hcc20 hfr20 hM20; replace p20 := eq_true p20; replace q20 := eq_true q20; have HX24 := Aside0.mk (show Kd.R k62 62 w23 w0.heap.size (fun k_ => (P0_ k_ ∨ w.heap.size ≤ k_)) (.slice (some ⟨go19, 0, none⟩) x0_2.length co4) y140 from (by (with_reducible repeat (first | apply Kd.R_alloc | apply Kd.R_drewN | apply Kd.R_drew)); exact HO_0.out)); obtain ⟨ce24, hcl24, hM24, hcc24, hfr24⟩ := Kd.R_elem HX24.out z62 (x5_1 : Int) (of_decide_eq_true (by first | (with_reducible assumption) | assumption)) (by have h_ : (x5_1 : Int) < ((x0_2.length : Int) : Int) := of_decide_eq_true (by first | (with_reducible assumption) | assumption); first | exact h_ | (have e_ := (Kd.R_reads' HO_0.out).1; omega) | simpa using h_); obtain rfl := k62_openM hM24; have HP24 := Kd.R_seg HX24.out (x5_1 : Int) (of_decide_eq_true (by first | (with_reducible assumption) | assumption)) (by have h_ : (x5_1 : Int) < ((x0_2.length : Int) : Int) := of_decide_eq_true (by first | (with_reducible assumption) | assumption); first | exact h_ | (have e_ := (Kd.R_reads' HO_0.out).1; omega) | simpa using h_) (seg := [.int .i8 (IntKind.i8.wrap (wrap64 (x1_2 + 1)))]) (j := 3) hcl24 hcc24 (show 4 ≤ 5 from by decide) (x' := (⟨(⟨(rd_T62 y140 x5_1).f0.f0, (rd_T62 y140 x5_1).f0.f1⟩ : S34), (rd_T62 y140 x5_1).f1, IntKind.i8.wrap (wrap64 (x1_2 + 1)), (rd_T62 y140 x5_1).f3⟩ : S62)) (k62_mkM _ _ _ (⟨(⟨(rd_T62 y140 x5_1).f0.f0, (rd_T62 y140 x5_1).f0.f1⟩ : S34), (rd_T62 y140 x5_1).f1, IntKind.i8.wrap (wrap64 (x1_2 + 1)), (rd_T62 y140 x5_1).f3⟩ : S62) ) (fun _ hk => hk); have hx24_3 := hcc24 3 _ rfl; (try simp only [show (k62).sz = 5 from rfl, Nat.mul_one, Nat.add_zero] at hx24_3); have hf24_3 := hfr24 3; (try simp only [show (k62).sz = 5 from rfl, Nat.mul_one, Nat.add_zero] at hf24_3); clear hcl24 hcc24 hfr24 hM24) | ((with_reducible refine gate_store (t := 22) (p := 40) rfl ?_); refine store_event (t := 22) (p := 40) (v := ?vo_w25) (w1 := (w23.setCell ⟨go19, (x5_1 : Int).toNat * 5 + 3, none⟩ (.int .i8 (IntKind.i8.wrap (wrap64 (x1_2 + 1)))))) ?hg ?ho ?hn ?hr ?_; (case ho => rfl); (case hg => rfl); (case hn => rfl); (case hr => first | (go_simp; done) | (go_simp; rfl)); intro w25 hw; have hg : w23.grownBy w25 (some go19) := (by rw [hw]; exact HP24.2); have hp_ : Kd.R k62 62 w25 w0.heap.size (fun k_ => (P0_ k_ ∨ w.heap.size ≤ k_)) (.slice (some ⟨go19, 0, none⟩) x0_2.length co4) y141 := (by rw [hw, Ny141.out]; exact HP24.1); clear HP24; have n0_ := Aside0.mk (hp_); have n1_ := Aside0.mk ((by rw [hw]; exact below_set (HB.out) GB19.out : Below w0.heap.size w0 w25)); have n2_ := Aside0.mk (Kept.of_grown (S := (fun k_ => P0_ k_)) hg (by repeat (first | (with_reducible first | exact HK.out | apply Kept.alloc | apply Kept.drewN | apply Kept.drew) | exact HK.out)) (fun k_ e_ => (HO_0.out.1 k_ e_))); clear HO_0; clear HB; clear HK; have HO_0 := n0_; have HB := n1_; have HK := n2_; clear n0_ n1_ n2_; clear hg hw hp_; have p21 : 0 ≤ (x5_1 : Int) := of_decide_eq_true (by first | (with_reducible assumption) | assumption); have q21 : (x5_1 : Int) < ((x0_2.length : Int) : Int) := of_decide_eq_true (by first | (with_reducible assumption) | assumption); obtain ⟨ce21, hcl21, hM21, hcc21, hfr21⟩ := Kd.R_elem HO_0.out z62 (x5_1 : Int) p21 q21; obtain rfl := k62_openM hM21; have hx21_0 : w25.cell? ⟨go19, (x5_1 : Int).toNat * 5, none⟩ = some (.int .i8 ((rd_T62 y141 x5_1).f0.f0)) := hcc21 0 _ rfl; have hx21_1 : w25.cell? ⟨go19, (x5_1 : Int).toNat * 5 + 1, none⟩ = some (.int .i8 ((rd_T62 y141 x5_1).f0.f1)) := hcc21 1 _ rfl; have hx21_2 : w25.cell? ⟨go19, (x5_1 : Int).toNat * 5 + 2, none⟩ = some (.int .i8 ((rd_T62 y141 x5_1).f1)) := hcc21 2 _ rfl; have hx21_3 : w25.cell? ⟨go19, (x5_1 : Int).toNat * 5 + 3, none⟩ = some (.int .i8 ((rd_T62 y141 x5_1).f2)) := hcc21 3 _ rfl; have hx21_4 : w25.cell? ⟨go19, (x5_1 : Int).toNat * 5 + 4, none⟩ = some (.int .i8 ((rd_T62 y141 x5_1).f3)) := hcc21 4 _ rfl; have hf21_0 : w25.frozen? ⟨go19, (x5_1 : Int).toNat * 5, none⟩ = false := hfr21 0; have hf21_1 : w25.frozen? ⟨go19, (x5_1 : Int).toNat * 5 + 1, none⟩ = false := hfr21 1; have hf21_2 : w25.frozen? ⟨go19, (x5_1 : Int).toNat * 5 + 2, none⟩ = false := hfr21 2; have hf21_3 : w25.frozen? ⟨go19, (x5_1 : Int).toNat * 5 + 3, none⟩ = false := hfr21 3; have hf21_4 : w25.frozen? ⟨go19, (x5_1 : Int).toNat * 5 + 4, none⟩ = false := hfr21 4; clear hcl21 hcc21 hfr21 hM21; replace p21 := eq_true p21; replace q21 := eq_true q21; have HX26 := Aside0.mk (show Kd.R k62 62 w25 w0.heap.size (fun k_ => (P0_ k_ ∨ w.heap.size ≤ k_)) (.slice (some ⟨go19, 0, none⟩) x0_2.length co4) y141 from (by (with_reducible repeat (first | apply Kd.R_alloc | apply Kd.R_drewN | apply Kd.R_drew)); exact HO_0.out)); obtain ⟨ce26, hcl26, hM26, hcc26, hfr26⟩ := Kd.R_elem HX26.out z62 (x5_1 : Int) (of_decide_eq_true (by first | (with_reducible assumption) | assumption)) (by have h_ : (x5_1 : Int) < ((x0_2.length : Int) : Int) := of_decide_eq_true (by first | (with_reducible assumption) | assumption); first | exact h_ | (have e_ := (Kd.R_reads' HO_0.out).1; omega) | simpa using h_); obtain rfl := k62_openM hM26; have HP26 := Kd.R_seg HX26.out (x5_1 : Int) (of_decide_eq_true (by first | (with_reducible assumption) | assumption)) (by have h_ : (x5_1 : Int) < ((x0_2.length : Int) : Int) := of_decide_eq_true (by first | (with_reducible assumption) | assumption); first | exact h_ | (have e_ := (Kd.R_reads' HO_0.out).1; omega) | simpa using h_) (seg := [.int .i8 (IntKind.i8.wrap (wrap64 ((wrap64 (x1_2 + 1)) + 1)))]) (j := 4) hcl26 hcc26 (show 5 ≤ 5 from by decide) (x' := (⟨(⟨(rd_T62 y141 x5_1).f0.f0, (rd_T62 y141 x5_1).f0.f1⟩ : S34), (rd_T62 y141 x5_1).f1, (rd_T62 y141 x5_1).f2, IntKind.i8.wrap (wrap64 ((wrap64 (x1_2 + 1)) + 1))⟩ : S62)) (k62_mkM _ _ _ (⟨(⟨(rd_T62 y141 x5_1).f0.f0, (rd_T62 y141 x5_1).f0.f1⟩ : S34), (rd_T62 y141 x5_1).f1, (rd_T62 y141 x5_1).f2, IntKind.i8.wrap (wrap64 ((wrap64 (x1_2 + 1)) + 1))⟩ : S62) ) (fun _ hk => hk); have hx26_4 := hcc26 4 _ rfl; (try simp only [show (k62).sz = 5 from rfl, Nat.mul_one, Nat.add_zero] at hx26_4); have hf26_4 := hfr26 4; (try simp only [show (k62).sz = 5 from rfl, Nat.mul_one, Nat.add_zero] at hf26_4); clear hcl26 hcc26 hfr26 hM26) | ((with_reducible refine gate_store (t := 22) (p := 48) rfl ?_); refine store_event (t := 22) (p := 48) (v := ?vo_w27) (w1 := (w25.setCell ⟨go19, (x5_1 : Int).toNat * 5 + 4, none⟩ (.int .i8 (IntKind.i8.wrap (wrap64 ((wrap64 (x1_2 + 1)) + 1)))))) ?hg ?ho ?hn ?hr ?_; (case ho => rfl); (case hg => rfl); (case hn => rfl); (case hr => first | (go_simp; done) | (go_simp; rfl)); intro w27 hw; have hg : w25.grownBy w27 (some go19) := (by rw [hw]; exact HP26.2); have hp_ : Kd.R k62 62 w27 w0.heap.size (fun k_ => (P0_ k_ ∨ w.heap.size ≤ k_)) (.slice (some ⟨go19, 0, none⟩) x0_2.length co4) y142 := (by rw [hw, Ny142.out]; exact HP26.1); clear HP26; have n0_ := Aside0.mk (hp_); have n1_ := Aside0.mk ((by rw [hw]; exact below_set (HB.out) GB19.out : Below w0.heap.size w0 w27)); have n2_ := Aside0.mk (Kept.of_grown (S := (fun k_ => P0_ k_)) hg (by repeat (first | (with_reducible first | exact HK.out | apply Kept.alloc | apply Kept.drewN | apply Kept.drew) | exact HK.out)) (fun k_ e_ => (HO_0.out.1 k_ e_))); clear HO_0; clear HB; clear HK; have HO_0 := n0_; have HB := n1_; have HK := n2_; clear n0_ n1_ n2_; clear hg hw hp_))
                  (try simp only [← hl0_2])
                  go_roundg k2
                  case measure => have := HK1.out; have := HK2.out; omega
                  case rel => exact ⟨(y142), (wrap64 ((wrap64 ((wrap64 (x1_2 + 1)) + 1)) + 1)), (wrap64 (x5_1 + 1)), (by first | rfl | (simp; done) | (simp [*]; done) | (exact congrArg (Value.int .i64) (wrap_eq (by omega)))), (by first | rfl | (simp; done) | (simp [*]; done) | (exact congrArg (Value.int .i64) (wrap_eq (by omega)))), H', ⟨by have := HK1.out; have := HK2.out; omega⟩, ⟨by (try simp only [hl0_2]); (with_reducible repeat (first | apply Kd.R_alloc | apply Kd.R_drewN | apply Kd.R_drew)); exact HO_0.out⟩, ⟨by repeat (first | (with_reducible first | exact HK.out | apply Kept.alloc | apply Kept.drewN | apply Kept.drew) | exact HK.out)⟩, ⟨by repeat (first | (with_reducible first | exact HB.out | apply below_alloc | apply pw_below_drewN | apply below_drew1) | exact HB.out)⟩⟩
                · rw [if_neg c18] at H
                  exact absurd H (by simp)
              · rw [if_neg c17] at H
                exact absurd H (by simp)
      · rw [if_neg c3] at H
        have c3b0 : decide (x5_1 < (x0_1.length : Int)) = false := decide_eq_false c3
        clear c3
        simp only [Option.some.injEq, Prod.mk.injEq] at H
        obtain ⟨rfl, rfl⟩ := H
        obtain ⟨Ao28, co28, eo28⟩ := Kd.R_slice HO_0.out
        subst eo28
        go_wp2
        go_ret
        exact ⟨by first | rfl | (simp [errW_none, errW_some] <;> rfl) | (simp [*, errW_none, errW_some] <;> rfl), by (with_reducible repeat (first | apply Kd.R_alloc | apply Kd.R_drewN | apply Kd.R_drew)); exact HO_0.out, by repeat (first | (with_reducible first | exact HB.out | apply below_alloc | apply pw_below_drewN | apply below_drew1) | exact HB.out), by repeat (first | (with_reducible first | exact HK.out | apply Kept.alloc | apply Kept.drewN | apply Kept.drew) | exact HK.out)⟩

/-! ### laws_markBoard: function 12 -/
def laws_markBoard.f (k : Nat) (a0_0 : Int) (a0_1 : Int) (l0_2 : List (S62)) (a1 : Int) : Option (Int × (List (S62))) := (laws_markPieceS.f k l0_2 a1).bind fun bt144 => (some (bt144.1, bt144.2))
theorem laws_markBoard.mono : ∀ a0 a1 a2 a3 k, LeO (laws_markBoard.f k a0 a1 a2 a3) (laws_markBoard.f (k + 1) a0 a1 a2 a3) := by
  intro a0 a1 a2 a3 k
  unfold laws_markBoard.f
  repeat' first
      | (with_reducible exact laws_markPieceS.mono _ _ _)
      | (with_reducible exact LeO.refl _)
      | (with_reducible exact LeO.none _)
      | (with_reducible refine LeO.ite ?_ ?_)
      | (with_reducible refine LeO.bind ?_ (fun _ => ?_))
      | exact laws_markPieceS.mono _ _ _
      | exact LeO.none _
      | refine LeO.ite ?_ ?_
      | refine LeO.bind ?_ (fun _ => ?_)
set_option maxHeartbeats 8000000 in
set_option maxRecDepth 100000 in
theorem laws_markBoard.calls (k : Nat) (a0_0 : Int) (a0_1 : Int) (P0_2_ : Nat → Prop) (u9000_ : Value) (l0_2 : List (S62)) (a1 : Int) (r1 : Int) (r2 : List (S62)) (w0 w : World) (hB : Below w0.heap.size w0 w) (ho0_2 : Kd.R k62 62 w w0.heap.size P0_2_ u9000_ l0_2) (h : laws_markBoard.f k a0_0 a0_1 l0_2 a1 = some (r1, r2)) :
    Calls Try.prog 12 #[.agg #[.int .i8 a0_0, .int .i8 a0_1, u9000_], .int .i64 a1] w fun e w' => e = .returned (.int .i64 r1) ∧ Kd.R k62 62 w' w0.heap.size (fun k_ => (P0_2_ k_ ∨ w.heap.size ≤ k_)) u9000_ r2 ∧ Below w0.heap.size w0 w' ∧ Kept w w' (fun k_ => P0_2_ k_) := by
  have hu30 := Try.underlying30
  have HO0_2 := Aside0.mk (show Kd.R k62 62 w w0.heap.size (fun k_ => (P0_2_ k_ ∨ w.heap.size ≤ k_)) u9000_ l0_2 from Kd.R_mono ho0_2 (fun k_ hk => (.inl hk)))
  have HK := Aside0.mk (Kept.refl w (fun k_ => P0_2_ k_))
  have HW0 := Aside0.mk hB.size
  have HB := Aside0.mk hB
  clear hB
  have H : ((laws_markPieceS.f k l0_2 a1).bind fun bt144 => (some (bt144.1, bt144.2))) = some (r1, r2) := h
  clear h
  replace H := Option.bind_eq_some_iff.mp H
  obtain ⟨⟨t144, t145⟩, A30, H⟩ := H
  replace H : (some (t144, t145)) = some (r1, r2) := H
  have A3 := Aside0.mk A30
  clear A30
  simp only [Option.some.injEq, Prod.mk.injEq] at H
  obtain ⟨rfl, rfl⟩ := H
  obtain ⟨Ao4, co4, eo4⟩ := Kd.R_slice HO0_2.out
  subst eo4
  go_enter Try.func12, Try.ntmps12
  go_wp2_with (first | ((with_reducible refine gate_dst (N := 2) rfl ?_); refine box_event ?hg (N := 2) ?hd (cs := #[.int .i8 a0_0, .int .i8 a0_1, .slice Ao4 l0_2.length co4]) (t := 30) ?hr ?_; (case hd => rfl); (case hg => rfl); (case hr => first | (go_simp; done) | (go_simp; rfl)); intro gb143 hg w5 hbox hb; have n0_ := Aside0.mk (Kd.R_below (by (with_reducible repeat (first | apply Kd.R_alloc | apply Kd.R_drewN | apply Kd.R_drew)); exact HO0_2.out) hb); have n1_ := Aside0.mk (Kept.below (S := (fun k_ => P0_2_ k_)) (by repeat (first | (with_reducible first | exact HK.out | apply Kept.alloc | apply Kept.drewN | apply Kept.drew) | exact HK.out)) hb); have n2_ := Aside0.mk (below_step (by repeat (first | (with_reducible first | exact HB.out | apply below_alloc | apply pw_below_drewN | apply below_drew1) | exact HB.out)) hb); have n3_ := Aside0.mk (hbox); have n4_ := Aside0.mk ((by rw [hg]; exact (by first | exact HK.out.1 | exact (show Kept w _ (fun k_ => P0_2_ k_) from by repeat (first | (with_reducible first | exact HK.out | apply Kept.alloc | apply Kept.drewN | apply Kept.drew) | exact HK.out)).1) : w.heap.size ≤ gb143)); have n5_ := Aside0.mk ((by rw [hg]; exact (below_size (by repeat (first | (with_reducible first | exact HB.out | apply below_alloc | apply pw_below_drewN | apply below_drew1) | exact HB.out))) : w0.heap.size ≤ gb143)); clear HO0_2; clear HK; clear HB; have HO0_2 := n0_; have HK := n1_; have HB := n2_; have BK143 := n3_; have GW143 := n4_; have GE143 := n5_; clear n0_ n1_ n2_ n3_ n4_ n5_; clear hb hbox hg; have hcz6_0 : w5.cell? ⟨gb143, 0, none⟩ = some (.int .i8 a0_0) := (blk_cell BK143.out 0).trans rfl; have hcz6_1 : w5.cell? ⟨gb143, 1, none⟩ = some (.int .i8 a0_1) := (blk_cell BK143.out 1).trans rfl; have hcz6_2 : w5.cell? ⟨gb143, 2, none⟩ = some (.slice Ao4 l0_2.length co4) := (blk_cell BK143.out 2).trans rfl; have hfz6_0 := blk_frozen BK143.out 0; have hfz6_1 := blk_frozen BK143.out 1; have hfz6_2 := blk_frozen BK143.out 2) | ((with_reducible refine gate_callee (f := 33) rfl ?_); refine goesL_ (some 8) rfl rfl Try.func33 (by kernel_rfl) rfl #[.slice Ao4 l0_2.length co4, .int .i64 a1] rfl (by (try simp only [List.map_toArray, List.map_cons, List.map_nil]); first | done | rfl | (simp only [List.length_drop, List.length_take]; rfl)) ?_; (with_reducible refine (laws_markPieceS.calls k (fun k_ => some k_ = (.slice Ao4 l0_2.length co4 : Value).ownBlock) (.slice Ao4 l0_2.length co4) l0_2 a1 t144 t145 w0 _ ?side1 ?side2 A3.out).mono ?_); (case side1 => repeat (first | (with_reducible first | exact HB.out | apply below_alloc | apply pw_below_drewN | apply below_drew1 | refine below_set ?_ GE143.out) | exact HB.out)); (case side2 => exact Kd.R_tight rfl HO0_2.out); rintro e w7 ⟨rfl, hy0, hb, hkp⟩; refine ⟨_, rfl, ?_⟩; have n0_ := Aside0.mk (Kd.R_reok rfl hy0 (fun k_ e_ => HO0_2.out.1 k_ e_)); have n1_ := Aside0.mk (blk_kept (by (with_reducible repeat (first | refine blk_drewN ?_ _ | refine blk_drew ?_ | refine blk_alloc ?_ _)); exact BK143.out) hkp (fun hs_ => (fun e_ => (Kd.R_ne HO0_2.out BK143.out (by decide)) e_) hs_)); have n2_ := Aside0.mk (Kept.then_ (S := (fun k_ => P0_2_ k_)) (by repeat (first | (with_reducible first | exact HK.out | apply Kept.alloc | apply Kept.drewN | apply Kept.drew | refine Kept.setCell ?_ (.inr GW143.out) _) | exact HK.out)) hkp (fun k_ hs_ => (fun e_ => (HO0_2.out.1 k_ e_.symm)) hs_)); have n3_ := Aside0.mk (hb); clear HO0_2; clear BK143; clear HK; clear HB; have HO0_2 := n0_; have BK143 := n1_; have HK := n2_; have HB := n3_; clear n0_ n1_ n2_ n3_; (try clear hb); (try clear hkp); (try clear hy0)))
  go_ret
  exact ⟨by first | rfl | (simp [errW_none, errW_some] <;> rfl) | (simp [*, errW_none, errW_some] <;> rfl), by (with_reducible repeat (first | apply Kd.R_alloc | apply Kd.R_drewN | apply Kd.R_drew)); exact HO0_2.out, by repeat (first | (with_reducible first | exact HB.out | apply below_alloc | apply pw_below_drewN | apply below_drew1 | refine below_set ?_ GE143.out) | exact HB.out), by repeat (first | (with_reducible first | exact HK.out | apply Kept.alloc | apply Kept.drewN | apply Kept.drew | refine Kept.setCell ?_ (.inr GW143.out) _) | exact HK.out)⟩

end Go.Proofs.Ytdjhcnepndflmaa.PFnExactNeverHit
