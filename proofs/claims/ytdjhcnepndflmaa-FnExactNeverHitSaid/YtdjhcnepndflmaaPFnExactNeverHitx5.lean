-- WRITTEN by xprint.py, a program of this session's. Not trusted: Lean checks it.
import Derived.Test.YtdjhcnepndflmaaPFnExactNeverHitx0
import Derived.Test.YtdjhcnepndflmaaPFnExactNeverHitx4
namespace Go.Proofs.Ytdjhcnepndflmaa.PFnExactNeverHit
open Go.RowKit Go.Proofs.YtdjhcnepndflmaaW.PrintWords Go.Proofs.YtdjhcnepndflmaaW.PrintLast Go.Proofs.YtdjhcnepndflmaaW.PrintMore Go.Proofs.YtdjhcnepndflmaaX
attribute [local go_sem] max2_int min2_int max_two min_two max_three min_three max_four min_four   -- for this text's walks alone
set_option linter.unusedVariables false
set_option linter.unusedSimpArgs false

/-! ### spec_l01Ok: function 25 -/
mutual
def spec_l01Ok.j0 : Nat → List (S30) → Bool → Option (Bool)
  | 0, _, _ => none
  | k + 1, x0, x28 => if x28 = true then (some false) else (spec_l01Ok.l0 k x0 0)
def spec_l01Ok.l0 : Nat → List (S30) → Int → Option (Bool)
  | 0, _, _ => none
  | k + 1, x0, x3 => if 0 < (x0.length : Int) then (if x3 < (((rd_T30 x0 0).f2).length : Int) then (if 0 ≤ x3 then ((spec_l01Piece.f [rd_T62 ((rd_T30 x0 0).f2) x3]).bind fun t169 => (if t169 = true then ((spec_l01In.f ((rd_T62 ((rd_T30 x0 0).f2) x3).f0.f0) ((rd_T62 ((rd_T30 x0 0).f2) x3).f0.f1) (wrap64 ((rd_T30 x0 0).f0)) (wrap64 ((rd_T30 x0 0).f1))).bind fun t173 => (if t173 = true then ((spec_l01Find.f k x0 ((rd_T62 ((rd_T30 x0 0).f2) x3).f0.f0) ((rd_T62 ((rd_T30 x0 0).f2) x3).f0.f1)).bind fun t175 => (if t175 = x3 then (spec_l01Ok.l0 k x0 (wrap64 (x3 + 1))) else (some false))) else (some false))) else (some false))) else (none)) else (some true)) else (none)
end
def spec_l01Ok.f (k : Nat) (l0 : List (S30)) : Option (Bool) := if 0 < (l0.length : Int) then ((spec_l00In.f (wrap64 ((rd_T30 l0 0).f0)) 1 24).bind fun t162 => (if t162 = true then ((spec_l00In.f (wrap64 ((rd_T30 l0 0).f1)) 1 24).bind fun t164 => (if t164 = true then (spec_l01Ok.j0 k l0 (decide ((((rd_T30 l0 0).f2).length : Int) > 200))) else (spec_l01Ok.j0 k l0 true))) else (spec_l01Ok.j0 k l0 true))) else (none)
theorem spec_l01Ok.mono_l : ∀ k, (∀ y0 y1, LeO (spec_l01Ok.j0 k y0 y1) (spec_l01Ok.j0 (k + 1) y0 y1)) ∧ (∀ y0 y1, LeO (spec_l01Ok.l0 k y0 y1) (spec_l01Ok.l0 (k + 1) y0 y1))
  | 0 => ⟨fun _ _ r h => by simp [spec_l01Ok.j0] at h, fun _ _ r h => by simp [spec_l01Ok.l0] at h⟩
  | k + 1 => by
    obtain ⟨ih0, ih1⟩ := spec_l01Ok.mono_l k
    refine ⟨?_, ?_⟩
    · intro y0 y1
      unfold spec_l01Ok.j0
      repeat' first
      | (with_reducible exact ih0 _ _)
      | (with_reducible exact ih1 _ _)
      | (with_reducible exact spec_l01Find.mono _ _ _ _)
      | (with_reducible exact LeO.refl _)
      | (with_reducible exact LeO.none _)
      | (with_reducible refine LeO.ite ?_ ?_)
      | (with_reducible refine LeO.bind ?_ (fun _ => ?_))
      | exact ih0 _ _
      | exact ih1 _ _
      | exact spec_l01Find.mono _ _ _ _
      | exact LeO.none _
      | refine LeO.ite ?_ ?_
      | refine LeO.bind ?_ (fun _ => ?_)
    · intro y0 y1
      unfold spec_l01Ok.l0
      repeat' first
      | (with_reducible exact ih0 _ _)
      | (with_reducible exact ih1 _ _)
      | (with_reducible exact spec_l01Find.mono _ _ _ _)
      | (with_reducible exact LeO.refl _)
      | (with_reducible exact LeO.none _)
      | (with_reducible refine LeO.ite ?_ ?_)
      | (with_reducible refine LeO.bind ?_ (fun _ => ?_))
      | exact ih0 _ _
      | exact ih1 _ _
      | exact spec_l01Find.mono _ _ _ _
      | exact LeO.none _
      | refine LeO.ite ?_ ?_
      | refine LeO.bind ?_ (fun _ => ?_)
theorem spec_l01Ok.mono : ∀ a0 k, LeO (spec_l01Ok.f k a0) (spec_l01Ok.f (k + 1) a0) := by
  intro a0 k
  obtain ⟨ih0, ih1⟩ := spec_l01Ok.mono_l k
  unfold spec_l01Ok.f
  repeat' first
      | (with_reducible exact ih0 _ _)
      | (with_reducible exact ih1 _ _)
      | (with_reducible exact spec_l01Find.mono _ _ _ _)
      | (with_reducible exact LeO.refl _)
      | (with_reducible exact LeO.none _)
      | (with_reducible refine LeO.ite ?_ ?_)
      | (with_reducible refine LeO.bind ?_ (fun _ => ?_))
      | exact ih0 _ _
      | exact ih1 _ _
      | exact spec_l01Find.mono _ _ _ _
      | exact LeO.none _
      | refine LeO.ite ?_ ?_
      | refine LeO.bind ?_ (fun _ => ?_)
def spec_l01Ok.T7 : Bool × List (List Nat × List Nat) := (true, [([], []), ([0], [0]), ([1], [1]), ([2, 1], [2]), ([3], [3]), ([4, 3], [3, 4]), ([5, 3], [3, 5]), ([6, 3], [3, 6]), ([3], [3]), ([8, 3], [3, 8]), ([9, 3], [3, 9]), ([10, 3], [3, 10]), ([11, 3], [3, 11]), ([3], [3]), ([13, 3], [3, 13]), ([14, 3], [3, 14]), ([15, 3], [3, 15]), ([16, 3], [3, 16]), ([7, 12, 17, 3, 3], [3, 7, 12, 17]), ([18, 3], [3, 18]), ([3, 19], [3, 19]), ([20, 18], [20]), ([21], [21]), ([21], [21]), ([23, 21], [21, 23]), ([24, 21], [21, 24]), ([25, 21], [21, 25]), ([22, 26, 21, 21], [21, 22, 26]), ([21], [21]), ([27, 28, 21], [21, 27, 28]), ([21, 29], [21, 29])])
def spec_l01Ok.B7 : List Nat := [0, 1, 3, 7, 15, 31, 63, 127, 15, 271, 783, 1807, 3855, 15, 8207, 24591, 57359, 122895, 262143, 524287, 1048575, 2097151, 4194303, 4194303, 12582911, 29360127, 62914559, 134217727, 4194303, 536870911, 1073741823]
theorem spec_l01Ok.tab7 : rtab .any (opsOf Try.f25 7) = spec_l01Ok.T7 := by kernel_rfl
theorem spec_l01Ok.bits7 : waitsOk spec_l01Ok.T7.2 spec_l01Ok.B7 = true := by kernel_rfl
set_option maxHeartbeats 8000000 in
set_option maxRecDepth 100000 in
theorem spec_l01Ok.calls (k : Nat) (adp0 : Addr) (l0 : List (S30)) (r : Bool) (w : World) (hr0 : Kd.C k30 w (some adp0) l0.length l0) (h : spec_l01Ok.f k l0 = some r) :
    Calls Try.prog 25 #[.pointer (some adp0)] w fun e w' => e = .returned (.bool r) ∧ Below w.heap.size w w' := by
  have hu34 := Try.underlying34
  have HR0 := Aside0.mk hr0
  clear hr0
  have HB := Aside0.mk (Below.refl w.heap.size w)
  have H : (if 0 < (l0.length : Int) then ((spec_l00In.f (wrap64 ((rd_T30 l0 0).f0)) 1 24).bind fun t162 => (if t162 = true then ((spec_l00In.f (wrap64 ((rd_T30 l0 0).f1)) 1 24).bind fun t164 => (if t164 = true then (spec_l01Ok.j0 k l0 (decide ((((rd_T30 l0 0).f2).length : Int) > 200))) else (spec_l01Ok.j0 k l0 true))) else (spec_l01Ok.j0 k l0 true))) else (none)) = some r := h
  clear h
  have HC2 := Aside0.mk H
  clear H
  go_enter Try.func25, Try.ntmps25
  go_upto_region 1 with (fail)
  go_cut [28] (fun v28 wc => ∃ (kq : Nat) (x28_1 : Bool), v28 = .bool x28_1 ∧ Aside0 (spec_l01Ok.j0 kq l0 x28_1 = some r) ∧ Aside0 (kq ≤ k) ∧ Aside0 (Below w.heap.size w wc))
  case first =>
    have H := HC2.out
    clear HC2
    by_cases c3 : 0 < (l0.length : Int)
    · rw [if_pos c3] at H
      have c3b0 : decide (0 < (l0.length : Int)) = true := decide_eq_true c3
      have c3b1 : decide (0 < l0.length) = true := decide_eq_true (by omega)
      clear c3
      (first | rw [c3b0] | (simp only [i64_w, i32_w]; rw [c3b0]) | (have h_ := c3b0; simp only [bne] at h_; rw [h_]) | skip)
      replace H := Option.bind_eq_some_iff.mp H
      obtain ⟨t162, A40, H⟩ := H
      replace H : (if t162 = true then ((spec_l00In.f (wrap64 ((rd_T30 l0 0).f1)) 1 24).bind fun t164 => (if t164 = true then (spec_l01Ok.j0 k l0 (decide ((((rd_T30 l0 0).f2).length : Int) > 200))) else (spec_l01Ok.j0 k l0 true))) else (spec_l01Ok.j0 k l0 true)) = some r := H
      have A4 := Aside0.mk A40
      clear A40
      by_cases c5 : t162 = true
      · subst c5
        have H1 : ((spec_l00In.f (wrap64 ((rd_T30 l0 0).f1)) 1 24).bind fun t164 => (if t164 = true then (spec_l01Ok.j0 k l0 (decide ((((rd_T30 l0 0).f2).length : Int) > 200))) else (spec_l01Ok.j0 k l0 true))) = some r := by rw [if_pos rfl] at H; exact H
        clear H
        have H := H1
        clear H1
        replace H := Option.bind_eq_some_iff.mp H
        obtain ⟨t164, A60, H⟩ := H
        replace H : (if t164 = true then (spec_l01Ok.j0 k l0 (decide ((((rd_T30 l0 0).f2).length : Int) > 200))) else (spec_l01Ok.j0 k l0 true)) = some r := H
        have A6 := Aside0.mk A60
        clear A60
        by_cases c7 : t164 = true
        · subst c7
          have H1 : (spec_l01Ok.j0 k l0 (decide ((((rd_T30 l0 0).f2).length : Int) > 200))) = some r := by rw [if_pos rfl] at H; exact H
          clear H
          have H := H1
          clear H1
          have H' := Aside0.mk H
          clear H
          have p161 : 0 ≤ (0 : Int) := (by omega)
          have q161 : 0 < (l0.length : Int) := of_decide_eq_true (by first | (with_reducible assumption) | assumption)
          obtain ⟨ad161, A161_2, c161_2, e161, hx161_0, hx161_1, hx161_2, hl161_2, hi161_2⟩ := at_T30 HR0.out 0 p161 q161
          obtain rfl : adp0 = ad161 := (by injection e161)
          have qi161 : (0 < l0.length) = True := eq_true (by omega)
          (try rw [show ((0 : Int)).toNat = 0 from rfl] at hx161_0)
          (try rw [show 0 * 3 = 0 from rfl] at hx161_0)
          (try rw [Addr.add_zero'] at hx161_0)
          (try rw [show ((0 : Int)).toNat = 0 from rfl] at hx161_1)
          (try rw [show 0 * 3 = 0 from rfl] at hx161_1)
          (try rw [Addr.add_zero'] at hx161_1)
          (try rw [show ((0 : Int)).toNat = 0 from rfl] at hx161_2)
          (try rw [show 0 * 3 = 0 from rfl] at hx161_2)
          (try rw [Addr.add_zero'] at hx161_2)
          replace hx161_0 := (HB.out.cell (World.block_lt_of_cell? w _ hx161_0)).trans hx161_0
          replace hx161_1 := (HB.out.cell (World.block_lt_of_cell? w _ hx161_1)).trans hx161_1
          replace hx161_2 := (HB.out.cell (World.block_lt_of_cell? w _ hx161_2)).trans hx161_2
          have HR161_2 := Aside0.mk hi161_2
          have HC161_2 := Aside0.mk hl161_2
          clear hi161_2 hl161_2
          replace p161 := eq_true p161
          replace q161 := eq_true q161
          go_wp2_with (first | ((with_reducible refine gate_callee (f := 43) rfl ?_); refine goesL_ (some 10) rfl rfl Try.func43 (by kernel_rfl) rfl #[.int .i64 (wrap64 ((rd_T30 l0 0).f0)), .int .i64 1, .int .i64 24] rfl (by (try simp only [List.map_toArray, List.map_cons, List.map_nil]); first | done | rfl | (simp only [List.length_drop, List.length_take]; rfl)) ?_; (with_reducible refine (spec_l00In.calls (wrap64 ((rd_T30 l0 0).f0)) 1 24 true _ A4.out).mono ?_); rintro e w' ⟨rfl, ⟨nd, rfl⟩⟩; refine ⟨_, rfl, ?_⟩; have p163 : 0 ≤ (0 : Int) := (by omega); have q163 : 0 < (l0.length : Int) := of_decide_eq_true (by first | (with_reducible assumption) | assumption); obtain ⟨ad163, A163_2, c163_2, e163, hx163_0, hx163_1, hx163_2, hl163_2, hi163_2⟩ := at_T30 HR0.out 0 p163 q163; obtain rfl : adp0 = ad163 := (by injection e163); have qi163 : (0 < l0.length) = True := eq_true (by omega); (try rw [show ((0 : Int)).toNat = 0 from rfl] at hx163_0); (try rw [show 0 * 3 = 0 from rfl] at hx163_0); (try rw [Addr.add_zero'] at hx163_0); (try rw [show ((0 : Int)).toNat = 0 from rfl] at hx163_1); (try rw [show 0 * 3 = 0 from rfl] at hx163_1); (try rw [Addr.add_zero'] at hx163_1); (try rw [show ((0 : Int)).toNat = 0 from rfl] at hx163_2); (try rw [show 0 * 3 = 0 from rfl] at hx163_2); (try rw [Addr.add_zero'] at hx163_2); replace hx163_0 := (HB.out.cell (World.block_lt_of_cell? w _ hx163_0)).trans hx163_0; replace hx163_1 := (HB.out.cell (World.block_lt_of_cell? w _ hx163_1)).trans hx163_1; replace hx163_2 := (HB.out.cell (World.block_lt_of_cell? w _ hx163_2)).trans hx163_2; have HR163_2 := Aside0.mk hi163_2; have HC163_2 := Aside0.mk hl163_2; clear hi163_2 hl163_2; replace p163 := eq_true p163; replace q163 := eq_true q163; have ea_ := Option.some.inj (hx161_2.symm.trans hx163_2); injection ea_ with ea_ en_ ec_; subst ea_; subst ec_; clear en_) | (go_at_call 43; (with_reducible refine (spec_l00In.calls (wrap64 ((rd_T30 l0 0).f1)) 1 24 true _ A6.out).mono ?_); rintro e w' ⟨rfl, ⟨nd, rfl⟩⟩; have p165 : 0 ≤ (0 : Int) := (by omega); have q165 : 0 < (l0.length : Int) := of_decide_eq_true (by first | (with_reducible assumption) | assumption); obtain ⟨ad165, A165_2, c165_2, e165, hx165_0, hx165_1, hx165_2, hl165_2, hi165_2⟩ := at_T30 HR0.out 0 p165 q165; obtain rfl : adp0 = ad165 := (by injection e165); have qi165 : (0 < l0.length) = True := eq_true (by omega); (try rw [show ((0 : Int)).toNat = 0 from rfl] at hx165_0); (try rw [show 0 * 3 = 0 from rfl] at hx165_0); (try rw [Addr.add_zero'] at hx165_0); (try rw [show ((0 : Int)).toNat = 0 from rfl] at hx165_1); (try rw [show 0 * 3 = 0 from rfl] at hx165_1); (try rw [Addr.add_zero'] at hx165_1); (try rw [show ((0 : Int)).toNat = 0 from rfl] at hx165_2); (try rw [show 0 * 3 = 0 from rfl] at hx165_2); (try rw [Addr.add_zero'] at hx165_2); replace hx165_0 := (HB.out.cell (World.block_lt_of_cell? w _ hx165_0)).trans hx165_0; replace hx165_1 := (HB.out.cell (World.block_lt_of_cell? w _ hx165_1)).trans hx165_1; replace hx165_2 := (HB.out.cell (World.block_lt_of_cell? w _ hx165_2)).trans hx165_2; have HR165_2 := Aside0.mk hi165_2; have HC165_2 := Aside0.mk hl165_2; clear hi165_2 hl165_2; replace p165 := eq_true p165; replace q165 := eq_true q165; have ea_ := Option.some.inj (hx161_2.symm.trans hx165_2); injection ea_ with ea_ en_ ec_; subst ea_; subst ec_; clear en_))
          go_meet
          case rel => exact ⟨_, (decide ((((rd_T30 l0 0).f2).length : Int) > 200)), (by first | rfl | (simp; done) | (simp [*]; done) | (exact congrArg (Value.int .i64) (wrap_eq (by omega)))), H', ⟨by first | omega | exact Nat.le_refl _⟩, ⟨by repeat (first | (with_reducible first | exact HB.out | apply below_alloc | apply pw_below_drewN | apply below_drew1) | exact HB.out)⟩⟩
        · replace c7 := Bool.eq_false_iff.mpr c7
          subst c7
          have H1 : (spec_l01Ok.j0 k l0 true) = some r := by rw [if_neg (show ¬ (false = true) by decide)] at H; exact H
          clear H
          have H := H1
          clear H1
          have H' := Aside0.mk H
          clear H
          have p161 : 0 ≤ (0 : Int) := (by omega)
          have q161 : 0 < (l0.length : Int) := of_decide_eq_true (by first | (with_reducible assumption) | assumption)
          obtain ⟨ad161, A161_2, c161_2, e161, hx161_0, hx161_1, hx161_2, hl161_2, hi161_2⟩ := at_T30 HR0.out 0 p161 q161
          obtain rfl : adp0 = ad161 := (by injection e161)
          have qi161 : (0 < l0.length) = True := eq_true (by omega)
          (try rw [show ((0 : Int)).toNat = 0 from rfl] at hx161_0)
          (try rw [show 0 * 3 = 0 from rfl] at hx161_0)
          (try rw [Addr.add_zero'] at hx161_0)
          (try rw [show ((0 : Int)).toNat = 0 from rfl] at hx161_1)
          (try rw [show 0 * 3 = 0 from rfl] at hx161_1)
          (try rw [Addr.add_zero'] at hx161_1)
          (try rw [show ((0 : Int)).toNat = 0 from rfl] at hx161_2)
          (try rw [show 0 * 3 = 0 from rfl] at hx161_2)
          (try rw [Addr.add_zero'] at hx161_2)
          replace hx161_0 := (HB.out.cell (World.block_lt_of_cell? w _ hx161_0)).trans hx161_0
          replace hx161_1 := (HB.out.cell (World.block_lt_of_cell? w _ hx161_1)).trans hx161_1
          replace hx161_2 := (HB.out.cell (World.block_lt_of_cell? w _ hx161_2)).trans hx161_2
          have HR161_2 := Aside0.mk hi161_2
          have HC161_2 := Aside0.mk hl161_2
          clear hi161_2 hl161_2
          replace p161 := eq_true p161
          replace q161 := eq_true q161
          go_wp2_with (first | ((with_reducible refine gate_callee (f := 43) rfl ?_); refine goesL_ (some 10) rfl rfl Try.func43 (by kernel_rfl) rfl #[.int .i64 (wrap64 ((rd_T30 l0 0).f0)), .int .i64 1, .int .i64 24] rfl (by (try simp only [List.map_toArray, List.map_cons, List.map_nil]); first | done | rfl | (simp only [List.length_drop, List.length_take]; rfl)) ?_; (with_reducible refine (spec_l00In.calls (wrap64 ((rd_T30 l0 0).f0)) 1 24 true _ A4.out).mono ?_); rintro e w' ⟨rfl, ⟨nd, rfl⟩⟩; refine ⟨_, rfl, ?_⟩; have p163 : 0 ≤ (0 : Int) := (by omega); have q163 : 0 < (l0.length : Int) := of_decide_eq_true (by first | (with_reducible assumption) | assumption); obtain ⟨ad163, A163_2, c163_2, e163, hx163_0, hx163_1, hx163_2, hl163_2, hi163_2⟩ := at_T30 HR0.out 0 p163 q163; obtain rfl : adp0 = ad163 := (by injection e163); have qi163 : (0 < l0.length) = True := eq_true (by omega); (try rw [show ((0 : Int)).toNat = 0 from rfl] at hx163_0); (try rw [show 0 * 3 = 0 from rfl] at hx163_0); (try rw [Addr.add_zero'] at hx163_0); (try rw [show ((0 : Int)).toNat = 0 from rfl] at hx163_1); (try rw [show 0 * 3 = 0 from rfl] at hx163_1); (try rw [Addr.add_zero'] at hx163_1); (try rw [show ((0 : Int)).toNat = 0 from rfl] at hx163_2); (try rw [show 0 * 3 = 0 from rfl] at hx163_2); (try rw [Addr.add_zero'] at hx163_2); replace hx163_0 := (HB.out.cell (World.block_lt_of_cell? w _ hx163_0)).trans hx163_0; replace hx163_1 := (HB.out.cell (World.block_lt_of_cell? w _ hx163_1)).trans hx163_1; replace hx163_2 := (HB.out.cell (World.block_lt_of_cell? w _ hx163_2)).trans hx163_2; have HR163_2 := Aside0.mk hi163_2; have HC163_2 := Aside0.mk hl163_2; clear hi163_2 hl163_2; replace p163 := eq_true p163; replace q163 := eq_true q163; have ea_ := Option.some.inj (hx161_2.symm.trans hx163_2); injection ea_ with ea_ en_ ec_; subst ea_; subst ec_; clear en_) | (go_at_call 43; (with_reducible refine (spec_l00In.calls (wrap64 ((rd_T30 l0 0).f1)) 1 24 false _ A6.out).mono ?_); rintro e w' ⟨rfl, ⟨nd, rfl⟩⟩))
          go_meet
          case rel => exact ⟨_, (true), (by first | rfl | (simp; done) | (simp [*]; done) | (exact congrArg (Value.int .i64) (wrap_eq (by omega)))), H', ⟨by first | omega | exact Nat.le_refl _⟩, ⟨by repeat (first | (with_reducible first | exact HB.out | apply below_alloc | apply pw_below_drewN | apply below_drew1) | exact HB.out)⟩⟩
      · replace c5 := Bool.eq_false_iff.mpr c5
        subst c5
        have H1 : (spec_l01Ok.j0 k l0 true) = some r := by rw [if_neg (show ¬ (false = true) by decide)] at H; exact H
        clear H
        have H := H1
        clear H1
        have H' := Aside0.mk H
        clear H
        have p161 : 0 ≤ (0 : Int) := (by omega)
        have q161 : 0 < (l0.length : Int) := of_decide_eq_true (by first | (with_reducible assumption) | assumption)
        obtain ⟨ad161, A161_2, c161_2, e161, hx161_0, hx161_1, hx161_2, hl161_2, hi161_2⟩ := at_T30 HR0.out 0 p161 q161
        obtain rfl : adp0 = ad161 := (by injection e161)
        have qi161 : (0 < l0.length) = True := eq_true (by omega)
        (try rw [show ((0 : Int)).toNat = 0 from rfl] at hx161_0)
        (try rw [show 0 * 3 = 0 from rfl] at hx161_0)
        (try rw [Addr.add_zero'] at hx161_0)
        (try rw [show ((0 : Int)).toNat = 0 from rfl] at hx161_1)
        (try rw [show 0 * 3 = 0 from rfl] at hx161_1)
        (try rw [Addr.add_zero'] at hx161_1)
        (try rw [show ((0 : Int)).toNat = 0 from rfl] at hx161_2)
        (try rw [show 0 * 3 = 0 from rfl] at hx161_2)
        (try rw [Addr.add_zero'] at hx161_2)
        replace hx161_0 := (HB.out.cell (World.block_lt_of_cell? w _ hx161_0)).trans hx161_0
        replace hx161_1 := (HB.out.cell (World.block_lt_of_cell? w _ hx161_1)).trans hx161_1
        replace hx161_2 := (HB.out.cell (World.block_lt_of_cell? w _ hx161_2)).trans hx161_2
        have HR161_2 := Aside0.mk hi161_2
        have HC161_2 := Aside0.mk hl161_2
        clear hi161_2 hl161_2
        replace p161 := eq_true p161
        replace q161 := eq_true q161
        go_wp2_with (first | ((with_reducible refine gate_callee (f := 43) rfl ?_); refine goesL_ (some 10) rfl rfl Try.func43 (by kernel_rfl) rfl #[.int .i64 (wrap64 ((rd_T30 l0 0).f0)), .int .i64 1, .int .i64 24] rfl (by (try simp only [List.map_toArray, List.map_cons, List.map_nil]); first | done | rfl | (simp only [List.length_drop, List.length_take]; rfl)) ?_; (with_reducible refine (spec_l00In.calls (wrap64 ((rd_T30 l0 0).f0)) 1 24 false _ A4.out).mono ?_); rintro e w' ⟨rfl, ⟨nd, rfl⟩⟩; refine ⟨_, rfl, ?_⟩))
        go_meet
        case rel => exact ⟨_, (true), (by first | rfl | (simp; done) | (simp [*]; done) | (exact congrArg (Value.int .i64) (wrap_eq (by omega)))), H', ⟨by first | omega | exact Nat.le_refl _⟩, ⟨by repeat (first | (with_reducible first | exact HB.out | apply below_alloc | apply pw_below_drewN | apply below_drew1) | exact HB.out)⟩⟩
    · rw [if_neg c3] at H
      exact absurd H (by simp)
  case rest =>
    clear HC2
    try clear c1
    try clear p1
    try clear q1
    try clear hx1
    try clear qi1
    try clear c2
    try clear p2
    try clear c3
    try clear c3b0
    try clear c3b1
    try clear c4
    try clear c5
    try clear p6
    try clear c7
    try clear hx161_0
    try clear hx161_1
    try clear hx161_2
    try clear hx163_0
    try clear hx163_1
    try clear hx163_2
    try clear hx165_0
    try clear hx165_1
    try clear hx165_2
    try clear p161
    try clear p163
    try clear p165
    try clear q161
    try clear q163
    try clear q165
    obtain ⟨kq, x28_1, rfl, HA, HJ1, HB⟩ := hcut
    cases kq with
    | zero => exact absurd HA.out (by simp [spec_l01Ok.j0])
    | succ kj1 =>
      have H := HA.out
      clear HA
      simp only [spec_l01Ok.j0] at H
      by_cases c8 : x28_1 = true
      · subst c8
        have H1 : (some false) = some r := by rw [if_pos rfl] at H; exact H
        clear H
        have H := H1
        clear H1
        obtain rfl := Option.some.inj H
        go_wp2
        go_ret
        exact ⟨by first | rfl | (simp [errW_none, errW_some] <;> rfl) | (simp [*, errW_none, errW_some] <;> rfl), by repeat (first | (with_reducible first | exact HB.out | apply below_alloc | apply pw_below_drewN | apply below_drew1) | exact HB.out)⟩
      · replace c8 := Bool.eq_false_iff.mpr c8
        subst c8
        have H1 : (spec_l01Ok.l0 kj1 l0 0) = some r := by rw [if_neg (show ¬ (false = true) by decide)] at H; exact H
        clear H
        have H := H1
        clear H1
        have H' := Aside0.mk H
        clear H
        go_wp2
        go_loopg [3] kj1 (fun kq v3 w' => ∃ (x3_2 : Int), v3 = .int .i64 x3_2 ∧ Aside0 (spec_l01Ok.l0 kq l0 x3_2 = some r) ∧ Aside0 (kq ≤ kj1) ∧ Aside0 (Below w.heap.size w w'))
        case atStart => exact ⟨(0), (by first | rfl | (simp; done) | (simp [*]; done) | (exact congrArg (Value.int .i64) (wrap_eq (by omega)))), H', ⟨Nat.le_refl _⟩, ⟨by repeat (first | (with_reducible first | exact HB.out | apply below_alloc | apply pw_below_drewN | apply below_drew1) | exact HB.out)⟩⟩
        case round =>
          clear H'
          try clear c1
          try clear p1
          try clear q1
          try clear hx1
          try clear qi1
          try clear c2
          try clear p2
          try clear c3
          try clear c3b0
          try clear c3b1
          try clear c4
          try clear c5
          try clear p6
          try clear c7
          try clear c8
          try clear hx161_0
          try clear hx161_1
          try clear hx161_2
          try clear hx163_0
          try clear hx163_1
          try clear hx163_2
          try clear hx165_0
          try clear hx165_1
          try clear hx165_2
          try clear p1
          try clear p161
          try clear p163
          try clear p165
          try clear p2
          try clear p6
          try clear q1
          try clear q161
          try clear q163
          try clear q165
          obtain ⟨x3_2, rfl, HA, HK2, HB⟩ := hrel
          cases gk with
          | zero => exact absurd HA.out (by simp [spec_l01Ok.l0])
          | succ k2 =>
            have H := HA.out
            clear HA
            simp only [spec_l01Ok.l0] at H
            by_cases c9 : 0 < (l0.length : Int)
            · rw [if_pos c9] at H
              have c9b0 : decide (0 < (l0.length : Int)) = true := decide_eq_true c9
              have c9b1 : decide (0 < l0.length) = true := decide_eq_true (by omega)
              clear c9
              by_cases c10 : x3_2 < (((rd_T30 l0 0).f2).length : Int)
              · rw [if_pos c10] at H
                have c10b0 : decide (x3_2 < (((rd_T30 l0 0).f2).length : Int)) = true := decide_eq_true c10
                clear c10
                by_cases c11 : 0 ≤ x3_2
                · rw [if_pos c11] at H
                  have c11b0 : decide (0 ≤ x3_2) = true := decide_eq_true c11
                  clear c11
                  replace H := Option.bind_eq_some_iff.mp H
                  obtain ⟨t169, A120, H⟩ := H
                  replace H : (if t169 = true then ((spec_l01In.f ((rd_T62 ((rd_T30 l0 0).f2) x3_2).f0.f0) ((rd_T62 ((rd_T30 l0 0).f2) x3_2).f0.f1) (wrap64 ((rd_T30 l0 0).f0)) (wrap64 ((rd_T30 l0 0).f1))).bind fun t173 => (if t173 = true then ((spec_l01Find.f k2 l0 ((rd_T62 ((rd_T30 l0 0).f2) x3_2).f0.f0) ((rd_T62 ((rd_T30 l0 0).f2) x3_2).f0.f1)).bind fun t175 => (if t175 = x3_2 then (spec_l01Ok.l0 k2 l0 (wrap64 (x3_2 + 1))) else (some false))) else (some false))) else (some false)) = some r := H
                  have A12 := Aside0.mk A120
                  clear A120
                  by_cases c13 : t169 = true
                  · subst c13
                    have H1 : ((spec_l01In.f ((rd_T62 ((rd_T30 l0 0).f2) x3_2).f0.f0) ((rd_T62 ((rd_T30 l0 0).f2) x3_2).f0.f1) (wrap64 ((rd_T30 l0 0).f0)) (wrap64 ((rd_T30 l0 0).f1))).bind fun t173 => (if t173 = true then ((spec_l01Find.f k2 l0 ((rd_T62 ((rd_T30 l0 0).f2) x3_2).f0.f0) ((rd_T62 ((rd_T30 l0 0).f2) x3_2).f0.f1)).bind fun t175 => (if t175 = x3_2 then (spec_l01Ok.l0 k2 l0 (wrap64 (x3_2 + 1))) else (some false))) else (some false))) = some r := by rw [if_pos rfl] at H; exact H
                    clear H
                    have H := H1
                    clear H1
                    replace H := Option.bind_eq_some_iff.mp H
                    obtain ⟨t173, A140, H⟩ := H
                    replace H : (if t173 = true then ((spec_l01Find.f k2 l0 ((rd_T62 ((rd_T30 l0 0).f2) x3_2).f0.f0) ((rd_T62 ((rd_T30 l0 0).f2) x3_2).f0.f1)).bind fun t175 => (if t175 = x3_2 then (spec_l01Ok.l0 k2 l0 (wrap64 (x3_2 + 1))) else (some false))) else (some false)) = some r := H
                    have A14 := Aside0.mk A140
                    clear A140
                    by_cases c15 : t173 = true
                    · subst c15
                      have H1 : ((spec_l01Find.f k2 l0 ((rd_T62 ((rd_T30 l0 0).f2) x3_2).f0.f0) ((rd_T62 ((rd_T30 l0 0).f2) x3_2).f0.f1)).bind fun t175 => (if t175 = x3_2 then (spec_l01Ok.l0 k2 l0 (wrap64 (x3_2 + 1))) else (some false))) = some r := by rw [if_pos rfl] at H; exact H
                      clear H
                      have H := H1
                      clear H1
                      replace H := Option.bind_eq_some_iff.mp H
                      obtain ⟨t175, A160, H⟩ := H
                      replace H : (if t175 = x3_2 then (spec_l01Ok.l0 k2 l0 (wrap64 (x3_2 + 1))) else (some false)) = some r := H
                      have A16 := Aside0.mk A160
                      clear A160
                      by_cases c17 : t175 = x3_2
                      · rw [if_pos c17] at H
                        have c17b0 : (t175 == x3_2) = true := beq_iff_eq.mpr c17
                        have c17b1 : (t175 != x3_2) = false := bne_eq_false_iff_eq.mpr c17
                        clear c17
                        have H' := Aside0.mk H
                        clear H
                        have p166 : 0 ≤ (0 : Int) := (by omega)
                        have q166 : 0 < (l0.length : Int) := of_decide_eq_true (by first | (with_reducible assumption) | assumption)
                        obtain ⟨ad166, A166_2, c166_2, e166, hx166_0, hx166_1, hx166_2, hl166_2, hi166_2⟩ := at_T30 HR0.out 0 p166 q166
                        obtain rfl : adp0 = ad166 := (by injection e166)
                        have qi166 : (0 < l0.length) = True := eq_true (by omega)
                        (try rw [show ((0 : Int)).toNat = 0 from rfl] at hx166_0)
                        (try rw [show 0 * 3 = 0 from rfl] at hx166_0)
                        (try rw [Addr.add_zero'] at hx166_0)
                        (try rw [show ((0 : Int)).toNat = 0 from rfl] at hx166_1)
                        (try rw [show 0 * 3 = 0 from rfl] at hx166_1)
                        (try rw [Addr.add_zero'] at hx166_1)
                        (try rw [show ((0 : Int)).toNat = 0 from rfl] at hx166_2)
                        (try rw [show 0 * 3 = 0 from rfl] at hx166_2)
                        (try rw [Addr.add_zero'] at hx166_2)
                        replace hx166_0 := (HB.out.cell (World.block_lt_of_cell? w _ hx166_0)).trans hx166_0
                        replace hx166_1 := (HB.out.cell (World.block_lt_of_cell? w _ hx166_1)).trans hx166_1
                        replace hx166_2 := (HB.out.cell (World.block_lt_of_cell? w _ hx166_2)).trans hx166_2
                        have HR166_2 := Aside0.mk hi166_2
                        have HC166_2 := Aside0.mk hl166_2
                        clear hi166_2 hl166_2
                        replace p166 := eq_true p166
                        replace q166 := eq_true q166
                        have p167 : 0 ≤ (0 : Int) := (by omega)
                        have q167 : 0 < (l0.length : Int) := of_decide_eq_true (by first | (with_reducible assumption) | assumption)
                        obtain ⟨ad167, A167_2, c167_2, e167, hx167_0, hx167_1, hx167_2, hl167_2, hi167_2⟩ := at_T30 HR0.out 0 p167 q167
                        obtain rfl : adp0 = ad167 := (by injection e167)
                        have qi167 : (0 < l0.length) = True := eq_true (by omega)
                        (try rw [show ((0 : Int)).toNat = 0 from rfl] at hx167_0)
                        (try rw [show 0 * 3 = 0 from rfl] at hx167_0)
                        (try rw [Addr.add_zero'] at hx167_0)
                        (try rw [show ((0 : Int)).toNat = 0 from rfl] at hx167_1)
                        (try rw [show 0 * 3 = 0 from rfl] at hx167_1)
                        (try rw [Addr.add_zero'] at hx167_1)
                        (try rw [show ((0 : Int)).toNat = 0 from rfl] at hx167_2)
                        (try rw [show 0 * 3 = 0 from rfl] at hx167_2)
                        (try rw [Addr.add_zero'] at hx167_2)
                        replace hx167_0 := (HB.out.cell (World.block_lt_of_cell? w _ hx167_0)).trans hx167_0
                        replace hx167_1 := (HB.out.cell (World.block_lt_of_cell? w _ hx167_1)).trans hx167_1
                        replace hx167_2 := (HB.out.cell (World.block_lt_of_cell? w _ hx167_2)).trans hx167_2
                        have HR167_2 := Aside0.mk hi167_2
                        have HC167_2 := Aside0.mk hl167_2
                        clear hi167_2 hl167_2
                        replace p167 := eq_true p167
                        replace q167 := eq_true q167
                        have ea_ := Option.some.inj (hx166_2.symm.trans hx167_2)
                        injection ea_ with ea_ en_ ec_
                        subst ea_
                        subst ec_
                        clear en_
                        have p168 : 0 ≤ (x3_2 : Int) := of_decide_eq_true (by first | (with_reducible assumption) | assumption)
                        have q168 : x3_2 < (((rd_T30 l0 0).f2).length : Int) := of_decide_eq_true (by first | (with_reducible assumption) | assumption)
                        obtain ⟨ad168, e168, hx168_0, hx168_1, hx168_2, hx168_3, hx168_4⟩ := at_T62 HR167_2.out x3_2 p168 q168
                        cases e168
                        replace hx168_0 := (HB.out.cell (World.block_lt_of_cell? w _ hx168_0)).trans hx168_0
                        replace hx168_1 := (HB.out.cell (World.block_lt_of_cell? w _ hx168_1)).trans hx168_1
                        replace hx168_2 := (HB.out.cell (World.block_lt_of_cell? w _ hx168_2)).trans hx168_2
                        replace hx168_3 := (HB.out.cell (World.block_lt_of_cell? w _ hx168_3)).trans hx168_3
                        replace hx168_4 := (HB.out.cell (World.block_lt_of_cell? w _ hx168_4)).trans hx168_4
                        replace p168 := eq_true p168
                        replace q168 := eq_true q168
                        try go_wp2
                        have n0_ := Aside0.mk (below_drew1 HB.out)
                        clear HB
                        have HB := n0_
                        clear n0_
                        have p170 : 0 ≤ (x3_2 : Int) := of_decide_eq_true (by first | (with_reducible assumption) | assumption)
                        have q170 : x3_2 < (((rd_T30 l0 0).f2).length : Int) := of_decide_eq_true (by first | (with_reducible assumption) | assumption)
                        obtain ⟨ad170, e170, hx170_0, hx170_1, hx170_2, hx170_3, hx170_4⟩ := at_T62 HR167_2.out x3_2 p170 q170
                        have hw170_4 := hx170_4
                        have hw170_3 := hx170_3
                        have hw170_2 := hx170_2
                        have hw170_1 := hx170_1
                        have hw170_0 := hx170_0
                        obtain rfl : ad168 = ad170 := (by injection e170)
                        replace hx170_0 := (HB.out.cell (World.block_lt_of_cell? w _ hx170_0)).trans hx170_0
                        replace hx170_1 := (HB.out.cell (World.block_lt_of_cell? w _ hx170_1)).trans hx170_1
                        replace hx170_2 := (HB.out.cell (World.block_lt_of_cell? w _ hx170_2)).trans hx170_2
                        replace hx170_3 := (HB.out.cell (World.block_lt_of_cell? w _ hx170_3)).trans hx170_3
                        replace hx170_4 := (HB.out.cell (World.block_lt_of_cell? w _ hx170_4)).trans hx170_4
                        replace p170 := eq_true p170
                        replace q170 := eq_true q170
                        have p171 : 0 ≤ (0 : Int) := (by omega)
                        have q171 : 0 < (l0.length : Int) := of_decide_eq_true (by first | (with_reducible assumption) | assumption)
                        obtain ⟨ad171, A171_2, c171_2, e171, hx171_0, hx171_1, hx171_2, hl171_2, hi171_2⟩ := at_T30 HR0.out 0 p171 q171
                        have hw171_2 := hx171_2
                        (try rw [show ((0 : Int)).toNat = 0 from rfl] at hw171_2)
                        (try rw [show 0 * 3 = 0 from rfl] at hw171_2)
                        (try rw [Addr.add_zero'] at hw171_2)
                        have hw171_1 := hx171_1
                        (try rw [show ((0 : Int)).toNat = 0 from rfl] at hw171_1)
                        (try rw [show 0 * 3 = 0 from rfl] at hw171_1)
                        (try rw [Addr.add_zero'] at hw171_1)
                        have hw171_0 := hx171_0
                        (try rw [show ((0 : Int)).toNat = 0 from rfl] at hw171_0)
                        (try rw [show 0 * 3 = 0 from rfl] at hw171_0)
                        (try rw [Addr.add_zero'] at hw171_0)
                        obtain rfl : adp0 = ad171 := (by injection e171)
                        have qi171 : (0 < l0.length) = True := eq_true (by omega)
                        (try rw [show ((0 : Int)).toNat = 0 from rfl] at hx171_0)
                        (try rw [show 0 * 3 = 0 from rfl] at hx171_0)
                        (try rw [Addr.add_zero'] at hx171_0)
                        (try rw [show ((0 : Int)).toNat = 0 from rfl] at hx171_1)
                        (try rw [show 0 * 3 = 0 from rfl] at hx171_1)
                        (try rw [Addr.add_zero'] at hx171_1)
                        (try rw [show ((0 : Int)).toNat = 0 from rfl] at hx171_2)
                        (try rw [show 0 * 3 = 0 from rfl] at hx171_2)
                        (try rw [Addr.add_zero'] at hx171_2)
                        replace hx171_0 := (HB.out.cell (World.block_lt_of_cell? w _ hx171_0)).trans hx171_0
                        replace hx171_1 := (HB.out.cell (World.block_lt_of_cell? w _ hx171_1)).trans hx171_1
                        replace hx171_2 := (HB.out.cell (World.block_lt_of_cell? w _ hx171_2)).trans hx171_2
                        have HR171_2 := Aside0.mk hi171_2
                        have HC171_2 := Aside0.mk hl171_2
                        clear hi171_2 hl171_2
                        replace p171 := eq_true p171
                        replace q171 := eq_true q171
                        have p172 : 0 ≤ (0 : Int) := (by omega)
                        have q172 : 0 < (l0.length : Int) := of_decide_eq_true (by first | (with_reducible assumption) | assumption)
                        obtain ⟨ad172, A172_2, c172_2, e172, hx172_0, hx172_1, hx172_2, hl172_2, hi172_2⟩ := at_T30 HR0.out 0 p172 q172
                        have hw172_2 := hx172_2
                        (try rw [show ((0 : Int)).toNat = 0 from rfl] at hw172_2)
                        (try rw [show 0 * 3 = 0 from rfl] at hw172_2)
                        (try rw [Addr.add_zero'] at hw172_2)
                        have hw172_1 := hx172_1
                        (try rw [show ((0 : Int)).toNat = 0 from rfl] at hw172_1)
                        (try rw [show 0 * 3 = 0 from rfl] at hw172_1)
                        (try rw [Addr.add_zero'] at hw172_1)
                        have hw172_0 := hx172_0
                        (try rw [show ((0 : Int)).toNat = 0 from rfl] at hw172_0)
                        (try rw [show 0 * 3 = 0 from rfl] at hw172_0)
                        (try rw [Addr.add_zero'] at hw172_0)
                        obtain rfl : adp0 = ad172 := (by injection e172)
                        have qi172 : (0 < l0.length) = True := eq_true (by omega)
                        (try rw [show ((0 : Int)).toNat = 0 from rfl] at hx172_0)
                        (try rw [show 0 * 3 = 0 from rfl] at hx172_0)
                        (try rw [Addr.add_zero'] at hx172_0)
                        (try rw [show ((0 : Int)).toNat = 0 from rfl] at hx172_1)
                        (try rw [show 0 * 3 = 0 from rfl] at hx172_1)
                        (try rw [Addr.add_zero'] at hx172_1)
                        (try rw [show ((0 : Int)).toNat = 0 from rfl] at hx172_2)
                        (try rw [show 0 * 3 = 0 from rfl] at hx172_2)
                        (try rw [Addr.add_zero'] at hx172_2)
                        replace hx172_0 := (HB.out.cell (World.block_lt_of_cell? w _ hx172_0)).trans hx172_0
                        replace hx172_1 := (HB.out.cell (World.block_lt_of_cell? w _ hx172_1)).trans hx172_1
                        replace hx172_2 := (HB.out.cell (World.block_lt_of_cell? w _ hx172_2)).trans hx172_2
                        have HR172_2 := Aside0.mk hi172_2
                        have HC172_2 := Aside0.mk hl172_2
                        clear hi172_2 hl172_2
                        replace p172 := eq_true p172
                        replace q172 := eq_true q172
                        have ea_ := Option.some.inj (hx171_2.symm.trans hx172_2)
                        injection ea_ with ea_ en_ ec_
                        subst ea_
                        subst ec_
                        clear en_
                        have p174 : 0 ≤ (x3_2 : Int) := of_decide_eq_true (by first | (with_reducible assumption) | assumption)
                        have q174 : x3_2 < (((rd_T30 l0 0).f2).length : Int) := of_decide_eq_true (by first | (with_reducible assumption) | assumption)
                        obtain ⟨ad174, e174, hx174_0, hx174_1, hx174_2, hx174_3, hx174_4⟩ := at_T62 HR167_2.out x3_2 p174 q174
                        have hw174_4 := hx174_4
                        have hw174_3 := hx174_3
                        have hw174_2 := hx174_2
                        have hw174_1 := hx174_1
                        have hw174_0 := hx174_0
                        obtain rfl : ad168 = ad174 := (by injection e174)
                        replace hx174_0 := (HB.out.cell (World.block_lt_of_cell? w _ hx174_0)).trans hx174_0
                        replace hx174_1 := (HB.out.cell (World.block_lt_of_cell? w _ hx174_1)).trans hx174_1
                        replace hx174_2 := (HB.out.cell (World.block_lt_of_cell? w _ hx174_2)).trans hx174_2
                        replace hx174_3 := (HB.out.cell (World.block_lt_of_cell? w _ hx174_3)).trans hx174_3
                        replace hx174_4 := (HB.out.cell (World.block_lt_of_cell? w _ hx174_4)).trans hx174_4
                        replace p174 := eq_true p174
                        replace q174 := eq_true q174
                        refine start_ (n := 31) (S := fun w' => w'.cell? (ad168.add ((x3_2).toNat * 5)) = some (.int .i8 ((rd_T62 ((rd_T30 l0 0).f2) x3_2).f0.f0)) ∧ w'.cell? ⟨(ad168.add ((x3_2).toNat * 5)).block, (ad168.add ((x3_2).toNat * 5)).off + 1, none⟩ = some (.int .i8 ((rd_T62 ((rd_T30 l0 0).f2) x3_2).f0.f1)) ∧ w'.cell? ⟨(ad168.add ((x3_2).toNat * 5)).block, (ad168.add ((x3_2).toNat * 5)).off + 2, none⟩ = some (.int .i8 ((rd_T62 ((rd_T30 l0 0).f2) x3_2).f1)) ∧ w'.cell? ⟨(ad168.add ((x3_2).toNat * 5)).block, (ad168.add ((x3_2).toNat * 5)).off + 3, none⟩ = some (.int .i8 ((rd_T62 ((rd_T30 l0 0).f2) x3_2).f2)) ∧ w'.cell? ⟨(ad168.add ((x3_2).toNat * 5)).block, (ad168.add ((x3_2).toNat * 5)).off + 4, none⟩ = some (.int .i8 ((rd_T62 ((rd_T30 l0 0).f2) x3_2).f3)) ∧ w'.cell? adp0 = some (.int .i8 ((rd_T30 l0 0).f0)) ∧ w'.cell? ⟨adp0.block, adp0.off + 1, none⟩ = some (.int .i8 ((rd_T30 l0 0).f1)) ∧ w'.cell? ⟨adp0.block, adp0.off + 2, none⟩ = some (.slice A171_2 ((rd_T30 l0 0).f2).length c171_2) ∧ w'.cell? adp0 = some (.int .i8 ((rd_T30 l0 0).f0)) ∧ w'.cell? ⟨adp0.block, adp0.off + 1, none⟩ = some (.int .i8 ((rd_T30 l0 0).f1)) ∧ w'.cell? ⟨adp0.block, adp0.off + 2, none⟩ = some (.slice A171_2 ((rd_T30 l0 0).f2).length c171_2) ∧ w'.cell? (ad168.add ((x3_2).toNat * 5)) = some (.int .i8 ((rd_T62 ((rd_T30 l0 0).f2) x3_2).f0.f0)) ∧ w'.cell? ⟨(ad168.add ((x3_2).toNat * 5)).block, (ad168.add ((x3_2).toNat * 5)).off + 1, none⟩ = some (.int .i8 ((rd_T62 ((rd_T30 l0 0).f2) x3_2).f0.f1)) ∧ w'.cell? ⟨(ad168.add ((x3_2).toNat * 5)).block, (ad168.add ((x3_2).toNat * 5)).off + 2, none⟩ = some (.int .i8 ((rd_T62 ((rd_T30 l0 0).f2) x3_2).f1)) ∧ w'.cell? ⟨(ad168.add ((x3_2).toNat * 5)).block, (ad168.add ((x3_2).toNat * 5)).off + 3, none⟩ = some (.int .i8 ((rd_T62 ((rd_T30 l0 0).f2) x3_2).f2)) ∧ w'.cell? ⟨(ad168.add ((x3_2).toNat * 5)).block, (ad168.add ((x3_2).toNat * 5)).off + 4, none⟩ = some (.int .i8 ((rd_T62 ((rd_T30 l0 0).f2) x3_2).f3))) (ds := []) #[false, false, false, false, false, false, false, false, false, false, false, false, false, false, false, false, false, false, false, false, false, false, false, false, false, false, false, false, false, false, false] (by kernel_rfl) rfl rfl ⟨((HB.out.cell (World.block_lt_of_cell? w _ hw170_0)).trans hw170_0), ((HB.out.cell (World.block_lt_of_cell? w _ hw170_1)).trans hw170_1), ((HB.out.cell (World.block_lt_of_cell? w _ hw170_2)).trans hw170_2), ((HB.out.cell (World.block_lt_of_cell? w _ hw170_3)).trans hw170_3), ((HB.out.cell (World.block_lt_of_cell? w _ hw170_4)).trans hw170_4), ((HB.out.cell (World.block_lt_of_cell? w _ hw171_0)).trans hw171_0), ((HB.out.cell (World.block_lt_of_cell? w _ hw171_1)).trans hw171_1), ((HB.out.cell (World.block_lt_of_cell? w _ hw171_2)).trans hw171_2), ((HB.out.cell (World.block_lt_of_cell? w _ hw172_0)).trans hw172_0), ((HB.out.cell (World.block_lt_of_cell? w _ hw172_1)).trans hw172_1), ((HB.out.cell (World.block_lt_of_cell? w _ hw172_2)).trans hw172_2), ((HB.out.cell (World.block_lt_of_cell? w _ hw174_0)).trans hw174_0), ((HB.out.cell (World.block_lt_of_cell? w _ hw174_1)).trans hw174_1), ((HB.out.cell (World.block_lt_of_cell? w _ hw174_2)).trans hw174_2), ((HB.out.cell (World.block_lt_of_cell? w _ hw174_3)).trans hw174_3), ((HB.out.cell (World.block_lt_of_cell? w _ hw174_4)).trans hw174_4)⟩ (fun hHeld => ?_); refine with_tabW spec_l01Ok.tab7 spec_l01Ok.bits7 (fun HT_ HW_ => ?_)
                        generalize wr.drew = w18 at HB HR171_2 HR172_2 hx170_0 hx170_1 hx170_2 hx170_3 hx170_4 hx171_0 hx171_1 hx171_2 hx172_0 hx172_1 hx172_2 hx174_0 hx174_1 hx174_2 hx174_3 hx174_4 hHeld ⊢
                        refine pure_ (i := 0) (N := some 44) (v := ?_) (a' := ?_) #[true, false, false, false, false, false, false, false, false, false, false, false, false, false, false, false, false, false, false, false, false, false, false, false, false, false, false, false, false, false, false] rfl rfl (any_of HT_.out (by kernel_rfl)) (fun _ _ _ h => h) (Or.inl ⟨by rfl, ?_⟩) ?_ ?_
                        rotate_left
                        · intro w'
                          go_simp
                          with_reducible rfl
                        rotate_left
                        · simp only [Act.put, List.setIfInBounds_toArray, List.set_cons_zero, List.set_cons_succ, i64_w, i32_w]
                          rfl
                        refine one_ (i := 1) (N := some 45) #[true, true, false, false, false, false, false, false, false, false, false, false, false, false, false, false, false, false, false, false, false, false, false, false, false, false, false, false, false, false, false] rfl rfl (one_of HT_.out (by kernel_rfl)) (by decide) (fun K hK => ?_)
                        refine goes_ Try.func44 (by kernel_rfl) rfl #[.pointer (some (ad168.add (x3_2.toNat * 5)))] (by rfl) rfl rfl (by (try simp only [List.map_toArray, List.map_cons, List.map_nil]); first | done | rfl | (simp only [List.length_drop, List.length_take]; rfl)) ?_
                        with_reducible refine (spec_l01Piece.calls _ [rd_T62 ((rd_T30 l0 0).f2) x3_2] true _ ?side1 A12.out).mono ?_
                        (case side1 => refine ro_of_elem (d := k62) z62 x3_2 (by first | exact of_eq_true p168 | omega) (by first | exact of_eq_true q168 | omega) ?_; repeat (first | exact (Kd.C_below HR167_2.out HB.out) | (with_reducible refine Kd.C_alloc ?_ _) | (with_reducible refine Kd.C_drewN ?_ _) | (with_reducible refine Kd.C_drew ?_)))
                        rintro e w19 ⟨rfl, hb⟩
                        refine ⟨_, rfl, ?_⟩
                        have n0_ := Aside0.mk (below_step (by repeat (first | (with_reducible first | exact HB.out | apply below_alloc | apply pw_below_drewN | apply below_drew1) | exact HB.out)) hb)
                        clear HB
                        have HB := n0_
                        clear n0_
                        (try clear hb)
                        (try clear hb2)
                        (try clear hk)
                        (try clear hi)
                        refine hK.out _ _ ⟨((HB.out.cell (World.block_lt_of_cell? w _ hw170_0)).trans hw170_0), ((HB.out.cell (World.block_lt_of_cell? w _ hw170_1)).trans hw170_1), ((HB.out.cell (World.block_lt_of_cell? w _ hw170_2)).trans hw170_2), ((HB.out.cell (World.block_lt_of_cell? w _ hw170_3)).trans hw170_3), ((HB.out.cell (World.block_lt_of_cell? w _ hw170_4)).trans hw170_4), ((HB.out.cell (World.block_lt_of_cell? w _ hw171_0)).trans hw171_0), ((HB.out.cell (World.block_lt_of_cell? w _ hw171_1)).trans hw171_1), ((HB.out.cell (World.block_lt_of_cell? w _ hw171_2)).trans hw171_2), ((HB.out.cell (World.block_lt_of_cell? w _ hw172_0)).trans hw172_0), ((HB.out.cell (World.block_lt_of_cell? w _ hw172_1)).trans hw172_1), ((HB.out.cell (World.block_lt_of_cell? w _ hw172_2)).trans hw172_2), ((HB.out.cell (World.block_lt_of_cell? w _ hw174_0)).trans hw174_0), ((HB.out.cell (World.block_lt_of_cell? w _ hw174_1)).trans hw174_1), ((HB.out.cell (World.block_lt_of_cell? w _ hw174_2)).trans hw174_2), ((HB.out.cell (World.block_lt_of_cell? w _ hw174_3)).trans hw174_3), ((HB.out.cell (World.block_lt_of_cell? w _ hw174_4)).trans hw174_4)⟩ (fun hHeld => ?_)
                        clear hK K
                        refine norm_ (a' := ?_) ?_ ?_
                        rotate_left
                        · show Act.put _ (some 45) _ = _
                          simp only [Act.put, List.setIfInBounds_toArray, List.set_cons_zero, List.set_cons_succ, i64_w, i32_w]
                          rfl
                        refine pure_ (i := 2) (N := some 46) (v := ?_) (a' := ?_) #[true, true, true, false, false, false, false, false, false, false, false, false, false, false, false, false, false, false, false, false, false, false, false, false, false, false, false, false, false, false, false] rfl rfl (any_of HT_.out (by kernel_rfl)) (fun _ _ _ h => h) (Or.inl ⟨by rfl, ?_⟩) ?_ ?_
                        rotate_left
                        · intro w'
                          go_simp
                          with_reducible rfl
                        rotate_left
                        · simp only [Act.put, List.setIfInBounds_toArray, List.set_cons_zero, List.set_cons_succ, i64_w, i32_w]
                          rfl
                        refine pure_ (i := 3) (N := some 47) (v := ?_) (a' := ?_) #[true, true, true, true, false, false, false, false, false, false, false, false, false, false, false, false, false, false, false, false, false, false, false, false, false, false, false, false, false, false, false] rfl rfl (any_of HT_.out (by kernel_rfl)) (fun _ _ _ h => h) (Or.inl ⟨by rfl, ?_⟩) ?_ ?_
                        rotate_left
                        · intro w'
                          go_simp
                          with_reducible rfl
                        rotate_left
                        · simp only [Act.put, List.setIfInBounds_toArray, List.set_cons_zero, List.set_cons_succ, i64_w, i32_w]
                          rfl
                        refine pure_ (i := 4) (N := some 48) (v := ?_) (a' := ?_) #[true, true, true, true, true, false, false, false, false, false, false, false, false, false, false, false, false, false, false, false, false, false, false, false, false, false, false, false, false, false, false] rfl rfl (any_of HT_.out (by kernel_rfl)) (fun _ _ _ h => h) (Or.inl ⟨by rfl, ?_⟩) ?_ ?_
                        rotate_left
                        · intro w'
                          go_simp
                          with_reducible rfl
                        rotate_left
                        · simp only [Act.put, List.setIfInBounds_toArray, List.set_cons_zero, List.set_cons_succ, i64_w, i32_w]
                          rfl
                        refine pure_ (i := 5) (N := some 49) (v := ?_) (a' := ?_) #[true, true, true, true, true, true, false, false, false, false, false, false, false, false, false, false, false, false, false, false, false, false, false, false, false, false, false, false, false, false, false] rfl rfl (any_of HT_.out (by kernel_rfl)) (fun _ _ _ h => h) (Or.inl ⟨by rfl, ?_⟩) ?_ ?_
                        rotate_left
                        · intro w'
                          go_simp
                          with_reducible rfl
                        rotate_left
                        · simp only [Act.put, List.setIfInBounds_toArray, List.set_cons_zero, List.set_cons_succ, i64_w, i32_w]
                          rfl
                        refine pure_ (i := 6) (N := some 50) (v := ?_) (a' := ?_) #[true, true, true, true, true, true, true, false, false, false, false, false, false, false, false, false, false, false, false, false, false, false, false, false, false, false, false, false, false, false, false] rfl rfl (any_of HT_.out (by kernel_rfl)) (fun _ _ _ h => h) (Or.inl ⟨by rfl, ?_⟩) ?_ ?_
                        rotate_left
                        · intro w'
                          go_simp
                          with_reducible rfl
                        rotate_left
                        · simp only [Act.put, List.setIfInBounds_toArray, List.set_cons_zero, List.set_cons_succ, i64_w, i32_w]
                          rfl
                        refine pure_ (i := 8) (N := some 52) (v := ?_) (a' := ?_) #[true, true, true, true, true, true, true, false, true, false, false, false, false, false, false, false, false, false, false, false, false, false, false, false, false, false, false, false, false, false, false] rfl rfl (any_of HT_.out (by kernel_rfl)) (fun _ _ _ h => h) (Or.inl ⟨by rfl, ?_⟩) ?_ ?_
                        rotate_left
                        · intro w'
                          go_simp
                          with_reducible rfl
                        rotate_left
                        · simp only [Act.put, List.setIfInBounds_toArray, List.set_cons_zero, List.set_cons_succ, i64_w, i32_w]
                          rfl
                        refine pure_ (i := 9) (N := some 53) (v := ?_) (a' := ?_) #[true, true, true, true, true, true, true, false, true, true, false, false, false, false, false, false, false, false, false, false, false, false, false, false, false, false, false, false, false, false, false] rfl rfl (any_of HT_.out (by kernel_rfl)) (fun _ _ _ h => h) (Or.inl ⟨by rfl, ?_⟩) ?_ ?_
                        rotate_left
                        · intro w'
                          go_simp
                          with_reducible rfl
                        rotate_left
                        · simp only [Act.put, List.setIfInBounds_toArray, List.set_cons_zero, List.set_cons_succ, i64_w, i32_w]
                          rfl
                        refine pure_ (i := 10) (N := some 54) (v := ?_) (a' := ?_) #[true, true, true, true, true, true, true, false, true, true, true, false, false, false, false, false, false, false, false, false, false, false, false, false, false, false, false, false, false, false, false] rfl rfl (any_of HT_.out (by kernel_rfl)) (fun _ _ _ h => h) (Or.inl ⟨by rfl, ?_⟩) ?_ ?_
                        rotate_left
                        · intro w'
                          go_simp
                          with_reducible rfl
                        rotate_left
                        · simp only [Act.put, List.setIfInBounds_toArray, List.set_cons_zero, List.set_cons_succ, i64_w, i32_w]
                          rfl
                        refine pure_ (i := 13) (N := some 57) (v := ?_) (a' := ?_) #[true, true, true, true, true, true, true, false, true, true, true, false, false, true, false, false, false, false, false, false, false, false, false, false, false, false, false, false, false, false, false] rfl rfl (any_of HT_.out (by kernel_rfl)) (fun _ _ _ h => h) (Or.inl ⟨by rfl, ?_⟩) ?_ ?_
                        rotate_left
                        · intro w'
                          go_simp
                          with_reducible rfl
                        rotate_left
                        · simp only [Act.put, List.setIfInBounds_toArray, List.set_cons_zero, List.set_cons_succ, i64_w, i32_w]
                          rfl
                        refine pure_ (i := 14) (N := some 58) (v := ?_) (a' := ?_) #[true, true, true, true, true, true, true, false, true, true, true, false, false, true, true, false, false, false, false, false, false, false, false, false, false, false, false, false, false, false, false] rfl rfl (any_of HT_.out (by kernel_rfl)) (fun _ _ _ h => h) (Or.inl ⟨by rfl, ?_⟩) ?_ ?_
                        rotate_left
                        · intro w'
                          go_simp
                          with_reducible rfl
                        rotate_left
                        · simp only [Act.put, List.setIfInBounds_toArray, List.set_cons_zero, List.set_cons_succ, i64_w, i32_w]
                          rfl
                        refine pure_ (i := 15) (N := some 59) (v := ?_) (a' := ?_) #[true, true, true, true, true, true, true, false, true, true, true, false, false, true, true, true, false, false, false, false, false, false, false, false, false, false, false, false, false, false, false] rfl rfl (any_of HT_.out (by kernel_rfl)) (fun _ _ _ h => h) (Or.inl ⟨by rfl, ?_⟩) ?_ ?_
                        rotate_left
                        · intro w'
                          go_simp
                          with_reducible rfl
                        rotate_left
                        · simp only [Act.put, List.setIfInBounds_toArray, List.set_cons_zero, List.set_cons_succ, i64_w, i32_w]
                          rfl
                        refine take_ (i := 7) (N := some 51) (v := ?_) (a' := ?_) #[true, true, true, true, true, true, true, true, true, true, true, false, false, true, true, true, false, false, false, false, false, false, false, false, false, false, false, false, false, false, false] rfl rfl (take_ofW HT_.out HW_.out (by kernel_rfl)) (fun _ _ _ h => h) (Or.inl ⟨by rfl, ?_⟩) hHeld ?_ ?_
                        rotate_left
                        · rintro w' ⟨s0, s1, s2, s3, s4, s5, s6, s7, s8, s9, s10, s11, s12, s13, s14, s15⟩
                          go_simp
                          with_reducible rfl
                        rotate_left
                        · simp only [Act.put, List.setIfInBounds_toArray, List.set_cons_zero, List.set_cons_succ, i64_w, i32_w]
                          rfl
                        refine take_ (i := 11) (N := some 55) (v := ?_) (a' := ?_) #[true, true, true, true, true, true, true, true, true, true, true, true, false, true, true, true, false, false, false, false, false, false, false, false, false, false, false, false, false, false, false] rfl rfl (take_ofW HT_.out HW_.out (by kernel_rfl)) (fun _ _ _ h => h) (Or.inl ⟨by rfl, ?_⟩) hHeld ?_ ?_
                        rotate_left
                        · rintro w' ⟨s0, s1, s2, s3, s4, s5, s6, s7, s8, s9, s10, s11, s12, s13, s14, s15⟩
                          go_simp
                          with_reducible rfl
                        rotate_left
                        · simp only [Act.put, List.setIfInBounds_toArray, List.set_cons_zero, List.set_cons_succ, i64_w, i32_w]
                          rfl
                        refine pure_ (i := 12) (N := some 56) (v := ?_) (a' := ?_) #[true, true, true, true, true, true, true, true, true, true, true, true, true, true, true, true, false, false, false, false, false, false, false, false, false, false, false, false, false, false, false] rfl rfl (any_of HT_.out (by kernel_rfl)) (fun _ _ _ h => h) (Or.inl ⟨by rfl, ?_⟩) ?_ ?_
                        rotate_left
                        · intro w'
                          go_simp
                          with_reducible rfl
                        rotate_left
                        · simp only [Act.put, List.setIfInBounds_toArray, List.set_cons_zero, List.set_cons_succ, i64_w, i32_w]
                          rfl
                        refine take_ (i := 16) (N := some 60) (v := ?_) (a' := ?_) #[true, true, true, true, true, true, true, true, true, true, true, true, true, true, true, true, true, false, false, false, false, false, false, false, false, false, false, false, false, false, false] rfl rfl (take_ofW HT_.out HW_.out (by kernel_rfl)) (fun _ _ _ h => h) (Or.inl ⟨by rfl, ?_⟩) hHeld ?_ ?_
                        rotate_left
                        · rintro w' ⟨s0, s1, s2, s3, s4, s5, s6, s7, s8, s9, s10, s11, s12, s13, s14, s15⟩
                          go_simp
                          with_reducible rfl
                        rotate_left
                        · simp only [Act.put, List.setIfInBounds_toArray, List.set_cons_zero, List.set_cons_succ, i64_w, i32_w]
                          rfl
                        refine pure_ (i := 17) (N := some 61) (v := ?_) (a' := ?_) #[true, true, true, true, true, true, true, true, true, true, true, true, true, true, true, true, true, true, false, false, false, false, false, false, false, false, false, false, false, false, false] rfl rfl (any_of HT_.out (by kernel_rfl)) (fun _ _ _ h => h) (Or.inl ⟨by rfl, ?_⟩) ?_ ?_
                        rotate_left
                        · intro w'
                          go_simp
                          with_reducible rfl
                        rotate_left
                        · simp only [Act.put, List.setIfInBounds_toArray, List.set_cons_zero, List.set_cons_succ, i64_w, i32_w]
                          rfl
                        refine one_ (i := 18) (N := some 62) #[true, true, true, true, true, true, true, true, true, true, true, true, true, true, true, true, true, true, true, false, false, false, false, false, false, false, false, false, false, false, false] rfl rfl (one_of HT_.out (by kernel_rfl)) (by decide) (fun K hK => ?_)
                        refine goes_ Try.func45 (by kernel_rfl) rfl #[.agg #[.int .i8 ((rd_T62 ((rd_T30 l0 0).f2) x3_2).f0.f0), .int .i8 ((rd_T62 ((rd_T30 l0 0).f2) x3_2).f0.f1)], .int .i64 (wrap64 ((rd_T30 l0 0).f0)), .int .i64 (wrap64 ((rd_T30 l0 0).f1))] (by rfl) rfl rfl (by (try simp only [List.map_toArray, List.map_cons, List.map_nil]); first | done | rfl | (simp only [List.length_drop, List.length_take]; rfl)) ?_
                        with_reducible refine (spec_l01In.calls ((rd_T62 ((rd_T30 l0 0).f2) x3_2).f0.f0) ((rd_T62 ((rd_T30 l0 0).f2) x3_2).f0.f1) (wrap64 ((rd_T30 l0 0).f0)) (wrap64 ((rd_T30 l0 0).f1)) true _ A14.out).mono ?_
                        rintro e w20 ⟨rfl, hb⟩
                        refine ⟨_, rfl, ?_⟩
                        have n0_ := Aside0.mk (below_step (by repeat (first | (with_reducible first | exact HB.out | apply below_alloc | apply pw_below_drewN | apply below_drew1) | exact HB.out)) hb)
                        clear HB
                        have HB := n0_
                        clear n0_
                        (try clear hb)
                        (try clear hb2)
                        (try clear hk)
                        (try clear hi)
                        refine hK.out _ _ ⟨((HB.out.cell (World.block_lt_of_cell? w _ hw170_0)).trans hw170_0), ((HB.out.cell (World.block_lt_of_cell? w _ hw170_1)).trans hw170_1), ((HB.out.cell (World.block_lt_of_cell? w _ hw170_2)).trans hw170_2), ((HB.out.cell (World.block_lt_of_cell? w _ hw170_3)).trans hw170_3), ((HB.out.cell (World.block_lt_of_cell? w _ hw170_4)).trans hw170_4), ((HB.out.cell (World.block_lt_of_cell? w _ hw171_0)).trans hw171_0), ((HB.out.cell (World.block_lt_of_cell? w _ hw171_1)).trans hw171_1), ((HB.out.cell (World.block_lt_of_cell? w _ hw171_2)).trans hw171_2), ((HB.out.cell (World.block_lt_of_cell? w _ hw172_0)).trans hw172_0), ((HB.out.cell (World.block_lt_of_cell? w _ hw172_1)).trans hw172_1), ((HB.out.cell (World.block_lt_of_cell? w _ hw172_2)).trans hw172_2), ((HB.out.cell (World.block_lt_of_cell? w _ hw174_0)).trans hw174_0), ((HB.out.cell (World.block_lt_of_cell? w _ hw174_1)).trans hw174_1), ((HB.out.cell (World.block_lt_of_cell? w _ hw174_2)).trans hw174_2), ((HB.out.cell (World.block_lt_of_cell? w _ hw174_3)).trans hw174_3), ((HB.out.cell (World.block_lt_of_cell? w _ hw174_4)).trans hw174_4)⟩ (fun hHeld => ?_)
                        clear hK K
                        refine norm_ (a' := ?_) ?_ ?_
                        rotate_left
                        · show Act.put _ (some 62) _ = _
                          simp only [Act.put, List.setIfInBounds_toArray, List.set_cons_zero, List.set_cons_succ, i64_w, i32_w]
                          rfl
                        refine pure_ (i := 19) (N := some 63) (v := ?_) (a' := ?_) #[true, true, true, true, true, true, true, true, true, true, true, true, true, true, true, true, true, true, true, true, false, false, false, false, false, false, false, false, false, false, false] rfl rfl (any_of HT_.out (by kernel_rfl)) (fun _ _ _ h => h) (Or.inl ⟨by rfl, ?_⟩) ?_ ?_
                        rotate_left
                        · intro w'
                          go_simp
                          with_reducible rfl
                        rotate_left
                        · simp only [Act.put, List.setIfInBounds_toArray, List.set_cons_zero, List.set_cons_succ, i64_w, i32_w]
                          rfl
                        refine pure_ (i := 20) (N := some 64) (v := ?_) (a' := ?_) #[true, true, true, true, true, true, true, true, true, true, true, true, true, true, true, true, true, true, true, true, true, false, false, false, false, false, false, false, false, false, false] rfl rfl (any_of HT_.out (by kernel_rfl)) (fun _ _ _ h => h) (Or.inl ⟨by rfl, ?_⟩) ?_ ?_
                        rotate_left
                        · intro w'
                          go_simp
                          with_reducible rfl
                        rotate_left
                        · simp only [Act.put, List.setIfInBounds_toArray, List.set_cons_zero, List.set_cons_succ, i64_w, i32_w]
                          rfl
                        refine pure_ (i := 21) (N := some 65) (v := ?_) (a' := ?_) #[true, true, true, true, true, true, true, true, true, true, true, true, true, true, true, true, true, true, true, true, true, true, false, false, false, false, false, false, false, false, false] rfl rfl (any_of HT_.out (by kernel_rfl)) (fun _ _ _ h => h) (Or.inl ⟨by rfl, ?_⟩) ?_ ?_
                        rotate_left
                        · intro w'
                          go_simp
                          with_reducible rfl
                        rotate_left
                        · simp only [Act.put, List.setIfInBounds_toArray, List.set_cons_zero, List.set_cons_succ, i64_w, i32_w]
                          rfl
                        refine pure_ (i := 22) (N := some 66) (v := ?_) (a' := ?_) #[true, true, true, true, true, true, true, true, true, true, true, true, true, true, true, true, true, true, true, true, true, true, true, false, false, false, false, false, false, false, false] rfl rfl (any_of HT_.out (by kernel_rfl)) (fun _ _ _ h => h) (Or.inl ⟨by rfl, ?_⟩) ?_ ?_
                        rotate_left
                        · intro w'
                          go_simp
                          with_reducible rfl
                        rotate_left
                        · simp only [Act.put, List.setIfInBounds_toArray, List.set_cons_zero, List.set_cons_succ, i64_w, i32_w]
                          rfl
                        refine pure_ (i := 23) (N := some 67) (v := ?_) (a' := ?_) #[true, true, true, true, true, true, true, true, true, true, true, true, true, true, true, true, true, true, true, true, true, true, true, true, false, false, false, false, false, false, false] rfl rfl (any_of HT_.out (by kernel_rfl)) (fun _ _ _ h => h) (Or.inl ⟨by rfl, ?_⟩) ?_ ?_
                        rotate_left
                        · intro w'
                          go_simp
                          with_reducible rfl
                        rotate_left
                        · simp only [Act.put, List.setIfInBounds_toArray, List.set_cons_zero, List.set_cons_succ, i64_w, i32_w]
                          rfl
                        refine pure_ (i := 24) (N := some 68) (v := ?_) (a' := ?_) #[true, true, true, true, true, true, true, true, true, true, true, true, true, true, true, true, true, true, true, true, true, true, true, true, true, false, false, false, false, false, false] rfl rfl (any_of HT_.out (by kernel_rfl)) (fun _ _ _ h => h) (Or.inl ⟨by rfl, ?_⟩) ?_ ?_
                        rotate_left
                        · intro w'
                          go_simp
                          with_reducible rfl
                        rotate_left
                        · simp only [Act.put, List.setIfInBounds_toArray, List.set_cons_zero, List.set_cons_succ, i64_w, i32_w]
                          rfl
                        refine pure_ (i := 25) (N := some 69) (v := ?_) (a' := ?_) #[true, true, true, true, true, true, true, true, true, true, true, true, true, true, true, true, true, true, true, true, true, true, true, true, true, true, false, false, false, false, false] rfl rfl (any_of HT_.out (by kernel_rfl)) (fun _ _ _ h => h) (Or.inl ⟨by rfl, ?_⟩) ?_ ?_
                        rotate_left
                        · intro w'
                          go_simp
                          with_reducible rfl
                        rotate_left
                        · simp only [Act.put, List.setIfInBounds_toArray, List.set_cons_zero, List.set_cons_succ, i64_w, i32_w]
                          rfl
                        refine pure_ (i := 28) (N := some 72) (v := ?_) (a' := ?_) #[true, true, true, true, true, true, true, true, true, true, true, true, true, true, true, true, true, true, true, true, true, true, true, true, true, true, false, false, true, false, false] rfl rfl (any_of HT_.out (by kernel_rfl)) (fun _ _ _ h => h) (Or.inl ⟨by rfl, ?_⟩) ?_ ?_
                        rotate_left
                        · intro w'
                          go_simp
                          with_reducible rfl
                        rotate_left
                        · simp only [Act.put, List.setIfInBounds_toArray, List.set_cons_zero, List.set_cons_succ, i64_w, i32_w]
                          rfl
                        refine take_ (i := 26) (N := some 70) (v := ?_) (a' := ?_) #[true, true, true, true, true, true, true, true, true, true, true, true, true, true, true, true, true, true, true, true, true, true, true, true, true, true, true, false, true, false, false] rfl rfl (take_ofW HT_.out HW_.out (by kernel_rfl)) (fun _ _ _ h => h) (Or.inl ⟨by rfl, ?_⟩) hHeld ?_ ?_
                        rotate_left
                        · rintro w' ⟨s0, s1, s2, s3, s4, s5, s6, s7, s8, s9, s10, s11, s12, s13, s14, s15⟩
                          go_simp
                          with_reducible rfl
                        rotate_left
                        · simp only [Act.put, List.setIfInBounds_toArray, List.set_cons_zero, List.set_cons_succ, i64_w, i32_w]
                          rfl
                        refine one_ (i := 27) (N := some 71) #[true, true, true, true, true, true, true, true, true, true, true, true, true, true, true, true, true, true, true, true, true, true, true, true, true, true, true, true, true, false, false] rfl rfl (one_of HT_.out (by kernel_rfl)) (by decide) (fun K hK => ?_)
                        refine goes_ Try.func26 (by kernel_rfl) rfl #[.pointer (some adp0), .agg #[.int .i8 ((rd_T62 ((rd_T30 l0 0).f2) x3_2).f0.f0), .int .i8 ((rd_T62 ((rd_T30 l0 0).f2) x3_2).f0.f1)]] (by rfl) rfl rfl (by (try simp only [List.map_toArray, List.map_cons, List.map_nil]); first | done | rfl | (simp only [List.length_drop, List.length_take]; rfl)) ?_
                        with_reducible refine (spec_l01Find.calls k2 _ l0 ((rd_T62 ((rd_T30 l0 0).f2) x3_2).f0.f0) ((rd_T62 ((rd_T30 l0 0).f2) x3_2).f0.f1) t175 _ ?side1 A16.out).mono ?_
                        (case side1 => repeat (first | exact (Kd.C_below HR0.out HB.out) | (with_reducible refine Kd.C_alloc ?_ _) | (with_reducible refine Kd.C_drewN ?_ _) | (with_reducible refine Kd.C_drew ?_)))
                        rintro e w21 ⟨rfl, hb⟩
                        refine ⟨_, rfl, ?_⟩
                        have n0_ := Aside0.mk (below_step (by repeat (first | (with_reducible first | exact HB.out | apply below_alloc | apply pw_below_drewN | apply below_drew1) | exact HB.out)) hb)
                        clear HB
                        have HB := n0_
                        clear n0_
                        (try clear hb)
                        (try clear hb2)
                        (try clear hk)
                        (try clear hi)
                        refine hK.out _ _ ⟨((HB.out.cell (World.block_lt_of_cell? w _ hw170_0)).trans hw170_0), ((HB.out.cell (World.block_lt_of_cell? w _ hw170_1)).trans hw170_1), ((HB.out.cell (World.block_lt_of_cell? w _ hw170_2)).trans hw170_2), ((HB.out.cell (World.block_lt_of_cell? w _ hw170_3)).trans hw170_3), ((HB.out.cell (World.block_lt_of_cell? w _ hw170_4)).trans hw170_4), ((HB.out.cell (World.block_lt_of_cell? w _ hw171_0)).trans hw171_0), ((HB.out.cell (World.block_lt_of_cell? w _ hw171_1)).trans hw171_1), ((HB.out.cell (World.block_lt_of_cell? w _ hw171_2)).trans hw171_2), ((HB.out.cell (World.block_lt_of_cell? w _ hw172_0)).trans hw172_0), ((HB.out.cell (World.block_lt_of_cell? w _ hw172_1)).trans hw172_1), ((HB.out.cell (World.block_lt_of_cell? w _ hw172_2)).trans hw172_2), ((HB.out.cell (World.block_lt_of_cell? w _ hw174_0)).trans hw174_0), ((HB.out.cell (World.block_lt_of_cell? w _ hw174_1)).trans hw174_1), ((HB.out.cell (World.block_lt_of_cell? w _ hw174_2)).trans hw174_2), ((HB.out.cell (World.block_lt_of_cell? w _ hw174_3)).trans hw174_3), ((HB.out.cell (World.block_lt_of_cell? w _ hw174_4)).trans hw174_4)⟩ (fun hHeld => ?_)
                        clear hK K
                        refine norm_ (a' := ?_) ?_ ?_
                        rotate_left
                        · show Act.put _ (some 71) _ = _
                          simp only [Act.put, List.setIfInBounds_toArray, List.set_cons_zero, List.set_cons_succ, i64_w, i32_w]
                          rfl
                        refine pure_ (i := 29) (N := some 73) (v := ?_) (a' := ?_) #[true, true, true, true, true, true, true, true, true, true, true, true, true, true, true, true, true, true, true, true, true, true, true, true, true, true, true, true, true, true, false] rfl rfl (any_of HT_.out (by kernel_rfl)) (fun _ _ _ h => h) (Or.inl ⟨by rfl, ?_⟩) ?_ ?_
                        rotate_left
                        · intro w'
                          go_simp
                          with_reducible rfl
                        rotate_left
                        · simp only [Act.put, List.setIfInBounds_toArray, List.set_cons_zero, List.set_cons_succ, i64_w, i32_w]
                          rfl
                        refine pure_ (i := 30) (N := some 74) (v := ?_) (a' := ?_) #[true, true, true, true, true, true, true, true, true, true, true, true, true, true, true, true, true, true, true, true, true, true, true, true, true, true, true, true, true, true, true] rfl rfl (any_of HT_.out (by kernel_rfl)) (fun _ _ _ h => h) (Or.inl ⟨by rfl, ?_⟩) ?_ ?_
                        rotate_left
                        · intro w'
                          go_simp
                          with_reducible rfl
                        rotate_left
                        · simp only [Act.put, List.setIfInBounds_toArray, List.set_cons_zero, List.set_cons_succ, i64_w, i32_w]
                          rfl
                        refine done_ (done_of HT_.out (by kernel_rfl)) ?_
                        try go_wp2
                        go_roundg k2
                        case measure => have := HJ1.out; have := HK2.out; omega
                        case rel => exact ⟨(wrap64 (x3_2 + 1)), (by first | rfl | (simp; done) | (simp [*]; done) | (exact congrArg (Value.int .i64) (wrap_eq (by omega)))), H', ⟨by have := HJ1.out; have := HK2.out; omega⟩, ⟨by repeat (first | (with_reducible first | exact HB.out | apply below_alloc | apply pw_below_drewN | apply below_drew1) | exact HB.out)⟩⟩
                      · rw [if_neg c17] at H
                        have c17b0 : (t175 == x3_2) = false := beq_eq_false_iff_ne.mpr c17
                        have c17b1 : (t175 != x3_2) = true := bne_iff_ne.mpr c17
                        obtain rfl := Option.some.inj H
                        have p166 : 0 ≤ (0 : Int) := (by omega)
                        have q166 : 0 < (l0.length : Int) := of_decide_eq_true (by first | (with_reducible assumption) | assumption)
                        obtain ⟨ad166, A166_2, c166_2, e166, hx166_0, hx166_1, hx166_2, hl166_2, hi166_2⟩ := at_T30 HR0.out 0 p166 q166
                        obtain rfl : adp0 = ad166 := (by injection e166)
                        have qi166 : (0 < l0.length) = True := eq_true (by omega)
                        (try rw [show ((0 : Int)).toNat = 0 from rfl] at hx166_0)
                        (try rw [show 0 * 3 = 0 from rfl] at hx166_0)
                        (try rw [Addr.add_zero'] at hx166_0)
                        (try rw [show ((0 : Int)).toNat = 0 from rfl] at hx166_1)
                        (try rw [show 0 * 3 = 0 from rfl] at hx166_1)
                        (try rw [Addr.add_zero'] at hx166_1)
                        (try rw [show ((0 : Int)).toNat = 0 from rfl] at hx166_2)
                        (try rw [show 0 * 3 = 0 from rfl] at hx166_2)
                        (try rw [Addr.add_zero'] at hx166_2)
                        replace hx166_0 := (HB.out.cell (World.block_lt_of_cell? w _ hx166_0)).trans hx166_0
                        replace hx166_1 := (HB.out.cell (World.block_lt_of_cell? w _ hx166_1)).trans hx166_1
                        replace hx166_2 := (HB.out.cell (World.block_lt_of_cell? w _ hx166_2)).trans hx166_2
                        have HR166_2 := Aside0.mk hi166_2
                        have HC166_2 := Aside0.mk hl166_2
                        clear hi166_2 hl166_2
                        replace p166 := eq_true p166
                        replace q166 := eq_true q166
                        have p167 : 0 ≤ (0 : Int) := (by omega)
                        have q167 : 0 < (l0.length : Int) := of_decide_eq_true (by first | (with_reducible assumption) | assumption)
                        obtain ⟨ad167, A167_2, c167_2, e167, hx167_0, hx167_1, hx167_2, hl167_2, hi167_2⟩ := at_T30 HR0.out 0 p167 q167
                        obtain rfl : adp0 = ad167 := (by injection e167)
                        have qi167 : (0 < l0.length) = True := eq_true (by omega)
                        (try rw [show ((0 : Int)).toNat = 0 from rfl] at hx167_0)
                        (try rw [show 0 * 3 = 0 from rfl] at hx167_0)
                        (try rw [Addr.add_zero'] at hx167_0)
                        (try rw [show ((0 : Int)).toNat = 0 from rfl] at hx167_1)
                        (try rw [show 0 * 3 = 0 from rfl] at hx167_1)
                        (try rw [Addr.add_zero'] at hx167_1)
                        (try rw [show ((0 : Int)).toNat = 0 from rfl] at hx167_2)
                        (try rw [show 0 * 3 = 0 from rfl] at hx167_2)
                        (try rw [Addr.add_zero'] at hx167_2)
                        replace hx167_0 := (HB.out.cell (World.block_lt_of_cell? w _ hx167_0)).trans hx167_0
                        replace hx167_1 := (HB.out.cell (World.block_lt_of_cell? w _ hx167_1)).trans hx167_1
                        replace hx167_2 := (HB.out.cell (World.block_lt_of_cell? w _ hx167_2)).trans hx167_2
                        have HR167_2 := Aside0.mk hi167_2
                        have HC167_2 := Aside0.mk hl167_2
                        clear hi167_2 hl167_2
                        replace p167 := eq_true p167
                        replace q167 := eq_true q167
                        have ea_ := Option.some.inj (hx166_2.symm.trans hx167_2)
                        injection ea_ with ea_ en_ ec_
                        subst ea_
                        subst ec_
                        clear en_
                        have p168 : 0 ≤ (x3_2 : Int) := of_decide_eq_true (by first | (with_reducible assumption) | assumption)
                        have q168 : x3_2 < (((rd_T30 l0 0).f2).length : Int) := of_decide_eq_true (by first | (with_reducible assumption) | assumption)
                        obtain ⟨ad168, e168, hx168_0, hx168_1, hx168_2, hx168_3, hx168_4⟩ := at_T62 HR167_2.out x3_2 p168 q168
                        cases e168
                        replace hx168_0 := (HB.out.cell (World.block_lt_of_cell? w _ hx168_0)).trans hx168_0
                        replace hx168_1 := (HB.out.cell (World.block_lt_of_cell? w _ hx168_1)).trans hx168_1
                        replace hx168_2 := (HB.out.cell (World.block_lt_of_cell? w _ hx168_2)).trans hx168_2
                        replace hx168_3 := (HB.out.cell (World.block_lt_of_cell? w _ hx168_3)).trans hx168_3
                        replace hx168_4 := (HB.out.cell (World.block_lt_of_cell? w _ hx168_4)).trans hx168_4
                        replace p168 := eq_true p168
                        replace q168 := eq_true q168
                        try go_wp2
                        have n0_ := Aside0.mk (below_drew1 HB.out)
                        clear HB
                        have HB := n0_
                        clear n0_
                        have p170 : 0 ≤ (x3_2 : Int) := of_decide_eq_true (by first | (with_reducible assumption) | assumption)
                        have q170 : x3_2 < (((rd_T30 l0 0).f2).length : Int) := of_decide_eq_true (by first | (with_reducible assumption) | assumption)
                        obtain ⟨ad170, e170, hx170_0, hx170_1, hx170_2, hx170_3, hx170_4⟩ := at_T62 HR167_2.out x3_2 p170 q170
                        have hw170_4 := hx170_4
                        have hw170_3 := hx170_3
                        have hw170_2 := hx170_2
                        have hw170_1 := hx170_1
                        have hw170_0 := hx170_0
                        obtain rfl : ad168 = ad170 := (by injection e170)
                        replace hx170_0 := (HB.out.cell (World.block_lt_of_cell? w _ hx170_0)).trans hx170_0
                        replace hx170_1 := (HB.out.cell (World.block_lt_of_cell? w _ hx170_1)).trans hx170_1
                        replace hx170_2 := (HB.out.cell (World.block_lt_of_cell? w _ hx170_2)).trans hx170_2
                        replace hx170_3 := (HB.out.cell (World.block_lt_of_cell? w _ hx170_3)).trans hx170_3
                        replace hx170_4 := (HB.out.cell (World.block_lt_of_cell? w _ hx170_4)).trans hx170_4
                        replace p170 := eq_true p170
                        replace q170 := eq_true q170
                        have p171 : 0 ≤ (0 : Int) := (by omega)
                        have q171 : 0 < (l0.length : Int) := of_decide_eq_true (by first | (with_reducible assumption) | assumption)
                        obtain ⟨ad171, A171_2, c171_2, e171, hx171_0, hx171_1, hx171_2, hl171_2, hi171_2⟩ := at_T30 HR0.out 0 p171 q171
                        have hw171_2 := hx171_2
                        (try rw [show ((0 : Int)).toNat = 0 from rfl] at hw171_2)
                        (try rw [show 0 * 3 = 0 from rfl] at hw171_2)
                        (try rw [Addr.add_zero'] at hw171_2)
                        have hw171_1 := hx171_1
                        (try rw [show ((0 : Int)).toNat = 0 from rfl] at hw171_1)
                        (try rw [show 0 * 3 = 0 from rfl] at hw171_1)
                        (try rw [Addr.add_zero'] at hw171_1)
                        have hw171_0 := hx171_0
                        (try rw [show ((0 : Int)).toNat = 0 from rfl] at hw171_0)
                        (try rw [show 0 * 3 = 0 from rfl] at hw171_0)
                        (try rw [Addr.add_zero'] at hw171_0)
                        obtain rfl : adp0 = ad171 := (by injection e171)
                        have qi171 : (0 < l0.length) = True := eq_true (by omega)
                        (try rw [show ((0 : Int)).toNat = 0 from rfl] at hx171_0)
                        (try rw [show 0 * 3 = 0 from rfl] at hx171_0)
                        (try rw [Addr.add_zero'] at hx171_0)
                        (try rw [show ((0 : Int)).toNat = 0 from rfl] at hx171_1)
                        (try rw [show 0 * 3 = 0 from rfl] at hx171_1)
                        (try rw [Addr.add_zero'] at hx171_1)
                        (try rw [show ((0 : Int)).toNat = 0 from rfl] at hx171_2)
                        (try rw [show 0 * 3 = 0 from rfl] at hx171_2)
                        (try rw [Addr.add_zero'] at hx171_2)
                        replace hx171_0 := (HB.out.cell (World.block_lt_of_cell? w _ hx171_0)).trans hx171_0
                        replace hx171_1 := (HB.out.cell (World.block_lt_of_cell? w _ hx171_1)).trans hx171_1
                        replace hx171_2 := (HB.out.cell (World.block_lt_of_cell? w _ hx171_2)).trans hx171_2
                        have HR171_2 := Aside0.mk hi171_2
                        have HC171_2 := Aside0.mk hl171_2
                        clear hi171_2 hl171_2
                        replace p171 := eq_true p171
                        replace q171 := eq_true q171
                        have p172 : 0 ≤ (0 : Int) := (by omega)
                        have q172 : 0 < (l0.length : Int) := of_decide_eq_true (by first | (with_reducible assumption) | assumption)
                        obtain ⟨ad172, A172_2, c172_2, e172, hx172_0, hx172_1, hx172_2, hl172_2, hi172_2⟩ := at_T30 HR0.out 0 p172 q172
                        have hw172_2 := hx172_2
                        (try rw [show ((0 : Int)).toNat = 0 from rfl] at hw172_2)
                        (try rw [show 0 * 3 = 0 from rfl] at hw172_2)
                        (try rw [Addr.add_zero'] at hw172_2)
                        have hw172_1 := hx172_1
                        (try rw [show ((0 : Int)).toNat = 0 from rfl] at hw172_1)
                        (try rw [show 0 * 3 = 0 from rfl] at hw172_1)
                        (try rw [Addr.add_zero'] at hw172_1)
                        have hw172_0 := hx172_0
                        (try rw [show ((0 : Int)).toNat = 0 from rfl] at hw172_0)
                        (try rw [show 0 * 3 = 0 from rfl] at hw172_0)
                        (try rw [Addr.add_zero'] at hw172_0)
                        obtain rfl : adp0 = ad172 := (by injection e172)
                        have qi172 : (0 < l0.length) = True := eq_true (by omega)
                        (try rw [show ((0 : Int)).toNat = 0 from rfl] at hx172_0)
                        (try rw [show 0 * 3 = 0 from rfl] at hx172_0)
                        (try rw [Addr.add_zero'] at hx172_0)
                        (try rw [show ((0 : Int)).toNat = 0 from rfl] at hx172_1)
                        (try rw [show 0 * 3 = 0 from rfl] at hx172_1)
                        (try rw [Addr.add_zero'] at hx172_1)
                        (try rw [show ((0 : Int)).toNat = 0 from rfl] at hx172_2)
                        (try rw [show 0 * 3 = 0 from rfl] at hx172_2)
                        (try rw [Addr.add_zero'] at hx172_2)
                        replace hx172_0 := (HB.out.cell (World.block_lt_of_cell? w _ hx172_0)).trans hx172_0
                        replace hx172_1 := (HB.out.cell (World.block_lt_of_cell? w _ hx172_1)).trans hx172_1
                        replace hx172_2 := (HB.out.cell (World.block_lt_of_cell? w _ hx172_2)).trans hx172_2
                        have HR172_2 := Aside0.mk hi172_2
                        have HC172_2 := Aside0.mk hl172_2
                        clear hi172_2 hl172_2
                        replace p172 := eq_true p172
                        replace q172 := eq_true q172
                        have ea_ := Option.some.inj (hx171_2.symm.trans hx172_2)
                        injection ea_ with ea_ en_ ec_
                        subst ea_
                        subst ec_
                        clear en_
                        have p174 : 0 ≤ (x3_2 : Int) := of_decide_eq_true (by first | (with_reducible assumption) | assumption)
                        have q174 : x3_2 < (((rd_T30 l0 0).f2).length : Int) := of_decide_eq_true (by first | (with_reducible assumption) | assumption)
                        obtain ⟨ad174, e174, hx174_0, hx174_1, hx174_2, hx174_3, hx174_4⟩ := at_T62 HR167_2.out x3_2 p174 q174
                        have hw174_4 := hx174_4
                        have hw174_3 := hx174_3
                        have hw174_2 := hx174_2
                        have hw174_1 := hx174_1
                        have hw174_0 := hx174_0
                        obtain rfl : ad168 = ad174 := (by injection e174)
                        replace hx174_0 := (HB.out.cell (World.block_lt_of_cell? w _ hx174_0)).trans hx174_0
                        replace hx174_1 := (HB.out.cell (World.block_lt_of_cell? w _ hx174_1)).trans hx174_1
                        replace hx174_2 := (HB.out.cell (World.block_lt_of_cell? w _ hx174_2)).trans hx174_2
                        replace hx174_3 := (HB.out.cell (World.block_lt_of_cell? w _ hx174_3)).trans hx174_3
                        replace hx174_4 := (HB.out.cell (World.block_lt_of_cell? w _ hx174_4)).trans hx174_4
                        replace p174 := eq_true p174
                        replace q174 := eq_true q174
                        refine start_ (n := 31) (S := fun w' => w'.cell? (ad168.add ((x3_2).toNat * 5)) = some (.int .i8 ((rd_T62 ((rd_T30 l0 0).f2) x3_2).f0.f0)) ∧ w'.cell? ⟨(ad168.add ((x3_2).toNat * 5)).block, (ad168.add ((x3_2).toNat * 5)).off + 1, none⟩ = some (.int .i8 ((rd_T62 ((rd_T30 l0 0).f2) x3_2).f0.f1)) ∧ w'.cell? ⟨(ad168.add ((x3_2).toNat * 5)).block, (ad168.add ((x3_2).toNat * 5)).off + 2, none⟩ = some (.int .i8 ((rd_T62 ((rd_T30 l0 0).f2) x3_2).f1)) ∧ w'.cell? ⟨(ad168.add ((x3_2).toNat * 5)).block, (ad168.add ((x3_2).toNat * 5)).off + 3, none⟩ = some (.int .i8 ((rd_T62 ((rd_T30 l0 0).f2) x3_2).f2)) ∧ w'.cell? ⟨(ad168.add ((x3_2).toNat * 5)).block, (ad168.add ((x3_2).toNat * 5)).off + 4, none⟩ = some (.int .i8 ((rd_T62 ((rd_T30 l0 0).f2) x3_2).f3)) ∧ w'.cell? adp0 = some (.int .i8 ((rd_T30 l0 0).f0)) ∧ w'.cell? ⟨adp0.block, adp0.off + 1, none⟩ = some (.int .i8 ((rd_T30 l0 0).f1)) ∧ w'.cell? ⟨adp0.block, adp0.off + 2, none⟩ = some (.slice A171_2 ((rd_T30 l0 0).f2).length c171_2) ∧ w'.cell? adp0 = some (.int .i8 ((rd_T30 l0 0).f0)) ∧ w'.cell? ⟨adp0.block, adp0.off + 1, none⟩ = some (.int .i8 ((rd_T30 l0 0).f1)) ∧ w'.cell? ⟨adp0.block, adp0.off + 2, none⟩ = some (.slice A171_2 ((rd_T30 l0 0).f2).length c171_2) ∧ w'.cell? (ad168.add ((x3_2).toNat * 5)) = some (.int .i8 ((rd_T62 ((rd_T30 l0 0).f2) x3_2).f0.f0)) ∧ w'.cell? ⟨(ad168.add ((x3_2).toNat * 5)).block, (ad168.add ((x3_2).toNat * 5)).off + 1, none⟩ = some (.int .i8 ((rd_T62 ((rd_T30 l0 0).f2) x3_2).f0.f1)) ∧ w'.cell? ⟨(ad168.add ((x3_2).toNat * 5)).block, (ad168.add ((x3_2).toNat * 5)).off + 2, none⟩ = some (.int .i8 ((rd_T62 ((rd_T30 l0 0).f2) x3_2).f1)) ∧ w'.cell? ⟨(ad168.add ((x3_2).toNat * 5)).block, (ad168.add ((x3_2).toNat * 5)).off + 3, none⟩ = some (.int .i8 ((rd_T62 ((rd_T30 l0 0).f2) x3_2).f2)) ∧ w'.cell? ⟨(ad168.add ((x3_2).toNat * 5)).block, (ad168.add ((x3_2).toNat * 5)).off + 4, none⟩ = some (.int .i8 ((rd_T62 ((rd_T30 l0 0).f2) x3_2).f3))) (ds := []) #[false, false, false, false, false, false, false, false, false, false, false, false, false, false, false, false, false, false, false, false, false, false, false, false, false, false, false, false, false, false, false] (by kernel_rfl) rfl rfl ⟨((HB.out.cell (World.block_lt_of_cell? w _ hw170_0)).trans hw170_0), ((HB.out.cell (World.block_lt_of_cell? w _ hw170_1)).trans hw170_1), ((HB.out.cell (World.block_lt_of_cell? w _ hw170_2)).trans hw170_2), ((HB.out.cell (World.block_lt_of_cell? w _ hw170_3)).trans hw170_3), ((HB.out.cell (World.block_lt_of_cell? w _ hw170_4)).trans hw170_4), ((HB.out.cell (World.block_lt_of_cell? w _ hw171_0)).trans hw171_0), ((HB.out.cell (World.block_lt_of_cell? w _ hw171_1)).trans hw171_1), ((HB.out.cell (World.block_lt_of_cell? w _ hw171_2)).trans hw171_2), ((HB.out.cell (World.block_lt_of_cell? w _ hw172_0)).trans hw172_0), ((HB.out.cell (World.block_lt_of_cell? w _ hw172_1)).trans hw172_1), ((HB.out.cell (World.block_lt_of_cell? w _ hw172_2)).trans hw172_2), ((HB.out.cell (World.block_lt_of_cell? w _ hw174_0)).trans hw174_0), ((HB.out.cell (World.block_lt_of_cell? w _ hw174_1)).trans hw174_1), ((HB.out.cell (World.block_lt_of_cell? w _ hw174_2)).trans hw174_2), ((HB.out.cell (World.block_lt_of_cell? w _ hw174_3)).trans hw174_3), ((HB.out.cell (World.block_lt_of_cell? w _ hw174_4)).trans hw174_4)⟩ (fun hHeld => ?_); refine with_tabW spec_l01Ok.tab7 spec_l01Ok.bits7 (fun HT_ HW_ => ?_)
                        generalize wr.drew = w22 at HB HR171_2 HR172_2 hx170_0 hx170_1 hx170_2 hx170_3 hx170_4 hx171_0 hx171_1 hx171_2 hx172_0 hx172_1 hx172_2 hx174_0 hx174_1 hx174_2 hx174_3 hx174_4 hHeld ⊢
                        refine pure_ (i := 0) (N := some 44) (v := ?_) (a' := ?_) #[true, false, false, false, false, false, false, false, false, false, false, false, false, false, false, false, false, false, false, false, false, false, false, false, false, false, false, false, false, false, false] rfl rfl (any_of HT_.out (by kernel_rfl)) (fun _ _ _ h => h) (Or.inl ⟨by rfl, ?_⟩) ?_ ?_
                        rotate_left
                        · intro w'
                          go_simp
                          with_reducible rfl
                        rotate_left
                        · simp only [Act.put, List.setIfInBounds_toArray, List.set_cons_zero, List.set_cons_succ, i64_w, i32_w]
                          rfl
                        refine one_ (i := 1) (N := some 45) #[true, true, false, false, false, false, false, false, false, false, false, false, false, false, false, false, false, false, false, false, false, false, false, false, false, false, false, false, false, false, false] rfl rfl (one_of HT_.out (by kernel_rfl)) (by decide) (fun K hK => ?_)
                        refine goes_ Try.func44 (by kernel_rfl) rfl #[.pointer (some (ad168.add (x3_2.toNat * 5)))] (by rfl) rfl rfl (by (try simp only [List.map_toArray, List.map_cons, List.map_nil]); first | done | rfl | (simp only [List.length_drop, List.length_take]; rfl)) ?_
                        with_reducible refine (spec_l01Piece.calls _ [rd_T62 ((rd_T30 l0 0).f2) x3_2] true _ ?side1 A12.out).mono ?_
                        (case side1 => refine ro_of_elem (d := k62) z62 x3_2 (by first | exact of_eq_true p168 | omega) (by first | exact of_eq_true q168 | omega) ?_; repeat (first | exact (Kd.C_below HR167_2.out HB.out) | (with_reducible refine Kd.C_alloc ?_ _) | (with_reducible refine Kd.C_drewN ?_ _) | (with_reducible refine Kd.C_drew ?_)))
                        rintro e w23 ⟨rfl, hb⟩
                        refine ⟨_, rfl, ?_⟩
                        have n0_ := Aside0.mk (below_step (by repeat (first | (with_reducible first | exact HB.out | apply below_alloc | apply pw_below_drewN | apply below_drew1) | exact HB.out)) hb)
                        clear HB
                        have HB := n0_
                        clear n0_
                        (try clear hb)
                        (try clear hb2)
                        (try clear hk)
                        (try clear hi)
                        refine hK.out _ _ ⟨((HB.out.cell (World.block_lt_of_cell? w _ hw170_0)).trans hw170_0), ((HB.out.cell (World.block_lt_of_cell? w _ hw170_1)).trans hw170_1), ((HB.out.cell (World.block_lt_of_cell? w _ hw170_2)).trans hw170_2), ((HB.out.cell (World.block_lt_of_cell? w _ hw170_3)).trans hw170_3), ((HB.out.cell (World.block_lt_of_cell? w _ hw170_4)).trans hw170_4), ((HB.out.cell (World.block_lt_of_cell? w _ hw171_0)).trans hw171_0), ((HB.out.cell (World.block_lt_of_cell? w _ hw171_1)).trans hw171_1), ((HB.out.cell (World.block_lt_of_cell? w _ hw171_2)).trans hw171_2), ((HB.out.cell (World.block_lt_of_cell? w _ hw172_0)).trans hw172_0), ((HB.out.cell (World.block_lt_of_cell? w _ hw172_1)).trans hw172_1), ((HB.out.cell (World.block_lt_of_cell? w _ hw172_2)).trans hw172_2), ((HB.out.cell (World.block_lt_of_cell? w _ hw174_0)).trans hw174_0), ((HB.out.cell (World.block_lt_of_cell? w _ hw174_1)).trans hw174_1), ((HB.out.cell (World.block_lt_of_cell? w _ hw174_2)).trans hw174_2), ((HB.out.cell (World.block_lt_of_cell? w _ hw174_3)).trans hw174_3), ((HB.out.cell (World.block_lt_of_cell? w _ hw174_4)).trans hw174_4)⟩ (fun hHeld => ?_)
                        clear hK K
                        refine norm_ (a' := ?_) ?_ ?_
                        rotate_left
                        · show Act.put _ (some 45) _ = _
                          simp only [Act.put, List.setIfInBounds_toArray, List.set_cons_zero, List.set_cons_succ, i64_w, i32_w]
                          rfl
                        refine pure_ (i := 2) (N := some 46) (v := ?_) (a' := ?_) #[true, true, true, false, false, false, false, false, false, false, false, false, false, false, false, false, false, false, false, false, false, false, false, false, false, false, false, false, false, false, false] rfl rfl (any_of HT_.out (by kernel_rfl)) (fun _ _ _ h => h) (Or.inl ⟨by rfl, ?_⟩) ?_ ?_
                        rotate_left
                        · intro w'
                          go_simp
                          with_reducible rfl
                        rotate_left
                        · simp only [Act.put, List.setIfInBounds_toArray, List.set_cons_zero, List.set_cons_succ, i64_w, i32_w]
                          rfl
                        refine pure_ (i := 3) (N := some 47) (v := ?_) (a' := ?_) #[true, true, true, true, false, false, false, false, false, false, false, false, false, false, false, false, false, false, false, false, false, false, false, false, false, false, false, false, false, false, false] rfl rfl (any_of HT_.out (by kernel_rfl)) (fun _ _ _ h => h) (Or.inl ⟨by rfl, ?_⟩) ?_ ?_
                        rotate_left
                        · intro w'
                          go_simp
                          with_reducible rfl
                        rotate_left
                        · simp only [Act.put, List.setIfInBounds_toArray, List.set_cons_zero, List.set_cons_succ, i64_w, i32_w]
                          rfl
                        refine pure_ (i := 4) (N := some 48) (v := ?_) (a' := ?_) #[true, true, true, true, true, false, false, false, false, false, false, false, false, false, false, false, false, false, false, false, false, false, false, false, false, false, false, false, false, false, false] rfl rfl (any_of HT_.out (by kernel_rfl)) (fun _ _ _ h => h) (Or.inl ⟨by rfl, ?_⟩) ?_ ?_
                        rotate_left
                        · intro w'
                          go_simp
                          with_reducible rfl
                        rotate_left
                        · simp only [Act.put, List.setIfInBounds_toArray, List.set_cons_zero, List.set_cons_succ, i64_w, i32_w]
                          rfl
                        refine pure_ (i := 5) (N := some 49) (v := ?_) (a' := ?_) #[true, true, true, true, true, true, false, false, false, false, false, false, false, false, false, false, false, false, false, false, false, false, false, false, false, false, false, false, false, false, false] rfl rfl (any_of HT_.out (by kernel_rfl)) (fun _ _ _ h => h) (Or.inl ⟨by rfl, ?_⟩) ?_ ?_
                        rotate_left
                        · intro w'
                          go_simp
                          with_reducible rfl
                        rotate_left
                        · simp only [Act.put, List.setIfInBounds_toArray, List.set_cons_zero, List.set_cons_succ, i64_w, i32_w]
                          rfl
                        refine pure_ (i := 6) (N := some 50) (v := ?_) (a' := ?_) #[true, true, true, true, true, true, true, false, false, false, false, false, false, false, false, false, false, false, false, false, false, false, false, false, false, false, false, false, false, false, false] rfl rfl (any_of HT_.out (by kernel_rfl)) (fun _ _ _ h => h) (Or.inl ⟨by rfl, ?_⟩) ?_ ?_
                        rotate_left
                        · intro w'
                          go_simp
                          with_reducible rfl
                        rotate_left
                        · simp only [Act.put, List.setIfInBounds_toArray, List.set_cons_zero, List.set_cons_succ, i64_w, i32_w]
                          rfl
                        refine pure_ (i := 8) (N := some 52) (v := ?_) (a' := ?_) #[true, true, true, true, true, true, true, false, true, false, false, false, false, false, false, false, false, false, false, false, false, false, false, false, false, false, false, false, false, false, false] rfl rfl (any_of HT_.out (by kernel_rfl)) (fun _ _ _ h => h) (Or.inl ⟨by rfl, ?_⟩) ?_ ?_
                        rotate_left
                        · intro w'
                          go_simp
                          with_reducible rfl
                        rotate_left
                        · simp only [Act.put, List.setIfInBounds_toArray, List.set_cons_zero, List.set_cons_succ, i64_w, i32_w]
                          rfl
                        refine pure_ (i := 9) (N := some 53) (v := ?_) (a' := ?_) #[true, true, true, true, true, true, true, false, true, true, false, false, false, false, false, false, false, false, false, false, false, false, false, false, false, false, false, false, false, false, false] rfl rfl (any_of HT_.out (by kernel_rfl)) (fun _ _ _ h => h) (Or.inl ⟨by rfl, ?_⟩) ?_ ?_
                        rotate_left
                        · intro w'
                          go_simp
                          with_reducible rfl
                        rotate_left
                        · simp only [Act.put, List.setIfInBounds_toArray, List.set_cons_zero, List.set_cons_succ, i64_w, i32_w]
                          rfl
                        refine pure_ (i := 10) (N := some 54) (v := ?_) (a' := ?_) #[true, true, true, true, true, true, true, false, true, true, true, false, false, false, false, false, false, false, false, false, false, false, false, false, false, false, false, false, false, false, false] rfl rfl (any_of HT_.out (by kernel_rfl)) (fun _ _ _ h => h) (Or.inl ⟨by rfl, ?_⟩) ?_ ?_
                        rotate_left
                        · intro w'
                          go_simp
                          with_reducible rfl
                        rotate_left
                        · simp only [Act.put, List.setIfInBounds_toArray, List.set_cons_zero, List.set_cons_succ, i64_w, i32_w]
                          rfl
                        refine pure_ (i := 13) (N := some 57) (v := ?_) (a' := ?_) #[true, true, true, true, true, true, true, false, true, true, true, false, false, true, false, false, false, false, false, false, false, false, false, false, false, false, false, false, false, false, false] rfl rfl (any_of HT_.out (by kernel_rfl)) (fun _ _ _ h => h) (Or.inl ⟨by rfl, ?_⟩) ?_ ?_
                        rotate_left
                        · intro w'
                          go_simp
                          with_reducible rfl
                        rotate_left
                        · simp only [Act.put, List.setIfInBounds_toArray, List.set_cons_zero, List.set_cons_succ, i64_w, i32_w]
                          rfl
                        refine pure_ (i := 14) (N := some 58) (v := ?_) (a' := ?_) #[true, true, true, true, true, true, true, false, true, true, true, false, false, true, true, false, false, false, false, false, false, false, false, false, false, false, false, false, false, false, false] rfl rfl (any_of HT_.out (by kernel_rfl)) (fun _ _ _ h => h) (Or.inl ⟨by rfl, ?_⟩) ?_ ?_
                        rotate_left
                        · intro w'
                          go_simp
                          with_reducible rfl
                        rotate_left
                        · simp only [Act.put, List.setIfInBounds_toArray, List.set_cons_zero, List.set_cons_succ, i64_w, i32_w]
                          rfl
                        refine pure_ (i := 15) (N := some 59) (v := ?_) (a' := ?_) #[true, true, true, true, true, true, true, false, true, true, true, false, false, true, true, true, false, false, false, false, false, false, false, false, false, false, false, false, false, false, false] rfl rfl (any_of HT_.out (by kernel_rfl)) (fun _ _ _ h => h) (Or.inl ⟨by rfl, ?_⟩) ?_ ?_
                        rotate_left
                        · intro w'
                          go_simp
                          with_reducible rfl
                        rotate_left
                        · simp only [Act.put, List.setIfInBounds_toArray, List.set_cons_zero, List.set_cons_succ, i64_w, i32_w]
                          rfl
                        refine take_ (i := 7) (N := some 51) (v := ?_) (a' := ?_) #[true, true, true, true, true, true, true, true, true, true, true, false, false, true, true, true, false, false, false, false, false, false, false, false, false, false, false, false, false, false, false] rfl rfl (take_ofW HT_.out HW_.out (by kernel_rfl)) (fun _ _ _ h => h) (Or.inl ⟨by rfl, ?_⟩) hHeld ?_ ?_
                        rotate_left
                        · rintro w' ⟨s0, s1, s2, s3, s4, s5, s6, s7, s8, s9, s10, s11, s12, s13, s14, s15⟩
                          go_simp
                          with_reducible rfl
                        rotate_left
                        · simp only [Act.put, List.setIfInBounds_toArray, List.set_cons_zero, List.set_cons_succ, i64_w, i32_w]
                          rfl
                        refine take_ (i := 11) (N := some 55) (v := ?_) (a' := ?_) #[true, true, true, true, true, true, true, true, true, true, true, true, false, true, true, true, false, false, false, false, false, false, false, false, false, false, false, false, false, false, false] rfl rfl (take_ofW HT_.out HW_.out (by kernel_rfl)) (fun _ _ _ h => h) (Or.inl ⟨by rfl, ?_⟩) hHeld ?_ ?_
                        rotate_left
                        · rintro w' ⟨s0, s1, s2, s3, s4, s5, s6, s7, s8, s9, s10, s11, s12, s13, s14, s15⟩
                          go_simp
                          with_reducible rfl
                        rotate_left
                        · simp only [Act.put, List.setIfInBounds_toArray, List.set_cons_zero, List.set_cons_succ, i64_w, i32_w]
                          rfl
                        refine pure_ (i := 12) (N := some 56) (v := ?_) (a' := ?_) #[true, true, true, true, true, true, true, true, true, true, true, true, true, true, true, true, false, false, false, false, false, false, false, false, false, false, false, false, false, false, false] rfl rfl (any_of HT_.out (by kernel_rfl)) (fun _ _ _ h => h) (Or.inl ⟨by rfl, ?_⟩) ?_ ?_
                        rotate_left
                        · intro w'
                          go_simp
                          with_reducible rfl
                        rotate_left
                        · simp only [Act.put, List.setIfInBounds_toArray, List.set_cons_zero, List.set_cons_succ, i64_w, i32_w]
                          rfl
                        refine take_ (i := 16) (N := some 60) (v := ?_) (a' := ?_) #[true, true, true, true, true, true, true, true, true, true, true, true, true, true, true, true, true, false, false, false, false, false, false, false, false, false, false, false, false, false, false] rfl rfl (take_ofW HT_.out HW_.out (by kernel_rfl)) (fun _ _ _ h => h) (Or.inl ⟨by rfl, ?_⟩) hHeld ?_ ?_
                        rotate_left
                        · rintro w' ⟨s0, s1, s2, s3, s4, s5, s6, s7, s8, s9, s10, s11, s12, s13, s14, s15⟩
                          go_simp
                          with_reducible rfl
                        rotate_left
                        · simp only [Act.put, List.setIfInBounds_toArray, List.set_cons_zero, List.set_cons_succ, i64_w, i32_w]
                          rfl
                        refine pure_ (i := 17) (N := some 61) (v := ?_) (a' := ?_) #[true, true, true, true, true, true, true, true, true, true, true, true, true, true, true, true, true, true, false, false, false, false, false, false, false, false, false, false, false, false, false] rfl rfl (any_of HT_.out (by kernel_rfl)) (fun _ _ _ h => h) (Or.inl ⟨by rfl, ?_⟩) ?_ ?_
                        rotate_left
                        · intro w'
                          go_simp
                          with_reducible rfl
                        rotate_left
                        · simp only [Act.put, List.setIfInBounds_toArray, List.set_cons_zero, List.set_cons_succ, i64_w, i32_w]
                          rfl
                        refine one_ (i := 18) (N := some 62) #[true, true, true, true, true, true, true, true, true, true, true, true, true, true, true, true, true, true, true, false, false, false, false, false, false, false, false, false, false, false, false] rfl rfl (one_of HT_.out (by kernel_rfl)) (by decide) (fun K hK => ?_)
                        refine goes_ Try.func45 (by kernel_rfl) rfl #[.agg #[.int .i8 ((rd_T62 ((rd_T30 l0 0).f2) x3_2).f0.f0), .int .i8 ((rd_T62 ((rd_T30 l0 0).f2) x3_2).f0.f1)], .int .i64 (wrap64 ((rd_T30 l0 0).f0)), .int .i64 (wrap64 ((rd_T30 l0 0).f1))] (by rfl) rfl rfl (by (try simp only [List.map_toArray, List.map_cons, List.map_nil]); first | done | rfl | (simp only [List.length_drop, List.length_take]; rfl)) ?_
                        with_reducible refine (spec_l01In.calls ((rd_T62 ((rd_T30 l0 0).f2) x3_2).f0.f0) ((rd_T62 ((rd_T30 l0 0).f2) x3_2).f0.f1) (wrap64 ((rd_T30 l0 0).f0)) (wrap64 ((rd_T30 l0 0).f1)) true _ A14.out).mono ?_
                        rintro e w24 ⟨rfl, hb⟩
                        refine ⟨_, rfl, ?_⟩
                        have n0_ := Aside0.mk (below_step (by repeat (first | (with_reducible first | exact HB.out | apply below_alloc | apply pw_below_drewN | apply below_drew1) | exact HB.out)) hb)
                        clear HB
                        have HB := n0_
                        clear n0_
                        (try clear hb)
                        (try clear hb2)
                        (try clear hk)
                        (try clear hi)
                        refine hK.out _ _ ⟨((HB.out.cell (World.block_lt_of_cell? w _ hw170_0)).trans hw170_0), ((HB.out.cell (World.block_lt_of_cell? w _ hw170_1)).trans hw170_1), ((HB.out.cell (World.block_lt_of_cell? w _ hw170_2)).trans hw170_2), ((HB.out.cell (World.block_lt_of_cell? w _ hw170_3)).trans hw170_3), ((HB.out.cell (World.block_lt_of_cell? w _ hw170_4)).trans hw170_4), ((HB.out.cell (World.block_lt_of_cell? w _ hw171_0)).trans hw171_0), ((HB.out.cell (World.block_lt_of_cell? w _ hw171_1)).trans hw171_1), ((HB.out.cell (World.block_lt_of_cell? w _ hw171_2)).trans hw171_2), ((HB.out.cell (World.block_lt_of_cell? w _ hw172_0)).trans hw172_0), ((HB.out.cell (World.block_lt_of_cell? w _ hw172_1)).trans hw172_1), ((HB.out.cell (World.block_lt_of_cell? w _ hw172_2)).trans hw172_2), ((HB.out.cell (World.block_lt_of_cell? w _ hw174_0)).trans hw174_0), ((HB.out.cell (World.block_lt_of_cell? w _ hw174_1)).trans hw174_1), ((HB.out.cell (World.block_lt_of_cell? w _ hw174_2)).trans hw174_2), ((HB.out.cell (World.block_lt_of_cell? w _ hw174_3)).trans hw174_3), ((HB.out.cell (World.block_lt_of_cell? w _ hw174_4)).trans hw174_4)⟩ (fun hHeld => ?_)
                        clear hK K
                        refine norm_ (a' := ?_) ?_ ?_
                        rotate_left
                        · show Act.put _ (some 62) _ = _
                          simp only [Act.put, List.setIfInBounds_toArray, List.set_cons_zero, List.set_cons_succ, i64_w, i32_w]
                          rfl
                        refine pure_ (i := 19) (N := some 63) (v := ?_) (a' := ?_) #[true, true, true, true, true, true, true, true, true, true, true, true, true, true, true, true, true, true, true, true, false, false, false, false, false, false, false, false, false, false, false] rfl rfl (any_of HT_.out (by kernel_rfl)) (fun _ _ _ h => h) (Or.inl ⟨by rfl, ?_⟩) ?_ ?_
                        rotate_left
                        · intro w'
                          go_simp
                          with_reducible rfl
                        rotate_left
                        · simp only [Act.put, List.setIfInBounds_toArray, List.set_cons_zero, List.set_cons_succ, i64_w, i32_w]
                          rfl
                        refine pure_ (i := 20) (N := some 64) (v := ?_) (a' := ?_) #[true, true, true, true, true, true, true, true, true, true, true, true, true, true, true, true, true, true, true, true, true, false, false, false, false, false, false, false, false, false, false] rfl rfl (any_of HT_.out (by kernel_rfl)) (fun _ _ _ h => h) (Or.inl ⟨by rfl, ?_⟩) ?_ ?_
                        rotate_left
                        · intro w'
                          go_simp
                          with_reducible rfl
                        rotate_left
                        · simp only [Act.put, List.setIfInBounds_toArray, List.set_cons_zero, List.set_cons_succ, i64_w, i32_w]
                          rfl
                        refine pure_ (i := 21) (N := some 65) (v := ?_) (a' := ?_) #[true, true, true, true, true, true, true, true, true, true, true, true, true, true, true, true, true, true, true, true, true, true, false, false, false, false, false, false, false, false, false] rfl rfl (any_of HT_.out (by kernel_rfl)) (fun _ _ _ h => h) (Or.inl ⟨by rfl, ?_⟩) ?_ ?_
                        rotate_left
                        · intro w'
                          go_simp
                          with_reducible rfl
                        rotate_left
                        · simp only [Act.put, List.setIfInBounds_toArray, List.set_cons_zero, List.set_cons_succ, i64_w, i32_w]
                          rfl
                        refine pure_ (i := 22) (N := some 66) (v := ?_) (a' := ?_) #[true, true, true, true, true, true, true, true, true, true, true, true, true, true, true, true, true, true, true, true, true, true, true, false, false, false, false, false, false, false, false] rfl rfl (any_of HT_.out (by kernel_rfl)) (fun _ _ _ h => h) (Or.inl ⟨by rfl, ?_⟩) ?_ ?_
                        rotate_left
                        · intro w'
                          go_simp
                          with_reducible rfl
                        rotate_left
                        · simp only [Act.put, List.setIfInBounds_toArray, List.set_cons_zero, List.set_cons_succ, i64_w, i32_w]
                          rfl
                        refine pure_ (i := 23) (N := some 67) (v := ?_) (a' := ?_) #[true, true, true, true, true, true, true, true, true, true, true, true, true, true, true, true, true, true, true, true, true, true, true, true, false, false, false, false, false, false, false] rfl rfl (any_of HT_.out (by kernel_rfl)) (fun _ _ _ h => h) (Or.inl ⟨by rfl, ?_⟩) ?_ ?_
                        rotate_left
                        · intro w'
                          go_simp
                          with_reducible rfl
                        rotate_left
                        · simp only [Act.put, List.setIfInBounds_toArray, List.set_cons_zero, List.set_cons_succ, i64_w, i32_w]
                          rfl
                        refine pure_ (i := 24) (N := some 68) (v := ?_) (a' := ?_) #[true, true, true, true, true, true, true, true, true, true, true, true, true, true, true, true, true, true, true, true, true, true, true, true, true, false, false, false, false, false, false] rfl rfl (any_of HT_.out (by kernel_rfl)) (fun _ _ _ h => h) (Or.inl ⟨by rfl, ?_⟩) ?_ ?_
                        rotate_left
                        · intro w'
                          go_simp
                          with_reducible rfl
                        rotate_left
                        · simp only [Act.put, List.setIfInBounds_toArray, List.set_cons_zero, List.set_cons_succ, i64_w, i32_w]
                          rfl
                        refine pure_ (i := 25) (N := some 69) (v := ?_) (a' := ?_) #[true, true, true, true, true, true, true, true, true, true, true, true, true, true, true, true, true, true, true, true, true, true, true, true, true, true, false, false, false, false, false] rfl rfl (any_of HT_.out (by kernel_rfl)) (fun _ _ _ h => h) (Or.inl ⟨by rfl, ?_⟩) ?_ ?_
                        rotate_left
                        · intro w'
                          go_simp
                          with_reducible rfl
                        rotate_left
                        · simp only [Act.put, List.setIfInBounds_toArray, List.set_cons_zero, List.set_cons_succ, i64_w, i32_w]
                          rfl
                        refine pure_ (i := 28) (N := some 72) (v := ?_) (a' := ?_) #[true, true, true, true, true, true, true, true, true, true, true, true, true, true, true, true, true, true, true, true, true, true, true, true, true, true, false, false, true, false, false] rfl rfl (any_of HT_.out (by kernel_rfl)) (fun _ _ _ h => h) (Or.inl ⟨by rfl, ?_⟩) ?_ ?_
                        rotate_left
                        · intro w'
                          go_simp
                          with_reducible rfl
                        rotate_left
                        · simp only [Act.put, List.setIfInBounds_toArray, List.set_cons_zero, List.set_cons_succ, i64_w, i32_w]
                          rfl
                        refine take_ (i := 26) (N := some 70) (v := ?_) (a' := ?_) #[true, true, true, true, true, true, true, true, true, true, true, true, true, true, true, true, true, true, true, true, true, true, true, true, true, true, true, false, true, false, false] rfl rfl (take_ofW HT_.out HW_.out (by kernel_rfl)) (fun _ _ _ h => h) (Or.inl ⟨by rfl, ?_⟩) hHeld ?_ ?_
                        rotate_left
                        · rintro w' ⟨s0, s1, s2, s3, s4, s5, s6, s7, s8, s9, s10, s11, s12, s13, s14, s15⟩
                          go_simp
                          with_reducible rfl
                        rotate_left
                        · simp only [Act.put, List.setIfInBounds_toArray, List.set_cons_zero, List.set_cons_succ, i64_w, i32_w]
                          rfl
                        refine one_ (i := 27) (N := some 71) #[true, true, true, true, true, true, true, true, true, true, true, true, true, true, true, true, true, true, true, true, true, true, true, true, true, true, true, true, true, false, false] rfl rfl (one_of HT_.out (by kernel_rfl)) (by decide) (fun K hK => ?_)
                        refine goes_ Try.func26 (by kernel_rfl) rfl #[.pointer (some adp0), .agg #[.int .i8 ((rd_T62 ((rd_T30 l0 0).f2) x3_2).f0.f0), .int .i8 ((rd_T62 ((rd_T30 l0 0).f2) x3_2).f0.f1)]] (by rfl) rfl rfl (by (try simp only [List.map_toArray, List.map_cons, List.map_nil]); first | done | rfl | (simp only [List.length_drop, List.length_take]; rfl)) ?_
                        with_reducible refine (spec_l01Find.calls k2 _ l0 ((rd_T62 ((rd_T30 l0 0).f2) x3_2).f0.f0) ((rd_T62 ((rd_T30 l0 0).f2) x3_2).f0.f1) t175 _ ?side1 A16.out).mono ?_
                        (case side1 => repeat (first | exact (Kd.C_below HR0.out HB.out) | (with_reducible refine Kd.C_alloc ?_ _) | (with_reducible refine Kd.C_drewN ?_ _) | (with_reducible refine Kd.C_drew ?_)))
                        rintro e w25 ⟨rfl, hb⟩
                        refine ⟨_, rfl, ?_⟩
                        have n0_ := Aside0.mk (below_step (by repeat (first | (with_reducible first | exact HB.out | apply below_alloc | apply pw_below_drewN | apply below_drew1) | exact HB.out)) hb)
                        clear HB
                        have HB := n0_
                        clear n0_
                        (try clear hb)
                        (try clear hb2)
                        (try clear hk)
                        (try clear hi)
                        refine hK.out _ _ ⟨((HB.out.cell (World.block_lt_of_cell? w _ hw170_0)).trans hw170_0), ((HB.out.cell (World.block_lt_of_cell? w _ hw170_1)).trans hw170_1), ((HB.out.cell (World.block_lt_of_cell? w _ hw170_2)).trans hw170_2), ((HB.out.cell (World.block_lt_of_cell? w _ hw170_3)).trans hw170_3), ((HB.out.cell (World.block_lt_of_cell? w _ hw170_4)).trans hw170_4), ((HB.out.cell (World.block_lt_of_cell? w _ hw171_0)).trans hw171_0), ((HB.out.cell (World.block_lt_of_cell? w _ hw171_1)).trans hw171_1), ((HB.out.cell (World.block_lt_of_cell? w _ hw171_2)).trans hw171_2), ((HB.out.cell (World.block_lt_of_cell? w _ hw172_0)).trans hw172_0), ((HB.out.cell (World.block_lt_of_cell? w _ hw172_1)).trans hw172_1), ((HB.out.cell (World.block_lt_of_cell? w _ hw172_2)).trans hw172_2), ((HB.out.cell (World.block_lt_of_cell? w _ hw174_0)).trans hw174_0), ((HB.out.cell (World.block_lt_of_cell? w _ hw174_1)).trans hw174_1), ((HB.out.cell (World.block_lt_of_cell? w _ hw174_2)).trans hw174_2), ((HB.out.cell (World.block_lt_of_cell? w _ hw174_3)).trans hw174_3), ((HB.out.cell (World.block_lt_of_cell? w _ hw174_4)).trans hw174_4)⟩ (fun hHeld => ?_)
                        clear hK K
                        refine norm_ (a' := ?_) ?_ ?_
                        rotate_left
                        · show Act.put _ (some 71) _ = _
                          simp only [Act.put, List.setIfInBounds_toArray, List.set_cons_zero, List.set_cons_succ, i64_w, i32_w]
                          rfl
                        refine pure_ (i := 29) (N := some 73) (v := ?_) (a' := ?_) #[true, true, true, true, true, true, true, true, true, true, true, true, true, true, true, true, true, true, true, true, true, true, true, true, true, true, true, true, true, true, false] rfl rfl (any_of HT_.out (by kernel_rfl)) (fun _ _ _ h => h) (Or.inl ⟨by rfl, ?_⟩) ?_ ?_
                        rotate_left
                        · intro w'
                          go_simp
                          with_reducible rfl
                        rotate_left
                        · simp only [Act.put, List.setIfInBounds_toArray, List.set_cons_zero, List.set_cons_succ, i64_w, i32_w]
                          rfl
                        refine pure_ (i := 30) (N := some 74) (v := ?_) (a' := ?_) #[true, true, true, true, true, true, true, true, true, true, true, true, true, true, true, true, true, true, true, true, true, true, true, true, true, true, true, true, true, true, true] rfl rfl (any_of HT_.out (by kernel_rfl)) (fun _ _ _ h => h) (Or.inl ⟨by rfl, ?_⟩) ?_ ?_
                        rotate_left
                        · intro w'
                          go_simp
                          with_reducible rfl
                        rotate_left
                        · simp only [Act.put, List.setIfInBounds_toArray, List.set_cons_zero, List.set_cons_succ, i64_w, i32_w]
                          rfl
                        refine done_ (done_of HT_.out (by kernel_rfl)) ?_
                        try go_wp2
                        go_ret
                        exact ⟨by first | rfl | (simp [errW_none, errW_some] <;> rfl) | (simp [*, errW_none, errW_some] <;> rfl), by repeat (first | (with_reducible first | exact HB.out | apply below_alloc | apply pw_below_drewN | apply below_drew1) | exact HB.out)⟩
                    · replace c15 := Bool.eq_false_iff.mpr c15
                      subst c15
                      have H1 : (some false) = some r := by rw [if_neg (show ¬ (false = true) by decide)] at H; exact H
                      clear H
                      have H := H1
                      clear H1
                      obtain rfl := Option.some.inj H
                      have p166 : 0 ≤ (0 : Int) := (by omega)
                      have q166 : 0 < (l0.length : Int) := of_decide_eq_true (by first | (with_reducible assumption) | assumption)
                      obtain ⟨ad166, A166_2, c166_2, e166, hx166_0, hx166_1, hx166_2, hl166_2, hi166_2⟩ := at_T30 HR0.out 0 p166 q166
                      obtain rfl : adp0 = ad166 := (by injection e166)
                      have qi166 : (0 < l0.length) = True := eq_true (by omega)
                      (try rw [show ((0 : Int)).toNat = 0 from rfl] at hx166_0)
                      (try rw [show 0 * 3 = 0 from rfl] at hx166_0)
                      (try rw [Addr.add_zero'] at hx166_0)
                      (try rw [show ((0 : Int)).toNat = 0 from rfl] at hx166_1)
                      (try rw [show 0 * 3 = 0 from rfl] at hx166_1)
                      (try rw [Addr.add_zero'] at hx166_1)
                      (try rw [show ((0 : Int)).toNat = 0 from rfl] at hx166_2)
                      (try rw [show 0 * 3 = 0 from rfl] at hx166_2)
                      (try rw [Addr.add_zero'] at hx166_2)
                      replace hx166_0 := (HB.out.cell (World.block_lt_of_cell? w _ hx166_0)).trans hx166_0
                      replace hx166_1 := (HB.out.cell (World.block_lt_of_cell? w _ hx166_1)).trans hx166_1
                      replace hx166_2 := (HB.out.cell (World.block_lt_of_cell? w _ hx166_2)).trans hx166_2
                      have HR166_2 := Aside0.mk hi166_2
                      have HC166_2 := Aside0.mk hl166_2
                      clear hi166_2 hl166_2
                      replace p166 := eq_true p166
                      replace q166 := eq_true q166
                      have p167 : 0 ≤ (0 : Int) := (by omega)
                      have q167 : 0 < (l0.length : Int) := of_decide_eq_true (by first | (with_reducible assumption) | assumption)
                      obtain ⟨ad167, A167_2, c167_2, e167, hx167_0, hx167_1, hx167_2, hl167_2, hi167_2⟩ := at_T30 HR0.out 0 p167 q167
                      obtain rfl : adp0 = ad167 := (by injection e167)
                      have qi167 : (0 < l0.length) = True := eq_true (by omega)
                      (try rw [show ((0 : Int)).toNat = 0 from rfl] at hx167_0)
                      (try rw [show 0 * 3 = 0 from rfl] at hx167_0)
                      (try rw [Addr.add_zero'] at hx167_0)
                      (try rw [show ((0 : Int)).toNat = 0 from rfl] at hx167_1)
                      (try rw [show 0 * 3 = 0 from rfl] at hx167_1)
                      (try rw [Addr.add_zero'] at hx167_1)
                      (try rw [show ((0 : Int)).toNat = 0 from rfl] at hx167_2)
                      (try rw [show 0 * 3 = 0 from rfl] at hx167_2)
                      (try rw [Addr.add_zero'] at hx167_2)
                      replace hx167_0 := (HB.out.cell (World.block_lt_of_cell? w _ hx167_0)).trans hx167_0
                      replace hx167_1 := (HB.out.cell (World.block_lt_of_cell? w _ hx167_1)).trans hx167_1
                      replace hx167_2 := (HB.out.cell (World.block_lt_of_cell? w _ hx167_2)).trans hx167_2
                      have HR167_2 := Aside0.mk hi167_2
                      have HC167_2 := Aside0.mk hl167_2
                      clear hi167_2 hl167_2
                      replace p167 := eq_true p167
                      replace q167 := eq_true q167
                      have ea_ := Option.some.inj (hx166_2.symm.trans hx167_2)
                      injection ea_ with ea_ en_ ec_
                      subst ea_
                      subst ec_
                      clear en_
                      have p168 : 0 ≤ (x3_2 : Int) := of_decide_eq_true (by first | (with_reducible assumption) | assumption)
                      have q168 : x3_2 < (((rd_T30 l0 0).f2).length : Int) := of_decide_eq_true (by first | (with_reducible assumption) | assumption)
                      obtain ⟨ad168, e168, hx168_0, hx168_1, hx168_2, hx168_3, hx168_4⟩ := at_T62 HR167_2.out x3_2 p168 q168
                      cases e168
                      replace hx168_0 := (HB.out.cell (World.block_lt_of_cell? w _ hx168_0)).trans hx168_0
                      replace hx168_1 := (HB.out.cell (World.block_lt_of_cell? w _ hx168_1)).trans hx168_1
                      replace hx168_2 := (HB.out.cell (World.block_lt_of_cell? w _ hx168_2)).trans hx168_2
                      replace hx168_3 := (HB.out.cell (World.block_lt_of_cell? w _ hx168_3)).trans hx168_3
                      replace hx168_4 := (HB.out.cell (World.block_lt_of_cell? w _ hx168_4)).trans hx168_4
                      replace p168 := eq_true p168
                      replace q168 := eq_true q168
                      try go_wp2
                      have n0_ := Aside0.mk (below_drew1 HB.out)
                      clear HB
                      have HB := n0_
                      clear n0_
                      have p170 : 0 ≤ (x3_2 : Int) := of_decide_eq_true (by first | (with_reducible assumption) | assumption)
                      have q170 : x3_2 < (((rd_T30 l0 0).f2).length : Int) := of_decide_eq_true (by first | (with_reducible assumption) | assumption)
                      obtain ⟨ad170, e170, hx170_0, hx170_1, hx170_2, hx170_3, hx170_4⟩ := at_T62 HR167_2.out x3_2 p170 q170
                      have hw170_4 := hx170_4
                      have hw170_3 := hx170_3
                      have hw170_2 := hx170_2
                      have hw170_1 := hx170_1
                      have hw170_0 := hx170_0
                      obtain rfl : ad168 = ad170 := (by injection e170)
                      replace hx170_0 := (HB.out.cell (World.block_lt_of_cell? w _ hx170_0)).trans hx170_0
                      replace hx170_1 := (HB.out.cell (World.block_lt_of_cell? w _ hx170_1)).trans hx170_1
                      replace hx170_2 := (HB.out.cell (World.block_lt_of_cell? w _ hx170_2)).trans hx170_2
                      replace hx170_3 := (HB.out.cell (World.block_lt_of_cell? w _ hx170_3)).trans hx170_3
                      replace hx170_4 := (HB.out.cell (World.block_lt_of_cell? w _ hx170_4)).trans hx170_4
                      replace p170 := eq_true p170
                      replace q170 := eq_true q170
                      have p171 : 0 ≤ (0 : Int) := (by omega)
                      have q171 : 0 < (l0.length : Int) := of_decide_eq_true (by first | (with_reducible assumption) | assumption)
                      obtain ⟨ad171, A171_2, c171_2, e171, hx171_0, hx171_1, hx171_2, hl171_2, hi171_2⟩ := at_T30 HR0.out 0 p171 q171
                      have hw171_2 := hx171_2
                      (try rw [show ((0 : Int)).toNat = 0 from rfl] at hw171_2)
                      (try rw [show 0 * 3 = 0 from rfl] at hw171_2)
                      (try rw [Addr.add_zero'] at hw171_2)
                      have hw171_1 := hx171_1
                      (try rw [show ((0 : Int)).toNat = 0 from rfl] at hw171_1)
                      (try rw [show 0 * 3 = 0 from rfl] at hw171_1)
                      (try rw [Addr.add_zero'] at hw171_1)
                      have hw171_0 := hx171_0
                      (try rw [show ((0 : Int)).toNat = 0 from rfl] at hw171_0)
                      (try rw [show 0 * 3 = 0 from rfl] at hw171_0)
                      (try rw [Addr.add_zero'] at hw171_0)
                      obtain rfl : adp0 = ad171 := (by injection e171)
                      have qi171 : (0 < l0.length) = True := eq_true (by omega)
                      (try rw [show ((0 : Int)).toNat = 0 from rfl] at hx171_0)
                      (try rw [show 0 * 3 = 0 from rfl] at hx171_0)
                      (try rw [Addr.add_zero'] at hx171_0)
                      (try rw [show ((0 : Int)).toNat = 0 from rfl] at hx171_1)
                      (try rw [show 0 * 3 = 0 from rfl] at hx171_1)
                      (try rw [Addr.add_zero'] at hx171_1)
                      (try rw [show ((0 : Int)).toNat = 0 from rfl] at hx171_2)
                      (try rw [show 0 * 3 = 0 from rfl] at hx171_2)
                      (try rw [Addr.add_zero'] at hx171_2)
                      replace hx171_0 := (HB.out.cell (World.block_lt_of_cell? w _ hx171_0)).trans hx171_0
                      replace hx171_1 := (HB.out.cell (World.block_lt_of_cell? w _ hx171_1)).trans hx171_1
                      replace hx171_2 := (HB.out.cell (World.block_lt_of_cell? w _ hx171_2)).trans hx171_2
                      have HR171_2 := Aside0.mk hi171_2
                      have HC171_2 := Aside0.mk hl171_2
                      clear hi171_2 hl171_2
                      replace p171 := eq_true p171
                      replace q171 := eq_true q171
                      have p172 : 0 ≤ (0 : Int) := (by omega)
                      have q172 : 0 < (l0.length : Int) := of_decide_eq_true (by first | (with_reducible assumption) | assumption)
                      obtain ⟨ad172, A172_2, c172_2, e172, hx172_0, hx172_1, hx172_2, hl172_2, hi172_2⟩ := at_T30 HR0.out 0 p172 q172
                      have hw172_2 := hx172_2
                      (try rw [show ((0 : Int)).toNat = 0 from rfl] at hw172_2)
                      (try rw [show 0 * 3 = 0 from rfl] at hw172_2)
                      (try rw [Addr.add_zero'] at hw172_2)
                      have hw172_1 := hx172_1
                      (try rw [show ((0 : Int)).toNat = 0 from rfl] at hw172_1)
                      (try rw [show 0 * 3 = 0 from rfl] at hw172_1)
                      (try rw [Addr.add_zero'] at hw172_1)
                      have hw172_0 := hx172_0
                      (try rw [show ((0 : Int)).toNat = 0 from rfl] at hw172_0)
                      (try rw [show 0 * 3 = 0 from rfl] at hw172_0)
                      (try rw [Addr.add_zero'] at hw172_0)
                      obtain rfl : adp0 = ad172 := (by injection e172)
                      have qi172 : (0 < l0.length) = True := eq_true (by omega)
                      (try rw [show ((0 : Int)).toNat = 0 from rfl] at hx172_0)
                      (try rw [show 0 * 3 = 0 from rfl] at hx172_0)
                      (try rw [Addr.add_zero'] at hx172_0)
                      (try rw [show ((0 : Int)).toNat = 0 from rfl] at hx172_1)
                      (try rw [show 0 * 3 = 0 from rfl] at hx172_1)
                      (try rw [Addr.add_zero'] at hx172_1)
                      (try rw [show ((0 : Int)).toNat = 0 from rfl] at hx172_2)
                      (try rw [show 0 * 3 = 0 from rfl] at hx172_2)
                      (try rw [Addr.add_zero'] at hx172_2)
                      replace hx172_0 := (HB.out.cell (World.block_lt_of_cell? w _ hx172_0)).trans hx172_0
                      replace hx172_1 := (HB.out.cell (World.block_lt_of_cell? w _ hx172_1)).trans hx172_1
                      replace hx172_2 := (HB.out.cell (World.block_lt_of_cell? w _ hx172_2)).trans hx172_2
                      have HR172_2 := Aside0.mk hi172_2
                      have HC172_2 := Aside0.mk hl172_2
                      clear hi172_2 hl172_2
                      replace p172 := eq_true p172
                      replace q172 := eq_true q172
                      have ea_ := Option.some.inj (hx171_2.symm.trans hx172_2)
                      injection ea_ with ea_ en_ ec_
                      subst ea_
                      subst ec_
                      clear en_
                      refine start_ (n := 31) (S := fun w' => w'.cell? (ad168.add ((x3_2).toNat * 5)) = some (.int .i8 ((rd_T62 ((rd_T30 l0 0).f2) x3_2).f0.f0)) ∧ w'.cell? ⟨(ad168.add ((x3_2).toNat * 5)).block, (ad168.add ((x3_2).toNat * 5)).off + 1, none⟩ = some (.int .i8 ((rd_T62 ((rd_T30 l0 0).f2) x3_2).f0.f1)) ∧ w'.cell? ⟨(ad168.add ((x3_2).toNat * 5)).block, (ad168.add ((x3_2).toNat * 5)).off + 2, none⟩ = some (.int .i8 ((rd_T62 ((rd_T30 l0 0).f2) x3_2).f1)) ∧ w'.cell? ⟨(ad168.add ((x3_2).toNat * 5)).block, (ad168.add ((x3_2).toNat * 5)).off + 3, none⟩ = some (.int .i8 ((rd_T62 ((rd_T30 l0 0).f2) x3_2).f2)) ∧ w'.cell? ⟨(ad168.add ((x3_2).toNat * 5)).block, (ad168.add ((x3_2).toNat * 5)).off + 4, none⟩ = some (.int .i8 ((rd_T62 ((rd_T30 l0 0).f2) x3_2).f3)) ∧ w'.cell? adp0 = some (.int .i8 ((rd_T30 l0 0).f0)) ∧ w'.cell? ⟨adp0.block, adp0.off + 1, none⟩ = some (.int .i8 ((rd_T30 l0 0).f1)) ∧ w'.cell? ⟨adp0.block, adp0.off + 2, none⟩ = some (.slice A171_2 ((rd_T30 l0 0).f2).length c171_2) ∧ w'.cell? adp0 = some (.int .i8 ((rd_T30 l0 0).f0)) ∧ w'.cell? ⟨adp0.block, adp0.off + 1, none⟩ = some (.int .i8 ((rd_T30 l0 0).f1)) ∧ w'.cell? ⟨adp0.block, adp0.off + 2, none⟩ = some (.slice A171_2 ((rd_T30 l0 0).f2).length c171_2)) (ds := []) #[false, false, false, false, false, false, false, false, false, false, false, false, false, false, false, false, false, false, false, false, false, false, false, false, false, false, false, false, false, false, false] (by kernel_rfl) rfl rfl ⟨((HB.out.cell (World.block_lt_of_cell? w _ hw170_0)).trans hw170_0), ((HB.out.cell (World.block_lt_of_cell? w _ hw170_1)).trans hw170_1), ((HB.out.cell (World.block_lt_of_cell? w _ hw170_2)).trans hw170_2), ((HB.out.cell (World.block_lt_of_cell? w _ hw170_3)).trans hw170_3), ((HB.out.cell (World.block_lt_of_cell? w _ hw170_4)).trans hw170_4), ((HB.out.cell (World.block_lt_of_cell? w _ hw171_0)).trans hw171_0), ((HB.out.cell (World.block_lt_of_cell? w _ hw171_1)).trans hw171_1), ((HB.out.cell (World.block_lt_of_cell? w _ hw171_2)).trans hw171_2), ((HB.out.cell (World.block_lt_of_cell? w _ hw172_0)).trans hw172_0), ((HB.out.cell (World.block_lt_of_cell? w _ hw172_1)).trans hw172_1), ((HB.out.cell (World.block_lt_of_cell? w _ hw172_2)).trans hw172_2)⟩ (fun hHeld => ?_); refine with_tabW spec_l01Ok.tab7 spec_l01Ok.bits7 (fun HT_ HW_ => ?_)
                      generalize wr.drew = w26 at HB HR171_2 HR172_2 hx170_0 hx170_1 hx170_2 hx170_3 hx170_4 hx171_0 hx171_1 hx171_2 hx172_0 hx172_1 hx172_2 hHeld ⊢
                      refine pure_ (i := 0) (N := some 44) (v := ?_) (a' := ?_) #[true, false, false, false, false, false, false, false, false, false, false, false, false, false, false, false, false, false, false, false, false, false, false, false, false, false, false, false, false, false, false] rfl rfl (any_of HT_.out (by kernel_rfl)) (fun _ _ _ h => h) (Or.inl ⟨by rfl, ?_⟩) ?_ ?_
                      rotate_left
                      · intro w'
                        go_simp
                        with_reducible rfl
                      rotate_left
                      · simp only [Act.put, List.setIfInBounds_toArray, List.set_cons_zero, List.set_cons_succ, i64_w, i32_w]
                        rfl
                      refine one_ (i := 1) (N := some 45) #[true, true, false, false, false, false, false, false, false, false, false, false, false, false, false, false, false, false, false, false, false, false, false, false, false, false, false, false, false, false, false] rfl rfl (one_of HT_.out (by kernel_rfl)) (by decide) (fun K hK => ?_)
                      refine goes_ Try.func44 (by kernel_rfl) rfl #[.pointer (some (ad168.add (x3_2.toNat * 5)))] (by rfl) rfl rfl (by (try simp only [List.map_toArray, List.map_cons, List.map_nil]); first | done | rfl | (simp only [List.length_drop, List.length_take]; rfl)) ?_
                      with_reducible refine (spec_l01Piece.calls _ [rd_T62 ((rd_T30 l0 0).f2) x3_2] true _ ?side1 A12.out).mono ?_
                      (case side1 => refine ro_of_elem (d := k62) z62 x3_2 (by first | exact of_eq_true p168 | omega) (by first | exact of_eq_true q168 | omega) ?_; repeat (first | exact (Kd.C_below HR167_2.out HB.out) | (with_reducible refine Kd.C_alloc ?_ _) | (with_reducible refine Kd.C_drewN ?_ _) | (with_reducible refine Kd.C_drew ?_)))
                      rintro e w27 ⟨rfl, hb⟩
                      refine ⟨_, rfl, ?_⟩
                      have n0_ := Aside0.mk (below_step (by repeat (first | (with_reducible first | exact HB.out | apply below_alloc | apply pw_below_drewN | apply below_drew1) | exact HB.out)) hb)
                      clear HB
                      have HB := n0_
                      clear n0_
                      (try clear hb)
                      (try clear hb2)
                      (try clear hk)
                      (try clear hi)
                      refine hK.out _ _ ⟨((HB.out.cell (World.block_lt_of_cell? w _ hw170_0)).trans hw170_0), ((HB.out.cell (World.block_lt_of_cell? w _ hw170_1)).trans hw170_1), ((HB.out.cell (World.block_lt_of_cell? w _ hw170_2)).trans hw170_2), ((HB.out.cell (World.block_lt_of_cell? w _ hw170_3)).trans hw170_3), ((HB.out.cell (World.block_lt_of_cell? w _ hw170_4)).trans hw170_4), ((HB.out.cell (World.block_lt_of_cell? w _ hw171_0)).trans hw171_0), ((HB.out.cell (World.block_lt_of_cell? w _ hw171_1)).trans hw171_1), ((HB.out.cell (World.block_lt_of_cell? w _ hw171_2)).trans hw171_2), ((HB.out.cell (World.block_lt_of_cell? w _ hw172_0)).trans hw172_0), ((HB.out.cell (World.block_lt_of_cell? w _ hw172_1)).trans hw172_1), ((HB.out.cell (World.block_lt_of_cell? w _ hw172_2)).trans hw172_2)⟩ (fun hHeld => ?_)
                      clear hK K
                      refine norm_ (a' := ?_) ?_ ?_
                      rotate_left
                      · show Act.put _ (some 45) _ = _
                        simp only [Act.put, List.setIfInBounds_toArray, List.set_cons_zero, List.set_cons_succ, i64_w, i32_w]
                        rfl
                      refine pure_ (i := 2) (N := some 46) (v := ?_) (a' := ?_) #[true, true, true, false, false, false, false, false, false, false, false, false, false, false, false, false, false, false, false, false, false, false, false, false, false, false, false, false, false, false, false] rfl rfl (any_of HT_.out (by kernel_rfl)) (fun _ _ _ h => h) (Or.inl ⟨by rfl, ?_⟩) ?_ ?_
                      rotate_left
                      · intro w'
                        go_simp
                        with_reducible rfl
                      rotate_left
                      · simp only [Act.put, List.setIfInBounds_toArray, List.set_cons_zero, List.set_cons_succ, i64_w, i32_w]
                        rfl
                      refine pure_ (i := 3) (N := some 47) (v := ?_) (a' := ?_) #[true, true, true, true, false, false, false, false, false, false, false, false, false, false, false, false, false, false, false, false, false, false, false, false, false, false, false, false, false, false, false] rfl rfl (any_of HT_.out (by kernel_rfl)) (fun _ _ _ h => h) (Or.inl ⟨by rfl, ?_⟩) ?_ ?_
                      rotate_left
                      · intro w'
                        go_simp
                        with_reducible rfl
                      rotate_left
                      · simp only [Act.put, List.setIfInBounds_toArray, List.set_cons_zero, List.set_cons_succ, i64_w, i32_w]
                        rfl
                      refine pure_ (i := 4) (N := some 48) (v := ?_) (a' := ?_) #[true, true, true, true, true, false, false, false, false, false, false, false, false, false, false, false, false, false, false, false, false, false, false, false, false, false, false, false, false, false, false] rfl rfl (any_of HT_.out (by kernel_rfl)) (fun _ _ _ h => h) (Or.inl ⟨by rfl, ?_⟩) ?_ ?_
                      rotate_left
                      · intro w'
                        go_simp
                        with_reducible rfl
                      rotate_left
                      · simp only [Act.put, List.setIfInBounds_toArray, List.set_cons_zero, List.set_cons_succ, i64_w, i32_w]
                        rfl
                      refine pure_ (i := 5) (N := some 49) (v := ?_) (a' := ?_) #[true, true, true, true, true, true, false, false, false, false, false, false, false, false, false, false, false, false, false, false, false, false, false, false, false, false, false, false, false, false, false] rfl rfl (any_of HT_.out (by kernel_rfl)) (fun _ _ _ h => h) (Or.inl ⟨by rfl, ?_⟩) ?_ ?_
                      rotate_left
                      · intro w'
                        go_simp
                        with_reducible rfl
                      rotate_left
                      · simp only [Act.put, List.setIfInBounds_toArray, List.set_cons_zero, List.set_cons_succ, i64_w, i32_w]
                        rfl
                      refine pure_ (i := 6) (N := some 50) (v := ?_) (a' := ?_) #[true, true, true, true, true, true, true, false, false, false, false, false, false, false, false, false, false, false, false, false, false, false, false, false, false, false, false, false, false, false, false] rfl rfl (any_of HT_.out (by kernel_rfl)) (fun _ _ _ h => h) (Or.inl ⟨by rfl, ?_⟩) ?_ ?_
                      rotate_left
                      · intro w'
                        go_simp
                        with_reducible rfl
                      rotate_left
                      · simp only [Act.put, List.setIfInBounds_toArray, List.set_cons_zero, List.set_cons_succ, i64_w, i32_w]
                        rfl
                      refine pure_ (i := 8) (N := some 52) (v := ?_) (a' := ?_) #[true, true, true, true, true, true, true, false, true, false, false, false, false, false, false, false, false, false, false, false, false, false, false, false, false, false, false, false, false, false, false] rfl rfl (any_of HT_.out (by kernel_rfl)) (fun _ _ _ h => h) (Or.inl ⟨by rfl, ?_⟩) ?_ ?_
                      rotate_left
                      · intro w'
                        go_simp
                        with_reducible rfl
                      rotate_left
                      · simp only [Act.put, List.setIfInBounds_toArray, List.set_cons_zero, List.set_cons_succ, i64_w, i32_w]
                        rfl
                      refine pure_ (i := 9) (N := some 53) (v := ?_) (a' := ?_) #[true, true, true, true, true, true, true, false, true, true, false, false, false, false, false, false, false, false, false, false, false, false, false, false, false, false, false, false, false, false, false] rfl rfl (any_of HT_.out (by kernel_rfl)) (fun _ _ _ h => h) (Or.inl ⟨by rfl, ?_⟩) ?_ ?_
                      rotate_left
                      · intro w'
                        go_simp
                        with_reducible rfl
                      rotate_left
                      · simp only [Act.put, List.setIfInBounds_toArray, List.set_cons_zero, List.set_cons_succ, i64_w, i32_w]
                        rfl
                      refine pure_ (i := 10) (N := some 54) (v := ?_) (a' := ?_) #[true, true, true, true, true, true, true, false, true, true, true, false, false, false, false, false, false, false, false, false, false, false, false, false, false, false, false, false, false, false, false] rfl rfl (any_of HT_.out (by kernel_rfl)) (fun _ _ _ h => h) (Or.inl ⟨by rfl, ?_⟩) ?_ ?_
                      rotate_left
                      · intro w'
                        go_simp
                        with_reducible rfl
                      rotate_left
                      · simp only [Act.put, List.setIfInBounds_toArray, List.set_cons_zero, List.set_cons_succ, i64_w, i32_w]
                        rfl
                      refine pure_ (i := 13) (N := some 57) (v := ?_) (a' := ?_) #[true, true, true, true, true, true, true, false, true, true, true, false, false, true, false, false, false, false, false, false, false, false, false, false, false, false, false, false, false, false, false] rfl rfl (any_of HT_.out (by kernel_rfl)) (fun _ _ _ h => h) (Or.inl ⟨by rfl, ?_⟩) ?_ ?_
                      rotate_left
                      · intro w'
                        go_simp
                        with_reducible rfl
                      rotate_left
                      · simp only [Act.put, List.setIfInBounds_toArray, List.set_cons_zero, List.set_cons_succ, i64_w, i32_w]
                        rfl
                      refine pure_ (i := 14) (N := some 58) (v := ?_) (a' := ?_) #[true, true, true, true, true, true, true, false, true, true, true, false, false, true, true, false, false, false, false, false, false, false, false, false, false, false, false, false, false, false, false] rfl rfl (any_of HT_.out (by kernel_rfl)) (fun _ _ _ h => h) (Or.inl ⟨by rfl, ?_⟩) ?_ ?_
                      rotate_left
                      · intro w'
                        go_simp
                        with_reducible rfl
                      rotate_left
                      · simp only [Act.put, List.setIfInBounds_toArray, List.set_cons_zero, List.set_cons_succ, i64_w, i32_w]
                        rfl
                      refine pure_ (i := 15) (N := some 59) (v := ?_) (a' := ?_) #[true, true, true, true, true, true, true, false, true, true, true, false, false, true, true, true, false, false, false, false, false, false, false, false, false, false, false, false, false, false, false] rfl rfl (any_of HT_.out (by kernel_rfl)) (fun _ _ _ h => h) (Or.inl ⟨by rfl, ?_⟩) ?_ ?_
                      rotate_left
                      · intro w'
                        go_simp
                        with_reducible rfl
                      rotate_left
                      · simp only [Act.put, List.setIfInBounds_toArray, List.set_cons_zero, List.set_cons_succ, i64_w, i32_w]
                        rfl
                      refine take_ (i := 7) (N := some 51) (v := ?_) (a' := ?_) #[true, true, true, true, true, true, true, true, true, true, true, false, false, true, true, true, false, false, false, false, false, false, false, false, false, false, false, false, false, false, false] rfl rfl (take_ofW HT_.out HW_.out (by kernel_rfl)) (fun _ _ _ h => h) (Or.inl ⟨by rfl, ?_⟩) hHeld ?_ ?_
                      rotate_left
                      · rintro w' ⟨s0, s1, s2, s3, s4, s5, s6, s7, s8, s9, s10⟩
                        go_simp
                        with_reducible rfl
                      rotate_left
                      · simp only [Act.put, List.setIfInBounds_toArray, List.set_cons_zero, List.set_cons_succ, i64_w, i32_w]
                        rfl
                      refine take_ (i := 11) (N := some 55) (v := ?_) (a' := ?_) #[true, true, true, true, true, true, true, true, true, true, true, true, false, true, true, true, false, false, false, false, false, false, false, false, false, false, false, false, false, false, false] rfl rfl (take_ofW HT_.out HW_.out (by kernel_rfl)) (fun _ _ _ h => h) (Or.inl ⟨by rfl, ?_⟩) hHeld ?_ ?_
                      rotate_left
                      · rintro w' ⟨s0, s1, s2, s3, s4, s5, s6, s7, s8, s9, s10⟩
                        go_simp
                        with_reducible rfl
                      rotate_left
                      · simp only [Act.put, List.setIfInBounds_toArray, List.set_cons_zero, List.set_cons_succ, i64_w, i32_w]
                        rfl
                      refine pure_ (i := 12) (N := some 56) (v := ?_) (a' := ?_) #[true, true, true, true, true, true, true, true, true, true, true, true, true, true, true, true, false, false, false, false, false, false, false, false, false, false, false, false, false, false, false] rfl rfl (any_of HT_.out (by kernel_rfl)) (fun _ _ _ h => h) (Or.inl ⟨by rfl, ?_⟩) ?_ ?_
                      rotate_left
                      · intro w'
                        go_simp
                        with_reducible rfl
                      rotate_left
                      · simp only [Act.put, List.setIfInBounds_toArray, List.set_cons_zero, List.set_cons_succ, i64_w, i32_w]
                        rfl
                      refine take_ (i := 16) (N := some 60) (v := ?_) (a' := ?_) #[true, true, true, true, true, true, true, true, true, true, true, true, true, true, true, true, true, false, false, false, false, false, false, false, false, false, false, false, false, false, false] rfl rfl (take_ofW HT_.out HW_.out (by kernel_rfl)) (fun _ _ _ h => h) (Or.inl ⟨by rfl, ?_⟩) hHeld ?_ ?_
                      rotate_left
                      · rintro w' ⟨s0, s1, s2, s3, s4, s5, s6, s7, s8, s9, s10⟩
                        go_simp
                        with_reducible rfl
                      rotate_left
                      · simp only [Act.put, List.setIfInBounds_toArray, List.set_cons_zero, List.set_cons_succ, i64_w, i32_w]
                        rfl
                      refine pure_ (i := 17) (N := some 61) (v := ?_) (a' := ?_) #[true, true, true, true, true, true, true, true, true, true, true, true, true, true, true, true, true, true, false, false, false, false, false, false, false, false, false, false, false, false, false] rfl rfl (any_of HT_.out (by kernel_rfl)) (fun _ _ _ h => h) (Or.inl ⟨by rfl, ?_⟩) ?_ ?_
                      rotate_left
                      · intro w'
                        go_simp
                        with_reducible rfl
                      rotate_left
                      · simp only [Act.put, List.setIfInBounds_toArray, List.set_cons_zero, List.set_cons_succ, i64_w, i32_w]
                        rfl
                      refine one_ (i := 18) (N := some 62) #[true, true, true, true, true, true, true, true, true, true, true, true, true, true, true, true, true, true, true, false, false, false, false, false, false, false, false, false, false, false, false] rfl rfl (one_of HT_.out (by kernel_rfl)) (by decide) (fun K hK => ?_)
                      refine goes_ Try.func45 (by kernel_rfl) rfl #[.agg #[.int .i8 ((rd_T62 ((rd_T30 l0 0).f2) x3_2).f0.f0), .int .i8 ((rd_T62 ((rd_T30 l0 0).f2) x3_2).f0.f1)], .int .i64 (wrap64 ((rd_T30 l0 0).f0)), .int .i64 (wrap64 ((rd_T30 l0 0).f1))] (by rfl) rfl rfl (by (try simp only [List.map_toArray, List.map_cons, List.map_nil]); first | done | rfl | (simp only [List.length_drop, List.length_take]; rfl)) ?_
                      with_reducible refine (spec_l01In.calls ((rd_T62 ((rd_T30 l0 0).f2) x3_2).f0.f0) ((rd_T62 ((rd_T30 l0 0).f2) x3_2).f0.f1) (wrap64 ((rd_T30 l0 0).f0)) (wrap64 ((rd_T30 l0 0).f1)) false _ A14.out).mono ?_
                      rintro e w28 ⟨rfl, hb⟩
                      refine ⟨_, rfl, ?_⟩
                      have n0_ := Aside0.mk (below_step (by repeat (first | (with_reducible first | exact HB.out | apply below_alloc | apply pw_below_drewN | apply below_drew1) | exact HB.out)) hb)
                      clear HB
                      have HB := n0_
                      clear n0_
                      (try clear hb)
                      (try clear hb2)
                      (try clear hk)
                      (try clear hi)
                      refine hK.out _ _ ⟨((HB.out.cell (World.block_lt_of_cell? w _ hw170_0)).trans hw170_0), ((HB.out.cell (World.block_lt_of_cell? w _ hw170_1)).trans hw170_1), ((HB.out.cell (World.block_lt_of_cell? w _ hw170_2)).trans hw170_2), ((HB.out.cell (World.block_lt_of_cell? w _ hw170_3)).trans hw170_3), ((HB.out.cell (World.block_lt_of_cell? w _ hw170_4)).trans hw170_4), ((HB.out.cell (World.block_lt_of_cell? w _ hw171_0)).trans hw171_0), ((HB.out.cell (World.block_lt_of_cell? w _ hw171_1)).trans hw171_1), ((HB.out.cell (World.block_lt_of_cell? w _ hw171_2)).trans hw171_2), ((HB.out.cell (World.block_lt_of_cell? w _ hw172_0)).trans hw172_0), ((HB.out.cell (World.block_lt_of_cell? w _ hw172_1)).trans hw172_1), ((HB.out.cell (World.block_lt_of_cell? w _ hw172_2)).trans hw172_2)⟩ (fun hHeld => ?_)
                      clear hK K
                      refine norm_ (a' := ?_) ?_ ?_
                      rotate_left
                      · show Act.put _ (some 62) _ = _
                        simp only [Act.put, List.setIfInBounds_toArray, List.set_cons_zero, List.set_cons_succ, i64_w, i32_w]
                        rfl
                      refine pure_ (i := 19) (N := some 63) (v := ?_) (a' := ?_) #[true, true, true, true, true, true, true, true, true, true, true, true, true, true, true, true, true, true, true, true, false, false, false, false, false, false, false, false, false, false, false] rfl rfl (any_of HT_.out (by kernel_rfl)) (fun _ _ _ h => h) (Or.inl ⟨by rfl, ?_⟩) ?_ ?_
                      rotate_left
                      · intro w'
                        go_simp
                        with_reducible rfl
                      rotate_left
                      · simp only [Act.put, List.setIfInBounds_toArray, List.set_cons_zero, List.set_cons_succ, i64_w, i32_w]
                        rfl
                      refine pure_ (i := 20) (N := some 64) (v := ?_) (a' := ?_) #[true, true, true, true, true, true, true, true, true, true, true, true, true, true, true, true, true, true, true, true, true, false, false, false, false, false, false, false, false, false, false] rfl rfl (any_of HT_.out (by kernel_rfl)) (fun _ _ _ h => h) (Or.inl ⟨by rfl, ?_⟩) ?_ ?_
                      rotate_left
                      · intro w'
                        go_simp
                        with_reducible rfl
                      rotate_left
                      · simp only [Act.put, List.setIfInBounds_toArray, List.set_cons_zero, List.set_cons_succ, i64_w, i32_w]
                        rfl
                      refine pure_ (i := 21) (N := some 65) (v := ?_) (a' := ?_) #[true, true, true, true, true, true, true, true, true, true, true, true, true, true, true, true, true, true, true, true, true, true, false, false, false, false, false, false, false, false, false] rfl rfl (any_of HT_.out (by kernel_rfl)) (fun _ _ _ h => h) (Or.inl ⟨by rfl, ?_⟩) ?_ ?_
                      rotate_left
                      · intro w'
                        go_simp
                        with_reducible rfl
                      rotate_left
                      · simp only [Act.put, List.setIfInBounds_toArray, List.set_cons_zero, List.set_cons_succ, i64_w, i32_w]
                        rfl
                      refine pure_ (i := 22) (N := some 66) (v := undef) (a' := ?_) #[true, true, true, true, true, true, true, true, true, true, true, true, true, true, true, true, true, true, true, true, true, true, true, false, false, false, false, false, false, false, false] rfl rfl (any_of HT_.out (by kernel_rfl)) (fun _ _ _ h => h) (Or.inr ⟨by rfl, rfl⟩) ?_ ?_
                      rotate_left
                      · simp only [Act.put, List.setIfInBounds_toArray, List.set_cons_zero, List.set_cons_succ, i64_w, i32_w]
                        rfl
                      refine pure_ (i := 23) (N := some 67) (v := undef) (a' := ?_) #[true, true, true, true, true, true, true, true, true, true, true, true, true, true, true, true, true, true, true, true, true, true, true, true, false, false, false, false, false, false, false] rfl rfl (any_of HT_.out (by kernel_rfl)) (fun _ _ _ h => h) (Or.inr ⟨by rfl, rfl⟩) ?_ ?_
                      rotate_left
                      · simp only [Act.put, List.setIfInBounds_toArray, List.set_cons_zero, List.set_cons_succ, i64_w, i32_w]
                        rfl
                      refine pure_ (i := 24) (N := some 68) (v := undef) (a' := ?_) #[true, true, true, true, true, true, true, true, true, true, true, true, true, true, true, true, true, true, true, true, true, true, true, true, true, false, false, false, false, false, false] rfl rfl (any_of HT_.out (by kernel_rfl)) (fun _ _ _ h => h) (Or.inr ⟨by rfl, rfl⟩) ?_ ?_
                      rotate_left
                      · simp only [Act.put, List.setIfInBounds_toArray, List.set_cons_zero, List.set_cons_succ, i64_w, i32_w]
                        rfl
                      refine pure_ (i := 25) (N := some 69) (v := undef) (a' := ?_) #[true, true, true, true, true, true, true, true, true, true, true, true, true, true, true, true, true, true, true, true, true, true, true, true, true, true, false, false, false, false, false] rfl rfl (any_of HT_.out (by kernel_rfl)) (fun _ _ _ h => h) (Or.inr ⟨by rfl, rfl⟩) ?_ ?_
                      rotate_left
                      · simp only [Act.put, List.setIfInBounds_toArray, List.set_cons_zero, List.set_cons_succ, i64_w, i32_w]
                        rfl
                      refine pure_ (i := 26) (N := some 70) (v := undef) (a' := ?_) #[true, true, true, true, true, true, true, true, true, true, true, true, true, true, true, true, true, true, true, true, true, true, true, true, true, true, true, false, false, false, false] rfl rfl (any_of HT_.out (by kernel_rfl)) (fun _ _ _ h => h) (Or.inr ⟨by rfl, rfl⟩) ?_ ?_
                      rotate_left
                      · simp only [Act.put, List.setIfInBounds_toArray, List.set_cons_zero, List.set_cons_succ, i64_w, i32_w]
                        rfl
                      refine pure_ (i := 27) (N := some 71) (v := undef) (a' := ?_) #[true, true, true, true, true, true, true, true, true, true, true, true, true, true, true, true, true, true, true, true, true, true, true, true, true, true, true, true, false, false, false] rfl rfl (any_of HT_.out (by kernel_rfl)) (fun _ _ _ h => h) (Or.inr ⟨by rfl, rfl⟩) ?_ ?_
                      rotate_left
                      · simp only [Act.put, List.setIfInBounds_toArray, List.set_cons_zero, List.set_cons_succ, i64_w, i32_w]
                        rfl
                      refine pure_ (i := 28) (N := some 72) (v := undef) (a' := ?_) #[true, true, true, true, true, true, true, true, true, true, true, true, true, true, true, true, true, true, true, true, true, true, true, true, true, true, true, true, true, false, false] rfl rfl (any_of HT_.out (by kernel_rfl)) (fun _ _ _ h => h) (Or.inr ⟨by rfl, rfl⟩) ?_ ?_
                      rotate_left
                      · simp only [Act.put, List.setIfInBounds_toArray, List.set_cons_zero, List.set_cons_succ, i64_w, i32_w]
                        rfl
                      refine pure_ (i := 29) (N := some 73) (v := undef) (a' := ?_) #[true, true, true, true, true, true, true, true, true, true, true, true, true, true, true, true, true, true, true, true, true, true, true, true, true, true, true, true, true, true, false] rfl rfl (any_of HT_.out (by kernel_rfl)) (fun _ _ _ h => h) (Or.inr ⟨by rfl, rfl⟩) ?_ ?_
                      rotate_left
                      · simp only [Act.put, List.setIfInBounds_toArray, List.set_cons_zero, List.set_cons_succ, i64_w, i32_w]
                        rfl
                      refine pure_ (i := 30) (N := some 74) (v := ?_) (a' := ?_) #[true, true, true, true, true, true, true, true, true, true, true, true, true, true, true, true, true, true, true, true, true, true, true, true, true, true, true, true, true, true, true] rfl rfl (any_of HT_.out (by kernel_rfl)) (fun _ _ _ h => h) (Or.inl ⟨by rfl, ?_⟩) ?_ ?_
                      rotate_left
                      · intro w'
                        go_simp
                        with_reducible rfl
                      rotate_left
                      · simp only [Act.put, List.setIfInBounds_toArray, List.set_cons_zero, List.set_cons_succ, i64_w, i32_w]
                        rfl
                      refine done_ (done_of HT_.out (by kernel_rfl)) ?_
                      try go_wp2
                      go_ret
                      exact ⟨by first | rfl | (simp [errW_none, errW_some] <;> rfl) | (simp [*, errW_none, errW_some] <;> rfl), by repeat (first | (with_reducible first | exact HB.out | apply below_alloc | apply pw_below_drewN | apply below_drew1) | exact HB.out)⟩
                  · replace c13 := Bool.eq_false_iff.mpr c13
                    subst c13
                    have H1 : (some false) = some r := by rw [if_neg (show ¬ (false = true) by decide)] at H; exact H
                    clear H
                    have H := H1
                    clear H1
                    obtain rfl := Option.some.inj H
                    have p166 : 0 ≤ (0 : Int) := (by omega)
                    have q166 : 0 < (l0.length : Int) := of_decide_eq_true (by first | (with_reducible assumption) | assumption)
                    obtain ⟨ad166, A166_2, c166_2, e166, hx166_0, hx166_1, hx166_2, hl166_2, hi166_2⟩ := at_T30 HR0.out 0 p166 q166
                    obtain rfl : adp0 = ad166 := (by injection e166)
                    have qi166 : (0 < l0.length) = True := eq_true (by omega)
                    (try rw [show ((0 : Int)).toNat = 0 from rfl] at hx166_0)
                    (try rw [show 0 * 3 = 0 from rfl] at hx166_0)
                    (try rw [Addr.add_zero'] at hx166_0)
                    (try rw [show ((0 : Int)).toNat = 0 from rfl] at hx166_1)
                    (try rw [show 0 * 3 = 0 from rfl] at hx166_1)
                    (try rw [Addr.add_zero'] at hx166_1)
                    (try rw [show ((0 : Int)).toNat = 0 from rfl] at hx166_2)
                    (try rw [show 0 * 3 = 0 from rfl] at hx166_2)
                    (try rw [Addr.add_zero'] at hx166_2)
                    replace hx166_0 := (HB.out.cell (World.block_lt_of_cell? w _ hx166_0)).trans hx166_0
                    replace hx166_1 := (HB.out.cell (World.block_lt_of_cell? w _ hx166_1)).trans hx166_1
                    replace hx166_2 := (HB.out.cell (World.block_lt_of_cell? w _ hx166_2)).trans hx166_2
                    have HR166_2 := Aside0.mk hi166_2
                    have HC166_2 := Aside0.mk hl166_2
                    clear hi166_2 hl166_2
                    replace p166 := eq_true p166
                    replace q166 := eq_true q166
                    have p167 : 0 ≤ (0 : Int) := (by omega)
                    have q167 : 0 < (l0.length : Int) := of_decide_eq_true (by first | (with_reducible assumption) | assumption)
                    obtain ⟨ad167, A167_2, c167_2, e167, hx167_0, hx167_1, hx167_2, hl167_2, hi167_2⟩ := at_T30 HR0.out 0 p167 q167
                    obtain rfl : adp0 = ad167 := (by injection e167)
                    have qi167 : (0 < l0.length) = True := eq_true (by omega)
                    (try rw [show ((0 : Int)).toNat = 0 from rfl] at hx167_0)
                    (try rw [show 0 * 3 = 0 from rfl] at hx167_0)
                    (try rw [Addr.add_zero'] at hx167_0)
                    (try rw [show ((0 : Int)).toNat = 0 from rfl] at hx167_1)
                    (try rw [show 0 * 3 = 0 from rfl] at hx167_1)
                    (try rw [Addr.add_zero'] at hx167_1)
                    (try rw [show ((0 : Int)).toNat = 0 from rfl] at hx167_2)
                    (try rw [show 0 * 3 = 0 from rfl] at hx167_2)
                    (try rw [Addr.add_zero'] at hx167_2)
                    replace hx167_0 := (HB.out.cell (World.block_lt_of_cell? w _ hx167_0)).trans hx167_0
                    replace hx167_1 := (HB.out.cell (World.block_lt_of_cell? w _ hx167_1)).trans hx167_1
                    replace hx167_2 := (HB.out.cell (World.block_lt_of_cell? w _ hx167_2)).trans hx167_2
                    have HR167_2 := Aside0.mk hi167_2
                    have HC167_2 := Aside0.mk hl167_2
                    clear hi167_2 hl167_2
                    replace p167 := eq_true p167
                    replace q167 := eq_true q167
                    have ea_ := Option.some.inj (hx166_2.symm.trans hx167_2)
                    injection ea_ with ea_ en_ ec_
                    subst ea_
                    subst ec_
                    clear en_
                    have p168 : 0 ≤ (x3_2 : Int) := of_decide_eq_true (by first | (with_reducible assumption) | assumption)
                    have q168 : x3_2 < (((rd_T30 l0 0).f2).length : Int) := of_decide_eq_true (by first | (with_reducible assumption) | assumption)
                    obtain ⟨ad168, e168, hx168_0, hx168_1, hx168_2, hx168_3, hx168_4⟩ := at_T62 HR167_2.out x3_2 p168 q168
                    cases e168
                    replace hx168_0 := (HB.out.cell (World.block_lt_of_cell? w _ hx168_0)).trans hx168_0
                    replace hx168_1 := (HB.out.cell (World.block_lt_of_cell? w _ hx168_1)).trans hx168_1
                    replace hx168_2 := (HB.out.cell (World.block_lt_of_cell? w _ hx168_2)).trans hx168_2
                    replace hx168_3 := (HB.out.cell (World.block_lt_of_cell? w _ hx168_3)).trans hx168_3
                    replace hx168_4 := (HB.out.cell (World.block_lt_of_cell? w _ hx168_4)).trans hx168_4
                    replace p168 := eq_true p168
                    replace q168 := eq_true q168
                    try go_wp2
                    have n0_ := Aside0.mk (below_drew1 HB.out)
                    clear HB
                    have HB := n0_
                    clear n0_
                    refine start_ (n := 31) (S := fun w' => True) (ds := []) #[false, false, false, false, false, false, false, false, false, false, false, false, false, false, false, false, false, false, false, false, false, false, false, false, false, false, false, false, false, false, false] (by kernel_rfl) rfl rfl trivial (fun hHeld => ?_); refine with_tabW spec_l01Ok.tab7 spec_l01Ok.bits7 (fun HT_ HW_ => ?_)
                    generalize wr.drew = w29 at HB hHeld ⊢
                    refine pure_ (i := 0) (N := some 44) (v := ?_) (a' := ?_) #[true, false, false, false, false, false, false, false, false, false, false, false, false, false, false, false, false, false, false, false, false, false, false, false, false, false, false, false, false, false, false] rfl rfl (any_of HT_.out (by kernel_rfl)) (fun _ _ _ h => h) (Or.inl ⟨by rfl, ?_⟩) ?_ ?_
                    rotate_left
                    · intro w'
                      go_simp
                      with_reducible rfl
                    rotate_left
                    · simp only [Act.put, List.setIfInBounds_toArray, List.set_cons_zero, List.set_cons_succ, i64_w, i32_w]
                      rfl
                    refine one_ (i := 1) (N := some 45) #[true, true, false, false, false, false, false, false, false, false, false, false, false, false, false, false, false, false, false, false, false, false, false, false, false, false, false, false, false, false, false] rfl rfl (one_of HT_.out (by kernel_rfl)) (by decide) (fun K hK => ?_)
                    refine goes_ Try.func44 (by kernel_rfl) rfl #[.pointer (some (ad168.add (x3_2.toNat * 5)))] (by rfl) rfl rfl (by (try simp only [List.map_toArray, List.map_cons, List.map_nil]); first | done | rfl | (simp only [List.length_drop, List.length_take]; rfl)) ?_
                    with_reducible refine (spec_l01Piece.calls _ [rd_T62 ((rd_T30 l0 0).f2) x3_2] false _ ?side1 A12.out).mono ?_
                    (case side1 => refine ro_of_elem (d := k62) z62 x3_2 (by first | exact of_eq_true p168 | omega) (by first | exact of_eq_true q168 | omega) ?_; repeat (first | exact (Kd.C_below HR167_2.out HB.out) | (with_reducible refine Kd.C_alloc ?_ _) | (with_reducible refine Kd.C_drewN ?_ _) | (with_reducible refine Kd.C_drew ?_)))
                    rintro e w30 ⟨rfl, hb⟩
                    refine ⟨_, rfl, ?_⟩
                    have n0_ := Aside0.mk (below_step (by repeat (first | (with_reducible first | exact HB.out | apply below_alloc | apply pw_below_drewN | apply below_drew1) | exact HB.out)) hb)
                    clear HB
                    have HB := n0_
                    clear n0_
                    (try clear hb)
                    (try clear hb2)
                    (try clear hk)
                    (try clear hi)
                    refine hK.out _ _ trivial (fun hHeld => ?_)
                    clear hK K
                    refine norm_ (a' := ?_) ?_ ?_
                    rotate_left
                    · show Act.put _ (some 45) _ = _
                      simp only [Act.put, List.setIfInBounds_toArray, List.set_cons_zero, List.set_cons_succ, i64_w, i32_w]
                      rfl
                    refine pure_ (i := 2) (N := some 46) (v := ?_) (a' := ?_) #[true, true, true, false, false, false, false, false, false, false, false, false, false, false, false, false, false, false, false, false, false, false, false, false, false, false, false, false, false, false, false] rfl rfl (any_of HT_.out (by kernel_rfl)) (fun _ _ _ h => h) (Or.inl ⟨by rfl, ?_⟩) ?_ ?_
                    rotate_left
                    · intro w'
                      go_simp
                      with_reducible rfl
                    rotate_left
                    · simp only [Act.put, List.setIfInBounds_toArray, List.set_cons_zero, List.set_cons_succ, i64_w, i32_w]
                      rfl
                    refine pure_ (i := 3) (N := some 47) (v := ?_) (a' := ?_) #[true, true, true, true, false, false, false, false, false, false, false, false, false, false, false, false, false, false, false, false, false, false, false, false, false, false, false, false, false, false, false] rfl rfl (any_of HT_.out (by kernel_rfl)) (fun _ _ _ h => h) (Or.inl ⟨by rfl, ?_⟩) ?_ ?_
                    rotate_left
                    · intro w'
                      go_simp
                      with_reducible rfl
                    rotate_left
                    · simp only [Act.put, List.setIfInBounds_toArray, List.set_cons_zero, List.set_cons_succ, i64_w, i32_w]
                      rfl
                    refine pure_ (i := 4) (N := some 48) (v := undef) (a' := ?_) #[true, true, true, true, true, false, false, false, false, false, false, false, false, false, false, false, false, false, false, false, false, false, false, false, false, false, false, false, false, false, false] rfl rfl (any_of HT_.out (by kernel_rfl)) (fun _ _ _ h => h) (Or.inr ⟨by rfl, rfl⟩) ?_ ?_
                    rotate_left
                    · simp only [Act.put, List.setIfInBounds_toArray, List.set_cons_zero, List.set_cons_succ, i64_w, i32_w]
                      rfl
                    refine pure_ (i := 5) (N := some 49) (v := undef) (a' := ?_) #[true, true, true, true, true, true, false, false, false, false, false, false, false, false, false, false, false, false, false, false, false, false, false, false, false, false, false, false, false, false, false] rfl rfl (any_of HT_.out (by kernel_rfl)) (fun _ _ _ h => h) (Or.inr ⟨by rfl, rfl⟩) ?_ ?_
                    rotate_left
                    · simp only [Act.put, List.setIfInBounds_toArray, List.set_cons_zero, List.set_cons_succ, i64_w, i32_w]
                      rfl
                    refine pure_ (i := 6) (N := some 50) (v := undef) (a' := ?_) #[true, true, true, true, true, true, true, false, false, false, false, false, false, false, false, false, false, false, false, false, false, false, false, false, false, false, false, false, false, false, false] rfl rfl (any_of HT_.out (by kernel_rfl)) (fun _ _ _ h => h) (Or.inr ⟨by rfl, rfl⟩) ?_ ?_
                    rotate_left
                    · simp only [Act.put, List.setIfInBounds_toArray, List.set_cons_zero, List.set_cons_succ, i64_w, i32_w]
                      rfl
                    refine pure_ (i := 7) (N := some 51) (v := undef) (a' := ?_) #[true, true, true, true, true, true, true, true, false, false, false, false, false, false, false, false, false, false, false, false, false, false, false, false, false, false, false, false, false, false, false] rfl rfl (any_of HT_.out (by kernel_rfl)) (fun _ _ _ h => h) (Or.inr ⟨by rfl, rfl⟩) ?_ ?_
                    rotate_left
                    · simp only [Act.put, List.setIfInBounds_toArray, List.set_cons_zero, List.set_cons_succ, i64_w, i32_w]
                      rfl
                    refine pure_ (i := 8) (N := some 52) (v := undef) (a' := ?_) #[true, true, true, true, true, true, true, true, true, false, false, false, false, false, false, false, false, false, false, false, false, false, false, false, false, false, false, false, false, false, false] rfl rfl (any_of HT_.out (by kernel_rfl)) (fun _ _ _ h => h) (Or.inr ⟨by rfl, rfl⟩) ?_ ?_
                    rotate_left
                    · simp only [Act.put, List.setIfInBounds_toArray, List.set_cons_zero, List.set_cons_succ, i64_w, i32_w]
                      rfl
                    refine pure_ (i := 9) (N := some 53) (v := undef) (a' := ?_) #[true, true, true, true, true, true, true, true, true, true, false, false, false, false, false, false, false, false, false, false, false, false, false, false, false, false, false, false, false, false, false] rfl rfl (any_of HT_.out (by kernel_rfl)) (fun _ _ _ h => h) (Or.inr ⟨by rfl, rfl⟩) ?_ ?_
                    rotate_left
                    · simp only [Act.put, List.setIfInBounds_toArray, List.set_cons_zero, List.set_cons_succ, i64_w, i32_w]
                      rfl
                    refine pure_ (i := 10) (N := some 54) (v := undef) (a' := ?_) #[true, true, true, true, true, true, true, true, true, true, true, false, false, false, false, false, false, false, false, false, false, false, false, false, false, false, false, false, false, false, false] rfl rfl (any_of HT_.out (by kernel_rfl)) (fun _ _ _ h => h) (Or.inr ⟨by rfl, rfl⟩) ?_ ?_
                    rotate_left
                    · simp only [Act.put, List.setIfInBounds_toArray, List.set_cons_zero, List.set_cons_succ, i64_w, i32_w]
                      rfl
                    refine pure_ (i := 11) (N := some 55) (v := undef) (a' := ?_) #[true, true, true, true, true, true, true, true, true, true, true, true, false, false, false, false, false, false, false, false, false, false, false, false, false, false, false, false, false, false, false] rfl rfl (any_of HT_.out (by kernel_rfl)) (fun _ _ _ h => h) (Or.inr ⟨by rfl, rfl⟩) ?_ ?_
                    rotate_left
                    · simp only [Act.put, List.setIfInBounds_toArray, List.set_cons_zero, List.set_cons_succ, i64_w, i32_w]
                      rfl
                    refine pure_ (i := 12) (N := some 56) (v := undef) (a' := ?_) #[true, true, true, true, true, true, true, true, true, true, true, true, true, false, false, false, false, false, false, false, false, false, false, false, false, false, false, false, false, false, false] rfl rfl (any_of HT_.out (by kernel_rfl)) (fun _ _ _ h => h) (Or.inr ⟨by rfl, rfl⟩) ?_ ?_
                    rotate_left
                    · simp only [Act.put, List.setIfInBounds_toArray, List.set_cons_zero, List.set_cons_succ, i64_w, i32_w]
                      rfl
                    refine pure_ (i := 13) (N := some 57) (v := undef) (a' := ?_) #[true, true, true, true, true, true, true, true, true, true, true, true, true, true, false, false, false, false, false, false, false, false, false, false, false, false, false, false, false, false, false] rfl rfl (any_of HT_.out (by kernel_rfl)) (fun _ _ _ h => h) (Or.inr ⟨by rfl, rfl⟩) ?_ ?_
                    rotate_left
                    · simp only [Act.put, List.setIfInBounds_toArray, List.set_cons_zero, List.set_cons_succ, i64_w, i32_w]
                      rfl
                    refine pure_ (i := 14) (N := some 58) (v := undef) (a' := ?_) #[true, true, true, true, true, true, true, true, true, true, true, true, true, true, true, false, false, false, false, false, false, false, false, false, false, false, false, false, false, false, false] rfl rfl (any_of HT_.out (by kernel_rfl)) (fun _ _ _ h => h) (Or.inr ⟨by rfl, rfl⟩) ?_ ?_
                    rotate_left
                    · simp only [Act.put, List.setIfInBounds_toArray, List.set_cons_zero, List.set_cons_succ, i64_w, i32_w]
                      rfl
                    refine pure_ (i := 15) (N := some 59) (v := undef) (a' := ?_) #[true, true, true, true, true, true, true, true, true, true, true, true, true, true, true, true, false, false, false, false, false, false, false, false, false, false, false, false, false, false, false] rfl rfl (any_of HT_.out (by kernel_rfl)) (fun _ _ _ h => h) (Or.inr ⟨by rfl, rfl⟩) ?_ ?_
                    rotate_left
                    · simp only [Act.put, List.setIfInBounds_toArray, List.set_cons_zero, List.set_cons_succ, i64_w, i32_w]
                      rfl
                    refine pure_ (i := 16) (N := some 60) (v := undef) (a' := ?_) #[true, true, true, true, true, true, true, true, true, true, true, true, true, true, true, true, true, false, false, false, false, false, false, false, false, false, false, false, false, false, false] rfl rfl (any_of HT_.out (by kernel_rfl)) (fun _ _ _ h => h) (Or.inr ⟨by rfl, rfl⟩) ?_ ?_
                    rotate_left
                    · simp only [Act.put, List.setIfInBounds_toArray, List.set_cons_zero, List.set_cons_succ, i64_w, i32_w]
                      rfl
                    refine pure_ (i := 17) (N := some 61) (v := undef) (a' := ?_) #[true, true, true, true, true, true, true, true, true, true, true, true, true, true, true, true, true, true, false, false, false, false, false, false, false, false, false, false, false, false, false] rfl rfl (any_of HT_.out (by kernel_rfl)) (fun _ _ _ h => h) (Or.inr ⟨by rfl, rfl⟩) ?_ ?_
                    rotate_left
                    · simp only [Act.put, List.setIfInBounds_toArray, List.set_cons_zero, List.set_cons_succ, i64_w, i32_w]
                      rfl
                    refine pure_ (i := 18) (N := some 62) (v := undef) (a' := ?_) #[true, true, true, true, true, true, true, true, true, true, true, true, true, true, true, true, true, true, true, false, false, false, false, false, false, false, false, false, false, false, false] rfl rfl (any_of HT_.out (by kernel_rfl)) (fun _ _ _ h => h) (Or.inr ⟨by rfl, rfl⟩) ?_ ?_
                    rotate_left
                    · simp only [Act.put, List.setIfInBounds_toArray, List.set_cons_zero, List.set_cons_succ, i64_w, i32_w]
                      rfl
                    refine pure_ (i := 19) (N := some 63) (v := undef) (a' := ?_) #[true, true, true, true, true, true, true, true, true, true, true, true, true, true, true, true, true, true, true, true, false, false, false, false, false, false, false, false, false, false, false] rfl rfl (any_of HT_.out (by kernel_rfl)) (fun _ _ _ h => h) (Or.inr ⟨by rfl, rfl⟩) ?_ ?_
                    rotate_left
                    · simp only [Act.put, List.setIfInBounds_toArray, List.set_cons_zero, List.set_cons_succ, i64_w, i32_w]
                      rfl
                    refine pure_ (i := 20) (N := some 64) (v := ?_) (a' := ?_) #[true, true, true, true, true, true, true, true, true, true, true, true, true, true, true, true, true, true, true, true, true, false, false, false, false, false, false, false, false, false, false] rfl rfl (any_of HT_.out (by kernel_rfl)) (fun _ _ _ h => h) (Or.inl ⟨by rfl, ?_⟩) ?_ ?_
                    rotate_left
                    · intro w'
                      go_simp
                      with_reducible rfl
                    rotate_left
                    · simp only [Act.put, List.setIfInBounds_toArray, List.set_cons_zero, List.set_cons_succ, i64_w, i32_w]
                      rfl
                    refine pure_ (i := 21) (N := some 65) (v := ?_) (a' := ?_) #[true, true, true, true, true, true, true, true, true, true, true, true, true, true, true, true, true, true, true, true, true, true, false, false, false, false, false, false, false, false, false] rfl rfl (any_of HT_.out (by kernel_rfl)) (fun _ _ _ h => h) (Or.inl ⟨by rfl, ?_⟩) ?_ ?_
                    rotate_left
                    · intro w'
                      go_simp
                      with_reducible rfl
                    rotate_left
                    · simp only [Act.put, List.setIfInBounds_toArray, List.set_cons_zero, List.set_cons_succ, i64_w, i32_w]
                      rfl
                    refine pure_ (i := 22) (N := some 66) (v := undef) (a' := ?_) #[true, true, true, true, true, true, true, true, true, true, true, true, true, true, true, true, true, true, true, true, true, true, true, false, false, false, false, false, false, false, false] rfl rfl (any_of HT_.out (by kernel_rfl)) (fun _ _ _ h => h) (Or.inr ⟨by rfl, rfl⟩) ?_ ?_
                    rotate_left
                    · simp only [Act.put, List.setIfInBounds_toArray, List.set_cons_zero, List.set_cons_succ, i64_w, i32_w]
                      rfl
                    refine pure_ (i := 23) (N := some 67) (v := undef) (a' := ?_) #[true, true, true, true, true, true, true, true, true, true, true, true, true, true, true, true, true, true, true, true, true, true, true, true, false, false, false, false, false, false, false] rfl rfl (any_of HT_.out (by kernel_rfl)) (fun _ _ _ h => h) (Or.inr ⟨by rfl, rfl⟩) ?_ ?_
                    rotate_left
                    · simp only [Act.put, List.setIfInBounds_toArray, List.set_cons_zero, List.set_cons_succ, i64_w, i32_w]
                      rfl
                    refine pure_ (i := 24) (N := some 68) (v := undef) (a' := ?_) #[true, true, true, true, true, true, true, true, true, true, true, true, true, true, true, true, true, true, true, true, true, true, true, true, true, false, false, false, false, false, false] rfl rfl (any_of HT_.out (by kernel_rfl)) (fun _ _ _ h => h) (Or.inr ⟨by rfl, rfl⟩) ?_ ?_
                    rotate_left
                    · simp only [Act.put, List.setIfInBounds_toArray, List.set_cons_zero, List.set_cons_succ, i64_w, i32_w]
                      rfl
                    refine pure_ (i := 25) (N := some 69) (v := undef) (a' := ?_) #[true, true, true, true, true, true, true, true, true, true, true, true, true, true, true, true, true, true, true, true, true, true, true, true, true, true, false, false, false, false, false] rfl rfl (any_of HT_.out (by kernel_rfl)) (fun _ _ _ h => h) (Or.inr ⟨by rfl, rfl⟩) ?_ ?_
                    rotate_left
                    · simp only [Act.put, List.setIfInBounds_toArray, List.set_cons_zero, List.set_cons_succ, i64_w, i32_w]
                      rfl
                    refine pure_ (i := 26) (N := some 70) (v := undef) (a' := ?_) #[true, true, true, true, true, true, true, true, true, true, true, true, true, true, true, true, true, true, true, true, true, true, true, true, true, true, true, false, false, false, false] rfl rfl (any_of HT_.out (by kernel_rfl)) (fun _ _ _ h => h) (Or.inr ⟨by rfl, rfl⟩) ?_ ?_
                    rotate_left
                    · simp only [Act.put, List.setIfInBounds_toArray, List.set_cons_zero, List.set_cons_succ, i64_w, i32_w]
                      rfl
                    refine pure_ (i := 27) (N := some 71) (v := undef) (a' := ?_) #[true, true, true, true, true, true, true, true, true, true, true, true, true, true, true, true, true, true, true, true, true, true, true, true, true, true, true, true, false, false, false] rfl rfl (any_of HT_.out (by kernel_rfl)) (fun _ _ _ h => h) (Or.inr ⟨by rfl, rfl⟩) ?_ ?_
                    rotate_left
                    · simp only [Act.put, List.setIfInBounds_toArray, List.set_cons_zero, List.set_cons_succ, i64_w, i32_w]
                      rfl
                    refine pure_ (i := 28) (N := some 72) (v := undef) (a' := ?_) #[true, true, true, true, true, true, true, true, true, true, true, true, true, true, true, true, true, true, true, true, true, true, true, true, true, true, true, true, true, false, false] rfl rfl (any_of HT_.out (by kernel_rfl)) (fun _ _ _ h => h) (Or.inr ⟨by rfl, rfl⟩) ?_ ?_
                    rotate_left
                    · simp only [Act.put, List.setIfInBounds_toArray, List.set_cons_zero, List.set_cons_succ, i64_w, i32_w]
                      rfl
                    refine pure_ (i := 29) (N := some 73) (v := undef) (a' := ?_) #[true, true, true, true, true, true, true, true, true, true, true, true, true, true, true, true, true, true, true, true, true, true, true, true, true, true, true, true, true, true, false] rfl rfl (any_of HT_.out (by kernel_rfl)) (fun _ _ _ h => h) (Or.inr ⟨by rfl, rfl⟩) ?_ ?_
                    rotate_left
                    · simp only [Act.put, List.setIfInBounds_toArray, List.set_cons_zero, List.set_cons_succ, i64_w, i32_w]
                      rfl
                    refine pure_ (i := 30) (N := some 74) (v := ?_) (a' := ?_) #[true, true, true, true, true, true, true, true, true, true, true, true, true, true, true, true, true, true, true, true, true, true, true, true, true, true, true, true, true, true, true] rfl rfl (any_of HT_.out (by kernel_rfl)) (fun _ _ _ h => h) (Or.inl ⟨by rfl, ?_⟩) ?_ ?_
                    rotate_left
                    · intro w'
                      go_simp
                      with_reducible rfl
                    rotate_left
                    · simp only [Act.put, List.setIfInBounds_toArray, List.set_cons_zero, List.set_cons_succ, i64_w, i32_w]
                      rfl
                    refine done_ (done_of HT_.out (by kernel_rfl)) ?_
                    try go_wp2
                    go_ret
                    exact ⟨by first | rfl | (simp [errW_none, errW_some] <;> rfl) | (simp [*, errW_none, errW_some] <;> rfl), by repeat (first | (with_reducible first | exact HB.out | apply below_alloc | apply pw_below_drewN | apply below_drew1) | exact HB.out)⟩
                · rw [if_neg c11] at H
                  exact absurd H (by simp)
              · rw [if_neg c10] at H
                have c10b0 : decide (x3_2 < (((rd_T30 l0 0).f2).length : Int)) = false := decide_eq_false c10
                clear c10
                obtain rfl := Option.some.inj H
                have p166 : 0 ≤ (0 : Int) := (by omega)
                have q166 : 0 < (l0.length : Int) := of_decide_eq_true (by first | (with_reducible assumption) | assumption)
                obtain ⟨ad166, A166_2, c166_2, e166, hx166_0, hx166_1, hx166_2, hl166_2, hi166_2⟩ := at_T30 HR0.out 0 p166 q166
                obtain rfl : adp0 = ad166 := (by injection e166)
                have qi166 : (0 < l0.length) = True := eq_true (by omega)
                (try rw [show ((0 : Int)).toNat = 0 from rfl] at hx166_0)
                (try rw [show 0 * 3 = 0 from rfl] at hx166_0)
                (try rw [Addr.add_zero'] at hx166_0)
                (try rw [show ((0 : Int)).toNat = 0 from rfl] at hx166_1)
                (try rw [show 0 * 3 = 0 from rfl] at hx166_1)
                (try rw [Addr.add_zero'] at hx166_1)
                (try rw [show ((0 : Int)).toNat = 0 from rfl] at hx166_2)
                (try rw [show 0 * 3 = 0 from rfl] at hx166_2)
                (try rw [Addr.add_zero'] at hx166_2)
                replace hx166_0 := (HB.out.cell (World.block_lt_of_cell? w _ hx166_0)).trans hx166_0
                replace hx166_1 := (HB.out.cell (World.block_lt_of_cell? w _ hx166_1)).trans hx166_1
                replace hx166_2 := (HB.out.cell (World.block_lt_of_cell? w _ hx166_2)).trans hx166_2
                have HR166_2 := Aside0.mk hi166_2
                have HC166_2 := Aside0.mk hl166_2
                clear hi166_2 hl166_2
                replace p166 := eq_true p166
                replace q166 := eq_true q166
                go_wp2
                go_ret
                exact ⟨by first | rfl | (simp [errW_none, errW_some] <;> rfl) | (simp [*, errW_none, errW_some] <;> rfl), by repeat (first | (with_reducible first | exact HB.out | apply below_alloc | apply pw_below_drewN | apply below_drew1) | exact HB.out)⟩
            · rw [if_neg c9] at H
              exact absurd H (by simp)

end Go.Proofs.Ytdjhcnepndflmaa.PFnExactNeverHit
