-- WRITTEN by xprint.py, a program of this session's. Not trusted: Lean checks it.
import Derived.Test.YtffnfpnajkgnaaaPFnExactValidPushesx0
import Derived.Test.YtffnfpnajkgnaaaPFnExactValidPushesx4
import Derived.Test.YtffnfpnajkgnaaaPFnExactValidPushesx5
namespace Go.Proofs.Ytffnfpnajkgnaaa.PFnExactValidPushes
open Go.RowKit Go.Proofs.YtffnfpnajkgnaaaW.PrintWords Go.Proofs.YtffnfpnajkgnaaaW.PrintLast Go.Proofs.YtffnfpnajkgnaaaW.PrintMore Go.Proofs.YtffnfpnajkgnaaaX
attribute [local go_sem] max2_int min2_int max_two min_two max_three min_three max_four min_four   -- for this text's walks alone
set_option linter.unusedVariables false
set_option linter.unusedSimpArgs false

/-! ### spec_l01Ok: function 106 -/
mutual
def spec_l01Ok.j0 : Nat → List (S37) → Bool → Option (Bool)
  | 0, _, _ => none
  | k + 1, x0, x28 => if x28 = true then (some false) else (spec_l01Ok.l0 k x0 0)
def spec_l01Ok.l0 : Nat → List (S37) → Int → Option (Bool)
  | 0, _, _ => none
  | k + 1, x0, x3 => if 0 < (x0.length : Int) then (if x3 < (((rd_T37 x0 0).f2).length : Int) then (if 0 ≤ x3 then ((spec_l01Piece.f [rd_T91 ((rd_T37 x0 0).f2) x3]).bind fun t181 => (if t181 = true then ((spec_l01In.f ((rd_T91 ((rd_T37 x0 0).f2) x3).f0.f0) ((rd_T91 ((rd_T37 x0 0).f2) x3).f0.f1) (wrap64 ((rd_T37 x0 0).f0)) (wrap64 ((rd_T37 x0 0).f1))).bind fun t185 => (if t185 = true then ((spec_l01Find.f k x0 ((rd_T91 ((rd_T37 x0 0).f2) x3).f0.f0) ((rd_T91 ((rd_T37 x0 0).f2) x3).f0.f1)).bind fun t187 => (if t187 = x3 then (spec_l01Ok.l0 k x0 (wrap64 (x3 + 1))) else (some false))) else (some false))) else (some false))) else (none)) else (some true)) else (none)
end
def spec_l01Ok.f (k : Nat) (l0 : List (S37)) : Option (Bool) := if 0 < (l0.length : Int) then ((spec_l00In.f (wrap64 ((rd_T37 l0 0).f0)) 1 24).bind fun t174 => (if t174 = true then ((spec_l00In.f (wrap64 ((rd_T37 l0 0).f1)) 1 24).bind fun t176 => (if t176 = true then (spec_l01Ok.j0 k l0 (decide ((((rd_T37 l0 0).f2).length : Int) > 200))) else (spec_l01Ok.j0 k l0 true))) else (spec_l01Ok.j0 k l0 true))) else (none)
theorem spec_l01Ok.mono_l : ∀ k, (∀ y0 y1, LeO (spec_l01Ok.j0 k y0 y1) (spec_l01Ok.j0 (k + 1) y0 y1)) ∧ (∀ y0 y1, LeO (spec_l01Ok.l0 k y0 y1) (spec_l01Ok.l0 (k + 1) y0 y1))
  | 0 => ⟨fun _ _ r h => by simp [spec_l01Ok.j0] at h, fun _ _ r h => by simp [spec_l01Ok.l0] at h⟩
  | k + 1 => by
    obtain ⟨ih0, ih1⟩ := spec_l01Ok.mono_l k
    refine ⟨?_, ?_⟩
    · intro y0 y1
      unfold spec_l01Ok.j0
      repeat' first
      | (with_reducible exact ih0 _ _)
      | (with_reducible exact ih1 _ _)
      | (with_reducible exact spec_l01Find.mono _ _ _ _)
      | (with_reducible exact LeO.refl _)
      | (with_reducible exact LeO.none _)
      | (with_reducible refine LeO.ite ?_ ?_)
      | (with_reducible refine LeO.bind ?_ (fun _ => ?_))
      | exact ih0 _ _
      | exact ih1 _ _
      | exact spec_l01Find.mono _ _ _ _
      | exact LeO.none _
      | refine LeO.ite ?_ ?_
      | refine LeO.bind ?_ (fun _ => ?_)
    · intro y0 y1
      unfold spec_l01Ok.l0
      repeat' first
      | (with_reducible exact ih0 _ _)
      | (with_reducible exact ih1 _ _)
      | (with_reducible exact spec_l01Find.mono _ _ _ _)
      | (with_reducible exact LeO.refl _)
      | (with_reducible exact LeO.none _)
      | (with_reducible refine LeO.ite ?_ ?_)
      | (with_reducible refine LeO.bind ?_ (fun _ => ?_))
      | exact ih0 _ _
      | exact ih1 _ _
      | exact spec_l01Find.mono _ _ _ _
      | exact LeO.none _
      | refine LeO.ite ?_ ?_
      | refine LeO.bind ?_ (fun _ => ?_)
theorem spec_l01Ok.mono : ∀ a0 k, LeO (spec_l01Ok.f k a0) (spec_l01Ok.f (k + 1) a0) := by
  intro a0 k
  obtain ⟨ih0, ih1⟩ := spec_l01Ok.mono_l k
  unfold spec_l01Ok.f
  repeat' first
      | (with_reducible exact ih0 _ _)
      | (with_reducible exact ih1 _ _)
      | (with_reducible exact spec_l01Find.mono _ _ _ _)
      | (with_reducible exact LeO.refl _)
      | (with_reducible exact LeO.none _)
      | (with_reducible refine LeO.ite ?_ ?_)
      | (with_reducible refine LeO.bind ?_ (fun _ => ?_))
      | exact ih0 _ _
      | exact ih1 _ _
      | exact spec_l01Find.mono _ _ _ _
      | exact LeO.none _
      | refine LeO.ite ?_ ?_
      | refine LeO.bind ?_ (fun _ => ?_)
def spec_l01Ok.T7 : Bool × List (List Nat × List Nat) := (true, [([], []), ([0], [0]), ([1], [1]), ([2, 1], [2]), ([3], [3]), ([4, 3], [3, 4]), ([5, 3], [3, 5]), ([6, 3], [3, 6]), ([3], [3]), ([8, 3], [3, 8]), ([9, 3], [3, 9]), ([10, 3], [3, 10]), ([11, 3], [3, 11]), ([3], [3]), ([13, 3], [3, 13]), ([14, 3], [3, 14]), ([15, 3], [3, 15]), ([16, 3], [3, 16]), ([7, 12, 17, 3, 3], [3, 7, 12, 17]), ([18, 3], [3, 18]), ([3, 19], [3, 19]), ([20, 18], [20]), ([21], [21]), ([21], [21]), ([23, 21], [21, 23]), ([24, 21], [21, 24]), ([25, 21], [21, 25]), ([22, 26, 21, 21], [21, 22, 26]), ([21], [21]), ([27, 28, 21], [21, 27, 28]), ([21, 29], [21, 29])])
def spec_l01Ok.B7 : List Nat := [0, 1, 3, 7, 15, 31, 63, 127, 15, 271, 783, 1807, 3855, 15, 8207, 24591, 57359, 122895, 262143, 524287, 1048575, 2097151, 4194303, 4194303, 12582911, 29360127, 62914559, 134217727, 4194303, 536870911, 1073741823]
theorem spec_l01Ok.tab7 : rtab .any (opsOf Try.f106 7) = spec_l01Ok.T7 := by kernel_rfl
theorem spec_l01Ok.bits7 : waitsOk spec_l01Ok.T7.2 spec_l01Ok.B7 = true := by kernel_rfl
set_option maxHeartbeats 8000000 in
set_option maxRecDepth 100000 in
theorem spec_l01Ok.calls (k : Nat) (adp0 : Addr) (l0 : List (S37)) (r : Bool) (w : World) (hr0 : Kd.C k37 w (some adp0) l0.length l0) (h : spec_l01Ok.f k l0 = some r) :
    Calls Try.prog 106 #[.pointer (some adp0)] w fun e w' => e = .returned (.bool r) ∧ Below w.heap.size w w' := by
  have hu74 := Try.underlying74
  have HR0 := Aside0.mk hr0
  clear hr0
  have HB := Aside0.mk (Below.refl w.heap.size w)
  have H : (if 0 < (l0.length : Int) then ((spec_l00In.f (wrap64 ((rd_T37 l0 0).f0)) 1 24).bind fun t174 => (if t174 = true then ((spec_l00In.f (wrap64 ((rd_T37 l0 0).f1)) 1 24).bind fun t176 => (if t176 = true then (spec_l01Ok.j0 k l0 (decide ((((rd_T37 l0 0).f2).length : Int) > 200))) else (spec_l01Ok.j0 k l0 true))) else (spec_l01Ok.j0 k l0 true))) else (none)) = some r := h
  clear h
  have HC2 := Aside0.mk H
  clear H
  go_enter Try.func106, Try.ntmps106
  go_upto_region 1 with (fail)
  go_cut [28] (fun v28 wc => ∃ (kq : Nat) (x28_1 : Bool), v28 = .bool x28_1 ∧ Aside0 (spec_l01Ok.j0 kq l0 x28_1 = some r) ∧ Aside0 (kq ≤ k) ∧ Aside0 (Below w.heap.size w wc))
  case first =>
    have H := HC2.out
    clear HC2
    by_cases c3 : 0 < (l0.length : Int)
    · rw [if_pos c3] at H
      have c3b0 : decide (0 < (l0.length : Int)) = true := decide_eq_true c3
      have c3b1 : decide (0 < l0.length) = true := decide_eq_true (by omega)
      clear c3
      (first | rw [c3b0] | (simp only [i64_w, i32_w]; rw [c3b0]) | (have h_ := c3b0; simp only [bne] at h_; rw [h_]) | skip)
      replace H := Option.bind_eq_some_iff.mp H
      obtain ⟨t174, A40, H⟩ := H
      replace H : (if t174 = true then ((spec_l00In.f (wrap64 ((rd_T37 l0 0).f1)) 1 24).bind fun t176 => (if t176 = true then (spec_l01Ok.j0 k l0 (decide ((((rd_T37 l0 0).f2).length : Int) > 200))) else (spec_l01Ok.j0 k l0 true))) else (spec_l01Ok.j0 k l0 true)) = some r := H
      have A4 := Aside0.mk A40
      clear A40
      by_cases c5 : t174 = true
      · subst c5
        have H1 : ((spec_l00In.f (wrap64 ((rd_T37 l0 0).f1)) 1 24).bind fun t176 => (if t176 = true then (spec_l01Ok.j0 k l0 (decide ((((rd_T37 l0 0).f2).length : Int) > 200))) else (spec_l01Ok.j0 k l0 true))) = some r := by rw [if_pos rfl] at H; exact H
        clear H
        have H := H1
        clear H1
        replace H := Option.bind_eq_some_iff.mp H
        obtain ⟨t176, A60, H⟩ := H
        replace H : (if t176 = true then (spec_l01Ok.j0 k l0 (decide ((((rd_T37 l0 0).f2).length : Int) > 200))) else (spec_l01Ok.j0 k l0 true)) = some r := H
        have A6 := Aside0.mk A60
        clear A60
        by_cases c7 : t176 = true
        · subst c7
          have H1 : (spec_l01Ok.j0 k l0 (decide ((((rd_T37 l0 0).f2).length : Int) > 200))) = some r := by rw [if_pos rfl] at H; exact H
          clear H
          have H := H1
          clear H1
          have H' := Aside0.mk H
          clear H
          have p173 : 0 ≤ (0 : Int) := (by omega)
          have q173 : 0 < (l0.length : Int) := of_decide_eq_true (by first | (with_reducible assumption) | assumption)
          obtain ⟨ad173, A173_2, c173_2, e173, hx173_0, hx173_1, hx173_2, hl173_2, hi173_2⟩ := at_T37 HR0.out 0 p173 q173
          obtain rfl : adp0 = ad173 := (by injection e173)
          have qi173 : (0 < l0.length) = True := eq_true (by omega)
          (try rw [show ((0 : Int)).toNat = 0 from rfl] at hx173_0)
          (try rw [show 0 * 3 = 0 from rfl] at hx173_0)
          (try rw [Addr.add_zero'] at hx173_0)
          (try rw [show ((0 : Int)).toNat = 0 from rfl] at hx173_1)
          (try rw [show 0 * 3 = 0 from rfl] at hx173_1)
          (try rw [Addr.add_zero'] at hx173_1)
          (try rw [show ((0 : Int)).toNat = 0 from rfl] at hx173_2)
          (try rw [show 0 * 3 = 0 from rfl] at hx173_2)
          (try rw [Addr.add_zero'] at hx173_2)
          replace hx173_0 := (HB.out.cell (World.block_lt_of_cell? w _ hx173_0)).trans hx173_0
          replace hx173_1 := (HB.out.cell (World.block_lt_of_cell? w _ hx173_1)).trans hx173_1
          replace hx173_2 := (HB.out.cell (World.block_lt_of_cell? w _ hx173_2)).trans hx173_2
          have HR173_2 := Aside0.mk hi173_2
          have HC173_2 := Aside0.mk hl173_2
          clear hi173_2 hl173_2
          replace p173 := eq_true p173
          replace q173 := eq_true q173
          go_wp2_with (first | ((with_reducible refine gate_callee (f := 96) rfl ?_); refine goesL_ (some 10) rfl rfl Try.func96 (by kernel_rfl) rfl #[.int .i64 (wrap64 ((rd_T37 l0 0).f0)), .int .i64 1, .int .i64 24] rfl (by (try simp only [List.map_toArray, List.map_cons, List.map_nil]); first | done | rfl | (simp only [List.length_drop, List.length_take]; rfl)) ?_; (with_reducible refine (spec_l00In.calls (wrap64 ((rd_T37 l0 0).f0)) 1 24 true _ A4.out).mono ?_); rintro e w' ⟨rfl, ⟨nd, rfl⟩⟩; refine ⟨_, rfl, ?_⟩; have p175 : 0 ≤ (0 : Int) := (by omega); have q175 : 0 < (l0.length : Int) := of_decide_eq_true (by first | (with_reducible assumption) | assumption); obtain ⟨ad175, A175_2, c175_2, e175, hx175_0, hx175_1, hx175_2, hl175_2, hi175_2⟩ := at_T37 HR0.out 0 p175 q175; obtain rfl : adp0 = ad175 := (by injection e175); have qi175 : (0 < l0.length) = True := eq_true (by omega); (try rw [show ((0 : Int)).toNat = 0 from rfl] at hx175_0); (try rw [show 0 * 3 = 0 from rfl] at hx175_0); (try rw [Addr.add_zero'] at hx175_0); (try rw [show ((0 : Int)).toNat = 0 from rfl] at hx175_1); (try rw [show 0 * 3 = 0 from rfl] at hx175_1); (try rw [Addr.add_zero'] at hx175_1); (try rw [show ((0 : Int)).toNat = 0 from rfl] at hx175_2); (try rw [show 0 * 3 = 0 from rfl] at hx175_2); (try rw [Addr.add_zero'] at hx175_2); replace hx175_0 := (HB.out.cell (World.block_lt_of_cell? w _ hx175_0)).trans hx175_0; replace hx175_1 := (HB.out.cell (World.block_lt_of_cell? w _ hx175_1)).trans hx175_1; replace hx175_2 := (HB.out.cell (World.block_lt_of_cell? w _ hx175_2)).trans hx175_2; have HR175_2 := Aside0.mk hi175_2; have HC175_2 := Aside0.mk hl175_2; clear hi175_2 hl175_2; replace p175 := eq_true p175; replace q175 := eq_true q175; have ea_ := Option.some.inj (hx173_2.symm.trans hx175_2); injection ea_ with ea_ en_ ec_; subst ea_; subst ec_; clear en_) | (go_at_call 96; (with_reducible refine (spec_l00In.calls (wrap64 ((rd_T37 l0 0).f1)) 1 24 true _ A6.out).mono ?_); rintro e w' ⟨rfl, ⟨nd, rfl⟩⟩; have p177 : 0 ≤ (0 : Int) := (by omega); have q177 : 0 < (l0.length : Int) := of_decide_eq_true (by first | (with_reducible assumption) | assumption); obtain ⟨ad177, A177_2, c177_2, e177, hx177_0, hx177_1, hx177_2, hl177_2, hi177_2⟩ := at_T37 HR0.out 0 p177 q177; obtain rfl : adp0 = ad177 := (by injection e177); have qi177 : (0 < l0.length) = True := eq_true (by omega); (try rw [show ((0 : Int)).toNat = 0 from rfl] at hx177_0); (try rw [show 0 * 3 = 0 from rfl] at hx177_0); (try rw [Addr.add_zero'] at hx177_0); (try rw [show ((0 : Int)).toNat = 0 from rfl] at hx177_1); (try rw [show 0 * 3 = 0 from rfl] at hx177_1); (try rw [Addr.add_zero'] at hx177_1); (try rw [show ((0 : Int)).toNat = 0 from rfl] at hx177_2); (try rw [show 0 * 3 = 0 from rfl] at hx177_2); (try rw [Addr.add_zero'] at hx177_2); replace hx177_0 := (HB.out.cell (World.block_lt_of_cell? w _ hx177_0)).trans hx177_0; replace hx177_1 := (HB.out.cell (World.block_lt_of_cell? w _ hx177_1)).trans hx177_1; replace hx177_2 := (HB.out.cell (World.block_lt_of_cell? w _ hx177_2)).trans hx177_2; have HR177_2 := Aside0.mk hi177_2; have HC177_2 := Aside0.mk hl177_2; clear hi177_2 hl177_2; replace p177 := eq_true p177; replace q177 := eq_true q177; have ea_ := Option.some.inj (hx173_2.symm.trans hx177_2); injection ea_ with ea_ en_ ec_; subst ea_; subst ec_; clear en_))
          go_meet
          case rel => exact ⟨_, (decide ((((rd_T37 l0 0).f2).length : Int) > 200)), (by first | rfl | (simp; done) | (simp [*]; done) | (exact congrArg (Value.int .i64) (wrap_eq (by omega)))), H', ⟨by first | omega | exact Nat.le_refl _⟩, ⟨by repeat (first | (with_reducible first | exact HB.out | apply below_alloc | apply pw_below_drewN | apply below_drew1) | exact HB.out)⟩⟩
        · replace c7 := Bool.eq_false_iff.mpr c7
          subst c7
          have H1 : (spec_l01Ok.j0 k l0 true) = some r := by rw [if_neg (show ¬ (false = true) by decide)] at H; exact H
          clear H
          have H := H1
          clear H1
          have H' := Aside0.mk H
          clear H
          have p173 : 0 ≤ (0 : Int) := (by omega)
          have q173 : 0 < (l0.length : Int) := of_decide_eq_true (by first | (with_reducible assumption) | assumption)
          obtain ⟨ad173, A173_2, c173_2, e173, hx173_0, hx173_1, hx173_2, hl173_2, hi173_2⟩ := at_T37 HR0.out 0 p173 q173
          obtain rfl : adp0 = ad173 := (by injection e173)
          have qi173 : (0 < l0.length) = True := eq_true (by omega)
          (try rw [show ((0 : Int)).toNat = 0 from rfl] at hx173_0)
          (try rw [show 0 * 3 = 0 from rfl] at hx173_0)
          (try rw [Addr.add_zero'] at hx173_0)
          (try rw [show ((0 : Int)).toNat = 0 from rfl] at hx173_1)
          (try rw [show 0 * 3 = 0 from rfl] at hx173_1)
          (try rw [Addr.add_zero'] at hx173_1)
          (try rw [show ((0 : Int)).toNat = 0 from rfl] at hx173_2)
          (try rw [show 0 * 3 = 0 from rfl] at hx173_2)
          (try rw [Addr.add_zero'] at hx173_2)
          replace hx173_0 := (HB.out.cell (World.block_lt_of_cell? w _ hx173_0)).trans hx173_0
          replace hx173_1 := (HB.out.cell (World.block_lt_of_cell? w _ hx173_1)).trans hx173_1
          replace hx173_2 := (HB.out.cell (World.block_lt_of_cell? w _ hx173_2)).trans hx173_2
          have HR173_2 := Aside0.mk hi173_2
          have HC173_2 := Aside0.mk hl173_2
          clear hi173_2 hl173_2
          replace p173 := eq_true p173
          replace q173 := eq_true q173
          go_wp2_with (first | ((with_reducible refine gate_callee (f := 96) rfl ?_); refine goesL_ (some 10) rfl rfl Try.func96 (by kernel_rfl) rfl #[.int .i64 (wrap64 ((rd_T37 l0 0).f0)), .int .i64 1, .int .i64 24] rfl (by (try simp only [List.map_toArray, List.map_cons, List.map_nil]); first | done | rfl | (simp only [List.length_drop, List.length_take]; rfl)) ?_; (with_reducible refine (spec_l00In.calls (wrap64 ((rd_T37 l0 0).f0)) 1 24 true _ A4.out).mono ?_); rintro e w' ⟨rfl, ⟨nd, rfl⟩⟩; refine ⟨_, rfl, ?_⟩; have p175 : 0 ≤ (0 : Int) := (by omega); have q175 : 0 < (l0.length : Int) := of_decide_eq_true (by first | (with_reducible assumption) | assumption); obtain ⟨ad175, A175_2, c175_2, e175, hx175_0, hx175_1, hx175_2, hl175_2, hi175_2⟩ := at_T37 HR0.out 0 p175 q175; obtain rfl : adp0 = ad175 := (by injection e175); have qi175 : (0 < l0.length) = True := eq_true (by omega); (try rw [show ((0 : Int)).toNat = 0 from rfl] at hx175_0); (try rw [show 0 * 3 = 0 from rfl] at hx175_0); (try rw [Addr.add_zero'] at hx175_0); (try rw [show ((0 : Int)).toNat = 0 from rfl] at hx175_1); (try rw [show 0 * 3 = 0 from rfl] at hx175_1); (try rw [Addr.add_zero'] at hx175_1); (try rw [show ((0 : Int)).toNat = 0 from rfl] at hx175_2); (try rw [show 0 * 3 = 0 from rfl] at hx175_2); (try rw [Addr.add_zero'] at hx175_2); replace hx175_0 := (HB.out.cell (World.block_lt_of_cell? w _ hx175_0)).trans hx175_0; replace hx175_1 := (HB.out.cell (World.block_lt_of_cell? w _ hx175_1)).trans hx175_1; replace hx175_2 := (HB.out.cell (World.block_lt_of_cell? w _ hx175_2)).trans hx175_2; have HR175_2 := Aside0.mk hi175_2; have HC175_2 := Aside0.mk hl175_2; clear hi175_2 hl175_2; replace p175 := eq_true p175; replace q175 := eq_true q175; have ea_ := Option.some.inj (hx173_2.symm.trans hx175_2); injection ea_ with ea_ en_ ec_; subst ea_; subst ec_; clear en_) | (go_at_call 96; (with_reducible refine (spec_l00In.calls (wrap64 ((rd_T37 l0 0).f1)) 1 24 false _ A6.out).mono ?_); rintro e w' ⟨rfl, ⟨nd, rfl⟩⟩))
          go_meet
          case rel => exact ⟨_, (true), (by first | rfl | (simp; done) | (simp [*]; done) | (exact congrArg (Value.int .i64) (wrap_eq (by omega)))), H', ⟨by first | omega | exact Nat.le_refl _⟩, ⟨by repeat (first | (with_reducible first | exact HB.out | apply below_alloc | apply pw_below_drewN | apply below_drew1) | exact HB.out)⟩⟩
      · replace c5 := Bool.eq_false_iff.mpr c5
        subst c5
        have H1 : (spec_l01Ok.j0 k l0 true) = some r := by rw [if_neg (show ¬ (false = true) by decide)] at H; exact H
        clear H
        have H := H1
        clear H1
        have H' := Aside0.mk H
        clear H
        have p173 : 0 ≤ (0 : Int) := (by omega)
        have q173 : 0 < (l0.length : Int) := of_decide_eq_true (by first | (with_reducible assumption) | assumption)
        obtain ⟨ad173, A173_2, c173_2, e173, hx173_0, hx173_1, hx173_2, hl173_2, hi173_2⟩ := at_T37 HR0.out 0 p173 q173
        obtain rfl : adp0 = ad173 := (by injection e173)
        have qi173 : (0 < l0.length) = True := eq_true (by omega)
        (try rw [show ((0 : Int)).toNat = 0 from rfl] at hx173_0)
        (try rw [show 0 * 3 = 0 from rfl] at hx173_0)
        (try rw [Addr.add_zero'] at hx173_0)
        (try rw [show ((0 : Int)).toNat = 0 from rfl] at hx173_1)
        (try rw [show 0 * 3 = 0 from rfl] at hx173_1)
        (try rw [Addr.add_zero'] at hx173_1)
        (try rw [show ((0 : Int)).toNat = 0 from rfl] at hx173_2)
        (try rw [show 0 * 3 = 0 from rfl] at hx173_2)
        (try rw [Addr.add_zero'] at hx173_2)
        replace hx173_0 := (HB.out.cell (World.block_lt_of_cell? w _ hx173_0)).trans hx173_0
        replace hx173_1 := (HB.out.cell (World.block_lt_of_cell? w _ hx173_1)).trans hx173_1
        replace hx173_2 := (HB.out.cell (World.block_lt_of_cell? w _ hx173_2)).trans hx173_2
        have HR173_2 := Aside0.mk hi173_2
        have HC173_2 := Aside0.mk hl173_2
        clear hi173_2 hl173_2
        replace p173 := eq_true p173
        replace q173 := eq_true q173
        go_wp2_with (first | ((with_reducible refine gate_callee (f := 96) rfl ?_); refine goesL_ (some 10) rfl rfl Try.func96 (by kernel_rfl) rfl #[.int .i64 (wrap64 ((rd_T37 l0 0).f0)), .int .i64 1, .int .i64 24] rfl (by (try simp only [List.map_toArray, List.map_cons, List.map_nil]); first | done | rfl | (simp only [List.length_drop, List.length_take]; rfl)) ?_; (with_reducible refine (spec_l00In.calls (wrap64 ((rd_T37 l0 0).f0)) 1 24 false _ A4.out).mono ?_); rintro e w' ⟨rfl, ⟨nd, rfl⟩⟩; refine ⟨_, rfl, ?_⟩))
        go_meet
        case rel => exact ⟨_, (true), (by first | rfl | (simp; done) | (simp [*]; done) | (exact congrArg (Value.int .i64) (wrap_eq (by omega)))), H', ⟨by first | omega | exact Nat.le_refl _⟩, ⟨by repeat (first | (with_reducible first | exact HB.out | apply below_alloc | apply pw_below_drewN | apply below_drew1) | exact HB.out)⟩⟩
    · rw [if_neg c3] at H
      exact absurd H (by simp)
  case rest =>
    clear HC2
    try clear c1
    try clear p1
    try clear q1
    try clear hx1
    try clear qi1
    try clear p2
    try clear c3
    try clear c3b0
    try clear c3b1
    try clear c5
    try clear p6
    try clear c7
    try clear hx173_0
    try clear hx173_1
    try clear hx173_2
    try clear hx175_0
    try clear hx175_1
    try clear hx175_2
    try clear hx177_0
    try clear hx177_1
    try clear hx177_2
    try clear p173
    try clear p175
    try clear p177
    try clear q173
    try clear q175
    try clear q177
    obtain ⟨kq, x28_1, rfl, HA, HJ1, HB⟩ := hcut
    cases kq with
    | zero => exact absurd HA.out (by simp [spec_l01Ok.j0])
    | succ kj1 =>
      have H := HA.out
      clear HA
      simp only [spec_l01Ok.j0] at H
      by_cases c8 : x28_1 = true
      · subst c8
        have H1 : (some false) = some r := by rw [if_pos rfl] at H; exact H
        clear H
        have H := H1
        clear H1
        obtain rfl := Option.some.inj H
        go_wp2
        go_ret
        exact ⟨by first | rfl | (simp [errW_none, errW_some] <;> rfl) | (simp [*, errW_none, errW_some] <;> rfl), by repeat (first | (with_reducible first | exact HB.out | apply below_alloc | apply pw_below_drewN | apply below_drew1) | exact HB.out)⟩
      · replace c8 := Bool.eq_false_iff.mpr c8
        subst c8
        have H1 : (spec_l01Ok.l0 kj1 l0 0) = some r := by rw [if_neg (show ¬ (false = true) by decide)] at H; exact H
        clear H
        have H := H1
        clear H1
        have H' := Aside0.mk H
        clear H
        go_wp2
        go_loopg [3] kj1 (fun kq v3 w' => ∃ (x3_2 : Int), v3 = .int .i64 x3_2 ∧ Aside0 (spec_l01Ok.l0 kq l0 x3_2 = some r) ∧ Aside0 (kq ≤ kj1) ∧ Aside0 (Below w.heap.size w w'))
        case atStart => exact ⟨(0), (by first | rfl | (simp; done) | (simp [*]; done) | (exact congrArg (Value.int .i64) (wrap_eq (by omega)))), H', ⟨Nat.le_refl _⟩, ⟨by repeat (first | (with_reducible first | exact HB.out | apply below_alloc | apply pw_below_drewN | apply below_drew1) | exact HB.out)⟩⟩
        case round =>
          clear H'
          try clear c1
          try clear p1
          try clear q1
          try clear hx1
          try clear qi1
          try clear p2
          try clear c3
          try clear c3b0
          try clear c3b1
          try clear c5
          try clear p6
          try clear c7
          try clear c8
          try clear hx173_0
          try clear hx173_1
          try clear hx173_2
          try clear hx175_0
          try clear hx175_1
          try clear hx175_2
          try clear hx177_0
          try clear hx177_1
          try clear hx177_2
          try clear p1
          try clear p173
          try clear p175
          try clear p177
          try clear p2
          try clear p6
          try clear q1
          try clear q173
          try clear q175
          try clear q177
          obtain ⟨x3_2, rfl, HA, HK2, HB⟩ := hrel
          cases gk with
          | zero => exact absurd HA.out (by simp [spec_l01Ok.l0])
          | succ k2 =>
            have H := HA.out
            clear HA
            simp only [spec_l01Ok.l0] at H
            by_cases c9 : 0 < (l0.length : Int)
            · rw [if_pos c9] at H
              have c9b0 : decide (0 < (l0.length : Int)) = true := decide_eq_true c9
              have c9b1 : decide (0 < l0.length) = true := decide_eq_true (by omega)
              clear c9
              by_cases c10 : x3_2 < (((rd_T37 l0 0).f2).length : Int)
              · rw [if_pos c10] at H
                have c10b0 : decide (x3_2 < (((rd_T37 l0 0).f2).length : Int)) = true := decide_eq_true c10
                clear c10
                by_cases c11 : 0 ≤ x3_2
                · rw [if_pos c11] at H
                  have c11b0 : decide (0 ≤ x3_2) = true := decide_eq_true c11
                  clear c11
                  replace H := Option.bind_eq_some_iff.mp H
                  obtain ⟨t181, A120, H⟩ := H
                  replace H : (if t181 = true then ((spec_l01In.f ((rd_T91 ((rd_T37 l0 0).f2) x3_2).f0.f0) ((rd_T91 ((rd_T37 l0 0).f2) x3_2).f0.f1) (wrap64 ((rd_T37 l0 0).f0)) (wrap64 ((rd_T37 l0 0).f1))).bind fun t185 => (if t185 = true then ((spec_l01Find.f k2 l0 ((rd_T91 ((rd_T37 l0 0).f2) x3_2).f0.f0) ((rd_T91 ((rd_T37 l0 0).f2) x3_2).f0.f1)).bind fun t187 => (if t187 = x3_2 then (spec_l01Ok.l0 k2 l0 (wrap64 (x3_2 + 1))) else (some false))) else (some false))) else (some false)) = some r := H
                  have A12 := Aside0.mk A120
                  clear A120
                  by_cases c13 : t181 = true
                  · subst c13
                    have H1 : ((spec_l01In.f ((rd_T91 ((rd_T37 l0 0).f2) x3_2).f0.f0) ((rd_T91 ((rd_T37 l0 0).f2) x3_2).f0.f1) (wrap64 ((rd_T37 l0 0).f0)) (wrap64 ((rd_T37 l0 0).f1))).bind fun t185 => (if t185 = true then ((spec_l01Find.f k2 l0 ((rd_T91 ((rd_T37 l0 0).f2) x3_2).f0.f0) ((rd_T91 ((rd_T37 l0 0).f2) x3_2).f0.f1)).bind fun t187 => (if t187 = x3_2 then (spec_l01Ok.l0 k2 l0 (wrap64 (x3_2 + 1))) else (some false))) else (some false))) = some r := by rw [if_pos rfl] at H; exact H
                    clear H
                    have H := H1
                    clear H1
                    replace H := Option.bind_eq_some_iff.mp H
                    obtain ⟨t185, A140, H⟩ := H
                    replace H : (if t185 = true then ((spec_l01Find.f k2 l0 ((rd_T91 ((rd_T37 l0 0).f2) x3_2).f0.f0) ((rd_T91 ((rd_T37 l0 0).f2) x3_2).f0.f1)).bind fun t187 => (if t187 = x3_2 then (spec_l01Ok.l0 k2 l0 (wrap64 (x3_2 + 1))) else (some false))) else (some false)) = some r := H
                    have A14 := Aside0.mk A140
                    clear A140
                    by_cases c15 : t185 = true
                    · subst c15
                      have H1 : ((spec_l01Find.f k2 l0 ((rd_T91 ((rd_T37 l0 0).f2) x3_2).f0.f0) ((rd_T91 ((rd_T37 l0 0).f2) x3_2).f0.f1)).bind fun t187 => (if t187 = x3_2 then (spec_l01Ok.l0 k2 l0 (wrap64 (x3_2 + 1))) else (some false))) = some r := by rw [if_pos rfl] at H; exact H
                      clear H
                      have H := H1
                      clear H1
                      replace H := Option.bind_eq_some_iff.mp H
                      obtain ⟨t187, A160, H⟩ := H
                      replace H : (if t187 = x3_2 then (spec_l01Ok.l0 k2 l0 (wrap64 (x3_2 + 1))) else (some false)) = some r := H
                      have A16 := Aside0.mk A160
                      clear A160
                      by_cases c17 : t187 = x3_2
                      · rw [if_pos c17] at H
                        have c17b0 : (t187 == x3_2) = true := beq_iff_eq.mpr c17
                        have c17b1 : (t187 != x3_2) = false := bne_eq_false_iff_eq.mpr c17
                        clear c17
                        have H' := Aside0.mk H
                        clear H
                        have p178 : 0 ≤ (0 : Int) := (by omega)
                        have q178 : 0 < (l0.length : Int) := of_decide_eq_true (by first | (with_reducible assumption) | assumption)
                        obtain ⟨ad178, A178_2, c178_2, e178, hx178_0, hx178_1, hx178_2, hl178_2, hi178_2⟩ := at_T37 HR0.out 0 p178 q178
                        obtain rfl : adp0 = ad178 := (by injection e178)
                        have qi178 : (0 < l0.length) = True := eq_true (by omega)
                        (try rw [show ((0 : Int)).toNat = 0 from rfl] at hx178_0)
                        (try rw [show 0 * 3 = 0 from rfl] at hx178_0)
                        (try rw [Addr.add_zero'] at hx178_0)
                        (try rw [show ((0 : Int)).toNat = 0 from rfl] at hx178_1)
                        (try rw [show 0 * 3 = 0 from rfl] at hx178_1)
                        (try rw [Addr.add_zero'] at hx178_1)
                        (try rw [show ((0 : Int)).toNat = 0 from rfl] at hx178_2)
                        (try rw [show 0 * 3 = 0 from rfl] at hx178_2)
                        (try rw [Addr.add_zero'] at hx178_2)
                        replace hx178_0 := (HB.out.cell (World.block_lt_of_cell? w _ hx178_0)).trans hx178_0
                        replace hx178_1 := (HB.out.cell (World.block_lt_of_cell? w _ hx178_1)).trans hx178_1
                        replace hx178_2 := (HB.out.cell (World.block_lt_of_cell? w _ hx178_2)).trans hx178_2
                        have HR178_2 := Aside0.mk hi178_2
                        have HC178_2 := Aside0.mk hl178_2
                        clear hi178_2 hl178_2
                        replace p178 := eq_true p178
                        replace q178 := eq_true q178
                        have p179 : 0 ≤ (0 : Int) := (by omega)
                        have q179 : 0 < (l0.length : Int) := of_decide_eq_true (by first | (with_reducible assumption) | assumption)
                        obtain ⟨ad179, A179_2, c179_2, e179, hx179_0, hx179_1, hx179_2, hl179_2, hi179_2⟩ := at_T37 HR0.out 0 p179 q179
                        obtain rfl : adp0 = ad179 := (by injection e179)
                        have qi179 : (0 < l0.length) = True := eq_true (by omega)
                        (try rw [show ((0 : Int)).toNat = 0 from rfl] at hx179_0)
                        (try rw [show 0 * 3 = 0 from rfl] at hx179_0)
                        (try rw [Addr.add_zero'] at hx179_0)
                        (try rw [show ((0 : Int)).toNat = 0 from rfl] at hx179_1)
                        (try rw [show 0 * 3 = 0 from rfl] at hx179_1)
                        (try rw [Addr.add_zero'] at hx179_1)
                        (try rw [show ((0 : Int)).toNat = 0 from rfl] at hx179_2)
                        (try rw [show 0 * 3 = 0 from rfl] at hx179_2)
                        (try rw [Addr.add_zero'] at hx179_2)
                        replace hx179_0 := (HB.out.cell (World.block_lt_of_cell? w _ hx179_0)).trans hx179_0
                        replace hx179_1 := (HB.out.cell (World.block_lt_of_cell? w _ hx179_1)).trans hx179_1
                        replace hx179_2 := (HB.out.cell (World.block_lt_of_cell? w _ hx179_2)).trans hx179_2
                        have HR179_2 := Aside0.mk hi179_2
                        have HC179_2 := Aside0.mk hl179_2
                        clear hi179_2 hl179_2
                        replace p179 := eq_true p179
                        replace q179 := eq_true q179
                        have ea_ := Option.some.inj (hx178_2.symm.trans hx179_2)
                        injection ea_ with ea_ en_ ec_
                        subst ea_
                        subst ec_
                        clear en_
                        have p180 : 0 ≤ (x3_2 : Int) := of_decide_eq_true (by first | (with_reducible assumption) | assumption)
                        have q180 : x3_2 < (((rd_T37 l0 0).f2).length : Int) := of_decide_eq_true (by first | (with_reducible assumption) | assumption)
                        obtain ⟨ad180, e180, hx180_0, hx180_1, hx180_2, hx180_3, hx180_4⟩ := at_T91 HR179_2.out x3_2 p180 q180
                        cases e180
                        replace hx180_0 := (HB.out.cell (World.block_lt_of_cell? w _ hx180_0)).trans hx180_0
                        replace hx180_1 := (HB.out.cell (World.block_lt_of_cell? w _ hx180_1)).trans hx180_1
                        replace hx180_2 := (HB.out.cell (World.block_lt_of_cell? w _ hx180_2)).trans hx180_2
                        replace hx180_3 := (HB.out.cell (World.block_lt_of_cell? w _ hx180_3)).trans hx180_3
                        replace hx180_4 := (HB.out.cell (World.block_lt_of_cell? w _ hx180_4)).trans hx180_4
                        replace p180 := eq_true p180
                        replace q180 := eq_true q180
                        try go_wp2
                        have n0_ := Aside0.mk (below_drew1 HB.out)
                        clear HB
                        have HB := n0_
                        clear n0_
                        have p182 : 0 ≤ (x3_2 : Int) := of_decide_eq_true (by first | (with_reducible assumption) | assumption)
                        have q182 : x3_2 < (((rd_T37 l0 0).f2).length : Int) := of_decide_eq_true (by first | (with_reducible assumption) | assumption)
                        obtain ⟨ad182, e182, hx182_0, hx182_1, hx182_2, hx182_3, hx182_4⟩ := at_T91 HR179_2.out x3_2 p182 q182
                        have hw182_4 := hx182_4
                        have hw182_3 := hx182_3
                        have hw182_2 := hx182_2
                        have hw182_1 := hx182_1
                        have hw182_0 := hx182_0
                        obtain rfl : ad180 = ad182 := (by injection e182)
                        replace hx182_0 := (HB.out.cell (World.block_lt_of_cell? w _ hx182_0)).trans hx182_0
                        replace hx182_1 := (HB.out.cell (World.block_lt_of_cell? w _ hx182_1)).trans hx182_1
                        replace hx182_2 := (HB.out.cell (World.block_lt_of_cell? w _ hx182_2)).trans hx182_2
                        replace hx182_3 := (HB.out.cell (World.block_lt_of_cell? w _ hx182_3)).trans hx182_3
                        replace hx182_4 := (HB.out.cell (World.block_lt_of_cell? w _ hx182_4)).trans hx182_4
                        replace p182 := eq_true p182
                        replace q182 := eq_true q182
                        have p183 : 0 ≤ (0 : Int) := (by omega)
                        have q183 : 0 < (l0.length : Int) := of_decide_eq_true (by first | (with_reducible assumption) | assumption)
                        obtain ⟨ad183, A183_2, c183_2, e183, hx183_0, hx183_1, hx183_2, hl183_2, hi183_2⟩ := at_T37 HR0.out 0 p183 q183
                        have hw183_2 := hx183_2
                        (try rw [show ((0 : Int)).toNat = 0 from rfl] at hw183_2)
                        (try rw [show 0 * 3 = 0 from rfl] at hw183_2)
                        (try rw [Addr.add_zero'] at hw183_2)
                        have hw183_1 := hx183_1
                        (try rw [show ((0 : Int)).toNat = 0 from rfl] at hw183_1)
                        (try rw [show 0 * 3 = 0 from rfl] at hw183_1)
                        (try rw [Addr.add_zero'] at hw183_1)
                        have hw183_0 := hx183_0
                        (try rw [show ((0 : Int)).toNat = 0 from rfl] at hw183_0)
                        (try rw [show 0 * 3 = 0 from rfl] at hw183_0)
                        (try rw [Addr.add_zero'] at hw183_0)
                        obtain rfl : adp0 = ad183 := (by injection e183)
                        have qi183 : (0 < l0.length) = True := eq_true (by omega)
                        (try rw [show ((0 : Int)).toNat = 0 from rfl] at hx183_0)
                        (try rw [show 0 * 3 = 0 from rfl] at hx183_0)
                        (try rw [Addr.add_zero'] at hx183_0)
                        (try rw [show ((0 : Int)).toNat = 0 from rfl] at hx183_1)
                        (try rw [show 0 * 3 = 0 from rfl] at hx183_1)
                        (try rw [Addr.add_zero'] at hx183_1)
                        (try rw [show ((0 : Int)).toNat = 0 from rfl] at hx183_2)
                        (try rw [show 0 * 3 = 0 from rfl] at hx183_2)
                        (try rw [Addr.add_zero'] at hx183_2)
                        replace hx183_0 := (HB.out.cell (World.block_lt_of_cell? w _ hx183_0)).trans hx183_0
                        replace hx183_1 := (HB.out.cell (World.block_lt_of_cell? w _ hx183_1)).trans hx183_1
                        replace hx183_2 := (HB.out.cell (World.block_lt_of_cell? w _ hx183_2)).trans hx183_2
                        have HR183_2 := Aside0.mk hi183_2
                        have HC183_2 := Aside0.mk hl183_2
                        clear hi183_2 hl183_2
                        replace p183 := eq_true p183
                        replace q183 := eq_true q183
                        have p184 : 0 ≤ (0 : Int) := (by omega)
                        have q184 : 0 < (l0.length : Int) := of_decide_eq_true (by first | (with_reducible assumption) | assumption)
                        obtain ⟨ad184, A184_2, c184_2, e184, hx184_0, hx184_1, hx184_2, hl184_2, hi184_2⟩ := at_T37 HR0.out 0 p184 q184
                        have hw184_2 := hx184_2
                        (try rw [show ((0 : Int)).toNat = 0 from rfl] at hw184_2)
                        (try rw [show 0 * 3 = 0 from rfl] at hw184_2)
                        (try rw [Addr.add_zero'] at hw184_2)
                        have hw184_1 := hx184_1
                        (try rw [show ((0 : Int)).toNat = 0 from rfl] at hw184_1)
                        (try rw [show 0 * 3 = 0 from rfl] at hw184_1)
                        (try rw [Addr.add_zero'] at hw184_1)
                        have hw184_0 := hx184_0
                        (try rw [show ((0 : Int)).toNat = 0 from rfl] at hw184_0)
                        (try rw [show 0 * 3 = 0 from rfl] at hw184_0)
                        (try rw [Addr.add_zero'] at hw184_0)
                        obtain rfl : adp0 = ad184 := (by injection e184)
                        have qi184 : (0 < l0.length) = True := eq_true (by omega)
                        (try rw [show ((0 : Int)).toNat = 0 from rfl] at hx184_0)
                        (try rw [show 0 * 3 = 0 from rfl] at hx184_0)
                        (try rw [Addr.add_zero'] at hx184_0)
                        (try rw [show ((0 : Int)).toNat = 0 from rfl] at hx184_1)
                        (try rw [show 0 * 3 = 0 from rfl] at hx184_1)
                        (try rw [Addr.add_zero'] at hx184_1)
                        (try rw [show ((0 : Int)).toNat = 0 from rfl] at hx184_2)
                        (try rw [show 0 * 3 = 0 from rfl] at hx184_2)
                        (try rw [Addr.add_zero'] at hx184_2)
                        replace hx184_0 := (HB.out.cell (World.block_lt_of_cell? w _ hx184_0)).trans hx184_0
                        replace hx184_1 := (HB.out.cell (World.block_lt_of_cell? w _ hx184_1)).trans hx184_1
                        replace hx184_2 := (HB.out.cell (World.block_lt_of_cell? w _ hx184_2)).trans hx184_2
                        have HR184_2 := Aside0.mk hi184_2
                        have HC184_2 := Aside0.mk hl184_2
                        clear hi184_2 hl184_2
                        replace p184 := eq_true p184
                        replace q184 := eq_true q184
                        have ea_ := Option.some.inj (hx183_2.symm.trans hx184_2)
                        injection ea_ with ea_ en_ ec_
                        subst ea_
                        subst ec_
                        clear en_
                        have p186 : 0 ≤ (x3_2 : Int) := of_decide_eq_true (by first | (with_reducible assumption) | assumption)
                        have q186 : x3_2 < (((rd_T37 l0 0).f2).length : Int) := of_decide_eq_true (by first | (with_reducible assumption) | assumption)
                        obtain ⟨ad186, e186, hx186_0, hx186_1, hx186_2, hx186_3, hx186_4⟩ := at_T91 HR179_2.out x3_2 p186 q186
                        have hw186_4 := hx186_4
                        have hw186_3 := hx186_3
                        have hw186_2 := hx186_2
                        have hw186_1 := hx186_1
                        have hw186_0 := hx186_0
                        obtain rfl : ad180 = ad186 := (by injection e186)
                        replace hx186_0 := (HB.out.cell (World.block_lt_of_cell? w _ hx186_0)).trans hx186_0
                        replace hx186_1 := (HB.out.cell (World.block_lt_of_cell? w _ hx186_1)).trans hx186_1
                        replace hx186_2 := (HB.out.cell (World.block_lt_of_cell? w _ hx186_2)).trans hx186_2
                        replace hx186_3 := (HB.out.cell (World.block_lt_of_cell? w _ hx186_3)).trans hx186_3
                        replace hx186_4 := (HB.out.cell (World.block_lt_of_cell? w _ hx186_4)).trans hx186_4
                        replace p186 := eq_true p186
                        replace q186 := eq_true q186
                        refine start_ (n := 31) (S := fun w' => w'.cell? (ad180.add ((x3_2).toNat * 5)) = some (.int .i8 ((rd_T91 ((rd_T37 l0 0).f2) x3_2).f0.f0)) ∧ w'.cell? ⟨(ad180.add ((x3_2).toNat * 5)).block, (ad180.add ((x3_2).toNat * 5)).off + 1, none⟩ = some (.int .i8 ((rd_T91 ((rd_T37 l0 0).f2) x3_2).f0.f1)) ∧ w'.cell? ⟨(ad180.add ((x3_2).toNat * 5)).block, (ad180.add ((x3_2).toNat * 5)).off + 2, none⟩ = some (.int .i8 ((rd_T91 ((rd_T37 l0 0).f2) x3_2).f1)) ∧ w'.cell? ⟨(ad180.add ((x3_2).toNat * 5)).block, (ad180.add ((x3_2).toNat * 5)).off + 3, none⟩ = some (.int .i8 ((rd_T91 ((rd_T37 l0 0).f2) x3_2).f2)) ∧ w'.cell? ⟨(ad180.add ((x3_2).toNat * 5)).block, (ad180.add ((x3_2).toNat * 5)).off + 4, none⟩ = some (.int .i8 ((rd_T91 ((rd_T37 l0 0).f2) x3_2).f3)) ∧ w'.cell? adp0 = some (.int .i8 ((rd_T37 l0 0).f0)) ∧ w'.cell? ⟨adp0.block, adp0.off + 1, none⟩ = some (.int .i8 ((rd_T37 l0 0).f1)) ∧ w'.cell? ⟨adp0.block, adp0.off + 2, none⟩ = some (.slice A183_2 ((rd_T37 l0 0).f2).length c183_2) ∧ w'.cell? adp0 = some (.int .i8 ((rd_T37 l0 0).f0)) ∧ w'.cell? ⟨adp0.block, adp0.off + 1, none⟩ = some (.int .i8 ((rd_T37 l0 0).f1)) ∧ w'.cell? ⟨adp0.block, adp0.off + 2, none⟩ = some (.slice A183_2 ((rd_T37 l0 0).f2).length c183_2) ∧ w'.cell? (ad180.add ((x3_2).toNat * 5)) = some (.int .i8 ((rd_T91 ((rd_T37 l0 0).f2) x3_2).f0.f0)) ∧ w'.cell? ⟨(ad180.add ((x3_2).toNat * 5)).block, (ad180.add ((x3_2).toNat * 5)).off + 1, none⟩ = some (.int .i8 ((rd_T91 ((rd_T37 l0 0).f2) x3_2).f0.f1)) ∧ w'.cell? ⟨(ad180.add ((x3_2).toNat * 5)).block, (ad180.add ((x3_2).toNat * 5)).off + 2, none⟩ = some (.int .i8 ((rd_T91 ((rd_T37 l0 0).f2) x3_2).f1)) ∧ w'.cell? ⟨(ad180.add ((x3_2).toNat * 5)).block, (ad180.add ((x3_2).toNat * 5)).off + 3, none⟩ = some (.int .i8 ((rd_T91 ((rd_T37 l0 0).f2) x3_2).f2)) ∧ w'.cell? ⟨(ad180.add ((x3_2).toNat * 5)).block, (ad180.add ((x3_2).toNat * 5)).off + 4, none⟩ = some (.int .i8 ((rd_T91 ((rd_T37 l0 0).f2) x3_2).f3))) (ds := []) #[false, false, false, false, false, false, false, false, false, false, false, false, false, false, false, false, false, false, false, false, false, false, false, false, false, false, false, false, false, false, false] (by kernel_rfl) rfl rfl ⟨((HB.out.cell (World.block_lt_of_cell? w _ hw182_0)).trans hw182_0), ((HB.out.cell (World.block_lt_of_cell? w _ hw182_1)).trans hw182_1), ((HB.out.cell (World.block_lt_of_cell? w _ hw182_2)).trans hw182_2), ((HB.out.cell (World.block_lt_of_cell? w _ hw182_3)).trans hw182_3), ((HB.out.cell (World.block_lt_of_cell? w _ hw182_4)).trans hw182_4), ((HB.out.cell (World.block_lt_of_cell? w _ hw183_0)).trans hw183_0), ((HB.out.cell (World.block_lt_of_cell? w _ hw183_1)).trans hw183_1), ((HB.out.cell (World.block_lt_of_cell? w _ hw183_2)).trans hw183_2), ((HB.out.cell (World.block_lt_of_cell? w _ hw184_0)).trans hw184_0), ((HB.out.cell (World.block_lt_of_cell? w _ hw184_1)).trans hw184_1), ((HB.out.cell (World.block_lt_of_cell? w _ hw184_2)).trans hw184_2), ((HB.out.cell (World.block_lt_of_cell? w _ hw186_0)).trans hw186_0), ((HB.out.cell (World.block_lt_of_cell? w _ hw186_1)).trans hw186_1), ((HB.out.cell (World.block_lt_of_cell? w _ hw186_2)).trans hw186_2), ((HB.out.cell (World.block_lt_of_cell? w _ hw186_3)).trans hw186_3), ((HB.out.cell (World.block_lt_of_cell? w _ hw186_4)).trans hw186_4)⟩ (fun hHeld => ?_); refine with_tabW spec_l01Ok.tab7 spec_l01Ok.bits7 (fun HT_ HW_ => ?_)
                        generalize wr.drew = w18 at HB HR183_2 HR184_2 hx182_0 hx182_1 hx182_2 hx182_3 hx182_4 hx183_0 hx183_1 hx183_2 hx184_0 hx184_1 hx184_2 hx186_0 hx186_1 hx186_2 hx186_3 hx186_4 hHeld ⊢
                        refine pure_ (i := 0) (N := some 44) (v := ?_) (a' := ?_) #[true, false, false, false, false, false, false, false, false, false, false, false, false, false, false, false, false, false, false, false, false, false, false, false, false, false, false, false, false, false, false] rfl rfl (any_of HT_.out (by kernel_rfl)) (fun _ _ _ h => h) (Or.inl ⟨by rfl, ?_⟩) ?_ ?_
                        rotate_left
                        · intro w'
                          go_simp
                          with_reducible rfl
                        rotate_left
                        · simp only [Act.put, List.setIfInBounds_toArray, List.set_cons_zero, List.set_cons_succ, i64_w, i32_w]
                          rfl
                        refine one_ (i := 1) (N := some 45) #[true, true, false, false, false, false, false, false, false, false, false, false, false, false, false, false, false, false, false, false, false, false, false, false, false, false, false, false, false, false, false] rfl rfl (one_of HT_.out (by kernel_rfl)) (by decide) (fun K hK => ?_)
                        refine goes_ Try.func132 (by kernel_rfl) rfl #[.pointer (some (ad180.add (x3_2.toNat * 5)))] (by rfl) rfl rfl (by (try simp only [List.map_toArray, List.map_cons, List.map_nil]); first | done | rfl | (simp only [List.length_drop, List.length_take]; rfl)) ?_
                        with_reducible refine (spec_l01Piece.calls _ [rd_T91 ((rd_T37 l0 0).f2) x3_2] true _ ?side1 A12.out).mono ?_
                        (case side1 => refine ro_of_elem (d := k91) z91 x3_2 (by first | exact of_eq_true p180 | omega) (by first | exact of_eq_true q180 | omega) ?_; repeat (first | exact (Kd.C_below HR179_2.out HB.out) | (with_reducible refine Kd.C_alloc ?_ _) | (with_reducible refine Kd.C_drewN ?_ _) | (with_reducible refine Kd.C_drew ?_)))
                        rintro e w19 ⟨rfl, hb⟩
                        refine ⟨_, rfl, ?_⟩
                        have n0_ := Aside0.mk (below_step (by repeat (first | (with_reducible first | exact HB.out | apply below_alloc | apply pw_below_drewN | apply below_drew1) | exact HB.out)) hb)
                        clear HB
                        have HB := n0_
                        clear n0_
                        (try clear hb)
                        (try clear hb2)
                        (try clear hk)
                        (try clear hi)
                        refine hK.out _ _ ⟨((HB.out.cell (World.block_lt_of_cell? w _ hw182_0)).trans hw182_0), ((HB.out.cell (World.block_lt_of_cell? w _ hw182_1)).trans hw182_1), ((HB.out.cell (World.block_lt_of_cell? w _ hw182_2)).trans hw182_2), ((HB.out.cell (World.block_lt_of_cell? w _ hw182_3)).trans hw182_3), ((HB.out.cell (World.block_lt_of_cell? w _ hw182_4)).trans hw182_4), ((HB.out.cell (World.block_lt_of_cell? w _ hw183_0)).trans hw183_0), ((HB.out.cell (World.block_lt_of_cell? w _ hw183_1)).trans hw183_1), ((HB.out.cell (World.block_lt_of_cell? w _ hw183_2)).trans hw183_2), ((HB.out.cell (World.block_lt_of_cell? w _ hw184_0)).trans hw184_0), ((HB.out.cell (World.block_lt_of_cell? w _ hw184_1)).trans hw184_1), ((HB.out.cell (World.block_lt_of_cell? w _ hw184_2)).trans hw184_2), ((HB.out.cell (World.block_lt_of_cell? w _ hw186_0)).trans hw186_0), ((HB.out.cell (World.block_lt_of_cell? w _ hw186_1)).trans hw186_1), ((HB.out.cell (World.block_lt_of_cell? w _ hw186_2)).trans hw186_2), ((HB.out.cell (World.block_lt_of_cell? w _ hw186_3)).trans hw186_3), ((HB.out.cell (World.block_lt_of_cell? w _ hw186_4)).trans hw186_4)⟩ (fun hHeld => ?_)
                        clear hK K
                        refine norm_ (a' := ?_) ?_ ?_
                        rotate_left
                        · show Act.put _ (some 45) _ = _
                          simp only [Act.put, List.setIfInBounds_toArray, List.set_cons_zero, List.set_cons_succ, i64_w, i32_w]
                          rfl
                        refine pure_ (i := 2) (N := some 46) (v := ?_) (a' := ?_) #[true, true, true, false, false, false, false, false, false, false, false, false, false, false, false, false, false, false, false, false, false, false, false, false, false, false, false, false, false, false, false] rfl rfl (any_of HT_.out (by kernel_rfl)) (fun _ _ _ h => h) (Or.inl ⟨by rfl, ?_⟩) ?_ ?_
                        rotate_left
                        · intro w'
                          go_simp
                          with_reducible rfl
                        rotate_left
                        · simp only [Act.put, List.setIfInBounds_toArray, List.set_cons_zero, List.set_cons_succ, i64_w, i32_w]
                          rfl
                        refine pure_ (i := 3) (N := some 47) (v := ?_) (a' := ?_) #[true, true, true, true, false, false, false, false, false, false, false, false, false, false, false, false, false, false, false, false, false, false, false, false, false, false, false, false, false, false, false] rfl rfl (any_of HT_.out (by kernel_rfl)) (fun _ _ _ h => h) (Or.inl ⟨by rfl, ?_⟩) ?_ ?_
                        rotate_left
                        · intro w'
                          go_simp
                          with_reducible rfl
                        rotate_left
                        · simp only [Act.put, List.setIfInBounds_toArray, List.set_cons_zero, List.set_cons_succ, i64_w, i32_w]
                          rfl
                        refine pure_ (i := 4) (N := some 48) (v := ?_) (a' := ?_) #[true, true, true, true, true, false, false, false, false, false, false, false, false, false, false, false, false, false, false, false, false, false, false, false, false, false, false, false, false, false, false] rfl rfl (any_of HT_.out (by kernel_rfl)) (fun _ _ _ h => h) (Or.inl ⟨by rfl, ?_⟩) ?_ ?_
                        rotate_left
                        · intro w'
                          go_simp
                          with_reducible rfl
                        rotate_left
                        · simp only [Act.put, List.setIfInBounds_toArray, List.set_cons_zero, List.set_cons_succ, i64_w, i32_w]
                          rfl
                        refine pure_ (i := 5) (N := some 49) (v := ?_) (a' := ?_) #[true, true, true, true, true, true, false, false, false, false, false, false, false, false, false, false, false, false, false, false, false, false, false, false, false, false, false, false, false, false, false] rfl rfl (any_of HT_.out (by kernel_rfl)) (fun _ _ _ h => h) (Or.inl ⟨by rfl, ?_⟩) ?_ ?_
                        rotate_left
                        · intro w'
                          go_simp
                          with_reducible rfl
                        rotate_left
                        · simp only [Act.put, List.setIfInBounds_toArray, List.set_cons_zero, List.set_cons_succ, i64_w, i32_w]
                          rfl
                        refine pure_ (i := 6) (N := some 50) (v := ?_) (a' := ?_) #[true, true, true, true, true, true, true, false, false, false, false, false, false, false, false, false, false, false, false, false, false, false, false, false, false, false, false, false, false, false, false] rfl rfl (any_of HT_.out (by kernel_rfl)) (fun _ _ _ h => h) (Or.inl ⟨by rfl, ?_⟩) ?_ ?_
                        rotate_left
                        · intro w'
                          go_simp
                          with_reducible rfl
                        rotate_left
                        · simp only [Act.put, List.setIfInBounds_toArray, List.set_cons_zero, List.set_cons_succ, i64_w, i32_w]
                          rfl
                        refine pure_ (i := 8) (N := some 52) (v := ?_) (a' := ?_) #[true, true, true, true, true, true, true, false, true, false, false, false, false, false, false, false, false, false, false, false, false, false, false, false, false, false, false, false, false, false, false] rfl rfl (any_of HT_.out (by kernel_rfl)) (fun _ _ _ h => h) (Or.inl ⟨by rfl, ?_⟩) ?_ ?_
                        rotate_left
                        · intro w'
                          go_simp
                          with_reducible rfl
                        rotate_left
                        · simp only [Act.put, List.setIfInBounds_toArray, List.set_cons_zero, List.set_cons_succ, i64_w, i32_w]
                          rfl
                        refine pure_ (i := 9) (N := some 53) (v := ?_) (a' := ?_) #[true, true, true, true, true, true, true, false, true, true, false, false, false, false, false, false, false, false, false, false, false, false, false, false, false, false, false, false, false, false, false] rfl rfl (any_of HT_.out (by kernel_rfl)) (fun _ _ _ h => h) (Or.inl ⟨by rfl, ?_⟩) ?_ ?_
                        rotate_left
                        · intro w'
                          go_simp
                          with_reducible rfl
                        rotate_left
                        · simp only [Act.put, List.setIfInBounds_toArray, List.set_cons_zero, List.set_cons_succ, i64_w, i32_w]
                          rfl
                        refine pure_ (i := 10) (N := some 54) (v := ?_) (a' := ?_) #[true, true, true, true, true, true, true, false, true, true, true, false, false, false, false, false, false, false, false, false, false, false, false, false, false, false, false, false, false, false, false] rfl rfl (any_of HT_.out (by kernel_rfl)) (fun _ _ _ h => h) (Or.inl ⟨by rfl, ?_⟩) ?_ ?_
                        rotate_left
                        · intro w'
                          go_simp
                          with_reducible rfl
                        rotate_left
                        · simp only [Act.put, List.setIfInBounds_toArray, List.set_cons_zero, List.set_cons_succ, i64_w, i32_w]
                          rfl
                        refine pure_ (i := 13) (N := some 57) (v := ?_) (a' := ?_) #[true, true, true, true, true, true, true, false, true, true, true, false, false, true, false, false, false, false, false, false, false, false, false, false, false, false, false, false, false, false, false] rfl rfl (any_of HT_.out (by kernel_rfl)) (fun _ _ _ h => h) (Or.inl ⟨by rfl, ?_⟩) ?_ ?_
                        rotate_left
                        · intro w'
                          go_simp
                          with_reducible rfl
                        rotate_left
                        · simp only [Act.put, List.setIfInBounds_toArray, List.set_cons_zero, List.set_cons_succ, i64_w, i32_w]
                          rfl
                        refine pure_ (i := 14) (N := some 58) (v := ?_) (a' := ?_) #[true, true, true, true, true, true, true, false, true, true, true, false, false, true, true, false, false, false, false, false, false, false, false, false, false, false, false, false, false, false, false] rfl rfl (any_of HT_.out (by kernel_rfl)) (fun _ _ _ h => h) (Or.inl ⟨by rfl, ?_⟩) ?_ ?_
                        rotate_left
                        · intro w'
                          go_simp
                          with_reducible rfl
                        rotate_left
                        · simp only [Act.put, List.setIfInBounds_toArray, List.set_cons_zero, List.set_cons_succ, i64_w, i32_w]
                          rfl
                        refine pure_ (i := 15) (N := some 59) (v := ?_) (a' := ?_) #[true, true, true, true, true, true, true, false, true, true, true, false, false, true, true, true, false, false, false, false, false, false, false, false, false, false, false, false, false, false, false] rfl rfl (any_of HT_.out (by kernel_rfl)) (fun _ _ _ h => h) (Or.inl ⟨by rfl, ?_⟩) ?_ ?_
                        rotate_left
                        · intro w'
                          go_simp
                          with_reducible rfl
                        rotate_left
                        · simp only [Act.put, List.setIfInBounds_toArray, List.set_cons_zero, List.set_cons_succ, i64_w, i32_w]
                          rfl
                        refine take_ (i := 7) (N := some 51) (v := ?_) (a' := ?_) #[true, true, true, true, true, true, true, true, true, true, true, false, false, true, true, true, false, false, false, false, false, false, false, false, false, false, false, false, false, false, false] rfl rfl (take_ofW HT_.out HW_.out (by kernel_rfl)) (fun _ _ _ h => h) (Or.inl ⟨by rfl, ?_⟩) hHeld ?_ ?_
                        rotate_left
                        · rintro w' ⟨s0, s1, s2, s3, s4, s5, s6, s7, s8, s9, s10, s11, s12, s13, s14, s15⟩
                          go_simp
                          with_reducible rfl
                        rotate_left
                        · simp only [Act.put, List.setIfInBounds_toArray, List.set_cons_zero, List.set_cons_succ, i64_w, i32_w]
                          rfl
                        refine take_ (i := 11) (N := some 55) (v := ?_) (a' := ?_) #[true, true, true, true, true, true, true, true, true, true, true, true, false, true, true, true, false, false, false, false, false, false, false, false, false, false, false, false, false, false, false] rfl rfl (take_ofW HT_.out HW_.out (by kernel_rfl)) (fun _ _ _ h => h) (Or.inl ⟨by rfl, ?_⟩) hHeld ?_ ?_
                        rotate_left
                        · rintro w' ⟨s0, s1, s2, s3, s4, s5, s6, s7, s8, s9, s10, s11, s12, s13, s14, s15⟩
                          go_simp
                          with_reducible rfl
                        rotate_left
                        · simp only [Act.put, List.setIfInBounds_toArray, List.set_cons_zero, List.set_cons_succ, i64_w, i32_w]
                          rfl
                        refine pure_ (i := 12) (N := some 56) (v := ?_) (a' := ?_) #[true, true, true, true, true, true, true, true, true, true, true, true, true, true, true, true, false, false, false, false, false, false, false, false, false, false, false, false, false, false, false] rfl rfl (any_of HT_.out (by kernel_rfl)) (fun _ _ _ h => h) (Or.inl ⟨by rfl, ?_⟩) ?_ ?_
                        rotate_left
                        · intro w'
                          go_simp
                          with_reducible rfl
                        rotate_left
                        · simp only [Act.put, List.setIfInBounds_toArray, List.set_cons_zero, List.set_cons_succ, i64_w, i32_w]
                          rfl
                        refine take_ (i := 16) (N := some 60) (v := ?_) (a' := ?_) #[true, true, true, true, true, true, true, true, true, true, true, true, true, true, true, true, true, false, false, false, false, false, false, false, false, false, false, false, false, false, false] rfl rfl (take_ofW HT_.out HW_.out (by kernel_rfl)) (fun _ _ _ h => h) (Or.inl ⟨by rfl, ?_⟩) hHeld ?_ ?_
                        rotate_left
                        · rintro w' ⟨s0, s1, s2, s3, s4, s5, s6, s7, s8, s9, s10, s11, s12, s13, s14, s15⟩
                          go_simp
                          with_reducible rfl
                        rotate_left
                        · simp only [Act.put, List.setIfInBounds_toArray, List.set_cons_zero, List.set_cons_succ, i64_w, i32_w]
                          rfl
                        refine pure_ (i := 17) (N := some 61) (v := ?_) (a' := ?_) #[true, true, true, true, true, true, true, true, true, true, true, true, true, true, true, true, true, true, false, false, false, false, false, false, false, false, false, false, false, false, false] rfl rfl (any_of HT_.out (by kernel_rfl)) (fun _ _ _ h => h) (Or.inl ⟨by rfl, ?_⟩) ?_ ?_
                        rotate_left
                        · intro w'
                          go_simp
                          with_reducible rfl
                        rotate_left
                        · simp only [Act.put, List.setIfInBounds_toArray, List.set_cons_zero, List.set_cons_succ, i64_w, i32_w]
                          rfl
                        refine one_ (i := 18) (N := some 62) #[true, true, true, true, true, true, true, true, true, true, true, true, true, true, true, true, true, true, true, false, false, false, false, false, false, false, false, false, false, false, false] rfl rfl (one_of HT_.out (by kernel_rfl)) (by decide) (fun K hK => ?_)
                        refine goes_ Try.func133 (by kernel_rfl) rfl #[.agg #[.int .i8 ((rd_T91 ((rd_T37 l0 0).f2) x3_2).f0.f0), .int .i8 ((rd_T91 ((rd_T37 l0 0).f2) x3_2).f0.f1)], .int .i64 (wrap64 ((rd_T37 l0 0).f0)), .int .i64 (wrap64 ((rd_T37 l0 0).f1))] (by rfl) rfl rfl (by (try simp only [List.map_toArray, List.map_cons, List.map_nil]); first | done | rfl | (simp only [List.length_drop, List.length_take]; rfl)) ?_
                        with_reducible refine (spec_l01In.calls ((rd_T91 ((rd_T37 l0 0).f2) x3_2).f0.f0) ((rd_T91 ((rd_T37 l0 0).f2) x3_2).f0.f1) (wrap64 ((rd_T37 l0 0).f0)) (wrap64 ((rd_T37 l0 0).f1)) true _ A14.out).mono ?_
                        rintro e w20 ⟨rfl, hb⟩
                        refine ⟨_, rfl, ?_⟩
                        have n0_ := Aside0.mk (below_step (by repeat (first | (with_reducible first | exact HB.out | apply below_alloc | apply pw_below_drewN | apply below_drew1) | exact HB.out)) hb)
                        clear HB
                        have HB := n0_
                        clear n0_
                        (try clear hb)
                        (try clear hb2)
                        (try clear hk)
                        (try clear hi)
                        refine hK.out _ _ ⟨((HB.out.cell (World.block_lt_of_cell? w _ hw182_0)).trans hw182_0), ((HB.out.cell (World.block_lt_of_cell? w _ hw182_1)).trans hw182_1), ((HB.out.cell (World.block_lt_of_cell? w _ hw182_2)).trans hw182_2), ((HB.out.cell (World.block_lt_of_cell? w _ hw182_3)).trans hw182_3), ((HB.out.cell (World.block_lt_of_cell? w _ hw182_4)).trans hw182_4), ((HB.out.cell (World.block_lt_of_cell? w _ hw183_0)).trans hw183_0), ((HB.out.cell (World.block_lt_of_cell? w _ hw183_1)).trans hw183_1), ((HB.out.cell (World.block_lt_of_cell? w _ hw183_2)).trans hw183_2), ((HB.out.cell (World.block_lt_of_cell? w _ hw184_0)).trans hw184_0), ((HB.out.cell (World.block_lt_of_cell? w _ hw184_1)).trans hw184_1), ((HB.out.cell (World.block_lt_of_cell? w _ hw184_2)).trans hw184_2), ((HB.out.cell (World.block_lt_of_cell? w _ hw186_0)).trans hw186_0), ((HB.out.cell (World.block_lt_of_cell? w _ hw186_1)).trans hw186_1), ((HB.out.cell (World.block_lt_of_cell? w _ hw186_2)).trans hw186_2), ((HB.out.cell (World.block_lt_of_cell? w _ hw186_3)).trans hw186_3), ((HB.out.cell (World.block_lt_of_cell? w _ hw186_4)).trans hw186_4)⟩ (fun hHeld => ?_)
                        clear hK K
                        refine norm_ (a' := ?_) ?_ ?_
                        rotate_left
                        · show Act.put _ (some 62) _ = _
                          simp only [Act.put, List.setIfInBounds_toArray, List.set_cons_zero, List.set_cons_succ, i64_w, i32_w]
                          rfl
                        refine pure_ (i := 19) (N := some 63) (v := ?_) (a' := ?_) #[true, true, true, true, true, true, true, true, true, true, true, true, true, true, true, true, true, true, true, true, false, false, false, false, false, false, false, false, false, false, false] rfl rfl (any_of HT_.out (by kernel_rfl)) (fun _ _ _ h => h) (Or.inl ⟨by rfl, ?_⟩) ?_ ?_
                        rotate_left
                        · intro w'
                          go_simp
                          with_reducible rfl
                        rotate_left
                        · simp only [Act.put, List.setIfInBounds_toArray, List.set_cons_zero, List.set_cons_succ, i64_w, i32_w]
                          rfl
                        refine pure_ (i := 20) (N := some 64) (v := ?_) (a' := ?_) #[true, true, true, true, true, true, true, true, true, true, true, true, true, true, true, true, true, true, true, true, true, false, false, false, false, false, false, false, false, false, false] rfl rfl (any_of HT_.out (by kernel_rfl)) (fun _ _ _ h => h) (Or.inl ⟨by rfl, ?_⟩) ?_ ?_
                        rotate_left
                        · intro w'
                          go_simp
                          with_reducible rfl
                        rotate_left
                        · simp only [Act.put, List.setIfInBounds_toArray, List.set_cons_zero, List.set_cons_succ, i64_w, i32_w]
                          rfl
                        refine pure_ (i := 21) (N := some 65) (v := ?_) (a' := ?_) #[true, true, true, true, true, true, true, true, true, true, true, true, true, true, true, true, true, true, true, true, true, true, false, false, false, false, false, false, false, false, false] rfl rfl (any_of HT_.out (by kernel_rfl)) (fun _ _ _ h => h) (Or.inl ⟨by rfl, ?_⟩) ?_ ?_
                        rotate_left
                        · intro w'
                          go_simp
                          with_reducible rfl
                        rotate_left
                        · simp only [Act.put, List.setIfInBounds_toArray, List.set_cons_zero, List.set_cons_succ, i64_w, i32_w]
                          rfl
                        refine pure_ (i := 22) (N := some 66) (v := ?_) (a' := ?_) #[true, true, true, true, true, true, true, true, true, true, true, true, true, true, true, true, true, true, true, true, true, true, true, false, false, false, false, false, false, false, false] rfl rfl (any_of HT_.out (by kernel_rfl)) (fun _ _ _ h => h) (Or.inl ⟨by rfl, ?_⟩) ?_ ?_
                        rotate_left
                        · intro w'
                          go_simp
                          with_reducible rfl
                        rotate_left
                        · simp only [Act.put, List.setIfInBounds_toArray, List.set_cons_zero, List.set_cons_succ, i64_w, i32_w]
                          rfl
                        refine pure_ (i := 23) (N := some 67) (v := ?_) (a' := ?_) #[true, true, true, true, true, true, true, true, true, true, true, true, true, true, true, true, true, true, true, true, true, true, true, true, false, false, false, false, false, false, false] rfl rfl (any_of HT_.out (by kernel_rfl)) (fun _ _ _ h => h) (Or.inl ⟨by rfl, ?_⟩) ?_ ?_
                        rotate_left
                        · intro w'
                          go_simp
                          with_reducible rfl
                        rotate_left
                        · simp only [Act.put, List.setIfInBounds_toArray, List.set_cons_zero, List.set_cons_succ, i64_w, i32_w]
                          rfl
                        refine pure_ (i := 24) (N := some 68) (v := ?_) (a' := ?_) #[true, true, true, true, true, true, true, true, true, true, true, true, true, true, true, true, true, true, true, true, true, true, true, true, true, false, false, false, false, false, false] rfl rfl (any_of HT_.out (by kernel_rfl)) (fun _ _ _ h => h) (Or.inl ⟨by rfl, ?_⟩) ?_ ?_
                        rotate_left
                        · intro w'
                          go_simp
                          with_reducible rfl
                        rotate_left
                        · simp only [Act.put, List.setIfInBounds_toArray, List.set_cons_zero, List.set_cons_succ, i64_w, i32_w]
                          rfl
                        refine pure_ (i := 25) (N := some 69) (v := ?_) (a' := ?_) #[true, true, true, true, true, true, true, true, true, true, true, true, true, true, true, true, true, true, true, true, true, true, true, true, true, true, false, false, false, false, false] rfl rfl (any_of HT_.out (by kernel_rfl)) (fun _ _ _ h => h) (Or.inl ⟨by rfl, ?_⟩) ?_ ?_
                        rotate_left
                        · intro w'
                          go_simp
                          with_reducible rfl
                        rotate_left
                        · simp only [Act.put, List.setIfInBounds_toArray, List.set_cons_zero, List.set_cons_succ, i64_w, i32_w]
                          rfl
                        refine pure_ (i := 28) (N := some 72) (v := ?_) (a' := ?_) #[true, true, true, true, true, true, true, true, true, true, true, true, true, true, true, true, true, true, true, true, true, true, true, true, true, true, false, false, true, false, false] rfl rfl (any_of HT_.out (by kernel_rfl)) (fun _ _ _ h => h) (Or.inl ⟨by rfl, ?_⟩) ?_ ?_
                        rotate_left
                        · intro w'
                          go_simp
                          with_reducible rfl
                        rotate_left
                        · simp only [Act.put, List.setIfInBounds_toArray, List.set_cons_zero, List.set_cons_succ, i64_w, i32_w]
                          rfl
                        refine take_ (i := 26) (N := some 70) (v := ?_) (a' := ?_) #[true, true, true, true, true, true, true, true, true, true, true, true, true, true, true, true, true, true, true, true, true, true, true, true, true, true, true, false, true, false, false] rfl rfl (take_ofW HT_.out HW_.out (by kernel_rfl)) (fun _ _ _ h => h) (Or.inl ⟨by rfl, ?_⟩) hHeld ?_ ?_
                        rotate_left
                        · rintro w' ⟨s0, s1, s2, s3, s4, s5, s6, s7, s8, s9, s10, s11, s12, s13, s14, s15⟩
                          go_simp
                          with_reducible rfl
                        rotate_left
                        · simp only [Act.put, List.setIfInBounds_toArray, List.set_cons_zero, List.set_cons_succ, i64_w, i32_w]
                          rfl
                        refine one_ (i := 27) (N := some 71) #[true, true, true, true, true, true, true, true, true, true, true, true, true, true, true, true, true, true, true, true, true, true, true, true, true, true, true, true, true, false, false] rfl rfl (one_of HT_.out (by kernel_rfl)) (by decide) (fun K hK => ?_)
                        refine goes_ Try.func111 (by kernel_rfl) rfl #[.pointer (some adp0), .agg #[.int .i8 ((rd_T91 ((rd_T37 l0 0).f2) x3_2).f0.f0), .int .i8 ((rd_T91 ((rd_T37 l0 0).f2) x3_2).f0.f1)]] (by rfl) rfl rfl (by (try simp only [List.map_toArray, List.map_cons, List.map_nil]); first | done | rfl | (simp only [List.length_drop, List.length_take]; rfl)) ?_
                        with_reducible refine (spec_l01Find.calls k2 _ l0 ((rd_T91 ((rd_T37 l0 0).f2) x3_2).f0.f0) ((rd_T91 ((rd_T37 l0 0).f2) x3_2).f0.f1) t187 _ ?side1 A16.out).mono ?_
                        (case side1 => repeat (first | exact (Kd.C_below HR0.out HB.out) | (with_reducible refine Kd.C_alloc ?_ _) | (with_reducible refine Kd.C_drewN ?_ _) | (with_reducible refine Kd.C_drew ?_)))
                        rintro e w21 ⟨rfl, hb⟩
                        refine ⟨_, rfl, ?_⟩
                        have n0_ := Aside0.mk (below_step (by repeat (first | (with_reducible first | exact HB.out | apply below_alloc | apply pw_below_drewN | apply below_drew1) | exact HB.out)) hb)
                        clear HB
                        have HB := n0_
                        clear n0_
                        (try clear hb)
                        (try clear hb2)
                        (try clear hk)
                        (try clear hi)
                        refine hK.out _ _ ⟨((HB.out.cell (World.block_lt_of_cell? w _ hw182_0)).trans hw182_0), ((HB.out.cell (World.block_lt_of_cell? w _ hw182_1)).trans hw182_1), ((HB.out.cell (World.block_lt_of_cell? w _ hw182_2)).trans hw182_2), ((HB.out.cell (World.block_lt_of_cell? w _ hw182_3)).trans hw182_3), ((HB.out.cell (World.block_lt_of_cell? w _ hw182_4)).trans hw182_4), ((HB.out.cell (World.block_lt_of_cell? w _ hw183_0)).trans hw183_0), ((HB.out.cell (World.block_lt_of_cell? w _ hw183_1)).trans hw183_1), ((HB.out.cell (World.block_lt_of_cell? w _ hw183_2)).trans hw183_2), ((HB.out.cell (World.block_lt_of_cell? w _ hw184_0)).trans hw184_0), ((HB.out.cell (World.block_lt_of_cell? w _ hw184_1)).trans hw184_1), ((HB.out.cell (World.block_lt_of_cell? w _ hw184_2)).trans hw184_2), ((HB.out.cell (World.block_lt_of_cell? w _ hw186_0)).trans hw186_0), ((HB.out.cell (World.block_lt_of_cell? w _ hw186_1)).trans hw186_1), ((HB.out.cell (World.block_lt_of_cell? w _ hw186_2)).trans hw186_2), ((HB.out.cell (World.block_lt_of_cell? w _ hw186_3)).trans hw186_3), ((HB.out.cell (World.block_lt_of_cell? w _ hw186_4)).trans hw186_4)⟩ (fun hHeld => ?_)
                        clear hK K
                        refine norm_ (a' := ?_) ?_ ?_
                        rotate_left
                        · show Act.put _ (some 71) _ = _
                          simp only [Act.put, List.setIfInBounds_toArray, List.set_cons_zero, List.set_cons_succ, i64_w, i32_w]
                          rfl
                        refine pure_ (i := 29) (N := some 73) (v := ?_) (a' := ?_) #[true, true, true, true, true, true, true, true, true, true, true, true, true, true, true, true, true, true, true, true, true, true, true, true, true, true, true, true, true, true, false] rfl rfl (any_of HT_.out (by kernel_rfl)) (fun _ _ _ h => h) (Or.inl ⟨by rfl, ?_⟩) ?_ ?_
                        rotate_left
                        · intro w'
                          go_simp
                          with_reducible rfl
                        rotate_left
                        · simp only [Act.put, List.setIfInBounds_toArray, List.set_cons_zero, List.set_cons_succ, i64_w, i32_w]
                          rfl
                        refine pure_ (i := 30) (N := some 74) (v := ?_) (a' := ?_) #[true, true, true, true, true, true, true, true, true, true, true, true, true, true, true, true, true, true, true, true, true, true, true, true, true, true, true, true, true, true, true] rfl rfl (any_of HT_.out (by kernel_rfl)) (fun _ _ _ h => h) (Or.inl ⟨by rfl, ?_⟩) ?_ ?_
                        rotate_left
                        · intro w'
                          go_simp
                          with_reducible rfl
                        rotate_left
                        · simp only [Act.put, List.setIfInBounds_toArray, List.set_cons_zero, List.set_cons_succ, i64_w, i32_w]
                          rfl
                        refine done_ (done_of HT_.out (by kernel_rfl)) ?_
                        try go_wp2
                        go_roundg k2
                        case measure => have := HJ1.out; have := HK2.out; omega
                        case rel => exact ⟨(wrap64 (x3_2 + 1)), (by first | rfl | (simp; done) | (simp [*]; done) | (exact congrArg (Value.int .i64) (wrap_eq (by omega)))), H', ⟨by have := HJ1.out; have := HK2.out; omega⟩, ⟨by repeat (first | (with_reducible first | exact HB.out | apply below_alloc | apply pw_below_drewN | apply below_drew1) | exact HB.out)⟩⟩
                      · rw [if_neg c17] at H
                        have c17b0 : (t187 == x3_2) = false := beq_eq_false_iff_ne.mpr c17
                        have c17b1 : (t187 != x3_2) = true := bne_iff_ne.mpr c17
                        obtain rfl := Option.some.inj H
                        have p178 : 0 ≤ (0 : Int) := (by omega)
                        have q178 : 0 < (l0.length : Int) := of_decide_eq_true (by first | (with_reducible assumption) | assumption)
                        obtain ⟨ad178, A178_2, c178_2, e178, hx178_0, hx178_1, hx178_2, hl178_2, hi178_2⟩ := at_T37 HR0.out 0 p178 q178
                        obtain rfl : adp0 = ad178 := (by injection e178)
                        have qi178 : (0 < l0.length) = True := eq_true (by omega)
                        (try rw [show ((0 : Int)).toNat = 0 from rfl] at hx178_0)
                        (try rw [show 0 * 3 = 0 from rfl] at hx178_0)
                        (try rw [Addr.add_zero'] at hx178_0)
                        (try rw [show ((0 : Int)).toNat = 0 from rfl] at hx178_1)
                        (try rw [show 0 * 3 = 0 from rfl] at hx178_1)
                        (try rw [Addr.add_zero'] at hx178_1)
                        (try rw [show ((0 : Int)).toNat = 0 from rfl] at hx178_2)
                        (try rw [show 0 * 3 = 0 from rfl] at hx178_2)
                        (try rw [Addr.add_zero'] at hx178_2)
                        replace hx178_0 := (HB.out.cell (World.block_lt_of_cell? w _ hx178_0)).trans hx178_0
                        replace hx178_1 := (HB.out.cell (World.block_lt_of_cell? w _ hx178_1)).trans hx178_1
                        replace hx178_2 := (HB.out.cell (World.block_lt_of_cell? w _ hx178_2)).trans hx178_2
                        have HR178_2 := Aside0.mk hi178_2
                        have HC178_2 := Aside0.mk hl178_2
                        clear hi178_2 hl178_2
                        replace p178 := eq_true p178
                        replace q178 := eq_true q178
                        have p179 : 0 ≤ (0 : Int) := (by omega)
                        have q179 : 0 < (l0.length : Int) := of_decide_eq_true (by first | (with_reducible assumption) | assumption)
                        obtain ⟨ad179, A179_2, c179_2, e179, hx179_0, hx179_1, hx179_2, hl179_2, hi179_2⟩ := at_T37 HR0.out 0 p179 q179
                        obtain rfl : adp0 = ad179 := (by injection e179)
                        have qi179 : (0 < l0.length) = True := eq_true (by omega)
                        (try rw [show ((0 : Int)).toNat = 0 from rfl] at hx179_0)
                        (try rw [show 0 * 3 = 0 from rfl] at hx179_0)
                        (try rw [Addr.add_zero'] at hx179_0)
                        (try rw [show ((0 : Int)).toNat = 0 from rfl] at hx179_1)
                        (try rw [show 0 * 3 = 0 from rfl] at hx179_1)
                        (try rw [Addr.add_zero'] at hx179_1)
                        (try rw [show ((0 : Int)).toNat = 0 from rfl] at hx179_2)
                        (try rw [show 0 * 3 = 0 from rfl] at hx179_2)
                        (try rw [Addr.add_zero'] at hx179_2)
                        replace hx179_0 := (HB.out.cell (World.block_lt_of_cell? w _ hx179_0)).trans hx179_0
                        replace hx179_1 := (HB.out.cell (World.block_lt_of_cell? w _ hx179_1)).trans hx179_1
                        replace hx179_2 := (HB.out.cell (World.block_lt_of_cell? w _ hx179_2)).trans hx179_2
                        have HR179_2 := Aside0.mk hi179_2
                        have HC179_2 := Aside0.mk hl179_2
                        clear hi179_2 hl179_2
                        replace p179 := eq_true p179
                        replace q179 := eq_true q179
                        have ea_ := Option.some.inj (hx178_2.symm.trans hx179_2)
                        injection ea_ with ea_ en_ ec_
                        subst ea_
                        subst ec_
                        clear en_
                        have p180 : 0 ≤ (x3_2 : Int) := of_decide_eq_true (by first | (with_reducible assumption) | assumption)
                        have q180 : x3_2 < (((rd_T37 l0 0).f2).length : Int) := of_decide_eq_true (by first | (with_reducible assumption) | assumption)
                        obtain ⟨ad180, e180, hx180_0, hx180_1, hx180_2, hx180_3, hx180_4⟩ := at_T91 HR179_2.out x3_2 p180 q180
                        cases e180
                        replace hx180_0 := (HB.out.cell (World.block_lt_of_cell? w _ hx180_0)).trans hx180_0
                        replace hx180_1 := (HB.out.cell (World.block_lt_of_cell? w _ hx180_1)).trans hx180_1
                        replace hx180_2 := (HB.out.cell (World.block_lt_of_cell? w _ hx180_2)).trans hx180_2
                        replace hx180_3 := (HB.out.cell (World.block_lt_of_cell? w _ hx180_3)).trans hx180_3
                        replace hx180_4 := (HB.out.cell (World.block_lt_of_cell? w _ hx180_4)).trans hx180_4
                        replace p180 := eq_true p180
                        replace q180 := eq_true q180
                        try go_wp2
                        have n0_ := Aside0.mk (below_drew1 HB.out)
                        clear HB
                        have HB := n0_
                        clear n0_
                        have p182 : 0 ≤ (x3_2 : Int) := of_decide_eq_true (by first | (with_reducible assumption) | assumption)
                        have q182 : x3_2 < (((rd_T37 l0 0).f2).length : Int) := of_decide_eq_true (by first | (with_reducible assumption) | assumption)
                        obtain ⟨ad182, e182, hx182_0, hx182_1, hx182_2, hx182_3, hx182_4⟩ := at_T91 HR179_2.out x3_2 p182 q182
                        have hw182_4 := hx182_4
                        have hw182_3 := hx182_3
                        have hw182_2 := hx182_2
                        have hw182_1 := hx182_1
                        have hw182_0 := hx182_0
                        obtain rfl : ad180 = ad182 := (by injection e182)
                        replace hx182_0 := (HB.out.cell (World.block_lt_of_cell? w _ hx182_0)).trans hx182_0
                        replace hx182_1 := (HB.out.cell (World.block_lt_of_cell? w _ hx182_1)).trans hx182_1
                        replace hx182_2 := (HB.out.cell (World.block_lt_of_cell? w _ hx182_2)).trans hx182_2
                        replace hx182_3 := (HB.out.cell (World.block_lt_of_cell? w _ hx182_3)).trans hx182_3
                        replace hx182_4 := (HB.out.cell (World.block_lt_of_cell? w _ hx182_4)).trans hx182_4
                        replace p182 := eq_true p182
                        replace q182 := eq_true q182
                        have p183 : 0 ≤ (0 : Int) := (by omega)
                        have q183 : 0 < (l0.length : Int) := of_decide_eq_true (by first | (with_reducible assumption) | assumption)
                        obtain ⟨ad183, A183_2, c183_2, e183, hx183_0, hx183_1, hx183_2, hl183_2, hi183_2⟩ := at_T37 HR0.out 0 p183 q183
                        have hw183_2 := hx183_2
                        (try rw [show ((0 : Int)).toNat = 0 from rfl] at hw183_2)
                        (try rw [show 0 * 3 = 0 from rfl] at hw183_2)
                        (try rw [Addr.add_zero'] at hw183_2)
                        have hw183_1 := hx183_1
                        (try rw [show ((0 : Int)).toNat = 0 from rfl] at hw183_1)
                        (try rw [show 0 * 3 = 0 from rfl] at hw183_1)
                        (try rw [Addr.add_zero'] at hw183_1)
                        have hw183_0 := hx183_0
                        (try rw [show ((0 : Int)).toNat = 0 from rfl] at hw183_0)
                        (try rw [show 0 * 3 = 0 from rfl] at hw183_0)
                        (try rw [Addr.add_zero'] at hw183_0)
                        obtain rfl : adp0 = ad183 := (by injection e183)
                        have qi183 : (0 < l0.length) = True := eq_true (by omega)
                        (try rw [show ((0 : Int)).toNat = 0 from rfl] at hx183_0)
                        (try rw [show 0 * 3 = 0 from rfl] at hx183_0)
                        (try rw [Addr.add_zero'] at hx183_0)
                        (try rw [show ((0 : Int)).toNat = 0 from rfl] at hx183_1)
                        (try rw [show 0 * 3 = 0 from rfl] at hx183_1)
                        (try rw [Addr.add_zero'] at hx183_1)
                        (try rw [show ((0 : Int)).toNat = 0 from rfl] at hx183_2)
                        (try rw [show 0 * 3 = 0 from rfl] at hx183_2)
                        (try rw [Addr.add_zero'] at hx183_2)
                        replace hx183_0 := (HB.out.cell (World.block_lt_of_cell? w _ hx183_0)).trans hx183_0
                        replace hx183_1 := (HB.out.cell (World.block_lt_of_cell? w _ hx183_1)).trans hx183_1
                        replace hx183_2 := (HB.out.cell (World.block_lt_of_cell? w _ hx183_2)).trans hx183_2
                        have HR183_2 := Aside0.mk hi183_2
                        have HC183_2 := Aside0.mk hl183_2
                        clear hi183_2 hl183_2
                        replace p183 := eq_true p183
                        replace q183 := eq_true q183
                        have p184 : 0 ≤ (0 : Int) := (by omega)
                        have q184 : 0 < (l0.length : Int) := of_decide_eq_true (by first | (with_reducible assumption) | assumption)
                        obtain ⟨ad184, A184_2, c184_2, e184, hx184_0, hx184_1, hx184_2, hl184_2, hi184_2⟩ := at_T37 HR0.out 0 p184 q184
                        have hw184_2 := hx184_2
                        (try rw [show ((0 : Int)).toNat = 0 from rfl] at hw184_2)
                        (try rw [show 0 * 3 = 0 from rfl] at hw184_2)
                        (try rw [Addr.add_zero'] at hw184_2)
                        have hw184_1 := hx184_1
                        (try rw [show ((0 : Int)).toNat = 0 from rfl] at hw184_1)
                        (try rw [show 0 * 3 = 0 from rfl] at hw184_1)
                        (try rw [Addr.add_zero'] at hw184_1)
                        have hw184_0 := hx184_0
                        (try rw [show ((0 : Int)).toNat = 0 from rfl] at hw184_0)
                        (try rw [show 0 * 3 = 0 from rfl] at hw184_0)
                        (try rw [Addr.add_zero'] at hw184_0)
                        obtain rfl : adp0 = ad184 := (by injection e184)
                        have qi184 : (0 < l0.length) = True := eq_true (by omega)
                        (try rw [show ((0 : Int)).toNat = 0 from rfl] at hx184_0)
                        (try rw [show 0 * 3 = 0 from rfl] at hx184_0)
                        (try rw [Addr.add_zero'] at hx184_0)
                        (try rw [show ((0 : Int)).toNat = 0 from rfl] at hx184_1)
                        (try rw [show 0 * 3 = 0 from rfl] at hx184_1)
                        (try rw [Addr.add_zero'] at hx184_1)
                        (try rw [show ((0 : Int)).toNat = 0 from rfl] at hx184_2)
                        (try rw [show 0 * 3 = 0 from rfl] at hx184_2)
                        (try rw [Addr.add_zero'] at hx184_2)
                        replace hx184_0 := (HB.out.cell (World.block_lt_of_cell? w _ hx184_0)).trans hx184_0
                        replace hx184_1 := (HB.out.cell (World.block_lt_of_cell? w _ hx184_1)).trans hx184_1
                        replace hx184_2 := (HB.out.cell (World.block_lt_of_cell? w _ hx184_2)).trans hx184_2
                        have HR184_2 := Aside0.mk hi184_2
                        have HC184_2 := Aside0.mk hl184_2
                        clear hi184_2 hl184_2
                        replace p184 := eq_true p184
                        replace q184 := eq_true q184
                        have ea_ := Option.some.inj (hx183_2.symm.trans hx184_2)
                        injection ea_ with ea_ en_ ec_
                        subst ea_
                        subst ec_
                        clear en_
                        have p186 : 0 ≤ (x3_2 : Int) := of_decide_eq_true (by first | (with_reducible assumption) | assumption)
                        have q186 : x3_2 < (((rd_T37 l0 0).f2).length : Int) := of_decide_eq_true (by first | (with_reducible assumption) | assumption)
                        obtain ⟨ad186, e186, hx186_0, hx186_1, hx186_2, hx186_3, hx186_4⟩ := at_T91 HR179_2.out x3_2 p186 q186
                        have hw186_4 := hx186_4
                        have hw186_3 := hx186_3
                        have hw186_2 := hx186_2
                        have hw186_1 := hx186_1
                        have hw186_0 := hx186_0
                        obtain rfl : ad180 = ad186 := (by injection e186)
                        replace hx186_0 := (HB.out.cell (World.block_lt_of_cell? w _ hx186_0)).trans hx186_0
                        replace hx186_1 := (HB.out.cell (World.block_lt_of_cell? w _ hx186_1)).trans hx186_1
                        replace hx186_2 := (HB.out.cell (World.block_lt_of_cell? w _ hx186_2)).trans hx186_2
                        replace hx186_3 := (HB.out.cell (World.block_lt_of_cell? w _ hx186_3)).trans hx186_3
                        replace hx186_4 := (HB.out.cell (World.block_lt_of_cell? w _ hx186_4)).trans hx186_4
                        replace p186 := eq_true p186
                        replace q186 := eq_true q186
                        refine start_ (n := 31) (S := fun w' => w'.cell? (ad180.add ((x3_2).toNat * 5)) = some (.int .i8 ((rd_T91 ((rd_T37 l0 0).f2) x3_2).f0.f0)) ∧ w'.cell? ⟨(ad180.add ((x3_2).toNat * 5)).block, (ad180.add ((x3_2).toNat * 5)).off + 1, none⟩ = some (.int .i8 ((rd_T91 ((rd_T37 l0 0).f2) x3_2).f0.f1)) ∧ w'.cell? ⟨(ad180.add ((x3_2).toNat * 5)).block, (ad180.add ((x3_2).toNat * 5)).off + 2, none⟩ = some (.int .i8 ((rd_T91 ((rd_T37 l0 0).f2) x3_2).f1)) ∧ w'.cell? ⟨(ad180.add ((x3_2).toNat * 5)).block, (ad180.add ((x3_2).toNat * 5)).off + 3, none⟩ = some (.int .i8 ((rd_T91 ((rd_T37 l0 0).f2) x3_2).f2)) ∧ w'.cell? ⟨(ad180.add ((x3_2).toNat * 5)).block, (ad180.add ((x3_2).toNat * 5)).off + 4, none⟩ = some (.int .i8 ((rd_T91 ((rd_T37 l0 0).f2) x3_2).f3)) ∧ w'.cell? adp0 = some (.int .i8 ((rd_T37 l0 0).f0)) ∧ w'.cell? ⟨adp0.block, adp0.off + 1, none⟩ = some (.int .i8 ((rd_T37 l0 0).f1)) ∧ w'.cell? ⟨adp0.block, adp0.off + 2, none⟩ = some (.slice A183_2 ((rd_T37 l0 0).f2).length c183_2) ∧ w'.cell? adp0 = some (.int .i8 ((rd_T37 l0 0).f0)) ∧ w'.cell? ⟨adp0.block, adp0.off + 1, none⟩ = some (.int .i8 ((rd_T37 l0 0).f1)) ∧ w'.cell? ⟨adp0.block, adp0.off + 2, none⟩ = some (.slice A183_2 ((rd_T37 l0 0).f2).length c183_2) ∧ w'.cell? (ad180.add ((x3_2).toNat * 5)) = some (.int .i8 ((rd_T91 ((rd_T37 l0 0).f2) x3_2).f0.f0)) ∧ w'.cell? ⟨(ad180.add ((x3_2).toNat * 5)).block, (ad180.add ((x3_2).toNat * 5)).off + 1, none⟩ = some (.int .i8 ((rd_T91 ((rd_T37 l0 0).f2) x3_2).f0.f1)) ∧ w'.cell? ⟨(ad180.add ((x3_2).toNat * 5)).block, (ad180.add ((x3_2).toNat * 5)).off + 2, none⟩ = some (.int .i8 ((rd_T91 ((rd_T37 l0 0).f2) x3_2).f1)) ∧ w'.cell? ⟨(ad180.add ((x3_2).toNat * 5)).block, (ad180.add ((x3_2).toNat * 5)).off + 3, none⟩ = some (.int .i8 ((rd_T91 ((rd_T37 l0 0).f2) x3_2).f2)) ∧ w'.cell? ⟨(ad180.add ((x3_2).toNat * 5)).block, (ad180.add ((x3_2).toNat * 5)).off + 4, none⟩ = some (.int .i8 ((rd_T91 ((rd_T37 l0 0).f2) x3_2).f3))) (ds := []) #[false, false, false, false, false, false, false, false, false, false, false, false, false, false, false, false, false, false, false, false, false, false, false, false, false, false, false, false, false, false, false] (by kernel_rfl) rfl rfl ⟨((HB.out.cell (World.block_lt_of_cell? w _ hw182_0)).trans hw182_0), ((HB.out.cell (World.block_lt_of_cell? w _ hw182_1)).trans hw182_1), ((HB.out.cell (World.block_lt_of_cell? w _ hw182_2)).trans hw182_2), ((HB.out.cell (World.block_lt_of_cell? w _ hw182_3)).trans hw182_3), ((HB.out.cell (World.block_lt_of_cell? w _ hw182_4)).trans hw182_4), ((HB.out.cell (World.block_lt_of_cell? w _ hw183_0)).trans hw183_0), ((HB.out.cell (World.block_lt_of_cell? w _ hw183_1)).trans hw183_1), ((HB.out.cell (World.block_lt_of_cell? w _ hw183_2)).trans hw183_2), ((HB.out.cell (World.block_lt_of_cell? w _ hw184_0)).trans hw184_0), ((HB.out.cell (World.block_lt_of_cell? w _ hw184_1)).trans hw184_1), ((HB.out.cell (World.block_lt_of_cell? w _ hw184_2)).trans hw184_2), ((HB.out.cell (World.block_lt_of_cell? w _ hw186_0)).trans hw186_0), ((HB.out.cell (World.block_lt_of_cell? w _ hw186_1)).trans hw186_1), ((HB.out.cell (World.block_lt_of_cell? w _ hw186_2)).trans hw186_2), ((HB.out.cell (World.block_lt_of_cell? w _ hw186_3)).trans hw186_3), ((HB.out.cell (World.block_lt_of_cell? w _ hw186_4)).trans hw186_4)⟩ (fun hHeld => ?_); refine with_tabW spec_l01Ok.tab7 spec_l01Ok.bits7 (fun HT_ HW_ => ?_)
                        generalize wr.drew = w22 at HB HR183_2 HR184_2 hx182_0 hx182_1 hx182_2 hx182_3 hx182_4 hx183_0 hx183_1 hx183_2 hx184_0 hx184_1 hx184_2 hx186_0 hx186_1 hx186_2 hx186_3 hx186_4 hHeld ⊢
                        refine pure_ (i := 0) (N := some 44) (v := ?_) (a' := ?_) #[true, false, false, false, false, false, false, false, false, false, false, false, false, false, false, false, false, false, false, false, false, false, false, false, false, false, false, false, false, false, false] rfl rfl (any_of HT_.out (by kernel_rfl)) (fun _ _ _ h => h) (Or.inl ⟨by rfl, ?_⟩) ?_ ?_
                        rotate_left
                        · intro w'
                          go_simp
                          with_reducible rfl
                        rotate_left
                        · simp only [Act.put, List.setIfInBounds_toArray, List.set_cons_zero, List.set_cons_succ, i64_w, i32_w]
                          rfl
                        refine one_ (i := 1) (N := some 45) #[true, true, false, false, false, false, false, false, false, false, false, false, false, false, false, false, false, false, false, false, false, false, false, false, false, false, false, false, false, false, false] rfl rfl (one_of HT_.out (by kernel_rfl)) (by decide) (fun K hK => ?_)
                        refine goes_ Try.func132 (by kernel_rfl) rfl #[.pointer (some (ad180.add (x3_2.toNat * 5)))] (by rfl) rfl rfl (by (try simp only [List.map_toArray, List.map_cons, List.map_nil]); first | done | rfl | (simp only [List.length_drop, List.length_take]; rfl)) ?_
                        with_reducible refine (spec_l01Piece.calls _ [rd_T91 ((rd_T37 l0 0).f2) x3_2] true _ ?side1 A12.out).mono ?_
                        (case side1 => refine ro_of_elem (d := k91) z91 x3_2 (by first | exact of_eq_true p180 | omega) (by first | exact of_eq_true q180 | omega) ?_; repeat (first | exact (Kd.C_below HR179_2.out HB.out) | (with_reducible refine Kd.C_alloc ?_ _) | (with_reducible refine Kd.C_drewN ?_ _) | (with_reducible refine Kd.C_drew ?_)))
                        rintro e w23 ⟨rfl, hb⟩
                        refine ⟨_, rfl, ?_⟩
                        have n0_ := Aside0.mk (below_step (by repeat (first | (with_reducible first | exact HB.out | apply below_alloc | apply pw_below_drewN | apply below_drew1) | exact HB.out)) hb)
                        clear HB
                        have HB := n0_
                        clear n0_
                        (try clear hb)
                        (try clear hb2)
                        (try clear hk)
                        (try clear hi)
                        refine hK.out _ _ ⟨((HB.out.cell (World.block_lt_of_cell? w _ hw182_0)).trans hw182_0), ((HB.out.cell (World.block_lt_of_cell? w _ hw182_1)).trans hw182_1), ((HB.out.cell (World.block_lt_of_cell? w _ hw182_2)).trans hw182_2), ((HB.out.cell (World.block_lt_of_cell? w _ hw182_3)).trans hw182_3), ((HB.out.cell (World.block_lt_of_cell? w _ hw182_4)).trans hw182_4), ((HB.out.cell (World.block_lt_of_cell? w _ hw183_0)).trans hw183_0), ((HB.out.cell (World.block_lt_of_cell? w _ hw183_1)).trans hw183_1), ((HB.out.cell (World.block_lt_of_cell? w _ hw183_2)).trans hw183_2), ((HB.out.cell (World.block_lt_of_cell? w _ hw184_0)).trans hw184_0), ((HB.out.cell (World.block_lt_of_cell? w _ hw184_1)).trans hw184_1), ((HB.out.cell (World.block_lt_of_cell? w _ hw184_2)).trans hw184_2), ((HB.out.cell (World.block_lt_of_cell? w _ hw186_0)).trans hw186_0), ((HB.out.cell (World.block_lt_of_cell? w _ hw186_1)).trans hw186_1), ((HB.out.cell (World.block_lt_of_cell? w _ hw186_2)).trans hw186_2), ((HB.out.cell (World.block_lt_of_cell? w _ hw186_3)).trans hw186_3), ((HB.out.cell (World.block_lt_of_cell? w _ hw186_4)).trans hw186_4)⟩ (fun hHeld => ?_)
                        clear hK K
                        refine norm_ (a' := ?_) ?_ ?_
                        rotate_left
                        · show Act.put _ (some 45) _ = _
                          simp only [Act.put, List.setIfInBounds_toArray, List.set_cons_zero, List.set_cons_succ, i64_w, i32_w]
                          rfl
                        refine pure_ (i := 2) (N := some 46) (v := ?_) (a' := ?_) #[true, true, true, false, false, false, false, false, false, false, false, false, false, false, false, false, false, false, false, false, false, false, false, false, false, false, false, false, false, false, false] rfl rfl (any_of HT_.out (by kernel_rfl)) (fun _ _ _ h => h) (Or.inl ⟨by rfl, ?_⟩) ?_ ?_
                        rotate_left
                        · intro w'
                          go_simp
                          with_reducible rfl
                        rotate_left
                        · simp only [Act.put, List.setIfInBounds_toArray, List.set_cons_zero, List.set_cons_succ, i64_w, i32_w]
                          rfl
                        refine pure_ (i := 3) (N := some 47) (v := ?_) (a' := ?_) #[true, true, true, true, false, false, false, false, false, false, false, false, false, false, false, false, false, false, false, false, false, false, false, false, false, false, false, false, false, false, false] rfl rfl (any_of HT_.out (by kernel_rfl)) (fun _ _ _ h => h) (Or.inl ⟨by rfl, ?_⟩) ?_ ?_
                        rotate_left
                        · intro w'
                          go_simp
                          with_reducible rfl
                        rotate_left
                        · simp only [Act.put, List.setIfInBounds_toArray, List.set_cons_zero, List.set_cons_succ, i64_w, i32_w]
                          rfl
                        refine pure_ (i := 4) (N := some 48) (v := ?_) (a' := ?_) #[true, true, true, true, true, false, false, false, false, false, false, false, false, false, false, false, false, false, false, false, false, false, false, false, false, false, false, false, false, false, false] rfl rfl (any_of HT_.out (by kernel_rfl)) (fun _ _ _ h => h) (Or.inl ⟨by rfl, ?_⟩) ?_ ?_
                        rotate_left
                        · intro w'
                          go_simp
                          with_reducible rfl
                        rotate_left
                        · simp only [Act.put, List.setIfInBounds_toArray, List.set_cons_zero, List.set_cons_succ, i64_w, i32_w]
                          rfl
                        refine pure_ (i := 5) (N := some 49) (v := ?_) (a' := ?_) #[true, true, true, true, true, true, false, false, false, false, false, false, false, false, false, false, false, false, false, false, false, false, false, false, false, false, false, false, false, false, false] rfl rfl (any_of HT_.out (by kernel_rfl)) (fun _ _ _ h => h) (Or.inl ⟨by rfl, ?_⟩) ?_ ?_
                        rotate_left
                        · intro w'
                          go_simp
                          with_reducible rfl
                        rotate_left
                        · simp only [Act.put, List.setIfInBounds_toArray, List.set_cons_zero, List.set_cons_succ, i64_w, i32_w]
                          rfl
                        refine pure_ (i := 6) (N := some 50) (v := ?_) (a' := ?_) #[true, true, true, true, true, true, true, false, false, false, false, false, false, false, false, false, false, false, false, false, false, false, false, false, false, false, false, false, false, false, false] rfl rfl (any_of HT_.out (by kernel_rfl)) (fun _ _ _ h => h) (Or.inl ⟨by rfl, ?_⟩) ?_ ?_
                        rotate_left
                        · intro w'
                          go_simp
                          with_reducible rfl
                        rotate_left
                        · simp only [Act.put, List.setIfInBounds_toArray, List.set_cons_zero, List.set_cons_succ, i64_w, i32_w]
                          rfl
                        refine pure_ (i := 8) (N := some 52) (v := ?_) (a' := ?_) #[true, true, true, true, true, true, true, false, true, false, false, false, false, false, false, false, false, false, false, false, false, false, false, false, false, false, false, false, false, false, false] rfl rfl (any_of HT_.out (by kernel_rfl)) (fun _ _ _ h => h) (Or.inl ⟨by rfl, ?_⟩) ?_ ?_
                        rotate_left
                        · intro w'
                          go_simp
                          with_reducible rfl
                        rotate_left
                        · simp only [Act.put, List.setIfInBounds_toArray, List.set_cons_zero, List.set_cons_succ, i64_w, i32_w]
                          rfl
                        refine pure_ (i := 9) (N := some 53) (v := ?_) (a' := ?_) #[true, true, true, true, true, true, true, false, true, true, false, false, false, false, false, false, false, false, false, false, false, false, false, false, false, false, false, false, false, false, false] rfl rfl (any_of HT_.out (by kernel_rfl)) (fun _ _ _ h => h) (Or.inl ⟨by rfl, ?_⟩) ?_ ?_
                        rotate_left
                        · intro w'
                          go_simp
                          with_reducible rfl
                        rotate_left
                        · simp only [Act.put, List.setIfInBounds_toArray, List.set_cons_zero, List.set_cons_succ, i64_w, i32_w]
                          rfl
                        refine pure_ (i := 10) (N := some 54) (v := ?_) (a' := ?_) #[true, true, true, true, true, true, true, false, true, true, true, false, false, false, false, false, false, false, false, false, false, false, false, false, false, false, false, false, false, false, false] rfl rfl (any_of HT_.out (by kernel_rfl)) (fun _ _ _ h => h) (Or.inl ⟨by rfl, ?_⟩) ?_ ?_
                        rotate_left
                        · intro w'
                          go_simp
                          with_reducible rfl
                        rotate_left
                        · simp only [Act.put, List.setIfInBounds_toArray, List.set_cons_zero, List.set_cons_succ, i64_w, i32_w]
                          rfl
                        refine pure_ (i := 13) (N := some 57) (v := ?_) (a' := ?_) #[true, true, true, true, true, true, true, false, true, true, true, false, false, true, false, false, false, false, false, false, false, false, false, false, false, false, false, false, false, false, false] rfl rfl (any_of HT_.out (by kernel_rfl)) (fun _ _ _ h => h) (Or.inl ⟨by rfl, ?_⟩) ?_ ?_
                        rotate_left
                        · intro w'
                          go_simp
                          with_reducible rfl
                        rotate_left
                        · simp only [Act.put, List.setIfInBounds_toArray, List.set_cons_zero, List.set_cons_succ, i64_w, i32_w]
                          rfl
                        refine pure_ (i := 14) (N := some 58) (v := ?_) (a' := ?_) #[true, true, true, true, true, true, true, false, true, true, true, false, false, true, true, false, false, false, false, false, false, false, false, false, false, false, false, false, false, false, false] rfl rfl (any_of HT_.out (by kernel_rfl)) (fun _ _ _ h => h) (Or.inl ⟨by rfl, ?_⟩) ?_ ?_
                        rotate_left
                        · intro w'
                          go_simp
                          with_reducible rfl
                        rotate_left
                        · simp only [Act.put, List.setIfInBounds_toArray, List.set_cons_zero, List.set_cons_succ, i64_w, i32_w]
                          rfl
                        refine pure_ (i := 15) (N := some 59) (v := ?_) (a' := ?_) #[true, true, true, true, true, true, true, false, true, true, true, false, false, true, true, true, false, false, false, false, false, false, false, false, false, false, false, false, false, false, false] rfl rfl (any_of HT_.out (by kernel_rfl)) (fun _ _ _ h => h) (Or.inl ⟨by rfl, ?_⟩) ?_ ?_
                        rotate_left
                        · intro w'
                          go_simp
                          with_reducible rfl
                        rotate_left
                        · simp only [Act.put, List.setIfInBounds_toArray, List.set_cons_zero, List.set_cons_succ, i64_w, i32_w]
                          rfl
                        refine take_ (i := 7) (N := some 51) (v := ?_) (a' := ?_) #[true, true, true, true, true, true, true, true, true, true, true, false, false, true, true, true, false, false, false, false, false, false, false, false, false, false, false, false, false, false, false] rfl rfl (take_ofW HT_.out HW_.out (by kernel_rfl)) (fun _ _ _ h => h) (Or.inl ⟨by rfl, ?_⟩) hHeld ?_ ?_
                        rotate_left
                        · rintro w' ⟨s0, s1, s2, s3, s4, s5, s6, s7, s8, s9, s10, s11, s12, s13, s14, s15⟩
                          go_simp
                          with_reducible rfl
                        rotate_left
                        · simp only [Act.put, List.setIfInBounds_toArray, List.set_cons_zero, List.set_cons_succ, i64_w, i32_w]
                          rfl
                        refine take_ (i := 11) (N := some 55) (v := ?_) (a' := ?_) #[true, true, true, true, true, true, true, true, true, true, true, true, false, true, true, true, false, false, false, false, false, false, false, false, false, false, false, false, false, false, false] rfl rfl (take_ofW HT_.out HW_.out (by kernel_rfl)) (fun _ _ _ h => h) (Or.inl ⟨by rfl, ?_⟩) hHeld ?_ ?_
                        rotate_left
                        · rintro w' ⟨s0, s1, s2, s3, s4, s5, s6, s7, s8, s9, s10, s11, s12, s13, s14, s15⟩
                          go_simp
                          with_reducible rfl
                        rotate_left
                        · simp only [Act.put, List.setIfInBounds_toArray, List.set_cons_zero, List.set_cons_succ, i64_w, i32_w]
                          rfl
                        refine pure_ (i := 12) (N := some 56) (v := ?_) (a' := ?_) #[true, true, true, true, true, true, true, true, true, true, true, true, true, true, true, true, false, false, false, false, false, false, false, false, false, false, false, false, false, false, false] rfl rfl (any_of HT_.out (by kernel_rfl)) (fun _ _ _ h => h) (Or.inl ⟨by rfl, ?_⟩) ?_ ?_
                        rotate_left
                        · intro w'
                          go_simp
                          with_reducible rfl
                        rotate_left
                        · simp only [Act.put, List.setIfInBounds_toArray, List.set_cons_zero, List.set_cons_succ, i64_w, i32_w]
                          rfl
                        refine take_ (i := 16) (N := some 60) (v := ?_) (a' := ?_) #[true, true, true, true, true, true, true, true, true, true, true, true, true, true, true, true, true, false, false, false, false, false, false, false, false, false, false, false, false, false, false] rfl rfl (take_ofW HT_.out HW_.out (by kernel_rfl)) (fun _ _ _ h => h) (Or.inl ⟨by rfl, ?_⟩) hHeld ?_ ?_
                        rotate_left
                        · rintro w' ⟨s0, s1, s2, s3, s4, s5, s6, s7, s8, s9, s10, s11, s12, s13, s14, s15⟩
                          go_simp
                          with_reducible rfl
                        rotate_left
                        · simp only [Act.put, List.setIfInBounds_toArray, List.set_cons_zero, List.set_cons_succ, i64_w, i32_w]
                          rfl
                        refine pure_ (i := 17) (N := some 61) (v := ?_) (a' := ?_) #[true, true, true, true, true, true, true, true, true, true, true, true, true, true, true, true, true, true, false, false, false, false, false, false, false, false, false, false, false, false, false] rfl rfl (any_of HT_.out (by kernel_rfl)) (fun _ _ _ h => h) (Or.inl ⟨by rfl, ?_⟩) ?_ ?_
                        rotate_left
                        · intro w'
                          go_simp
                          with_reducible rfl
                        rotate_left
                        · simp only [Act.put, List.setIfInBounds_toArray, List.set_cons_zero, List.set_cons_succ, i64_w, i32_w]
                          rfl
                        refine one_ (i := 18) (N := some 62) #[true, true, true, true, true, true, true, true, true, true, true, true, true, true, true, true, true, true, true, false, false, false, false, false, false, false, false, false, false, false, false] rfl rfl (one_of HT_.out (by kernel_rfl)) (by decide) (fun K hK => ?_)
                        refine goes_ Try.func133 (by kernel_rfl) rfl #[.agg #[.int .i8 ((rd_T91 ((rd_T37 l0 0).f2) x3_2).f0.f0), .int .i8 ((rd_T91 ((rd_T37 l0 0).f2) x3_2).f0.f1)], .int .i64 (wrap64 ((rd_T37 l0 0).f0)), .int .i64 (wrap64 ((rd_T37 l0 0).f1))] (by rfl) rfl rfl (by (try simp only [List.map_toArray, List.map_cons, List.map_nil]); first | done | rfl | (simp only [List.length_drop, List.length_take]; rfl)) ?_
                        with_reducible refine (spec_l01In.calls ((rd_T91 ((rd_T37 l0 0).f2) x3_2).f0.f0) ((rd_T91 ((rd_T37 l0 0).f2) x3_2).f0.f1) (wrap64 ((rd_T37 l0 0).f0)) (wrap64 ((rd_T37 l0 0).f1)) true _ A14.out).mono ?_
                        rintro e w24 ⟨rfl, hb⟩
                        refine ⟨_, rfl, ?_⟩
                        have n0_ := Aside0.mk (below_step (by repeat (first | (with_reducible first | exact HB.out | apply below_alloc | apply pw_below_drewN | apply below_drew1) | exact HB.out)) hb)
                        clear HB
                        have HB := n0_
                        clear n0_
                        (try clear hb)
                        (try clear hb2)
                        (try clear hk)
                        (try clear hi)
                        refine hK.out _ _ ⟨((HB.out.cell (World.block_lt_of_cell? w _ hw182_0)).trans hw182_0), ((HB.out.cell (World.block_lt_of_cell? w _ hw182_1)).trans hw182_1), ((HB.out.cell (World.block_lt_of_cell? w _ hw182_2)).trans hw182_2), ((HB.out.cell (World.block_lt_of_cell? w _ hw182_3)).trans hw182_3), ((HB.out.cell (World.block_lt_of_cell? w _ hw182_4)).trans hw182_4), ((HB.out.cell (World.block_lt_of_cell? w _ hw183_0)).trans hw183_0), ((HB.out.cell (World.block_lt_of_cell? w _ hw183_1)).trans hw183_1), ((HB.out.cell (World.block_lt_of_cell? w _ hw183_2)).trans hw183_2), ((HB.out.cell (World.block_lt_of_cell? w _ hw184_0)).trans hw184_0), ((HB.out.cell (World.block_lt_of_cell? w _ hw184_1)).trans hw184_1), ((HB.out.cell (World.block_lt_of_cell? w _ hw184_2)).trans hw184_2), ((HB.out.cell (World.block_lt_of_cell? w _ hw186_0)).trans hw186_0), ((HB.out.cell (World.block_lt_of_cell? w _ hw186_1)).trans hw186_1), ((HB.out.cell (World.block_lt_of_cell? w _ hw186_2)).trans hw186_2), ((HB.out.cell (World.block_lt_of_cell? w _ hw186_3)).trans hw186_3), ((HB.out.cell (World.block_lt_of_cell? w _ hw186_4)).trans hw186_4)⟩ (fun hHeld => ?_)
                        clear hK K
                        refine norm_ (a' := ?_) ?_ ?_
                        rotate_left
                        · show Act.put _ (some 62) _ = _
                          simp only [Act.put, List.setIfInBounds_toArray, List.set_cons_zero, List.set_cons_succ, i64_w, i32_w]
                          rfl
                        refine pure_ (i := 19) (N := some 63) (v := ?_) (a' := ?_) #[true, true, true, true, true, true, true, true, true, true, true, true, true, true, true, true, true, true, true, true, false, false, false, false, false, false, false, false, false, false, false] rfl rfl (any_of HT_.out (by kernel_rfl)) (fun _ _ _ h => h) (Or.inl ⟨by rfl, ?_⟩) ?_ ?_
                        rotate_left
                        · intro w'
                          go_simp
                          with_reducible rfl
                        rotate_left
                        · simp only [Act.put, List.setIfInBounds_toArray, List.set_cons_zero, List.set_cons_succ, i64_w, i32_w]
                          rfl
                        refine pure_ (i := 20) (N := some 64) (v := ?_) (a' := ?_) #[true, true, true, true, true, true, true, true, true, true, true, true, true, true, true, true, true, true, true, true, true, false, false, false, false, false, false, false, false, false, false] rfl rfl (any_of HT_.out (by kernel_rfl)) (fun _ _ _ h => h) (Or.inl ⟨by rfl, ?_⟩) ?_ ?_
                        rotate_left
                        · intro w'
                          go_simp
                          with_reducible rfl
                        rotate_left
                        · simp only [Act.put, List.setIfInBounds_toArray, List.set_cons_zero, List.set_cons_succ, i64_w, i32_w]
                          rfl
                        refine pure_ (i := 21) (N := some 65) (v := ?_) (a' := ?_) #[true, true, true, true, true, true, true, true, true, true, true, true, true, true, true, true, true, true, true, true, true, true, false, false, false, false, false, false, false, false, false] rfl rfl (any_of HT_.out (by kernel_rfl)) (fun _ _ _ h => h) (Or.inl ⟨by rfl, ?_⟩) ?_ ?_
                        rotate_left
                        · intro w'
                          go_simp
                          with_reducible rfl
                        rotate_left
                        · simp only [Act.put, List.setIfInBounds_toArray, List.set_cons_zero, List.set_cons_succ, i64_w, i32_w]
                          rfl
                        refine pure_ (i := 22) (N := some 66) (v := ?_) (a' := ?_) #[true, true, true, true, true, true, true, true, true, true, true, true, true, true, true, true, true, true, true, true, true, true, true, false, false, false, false, false, false, false, false] rfl rfl (any_of HT_.out (by kernel_rfl)) (fun _ _ _ h => h) (Or.inl ⟨by rfl, ?_⟩) ?_ ?_
                        rotate_left
                        · intro w'
                          go_simp
                          with_reducible rfl
                        rotate_left
                        · simp only [Act.put, List.setIfInBounds_toArray, List.set_cons_zero, List.set_cons_succ, i64_w, i32_w]
                          rfl
                        refine pure_ (i := 23) (N := some 67) (v := ?_) (a' := ?_) #[true, true, true, true, true, true, true, true, true, true, true, true, true, true, true, true, true, true, true, true, true, true, true, true, false, false, false, false, false, false, false] rfl rfl (any_of HT_.out (by kernel_rfl)) (fun _ _ _ h => h) (Or.inl ⟨by rfl, ?_⟩) ?_ ?_
                        rotate_left
                        · intro w'
                          go_simp
                          with_reducible rfl
                        rotate_left
                        · simp only [Act.put, List.setIfInBounds_toArray, List.set_cons_zero, List.set_cons_succ, i64_w, i32_w]
                          rfl
                        refine pure_ (i := 24) (N := some 68) (v := ?_) (a' := ?_) #[true, true, true, true, true, true, true, true, true, true, true, true, true, true, true, true, true, true, true, true, true, true, true, true, true, false, false, false, false, false, false] rfl rfl (any_of HT_.out (by kernel_rfl)) (fun _ _ _ h => h) (Or.inl ⟨by rfl, ?_⟩) ?_ ?_
                        rotate_left
                        · intro w'
                          go_simp
                          with_reducible rfl
                        rotate_left
                        · simp only [Act.put, List.setIfInBounds_toArray, List.set_cons_zero, List.set_cons_succ, i64_w, i32_w]
                          rfl
                        refine pure_ (i := 25) (N := some 69) (v := ?_) (a' := ?_) #[true, true, true, true, true, true, true, true, true, true, true, true, true, true, true, true, true, true, true, true, true, true, true, true, true, true, false, false, false, false, false] rfl rfl (any_of HT_.out (by kernel_rfl)) (fun _ _ _ h => h) (Or.inl ⟨by rfl, ?_⟩) ?_ ?_
                        rotate_left
                        · intro w'
                          go_simp
                          with_reducible rfl
                        rotate_left
                        · simp only [Act.put, List.setIfInBounds_toArray, List.set_cons_zero, List.set_cons_succ, i64_w, i32_w]
                          rfl
                        refine pure_ (i := 28) (N := some 72) (v := ?_) (a' := ?_) #[true, true, true, true, true, true, true, true, true, true, true, true, true, true, true, true, true, true, true, true, true, true, true, true, true, true, false, false, true, false, false] rfl rfl (any_of HT_.out (by kernel_rfl)) (fun _ _ _ h => h) (Or.inl ⟨by rfl, ?_⟩) ?_ ?_
                        rotate_left
                        · intro w'
                          go_simp
                          with_reducible rfl
                        rotate_left
                        · simp only [Act.put, List.setIfInBounds_toArray, List.set_cons_zero, List.set_cons_succ, i64_w, i32_w]
                          rfl
                        refine take_ (i := 26) (N := some 70) (v := ?_) (a' := ?_) #[true, true, true, true, true, true, true, true, true, true, true, true, true, true, true, true, true, true, true, true, true, true, true, true, true, true, true, false, true, false, false] rfl rfl (take_ofW HT_.out HW_.out (by kernel_rfl)) (fun _ _ _ h => h) (Or.inl ⟨by rfl, ?_⟩) hHeld ?_ ?_
                        rotate_left
                        · rintro w' ⟨s0, s1, s2, s3, s4, s5, s6, s7, s8, s9, s10, s11, s12, s13, s14, s15⟩
                          go_simp
                          with_reducible rfl
                        rotate_left
                        · simp only [Act.put, List.setIfInBounds_toArray, List.set_cons_zero, List.set_cons_succ, i64_w, i32_w]
                          rfl
                        refine one_ (i := 27) (N := some 71) #[true, true, true, true, true, true, true, true, true, true, true, true, true, true, true, true, true, true, true, true, true, true, true, true, true, true, true, true, true, false, false] rfl rfl (one_of HT_.out (by kernel_rfl)) (by decide) (fun K hK => ?_)
                        refine goes_ Try.func111 (by kernel_rfl) rfl #[.pointer (some adp0), .agg #[.int .i8 ((rd_T91 ((rd_T37 l0 0).f2) x3_2).f0.f0), .int .i8 ((rd_T91 ((rd_T37 l0 0).f2) x3_2).f0.f1)]] (by rfl) rfl rfl (by (try simp only [List.map_toArray, List.map_cons, List.map_nil]); first | done | rfl | (simp only [List.length_drop, List.length_take]; rfl)) ?_
                        with_reducible refine (spec_l01Find.calls k2 _ l0 ((rd_T91 ((rd_T37 l0 0).f2) x3_2).f0.f0) ((rd_T91 ((rd_T37 l0 0).f2) x3_2).f0.f1) t187 _ ?side1 A16.out).mono ?_
                        (case side1 => repeat (first | exact (Kd.C_below HR0.out HB.out) | (with_reducible refine Kd.C_alloc ?_ _) | (with_reducible refine Kd.C_drewN ?_ _) | (with_reducible refine Kd.C_drew ?_)))
                        rintro e w25 ⟨rfl, hb⟩
                        refine ⟨_, rfl, ?_⟩
                        have n0_ := Aside0.mk (below_step (by repeat (first | (with_reducible first | exact HB.out | apply below_alloc | apply pw_below_drewN | apply below_drew1) | exact HB.out)) hb)
                        clear HB
                        have HB := n0_
                        clear n0_
                        (try clear hb)
                        (try clear hb2)
                        (try clear hk)
                        (try clear hi)
                        refine hK.out _ _ ⟨((HB.out.cell (World.block_lt_of_cell? w _ hw182_0)).trans hw182_0), ((HB.out.cell (World.block_lt_of_cell? w _ hw182_1)).trans hw182_1), ((HB.out.cell (World.block_lt_of_cell? w _ hw182_2)).trans hw182_2), ((HB.out.cell (World.block_lt_of_cell? w _ hw182_3)).trans hw182_3), ((HB.out.cell (World.block_lt_of_cell? w _ hw182_4)).trans hw182_4), ((HB.out.cell (World.block_lt_of_cell? w _ hw183_0)).trans hw183_0), ((HB.out.cell (World.block_lt_of_cell? w _ hw183_1)).trans hw183_1), ((HB.out.cell (World.block_lt_of_cell? w _ hw183_2)).trans hw183_2), ((HB.out.cell (World.block_lt_of_cell? w _ hw184_0)).trans hw184_0), ((HB.out.cell (World.block_lt_of_cell? w _ hw184_1)).trans hw184_1), ((HB.out.cell (World.block_lt_of_cell? w _ hw184_2)).trans hw184_2), ((HB.out.cell (World.block_lt_of_cell? w _ hw186_0)).trans hw186_0), ((HB.out.cell (World.block_lt_of_cell? w _ hw186_1)).trans hw186_1), ((HB.out.cell (World.block_lt_of_cell? w _ hw186_2)).trans hw186_2), ((HB.out.cell (World.block_lt_of_cell? w _ hw186_3)).trans hw186_3), ((HB.out.cell (World.block_lt_of_cell? w _ hw186_4)).trans hw186_4)⟩ (fun hHeld => ?_)
                        clear hK K
                        refine norm_ (a' := ?_) ?_ ?_
                        rotate_left
                        · show Act.put _ (some 71) _ = _
                          simp only [Act.put, List.setIfInBounds_toArray, List.set_cons_zero, List.set_cons_succ, i64_w, i32_w]
                          rfl
                        refine pure_ (i := 29) (N := some 73) (v := ?_) (a' := ?_) #[true, true, true, true, true, true, true, true, true, true, true, true, true, true, true, true, true, true, true, true, true, true, true, true, true, true, true, true, true, true, false] rfl rfl (any_of HT_.out (by kernel_rfl)) (fun _ _ _ h => h) (Or.inl ⟨by rfl, ?_⟩) ?_ ?_
                        rotate_left
                        · intro w'
                          go_simp
                          with_reducible rfl
                        rotate_left
                        · simp only [Act.put, List.setIfInBounds_toArray, List.set_cons_zero, List.set_cons_succ, i64_w, i32_w]
                          rfl
                        refine pure_ (i := 30) (N := some 74) (v := ?_) (a' := ?_) #[true, true, true, true, true, true, true, true, true, true, true, true, true, true, true, true, true, true, true, true, true, true, true, true, true, true, true, true, true, true, true] rfl rfl (any_of HT_.out (by kernel_rfl)) (fun _ _ _ h => h) (Or.inl ⟨by rfl, ?_⟩) ?_ ?_
                        rotate_left
                        · intro w'
                          go_simp
                          with_reducible rfl
                        rotate_left
                        · simp only [Act.put, List.setIfInBounds_toArray, List.set_cons_zero, List.set_cons_succ, i64_w, i32_w]
                          rfl
                        refine done_ (done_of HT_.out (by kernel_rfl)) ?_
                        try go_wp2
                        go_ret
                        exact ⟨by first | rfl | (simp [errW_none, errW_some] <;> rfl) | (simp [*, errW_none, errW_some] <;> rfl), by repeat (first | (with_reducible first | exact HB.out | apply below_alloc | apply pw_below_drewN | apply below_drew1) | exact HB.out)⟩
                    · replace c15 := Bool.eq_false_iff.mpr c15
                      subst c15
                      have H1 : (some false) = some r := by rw [if_neg (show ¬ (false = true) by decide)] at H; exact H
                      clear H
                      have H := H1
                      clear H1
                      obtain rfl := Option.some.inj H
                      have p178 : 0 ≤ (0 : Int) := (by omega)
                      have q178 : 0 < (l0.length : Int) := of_decide_eq_true (by first | (with_reducible assumption) | assumption)
                      obtain ⟨ad178, A178_2, c178_2, e178, hx178_0, hx178_1, hx178_2, hl178_2, hi178_2⟩ := at_T37 HR0.out 0 p178 q178
                      obtain rfl : adp0 = ad178 := (by injection e178)
                      have qi178 : (0 < l0.length) = True := eq_true (by omega)
                      (try rw [show ((0 : Int)).toNat = 0 from rfl] at hx178_0)
                      (try rw [show 0 * 3 = 0 from rfl] at hx178_0)
                      (try rw [Addr.add_zero'] at hx178_0)
                      (try rw [show ((0 : Int)).toNat = 0 from rfl] at hx178_1)
                      (try rw [show 0 * 3 = 0 from rfl] at hx178_1)
                      (try rw [Addr.add_zero'] at hx178_1)
                      (try rw [show ((0 : Int)).toNat = 0 from rfl] at hx178_2)
                      (try rw [show 0 * 3 = 0 from rfl] at hx178_2)
                      (try rw [Addr.add_zero'] at hx178_2)
                      replace hx178_0 := (HB.out.cell (World.block_lt_of_cell? w _ hx178_0)).trans hx178_0
                      replace hx178_1 := (HB.out.cell (World.block_lt_of_cell? w _ hx178_1)).trans hx178_1
                      replace hx178_2 := (HB.out.cell (World.block_lt_of_cell? w _ hx178_2)).trans hx178_2
                      have HR178_2 := Aside0.mk hi178_2
                      have HC178_2 := Aside0.mk hl178_2
                      clear hi178_2 hl178_2
                      replace p178 := eq_true p178
                      replace q178 := eq_true q178
                      have p179 : 0 ≤ (0 : Int) := (by omega)
                      have q179 : 0 < (l0.length : Int) := of_decide_eq_true (by first | (with_reducible assumption) | assumption)
                      obtain ⟨ad179, A179_2, c179_2, e179, hx179_0, hx179_1, hx179_2, hl179_2, hi179_2⟩ := at_T37 HR0.out 0 p179 q179
                      obtain rfl : adp0 = ad179 := (by injection e179)
                      have qi179 : (0 < l0.length) = True := eq_true (by omega)
                      (try rw [show ((0 : Int)).toNat = 0 from rfl] at hx179_0)
                      (try rw [show 0 * 3 = 0 from rfl] at hx179_0)
                      (try rw [Addr.add_zero'] at hx179_0)
                      (try rw [show ((0 : Int)).toNat = 0 from rfl] at hx179_1)
                      (try rw [show 0 * 3 = 0 from rfl] at hx179_1)
                      (try rw [Addr.add_zero'] at hx179_1)
                      (try rw [show ((0 : Int)).toNat = 0 from rfl] at hx179_2)
                      (try rw [show 0 * 3 = 0 from rfl] at hx179_2)
                      (try rw [Addr.add_zero'] at hx179_2)
                      replace hx179_0 := (HB.out.cell (World.block_lt_of_cell? w _ hx179_0)).trans hx179_0
                      replace hx179_1 := (HB.out.cell (World.block_lt_of_cell? w _ hx179_1)).trans hx179_1
                      replace hx179_2 := (HB.out.cell (World.block_lt_of_cell? w _ hx179_2)).trans hx179_2
                      have HR179_2 := Aside0.mk hi179_2
                      have HC179_2 := Aside0.mk hl179_2
                      clear hi179_2 hl179_2
                      replace p179 := eq_true p179
                      replace q179 := eq_true q179
                      have ea_ := Option.some.inj (hx178_2.symm.trans hx179_2)
                      injection ea_ with ea_ en_ ec_
                      subst ea_
                      subst ec_
                      clear en_
                      have p180 : 0 ≤ (x3_2 : Int) := of_decide_eq_true (by first | (with_reducible assumption) | assumption)
                      have q180 : x3_2 < (((rd_T37 l0 0).f2).length : Int) := of_decide_eq_true (by first | (with_reducible assumption) | assumption)
                      obtain ⟨ad180, e180, hx180_0, hx180_1, hx180_2, hx180_3, hx180_4⟩ := at_T91 HR179_2.out x3_2 p180 q180
                      cases e180
                      replace hx180_0 := (HB.out.cell (World.block_lt_of_cell? w _ hx180_0)).trans hx180_0
                      replace hx180_1 := (HB.out.cell (World.block_lt_of_cell? w _ hx180_1)).trans hx180_1
                      replace hx180_2 := (HB.out.cell (World.block_lt_of_cell? w _ hx180_2)).trans hx180_2
                      replace hx180_3 := (HB.out.cell (World.block_lt_of_cell? w _ hx180_3)).trans hx180_3
                      replace hx180_4 := (HB.out.cell (World.block_lt_of_cell? w _ hx180_4)).trans hx180_4
                      replace p180 := eq_true p180
                      replace q180 := eq_true q180
                      try go_wp2
                      have n0_ := Aside0.mk (below_drew1 HB.out)
                      clear HB
                      have HB := n0_
                      clear n0_
                      have p182 : 0 ≤ (x3_2 : Int) := of_decide_eq_true (by first | (with_reducible assumption) | assumption)
                      have q182 : x3_2 < (((rd_T37 l0 0).f2).length : Int) := of_decide_eq_true (by first | (with_reducible assumption) | assumption)
                      obtain ⟨ad182, e182, hx182_0, hx182_1, hx182_2, hx182_3, hx182_4⟩ := at_T91 HR179_2.out x3_2 p182 q182
                      have hw182_4 := hx182_4
                      have hw182_3 := hx182_3
                      have hw182_2 := hx182_2
                      have hw182_1 := hx182_1
                      have hw182_0 := hx182_0
                      obtain rfl : ad180 = ad182 := (by injection e182)
                      replace hx182_0 := (HB.out.cell (World.block_lt_of_cell? w _ hx182_0)).trans hx182_0
                      replace hx182_1 := (HB.out.cell (World.block_lt_of_cell? w _ hx182_1)).trans hx182_1
                      replace hx182_2 := (HB.out.cell (World.block_lt_of_cell? w _ hx182_2)).trans hx182_2
                      replace hx182_3 := (HB.out.cell (World.block_lt_of_cell? w _ hx182_3)).trans hx182_3
                      replace hx182_4 := (HB.out.cell (World.block_lt_of_cell? w _ hx182_4)).trans hx182_4
                      replace p182 := eq_true p182
                      replace q182 := eq_true q182
                      have p183 : 0 ≤ (0 : Int) := (by omega)
                      have q183 : 0 < (l0.length : Int) := of_decide_eq_true (by first | (with_reducible assumption) | assumption)
                      obtain ⟨ad183, A183_2, c183_2, e183, hx183_0, hx183_1, hx183_2, hl183_2, hi183_2⟩ := at_T37 HR0.out 0 p183 q183
                      have hw183_2 := hx183_2
                      (try rw [show ((0 : Int)).toNat = 0 from rfl] at hw183_2)
                      (try rw [show 0 * 3 = 0 from rfl] at hw183_2)
                      (try rw [Addr.add_zero'] at hw183_2)
                      have hw183_1 := hx183_1
                      (try rw [show ((0 : Int)).toNat = 0 from rfl] at hw183_1)
                      (try rw [show 0 * 3 = 0 from rfl] at hw183_1)
                      (try rw [Addr.add_zero'] at hw183_1)
                      have hw183_0 := hx183_0
                      (try rw [show ((0 : Int)).toNat = 0 from rfl] at hw183_0)
                      (try rw [show 0 * 3 = 0 from rfl] at hw183_0)
                      (try rw [Addr.add_zero'] at hw183_0)
                      obtain rfl : adp0 = ad183 := (by injection e183)
                      have qi183 : (0 < l0.length) = True := eq_true (by omega)
                      (try rw [show ((0 : Int)).toNat = 0 from rfl] at hx183_0)
                      (try rw [show 0 * 3 = 0 from rfl] at hx183_0)
                      (try rw [Addr.add_zero'] at hx183_0)
                      (try rw [show ((0 : Int)).toNat = 0 from rfl] at hx183_1)
                      (try rw [show 0 * 3 = 0 from rfl] at hx183_1)
                      (try rw [Addr.add_zero'] at hx183_1)
                      (try rw [show ((0 : Int)).toNat = 0 from rfl] at hx183_2)
                      (try rw [show 0 * 3 = 0 from rfl] at hx183_2)
                      (try rw [Addr.add_zero'] at hx183_2)
                      replace hx183_0 := (HB.out.cell (World.block_lt_of_cell? w _ hx183_0)).trans hx183_0
                      replace hx183_1 := (HB.out.cell (World.block_lt_of_cell? w _ hx183_1)).trans hx183_1
                      replace hx183_2 := (HB.out.cell (World.block_lt_of_cell? w _ hx183_2)).trans hx183_2
                      have HR183_2 := Aside0.mk hi183_2
                      have HC183_2 := Aside0.mk hl183_2
                      clear hi183_2 hl183_2
                      replace p183 := eq_true p183
                      replace q183 := eq_true q183
                      have p184 : 0 ≤ (0 : Int) := (by omega)
                      have q184 : 0 < (l0.length : Int) := of_decide_eq_true (by first | (with_reducible assumption) | assumption)
                      obtain ⟨ad184, A184_2, c184_2, e184, hx184_0, hx184_1, hx184_2, hl184_2, hi184_2⟩ := at_T37 HR0.out 0 p184 q184
                      have hw184_2 := hx184_2
                      (try rw [show ((0 : Int)).toNat = 0 from rfl] at hw184_2)
                      (try rw [show 0 * 3 = 0 from rfl] at hw184_2)
                      (try rw [Addr.add_zero'] at hw184_2)
                      have hw184_1 := hx184_1
                      (try rw [show ((0 : Int)).toNat = 0 from rfl] at hw184_1)
                      (try rw [show 0 * 3 = 0 from rfl] at hw184_1)
                      (try rw [Addr.add_zero'] at hw184_1)
                      have hw184_0 := hx184_0
                      (try rw [show ((0 : Int)).toNat = 0 from rfl] at hw184_0)
                      (try rw [show 0 * 3 = 0 from rfl] at hw184_0)
                      (try rw [Addr.add_zero'] at hw184_0)
                      obtain rfl : adp0 = ad184 := (by injection e184)
                      have qi184 : (0 < l0.length) = True := eq_true (by omega)
                      (try rw [show ((0 : Int)).toNat = 0 from rfl] at hx184_0)
                      (try rw [show 0 * 3 = 0 from rfl] at hx184_0)
                      (try rw [Addr.add_zero'] at hx184_0)
                      (try rw [show ((0 : Int)).toNat = 0 from rfl] at hx184_1)
                      (try rw [show 0 * 3 = 0 from rfl] at hx184_1)
                      (try rw [Addr.add_zero'] at hx184_1)
                      (try rw [show ((0 : Int)).toNat = 0 from rfl] at hx184_2)
                      (try rw [show 0 * 3 = 0 from rfl] at hx184_2)
                      (try rw [Addr.add_zero'] at hx184_2)
                      replace hx184_0 := (HB.out.cell (World.block_lt_of_cell? w _ hx184_0)).trans hx184_0
                      replace hx184_1 := (HB.out.cell (World.block_lt_of_cell? w _ hx184_1)).trans hx184_1
                      replace hx184_2 := (HB.out.cell (World.block_lt_of_cell? w _ hx184_2)).trans hx184_2
                      have HR184_2 := Aside0.mk hi184_2
                      have HC184_2 := Aside0.mk hl184_2
                      clear hi184_2 hl184_2
                      replace p184 := eq_true p184
                      replace q184 := eq_true q184
                      have ea_ := Option.some.inj (hx183_2.symm.trans hx184_2)
                      injection ea_ with ea_ en_ ec_
                      subst ea_
                      subst ec_
                      clear en_
                      refine start_ (n := 31) (S := fun w' => w'.cell? (ad180.add ((x3_2).toNat * 5)) = some (.int .i8 ((rd_T91 ((rd_T37 l0 0).f2) x3_2).f0.f0)) ∧ w'.cell? ⟨(ad180.add ((x3_2).toNat * 5)).block, (ad180.add ((x3_2).toNat * 5)).off + 1, none⟩ = some (.int .i8 ((rd_T91 ((rd_T37 l0 0).f2) x3_2).f0.f1)) ∧ w'.cell? ⟨(ad180.add ((x3_2).toNat * 5)).block, (ad180.add ((x3_2).toNat * 5)).off + 2, none⟩ = some (.int .i8 ((rd_T91 ((rd_T37 l0 0).f2) x3_2).f1)) ∧ w'.cell? ⟨(ad180.add ((x3_2).toNat * 5)).block, (ad180.add ((x3_2).toNat * 5)).off + 3, none⟩ = some (.int .i8 ((rd_T91 ((rd_T37 l0 0).f2) x3_2).f2)) ∧ w'.cell? ⟨(ad180.add ((x3_2).toNat * 5)).block, (ad180.add ((x3_2).toNat * 5)).off + 4, none⟩ = some (.int .i8 ((rd_T91 ((rd_T37 l0 0).f2) x3_2).f3)) ∧ w'.cell? adp0 = some (.int .i8 ((rd_T37 l0 0).f0)) ∧ w'.cell? ⟨adp0.block, adp0.off + 1, none⟩ = some (.int .i8 ((rd_T37 l0 0).f1)) ∧ w'.cell? ⟨adp0.block, adp0.off + 2, none⟩ = some (.slice A183_2 ((rd_T37 l0 0).f2).length c183_2) ∧ w'.cell? adp0 = some (.int .i8 ((rd_T37 l0 0).f0)) ∧ w'.cell? ⟨adp0.block, adp0.off + 1, none⟩ = some (.int .i8 ((rd_T37 l0 0).f1)) ∧ w'.cell? ⟨adp0.block, adp0.off + 2, none⟩ = some (.slice A183_2 ((rd_T37 l0 0).f2).length c183_2)) (ds := []) #[false, false, false, false, false, false, false, false, false, false, false, false, false, false, false, false, false, false, false, false, false, false, false, false, false, false, false, false, false, false, false] (by kernel_rfl) rfl rfl ⟨((HB.out.cell (World.block_lt_of_cell? w _ hw182_0)).trans hw182_0), ((HB.out.cell (World.block_lt_of_cell? w _ hw182_1)).trans hw182_1), ((HB.out.cell (World.block_lt_of_cell? w _ hw182_2)).trans hw182_2), ((HB.out.cell (World.block_lt_of_cell? w _ hw182_3)).trans hw182_3), ((HB.out.cell (World.block_lt_of_cell? w _ hw182_4)).trans hw182_4), ((HB.out.cell (World.block_lt_of_cell? w _ hw183_0)).trans hw183_0), ((HB.out.cell (World.block_lt_of_cell? w _ hw183_1)).trans hw183_1), ((HB.out.cell (World.block_lt_of_cell? w _ hw183_2)).trans hw183_2), ((HB.out.cell (World.block_lt_of_cell? w _ hw184_0)).trans hw184_0), ((HB.out.cell (World.block_lt_of_cell? w _ hw184_1)).trans hw184_1), ((HB.out.cell (World.block_lt_of_cell? w _ hw184_2)).trans hw184_2)⟩ (fun hHeld => ?_); refine with_tabW spec_l01Ok.tab7 spec_l01Ok.bits7 (fun HT_ HW_ => ?_)
                      generalize wr.drew = w26 at HB HR183_2 HR184_2 hx182_0 hx182_1 hx182_2 hx182_3 hx182_4 hx183_0 hx183_1 hx183_2 hx184_0 hx184_1 hx184_2 hHeld ⊢
                      refine pure_ (i := 0) (N := some 44) (v := ?_) (a' := ?_) #[true, false, false, false, false, false, false, false, false, false, false, false, false, false, false, false, false, false, false, false, false, false, false, false, false, false, false, false, false, false, false] rfl rfl (any_of HT_.out (by kernel_rfl)) (fun _ _ _ h => h) (Or.inl ⟨by rfl, ?_⟩) ?_ ?_
                      rotate_left
                      · intro w'
                        go_simp
                        with_reducible rfl
                      rotate_left
                      · simp only [Act.put, List.setIfInBounds_toArray, List.set_cons_zero, List.set_cons_succ, i64_w, i32_w]
                        rfl
                      refine one_ (i := 1) (N := some 45) #[true, true, false, false, false, false, false, false, false, false, false, false, false, false, false, false, false, false, false, false, false, false, false, false, false, false, false, false, false, false, false] rfl rfl (one_of HT_.out (by kernel_rfl)) (by decide) (fun K hK => ?_)
                      refine goes_ Try.func132 (by kernel_rfl) rfl #[.pointer (some (ad180.add (x3_2.toNat * 5)))] (by rfl) rfl rfl (by (try simp only [List.map_toArray, List.map_cons, List.map_nil]); first | done | rfl | (simp only [List.length_drop, List.length_take]; rfl)) ?_
                      with_reducible refine (spec_l01Piece.calls _ [rd_T91 ((rd_T37 l0 0).f2) x3_2] true _ ?side1 A12.out).mono ?_
                      (case side1 => refine ro_of_elem (d := k91) z91 x3_2 (by first | exact of_eq_true p180 | omega) (by first | exact of_eq_true q180 | omega) ?_; repeat (first | exact (Kd.C_below HR179_2.out HB.out) | (with_reducible refine Kd.C_alloc ?_ _) | (with_reducible refine Kd.C_drewN ?_ _) | (with_reducible refine Kd.C_drew ?_)))
                      rintro e w27 ⟨rfl, hb⟩
                      refine ⟨_, rfl, ?_⟩
                      have n0_ := Aside0.mk (below_step (by repeat (first | (with_reducible first | exact HB.out | apply below_alloc | apply pw_below_drewN | apply below_drew1) | exact HB.out)) hb)
                      clear HB
                      have HB := n0_
                      clear n0_
                      (try clear hb)
                      (try clear hb2)
                      (try clear hk)
                      (try clear hi)
                      refine hK.out _ _ ⟨((HB.out.cell (World.block_lt_of_cell? w _ hw182_0)).trans hw182_0), ((HB.out.cell (World.block_lt_of_cell? w _ hw182_1)).trans hw182_1), ((HB.out.cell (World.block_lt_of_cell? w _ hw182_2)).trans hw182_2), ((HB.out.cell (World.block_lt_of_cell? w _ hw182_3)).trans hw182_3), ((HB.out.cell (World.block_lt_of_cell? w _ hw182_4)).trans hw182_4), ((HB.out.cell (World.block_lt_of_cell? w _ hw183_0)).trans hw183_0), ((HB.out.cell (World.block_lt_of_cell? w _ hw183_1)).trans hw183_1), ((HB.out.cell (World.block_lt_of_cell? w _ hw183_2)).trans hw183_2), ((HB.out.cell (World.block_lt_of_cell? w _ hw184_0)).trans hw184_0), ((HB.out.cell (World.block_lt_of_cell? w _ hw184_1)).trans hw184_1), ((HB.out.cell (World.block_lt_of_cell? w _ hw184_2)).trans hw184_2)⟩ (fun hHeld => ?_)
                      clear hK K
                      refine norm_ (a' := ?_) ?_ ?_
                      rotate_left
                      · show Act.put _ (some 45) _ = _
                        simp only [Act.put, List.setIfInBounds_toArray, List.set_cons_zero, List.set_cons_succ, i64_w, i32_w]
                        rfl
                      refine pure_ (i := 2) (N := some 46) (v := ?_) (a' := ?_) #[true, true, true, false, false, false, false, false, false, false, false, false, false, false, false, false, false, false, false, false, false, false, false, false, false, false, false, false, false, false, false] rfl rfl (any_of HT_.out (by kernel_rfl)) (fun _ _ _ h => h) (Or.inl ⟨by rfl, ?_⟩) ?_ ?_
                      rotate_left
                      · intro w'
                        go_simp
                        with_reducible rfl
                      rotate_left
                      · simp only [Act.put, List.setIfInBounds_toArray, List.set_cons_zero, List.set_cons_succ, i64_w, i32_w]
                        rfl
                      refine pure_ (i := 3) (N := some 47) (v := ?_) (a' := ?_) #[true, true, true, true, false, false, false, false, false, false, false, false, false, false, false, false, false, false, false, false, false, false, false, false, false, false, false, false, false, false, false] rfl rfl (any_of HT_.out (by kernel_rfl)) (fun _ _ _ h => h) (Or.inl ⟨by rfl, ?_⟩) ?_ ?_
                      rotate_left
                      · intro w'
                        go_simp
                        with_reducible rfl
                      rotate_left
                      · simp only [Act.put, List.setIfInBounds_toArray, List.set_cons_zero, List.set_cons_succ, i64_w, i32_w]
                        rfl
                      refine pure_ (i := 4) (N := some 48) (v := ?_) (a' := ?_) #[true, true, true, true, true, false, false, false, false, false, false, false, false, false, false, false, false, false, false, false, false, false, false, false, false, false, false, false, false, false, false] rfl rfl (any_of HT_.out (by kernel_rfl)) (fun _ _ _ h => h) (Or.inl ⟨by rfl, ?_⟩) ?_ ?_
                      rotate_left
                      · intro w'
                        go_simp
                        with_reducible rfl
                      rotate_left
                      · simp only [Act.put, List.setIfInBounds_toArray, List.set_cons_zero, List.set_cons_succ, i64_w, i32_w]
                        rfl
                      refine pure_ (i := 5) (N := some 49) (v := ?_) (a' := ?_) #[true, true, true, true, true, true, false, false, false, false, false, false, false, false, false, false, false, false, false, false, false, false, false, false, false, false, false, false, false, false, false] rfl rfl (any_of HT_.out (by kernel_rfl)) (fun _ _ _ h => h) (Or.inl ⟨by rfl, ?_⟩) ?_ ?_
                      rotate_left
                      · intro w'
                        go_simp
                        with_reducible rfl
                      rotate_left
                      · simp only [Act.put, List.setIfInBounds_toArray, List.set_cons_zero, List.set_cons_succ, i64_w, i32_w]
                        rfl
                      refine pure_ (i := 6) (N := some 50) (v := ?_) (a' := ?_) #[true, true, true, true, true, true, true, false, false, false, false, false, false, false, false, false, false, false, false, false, false, false, false, false, false, false, false, false, false, false, false] rfl rfl (any_of HT_.out (by kernel_rfl)) (fun _ _ _ h => h) (Or.inl ⟨by rfl, ?_⟩) ?_ ?_
                      rotate_left
                      · intro w'
                        go_simp
                        with_reducible rfl
                      rotate_left
                      · simp only [Act.put, List.setIfInBounds_toArray, List.set_cons_zero, List.set_cons_succ, i64_w, i32_w]
                        rfl
                      refine pure_ (i := 8) (N := some 52) (v := ?_) (a' := ?_) #[true, true, true, true, true, true, true, false, true, false, false, false, false, false, false, false, false, false, false, false, false, false, false, false, false, false, false, false, false, false, false] rfl rfl (any_of HT_.out (by kernel_rfl)) (fun _ _ _ h => h) (Or.inl ⟨by rfl, ?_⟩) ?_ ?_
                      rotate_left
                      · intro w'
                        go_simp
                        with_reducible rfl
                      rotate_left
                      · simp only [Act.put, List.setIfInBounds_toArray, List.set_cons_zero, List.set_cons_succ, i64_w, i32_w]
                        rfl
                      refine pure_ (i := 9) (N := some 53) (v := ?_) (a' := ?_) #[true, true, true, true, true, true, true, false, true, true, false, false, false, false, false, false, false, false, false, false, false, false, false, false, false, false, false, false, false, false, false] rfl rfl (any_of HT_.out (by kernel_rfl)) (fun _ _ _ h => h) (Or.inl ⟨by rfl, ?_⟩) ?_ ?_
                      rotate_left
                      · intro w'
                        go_simp
                        with_reducible rfl
                      rotate_left
                      · simp only [Act.put, List.setIfInBounds_toArray, List.set_cons_zero, List.set_cons_succ, i64_w, i32_w]
                        rfl
                      refine pure_ (i := 10) (N := some 54) (v := ?_) (a' := ?_) #[true, true, true, true, true, true, true, false, true, true, true, false, false, false, false, false, false, false, false, false, false, false, false, false, false, false, false, false, false, false, false] rfl rfl (any_of HT_.out (by kernel_rfl)) (fun _ _ _ h => h) (Or.inl ⟨by rfl, ?_⟩) ?_ ?_
                      rotate_left
                      · intro w'
                        go_simp
                        with_reducible rfl
                      rotate_left
                      · simp only [Act.put, List.setIfInBounds_toArray, List.set_cons_zero, List.set_cons_succ, i64_w, i32_w]
                        rfl
                      refine pure_ (i := 13) (N := some 57) (v := ?_) (a' := ?_) #[true, true, true, true, true, true, true, false, true, true, true, false, false, true, false, false, false, false, false, false, false, false, false, false, false, false, false, false, false, false, false] rfl rfl (any_of HT_.out (by kernel_rfl)) (fun _ _ _ h => h) (Or.inl ⟨by rfl, ?_⟩) ?_ ?_
                      rotate_left
                      · intro w'
                        go_simp
                        with_reducible rfl
                      rotate_left
                      · simp only [Act.put, List.setIfInBounds_toArray, List.set_cons_zero, List.set_cons_succ, i64_w, i32_w]
                        rfl
                      refine pure_ (i := 14) (N := some 58) (v := ?_) (a' := ?_) #[true, true, true, true, true, true, true, false, true, true, true, false, false, true, true, false, false, false, false, false, false, false, false, false, false, false, false, false, false, false, false] rfl rfl (any_of HT_.out (by kernel_rfl)) (fun _ _ _ h => h) (Or.inl ⟨by rfl, ?_⟩) ?_ ?_
                      rotate_left
                      · intro w'
                        go_simp
                        with_reducible rfl
                      rotate_left
                      · simp only [Act.put, List.setIfInBounds_toArray, List.set_cons_zero, List.set_cons_succ, i64_w, i32_w]
                        rfl
                      refine pure_ (i := 15) (N := some 59) (v := ?_) (a' := ?_) #[true, true, true, true, true, true, true, false, true, true, true, false, false, true, true, true, false, false, false, false, false, false, false, false, false, false, false, false, false, false, false] rfl rfl (any_of HT_.out (by kernel_rfl)) (fun _ _ _ h => h) (Or.inl ⟨by rfl, ?_⟩) ?_ ?_
                      rotate_left
                      · intro w'
                        go_simp
                        with_reducible rfl
                      rotate_left
                      · simp only [Act.put, List.setIfInBounds_toArray, List.set_cons_zero, List.set_cons_succ, i64_w, i32_w]
                        rfl
                      refine take_ (i := 7) (N := some 51) (v := ?_) (a' := ?_) #[true, true, true, true, true, true, true, true, true, true, true, false, false, true, true, true, false, false, false, false, false, false, false, false, false, false, false, false, false, false, false] rfl rfl (take_ofW HT_.out HW_.out (by kernel_rfl)) (fun _ _ _ h => h) (Or.inl ⟨by rfl, ?_⟩) hHeld ?_ ?_
                      rotate_left
                      · rintro w' ⟨s0, s1, s2, s3, s4, s5, s6, s7, s8, s9, s10⟩
                        go_simp
                        with_reducible rfl
                      rotate_left
                      · simp only [Act.put, List.setIfInBounds_toArray, List.set_cons_zero, List.set_cons_succ, i64_w, i32_w]
                        rfl
                      refine take_ (i := 11) (N := some 55) (v := ?_) (a' := ?_) #[true, true, true, true, true, true, true, true, true, true, true, true, false, true, true, true, false, false, false, false, false, false, false, false, false, false, false, false, false, false, false] rfl rfl (take_ofW HT_.out HW_.out (by kernel_rfl)) (fun _ _ _ h => h) (Or.inl ⟨by rfl, ?_⟩) hHeld ?_ ?_
                      rotate_left
                      · rintro w' ⟨s0, s1, s2, s3, s4, s5, s6, s7, s8, s9, s10⟩
                        go_simp
                        with_reducible rfl
                      rotate_left
                      · simp only [Act.put, List.setIfInBounds_toArray, List.set_cons_zero, List.set_cons_succ, i64_w, i32_w]
                        rfl
                      refine pure_ (i := 12) (N := some 56) (v := ?_) (a' := ?_) #[true, true, true, true, true, true, true, true, true, true, true, true, true, true, true, true, false, false, false, false, false, false, false, false, false, false, false, false, false, false, false] rfl rfl (any_of HT_.out (by kernel_rfl)) (fun _ _ _ h => h) (Or.inl ⟨by rfl, ?_⟩) ?_ ?_
                      rotate_left
                      · intro w'
                        go_simp
                        with_reducible rfl
                      rotate_left
                      · simp only [Act.put, List.setIfInBounds_toArray, List.set_cons_zero, List.set_cons_succ, i64_w, i32_w]
                        rfl
                      refine take_ (i := 16) (N := some 60) (v := ?_) (a' := ?_) #[true, true, true, true, true, true, true, true, true, true, true, true, true, true, true, true, true, false, false, false, false, false, false, false, false, false, false, false, false, false, false] rfl rfl (take_ofW HT_.out HW_.out (by kernel_rfl)) (fun _ _ _ h => h) (Or.inl ⟨by rfl, ?_⟩) hHeld ?_ ?_
                      rotate_left
                      · rintro w' ⟨s0, s1, s2, s3, s4, s5, s6, s7, s8, s9, s10⟩
                        go_simp
                        with_reducible rfl
                      rotate_left
                      · simp only [Act.put, List.setIfInBounds_toArray, List.set_cons_zero, List.set_cons_succ, i64_w, i32_w]
                        rfl
                      refine pure_ (i := 17) (N := some 61) (v := ?_) (a' := ?_) #[true, true, true, true, true, true, true, true, true, true, true, true, true, true, true, true, true, true, false, false, false, false, false, false, false, false, false, false, false, false, false] rfl rfl (any_of HT_.out (by kernel_rfl)) (fun _ _ _ h => h) (Or.inl ⟨by rfl, ?_⟩) ?_ ?_
                      rotate_left
                      · intro w'
                        go_simp
                        with_reducible rfl
                      rotate_left
                      · simp only [Act.put, List.setIfInBounds_toArray, List.set_cons_zero, List.set_cons_succ, i64_w, i32_w]
                        rfl
                      refine one_ (i := 18) (N := some 62) #[true, true, true, true, true, true, true, true, true, true, true, true, true, true, true, true, true, true, true, false, false, false, false, false, false, false, false, false, false, false, false] rfl rfl (one_of HT_.out (by kernel_rfl)) (by decide) (fun K hK => ?_)
                      refine goes_ Try.func133 (by kernel_rfl) rfl #[.agg #[.int .i8 ((rd_T91 ((rd_T37 l0 0).f2) x3_2).f0.f0), .int .i8 ((rd_T91 ((rd_T37 l0 0).f2) x3_2).f0.f1)], .int .i64 (wrap64 ((rd_T37 l0 0).f0)), .int .i64 (wrap64 ((rd_T37 l0 0).f1))] (by rfl) rfl rfl (by (try simp only [List.map_toArray, List.map_cons, List.map_nil]); first | done | rfl | (simp only [List.length_drop, List.length_take]; rfl)) ?_
                      with_reducible refine (spec_l01In.calls ((rd_T91 ((rd_T37 l0 0).f2) x3_2).f0.f0) ((rd_T91 ((rd_T37 l0 0).f2) x3_2).f0.f1) (wrap64 ((rd_T37 l0 0).f0)) (wrap64 ((rd_T37 l0 0).f1)) false _ A14.out).mono ?_
                      rintro e w28 ⟨rfl, hb⟩
                      refine ⟨_, rfl, ?_⟩
                      have n0_ := Aside0.mk (below_step (by repeat (first | (with_reducible first | exact HB.out | apply below_alloc | apply pw_below_drewN | apply below_drew1) | exact HB.out)) hb)
                      clear HB
                      have HB := n0_
                      clear n0_
                      (try clear hb)
                      (try clear hb2)
                      (try clear hk)
                      (try clear hi)
                      refine hK.out _ _ ⟨((HB.out.cell (World.block_lt_of_cell? w _ hw182_0)).trans hw182_0), ((HB.out.cell (World.block_lt_of_cell? w _ hw182_1)).trans hw182_1), ((HB.out.cell (World.block_lt_of_cell? w _ hw182_2)).trans hw182_2), ((HB.out.cell (World.block_lt_of_cell? w _ hw182_3)).trans hw182_3), ((HB.out.cell (World.block_lt_of_cell? w _ hw182_4)).trans hw182_4), ((HB.out.cell (World.block_lt_of_cell? w _ hw183_0)).trans hw183_0), ((HB.out.cell (World.block_lt_of_cell? w _ hw183_1)).trans hw183_1), ((HB.out.cell (World.block_lt_of_cell? w _ hw183_2)).trans hw183_2), ((HB.out.cell (World.block_lt_of_cell? w _ hw184_0)).trans hw184_0), ((HB.out.cell (World.block_lt_of_cell? w _ hw184_1)).trans hw184_1), ((HB.out.cell (World.block_lt_of_cell? w _ hw184_2)).trans hw184_2)⟩ (fun hHeld => ?_)
                      clear hK K
                      refine norm_ (a' := ?_) ?_ ?_
                      rotate_left
                      · show Act.put _ (some 62) _ = _
                        simp only [Act.put, List.setIfInBounds_toArray, List.set_cons_zero, List.set_cons_succ, i64_w, i32_w]
                        rfl
                      refine pure_ (i := 19) (N := some 63) (v := ?_) (a' := ?_) #[true, true, true, true, true, true, true, true, true, true, true, true, true, true, true, true, true, true, true, true, false, false, false, false, false, false, false, false, false, false, false] rfl rfl (any_of HT_.out (by kernel_rfl)) (fun _ _ _ h => h) (Or.inl ⟨by rfl, ?_⟩) ?_ ?_
                      rotate_left
                      · intro w'
                        go_simp
                        with_reducible rfl
                      rotate_left
                      · simp only [Act.put, List.setIfInBounds_toArray, List.set_cons_zero, List.set_cons_succ, i64_w, i32_w]
                        rfl
                      refine pure_ (i := 20) (N := some 64) (v := ?_) (a' := ?_) #[true, true, true, true, true, true, true, true, true, true, true, true, true, true, true, true, true, true, true, true, true, false, false, false, false, false, false, false, false, false, false] rfl rfl (any_of HT_.out (by kernel_rfl)) (fun _ _ _ h => h) (Or.inl ⟨by rfl, ?_⟩) ?_ ?_
                      rotate_left
                      · intro w'
                        go_simp
                        with_reducible rfl
                      rotate_left
                      · simp only [Act.put, List.setIfInBounds_toArray, List.set_cons_zero, List.set_cons_succ, i64_w, i32_w]
                        rfl
                      refine pure_ (i := 21) (N := some 65) (v := ?_) (a' := ?_) #[true, true, true, true, true, true, true, true, true, true, true, true, true, true, true, true, true, true, true, true, true, true, false, false, false, false, false, false, false, false, false] rfl rfl (any_of HT_.out (by kernel_rfl)) (fun _ _ _ h => h) (Or.inl ⟨by rfl, ?_⟩) ?_ ?_
                      rotate_left
                      · intro w'
                        go_simp
                        with_reducible rfl
                      rotate_left
                      · simp only [Act.put, List.setIfInBounds_toArray, List.set_cons_zero, List.set_cons_succ, i64_w, i32_w]
                        rfl
                      refine pure_ (i := 22) (N := some 66) (v := undef) (a' := ?_) #[true, true, true, true, true, true, true, true, true, true, true, true, true, true, true, true, true, true, true, true, true, true, true, false, false, false, false, false, false, false, false] rfl rfl (any_of HT_.out (by kernel_rfl)) (fun _ _ _ h => h) (Or.inr ⟨by rfl, rfl⟩) ?_ ?_
                      rotate_left
                      · simp only [Act.put, List.setIfInBounds_toArray, List.set_cons_zero, List.set_cons_succ, i64_w, i32_w]
                        rfl
                      refine pure_ (i := 23) (N := some 67) (v := undef) (a' := ?_) #[true, true, true, true, true, true, true, true, true, true, true, true, true, true, true, true, true, true, true, true, true, true, true, true, false, false, false, false, false, false, false] rfl rfl (any_of HT_.out (by kernel_rfl)) (fun _ _ _ h => h) (Or.inr ⟨by rfl, rfl⟩) ?_ ?_
                      rotate_left
                      · simp only [Act.put, List.setIfInBounds_toArray, List.set_cons_zero, List.set_cons_succ, i64_w, i32_w]
                        rfl
                      refine pure_ (i := 24) (N := some 68) (v := undef) (a' := ?_) #[true, true, true, true, true, true, true, true, true, true, true, true, true, true, true, true, true, true, true, true, true, true, true, true, true, false, false, false, false, false, false] rfl rfl (any_of HT_.out (by kernel_rfl)) (fun _ _ _ h => h) (Or.inr ⟨by rfl, rfl⟩) ?_ ?_
                      rotate_left
                      · simp only [Act.put, List.setIfInBounds_toArray, List.set_cons_zero, List.set_cons_succ, i64_w, i32_w]
                        rfl
                      refine pure_ (i := 25) (N := some 69) (v := undef) (a' := ?_) #[true, true, true, true, true, true, true, true, true, true, true, true, true, true, true, true, true, true, true, true, true, true, true, true, true, true, false, false, false, false, false] rfl rfl (any_of HT_.out (by kernel_rfl)) (fun _ _ _ h => h) (Or.inr ⟨by rfl, rfl⟩) ?_ ?_
                      rotate_left
                      · simp only [Act.put, List.setIfInBounds_toArray, List.set_cons_zero, List.set_cons_succ, i64_w, i32_w]
                        rfl
                      refine pure_ (i := 26) (N := some 70) (v := undef) (a' := ?_) #[true, true, true, true, true, true, true, true, true, true, true, true, true, true, true, true, true, true, true, true, true, true, true, true, true, true, true, false, false, false, false] rfl rfl (any_of HT_.out (by kernel_rfl)) (fun _ _ _ h => h) (Or.inr ⟨by rfl, rfl⟩) ?_ ?_
                      rotate_left
                      · simp only [Act.put, List.setIfInBounds_toArray, List.set_cons_zero, List.set_cons_succ, i64_w, i32_w]
                        rfl
                      refine pure_ (i := 27) (N := some 71) (v := undef) (a' := ?_) #[true, true, true, true, true, true, true, true, true, true, true, true, true, true, true, true, true, true, true, true, true, true, true, true, true, true, true, true, false, false, false] rfl rfl (any_of HT_.out (by kernel_rfl)) (fun _ _ _ h => h) (Or.inr ⟨by rfl, rfl⟩) ?_ ?_
                      rotate_left
                      · simp only [Act.put, List.setIfInBounds_toArray, List.set_cons_zero, List.set_cons_succ, i64_w, i32_w]
                        rfl
                      refine pure_ (i := 28) (N := some 72) (v := undef) (a' := ?_) #[true, true, true, true, true, true, true, true, true, true, true, true, true, true, true, true, true, true, true, true, true, true, true, true, true, true, true, true, true, false, false] rfl rfl (any_of HT_.out (by kernel_rfl)) (fun _ _ _ h => h) (Or.inr ⟨by rfl, rfl⟩) ?_ ?_
                      rotate_left
                      · simp only [Act.put, List.setIfInBounds_toArray, List.set_cons_zero, List.set_cons_succ, i64_w, i32_w]
                        rfl
                      refine pure_ (i := 29) (N := some 73) (v := undef) (a' := ?_) #[true, true, true, true, true, true, true, true, true, true, true, true, true, true, true, true, true, true, true, true, true, true, true, true, true, true, true, true, true, true, false] rfl rfl (any_of HT_.out (by kernel_rfl)) (fun _ _ _ h => h) (Or.inr ⟨by rfl, rfl⟩) ?_ ?_
                      rotate_left
                      · simp only [Act.put, List.setIfInBounds_toArray, List.set_cons_zero, List.set_cons_succ, i64_w, i32_w]
                        rfl
                      refine pure_ (i := 30) (N := some 74) (v := ?_) (a' := ?_) #[true, true, true, true, true, true, true, true, true, true, true, true, true, true, true, true, true, true, true, true, true, true, true, true, true, true, true, true, true, true, true] rfl rfl (any_of HT_.out (by kernel_rfl)) (fun _ _ _ h => h) (Or.inl ⟨by rfl, ?_⟩) ?_ ?_
                      rotate_left
                      · intro w'
                        go_simp
                        with_reducible rfl
                      rotate_left
                      · simp only [Act.put, List.setIfInBounds_toArray, List.set_cons_zero, List.set_cons_succ, i64_w, i32_w]
                        rfl
                      refine done_ (done_of HT_.out (by kernel_rfl)) ?_
                      try go_wp2
                      go_ret
                      exact ⟨by first | rfl | (simp [errW_none, errW_some] <;> rfl) | (simp [*, errW_none, errW_some] <;> rfl), by repeat (first | (with_reducible first | exact HB.out | apply below_alloc | apply pw_below_drewN | apply below_drew1) | exact HB.out)⟩
                  · replace c13 := Bool.eq_false_iff.mpr c13
                    subst c13
                    have H1 : (some false) = some r := by rw [if_neg (show ¬ (false = true) by decide)] at H; exact H
                    clear H
                    have H := H1
                    clear H1
                    obtain rfl := Option.some.inj H
                    have p178 : 0 ≤ (0 : Int) := (by omega)
                    have q178 : 0 < (l0.length : Int) := of_decide_eq_true (by first | (with_reducible assumption) | assumption)
                    obtain ⟨ad178, A178_2, c178_2, e178, hx178_0, hx178_1, hx178_2, hl178_2, hi178_2⟩ := at_T37 HR0.out 0 p178 q178
                    obtain rfl : adp0 = ad178 := (by injection e178)
                    have qi178 : (0 < l0.length) = True := eq_true (by omega)
                    (try rw [show ((0 : Int)).toNat = 0 from rfl] at hx178_0)
                    (try rw [show 0 * 3 = 0 from rfl] at hx178_0)
                    (try rw [Addr.add_zero'] at hx178_0)
                    (try rw [show ((0 : Int)).toNat = 0 from rfl] at hx178_1)
                    (try rw [show 0 * 3 = 0 from rfl] at hx178_1)
                    (try rw [Addr.add_zero'] at hx178_1)
                    (try rw [show ((0 : Int)).toNat = 0 from rfl] at hx178_2)
                    (try rw [show 0 * 3 = 0 from rfl] at hx178_2)
                    (try rw [Addr.add_zero'] at hx178_2)
                    replace hx178_0 := (HB.out.cell (World.block_lt_of_cell? w _ hx178_0)).trans hx178_0
                    replace hx178_1 := (HB.out.cell (World.block_lt_of_cell? w _ hx178_1)).trans hx178_1
                    replace hx178_2 := (HB.out.cell (World.block_lt_of_cell? w _ hx178_2)).trans hx178_2
                    have HR178_2 := Aside0.mk hi178_2
                    have HC178_2 := Aside0.mk hl178_2
                    clear hi178_2 hl178_2
                    replace p178 := eq_true p178
                    replace q178 := eq_true q178
                    have p179 : 0 ≤ (0 : Int) := (by omega)
                    have q179 : 0 < (l0.length : Int) := of_decide_eq_true (by first | (with_reducible assumption) | assumption)
                    obtain ⟨ad179, A179_2, c179_2, e179, hx179_0, hx179_1, hx179_2, hl179_2, hi179_2⟩ := at_T37 HR0.out 0 p179 q179
                    obtain rfl : adp0 = ad179 := (by injection e179)
                    have qi179 : (0 < l0.length) = True := eq_true (by omega)
                    (try rw [show ((0 : Int)).toNat = 0 from rfl] at hx179_0)
                    (try rw [show 0 * 3 = 0 from rfl] at hx179_0)
                    (try rw [Addr.add_zero'] at hx179_0)
                    (try rw [show ((0 : Int)).toNat = 0 from rfl] at hx179_1)
                    (try rw [show 0 * 3 = 0 from rfl] at hx179_1)
                    (try rw [Addr.add_zero'] at hx179_1)
                    (try rw [show ((0 : Int)).toNat = 0 from rfl] at hx179_2)
                    (try rw [show 0 * 3 = 0 from rfl] at hx179_2)
                    (try rw [Addr.add_zero'] at hx179_2)
                    replace hx179_0 := (HB.out.cell (World.block_lt_of_cell? w _ hx179_0)).trans hx179_0
                    replace hx179_1 := (HB.out.cell (World.block_lt_of_cell? w _ hx179_1)).trans hx179_1
                    replace hx179_2 := (HB.out.cell (World.block_lt_of_cell? w _ hx179_2)).trans hx179_2
                    have HR179_2 := Aside0.mk hi179_2
                    have HC179_2 := Aside0.mk hl179_2
                    clear hi179_2 hl179_2
                    replace p179 := eq_true p179
                    replace q179 := eq_true q179
                    have ea_ := Option.some.inj (hx178_2.symm.trans hx179_2)
                    injection ea_ with ea_ en_ ec_
                    subst ea_
                    subst ec_
                    clear en_
                    have p180 : 0 ≤ (x3_2 : Int) := of_decide_eq_true (by first | (with_reducible assumption) | assumption)
                    have q180 : x3_2 < (((rd_T37 l0 0).f2).length : Int) := of_decide_eq_true (by first | (with_reducible assumption) | assumption)
                    obtain ⟨ad180, e180, hx180_0, hx180_1, hx180_2, hx180_3, hx180_4⟩ := at_T91 HR179_2.out x3_2 p180 q180
                    cases e180
                    replace hx180_0 := (HB.out.cell (World.block_lt_of_cell? w _ hx180_0)).trans hx180_0
                    replace hx180_1 := (HB.out.cell (World.block_lt_of_cell? w _ hx180_1)).trans hx180_1
                    replace hx180_2 := (HB.out.cell (World.block_lt_of_cell? w _ hx180_2)).trans hx180_2
                    replace hx180_3 := (HB.out.cell (World.block_lt_of_cell? w _ hx180_3)).trans hx180_3
                    replace hx180_4 := (HB.out.cell (World.block_lt_of_cell? w _ hx180_4)).trans hx180_4
                    replace p180 := eq_true p180
                    replace q180 := eq_true q180
                    try go_wp2
                    have n0_ := Aside0.mk (below_drew1 HB.out)
                    clear HB
                    have HB := n0_
                    clear n0_
                    refine start_ (n := 31) (S := fun w' => True) (ds := []) #[false, false, false, false, false, false, false, false, false, false, false, false, false, false, false, false, false, false, false, false, false, false, false, false, false, false, false, false, false, false, false] (by kernel_rfl) rfl rfl trivial (fun hHeld => ?_); refine with_tabW spec_l01Ok.tab7 spec_l01Ok.bits7 (fun HT_ HW_ => ?_)
                    generalize wr.drew = w29 at HB hHeld ⊢
                    refine pure_ (i := 0) (N := some 44) (v := ?_) (a' := ?_) #[true, false, false, false, false, false, false, false, false, false, false, false, false, false, false, false, false, false, false, false, false, false, false, false, false, false, false, false, false, false, false] rfl rfl (any_of HT_.out (by kernel_rfl)) (fun _ _ _ h => h) (Or.inl ⟨by rfl, ?_⟩) ?_ ?_
                    rotate_left
                    · intro w'
                      go_simp
                      with_reducible rfl
                    rotate_left
                    · simp only [Act.put, List.setIfInBounds_toArray, List.set_cons_zero, List.set_cons_succ, i64_w, i32_w]
                      rfl
                    refine one_ (i := 1) (N := some 45) #[true, true, false, false, false, false, false, false, false, false, false, false, false, false, false, false, false, false, false, false, false, false, false, false, false, false, false, false, false, false, false] rfl rfl (one_of HT_.out (by kernel_rfl)) (by decide) (fun K hK => ?_)
                    refine goes_ Try.func132 (by kernel_rfl) rfl #[.pointer (some (ad180.add (x3_2.toNat * 5)))] (by rfl) rfl rfl (by (try simp only [List.map_toArray, List.map_cons, List.map_nil]); first | done | rfl | (simp only [List.length_drop, List.length_take]; rfl)) ?_
                    with_reducible refine (spec_l01Piece.calls _ [rd_T91 ((rd_T37 l0 0).f2) x3_2] false _ ?side1 A12.out).mono ?_
                    (case side1 => refine ro_of_elem (d := k91) z91 x3_2 (by first | exact of_eq_true p180 | omega) (by first | exact of_eq_true q180 | omega) ?_; repeat (first | exact (Kd.C_below HR179_2.out HB.out) | (with_reducible refine Kd.C_alloc ?_ _) | (with_reducible refine Kd.C_drewN ?_ _) | (with_reducible refine Kd.C_drew ?_)))
                    rintro e w30 ⟨rfl, hb⟩
                    refine ⟨_, rfl, ?_⟩
                    have n0_ := Aside0.mk (below_step (by repeat (first | (with_reducible first | exact HB.out | apply below_alloc | apply pw_below_drewN | apply below_drew1) | exact HB.out)) hb)
                    clear HB
                    have HB := n0_
                    clear n0_
                    (try clear hb)
                    (try clear hb2)
                    (try clear hk)
                    (try clear hi)
                    refine hK.out _ _ trivial (fun hHeld => ?_)
                    clear hK K
                    refine norm_ (a' := ?_) ?_ ?_
                    rotate_left
                    · show Act.put _ (some 45) _ = _
                      simp only [Act.put, List.setIfInBounds_toArray, List.set_cons_zero, List.set_cons_succ, i64_w, i32_w]
                      rfl
                    refine pure_ (i := 2) (N := some 46) (v := ?_) (a' := ?_) #[true, true, true, false, false, false, false, false, false, false, false, false, false, false, false, false, false, false, false, false, false, false, false, false, false, false, false, false, false, false, false] rfl rfl (any_of HT_.out (by kernel_rfl)) (fun _ _ _ h => h) (Or.inl ⟨by rfl, ?_⟩) ?_ ?_
                    rotate_left
                    · intro w'
                      go_simp
                      with_reducible rfl
                    rotate_left
                    · simp only [Act.put, List.setIfInBounds_toArray, List.set_cons_zero, List.set_cons_succ, i64_w, i32_w]
                      rfl
                    refine pure_ (i := 3) (N := some 47) (v := ?_) (a' := ?_) #[true, true, true, true, false, false, false, false, false, false, false, false, false, false, false, false, false, false, false, false, false, false, false, false, false, false, false, false, false, false, false] rfl rfl (any_of HT_.out (by kernel_rfl)) (fun _ _ _ h => h) (Or.inl ⟨by rfl, ?_⟩) ?_ ?_
                    rotate_left
                    · intro w'
                      go_simp
                      with_reducible rfl
                    rotate_left
                    · simp only [Act.put, List.setIfInBounds_toArray, List.set_cons_zero, List.set_cons_succ, i64_w, i32_w]
                      rfl
                    refine pure_ (i := 4) (N := some 48) (v := undef) (a' := ?_) #[true, true, true, true, true, false, false, false, false, false, false, false, false, false, false, false, false, false, false, false, false, false, false, false, false, false, false, false, false, false, false] rfl rfl (any_of HT_.out (by kernel_rfl)) (fun _ _ _ h => h) (Or.inr ⟨by rfl, rfl⟩) ?_ ?_
                    rotate_left
                    · simp only [Act.put, List.setIfInBounds_toArray, List.set_cons_zero, List.set_cons_succ, i64_w, i32_w]
                      rfl
                    refine pure_ (i := 5) (N := some 49) (v := undef) (a' := ?_) #[true, true, true, true, true, true, false, false, false, false, false, false, false, false, false, false, false, false, false, false, false, false, false, false, false, false, false, false, false, false, false] rfl rfl (any_of HT_.out (by kernel_rfl)) (fun _ _ _ h => h) (Or.inr ⟨by rfl, rfl⟩) ?_ ?_
                    rotate_left
                    · simp only [Act.put, List.setIfInBounds_toArray, List.set_cons_zero, List.set_cons_succ, i64_w, i32_w]
                      rfl
                    refine pure_ (i := 6) (N := some 50) (v := undef) (a' := ?_) #[true, true, true, true, true, true, true, false, false, false, false, false, false, false, false, false, false, false, false, false, false, false, false, false, false, false, false, false, false, false, false] rfl rfl (any_of HT_.out (by kernel_rfl)) (fun _ _ _ h => h) (Or.inr ⟨by rfl, rfl⟩) ?_ ?_
                    rotate_left
                    · simp only [Act.put, List.setIfInBounds_toArray, List.set_cons_zero, List.set_cons_succ, i64_w, i32_w]
                      rfl
                    refine pure_ (i := 7) (N := some 51) (v := undef) (a' := ?_) #[true, true, true, true, true, true, true, true, false, false, false, false, false, false, false, false, false, false, false, false, false, false, false, false, false, false, false, false, false, false, false] rfl rfl (any_of HT_.out (by kernel_rfl)) (fun _ _ _ h => h) (Or.inr ⟨by rfl, rfl⟩) ?_ ?_
                    rotate_left
                    · simp only [Act.put, List.setIfInBounds_toArray, List.set_cons_zero, List.set_cons_succ, i64_w, i32_w]
                      rfl
                    refine pure_ (i := 8) (N := some 52) (v := undef) (a' := ?_) #[true, true, true, true, true, true, true, true, true, false, false, false, false, false, false, false, false, false, false, false, false, false, false, false, false, false, false, false, false, false, false] rfl rfl (any_of HT_.out (by kernel_rfl)) (fun _ _ _ h => h) (Or.inr ⟨by rfl, rfl⟩) ?_ ?_
                    rotate_left
                    · simp only [Act.put, List.setIfInBounds_toArray, List.set_cons_zero, List.set_cons_succ, i64_w, i32_w]
                      rfl
                    refine pure_ (i := 9) (N := some 53) (v := undef) (a' := ?_) #[true, true, true, true, true, true, true, true, true, true, false, false, false, false, false, false, false, false, false, false, false, false, false, false, false, false, false, false, false, false, false] rfl rfl (any_of HT_.out (by kernel_rfl)) (fun _ _ _ h => h) (Or.inr ⟨by rfl, rfl⟩) ?_ ?_
                    rotate_left
                    · simp only [Act.put, List.setIfInBounds_toArray, List.set_cons_zero, List.set_cons_succ, i64_w, i32_w]
                      rfl
                    refine pure_ (i := 10) (N := some 54) (v := undef) (a' := ?_) #[true, true, true, true, true, true, true, true, true, true, true, false, false, false, false, false, false, false, false, false, false, false, false, false, false, false, false, false, false, false, false] rfl rfl (any_of HT_.out (by kernel_rfl)) (fun _ _ _ h => h) (Or.inr ⟨by rfl, rfl⟩) ?_ ?_
                    rotate_left
                    · simp only [Act.put, List.setIfInBounds_toArray, List.set_cons_zero, List.set_cons_succ, i64_w, i32_w]
                      rfl
                    refine pure_ (i := 11) (N := some 55) (v := undef) (a' := ?_) #[true, true, true, true, true, true, true, true, true, true, true, true, false, false, false, false, false, false, false, false, false, false, false, false, false, false, false, false, false, false, false] rfl rfl (any_of HT_.out (by kernel_rfl)) (fun _ _ _ h => h) (Or.inr ⟨by rfl, rfl⟩) ?_ ?_
                    rotate_left
                    · simp only [Act.put, List.setIfInBounds_toArray, List.set_cons_zero, List.set_cons_succ, i64_w, i32_w]
                      rfl
                    refine pure_ (i := 12) (N := some 56) (v := undef) (a' := ?_) #[true, true, true, true, true, true, true, true, true, true, true, true, true, false, false, false, false, false, false, false, false, false, false, false, false, false, false, false, false, false, false] rfl rfl (any_of HT_.out (by kernel_rfl)) (fun _ _ _ h => h) (Or.inr ⟨by rfl, rfl⟩) ?_ ?_
                    rotate_left
                    · simp only [Act.put, List.setIfInBounds_toArray, List.set_cons_zero, List.set_cons_succ, i64_w, i32_w]
                      rfl
                    refine pure_ (i := 13) (N := some 57) (v := undef) (a' := ?_) #[true, true, true, true, true, true, true, true, true, true, true, true, true, true, false, false, false, false, false, false, false, false, false, false, false, false, false, false, false, false, false] rfl rfl (any_of HT_.out (by kernel_rfl)) (fun _ _ _ h => h) (Or.inr ⟨by rfl, rfl⟩) ?_ ?_
                    rotate_left
                    · simp only [Act.put, List.setIfInBounds_toArray, List.set_cons_zero, List.set_cons_succ, i64_w, i32_w]
                      rfl
                    refine pure_ (i := 14) (N := some 58) (v := undef) (a' := ?_) #[true, true, true, true, true, true, true, true, true, true, true, true, true, true, true, false, false, false, false, false, false, false, false, false, false, false, false, false, false, false, false] rfl rfl (any_of HT_.out (by kernel_rfl)) (fun _ _ _ h => h) (Or.inr ⟨by rfl, rfl⟩) ?_ ?_
                    rotate_left
                    · simp only [Act.put, List.setIfInBounds_toArray, List.set_cons_zero, List.set_cons_succ, i64_w, i32_w]
                      rfl
                    refine pure_ (i := 15) (N := some 59) (v := undef) (a' := ?_) #[true, true, true, true, true, true, true, true, true, true, true, true, true, true, true, true, false, false, false, false, false, false, false, false, false, false, false, false, false, false, false] rfl rfl (any_of HT_.out (by kernel_rfl)) (fun _ _ _ h => h) (Or.inr ⟨by rfl, rfl⟩) ?_ ?_
                    rotate_left
                    · simp only [Act.put, List.setIfInBounds_toArray, List.set_cons_zero, List.set_cons_succ, i64_w, i32_w]
                      rfl
                    refine pure_ (i := 16) (N := some 60) (v := undef) (a' := ?_) #[true, true, true, true, true, true, true, true, true, true, true, true, true, true, true, true, true, false, false, false, false, false, false, false, false, false, false, false, false, false, false] rfl rfl (any_of HT_.out (by kernel_rfl)) (fun _ _ _ h => h) (Or.inr ⟨by rfl, rfl⟩) ?_ ?_
                    rotate_left
                    · simp only [Act.put, List.setIfInBounds_toArray, List.set_cons_zero, List.set_cons_succ, i64_w, i32_w]
                      rfl
                    refine pure_ (i := 17) (N := some 61) (v := undef) (a' := ?_) #[true, true, true, true, true, true, true, true, true, true, true, true, true, true, true, true, true, true, false, false, false, false, false, false, false, false, false, false, false, false, false] rfl rfl (any_of HT_.out (by kernel_rfl)) (fun _ _ _ h => h) (Or.inr ⟨by rfl, rfl⟩) ?_ ?_
                    rotate_left
                    · simp only [Act.put, List.setIfInBounds_toArray, List.set_cons_zero, List.set_cons_succ, i64_w, i32_w]
                      rfl
                    refine pure_ (i := 18) (N := some 62) (v := undef) (a' := ?_) #[true, true, true, true, true, true, true, true, true, true, true, true, true, true, true, true, true, true, true, false, false, false, false, false, false, false, false, false, false, false, false] rfl rfl (any_of HT_.out (by kernel_rfl)) (fun _ _ _ h => h) (Or.inr ⟨by rfl, rfl⟩) ?_ ?_
                    rotate_left
                    · simp only [Act.put, List.setIfInBounds_toArray, List.set_cons_zero, List.set_cons_succ, i64_w, i32_w]
                      rfl
                    refine pure_ (i := 19) (N := some 63) (v := undef) (a' := ?_) #[true, true, true, true, true, true, true, true, true, true, true, true, true, true, true, true, true, true, true, true, false, false, false, false, false, false, false, false, false, false, false] rfl rfl (any_of HT_.out (by kernel_rfl)) (fun _ _ _ h => h) (Or.inr ⟨by rfl, rfl⟩) ?_ ?_
                    rotate_left
                    · simp only [Act.put, List.setIfInBounds_toArray, List.set_cons_zero, List.set_cons_succ, i64_w, i32_w]
                      rfl
                    refine pure_ (i := 20) (N := some 64) (v := ?_) (a' := ?_) #[true, true, true, true, true, true, true, true, true, true, true, true, true, true, true, true, true, true, true, true, true, false, false, false, false, false, false, false, false, false, false] rfl rfl (any_of HT_.out (by kernel_rfl)) (fun _ _ _ h => h) (Or.inl ⟨by rfl, ?_⟩) ?_ ?_
                    rotate_left
                    · intro w'
                      go_simp
                      with_reducible rfl
                    rotate_left
                    · simp only [Act.put, List.setIfInBounds_toArray, List.set_cons_zero, List.set_cons_succ, i64_w, i32_w]
                      rfl
                    refine pure_ (i := 21) (N := some 65) (v := ?_) (a' := ?_) #[true, true, true, true, true, true, true, true, true, true, true, true, true, true, true, true, true, true, true, true, true, true, false, false, false, false, false, false, false, false, false] rfl rfl (any_of HT_.out (by kernel_rfl)) (fun _ _ _ h => h) (Or.inl ⟨by rfl, ?_⟩) ?_ ?_
                    rotate_left
                    · intro w'
                      go_simp
                      with_reducible rfl
                    rotate_left
                    · simp only [Act.put, List.setIfInBounds_toArray, List.set_cons_zero, List.set_cons_succ, i64_w, i32_w]
                      rfl
                    refine pure_ (i := 22) (N := some 66) (v := undef) (a' := ?_) #[true, true, true, true, true, true, true, true, true, true, true, true, true, true, true, true, true, true, true, true, true, true, true, false, false, false, false, false, false, false, false] rfl rfl (any_of HT_.out (by kernel_rfl)) (fun _ _ _ h => h) (Or.inr ⟨by rfl, rfl⟩) ?_ ?_
                    rotate_left
                    · simp only [Act.put, List.setIfInBounds_toArray, List.set_cons_zero, List.set_cons_succ, i64_w, i32_w]
                      rfl
                    refine pure_ (i := 23) (N := some 67) (v := undef) (a' := ?_) #[true, true, true, true, true, true, true, true, true, true, true, true, true, true, true, true, true, true, true, true, true, true, true, true, false, false, false, false, false, false, false] rfl rfl (any_of HT_.out (by kernel_rfl)) (fun _ _ _ h => h) (Or.inr ⟨by rfl, rfl⟩) ?_ ?_
                    rotate_left
                    · simp only [Act.put, List.setIfInBounds_toArray, List.set_cons_zero, List.set_cons_succ, i64_w, i32_w]
                      rfl
                    refine pure_ (i := 24) (N := some 68) (v := undef) (a' := ?_) #[true, true, true, true, true, true, true, true, true, true, true, true, true, true, true, true, true, true, true, true, true, true, true, true, true, false, false, false, false, false, false] rfl rfl (any_of HT_.out (by kernel_rfl)) (fun _ _ _ h => h) (Or.inr ⟨by rfl, rfl⟩) ?_ ?_
                    rotate_left
                    · simp only [Act.put, List.setIfInBounds_toArray, List.set_cons_zero, List.set_cons_succ, i64_w, i32_w]
                      rfl
                    refine pure_ (i := 25) (N := some 69) (v := undef) (a' := ?_) #[true, true, true, true, true, true, true, true, true, true, true, true, true, true, true, true, true, true, true, true, true, true, true, true, true, true, false, false, false, false, false] rfl rfl (any_of HT_.out (by kernel_rfl)) (fun _ _ _ h => h) (Or.inr ⟨by rfl, rfl⟩) ?_ ?_
                    rotate_left
                    · simp only [Act.put, List.setIfInBounds_toArray, List.set_cons_zero, List.set_cons_succ, i64_w, i32_w]
                      rfl
                    refine pure_ (i := 26) (N := some 70) (v := undef) (a' := ?_) #[true, true, true, true, true, true, true, true, true, true, true, true, true, true, true, true, true, true, true, true, true, true, true, true, true, true, true, false, false, false, false] rfl rfl (any_of HT_.out (by kernel_rfl)) (fun _ _ _ h => h) (Or.inr ⟨by rfl, rfl⟩) ?_ ?_
                    rotate_left
                    · simp only [Act.put, List.setIfInBounds_toArray, List.set_cons_zero, List.set_cons_succ, i64_w, i32_w]
                      rfl
                    refine pure_ (i := 27) (N := some 71) (v := undef) (a' := ?_) #[true, true, true, true, true, true, true, true, true, true, true, true, true, true, true, true, true, true, true, true, true, true, true, true, true, true, true, true, false, false, false] rfl rfl (any_of HT_.out (by kernel_rfl)) (fun _ _ _ h => h) (Or.inr ⟨by rfl, rfl⟩) ?_ ?_
                    rotate_left
                    · simp only [Act.put, List.setIfInBounds_toArray, List.set_cons_zero, List.set_cons_succ, i64_w, i32_w]
                      rfl
                    refine pure_ (i := 28) (N := some 72) (v := undef) (a' := ?_) #[true, true, true, true, true, true, true, true, true, true, true, true, true, true, true, true, true, true, true, true, true, true, true, true, true, true, true, true, true, false, false] rfl rfl (any_of HT_.out (by kernel_rfl)) (fun _ _ _ h => h) (Or.inr ⟨by rfl, rfl⟩) ?_ ?_
                    rotate_left
                    · simp only [Act.put, List.setIfInBounds_toArray, List.set_cons_zero, List.set_cons_succ, i64_w, i32_w]
                      rfl
                    refine pure_ (i := 29) (N := some 73) (v := undef) (a' := ?_) #[true, true, true, true, true, true, true, true, true, true, true, true, true, true, true, true, true, true, true, true, true, true, true, true, true, true, true, true, true, true, false] rfl rfl (any_of HT_.out (by kernel_rfl)) (fun _ _ _ h => h) (Or.inr ⟨by rfl, rfl⟩) ?_ ?_
                    rotate_left
                    · simp only [Act.put, List.setIfInBounds_toArray, List.set_cons_zero, List.set_cons_succ, i64_w, i32_w]
                      rfl
                    refine pure_ (i := 30) (N := some 74) (v := ?_) (a' := ?_) #[true, true, true, true, true, true, true, true, true, true, true, true, true, true, true, true, true, true, true, true, true, true, true, true, true, true, true, true, true, true, true] rfl rfl (any_of HT_.out (by kernel_rfl)) (fun _ _ _ h => h) (Or.inl ⟨by rfl, ?_⟩) ?_ ?_
                    rotate_left
                    · intro w'
                      go_simp
                      with_reducible rfl
                    rotate_left
                    · simp only [Act.put, List.setIfInBounds_toArray, List.set_cons_zero, List.set_cons_succ, i64_w, i32_w]
                      rfl
                    refine done_ (done_of HT_.out (by kernel_rfl)) ?_
                    try go_wp2
                    go_ret
                    exact ⟨by first | rfl | (simp [errW_none, errW_some] <;> rfl) | (simp [*, errW_none, errW_some] <;> rfl), by repeat (first | (with_reducible first | exact HB.out | apply below_alloc | apply pw_below_drewN | apply below_drew1) | exact HB.out)⟩
                · rw [if_neg c11] at H
                  exact absurd H (by simp)
              · rw [if_neg c10] at H
                have c10b0 : decide (x3_2 < (((rd_T37 l0 0).f2).length : Int)) = false := decide_eq_false c10
                clear c10
                obtain rfl := Option.some.inj H
                have p178 : 0 ≤ (0 : Int) := (by omega)
                have q178 : 0 < (l0.length : Int) := of_decide_eq_true (by first | (with_reducible assumption) | assumption)
                obtain ⟨ad178, A178_2, c178_2, e178, hx178_0, hx178_1, hx178_2, hl178_2, hi178_2⟩ := at_T37 HR0.out 0 p178 q178
                obtain rfl : adp0 = ad178 := (by injection e178)
                have qi178 : (0 < l0.length) = True := eq_true (by omega)
                (try rw [show ((0 : Int)).toNat = 0 from rfl] at hx178_0)
                (try rw [show 0 * 3 = 0 from rfl] at hx178_0)
                (try rw [Addr.add_zero'] at hx178_0)
                (try rw [show ((0 : Int)).toNat = 0 from rfl] at hx178_1)
                (try rw [show 0 * 3 = 0 from rfl] at hx178_1)
                (try rw [Addr.add_zero'] at hx178_1)
                (try rw [show ((0 : Int)).toNat = 0 from rfl] at hx178_2)
                (try rw [show 0 * 3 = 0 from rfl] at hx178_2)
                (try rw [Addr.add_zero'] at hx178_2)
                replace hx178_0 := (HB.out.cell (World.block_lt_of_cell? w _ hx178_0)).trans hx178_0
                replace hx178_1 := (HB.out.cell (World.block_lt_of_cell? w _ hx178_1)).trans hx178_1
                replace hx178_2 := (HB.out.cell (World.block_lt_of_cell? w _ hx178_2)).trans hx178_2
                have HR178_2 := Aside0.mk hi178_2
                have HC178_2 := Aside0.mk hl178_2
                clear hi178_2 hl178_2
                replace p178 := eq_true p178
                replace q178 := eq_true q178
                go_wp2
                go_ret
                exact ⟨by first | rfl | (simp [errW_none, errW_some] <;> rfl) | (simp [*, errW_none, errW_some] <;> rfl), by repeat (first | (with_reducible first | exact HB.out | apply below_alloc | apply pw_below_drewN | apply below_drew1) | exact HB.out)⟩
            · rw [if_neg c9] at H
              exact absurd H (by simp)

end Go.Proofs.Ytffnfpnajkgnaaa.PFnExactValidPushes
