-- short
-- WRITTEN by xprint.py, a program of this session's. Not trusted: Lean checks it.
import Derived.Test.YtffnfpnajkgnaaaPFnExactValidMachinex0
import Derived.Test.YtffnfpnajkgnaaaPFnExactValidMachinex6
namespace Go.Proofs.Ytffnfpnajkgnaaa.PFnExactValidMachine
open Go.RowKit Go.Proofs.YtffnfpnajkgnaaaW.PrintWords Go.Proofs.YtffnfpnajkgnaaaW.PrintLast Go.Proofs.YtffnfpnajkgnaaaW.PrintMore Go.Proofs.YtffnfpnajkgnaaaX
attribute [local go_sem] max2_int min2_int max_two min_two max_three min_three max_four min_four   -- for this text's walks alone
set_option linter.unusedVariables false
set_option linter.unusedSimpArgs false

/-! ### spec_l01Ok: function 106 -/
mutual
def spec_l01Ok.j0 : Nat → List (S37) → Bool → Option (Bool)
 | 0, _, _ => none
 | k + 1, x0, x28 => if x28 = true then (some false) else (spec_l01Ok.l0 k x0 0)
def spec_l01Ok.l0 : Nat → List (S37) → Int → Option (Bool)
 | 0, _, _ => none
 | k + 1, x0, x3 => if 0 < (x0.length : Int) then (if x3 < (((rd_T37 x0 0).f2).length : Int) then (if 0 ≤ x3 then ((spec_l01Piece.f [rd_T91 ((rd_T37 x0 0).f2) x3]).bind fun t213 => (if t213 = true then ((spec_l01In.f ((rd_T91 ((rd_T37 x0 0).f2) x3).f0.f0) ((rd_T91 ((rd_T37 x0 0).f2) x3).f0.f1) (wrap64 ((rd_T37 x0 0).f0)) (wrap64 ((rd_T37 x0 0).f1))).bind fun t217 => (if t217 = true then ((spec_l01Find.f k x0 ((rd_T91 ((rd_T37 x0 0).f2) x3).f0.f0) ((rd_T91 ((rd_T37 x0 0).f2) x3).f0.f1)).bind fun t219 => (if t219 = x3 then (spec_l01Ok.l0 k x0 (wrap64 (x3 + 1))) else (some false))) else (some false))) else (some false))) else (none)) else (some true)) else (none)
end
def spec_l01Ok.f (k : Nat) (l0 : List (S37)) : Option (Bool) := if 0 < (l0.length : Int) then ((spec_l00In.f (wrap64 ((rd_T37 l0 0).f0)) 1 24).bind fun t206 => (if t206 = true then ((spec_l00In.f (wrap64 ((rd_T37 l0 0).f1)) 1 24).bind fun t208 => (if t208 = true then (spec_l01Ok.j0 k l0 (decide ((((rd_T37 l0 0).f2).length : Int) > 200))) else (spec_l01Ok.j0 k l0 true))) else (spec_l01Ok.j0 k l0 true))) else (none)
theorem spec_l01Ok.mono_l : ∀ k, (∀ y0 y1, LeO (spec_l01Ok.j0 k y0 y1) (spec_l01Ok.j0 (k + 1) y0 y1)) ∧ (∀ y0 y1, LeO (spec_l01Ok.l0 k y0 y1) (spec_l01Ok.l0 (k + 1) y0 y1))
 | 0 => ⟨fun _ _ r h => by simp [spec_l01Ok.j0] at h, fun _ _ r h => by simp [spec_l01Ok.l0] at h⟩
 | k + 1 => by
  obtain ⟨ih0, ih1⟩ := spec_l01Ok.mono_l k
  refine ⟨?_, ?_⟩
  ·intro y0 y1
   unfold spec_l01Ok.j0
   repeat' first
   | (with_reducible exact ih0 _ _)
   | (with_reducible exact ih1 _ _)
   | (with_reducible exact spec_l01Find.mono _ _ _ _)
   | (with_reducible exact LeO.refl _)
   | (with_reducible exact LeO.none _)
   | (with_reducible refine LeO.ite ?_ ?_)
   | (with_reducible refine LeO.bind ?_ (fun _ => ?_))
   | exact ih0 _ _
   | exact ih1 _ _
   | exact spec_l01Find.mono _ _ _ _
   | exact LeO.none _
   | refine LeO.ite ?_ ?_
   | refine LeO.bind ?_ (fun _ => ?_)
  ·intro y0 y1
   unfold spec_l01Ok.l0
   repeat' first
   | (with_reducible exact ih0 _ _)
   | (with_reducible exact ih1 _ _)
   | (with_reducible exact spec_l01Find.mono _ _ _ _)
   | (with_reducible exact LeO.refl _)
   | (with_reducible exact LeO.none _)
   | (with_reducible refine LeO.ite ?_ ?_)
   | (with_reducible refine LeO.bind ?_ (fun _ => ?_))
   | exact ih0 _ _
   | exact ih1 _ _
   | exact spec_l01Find.mono _ _ _ _
   | exact LeO.none _
   | refine LeO.ite ?_ ?_
   | refine LeO.bind ?_ (fun _ => ?_)
theorem spec_l01Ok.mono : ∀ a0 k, LeO (spec_l01Ok.f k a0) (spec_l01Ok.f (k + 1) a0) := by
 intro a0 k
 obtain ⟨ih0, ih1⟩ := spec_l01Ok.mono_l k
 unfold spec_l01Ok.f
 repeat' first
   | (with_reducible exact ih0 _ _)
   | (with_reducible exact ih1 _ _)
   | (with_reducible exact spec_l01Find.mono _ _ _ _)
   | (with_reducible exact LeO.refl _)
   | (with_reducible exact LeO.none _)
   | (with_reducible refine LeO.ite ?_ ?_)
   | (with_reducible refine LeO.bind ?_ (fun _ => ?_))
   | exact ih0 _ _
   | exact ih1 _ _
   | exact spec_l01Find.mono _ _ _ _
   | exact LeO.none _
   | refine LeO.ite ?_ ?_
   | refine LeO.bind ?_ (fun _ => ?_)
def spec_l01Ok.T7 : Bool × List (List Nat × List Nat) := (true, [([], []), ([0], [0]), ([1], [1]), ([2, 1], [2]), ([3], [3]), ([4, 3], [3, 4]), ([5, 3], [3, 5]), ([6, 3], [3, 6]), ([3], [3]), ([8, 3], [3, 8]), ([9, 3], [3, 9]), ([10, 3], [3, 10]), ([11, 3], [3, 11]), ([3], [3]), ([13, 3], [3, 13]), ([14, 3], [3, 14]), ([15, 3], [3, 15]), ([16, 3], [3, 16]), ([7, 12, 17, 3, 3], [3, 7, 12, 17]), ([18, 3], [3, 18]), ([3, 19], [3, 19]), ([20, 18], [20]), ([21], [21]), ([21], [21]), ([23, 21], [21, 23]), ([24, 21], [21, 24]), ([25, 21], [21, 25]), ([22, 26, 21, 21], [21, 22, 26]), ([21], [21]), ([27, 28, 21], [21, 27, 28]), ([21, 29], [21, 29])])
def spec_l01Ok.B7 : List Nat := [0, 1, 3, 7, 15, 31, 63, 127, 15, 271, 783, 1807, 3855, 15, 8207, 24591, 57359, 122895, 262143, 524287, 1048575, 2097151, 4194303, 4194303, 12582911, 29360127, 62914559, 134217727, 4194303, 536870911, 1073741823]
theorem spec_l01Ok.tab7 : rtab .any (opsOf Try.f106 7) = spec_l01Ok.T7 := by kernel_rfl
theorem spec_l01Ok.bits7 : waitsOk spec_l01Ok.T7.2 spec_l01Ok.B7 = true := by kernel_rfl
set_option maxHeartbeats 8000000 in
set_option maxRecDepth 100000 in
theorem spec_l01Ok.calls (k : Nat) (adp0 : Addr) (l0 : List (S37)) (r : Bool) (w : World) (hr0 : Kd.C k37 w (some adp0) l0.length l0) (h : spec_l01Ok.f k l0 = some r) :
  Calls Try.prog 106 #[.pointer (some adp0)] w fun e w' => e = .returned (.bool r) ∧ Below w.heap.size w w' := by
 have hu74 := Try.underlying74
 have HR0 := zN hr0
 clear hr0
 have HB := zN (Below.refl w.heap.size w)
 have H : (if 0 < (l0.length : Int) then ((spec_l00In.f (wrap64 ((rd_T37 l0 0).f0)) 1 24).bind fun t206 => (if t206 = true then ((spec_l00In.f (wrap64 ((rd_T37 l0 0).f1)) 1 24).bind fun t208 => (if t208 = true then (spec_l01Ok.j0 k l0 (decide ((((rd_T37 l0 0).f2).length : Int) > 200))) else (spec_l01Ok.j0 k l0 true))) else (spec_l01Ok.j0 k l0 true))) else (none)) = some r := h
 clear h
 have HC2 := zN H
 clear H
 go_enter Try.func106, Try.ntmps106
 go_upto_region 1 with (fail)
 go_cut [28] (fun v28 wc => ∃ (kq : Nat) (x28_1 : Bool), v28 = .bool x28_1 ∧ Aside0 (spec_l01Ok.j0 kq l0 x28_1 = some r) ∧ Aside0 (kq ≤ k) ∧ Aside0 (Below w.heap.size w wc))
 case first =>
  have H := HC2.out
  clear HC2
  by_cases c3 : 0 < (l0.length : Int)
  ·rw [if_pos c3] at H
   have c3b0 : decide (0 < (l0.length : Int)) = true := decide_eq_true c3
   have c3b1 : decide (0 < l0.length) = true := decide_eq_true (by omega)
   clear c3
   (first | rw [c3b0] | (simp only [i64_w, i32_w]; rw [c3b0]) | (have h_ := c3b0; simp only [bne] at h_; rw [h_]) | skip)
   replace H := Option.bind_eq_some_iff.mp H
   obtain ⟨t206, A40, H⟩ := H
   replace H : (if t206 = true then ((spec_l00In.f (wrap64 ((rd_T37 l0 0).f1)) 1 24).bind fun t208 => (if t208 = true then (spec_l01Ok.j0 k l0 (decide ((((rd_T37 l0 0).f2).length : Int) > 200))) else (spec_l01Ok.j0 k l0 true))) else (spec_l01Ok.j0 k l0 true)) = some r := H
   have A4 := zN A40
   clear A40
   by_cases c5 : t206 = true
   ·subst c5
    have H1 : ((spec_l00In.f (wrap64 ((rd_T37 l0 0).f1)) 1 24).bind fun t208 => (if t208 = true then (spec_l01Ok.j0 k l0 (decide ((((rd_T37 l0 0).f2).length : Int) > 200))) else (spec_l01Ok.j0 k l0 true))) = some r := by rw [if_pos rfl] at H; exact H
    clear H
    have H := H1
    clear H1
    replace H := Option.bind_eq_some_iff.mp H
    obtain ⟨t208, A60, H⟩ := H
    replace H : (if t208 = true then (spec_l01Ok.j0 k l0 (decide ((((rd_T37 l0 0).f2).length : Int) > 200))) else (spec_l01Ok.j0 k l0 true)) = some r := H
    have A6 := zN A60
    clear A60
    by_cases c7 : t208 = true
    ·subst c7
     have H1 : (spec_l01Ok.j0 k l0 (decide ((((rd_T37 l0 0).f2).length : Int) > 200))) = some r := by rw [if_pos rfl] at H; exact H
     clear H
     have H := H1
     clear H1
     have H' := zN H
     clear H
     have p205 : 0 ≤ (0 : Int) := (by omega)
     have q205 : 0 < (l0.length : Int) := zJ (by first | (with_reducible assumption) | assumption)
     obtain ⟨ad205, A205_2, c205_2, e205, hx205_0, hx205_1, hx205_2, hl205_2, hi205_2⟩ := at_T37 HR0.out 0 p205 q205
     obtain rfl : adp0 = ad205 := (by injection e205)
     have qi205 : (0 < l0.length) = True := eq_true (by omega)
     (try rw [zI] at hx205_0)
     (try rw [Nat.zero_mul] at hx205_0)
     (try rw [Addr.add_zero'] at hx205_0)
     (try rw [zI] at hx205_1)
     (try rw [Nat.zero_mul] at hx205_1)
     (try rw [Addr.add_zero'] at hx205_1)
     (try rw [zI] at hx205_2)
     (try rw [Nat.zero_mul] at hx205_2)
     (try rw [Addr.add_zero'] at hx205_2)
     replace hx205_0 := (HB.out.cell (zH w _ hx205_0)).trans hx205_0
     replace hx205_1 := (HB.out.cell (zH w _ hx205_1)).trans hx205_1
     replace hx205_2 := (HB.out.cell (zH w _ hx205_2)).trans hx205_2
     have HR205_2 := zN hi205_2
     have HC205_2 := zN hl205_2
     clear hi205_2 hl205_2
     replace p205 := eq_true p205
     replace q205 := eq_true q205
     go_wp2_with (first | ((with_reducible refine gate_callee (f := 96) rfl ?_); refine goesL_ (some 10) rfl rfl Try.func96 (by kernel_rfl) rfl #[.int .i64 (wrap64 ((rd_T37 l0 0).f0)), .int .i64 1, .int .i64 24] rfl (by (try simp only [List.map_toArray, List.map_cons, List.map_nil]); first | done | rfl | (simp only [List.length_drop, List.length_take]; rfl)) ?_; (with_reducible refine (spec_l00In.calls (wrap64 ((rd_T37 l0 0).f0)) 1 24 true _ A4.out).mono ?_); rintro e w' ⟨rfl, ⟨nd, rfl⟩⟩; refine ⟨_, rfl, ?_⟩; have p207 : 0 ≤ (0 : Int) := (by omega); have q207 : 0 < (l0.length : Int) := zJ (by first | (with_reducible assumption) | assumption); obtain ⟨ad207, A207_2, c207_2, e207, hx207_0, hx207_1, hx207_2, hl207_2, hi207_2⟩ := at_T37 HR0.out 0 p207 q207; obtain rfl : adp0 = ad207 := (by injection e207); have qi207 : (0 < l0.length) = True := eq_true (by omega); (try rw [zI] at hx207_0); (try rw [Nat.zero_mul] at hx207_0); (try rw [Addr.add_zero'] at hx207_0); (try rw [zI] at hx207_1); (try rw [Nat.zero_mul] at hx207_1); (try rw [Addr.add_zero'] at hx207_1); (try rw [zI] at hx207_2); (try rw [Nat.zero_mul] at hx207_2); (try rw [Addr.add_zero'] at hx207_2); replace hx207_0 := (HB.out.cell (zH w _ hx207_0)).trans hx207_0; replace hx207_1 := (HB.out.cell (zH w _ hx207_1)).trans hx207_1; replace hx207_2 := (HB.out.cell (zH w _ hx207_2)).trans hx207_2; have HR207_2 := zN hi207_2; have HC207_2 := zN hl207_2; clear hi207_2 hl207_2; replace p207 := eq_true p207; replace q207 := eq_true q207; have ea_ := Option.some.inj (hx205_2.symm.trans hx207_2); injection ea_ with ea_ en_ ec_; subst ea_; subst ec_; clear en_) | (go_at_call 96; (with_reducible refine (spec_l00In.calls (wrap64 ((rd_T37 l0 0).f1)) 1 24 true _ A6.out).mono ?_); rintro e w' ⟨rfl, ⟨nd, rfl⟩⟩; have p209 : 0 ≤ (0 : Int) := (by omega); have q209 : 0 < (l0.length : Int) := zJ (by first | (with_reducible assumption) | assumption); obtain ⟨ad209, A209_2, c209_2, e209, hx209_0, hx209_1, hx209_2, hl209_2, hi209_2⟩ := at_T37 HR0.out 0 p209 q209; obtain rfl : adp0 = ad209 := (by injection e209); have qi209 : (0 < l0.length) = True := eq_true (by omega); (try rw [zI] at hx209_0); (try rw [Nat.zero_mul] at hx209_0); (try rw [Addr.add_zero'] at hx209_0); (try rw [zI] at hx209_1); (try rw [Nat.zero_mul] at hx209_1); (try rw [Addr.add_zero'] at hx209_1); (try rw [zI] at hx209_2); (try rw [Nat.zero_mul] at hx209_2); (try rw [Addr.add_zero'] at hx209_2); replace hx209_0 := (HB.out.cell (zH w _ hx209_0)).trans hx209_0; replace hx209_1 := (HB.out.cell (zH w _ hx209_1)).trans hx209_1; replace hx209_2 := (HB.out.cell (zH w _ hx209_2)).trans hx209_2; have HR209_2 := zN hi209_2; have HC209_2 := zN hl209_2; clear hi209_2 hl209_2; replace p209 := eq_true p209; replace q209 := eq_true q209; have ea_ := Option.some.inj (hx205_2.symm.trans hx209_2); injection ea_ with ea_ en_ ec_; subst ea_; subst ec_; clear en_))
     go_meet
     case rel => exact ⟨_, (decide ((((rd_T37 l0 0).f2).length : Int) > 200)), (by first | rfl | (simp; done) | (simp [*]; done) | (exact congrArg (Value.int .i64) (wrap_eq (by omega)))), H', ⟨by first | omega | exact Nat.le_refl _⟩, ⟨by repeat (first | (with_reducible first | exact HB.out | apply zA | apply zB | apply zC) | exact HB.out)⟩⟩
    ·replace c7 := Bool.eq_false_iff.mpr c7
     subst c7
     have H1 : (spec_l01Ok.j0 k l0 true) = some r := by rw [if_neg (show ¬ (false = true) by decide)] at H; exact H
     clear H
     have H := H1
     clear H1
     have H' := zN H
     clear H
     have p205 : 0 ≤ (0 : Int) := (by omega)
     have q205 : 0 < (l0.length : Int) := zJ (by first | (with_reducible assumption) | assumption)
     obtain ⟨ad205, A205_2, c205_2, e205, hx205_0, hx205_1, hx205_2, hl205_2, hi205_2⟩ := at_T37 HR0.out 0 p205 q205
     obtain rfl : adp0 = ad205 := (by injection e205)
     have qi205 : (0 < l0.length) = True := eq_true (by omega)
     (try rw [zI] at hx205_0)
     (try rw [Nat.zero_mul] at hx205_0)
     (try rw [Addr.add_zero'] at hx205_0)
     (try rw [zI] at hx205_1)
     (try rw [Nat.zero_mul] at hx205_1)
     (try rw [Addr.add_zero'] at hx205_1)
     (try rw [zI] at hx205_2)
     (try rw [Nat.zero_mul] at hx205_2)
     (try rw [Addr.add_zero'] at hx205_2)
     replace hx205_0 := (HB.out.cell (zH w _ hx205_0)).trans hx205_0
     replace hx205_1 := (HB.out.cell (zH w _ hx205_1)).trans hx205_1
     replace hx205_2 := (HB.out.cell (zH w _ hx205_2)).trans hx205_2
     have HR205_2 := zN hi205_2
     have HC205_2 := zN hl205_2
     clear hi205_2 hl205_2
     replace p205 := eq_true p205
     replace q205 := eq_true q205
     go_wp2_with (first | ((with_reducible refine gate_callee (f := 96) rfl ?_); refine goesL_ (some 10) rfl rfl Try.func96 (by kernel_rfl) rfl #[.int .i64 (wrap64 ((rd_T37 l0 0).f0)), .int .i64 1, .int .i64 24] rfl (by (try simp only [List.map_toArray, List.map_cons, List.map_nil]); first | done | rfl | (simp only [List.length_drop, List.length_take]; rfl)) ?_; (with_reducible refine (spec_l00In.calls (wrap64 ((rd_T37 l0 0).f0)) 1 24 true _ A4.out).mono ?_); rintro e w' ⟨rfl, ⟨nd, rfl⟩⟩; refine ⟨_, rfl, ?_⟩; have p207 : 0 ≤ (0 : Int) := (by omega); have q207 : 0 < (l0.length : Int) := zJ (by first | (with_reducible assumption) | assumption); obtain ⟨ad207, A207_2, c207_2, e207, hx207_0, hx207_1, hx207_2, hl207_2, hi207_2⟩ := at_T37 HR0.out 0 p207 q207; obtain rfl : adp0 = ad207 := (by injection e207); have qi207 : (0 < l0.length) = True := eq_true (by omega); (try rw [zI] at hx207_0); (try rw [Nat.zero_mul] at hx207_0); (try rw [Addr.add_zero'] at hx207_0); (try rw [zI] at hx207_1); (try rw [Nat.zero_mul] at hx207_1); (try rw [Addr.add_zero'] at hx207_1); (try rw [zI] at hx207_2); (try rw [Nat.zero_mul] at hx207_2); (try rw [Addr.add_zero'] at hx207_2); replace hx207_0 := (HB.out.cell (zH w _ hx207_0)).trans hx207_0; replace hx207_1 := (HB.out.cell (zH w _ hx207_1)).trans hx207_1; replace hx207_2 := (HB.out.cell (zH w _ hx207_2)).trans hx207_2; have HR207_2 := zN hi207_2; have HC207_2 := zN hl207_2; clear hi207_2 hl207_2; replace p207 := eq_true p207; replace q207 := eq_true q207; have ea_ := Option.some.inj (hx205_2.symm.trans hx207_2); injection ea_ with ea_ en_ ec_; subst ea_; subst ec_; clear en_) | (go_at_call 96; (with_reducible refine (spec_l00In.calls (wrap64 ((rd_T37 l0 0).f1)) 1 24 false _ A6.out).mono ?_); rintro e w' ⟨rfl, ⟨nd, rfl⟩⟩))
     go_meet
     case rel => exact ⟨_, (true), (by first | rfl | (simp; done) | (simp [*]; done) | (exact congrArg (Value.int .i64) (wrap_eq (by omega)))), H', ⟨by first | omega | exact Nat.le_refl _⟩, ⟨by repeat (first | (with_reducible first | exact HB.out | apply zA | apply zB | apply zC) | exact HB.out)⟩⟩
   ·replace c5 := Bool.eq_false_iff.mpr c5
    subst c5
    have H1 : (spec_l01Ok.j0 k l0 true) = some r := by rw [if_neg (show ¬ (false = true) by decide)] at H; exact H
    clear H
    have H := H1
    clear H1
    have H' := zN H
    clear H
    have p205 : 0 ≤ (0 : Int) := (by omega)
    have q205 : 0 < (l0.length : Int) := zJ (by first | (with_reducible assumption) | assumption)
    obtain ⟨ad205, A205_2, c205_2, e205, hx205_0, hx205_1, hx205_2, hl205_2, hi205_2⟩ := at_T37 HR0.out 0 p205 q205
    obtain rfl : adp0 = ad205 := (by injection e205)
    have qi205 : (0 < l0.length) = True := eq_true (by omega)
    (try rw [zI] at hx205_0)
    (try rw [Nat.zero_mul] at hx205_0)
    (try rw [Addr.add_zero'] at hx205_0)
    (try rw [zI] at hx205_1)
    (try rw [Nat.zero_mul] at hx205_1)
    (try rw [Addr.add_zero'] at hx205_1)
    (try rw [zI] at hx205_2)
    (try rw [Nat.zero_mul] at hx205_2)
    (try rw [Addr.add_zero'] at hx205_2)
    replace hx205_0 := (HB.out.cell (zH w _ hx205_0)).trans hx205_0
    replace hx205_1 := (HB.out.cell (zH w _ hx205_1)).trans hx205_1
    replace hx205_2 := (HB.out.cell (zH w _ hx205_2)).trans hx205_2
    have HR205_2 := zN hi205_2
    have HC205_2 := zN hl205_2
    clear hi205_2 hl205_2
    replace p205 := eq_true p205
    replace q205 := eq_true q205
    go_wp2_with (first | ((with_reducible refine gate_callee (f := 96) rfl ?_); refine goesL_ (some 10) rfl rfl Try.func96 (by kernel_rfl) rfl #[.int .i64 (wrap64 ((rd_T37 l0 0).f0)), .int .i64 1, .int .i64 24] rfl (by (try simp only [List.map_toArray, List.map_cons, List.map_nil]); first | done | rfl | (simp only [List.length_drop, List.length_take]; rfl)) ?_; (with_reducible refine (spec_l00In.calls (wrap64 ((rd_T37 l0 0).f0)) 1 24 false _ A4.out).mono ?_); rintro e w' ⟨rfl, ⟨nd, rfl⟩⟩; refine ⟨_, rfl, ?_⟩))
    go_meet
    case rel => exact ⟨_, (true), (by first | rfl | (simp; done) | (simp [*]; done) | (exact congrArg (Value.int .i64) (wrap_eq (by omega)))), H', ⟨by first | omega | exact Nat.le_refl _⟩, ⟨by repeat (first | (with_reducible first | exact HB.out | apply zA | apply zB | apply zC) | exact HB.out)⟩⟩
  ·rw [if_neg c3] at H
   exact absurd H (by simp)
 case rest =>
  clear HC2
  try clear c1
  try clear c2
  try clear p2
  try clear q2
  try clear hx2
  try clear qi2
  try clear c3
  try clear c3b0
  try clear c3b1
  try clear c5
  try clear p6
  try clear c7
  try clear hx205_0
  try clear hx205_1
  try clear hx205_2
  try clear hx207_0
  try clear hx207_1
  try clear hx207_2
  try clear hx209_0
  try clear hx209_1
  try clear hx209_2
  try clear p205
  try clear p207
  try clear p209
  try clear q205
  try clear q207
  try clear q209
  obtain ⟨kq, x28_1, rfl, HA, HJ1, HB⟩ := hcut
  cases kq with
  | zero => exact absurd HA.out (by simp [spec_l01Ok.j0])
  | succ kj1 =>
   have H := HA.out
   clear HA
   simp only [spec_l01Ok.j0] at H
   by_cases c8 : x28_1 = true
   ·subst c8
    have H1 : (some false) = some r := by rw [if_pos rfl] at H; exact H
    clear H
    have H := H1
    clear H1
    obtain rfl := Option.some.inj H
    go_wp2
    go_ret
    exact ⟨by first | rfl | (simp [errW_none, errW_some] <;> rfl) | (simp [*, errW_none, errW_some] <;> rfl), by repeat (first | (with_reducible first | exact HB.out | apply zA | apply zB | apply zC) | exact HB.out)⟩
   ·replace c8 := Bool.eq_false_iff.mpr c8
    subst c8
    have H1 : (spec_l01Ok.l0 kj1 l0 0) = some r := by rw [if_neg (show ¬ (false = true) by decide)] at H; exact H
    clear H
    have H := H1
    clear H1
    have H' := zN H
    clear H
    go_wp2
    go_loopg [3] kj1 (fun kq v3 w' => ∃ (x3_2 : Int), v3 = .int .i64 x3_2 ∧ Aside0 (spec_l01Ok.l0 kq l0 x3_2 = some r) ∧ Aside0 (kq ≤ kj1) ∧ Aside0 (Below w.heap.size w w'))
    case atStart => exact ⟨(0), (by first | rfl | (simp; done) | (simp [*]; done) | (exact congrArg (Value.int .i64) (wrap_eq (by omega)))), H', ⟨Nat.le_refl _⟩, ⟨by repeat (first | (with_reducible first | exact HB.out | apply zA | apply zB | apply zC) | exact HB.out)⟩⟩
    case round =>
     clear H'
     try clear c1
     try clear c2
     try clear p2
     try clear q2
     try clear hx2
     try clear qi2
     try clear c3
     try clear c3b0
     try clear c3b1
     try clear c5
     try clear p6
     try clear c7
     try clear c8
     try clear hx205_0
     try clear hx205_1
     try clear hx205_2
     try clear hx207_0
     try clear hx207_1
     try clear hx207_2
     try clear hx209_0
     try clear hx209_1
     try clear hx209_2
     try clear p2
     try clear p205
     try clear p207
     try clear p209
     try clear p6
     try clear q2
     try clear q205
     try clear q207
     try clear q209
     obtain ⟨x3_2, rfl, HA, HK2, HB⟩ := hrel
     cases gk with
     | zero => exact absurd HA.out (by simp [spec_l01Ok.l0])
     | succ k2 =>
      have H := HA.out
      clear HA
      simp only [spec_l01Ok.l0] at H
      by_cases c9 : 0 < (l0.length : Int)
      ·rw [if_pos c9] at H
       have c9b0 : decide (0 < (l0.length : Int)) = true := decide_eq_true c9
       have c9b1 : decide (0 < l0.length) = true := decide_eq_true (by omega)
       clear c9
       by_cases c10 : x3_2 < (((rd_T37 l0 0).f2).length : Int)
       ·rw [if_pos c10] at H
        have c10b0 : decide (x3_2 < (((rd_T37 l0 0).f2).length : Int)) = true := decide_eq_true c10
        clear c10
        by_cases c11 : 0 ≤ x3_2
        ·rw [if_pos c11] at H
         have c11b0 : decide (0 ≤ x3_2) = true := decide_eq_true c11
         clear c11
         replace H := Option.bind_eq_some_iff.mp H
         obtain ⟨t213, A120, H⟩ := H
         replace H : (if t213 = true then ((spec_l01In.f ((rd_T91 ((rd_T37 l0 0).f2) x3_2).f0.f0) ((rd_T91 ((rd_T37 l0 0).f2) x3_2).f0.f1) (wrap64 ((rd_T37 l0 0).f0)) (wrap64 ((rd_T37 l0 0).f1))).bind fun t217 => (if t217 = true then ((spec_l01Find.f k2 l0 ((rd_T91 ((rd_T37 l0 0).f2) x3_2).f0.f0) ((rd_T91 ((rd_T37 l0 0).f2) x3_2).f0.f1)).bind fun t219 => (if t219 = x3_2 then (spec_l01Ok.l0 k2 l0 (wrap64 (x3_2 + 1))) else (some false))) else (some false))) else (some false)) = some r := H
         have A12 := zN A120
         clear A120
         by_cases c13 : t213 = true
         ·subst c13
          have H1 : ((spec_l01In.f ((rd_T91 ((rd_T37 l0 0).f2) x3_2).f0.f0) ((rd_T91 ((rd_T37 l0 0).f2) x3_2).f0.f1) (wrap64 ((rd_T37 l0 0).f0)) (wrap64 ((rd_T37 l0 0).f1))).bind fun t217 => (if t217 = true then ((spec_l01Find.f k2 l0 ((rd_T91 ((rd_T37 l0 0).f2) x3_2).f0.f0) ((rd_T91 ((rd_T37 l0 0).f2) x3_2).f0.f1)).bind fun t219 => (if t219 = x3_2 then (spec_l01Ok.l0 k2 l0 (wrap64 (x3_2 + 1))) else (some false))) else (some false))) = some r := by rw [if_pos rfl] at H; exact H
          clear H
          have H := H1
          clear H1
          replace H := Option.bind_eq_some_iff.mp H
          obtain ⟨t217, A140, H⟩ := H
          replace H : (if t217 = true then ((spec_l01Find.f k2 l0 ((rd_T91 ((rd_T37 l0 0).f2) x3_2).f0.f0) ((rd_T91 ((rd_T37 l0 0).f2) x3_2).f0.f1)).bind fun t219 => (if t219 = x3_2 then (spec_l01Ok.l0 k2 l0 (wrap64 (x3_2 + 1))) else (some false))) else (some false)) = some r := H
          have A14 := zN A140
          clear A140
          by_cases c15 : t217 = true
          ·subst c15
           have H1 : ((spec_l01Find.f k2 l0 ((rd_T91 ((rd_T37 l0 0).f2) x3_2).f0.f0) ((rd_T91 ((rd_T37 l0 0).f2) x3_2).f0.f1)).bind fun t219 => (if t219 = x3_2 then (spec_l01Ok.l0 k2 l0 (wrap64 (x3_2 + 1))) else (some false))) = some r := by rw [if_pos rfl] at H; exact H
           clear H
           have H := H1
           clear H1
           replace H := Option.bind_eq_some_iff.mp H
           obtain ⟨t219, A160, H⟩ := H
           replace H : (if t219 = x3_2 then (spec_l01Ok.l0 k2 l0 (wrap64 (x3_2 + 1))) else (some false)) = some r := H
           have A16 := zN A160
           clear A160
           by_cases c17 : t219 = x3_2
           ·rw [if_pos c17] at H
            have c17b0 : (t219 == x3_2) = true := beq_iff_eq.mpr c17
            have c17b1 : (t219 != x3_2) = false := bne_eq_false_iff_eq.mpr c17
            clear c17
            have H' := zN H
            clear H
            have p210 : 0 ≤ (0 : Int) := (by omega)
            have q210 : 0 < (l0.length : Int) := zJ (by first | (with_reducible assumption) | assumption)
            obtain ⟨ad210, A210_2, c210_2, e210, hx210_0, hx210_1, hx210_2, hl210_2, hi210_2⟩ := at_T37 HR0.out 0 p210 q210
            obtain rfl : adp0 = ad210 := (by injection e210)
            have qi210 : (0 < l0.length) = True := eq_true (by omega)
            (try rw [zI] at hx210_0)
            (try rw [Nat.zero_mul] at hx210_0)
            (try rw [Addr.add_zero'] at hx210_0)
            (try rw [zI] at hx210_1)
            (try rw [Nat.zero_mul] at hx210_1)
            (try rw [Addr.add_zero'] at hx210_1)
            (try rw [zI] at hx210_2)
            (try rw [Nat.zero_mul] at hx210_2)
            (try rw [Addr.add_zero'] at hx210_2)
            replace hx210_0 := (HB.out.cell (zH w _ hx210_0)).trans hx210_0
            replace hx210_1 := (HB.out.cell (zH w _ hx210_1)).trans hx210_1
            replace hx210_2 := (HB.out.cell (zH w _ hx210_2)).trans hx210_2
            have HR210_2 := zN hi210_2
            have HC210_2 := zN hl210_2
            clear hi210_2 hl210_2
            replace p210 := eq_true p210
            replace q210 := eq_true q210
            have p211 : 0 ≤ (0 : Int) := (by omega)
            have q211 : 0 < (l0.length : Int) := zJ (by first | (with_reducible assumption) | assumption)
            obtain ⟨ad211, A211_2, c211_2, e211, hx211_0, hx211_1, hx211_2, hl211_2, hi211_2⟩ := at_T37 HR0.out 0 p211 q211
            obtain rfl : adp0 = ad211 := (by injection e211)
            have qi211 : (0 < l0.length) = True := eq_true (by omega)
            (try rw [zI] at hx211_0)
            (try rw [Nat.zero_mul] at hx211_0)
            (try rw [Addr.add_zero'] at hx211_0)
            (try rw [zI] at hx211_1)
            (try rw [Nat.zero_mul] at hx211_1)
            (try rw [Addr.add_zero'] at hx211_1)
            (try rw [zI] at hx211_2)
            (try rw [Nat.zero_mul] at hx211_2)
            (try rw [Addr.add_zero'] at hx211_2)
            replace hx211_0 := (HB.out.cell (zH w _ hx211_0)).trans hx211_0
            replace hx211_1 := (HB.out.cell (zH w _ hx211_1)).trans hx211_1
            replace hx211_2 := (HB.out.cell (zH w _ hx211_2)).trans hx211_2
            have HR211_2 := zN hi211_2
            have HC211_2 := zN hl211_2
            clear hi211_2 hl211_2
            replace p211 := eq_true p211
            replace q211 := eq_true q211
            have ea_ := Option.some.inj (hx210_2.symm.trans hx211_2)
            injection ea_ with ea_ en_ ec_
            subst ea_
            subst ec_
            clear en_
            have p212 : 0 ≤ (x3_2 : Int) := zJ (by first | (with_reducible assumption) | assumption)
            have q212 : x3_2 < (((rd_T37 l0 0).f2).length : Int) := zJ (by first | (with_reducible assumption) | assumption)
            obtain ⟨ad212, e212, hx212_0, hx212_1, hx212_2, hx212_3, hx212_4⟩ := at_T91 HR211_2.out x3_2 p212 q212
            cases e212
            replace hx212_0 := (HB.out.cell (zH w _ hx212_0)).trans hx212_0
            replace hx212_1 := (HB.out.cell (zH w _ hx212_1)).trans hx212_1
            replace hx212_2 := (HB.out.cell (zH w _ hx212_2)).trans hx212_2
            replace hx212_3 := (HB.out.cell (zH w _ hx212_3)).trans hx212_3
            replace hx212_4 := (HB.out.cell (zH w _ hx212_4)).trans hx212_4
            replace p212 := eq_true p212
            replace q212 := eq_true q212
            try go_wp2
            have n0_ := zN (zC HB.out)
            clear HB
            have HB := n0_
            clear n0_
            have p214 : 0 ≤ (x3_2 : Int) := zJ (by first | (with_reducible assumption) | assumption)
            have q214 : x3_2 < (((rd_T37 l0 0).f2).length : Int) := zJ (by first | (with_reducible assumption) | assumption)
            obtain ⟨ad214, e214, hx214_0, hx214_1, hx214_2, hx214_3, hx214_4⟩ := at_T91 HR211_2.out x3_2 p214 q214
            have hw214_4 := hx214_4
            have hw214_3 := hx214_3
            have hw214_2 := hx214_2
            have hw214_1 := hx214_1
            have hw214_0 := hx214_0
            obtain rfl : ad212 = ad214 := (by injection e214)
            replace hx214_0 := (HB.out.cell (zH w _ hx214_0)).trans hx214_0
            replace hx214_1 := (HB.out.cell (zH w _ hx214_1)).trans hx214_1
            replace hx214_2 := (HB.out.cell (zH w _ hx214_2)).trans hx214_2
            replace hx214_3 := (HB.out.cell (zH w _ hx214_3)).trans hx214_3
            replace hx214_4 := (HB.out.cell (zH w _ hx214_4)).trans hx214_4
            replace p214 := eq_true p214
            replace q214 := eq_true q214
            have p215 : 0 ≤ (0 : Int) := (by omega)
            have q215 : 0 < (l0.length : Int) := zJ (by first | (with_reducible assumption) | assumption)
            obtain ⟨ad215, A215_2, c215_2, e215, hx215_0, hx215_1, hx215_2, hl215_2, hi215_2⟩ := at_T37 HR0.out 0 p215 q215
            have hw215_2 := hx215_2
            (try rw [zI] at hw215_2)
            (try rw [Nat.zero_mul] at hw215_2)
            (try rw [Addr.add_zero'] at hw215_2)
            have hw215_1 := hx215_1
            (try rw [zI] at hw215_1)
            (try rw [Nat.zero_mul] at hw215_1)
            (try rw [Addr.add_zero'] at hw215_1)
            have hw215_0 := hx215_0
            (try rw [zI] at hw215_0)
            (try rw [Nat.zero_mul] at hw215_0)
            (try rw [Addr.add_zero'] at hw215_0)
            obtain rfl : adp0 = ad215 := (by injection e215)
            have qi215 : (0 < l0.length) = True := eq_true (by omega)
            (try rw [zI] at hx215_0)
            (try rw [Nat.zero_mul] at hx215_0)
            (try rw [Addr.add_zero'] at hx215_0)
            (try rw [zI] at hx215_1)
            (try rw [Nat.zero_mul] at hx215_1)
            (try rw [Addr.add_zero'] at hx215_1)
            (try rw [zI] at hx215_2)
            (try rw [Nat.zero_mul] at hx215_2)
            (try rw [Addr.add_zero'] at hx215_2)
            replace hx215_0 := (HB.out.cell (zH w _ hx215_0)).trans hx215_0
            replace hx215_1 := (HB.out.cell (zH w _ hx215_1)).trans hx215_1
            replace hx215_2 := (HB.out.cell (zH w _ hx215_2)).trans hx215_2
            have HR215_2 := zN hi215_2
            have HC215_2 := zN hl215_2
            clear hi215_2 hl215_2
            replace p215 := eq_true p215
            replace q215 := eq_true q215
            have p216 : 0 ≤ (0 : Int) := (by omega)
            have q216 : 0 < (l0.length : Int) := zJ (by first | (with_reducible assumption) | assumption)
            obtain ⟨ad216, A216_2, c216_2, e216, hx216_0, hx216_1, hx216_2, hl216_2, hi216_2⟩ := at_T37 HR0.out 0 p216 q216
            have hw216_2 := hx216_2
            (try rw [zI] at hw216_2)
            (try rw [Nat.zero_mul] at hw216_2)
            (try rw [Addr.add_zero'] at hw216_2)
            have hw216_1 := hx216_1
            (try rw [zI] at hw216_1)
            (try rw [Nat.zero_mul] at hw216_1)
            (try rw [Addr.add_zero'] at hw216_1)
            have hw216_0 := hx216_0
            (try rw [zI] at hw216_0)
            (try rw [Nat.zero_mul] at hw216_0)
            (try rw [Addr.add_zero'] at hw216_0)
            obtain rfl : adp0 = ad216 := (by injection e216)
            have qi216 : (0 < l0.length) = True := eq_true (by omega)
            (try rw [zI] at hx216_0)
            (try rw [Nat.zero_mul] at hx216_0)
            (try rw [Addr.add_zero'] at hx216_0)
            (try rw [zI] at hx216_1)
            (try rw [Nat.zero_mul] at hx216_1)
            (try rw [Addr.add_zero'] at hx216_1)
            (try rw [zI] at hx216_2)
            (try rw [Nat.zero_mul] at hx216_2)
            (try rw [Addr.add_zero'] at hx216_2)
            replace hx216_0 := (HB.out.cell (zH w _ hx216_0)).trans hx216_0
            replace hx216_1 := (HB.out.cell (zH w _ hx216_1)).trans hx216_1
            replace hx216_2 := (HB.out.cell (zH w _ hx216_2)).trans hx216_2
            have HR216_2 := zN hi216_2
            have HC216_2 := zN hl216_2
            clear hi216_2 hl216_2
            replace p216 := eq_true p216
            replace q216 := eq_true q216
            have ea_ := Option.some.inj (hx215_2.symm.trans hx216_2)
            injection ea_ with ea_ en_ ec_
            subst ea_
            subst ec_
            clear en_
            have p218 : 0 ≤ (x3_2 : Int) := zJ (by first | (with_reducible assumption) | assumption)
            have q218 : x3_2 < (((rd_T37 l0 0).f2).length : Int) := zJ (by first | (with_reducible assumption) | assumption)
            obtain ⟨ad218, e218, hx218_0, hx218_1, hx218_2, hx218_3, hx218_4⟩ := at_T91 HR211_2.out x3_2 p218 q218
            have hw218_4 := hx218_4
            have hw218_3 := hx218_3
            have hw218_2 := hx218_2
            have hw218_1 := hx218_1
            have hw218_0 := hx218_0
            obtain rfl : ad212 = ad218 := (by injection e218)
            replace hx218_0 := (HB.out.cell (zH w _ hx218_0)).trans hx218_0
            replace hx218_1 := (HB.out.cell (zH w _ hx218_1)).trans hx218_1
            replace hx218_2 := (HB.out.cell (zH w _ hx218_2)).trans hx218_2
            replace hx218_3 := (HB.out.cell (zH w _ hx218_3)).trans hx218_3
            replace hx218_4 := (HB.out.cell (zH w _ hx218_4)).trans hx218_4
            replace p218 := eq_true p218
            replace q218 := eq_true q218
            refine start_ (n := 31) (S := fun w' => w'.cell? (ad212.add ((x3_2).toNat * 5)) = some (.int .i8 ((rd_T91 ((rd_T37 l0 0).f2) x3_2).f0.f0)) ∧ w'.cell? ⟨(ad212.add ((x3_2).toNat * 5)).block, (ad212.add ((x3_2).toNat * 5)).off + 1, none⟩ = some (.int .i8 ((rd_T91 ((rd_T37 l0 0).f2) x3_2).f0.f1)) ∧ w'.cell? ⟨(ad212.add ((x3_2).toNat * 5)).block, (ad212.add ((x3_2).toNat * 5)).off + 2, none⟩ = some (.int .i8 ((rd_T91 ((rd_T37 l0 0).f2) x3_2).f1)) ∧ w'.cell? ⟨(ad212.add ((x3_2).toNat * 5)).block, (ad212.add ((x3_2).toNat * 5)).off + 3, none⟩ = some (.int .i8 ((rd_T91 ((rd_T37 l0 0).f2) x3_2).f2)) ∧ w'.cell? ⟨(ad212.add ((x3_2).toNat * 5)).block, (ad212.add ((x3_2).toNat * 5)).off + 4, none⟩ = some (.int .i8 ((rd_T91 ((rd_T37 l0 0).f2) x3_2).f3)) ∧ w'.cell? adp0 = some (.int .i8 ((rd_T37 l0 0).f0)) ∧ w'.cell? ⟨adp0.block, adp0.off + 1, none⟩ = some (.int .i8 ((rd_T37 l0 0).f1)) ∧ w'.cell? ⟨adp0.block, adp0.off + 2, none⟩ = some (.slice A215_2 ((rd_T37 l0 0).f2).length c215_2) ∧ w'.cell? adp0 = some (.int .i8 ((rd_T37 l0 0).f0)) ∧ w'.cell? ⟨adp0.block, adp0.off + 1, none⟩ = some (.int .i8 ((rd_T37 l0 0).f1)) ∧ w'.cell? ⟨adp0.block, adp0.off + 2, none⟩ = some (.slice A215_2 ((rd_T37 l0 0).f2).length c215_2) ∧ w'.cell? (ad212.add ((x3_2).toNat * 5)) = some (.int .i8 ((rd_T91 ((rd_T37 l0 0).f2) x3_2).f0.f0)) ∧ w'.cell? ⟨(ad212.add ((x3_2).toNat * 5)).block, (ad212.add ((x3_2).toNat * 5)).off + 1, none⟩ = some (.int .i8 ((rd_T91 ((rd_T37 l0 0).f2) x3_2).f0.f1)) ∧ w'.cell? ⟨(ad212.add ((x3_2).toNat * 5)).block, (ad212.add ((x3_2).toNat * 5)).off + 2, none⟩ = some (.int .i8 ((rd_T91 ((rd_T37 l0 0).f2) x3_2).f1)) ∧ w'.cell? ⟨(ad212.add ((x3_2).toNat * 5)).block, (ad212.add ((x3_2).toNat * 5)).off + 3, none⟩ = some (.int .i8 ((rd_T91 ((rd_T37 l0 0).f2) x3_2).f2)) ∧ w'.cell? ⟨(ad212.add ((x3_2).toNat * 5)).block, (ad212.add ((x3_2).toNat * 5)).off + 4, none⟩ = some (.int .i8 ((rd_T91 ((rd_T37 l0 0).f2) x3_2).f3))) (ds := []) #[false, false, false, false, false, false, false, false, false, false, false, false, false, false, false, false, false, false, false, false, false, false, false, false, false, false, false, false, false, false, false] (by kernel_rfl) rfl rfl ⟨((HB.out.cell (zH w _ hw214_0)).trans hw214_0), ((HB.out.cell (zH w _ hw214_1)).trans hw214_1), ((HB.out.cell (zH w _ hw214_2)).trans hw214_2), ((HB.out.cell (zH w _ hw214_3)).trans hw214_3), ((HB.out.cell (zH w _ hw214_4)).trans hw214_4), ((HB.out.cell (zH w _ hw215_0)).trans hw215_0), ((HB.out.cell (zH w _ hw215_1)).trans hw215_1), ((HB.out.cell (zH w _ hw215_2)).trans hw215_2), ((HB.out.cell (zH w _ hw216_0)).trans hw216_0), ((HB.out.cell (zH w _ hw216_1)).trans hw216_1), ((HB.out.cell (zH w _ hw216_2)).trans hw216_2), ((HB.out.cell (zH w _ hw218_0)).trans hw218_0), ((HB.out.cell (zH w _ hw218_1)).trans hw218_1), ((HB.out.cell (zH w _ hw218_2)).trans hw218_2), ((HB.out.cell (zH w _ hw218_3)).trans hw218_3), ((HB.out.cell (zH w _ hw218_4)).trans hw218_4)⟩ (fun hHeld => ?_); refine with_tabW spec_l01Ok.tab7 spec_l01Ok.bits7 (fun HT_ HW_ => ?_)
            generalize wr.drew = w18 at HB HR215_2 HR216_2 hx214_0 hx214_1 hx214_2 hx214_3 hx214_4 hx215_0 hx215_1 hx215_2 hx216_0 hx216_1 hx216_2 hx218_0 hx218_1 hx218_2 hx218_3 hx218_4 hHeld ⊢
            refine pure_ (i := 0) (N := some 44) (v := ?_) (a' := ?_) #[true, false, false, false, false, false, false, false, false, false, false, false, false, false, false, false, false, false, false, false, false, false, false, false, false, false, false, false, false, false, false] rfl rfl (any_of HT_.out (by kernel_rfl)) (fun _ _ _ h => h) (Or.inl ⟨by rfl, ?_⟩) ?_ ?_
            rotate_left
            ·intro w'
             go_simp
             with_reducible rfl
            rotate_left
            ·simp only [Act.put, List.setIfInBounds_toArray, List.set_cons_zero, List.set_cons_succ, i64_w, i32_w]
             rfl
            refine one_ (i := 1) (N := some 45) #[true, true, false, false, false, false, false, false, false, false, false, false, false, false, false, false, false, false, false, false, false, false, false, false, false, false, false, false, false, false, false] rfl rfl (one_of HT_.out (by kernel_rfl)) (by decide) (fun K hK => ?_)
            refine goes_ Try.func132 (by kernel_rfl) rfl #[.pointer (some (ad212.add (x3_2.toNat * 5)))] (by rfl) rfl rfl (by (try simp only [List.map_toArray, List.map_cons, List.map_nil]); first | done | rfl | (simp only [List.length_drop, List.length_take]; rfl)) ?_
            with_reducible refine (spec_l01Piece.calls _ [rd_T91 ((rd_T37 l0 0).f2) x3_2] true _ ?side1 A12.out).mono ?_
            (case side1 => refine ro_of_elem (d := k91) z91 x3_2 (by first | exact of_eq_true p212 | omega) (by first | exact of_eq_true q212 | omega) ?_; repeat (first | exact (Kd.C_below HR211_2.out HB.out) | (with_reducible refine Kd.C_alloc ?_ _) | (with_reducible refine Kd.C_drewN ?_ _) | (with_reducible refine Kd.C_drew ?_)))
            rintro e w19 ⟨rfl, hb⟩
            refine ⟨_, rfl, ?_⟩
            have n0_ := zN (below_step (by repeat (first | (with_reducible first | exact HB.out | apply zA | apply zB | apply zC) | exact HB.out)) hb)
            clear HB
            have HB := n0_
            clear n0_
            (try clear hb)
            (try clear hb2)
            (try clear hk)
            (try clear hi)
            refine hK.out _ _ ⟨((HB.out.cell (zH w _ hw214_0)).trans hw214_0), ((HB.out.cell (zH w _ hw214_1)).trans hw214_1), ((HB.out.cell (zH w _ hw214_2)).trans hw214_2), ((HB.out.cell (zH w _ hw214_3)).trans hw214_3), ((HB.out.cell (zH w _ hw214_4)).trans hw214_4), ((HB.out.cell (zH w _ hw215_0)).trans hw215_0), ((HB.out.cell (zH w _ hw215_1)).trans hw215_1), ((HB.out.cell (zH w _ hw215_2)).trans hw215_2), ((HB.out.cell (zH w _ hw216_0)).trans hw216_0), ((HB.out.cell (zH w _ hw216_1)).trans hw216_1), ((HB.out.cell (zH w _ hw216_2)).trans hw216_2), ((HB.out.cell (zH w _ hw218_0)).trans hw218_0), ((HB.out.cell (zH w _ hw218_1)).trans hw218_1), ((HB.out.cell (zH w _ hw218_2)).trans hw218_2), ((HB.out.cell (zH w _ hw218_3)).trans hw218_3), ((HB.out.cell (zH w _ hw218_4)).trans hw218_4)⟩ (fun hHeld => ?_)
            clear hK K
            refine norm_ (a' := ?_) ?_ ?_
            rotate_left
            ·show Act.put _ (some 45) _ = _
             simp only [Act.put, List.setIfInBounds_toArray, List.set_cons_zero, List.set_cons_succ, i64_w, i32_w]
             rfl
            refine pure_ (i := 2) (N := some 46) (v := ?_) (a' := ?_) #[true, true, true, false, false, false, false, false, false, false, false, false, false, false, false, false, false, false, false, false, false, false, false, false, false, false, false, false, false, false, false] rfl rfl (any_of HT_.out (by kernel_rfl)) (fun _ _ _ h => h) (Or.inl ⟨by rfl, ?_⟩) ?_ ?_
            rotate_left
            ·intro w'
             go_simp
             with_reducible rfl
            rotate_left
            ·simp only [Act.put, List.setIfInBounds_toArray, List.set_cons_zero, List.set_cons_succ, i64_w, i32_w]
             rfl
            refine pure_ (i := 3) (N := some 47) (v := ?_) (a' := ?_) #[true, true, true, true, false, false, false, false, false, false, false, false, false, false, false, false, false, false, false, false, false, false, false, false, false, false, false, false, false, false, false] rfl rfl (any_of HT_.out (by kernel_rfl)) (fun _ _ _ h => h) (Or.inl ⟨by rfl, ?_⟩) ?_ ?_
            rotate_left
            ·intro w'
             go_simp
             with_reducible rfl
            rotate_left
            ·simp only [Act.put, List.setIfInBounds_toArray, List.set_cons_zero, List.set_cons_succ, i64_w, i32_w]
             rfl
            refine pure_ (i := 4) (N := some 48) (v := ?_) (a' := ?_) #[true, true, true, true, true, false, false, false, false, false, false, false, false, false, false, false, false, false, false, false, false, false, false, false, false, false, false, false, false, false, false] rfl rfl (any_of HT_.out (by kernel_rfl)) (fun _ _ _ h => h) (Or.inl ⟨by rfl, ?_⟩) ?_ ?_
            rotate_left
            ·intro w'
             go_simp
             with_reducible rfl
            rotate_left
            ·simp only [Act.put, List.setIfInBounds_toArray, List.set_cons_zero, List.set_cons_succ, i64_w, i32_w]
             rfl
            refine pure_ (i := 5) (N := some 49) (v := ?_) (a' := ?_) #[true, true, true, true, true, true, false, false, false, false, false, false, false, false, false, false, false, false, false, false, false, false, false, false, false, false, false, false, false, false, false] rfl rfl (any_of HT_.out (by kernel_rfl)) (fun _ _ _ h => h) (Or.inl ⟨by rfl, ?_⟩) ?_ ?_
            rotate_left
            ·intro w'
             go_simp
             with_reducible rfl
            rotate_left
            ·simp only [Act.put, List.setIfInBounds_toArray, List.set_cons_zero, List.set_cons_succ, i64_w, i32_w]
             rfl
            refine pure_ (i := 6) (N := some 50) (v := ?_) (a' := ?_) #[true, true, true, true, true, true, true, false, false, false, false, false, false, false, false, false, false, false, false, false, false, false, false, false, false, false, false, false, false, false, false] rfl rfl (any_of HT_.out (by kernel_rfl)) (fun _ _ _ h => h) (Or.inl ⟨by rfl, ?_⟩) ?_ ?_
            rotate_left
            ·intro w'
             go_simp
             with_reducible rfl
            rotate_left
            ·simp only [Act.put, List.setIfInBounds_toArray, List.set_cons_zero, List.set_cons_succ, i64_w, i32_w]
             rfl
            refine pure_ (i := 8) (N := some 52) (v := ?_) (a' := ?_) #[true, true, true, true, true, true, true, false, true, false, false, false, false, false, false, false, false, false, false, false, false, false, false, false, false, false, false, false, false, false, false] rfl rfl (any_of HT_.out (by kernel_rfl)) (fun _ _ _ h => h) (Or.inl ⟨by rfl, ?_⟩) ?_ ?_
            rotate_left
            ·intro w'
             go_simp
             with_reducible rfl
            rotate_left
            ·simp only [Act.put, List.setIfInBounds_toArray, List.set_cons_zero, List.set_cons_succ, i64_w, i32_w]
             rfl
            refine pure_ (i := 9) (N := some 53) (v := ?_) (a' := ?_) #[true, true, true, true, true, true, true, false, true, true, false, false, false, false, false, false, false, false, false, false, false, false, false, false, false, false, false, false, false, false, false] rfl rfl (any_of HT_.out (by kernel_rfl)) (fun _ _ _ h => h) (Or.inl ⟨by rfl, ?_⟩) ?_ ?_
            rotate_left
            ·intro w'
             go_simp
             with_reducible rfl
            rotate_left
            ·simp only [Act.put, List.setIfInBounds_toArray, List.set_cons_zero, List.set_cons_succ, i64_w, i32_w]
             rfl
            refine pure_ (i := 10) (N := some 54) (v := ?_) (a' := ?_) #[true, true, true, true, true, true, true, false, true, true, true, false, false, false, false, false, false, false, false, false, false, false, false, false, false, false, false, false, false, false, false] rfl rfl (any_of HT_.out (by kernel_rfl)) (fun _ _ _ h => h) (Or.inl ⟨by rfl, ?_⟩) ?_ ?_
            rotate_left
            ·intro w'
             go_simp
             with_reducible rfl
            rotate_left
            ·simp only [Act.put, List.setIfInBounds_toArray, List.set_cons_zero, List.set_cons_succ, i64_w, i32_w]
             rfl
            refine pure_ (i := 13) (N := some 57) (v := ?_) (a' := ?_) #[true, true, true, true, true, true, true, false, true, true, true, false, false, true, false, false, false, false, false, false, false, false, false, false, false, false, false, false, false, false, false] rfl rfl (any_of HT_.out (by kernel_rfl)) (fun _ _ _ h => h) (Or.inl ⟨by rfl, ?_⟩) ?_ ?_
            rotate_left
            ·intro w'
             go_simp
             with_reducible rfl
            rotate_left
            ·simp only [Act.put, List.setIfInBounds_toArray, List.set_cons_zero, List.set_cons_succ, i64_w, i32_w]
             rfl
            refine pure_ (i := 14) (N := some 58) (v := ?_) (a' := ?_) #[true, true, true, true, true, true, true, false, true, true, true, false, false, true, true, false, false, false, false, false, false, false, false, false, false, false, false, false, false, false, false] rfl rfl (any_of HT_.out (by kernel_rfl)) (fun _ _ _ h => h) (Or.inl ⟨by rfl, ?_⟩) ?_ ?_
            rotate_left
            ·intro w'
             go_simp
             with_reducible rfl
            rotate_left
            ·simp only [Act.put, List.setIfInBounds_toArray, List.set_cons_zero, List.set_cons_succ, i64_w, i32_w]
             rfl
            refine pure_ (i := 15) (N := some 59) (v := ?_) (a' := ?_) #[true, true, true, true, true, true, true, false, true, true, true, false, false, true, true, true, false, false, false, false, false, false, false, false, false, false, false, false, false, false, false] rfl rfl (any_of HT_.out (by kernel_rfl)) (fun _ _ _ h => h) (Or.inl ⟨by rfl, ?_⟩) ?_ ?_
            rotate_left
            ·intro w'
             go_simp
             with_reducible rfl
            rotate_left
            ·simp only [Act.put, List.setIfInBounds_toArray, List.set_cons_zero, List.set_cons_succ, i64_w, i32_w]
             rfl
            refine take_ (i := 7) (N := some 51) (v := ?_) (a' := ?_) #[true, true, true, true, true, true, true, true, true, true, true, false, false, true, true, true, false, false, false, false, false, false, false, false, false, false, false, false, false, false, false] rfl rfl (take_ofW HT_.out HW_.out (by kernel_rfl)) (fun _ _ _ h => h) (Or.inl ⟨by rfl, ?_⟩) hHeld ?_ ?_
            rotate_left
            ·rintro w' ⟨s0, s1, s2, s3, s4, s5, s6, s7, s8, s9, s10, s11, s12, s13, s14, s15⟩
             go_simp
             with_reducible rfl
            rotate_left
            ·simp only [Act.put, List.setIfInBounds_toArray, List.set_cons_zero, List.set_cons_succ, i64_w, i32_w]
             rfl
            refine take_ (i := 11) (N := some 55) (v := ?_) (a' := ?_) #[true, true, true, true, true, true, true, true, true, true, true, true, false, true, true, true, false, false, false, false, false, false, false, false, false, false, false, false, false, false, false] rfl rfl (take_ofW HT_.out HW_.out (by kernel_rfl)) (fun _ _ _ h => h) (Or.inl ⟨by rfl, ?_⟩) hHeld ?_ ?_
            rotate_left
            ·rintro w' ⟨s0, s1, s2, s3, s4, s5, s6, s7, s8, s9, s10, s11, s12, s13, s14, s15⟩
             go_simp
             with_reducible rfl
            rotate_left
            ·simp only [Act.put, List.setIfInBounds_toArray, List.set_cons_zero, List.set_cons_succ, i64_w, i32_w]
             rfl
            refine pure_ (i := 12) (N := some 56) (v := ?_) (a' := ?_) #[true, true, true, true, true, true, true, true, true, true, true, true, true, true, true, true, false, false, false, false, false, false, false, false, false, false, false, false, false, false, false] rfl rfl (any_of HT_.out (by kernel_rfl)) (fun _ _ _ h => h) (Or.inl ⟨by rfl, ?_⟩) ?_ ?_
            rotate_left
            ·intro w'
             go_simp
             with_reducible rfl
            rotate_left
            ·simp only [Act.put, List.setIfInBounds_toArray, List.set_cons_zero, List.set_cons_succ, i64_w, i32_w]
             rfl
            refine take_ (i := 16) (N := some 60) (v := ?_) (a' := ?_) #[true, true, true, true, true, true, true, true, true, true, true, true, true, true, true, true, true, false, false, false, false, false, false, false, false, false, false, false, false, false, false] rfl rfl (take_ofW HT_.out HW_.out (by kernel_rfl)) (fun _ _ _ h => h) (Or.inl ⟨by rfl, ?_⟩) hHeld ?_ ?_
            rotate_left
            ·rintro w' ⟨s0, s1, s2, s3, s4, s5, s6, s7, s8, s9, s10, s11, s12, s13, s14, s15⟩
             go_simp
             with_reducible rfl
            rotate_left
            ·simp only [Act.put, List.setIfInBounds_toArray, List.set_cons_zero, List.set_cons_succ, i64_w, i32_w]
             rfl
            refine pure_ (i := 17) (N := some 61) (v := ?_) (a' := ?_) #[true, true, true, true, true, true, true, true, true, true, true, true, true, true, true, true, true, true, false, false, false, false, false, false, false, false, false, false, false, false, false] rfl rfl (any_of HT_.out (by kernel_rfl)) (fun _ _ _ h => h) (Or.inl ⟨by rfl, ?_⟩) ?_ ?_
            rotate_left
            ·intro w'
             go_simp
             with_reducible rfl
            rotate_left
            ·simp only [Act.put, List.setIfInBounds_toArray, List.set_cons_zero, List.set_cons_succ, i64_w, i32_w]
             rfl
            refine one_ (i := 18) (N := some 62) #[true, true, true, true, true, true, true, true, true, true, true, true, true, true, true, true, true, true, true, false, false, false, false, false, false, false, false, false, false, false, false] rfl rfl (one_of HT_.out (by kernel_rfl)) (by decide) (fun K hK => ?_)
            refine goes_ Try.func133 (by kernel_rfl) rfl #[.agg #[.int .i8 ((rd_T91 ((rd_T37 l0 0).f2) x3_2).f0.f0), .int .i8 ((rd_T91 ((rd_T37 l0 0).f2) x3_2).f0.f1)], .int .i64 (wrap64 ((rd_T37 l0 0).f0)), .int .i64 (wrap64 ((rd_T37 l0 0).f1))] (by rfl) rfl rfl (by (try simp only [List.map_toArray, List.map_cons, List.map_nil]); first | done | rfl | (simp only [List.length_drop, List.length_take]; rfl)) ?_
            with_reducible refine (spec_l01In.calls ((rd_T91 ((rd_T37 l0 0).f2) x3_2).f0.f0) ((rd_T91 ((rd_T37 l0 0).f2) x3_2).f0.f1) (wrap64 ((rd_T37 l0 0).f0)) (wrap64 ((rd_T37 l0 0).f1)) true _ A14.out).mono ?_
            rintro e w20 ⟨rfl, hb⟩
            refine ⟨_, rfl, ?_⟩
            have n0_ := zN (below_step (by repeat (first | (with_reducible first | exact HB.out | apply zA | apply zB | apply zC) | exact HB.out)) hb)
            clear HB
            have HB := n0_
            clear n0_
            (try clear hb)
            (try clear hb2)
            (try clear hk)
            (try clear hi)
            refine hK.out _ _ ⟨((HB.out.cell (zH w _ hw214_0)).trans hw214_0), ((HB.out.cell (zH w _ hw214_1)).trans hw214_1), ((HB.out.cell (zH w _ hw214_2)).trans hw214_2), ((HB.out.cell (zH w _ hw214_3)).trans hw214_3), ((HB.out.cell (zH w _ hw214_4)).trans hw214_4), ((HB.out.cell (zH w _ hw215_0)).trans hw215_0), ((HB.out.cell (zH w _ hw215_1)).trans hw215_1), ((HB.out.cell (zH w _ hw215_2)).trans hw215_2), ((HB.out.cell (zH w _ hw216_0)).trans hw216_0), ((HB.out.cell (zH w _ hw216_1)).trans hw216_1), ((HB.out.cell (zH w _ hw216_2)).trans hw216_2), ((HB.out.cell (zH w _ hw218_0)).trans hw218_0), ((HB.out.cell (zH w _ hw218_1)).trans hw218_1), ((HB.out.cell (zH w _ hw218_2)).trans hw218_2), ((HB.out.cell (zH w _ hw218_3)).trans hw218_3), ((HB.out.cell (zH w _ hw218_4)).trans hw218_4)⟩ (fun hHeld => ?_)
            clear hK K
            refine norm_ (a' := ?_) ?_ ?_
            rotate_left
            ·show Act.put _ (some 62) _ = _
             simp only [Act.put, List.setIfInBounds_toArray, List.set_cons_zero, List.set_cons_succ, i64_w, i32_w]
             rfl
            refine pure_ (i := 19) (N := some 63) (v := ?_) (a' := ?_) #[true, true, true, true, true, true, true, true, true, true, true, true, true, true, true, true, true, true, true, true, false, false, false, false, false, false, false, false, false, false, false] rfl rfl (any_of HT_.out (by kernel_rfl)) (fun _ _ _ h => h) (Or.inl ⟨by rfl, ?_⟩) ?_ ?_
            rotate_left
            ·intro w'
             go_simp
             with_reducible rfl
            rotate_left
            ·simp only [Act.put, List.setIfInBounds_toArray, List.set_cons_zero, List.set_cons_succ, i64_w, i32_w]
             rfl
            refine pure_ (i := 20) (N := some 64) (v := ?_) (a' := ?_) #[true, true, true, true, true, true, true, true, true, true, true, true, true, true, true, true, true, true, true, true, true, false, false, false, false, false, false, false, false, false, false] rfl rfl (any_of HT_.out (by kernel_rfl)) (fun _ _ _ h => h) (Or.inl ⟨by rfl, ?_⟩) ?_ ?_
            rotate_left
            ·intro w'
             go_simp
             with_reducible rfl
            rotate_left
            ·simp only [Act.put, List.setIfInBounds_toArray, List.set_cons_zero, List.set_cons_succ, i64_w, i32_w]
             rfl
            refine pure_ (i := 21) (N := some 65) (v := ?_) (a' := ?_) #[true, true, true, true, true, true, true, true, true, true, true, true, true, true, true, true, true, true, true, true, true, true, false, false, false, false, false, false, false, false, false] rfl rfl (any_of HT_.out (by kernel_rfl)) (fun _ _ _ h => h) (Or.inl ⟨by rfl, ?_⟩) ?_ ?_
            rotate_left
            ·intro w'
             go_simp
             with_reducible rfl
            rotate_left
            ·simp only [Act.put, List.setIfInBounds_toArray, List.set_cons_zero, List.set_cons_succ, i64_w, i32_w]
             rfl
            refine pure_ (i := 22) (N := some 66) (v := ?_) (a' := ?_) #[true, true, true, true, true, true, true, true, true, true, true, true, true, true, true, true, true, true, true, true, true, true, true, false, false, false, false, false, false, false, false] rfl rfl (any_of HT_.out (by kernel_rfl)) (fun _ _ _ h => h) (Or.inl ⟨by rfl, ?_⟩) ?_ ?_
            rotate_left
            ·intro w'
             go_simp
             with_reducible rfl
            rotate_left
            ·simp only [Act.put, List.setIfInBounds_toArray, List.set_cons_zero, List.set_cons_succ, i64_w, i32_w]
             rfl
            refine pure_ (i := 23) (N := some 67) (v := ?_) (a' := ?_) #[true, true, true, true, true, true, true, true, true, true, true, true, true, true, true, true, true, true, true, true, true, true, true, true, false, false, false, false, false, false, false] rfl rfl (any_of HT_.out (by kernel_rfl)) (fun _ _ _ h => h) (Or.inl ⟨by rfl, ?_⟩) ?_ ?_
            rotate_left
            ·intro w'
             go_simp
             with_reducible rfl
            rotate_left
            ·simp only [Act.put, List.setIfInBounds_toArray, List.set_cons_zero, List.set_cons_succ, i64_w, i32_w]
             rfl
            refine pure_ (i := 24) (N := some 68) (v := ?_) (a' := ?_) #[true, true, true, true, true, true, true, true, true, true, true, true, true, true, true, true, true, true, true, true, true, true, true, true, true, false, false, false, false, false, false] rfl rfl (any_of HT_.out (by kernel_rfl)) (fun _ _ _ h => h) (Or.inl ⟨by rfl, ?_⟩) ?_ ?_
            rotate_left
            ·intro w'
             go_simp
             with_reducible rfl
            rotate_left
            ·simp only [Act.put, List.setIfInBounds_toArray, List.set_cons_zero, List.set_cons_succ, i64_w, i32_w]
             rfl
            refine pure_ (i := 25) (N := some 69) (v := ?_) (a' := ?_) #[true, true, true, true, true, true, true, true, true, true, true, true, true, true, true, true, true, true, true, true, true, true, true, true, true, true, false, false, false, false, false] rfl rfl (any_of HT_.out (by kernel_rfl)) (fun _ _ _ h => h) (Or.inl ⟨by rfl, ?_⟩) ?_ ?_
            rotate_left
            ·intro w'
             go_simp
             with_reducible rfl
            rotate_left
            ·simp only [Act.put, List.setIfInBounds_toArray, List.set_cons_zero, List.set_cons_succ, i64_w, i32_w]
             rfl
            refine pure_ (i := 28) (N := some 72) (v := ?_) (a' := ?_) #[true, true, true, true, true, true, true, true, true, true, true, true, true, true, true, true, true, true, true, true, true, true, true, true, true, true, false, false, true, false, false] rfl rfl (any_of HT_.out (by kernel_rfl)) (fun _ _ _ h => h) (Or.inl ⟨by rfl, ?_⟩) ?_ ?_
            rotate_left
            ·intro w'
             go_simp
             with_reducible rfl
            rotate_left
            ·simp only [Act.put, List.setIfInBounds_toArray, List.set_cons_zero, List.set_cons_succ, i64_w, i32_w]
             rfl
            refine take_ (i := 26) (N := some 70) (v := ?_) (a' := ?_) #[true, true, true, true, true, true, true, true, true, true, true, true, true, true, true, true, true, true, true, true, true, true, true, true, true, true, true, false, true, false, false] rfl rfl (take_ofW HT_.out HW_.out (by kernel_rfl)) (fun _ _ _ h => h) (Or.inl ⟨by rfl, ?_⟩) hHeld ?_ ?_
            rotate_left
            ·rintro w' ⟨s0, s1, s2, s3, s4, s5, s6, s7, s8, s9, s10, s11, s12, s13, s14, s15⟩
             go_simp
             with_reducible rfl
            rotate_left
            ·simp only [Act.put, List.setIfInBounds_toArray, List.set_cons_zero, List.set_cons_succ, i64_w, i32_w]
             rfl
            refine one_ (i := 27) (N := some 71) #[true, true, true, true, true, true, true, true, true, true, true, true, true, true, true, true, true, true, true, true, true, true, true, true, true, true, true, true, true, false, false] rfl rfl (one_of HT_.out (by kernel_rfl)) (by decide) (fun K hK => ?_)
            refine goes_ Try.func111 (by kernel_rfl) rfl #[.pointer (some adp0), .agg #[.int .i8 ((rd_T91 ((rd_T37 l0 0).f2) x3_2).f0.f0), .int .i8 ((rd_T91 ((rd_T37 l0 0).f2) x3_2).f0.f1)]] (by rfl) rfl rfl (by (try simp only [List.map_toArray, List.map_cons, List.map_nil]); first | done | rfl | (simp only [List.length_drop, List.length_take]; rfl)) ?_
            with_reducible refine (spec_l01Find.calls k2 _ l0 ((rd_T91 ((rd_T37 l0 0).f2) x3_2).f0.f0) ((rd_T91 ((rd_T37 l0 0).f2) x3_2).f0.f1) t219 _ ?side1 A16.out).mono ?_
            (case side1 => repeat (first | exact (Kd.C_below HR0.out HB.out) | (with_reducible refine Kd.C_alloc ?_ _) | (with_reducible refine Kd.C_drewN ?_ _) | (with_reducible refine Kd.C_drew ?_)))
            rintro e w21 ⟨rfl, hb⟩
            refine ⟨_, rfl, ?_⟩
            have n0_ := zN (below_step (by repeat (first | (with_reducible first | exact HB.out | apply zA | apply zB | apply zC) | exact HB.out)) hb)
            clear HB
            have HB := n0_
            clear n0_
            (try clear hb)
            (try clear hb2)
            (try clear hk)
            (try clear hi)
            refine hK.out _ _ ⟨((HB.out.cell (zH w _ hw214_0)).trans hw214_0), ((HB.out.cell (zH w _ hw214_1)).trans hw214_1), ((HB.out.cell (zH w _ hw214_2)).trans hw214_2), ((HB.out.cell (zH w _ hw214_3)).trans hw214_3), ((HB.out.cell (zH w _ hw214_4)).trans hw214_4), ((HB.out.cell (zH w _ hw215_0)).trans hw215_0), ((HB.out.cell (zH w _ hw215_1)).trans hw215_1), ((HB.out.cell (zH w _ hw215_2)).trans hw215_2), ((HB.out.cell (zH w _ hw216_0)).trans hw216_0), ((HB.out.cell (zH w _ hw216_1)).trans hw216_1), ((HB.out.cell (zH w _ hw216_2)).trans hw216_2), ((HB.out.cell (zH w _ hw218_0)).trans hw218_0), ((HB.out.cell (zH w _ hw218_1)).trans hw218_1), ((HB.out.cell (zH w _ hw218_2)).trans hw218_2), ((HB.out.cell (zH w _ hw218_3)).trans hw218_3), ((HB.out.cell (zH w _ hw218_4)).trans hw218_4)⟩ (fun hHeld => ?_)
            clear hK K
            refine norm_ (a' := ?_) ?_ ?_
            rotate_left
            ·show Act.put _ (some 71) _ = _
             simp only [Act.put, List.setIfInBounds_toArray, List.set_cons_zero, List.set_cons_succ, i64_w, i32_w]
             rfl
            refine pure_ (i := 29) (N := some 73) (v := ?_) (a' := ?_) #[true, true, true, true, true, true, true, true, true, true, true, true, true, true, true, true, true, true, true, true, true, true, true, true, true, true, true, true, true, true, false] rfl rfl (any_of HT_.out (by kernel_rfl)) (fun _ _ _ h => h) (Or.inl ⟨by rfl, ?_⟩) ?_ ?_
            rotate_left
            ·intro w'
             go_simp
             with_reducible rfl
            rotate_left
            ·simp only [Act.put, List.setIfInBounds_toArray, List.set_cons_zero, List.set_cons_succ, i64_w, i32_w]
             rfl
            refine pure_ (i := 30) (N := some 74) (v := ?_) (a' := ?_) #[true, true, true, true, true, true, true, true, true, true, true, true, true, true, true, true, true, true, true, true, true, true, true, true, true, true, true, true, true, true, true] rfl rfl (any_of HT_.out (by kernel_rfl)) (fun _ _ _ h => h) (Or.inl ⟨by rfl, ?_⟩) ?_ ?_
            rotate_left
            ·intro w'
             go_simp
             with_reducible rfl
            rotate_left
            ·simp only [Act.put, List.setIfInBounds_toArray, List.set_cons_zero, List.set_cons_succ, i64_w, i32_w]
             rfl
            refine done_ (done_of HT_.out (by kernel_rfl)) ?_
            try go_wp2
            go_roundg k2
            case measure => have := HJ1.out; have := HK2.out; omega
            case rel => exact ⟨(wrap64 (x3_2 + 1)), (by first | rfl | (simp; done) | (simp [*]; done) | (exact congrArg (Value.int .i64) (wrap_eq (by omega)))), H', ⟨by have := HJ1.out; have := HK2.out; omega⟩, ⟨by repeat (first | (with_reducible first | exact HB.out | apply zA | apply zB | apply zC) | exact HB.out)⟩⟩
           ·rw [if_neg c17] at H
            have c17b0 : (t219 == x3_2) = false := beq_eq_false_iff_ne.mpr c17
            have c17b1 : (t219 != x3_2) = true := bne_iff_ne.mpr c17
            obtain rfl := Option.some.inj H
            have p210 : 0 ≤ (0 : Int) := (by omega)
            have q210 : 0 < (l0.length : Int) := zJ (by first | (with_reducible assumption) | assumption)
            obtain ⟨ad210, A210_2, c210_2, e210, hx210_0, hx210_1, hx210_2, hl210_2, hi210_2⟩ := at_T37 HR0.out 0 p210 q210
            obtain rfl : adp0 = ad210 := (by injection e210)
            have qi210 : (0 < l0.length) = True := eq_true (by omega)
            (try rw [zI] at hx210_0)
            (try rw [Nat.zero_mul] at hx210_0)
            (try rw [Addr.add_zero'] at hx210_0)
            (try rw [zI] at hx210_1)
            (try rw [Nat.zero_mul] at hx210_1)
            (try rw [Addr.add_zero'] at hx210_1)
            (try rw [zI] at hx210_2)
            (try rw [Nat.zero_mul] at hx210_2)
            (try rw [Addr.add_zero'] at hx210_2)
            replace hx210_0 := (HB.out.cell (zH w _ hx210_0)).trans hx210_0
            replace hx210_1 := (HB.out.cell (zH w _ hx210_1)).trans hx210_1
            replace hx210_2 := (HB.out.cell (zH w _ hx210_2)).trans hx210_2
            have HR210_2 := zN hi210_2
            have HC210_2 := zN hl210_2
            clear hi210_2 hl210_2
            replace p210 := eq_true p210
            replace q210 := eq_true q210
            have p211 : 0 ≤ (0 : Int) := (by omega)
            have q211 : 0 < (l0.length : Int) := zJ (by first | (with_reducible assumption) | assumption)
            obtain ⟨ad211, A211_2, c211_2, e211, hx211_0, hx211_1, hx211_2, hl211_2, hi211_2⟩ := at_T37 HR0.out 0 p211 q211
            obtain rfl : adp0 = ad211 := (by injection e211)
            have qi211 : (0 < l0.length) = True := eq_true (by omega)
            (try rw [zI] at hx211_0)
            (try rw [Nat.zero_mul] at hx211_0)
            (try rw [Addr.add_zero'] at hx211_0)
            (try rw [zI] at hx211_1)
            (try rw [Nat.zero_mul] at hx211_1)
            (try rw [Addr.add_zero'] at hx211_1)
            (try rw [zI] at hx211_2)
            (try rw [Nat.zero_mul] at hx211_2)
            (try rw [Addr.add_zero'] at hx211_2)
            replace hx211_0 := (HB.out.cell (zH w _ hx211_0)).trans hx211_0
            replace hx211_1 := (HB.out.cell (zH w _ hx211_1)).trans hx211_1
            replace hx211_2 := (HB.out.cell (zH w _ hx211_2)).trans hx211_2
            have HR211_2 := zN hi211_2
            have HC211_2 := zN hl211_2
            clear hi211_2 hl211_2
            replace p211 := eq_true p211
            replace q211 := eq_true q211
            have ea_ := Option.some.inj (hx210_2.symm.trans hx211_2)
            injection ea_ with ea_ en_ ec_
            subst ea_
            subst ec_
            clear en_
            have p212 : 0 ≤ (x3_2 : Int) := zJ (by first | (with_reducible assumption) | assumption)
            have q212 : x3_2 < (((rd_T37 l0 0).f2).length : Int) := zJ (by first | (with_reducible assumption) | assumption)
            obtain ⟨ad212, e212, hx212_0, hx212_1, hx212_2, hx212_3, hx212_4⟩ := at_T91 HR211_2.out x3_2 p212 q212
            cases e212
            replace hx212_0 := (HB.out.cell (zH w _ hx212_0)).trans hx212_0
            replace hx212_1 := (HB.out.cell (zH w _ hx212_1)).trans hx212_1
            replace hx212_2 := (HB.out.cell (zH w _ hx212_2)).trans hx212_2
            replace hx212_3 := (HB.out.cell (zH w _ hx212_3)).trans hx212_3
            replace hx212_4 := (HB.out.cell (zH w _ hx212_4)).trans hx212_4
            replace p212 := eq_true p212
            replace q212 := eq_true q212
            try go_wp2
            have n0_ := zN (zC HB.out)
            clear HB
            have HB := n0_
            clear n0_
            have p214 : 0 ≤ (x3_2 : Int) := zJ (by first | (with_reducible assumption) | assumption)
            have q214 : x3_2 < (((rd_T37 l0 0).f2).length : Int) := zJ (by first | (with_reducible assumption) | assumption)
            obtain ⟨ad214, e214, hx214_0, hx214_1, hx214_2, hx214_3, hx214_4⟩ := at_T91 HR211_2.out x3_2 p214 q214
            have hw214_4 := hx214_4
            have hw214_3 := hx214_3
            have hw214_2 := hx214_2
            have hw214_1 := hx214_1
            have hw214_0 := hx214_0
            obtain rfl : ad212 = ad214 := (by injection e214)
            replace hx214_0 := (HB.out.cell (zH w _ hx214_0)).trans hx214_0
            replace hx214_1 := (HB.out.cell (zH w _ hx214_1)).trans hx214_1
            replace hx214_2 := (HB.out.cell (zH w _ hx214_2)).trans hx214_2
            replace hx214_3 := (HB.out.cell (zH w _ hx214_3)).trans hx214_3
            replace hx214_4 := (HB.out.cell (zH w _ hx214_4)).trans hx214_4
            replace p214 := eq_true p214
            replace q214 := eq_true q214
            have p215 : 0 ≤ (0 : Int) := (by omega)
            have q215 : 0 < (l0.length : Int) := zJ (by first | (with_reducible assumption) | assumption)
            obtain ⟨ad215, A215_2, c215_2, e215, hx215_0, hx215_1, hx215_2, hl215_2, hi215_2⟩ := at_T37 HR0.out 0 p215 q215
            have hw215_2 := hx215_2
            (try rw [zI] at hw215_2)
            (try rw [Nat.zero_mul] at hw215_2)
            (try rw [Addr.add_zero'] at hw215_2)
            have hw215_1 := hx215_1
            (try rw [zI] at hw215_1)
            (try rw [Nat.zero_mul] at hw215_1)
            (try rw [Addr.add_zero'] at hw215_1)
            have hw215_0 := hx215_0
            (try rw [zI] at hw215_0)
            (try rw [Nat.zero_mul] at hw215_0)
            (try rw [Addr.add_zero'] at hw215_0)
            obtain rfl : adp0 = ad215 := (by injection e215)
            have qi215 : (0 < l0.length) = True := eq_true (by omega)
            (try rw [zI] at hx215_0)
            (try rw [Nat.zero_mul] at hx215_0)
            (try rw [Addr.add_zero'] at hx215_0)
            (try rw [zI] at hx215_1)
            (try rw [Nat.zero_mul] at hx215_1)
            (try rw [Addr.add_zero'] at hx215_1)
            (try rw [zI] at hx215_2)
            (try rw [Nat.zero_mul] at hx215_2)
            (try rw [Addr.add_zero'] at hx215_2)
            replace hx215_0 := (HB.out.cell (zH w _ hx215_0)).trans hx215_0
            replace hx215_1 := (HB.out.cell (zH w _ hx215_1)).trans hx215_1
            replace hx215_2 := (HB.out.cell (zH w _ hx215_2)).trans hx215_2
            have HR215_2 := zN hi215_2
            have HC215_2 := zN hl215_2
            clear hi215_2 hl215_2
            replace p215 := eq_true p215
            replace q215 := eq_true q215
            have p216 : 0 ≤ (0 : Int) := (by omega)
            have q216 : 0 < (l0.length : Int) := zJ (by first | (with_reducible assumption) | assumption)
            obtain ⟨ad216, A216_2, c216_2, e216, hx216_0, hx216_1, hx216_2, hl216_2, hi216_2⟩ := at_T37 HR0.out 0 p216 q216
            have hw216_2 := hx216_2
            (try rw [zI] at hw216_2)
            (try rw [Nat.zero_mul] at hw216_2)
            (try rw [Addr.add_zero'] at hw216_2)
            have hw216_1 := hx216_1
            (try rw [zI] at hw216_1)
            (try rw [Nat.zero_mul] at hw216_1)
            (try rw [Addr.add_zero'] at hw216_1)
            have hw216_0 := hx216_0
            (try rw [zI] at hw216_0)
            (try rw [Nat.zero_mul] at hw216_0)
            (try rw [Addr.add_zero'] at hw216_0)
            obtain rfl : adp0 = ad216 := (by injection e216)
            have qi216 : (0 < l0.length) = True := eq_true (by omega)
            (try rw [zI] at hx216_0)
            (try rw [Nat.zero_mul] at hx216_0)
            (try rw [Addr.add_zero'] at hx216_0)
            (try rw [zI] at hx216_1)
            (try rw [Nat.zero_mul] at hx216_1)
            (try rw [Addr.add_zero'] at hx216_1)
            (try rw [zI] at hx216_2)
            (try rw [Nat.zero_mul] at hx216_2)
            (try rw [Addr.add_zero'] at hx216_2)
            replace hx216_0 := (HB.out.cell (zH w _ hx216_0)).trans hx216_0
            replace hx216_1 := (HB.out.cell (zH w _ hx216_1)).trans hx216_1
            replace hx216_2 := (HB.out.cell (zH w _ hx216_2)).trans hx216_2
            have HR216_2 := zN hi216_2
            have HC216_2 := zN hl216_2
            clear hi216_2 hl216_2
            replace p216 := eq_true p216
            replace q216 := eq_true q216
            have ea_ := Option.some.inj (hx215_2.symm.trans hx216_2)
            injection ea_ with ea_ en_ ec_
            subst ea_
            subst ec_
            clear en_
            have p218 : 0 ≤ (x3_2 : Int) := zJ (by first | (with_reducible assumption) | assumption)
            have q218 : x3_2 < (((rd_T37 l0 0).f2).length : Int) := zJ (by first | (with_reducible assumption) | assumption)
            obtain ⟨ad218, e218, hx218_0, hx218_1, hx218_2, hx218_3, hx218_4⟩ := at_T91 HR211_2.out x3_2 p218 q218
            have hw218_4 := hx218_4
            have hw218_3 := hx218_3
            have hw218_2 := hx218_2
            have hw218_1 := hx218_1
            have hw218_0 := hx218_0
            obtain rfl : ad212 = ad218 := (by injection e218)
            replace hx218_0 := (HB.out.cell (zH w _ hx218_0)).trans hx218_0
            replace hx218_1 := (HB.out.cell (zH w _ hx218_1)).trans hx218_1
            replace hx218_2 := (HB.out.cell (zH w _ hx218_2)).trans hx218_2
            replace hx218_3 := (HB.out.cell (zH w _ hx218_3)).trans hx218_3
            replace hx218_4 := (HB.out.cell (zH w _ hx218_4)).trans hx218_4
            replace p218 := eq_true p218
            replace q218 := eq_true q218
            refine start_ (n := 31) (S := fun w' => w'.cell? (ad212.add ((x3_2).toNat * 5)) = some (.int .i8 ((rd_T91 ((rd_T37 l0 0).f2) x3_2).f0.f0)) ∧ w'.cell? ⟨(ad212.add ((x3_2).toNat * 5)).block, (ad212.add ((x3_2).toNat * 5)).off + 1, none⟩ = some (.int .i8 ((rd_T91 ((rd_T37 l0 0).f2) x3_2).f0.f1)) ∧ w'.cell? ⟨(ad212.add ((x3_2).toNat * 5)).block, (ad212.add ((x3_2).toNat * 5)).off + 2, none⟩ = some (.int .i8 ((rd_T91 ((rd_T37 l0 0).f2) x3_2).f1)) ∧ w'.cell? ⟨(ad212.add ((x3_2).toNat * 5)).block, (ad212.add ((x3_2).toNat * 5)).off + 3, none⟩ = some (.int .i8 ((rd_T91 ((rd_T37 l0 0).f2) x3_2).f2)) ∧ w'.cell? ⟨(ad212.add ((x3_2).toNat * 5)).block, (ad212.add ((x3_2).toNat * 5)).off + 4, none⟩ = some (.int .i8 ((rd_T91 ((rd_T37 l0 0).f2) x3_2).f3)) ∧ w'.cell? adp0 = some (.int .i8 ((rd_T37 l0 0).f0)) ∧ w'.cell? ⟨adp0.block, adp0.off + 1, none⟩ = some (.int .i8 ((rd_T37 l0 0).f1)) ∧ w'.cell? ⟨adp0.block, adp0.off + 2, none⟩ = some (.slice A215_2 ((rd_T37 l0 0).f2).length c215_2) ∧ w'.cell? adp0 = some (.int .i8 ((rd_T37 l0 0).f0)) ∧ w'.cell? ⟨adp0.block, adp0.off + 1, none⟩ = some (.int .i8 ((rd_T37 l0 0).f1)) ∧ w'.cell? ⟨adp0.block, adp0.off + 2, none⟩ = some (.slice A215_2 ((rd_T37 l0 0).f2).length c215_2) ∧ w'.cell? (ad212.add ((x3_2).toNat * 5)) = some (.int .i8 ((rd_T91 ((rd_T37 l0 0).f2) x3_2).f0.f0)) ∧ w'.cell? ⟨(ad212.add ((x3_2).toNat * 5)).block, (ad212.add ((x3_2).toNat * 5)).off + 1, none⟩ = some (.int .i8 ((rd_T91 ((rd_T37 l0 0).f2) x3_2).f0.f1)) ∧ w'.cell? ⟨(ad212.add ((x3_2).toNat * 5)).block, (ad212.add ((x3_2).toNat * 5)).off + 2, none⟩ = some (.int .i8 ((rd_T91 ((rd_T37 l0 0).f2) x3_2).f1)) ∧ w'.cell? ⟨(ad212.add ((x3_2).toNat * 5)).block, (ad212.add ((x3_2).toNat * 5)).off + 3, none⟩ = some (.int .i8 ((rd_T91 ((rd_T37 l0 0).f2) x3_2).f2)) ∧ w'.cell? ⟨(ad212.add ((x3_2).toNat * 5)).block, (ad212.add ((x3_2).toNat * 5)).off + 4, none⟩ = some (.int .i8 ((rd_T91 ((rd_T37 l0 0).f2) x3_2).f3))) (ds := []) #[false, false, false, false, false, false, false, false, false, false, false, false, false, false, false, false, false, false, false, false, false, false, false, false, false, false, false, false, false, false, false] (by kernel_rfl) rfl rfl ⟨((HB.out.cell (zH w _ hw214_0)).trans hw214_0), ((HB.out.cell (zH w _ hw214_1)).trans hw214_1), ((HB.out.cell (zH w _ hw214_2)).trans hw214_2), ((HB.out.cell (zH w _ hw214_3)).trans hw214_3), ((HB.out.cell (zH w _ hw214_4)).trans hw214_4), ((HB.out.cell (zH w _ hw215_0)).trans hw215_0), ((HB.out.cell (zH w _ hw215_1)).trans hw215_1), ((HB.out.cell (zH w _ hw215_2)).trans hw215_2), ((HB.out.cell (zH w _ hw216_0)).trans hw216_0), ((HB.out.cell (zH w _ hw216_1)).trans hw216_1), ((HB.out.cell (zH w _ hw216_2)).trans hw216_2), ((HB.out.cell (zH w _ hw218_0)).trans hw218_0), ((HB.out.cell (zH w _ hw218_1)).trans hw218_1), ((HB.out.cell (zH w _ hw218_2)).trans hw218_2), ((HB.out.cell (zH w _ hw218_3)).trans hw218_3), ((HB.out.cell (zH w _ hw218_4)).trans hw218_4)⟩ (fun hHeld => ?_); refine with_tabW spec_l01Ok.tab7 spec_l01Ok.bits7 (fun HT_ HW_ => ?_)
            generalize wr.drew = w22 at HB HR215_2 HR216_2 hx214_0 hx214_1 hx214_2 hx214_3 hx214_4 hx215_0 hx215_1 hx215_2 hx216_0 hx216_1 hx216_2 hx218_0 hx218_1 hx218_2 hx218_3 hx218_4 hHeld ⊢
            refine pure_ (i := 0) (N := some 44) (v := ?_) (a' := ?_) #[true, false, false, false, false, false, false, false, false, false, false, false, false, false, false, false, false, false, false, false, false, false, false, false, false, false, false, false, false, false, false] rfl rfl (any_of HT_.out (by kernel_rfl)) (fun _ _ _ h => h) (Or.inl ⟨by rfl, ?_⟩) ?_ ?_
            rotate_left
            ·intro w'
             go_simp
             with_reducible rfl
            rotate_left
            ·simp only [Act.put, List.setIfInBounds_toArray, List.set_cons_zero, List.set_cons_succ, i64_w, i32_w]
             rfl
            refine one_ (i := 1) (N := some 45) #[true, true, false, false, false, false, false, false, false, false, false, false, false, false, false, false, false, false, false, false, false, false, false, false, false, false, false, false, false, false, false] rfl rfl (one_of HT_.out (by kernel_rfl)) (by decide) (fun K hK => ?_)
            refine goes_ Try.func132 (by kernel_rfl) rfl #[.pointer (some (ad212.add (x3_2.toNat * 5)))] (by rfl) rfl rfl (by (try simp only [List.map_toArray, List.map_cons, List.map_nil]); first | done | rfl | (simp only [List.length_drop, List.length_take]; rfl)) ?_
            with_reducible refine (spec_l01Piece.calls _ [rd_T91 ((rd_T37 l0 0).f2) x3_2] true _ ?side1 A12.out).mono ?_
            (case side1 => refine ro_of_elem (d := k91) z91 x3_2 (by first | exact of_eq_true p212 | omega) (by first | exact of_eq_true q212 | omega) ?_; repeat (first | exact (Kd.C_below HR211_2.out HB.out) | (with_reducible refine Kd.C_alloc ?_ _) | (with_reducible refine Kd.C_drewN ?_ _) | (with_reducible refine Kd.C_drew ?_)))
            rintro e w23 ⟨rfl, hb⟩
            refine ⟨_, rfl, ?_⟩
            have n0_ := zN (below_step (by repeat (first | (with_reducible first | exact HB.out | apply zA | apply zB | apply zC) | exact HB.out)) hb)
            clear HB
            have HB := n0_
            clear n0_
            (try clear hb)
            (try clear hb2)
            (try clear hk)
            (try clear hi)
            refine hK.out _ _ ⟨((HB.out.cell (zH w _ hw214_0)).trans hw214_0), ((HB.out.cell (zH w _ hw214_1)).trans hw214_1), ((HB.out.cell (zH w _ hw214_2)).trans hw214_2), ((HB.out.cell (zH w _ hw214_3)).trans hw214_3), ((HB.out.cell (zH w _ hw214_4)).trans hw214_4), ((HB.out.cell (zH w _ hw215_0)).trans hw215_0), ((HB.out.cell (zH w _ hw215_1)).trans hw215_1), ((HB.out.cell (zH w _ hw215_2)).trans hw215_2), ((HB.out.cell (zH w _ hw216_0)).trans hw216_0), ((HB.out.cell (zH w _ hw216_1)).trans hw216_1), ((HB.out.cell (zH w _ hw216_2)).trans hw216_2), ((HB.out.cell (zH w _ hw218_0)).trans hw218_0), ((HB.out.cell (zH w _ hw218_1)).trans hw218_1), ((HB.out.cell (zH w _ hw218_2)).trans hw218_2), ((HB.out.cell (zH w _ hw218_3)).trans hw218_3), ((HB.out.cell (zH w _ hw218_4)).trans hw218_4)⟩ (fun hHeld => ?_)
            clear hK K
            refine norm_ (a' := ?_) ?_ ?_
            rotate_left
            ·show Act.put _ (some 45) _ = _
             simp only [Act.put, List.setIfInBounds_toArray, List.set_cons_zero, List.set_cons_succ, i64_w, i32_w]
             rfl
            refine pure_ (i := 2) (N := some 46) (v := ?_) (a' := ?_) #[true, true, true, false, false, false, false, false, false, false, false, false, false, false, false, false, false, false, false, false, false, false, false, false, false, false, false, false, false, false, false] rfl rfl (any_of HT_.out (by kernel_rfl)) (fun _ _ _ h => h) (Or.inl ⟨by rfl, ?_⟩) ?_ ?_
            rotate_left
            ·intro w'
             go_simp
             with_reducible rfl
            rotate_left
            ·simp only [Act.put, List.setIfInBounds_toArray, List.set_cons_zero, List.set_cons_succ, i64_w, i32_w]
             rfl
            refine pure_ (i := 3) (N := some 47) (v := ?_) (a' := ?_) #[true, true, true, true, false, false, false, false, false, false, false, false, false, false, false, false, false, false, false, false, false, false, false, false, false, false, false, false, false, false, false] rfl rfl (any_of HT_.out (by kernel_rfl)) (fun _ _ _ h => h) (Or.inl ⟨by rfl, ?_⟩) ?_ ?_
            rotate_left
            ·intro w'
             go_simp
             with_reducible rfl
            rotate_left
            ·simp only [Act.put, List.setIfInBounds_toArray, List.set_cons_zero, List.set_cons_succ, i64_w, i32_w]
             rfl
            refine pure_ (i := 4) (N := some 48) (v := ?_) (a' := ?_) #[true, true, true, true, true, false, false, false, false, false, false, false, false, false, false, false, false, false, false, false, false, false, false, false, false, false, false, false, false, false, false] rfl rfl (any_of HT_.out (by kernel_rfl)) (fun _ _ _ h => h) (Or.inl ⟨by rfl, ?_⟩) ?_ ?_
            rotate_left
            ·intro w'
             go_simp
             with_reducible rfl
            rotate_left
            ·simp only [Act.put, List.setIfInBounds_toArray, List.set_cons_zero, List.set_cons_succ, i64_w, i32_w]
             rfl
            refine pure_ (i := 5) (N := some 49) (v := ?_) (a' := ?_) #[true, true, true, true, true, true, false, false, false, false, false, false, false, false, false, false, false, false, false, false, false, false, false, false, false, false, false, false, false, false, false] rfl rfl (any_of HT_.out (by kernel_rfl)) (fun _ _ _ h => h) (Or.inl ⟨by rfl, ?_⟩) ?_ ?_
            rotate_left
            ·intro w'
             go_simp
             with_reducible rfl
            rotate_left
            ·simp only [Act.put, List.setIfInBounds_toArray, List.set_cons_zero, List.set_cons_succ, i64_w, i32_w]
             rfl
            refine pure_ (i := 6) (N := some 50) (v := ?_) (a' := ?_) #[true, true, true, true, true, true, true, false, false, false, false, false, false, false, false, false, false, false, false, false, false, false, false, false, false, false, false, false, false, false, false] rfl rfl (any_of HT_.out (by kernel_rfl)) (fun _ _ _ h => h) (Or.inl ⟨by rfl, ?_⟩) ?_ ?_
            rotate_left
            ·intro w'
             go_simp
             with_reducible rfl
            rotate_left
            ·simp only [Act.put, List.setIfInBounds_toArray, List.set_cons_zero, List.set_cons_succ, i64_w, i32_w]
             rfl
            refine pure_ (i := 8) (N := some 52) (v := ?_) (a' := ?_) #[true, true, true, true, true, true, true, false, true, false, false, false, false, false, false, false, false, false, false, false, false, false, false, false, false, false, false, false, false, false, false] rfl rfl (any_of HT_.out (by kernel_rfl)) (fun _ _ _ h => h) (Or.inl ⟨by rfl, ?_⟩) ?_ ?_
            rotate_left
            ·intro w'
             go_simp
             with_reducible rfl
            rotate_left
            ·simp only [Act.put, List.setIfInBounds_toArray, List.set_cons_zero, List.set_cons_succ, i64_w, i32_w]
             rfl
            refine pure_ (i := 9) (N := some 53) (v := ?_) (a' := ?_) #[true, true, true, true, true, true, true, false, true, true, false, false, false, false, false, false, false, false, false, false, false, false, false, false, false, false, false, false, false, false, false] rfl rfl (any_of HT_.out (by kernel_rfl)) (fun _ _ _ h => h) (Or.inl ⟨by rfl, ?_⟩) ?_ ?_
            rotate_left
            ·intro w'
             go_simp
             with_reducible rfl
            rotate_left
            ·simp only [Act.put, List.setIfInBounds_toArray, List.set_cons_zero, List.set_cons_succ, i64_w, i32_w]
             rfl
            refine pure_ (i := 10) (N := some 54) (v := ?_) (a' := ?_) #[true, true, true, true, true, true, true, false, true, true, true, false, false, false, false, false, false, false, false, false, false, false, false, false, false, false, false, false, false, false, false] rfl rfl (any_of HT_.out (by kernel_rfl)) (fun _ _ _ h => h) (Or.inl ⟨by rfl, ?_⟩) ?_ ?_
            rotate_left
            ·intro w'
             go_simp
             with_reducible rfl
            rotate_left
            ·simp only [Act.put, List.setIfInBounds_toArray, List.set_cons_zero, List.set_cons_succ, i64_w, i32_w]
             rfl
            refine pure_ (i := 13) (N := some 57) (v := ?_) (a' := ?_) #[true, true, true, true, true, true, true, false, true, true, true, false, false, true, false, false, false, false, false, false, false, false, false, false, false, false, false, false, false, false, false] rfl rfl (any_of HT_.out (by kernel_rfl)) (fun _ _ _ h => h) (Or.inl ⟨by rfl, ?_⟩) ?_ ?_
            rotate_left
            ·intro w'
             go_simp
             with_reducible rfl
            rotate_left
            ·simp only [Act.put, List.setIfInBounds_toArray, List.set_cons_zero, List.set_cons_succ, i64_w, i32_w]
             rfl
            refine pure_ (i := 14) (N := some 58) (v := ?_) (a' := ?_) #[true, true, true, true, true, true, true, false, true, true, true, false, false, true, true, false, false, false, false, false, false, false, false, false, false, false, false, false, false, false, false] rfl rfl (any_of HT_.out (by kernel_rfl)) (fun _ _ _ h => h) (Or.inl ⟨by rfl, ?_⟩) ?_ ?_
            rotate_left
            ·intro w'
             go_simp
             with_reducible rfl
            rotate_left
            ·simp only [Act.put, List.setIfInBounds_toArray, List.set_cons_zero, List.set_cons_succ, i64_w, i32_w]
             rfl
            refine pure_ (i := 15) (N := some 59) (v := ?_) (a' := ?_) #[true, true, true, true, true, true, true, false, true, true, true, false, false, true, true, true, false, false, false, false, false, false, false, false, false, false, false, false, false, false, false] rfl rfl (any_of HT_.out (by kernel_rfl)) (fun _ _ _ h => h) (Or.inl ⟨by rfl, ?_⟩) ?_ ?_
            rotate_left
            ·intro w'
             go_simp
             with_reducible rfl
            rotate_left
            ·simp only [Act.put, List.setIfInBounds_toArray, List.set_cons_zero, List.set_cons_succ, i64_w, i32_w]
             rfl
            refine take_ (i := 7) (N := some 51) (v := ?_) (a' := ?_) #[true, true, true, true, true, true, true, true, true, true, true, false, false, true, true, true, false, false, false, false, false, false, false, false, false, false, false, false, false, false, false] rfl rfl (take_ofW HT_.out HW_.out (by kernel_rfl)) (fun _ _ _ h => h) (Or.inl ⟨by rfl, ?_⟩) hHeld ?_ ?_
            rotate_left
            ·rintro w' ⟨s0, s1, s2, s3, s4, s5, s6, s7, s8, s9, s10, s11, s12, s13, s14, s15⟩
             go_simp
             with_reducible rfl
            rotate_left
            ·simp only [Act.put, List.setIfInBounds_toArray, List.set_cons_zero, List.set_cons_succ, i64_w, i32_w]
             rfl
            refine take_ (i := 11) (N := some 55) (v := ?_) (a' := ?_) #[true, true, true, true, true, true, true, true, true, true, true, true, false, true, true, true, false, false, false, false, false, false, false, false, false, false, false, false, false, false, false] rfl rfl (take_ofW HT_.out HW_.out (by kernel_rfl)) (fun _ _ _ h => h) (Or.inl ⟨by rfl, ?_⟩) hHeld ?_ ?_
            rotate_left
            ·rintro w' ⟨s0, s1, s2, s3, s4, s5, s6, s7, s8, s9, s10, s11, s12, s13, s14, s15⟩
             go_simp
             with_reducible rfl
            rotate_left
            ·simp only [Act.put, List.setIfInBounds_toArray, List.set_cons_zero, List.set_cons_succ, i64_w, i32_w]
             rfl
            refine pure_ (i := 12) (N := some 56) (v := ?_) (a' := ?_) #[true, true, true, true, true, true, true, true, true, true, true, true, true, true, true, true, false, false, false, false, false, false, false, false, false, false, false, false, false, false, false] rfl rfl (any_of HT_.out (by kernel_rfl)) (fun _ _ _ h => h) (Or.inl ⟨by rfl, ?_⟩) ?_ ?_
            rotate_left
            ·intro w'
             go_simp
             with_reducible rfl
            rotate_left
            ·simp only [Act.put, List.setIfInBounds_toArray, List.set_cons_zero, List.set_cons_succ, i64_w, i32_w]
             rfl
            refine take_ (i := 16) (N := some 60) (v := ?_) (a' := ?_) #[true, true, true, true, true, true, true, true, true, true, true, true, true, true, true, true, true, false, false, false, false, false, false, false, false, false, false, false, false, false, false] rfl rfl (take_ofW HT_.out HW_.out (by kernel_rfl)) (fun _ _ _ h => h) (Or.inl ⟨by rfl, ?_⟩) hHeld ?_ ?_
            rotate_left
            ·rintro w' ⟨s0, s1, s2, s3, s4, s5, s6, s7, s8, s9, s10, s11, s12, s13, s14, s15⟩
             go_simp
             with_reducible rfl
            rotate_left
            ·simp only [Act.put, List.setIfInBounds_toArray, List.set_cons_zero, List.set_cons_succ, i64_w, i32_w]
             rfl
            refine pure_ (i := 17) (N := some 61) (v := ?_) (a' := ?_) #[true, true, true, true, true, true, true, true, true, true, true, true, true, true, true, true, true, true, false, false, false, false, false, false, false, false, false, false, false, false, false] rfl rfl (any_of HT_.out (by kernel_rfl)) (fun _ _ _ h => h) (Or.inl ⟨by rfl, ?_⟩) ?_ ?_
            rotate_left
            ·intro w'
             go_simp
             with_reducible rfl
            rotate_left
            ·simp only [Act.put, List.setIfInBounds_toArray, List.set_cons_zero, List.set_cons_succ, i64_w, i32_w]
             rfl
            refine one_ (i := 18) (N := some 62) #[true, true, true, true, true, true, true, true, true, true, true, true, true, true, true, true, true, true, true, false, false, false, false, false, false, false, false, false, false, false, false] rfl rfl (one_of HT_.out (by kernel_rfl)) (by decide) (fun K hK => ?_)
            refine goes_ Try.func133 (by kernel_rfl) rfl #[.agg #[.int .i8 ((rd_T91 ((rd_T37 l0 0).f2) x3_2).f0.f0), .int .i8 ((rd_T91 ((rd_T37 l0 0).f2) x3_2).f0.f1)], .int .i64 (wrap64 ((rd_T37 l0 0).f0)), .int .i64 (wrap64 ((rd_T37 l0 0).f1))] (by rfl) rfl rfl (by (try simp only [List.map_toArray, List.map_cons, List.map_nil]); first | done | rfl | (simp only [List.length_drop, List.length_take]; rfl)) ?_
            with_reducible refine (spec_l01In.calls ((rd_T91 ((rd_T37 l0 0).f2) x3_2).f0.f0) ((rd_T91 ((rd_T37 l0 0).f2) x3_2).f0.f1) (wrap64 ((rd_T37 l0 0).f0)) (wrap64 ((rd_T37 l0 0).f1)) true _ A14.out).mono ?_
            rintro e w24 ⟨rfl, hb⟩
            refine ⟨_, rfl, ?_⟩
            have n0_ := zN (below_step (by repeat (first | (with_reducible first | exact HB.out | apply zA | apply zB | apply zC) | exact HB.out)) hb)
            clear HB
            have HB := n0_
            clear n0_
            (try clear hb)
            (try clear hb2)
            (try clear hk)
            (try clear hi)
            refine hK.out _ _ ⟨((HB.out.cell (zH w _ hw214_0)).trans hw214_0), ((HB.out.cell (zH w _ hw214_1)).trans hw214_1), ((HB.out.cell (zH w _ hw214_2)).trans hw214_2), ((HB.out.cell (zH w _ hw214_3)).trans hw214_3), ((HB.out.cell (zH w _ hw214_4)).trans hw214_4), ((HB.out.cell (zH w _ hw215_0)).trans hw215_0), ((HB.out.cell (zH w _ hw215_1)).trans hw215_1), ((HB.out.cell (zH w _ hw215_2)).trans hw215_2), ((HB.out.cell (zH w _ hw216_0)).trans hw216_0), ((HB.out.cell (zH w _ hw216_1)).trans hw216_1), ((HB.out.cell (zH w _ hw216_2)).trans hw216_2), ((HB.out.cell (zH w _ hw218_0)).trans hw218_0), ((HB.out.cell (zH w _ hw218_1)).trans hw218_1), ((HB.out.cell (zH w _ hw218_2)).trans hw218_2), ((HB.out.cell (zH w _ hw218_3)).trans hw218_3), ((HB.out.cell (zH w _ hw218_4)).trans hw218_4)⟩ (fun hHeld => ?_)
            clear hK K
            refine norm_ (a' := ?_) ?_ ?_
            rotate_left
            ·show Act.put _ (some 62) _ = _
             simp only [Act.put, List.setIfInBounds_toArray, List.set_cons_zero, List.set_cons_succ, i64_w, i32_w]
             rfl
            refine pure_ (i := 19) (N := some 63) (v := ?_) (a' := ?_) #[true, true, true, true, true, true, true, true, true, true, true, true, true, true, true, true, true, true, true, true, false, false, false, false, false, false, false, false, false, false, false] rfl rfl (any_of HT_.out (by kernel_rfl)) (fun _ _ _ h => h) (Or.inl ⟨by rfl, ?_⟩) ?_ ?_
            rotate_left
            ·intro w'
             go_simp
             with_reducible rfl
            rotate_left
            ·simp only [Act.put, List.setIfInBounds_toArray, List.set_cons_zero, List.set_cons_succ, i64_w, i32_w]
             rfl
            refine pure_ (i := 20) (N := some 64) (v := ?_) (a' := ?_) #[true, true, true, true, true, true, true, true, true, true, true, true, true, true, true, true, true, true, true, true, true, false, false, false, false, false, false, false, false, false, false] rfl rfl (any_of HT_.out (by kernel_rfl)) (fun _ _ _ h => h) (Or.inl ⟨by rfl, ?_⟩) ?_ ?_
            rotate_left
            ·intro w'
             go_simp
             with_reducible rfl
            rotate_left
            ·simp only [Act.put, List.setIfInBounds_toArray, List.set_cons_zero, List.set_cons_succ, i64_w, i32_w]
             rfl
            refine pure_ (i := 21) (N := some 65) (v := ?_) (a' := ?_) #[true, true, true, true, true, true, true, true, true, true, true, true, true, true, true, true, true, true, true, true, true, true, false, false, false, false, false, false, false, false, false] rfl rfl (any_of HT_.out (by kernel_rfl)) (fun _ _ _ h => h) (Or.inl ⟨by rfl, ?_⟩) ?_ ?_
            rotate_left
            ·intro w'
             go_simp
             with_reducible rfl
            rotate_left
            ·simp only [Act.put, List.setIfInBounds_toArray, List.set_cons_zero, List.set_cons_succ, i64_w, i32_w]
             rfl
            refine pure_ (i := 22) (N := some 66) (v := ?_) (a' := ?_) #[true, true, true, true, true, true, true, true, true, true, true, true, true, true, true, true, true, true, true, true, true, true, true, false, false, false, false, false, false, false, false] rfl rfl (any_of HT_.out (by kernel_rfl)) (fun _ _ _ h => h) (Or.inl ⟨by rfl, ?_⟩) ?_ ?_
            rotate_left
            ·intro w'
             go_simp
             with_reducible rfl
            rotate_left
            ·simp only [Act.put, List.setIfInBounds_toArray, List.set_cons_zero, List.set_cons_succ, i64_w, i32_w]
             rfl
            refine pure_ (i := 23) (N := some 67) (v := ?_) (a' := ?_) #[true, true, true, true, true, true, true, true, true, true, true, true, true, true, true, true, true, true, true, true, true, true, true, true, false, false, false, false, false, false, false] rfl rfl (any_of HT_.out (by kernel_rfl)) (fun _ _ _ h => h) (Or.inl ⟨by rfl, ?_⟩) ?_ ?_
            rotate_left
            ·intro w'
             go_simp
             with_reducible rfl
            rotate_left
            ·simp only [Act.put, List.setIfInBounds_toArray, List.set_cons_zero, List.set_cons_succ, i64_w, i32_w]
             rfl
            refine pure_ (i := 24) (N := some 68) (v := ?_) (a' := ?_) #[true, true, true, true, true, true, true, true, true, true, true, true, true, true, true, true, true, true, true, true, true, true, true, true, true, false, false, false, false, false, false] rfl rfl (any_of HT_.out (by kernel_rfl)) (fun _ _ _ h => h) (Or.inl ⟨by rfl, ?_⟩) ?_ ?_
            rotate_left
            ·intro w'
             go_simp
             with_reducible rfl
            rotate_left
            ·simp only [Act.put, List.setIfInBounds_toArray, List.set_cons_zero, List.set_cons_succ, i64_w, i32_w]
             rfl
            refine pure_ (i := 25) (N := some 69) (v := ?_) (a' := ?_) #[true, true, true, true, true, true, true, true, true, true, true, true, true, true, true, true, true, true, true, true, true, true, true, true, true, true, false, false, false, false, false] rfl rfl (any_of HT_.out (by kernel_rfl)) (fun _ _ _ h => h) (Or.inl ⟨by rfl, ?_⟩) ?_ ?_
            rotate_left
            ·intro w'
             go_simp
             with_reducible rfl
            rotate_left
            ·simp only [Act.put, List.setIfInBounds_toArray, List.set_cons_zero, List.set_cons_succ, i64_w, i32_w]
             rfl
            refine pure_ (i := 28) (N := some 72) (v := ?_) (a' := ?_) #[true, true, true, true, true, true, true, true, true, true, true, true, true, true, true, true, true, true, true, true, true, true, true, true, true, true, false, false, true, false, false] rfl rfl (any_of HT_.out (by kernel_rfl)) (fun _ _ _ h => h) (Or.inl ⟨by rfl, ?_⟩) ?_ ?_
            rotate_left
            ·intro w'
             go_simp
             with_reducible rfl
            rotate_left
            ·simp only [Act.put, List.setIfInBounds_toArray, List.set_cons_zero, List.set_cons_succ, i64_w, i32_w]
             rfl
            refine take_ (i := 26) (N := some 70) (v := ?_) (a' := ?_) #[true, true, true, true, true, true, true, true, true, true, true, true, true, true, true, true, true, true, true, true, true, true, true, true, true, true, true, false, true, false, false] rfl rfl (take_ofW HT_.out HW_.out (by kernel_rfl)) (fun _ _ _ h => h) (Or.inl ⟨by rfl, ?_⟩) hHeld ?_ ?_
            rotate_left
            ·rintro w' ⟨s0, s1, s2, s3, s4, s5, s6, s7, s8, s9, s10, s11, s12, s13, s14, s15⟩
             go_simp
             with_reducible rfl
            rotate_left
            ·simp only [Act.put, List.setIfInBounds_toArray, List.set_cons_zero, List.set_cons_succ, i64_w, i32_w]
             rfl
            refine one_ (i := 27) (N := some 71) #[true, true, true, true, true, true, true, true, true, true, true, true, true, true, true, true, true, true, true, true, true, true, true, true, true, true, true, true, true, false, false] rfl rfl (one_of HT_.out (by kernel_rfl)) (by decide) (fun K hK => ?_)
            refine goes_ Try.func111 (by kernel_rfl) rfl #[.pointer (some adp0), .agg #[.int .i8 ((rd_T91 ((rd_T37 l0 0).f2) x3_2).f0.f0), .int .i8 ((rd_T91 ((rd_T37 l0 0).f2) x3_2).f0.f1)]] (by rfl) rfl rfl (by (try simp only [List.map_toArray, List.map_cons, List.map_nil]); first | done | rfl | (simp only [List.length_drop, List.length_take]; rfl)) ?_
            with_reducible refine (spec_l01Find.calls k2 _ l0 ((rd_T91 ((rd_T37 l0 0).f2) x3_2).f0.f0) ((rd_T91 ((rd_T37 l0 0).f2) x3_2).f0.f1) t219 _ ?side1 A16.out).mono ?_
            (case side1 => repeat (first | exact (Kd.C_below HR0.out HB.out) | (with_reducible refine Kd.C_alloc ?_ _) | (with_reducible refine Kd.C_drewN ?_ _) | (with_reducible refine Kd.C_drew ?_)))
            rintro e w25 ⟨rfl, hb⟩
            refine ⟨_, rfl, ?_⟩
            have n0_ := zN (below_step (by repeat (first | (with_reducible first | exact HB.out | apply zA | apply zB | apply zC) | exact HB.out)) hb)
            clear HB
            have HB := n0_
            clear n0_
            (try clear hb)
            (try clear hb2)
            (try clear hk)
            (try clear hi)
            refine hK.out _ _ ⟨((HB.out.cell (zH w _ hw214_0)).trans hw214_0), ((HB.out.cell (zH w _ hw214_1)).trans hw214_1), ((HB.out.cell (zH w _ hw214_2)).trans hw214_2), ((HB.out.cell (zH w _ hw214_3)).trans hw214_3), ((HB.out.cell (zH w _ hw214_4)).trans hw214_4), ((HB.out.cell (zH w _ hw215_0)).trans hw215_0), ((HB.out.cell (zH w _ hw215_1)).trans hw215_1), ((HB.out.cell (zH w _ hw215_2)).trans hw215_2), ((HB.out.cell (zH w _ hw216_0)).trans hw216_0), ((HB.out.cell (zH w _ hw216_1)).trans hw216_1), ((HB.out.cell (zH w _ hw216_2)).trans hw216_2), ((HB.out.cell (zH w _ hw218_0)).trans hw218_0), ((HB.out.cell (zH w _ hw218_1)).trans hw218_1), ((HB.out.cell (zH w _ hw218_2)).trans hw218_2), ((HB.out.cell (zH w _ hw218_3)).trans hw218_3), ((HB.out.cell (zH w _ hw218_4)).trans hw218_4)⟩ (fun hHeld => ?_)
            clear hK K
            refine norm_ (a' := ?_) ?_ ?_
            rotate_left
            ·show Act.put _ (some 71) _ = _
             simp only [Act.put, List.setIfInBounds_toArray, List.set_cons_zero, List.set_cons_succ, i64_w, i32_w]
             rfl
            refine pure_ (i := 29) (N := some 73) (v := ?_) (a' := ?_) #[true, true, true, true, true, true, true, true, true, true, true, true, true, true, true, true, true, true, true, true, true, true, true, true, true, true, true, true, true, true, false] rfl rfl (any_of HT_.out (by kernel_rfl)) (fun _ _ _ h => h) (Or.inl ⟨by rfl, ?_⟩) ?_ ?_
            rotate_left
            ·intro w'
             go_simp
             with_reducible rfl
            rotate_left
            ·simp only [Act.put, List.setIfInBounds_toArray, List.set_cons_zero, List.set_cons_succ, i64_w, i32_w]
             rfl
            refine pure_ (i := 30) (N := some 74) (v := ?_) (a' := ?_) #[true, true, true, true, true, true, true, true, true, true, true, true, true, true, true, true, true, true, true, true, true, true, true, true, true, true, true, true, true, true, true] rfl rfl (any_of HT_.out (by kernel_rfl)) (fun _ _ _ h => h) (Or.inl ⟨by rfl, ?_⟩) ?_ ?_
            rotate_left
            ·intro w'
             go_simp
             with_reducible rfl
            rotate_left
            ·simp only [Act.put, List.setIfInBounds_toArray, List.set_cons_zero, List.set_cons_succ, i64_w, i32_w]
             rfl
            refine done_ (done_of HT_.out (by kernel_rfl)) ?_
            try go_wp2
            go_ret
            exact ⟨by first | rfl | (simp [errW_none, errW_some] <;> rfl) | (simp [*, errW_none, errW_some] <;> rfl), by repeat (first | (with_reducible first | exact HB.out | apply zA | apply zB | apply zC) | exact HB.out)⟩
          ·replace c15 := Bool.eq_false_iff.mpr c15
           subst c15
           have H1 : (some false) = some r := by rw [if_neg (show ¬ (false = true) by decide)] at H; exact H
           clear H
           have H := H1
           clear H1
           obtain rfl := Option.some.inj H
           have p210 : 0 ≤ (0 : Int) := (by omega)
           have q210 : 0 < (l0.length : Int) := zJ (by first | (with_reducible assumption) | assumption)
           obtain ⟨ad210, A210_2, c210_2, e210, hx210_0, hx210_1, hx210_2, hl210_2, hi210_2⟩ := at_T37 HR0.out 0 p210 q210
           obtain rfl : adp0 = ad210 := (by injection e210)
           have qi210 : (0 < l0.length) = True := eq_true (by omega)
           (try rw [zI] at hx210_0)
           (try rw [Nat.zero_mul] at hx210_0)
           (try rw [Addr.add_zero'] at hx210_0)
           (try rw [zI] at hx210_1)
           (try rw [Nat.zero_mul] at hx210_1)
           (try rw [Addr.add_zero'] at hx210_1)
           (try rw [zI] at hx210_2)
           (try rw [Nat.zero_mul] at hx210_2)
           (try rw [Addr.add_zero'] at hx210_2)
           replace hx210_0 := (HB.out.cell (zH w _ hx210_0)).trans hx210_0
           replace hx210_1 := (HB.out.cell (zH w _ hx210_1)).trans hx210_1
           replace hx210_2 := (HB.out.cell (zH w _ hx210_2)).trans hx210_2
           have HR210_2 := zN hi210_2
           have HC210_2 := zN hl210_2
           clear hi210_2 hl210_2
           replace p210 := eq_true p210
           replace q210 := eq_true q210
           have p211 : 0 ≤ (0 : Int) := (by omega)
           have q211 : 0 < (l0.length : Int) := zJ (by first | (with_reducible assumption) | assumption)
           obtain ⟨ad211, A211_2, c211_2, e211, hx211_0, hx211_1, hx211_2, hl211_2, hi211_2⟩ := at_T37 HR0.out 0 p211 q211
           obtain rfl : adp0 = ad211 := (by injection e211)
           have qi211 : (0 < l0.length) = True := eq_true (by omega)
           (try rw [zI] at hx211_0)
           (try rw [Nat.zero_mul] at hx211_0)
           (try rw [Addr.add_zero'] at hx211_0)
           (try rw [zI] at hx211_1)
           (try rw [Nat.zero_mul] at hx211_1)
           (try rw [Addr.add_zero'] at hx211_1)
           (try rw [zI] at hx211_2)
           (try rw [Nat.zero_mul] at hx211_2)
           (try rw [Addr.add_zero'] at hx211_2)
           replace hx211_0 := (HB.out.cell (zH w _ hx211_0)).trans hx211_0
           replace hx211_1 := (HB.out.cell (zH w _ hx211_1)).trans hx211_1
           replace hx211_2 := (HB.out.cell (zH w _ hx211_2)).trans hx211_2
           have HR211_2 := zN hi211_2
           have HC211_2 := zN hl211_2
           clear hi211_2 hl211_2
           replace p211 := eq_true p211
           replace q211 := eq_true q211
           have ea_ := Option.some.inj (hx210_2.symm.trans hx211_2)
           injection ea_ with ea_ en_ ec_
           subst ea_
           subst ec_
           clear en_
           have p212 : 0 ≤ (x3_2 : Int) := zJ (by first | (with_reducible assumption) | assumption)
           have q212 : x3_2 < (((rd_T37 l0 0).f2).length : Int) := zJ (by first | (with_reducible assumption) | assumption)
           obtain ⟨ad212, e212, hx212_0, hx212_1, hx212_2, hx212_3, hx212_4⟩ := at_T91 HR211_2.out x3_2 p212 q212
           cases e212
           replace hx212_0 := (HB.out.cell (zH w _ hx212_0)).trans hx212_0
           replace hx212_1 := (HB.out.cell (zH w _ hx212_1)).trans hx212_1
           replace hx212_2 := (HB.out.cell (zH w _ hx212_2)).trans hx212_2
           replace hx212_3 := (HB.out.cell (zH w _ hx212_3)).trans hx212_3
           replace hx212_4 := (HB.out.cell (zH w _ hx212_4)).trans hx212_4
           replace p212 := eq_true p212
           replace q212 := eq_true q212
           try go_wp2
           have n0_ := zN (zC HB.out)
           clear HB
           have HB := n0_
           clear n0_
           have p214 : 0 ≤ (x3_2 : Int) := zJ (by first | (with_reducible assumption) | assumption)
           have q214 : x3_2 < (((rd_T37 l0 0).f2).length : Int) := zJ (by first | (with_reducible assumption) | assumption)
           obtain ⟨ad214, e214, hx214_0, hx214_1, hx214_2, hx214_3, hx214_4⟩ := at_T91 HR211_2.out x3_2 p214 q214
           have hw214_4 := hx214_4
           have hw214_3 := hx214_3
           have hw214_2 := hx214_2
           have hw214_1 := hx214_1
           have hw214_0 := hx214_0
           obtain rfl : ad212 = ad214 := (by injection e214)
           replace hx214_0 := (HB.out.cell (zH w _ hx214_0)).trans hx214_0
           replace hx214_1 := (HB.out.cell (zH w _ hx214_1)).trans hx214_1
           replace hx214_2 := (HB.out.cell (zH w _ hx214_2)).trans hx214_2
           replace hx214_3 := (HB.out.cell (zH w _ hx214_3)).trans hx214_3
           replace hx214_4 := (HB.out.cell (zH w _ hx214_4)).trans hx214_4
           replace p214 := eq_true p214
           replace q214 := eq_true q214
           have p215 : 0 ≤ (0 : Int) := (by omega)
           have q215 : 0 < (l0.length : Int) := zJ (by first | (with_reducible assumption) | assumption)
           obtain ⟨ad215, A215_2, c215_2, e215, hx215_0, hx215_1, hx215_2, hl215_2, hi215_2⟩ := at_T37 HR0.out 0 p215 q215
           have hw215_2 := hx215_2
           (try rw [zI] at hw215_2)
           (try rw [Nat.zero_mul] at hw215_2)
           (try rw [Addr.add_zero'] at hw215_2)
           have hw215_1 := hx215_1
           (try rw [zI] at hw215_1)
           (try rw [Nat.zero_mul] at hw215_1)
           (try rw [Addr.add_zero'] at hw215_1)
           have hw215_0 := hx215_0
           (try rw [zI] at hw215_0)
           (try rw [Nat.zero_mul] at hw215_0)
           (try rw [Addr.add_zero'] at hw215_0)
           obtain rfl : adp0 = ad215 := (by injection e215)
           have qi215 : (0 < l0.length) = True := eq_true (by omega)
           (try rw [zI] at hx215_0)
           (try rw [Nat.zero_mul] at hx215_0)
           (try rw [Addr.add_zero'] at hx215_0)
           (try rw [zI] at hx215_1)
           (try rw [Nat.zero_mul] at hx215_1)
           (try rw [Addr.add_zero'] at hx215_1)
           (try rw [zI] at hx215_2)
           (try rw [Nat.zero_mul] at hx215_2)
           (try rw [Addr.add_zero'] at hx215_2)
           replace hx215_0 := (HB.out.cell (zH w _ hx215_0)).trans hx215_0
           replace hx215_1 := (HB.out.cell (zH w _ hx215_1)).trans hx215_1
           replace hx215_2 := (HB.out.cell (zH w _ hx215_2)).trans hx215_2
           have HR215_2 := zN hi215_2
           have HC215_2 := zN hl215_2
           clear hi215_2 hl215_2
           replace p215 := eq_true p215
           replace q215 := eq_true q215
           have p216 : 0 ≤ (0 : Int) := (by omega)
           have q216 : 0 < (l0.length : Int) := zJ (by first | (with_reducible assumption) | assumption)
           obtain ⟨ad216, A216_2, c216_2, e216, hx216_0, hx216_1, hx216_2, hl216_2, hi216_2⟩ := at_T37 HR0.out 0 p216 q216
           have hw216_2 := hx216_2
           (try rw [zI] at hw216_2)
           (try rw [Nat.zero_mul] at hw216_2)
           (try rw [Addr.add_zero'] at hw216_2)
           have hw216_1 := hx216_1
           (try rw [zI] at hw216_1)
           (try rw [Nat.zero_mul] at hw216_1)
           (try rw [Addr.add_zero'] at hw216_1)
           have hw216_0 := hx216_0
           (try rw [zI] at hw216_0)
           (try rw [Nat.zero_mul] at hw216_0)
           (try rw [Addr.add_zero'] at hw216_0)
           obtain rfl : adp0 = ad216 := (by injection e216)
           have qi216 : (0 < l0.length) = True := eq_true (by omega)
           (try rw [zI] at hx216_0)
           (try rw [Nat.zero_mul] at hx216_0)
           (try rw [Addr.add_zero'] at hx216_0)
           (try rw [zI] at hx216_1)
           (try rw [Nat.zero_mul] at hx216_1)
           (try rw [Addr.add_zero'] at hx216_1)
           (try rw [zI] at hx216_2)
           (try rw [Nat.zero_mul] at hx216_2)
           (try rw [Addr.add_zero'] at hx216_2)
           replace hx216_0 := (HB.out.cell (zH w _ hx216_0)).trans hx216_0
           replace hx216_1 := (HB.out.cell (zH w _ hx216_1)).trans hx216_1
           replace hx216_2 := (HB.out.cell (zH w _ hx216_2)).trans hx216_2
           have HR216_2 := zN hi216_2
           have HC216_2 := zN hl216_2
           clear hi216_2 hl216_2
           replace p216 := eq_true p216
           replace q216 := eq_true q216
           have ea_ := Option.some.inj (hx215_2.symm.trans hx216_2)
           injection ea_ with ea_ en_ ec_
           subst ea_
           subst ec_
           clear en_
           refine start_ (n := 31) (S := fun w' => w'.cell? (ad212.add ((x3_2).toNat * 5)) = some (.int .i8 ((rd_T91 ((rd_T37 l0 0).f2) x3_2).f0.f0)) ∧ w'.cell? ⟨(ad212.add ((x3_2).toNat * 5)).block, (ad212.add ((x3_2).toNat * 5)).off + 1, none⟩ = some (.int .i8 ((rd_T91 ((rd_T37 l0 0).f2) x3_2).f0.f1)) ∧ w'.cell? ⟨(ad212.add ((x3_2).toNat * 5)).block, (ad212.add ((x3_2).toNat * 5)).off + 2, none⟩ = some (.int .i8 ((rd_T91 ((rd_T37 l0 0).f2) x3_2).f1)) ∧ w'.cell? ⟨(ad212.add ((x3_2).toNat * 5)).block, (ad212.add ((x3_2).toNat * 5)).off + 3, none⟩ = some (.int .i8 ((rd_T91 ((rd_T37 l0 0).f2) x3_2).f2)) ∧ w'.cell? ⟨(ad212.add ((x3_2).toNat * 5)).block, (ad212.add ((x3_2).toNat * 5)).off + 4, none⟩ = some (.int .i8 ((rd_T91 ((rd_T37 l0 0).f2) x3_2).f3)) ∧ w'.cell? adp0 = some (.int .i8 ((rd_T37 l0 0).f0)) ∧ w'.cell? ⟨adp0.block, adp0.off + 1, none⟩ = some (.int .i8 ((rd_T37 l0 0).f1)) ∧ w'.cell? ⟨adp0.block, adp0.off + 2, none⟩ = some (.slice A215_2 ((rd_T37 l0 0).f2).length c215_2) ∧ w'.cell? adp0 = some (.int .i8 ((rd_T37 l0 0).f0)) ∧ w'.cell? ⟨adp0.block, adp0.off + 1, none⟩ = some (.int .i8 ((rd_T37 l0 0).f1)) ∧ w'.cell? ⟨adp0.block, adp0.off + 2, none⟩ = some (.slice A215_2 ((rd_T37 l0 0).f2).length c215_2)) (ds := []) #[false, false, false, false, false, false, false, false, false, false, false, false, false, false, false, false, false, false, false, false, false, false, false, false, false, false, false, false, false, false, false] (by kernel_rfl) rfl rfl ⟨((HB.out.cell (zH w _ hw214_0)).trans hw214_0), ((HB.out.cell (zH w _ hw214_1)).trans hw214_1), ((HB.out.cell (zH w _ hw214_2)).trans hw214_2), ((HB.out.cell (zH w _ hw214_3)).trans hw214_3), ((HB.out.cell (zH w _ hw214_4)).trans hw214_4), ((HB.out.cell (zH w _ hw215_0)).trans hw215_0), ((HB.out.cell (zH w _ hw215_1)).trans hw215_1), ((HB.out.cell (zH w _ hw215_2)).trans hw215_2), ((HB.out.cell (zH w _ hw216_0)).trans hw216_0), ((HB.out.cell (zH w _ hw216_1)).trans hw216_1), ((HB.out.cell (zH w _ hw216_2)).trans hw216_2)⟩ (fun hHeld => ?_); refine with_tabW spec_l01Ok.tab7 spec_l01Ok.bits7 (fun HT_ HW_ => ?_)
           generalize wr.drew = w26 at HB HR215_2 HR216_2 hx214_0 hx214_1 hx214_2 hx214_3 hx214_4 hx215_0 hx215_1 hx215_2 hx216_0 hx216_1 hx216_2 hHeld ⊢
           refine pure_ (i := 0) (N := some 44) (v := ?_) (a' := ?_) #[true, false, false, false, false, false, false, false, false, false, false, false, false, false, false, false, false, false, false, false, false, false, false, false, false, false, false, false, false, false, false] rfl rfl (any_of HT_.out (by kernel_rfl)) (fun _ _ _ h => h) (Or.inl ⟨by rfl, ?_⟩) ?_ ?_
           rotate_left
           ·intro w'
            go_simp
            with_reducible rfl
           rotate_left
           ·simp only [Act.put, List.setIfInBounds_toArray, List.set_cons_zero, List.set_cons_succ, i64_w, i32_w]
            rfl
           refine one_ (i := 1) (N := some 45) #[true, true, false, false, false, false, false, false, false, false, false, false, false, false, false, false, false, false, false, false, false, false, false, false, false, false, false, false, false, false, false] rfl rfl (one_of HT_.out (by kernel_rfl)) (by decide) (fun K hK => ?_)
           refine goes_ Try.func132 (by kernel_rfl) rfl #[.pointer (some (ad212.add (x3_2.toNat * 5)))] (by rfl) rfl rfl (by (try simp only [List.map_toArray, List.map_cons, List.map_nil]); first | done | rfl | (simp only [List.length_drop, List.length_take]; rfl)) ?_
           with_reducible refine (spec_l01Piece.calls _ [rd_T91 ((rd_T37 l0 0).f2) x3_2] true _ ?side1 A12.out).mono ?_
           (case side1 => refine ro_of_elem (d := k91) z91 x3_2 (by first | exact of_eq_true p212 | omega) (by first | exact of_eq_true q212 | omega) ?_; repeat (first | exact (Kd.C_below HR211_2.out HB.out) | (with_reducible refine Kd.C_alloc ?_ _) | (with_reducible refine Kd.C_drewN ?_ _) | (with_reducible refine Kd.C_drew ?_)))
           rintro e w27 ⟨rfl, hb⟩
           refine ⟨_, rfl, ?_⟩
           have n0_ := zN (below_step (by repeat (first | (with_reducible first | exact HB.out | apply zA | apply zB | apply zC) | exact HB.out)) hb)
           clear HB
           have HB := n0_
           clear n0_
           (try clear hb)
           (try clear hb2)
           (try clear hk)
           (try clear hi)
           refine hK.out _ _ ⟨((HB.out.cell (zH w _ hw214_0)).trans hw214_0), ((HB.out.cell (zH w _ hw214_1)).trans hw214_1), ((HB.out.cell (zH w _ hw214_2)).trans hw214_2), ((HB.out.cell (zH w _ hw214_3)).trans hw214_3), ((HB.out.cell (zH w _ hw214_4)).trans hw214_4), ((HB.out.cell (zH w _ hw215_0)).trans hw215_0), ((HB.out.cell (zH w _ hw215_1)).trans hw215_1), ((HB.out.cell (zH w _ hw215_2)).trans hw215_2), ((HB.out.cell (zH w _ hw216_0)).trans hw216_0), ((HB.out.cell (zH w _ hw216_1)).trans hw216_1), ((HB.out.cell (zH w _ hw216_2)).trans hw216_2)⟩ (fun hHeld => ?_)
           clear hK K
           refine norm_ (a' := ?_) ?_ ?_
           rotate_left
           ·show Act.put _ (some 45) _ = _
            simp only [Act.put, List.setIfInBounds_toArray, List.set_cons_zero, List.set_cons_succ, i64_w, i32_w]
            rfl
           refine pure_ (i := 2) (N := some 46) (v := ?_) (a' := ?_) #[true, true, true, false, false, false, false, false, false, false, false, false, false, false, false, false, false, false, false, false, false, false, false, false, false, false, false, false, false, false, false] rfl rfl (any_of HT_.out (by kernel_rfl)) (fun _ _ _ h => h) (Or.inl ⟨by rfl, ?_⟩) ?_ ?_
           rotate_left
           ·intro w'
            go_simp
            with_reducible rfl
           rotate_left
           ·simp only [Act.put, List.setIfInBounds_toArray, List.set_cons_zero, List.set_cons_succ, i64_w, i32_w]
            rfl
           refine pure_ (i := 3) (N := some 47) (v := ?_) (a' := ?_) #[true, true, true, true, false, false, false, false, false, false, false, false, false, false, false, false, false, false, false, false, false, false, false, false, false, false, false, false, false, false, false] rfl rfl (any_of HT_.out (by kernel_rfl)) (fun _ _ _ h => h) (Or.inl ⟨by rfl, ?_⟩) ?_ ?_
           rotate_left
           ·intro w'
            go_simp
            with_reducible rfl
           rotate_left
           ·simp only [Act.put, List.setIfInBounds_toArray, List.set_cons_zero, List.set_cons_succ, i64_w, i32_w]
            rfl
           refine pure_ (i := 4) (N := some 48) (v := ?_) (a' := ?_) #[true, true, true, true, true, false, false, false, false, false, false, false, false, false, false, false, false, false, false, false, false, false, false, false, false, false, false, false, false, false, false] rfl rfl (any_of HT_.out (by kernel_rfl)) (fun _ _ _ h => h) (Or.inl ⟨by rfl, ?_⟩) ?_ ?_
           rotate_left
           ·intro w'
            go_simp
            with_reducible rfl
           rotate_left
           ·simp only [Act.put, List.setIfInBounds_toArray, List.set_cons_zero, List.set_cons_succ, i64_w, i32_w]
            rfl
           refine pure_ (i := 5) (N := some 49) (v := ?_) (a' := ?_) #[true, true, true, true, true, true, false, false, false, false, false, false, false, false, false, false, false, false, false, false, false, false, false, false, false, false, false, false, false, false, false] rfl rfl (any_of HT_.out (by kernel_rfl)) (fun _ _ _ h => h) (Or.inl ⟨by rfl, ?_⟩) ?_ ?_
           rotate_left
           ·intro w'
            go_simp
            with_reducible rfl
           rotate_left
           ·simp only [Act.put, List.setIfInBounds_toArray, List.set_cons_zero, List.set_cons_succ, i64_w, i32_w]
            rfl
           refine pure_ (i := 6) (N := some 50) (v := ?_) (a' := ?_) #[true, true, true, true, true, true, true, false, false, false, false, false, false, false, false, false, false, false, false, false, false, false, false, false, false, false, false, false, false, false, false] rfl rfl (any_of HT_.out (by kernel_rfl)) (fun _ _ _ h => h) (Or.inl ⟨by rfl, ?_⟩) ?_ ?_
           rotate_left
           ·intro w'
            go_simp
            with_reducible rfl
           rotate_left
           ·simp only [Act.put, List.setIfInBounds_toArray, List.set_cons_zero, List.set_cons_succ, i64_w, i32_w]
            rfl
           refine pure_ (i := 8) (N := some 52) (v := ?_) (a' := ?_) #[true, true, true, true, true, true, true, false, true, false, false, false, false, false, false, false, false, false, false, false, false, false, false, false, false, false, false, false, false, false, false] rfl rfl (any_of HT_.out (by kernel_rfl)) (fun _ _ _ h => h) (Or.inl ⟨by rfl, ?_⟩) ?_ ?_
           rotate_left
           ·intro w'
            go_simp
            with_reducible rfl
           rotate_left
           ·simp only [Act.put, List.setIfInBounds_toArray, List.set_cons_zero, List.set_cons_succ, i64_w, i32_w]
            rfl
           refine pure_ (i := 9) (N := some 53) (v := ?_) (a' := ?_) #[true, true, true, true, true, true, true, false, true, true, false, false, false, false, false, false, false, false, false, false, false, false, false, false, false, false, false, false, false, false, false] rfl rfl (any_of HT_.out (by kernel_rfl)) (fun _ _ _ h => h) (Or.inl ⟨by rfl, ?_⟩) ?_ ?_
           rotate_left
           ·intro w'
            go_simp
            with_reducible rfl
           rotate_left
           ·simp only [Act.put, List.setIfInBounds_toArray, List.set_cons_zero, List.set_cons_succ, i64_w, i32_w]
            rfl
           refine pure_ (i := 10) (N := some 54) (v := ?_) (a' := ?_) #[true, true, true, true, true, true, true, false, true, true, true, false, false, false, false, false, false, false, false, false, false, false, false, false, false, false, false, false, false, false, false] rfl rfl (any_of HT_.out (by kernel_rfl)) (fun _ _ _ h => h) (Or.inl ⟨by rfl, ?_⟩) ?_ ?_
           rotate_left
           ·intro w'
            go_simp
            with_reducible rfl
           rotate_left
           ·simp only [Act.put, List.setIfInBounds_toArray, List.set_cons_zero, List.set_cons_succ, i64_w, i32_w]
            rfl
           refine pure_ (i := 13) (N := some 57) (v := ?_) (a' := ?_) #[true, true, true, true, true, true, true, false, true, true, true, false, false, true, false, false, false, false, false, false, false, false, false, false, false, false, false, false, false, false, false] rfl rfl (any_of HT_.out (by kernel_rfl)) (fun _ _ _ h => h) (Or.inl ⟨by rfl, ?_⟩) ?_ ?_
           rotate_left
           ·intro w'
            go_simp
            with_reducible rfl
           rotate_left
           ·simp only [Act.put, List.setIfInBounds_toArray, List.set_cons_zero, List.set_cons_succ, i64_w, i32_w]
            rfl
           refine pure_ (i := 14) (N := some 58) (v := ?_) (a' := ?_) #[true, true, true, true, true, true, true, false, true, true, true, false, false, true, true, false, false, false, false, false, false, false, false, false, false, false, false, false, false, false, false] rfl rfl (any_of HT_.out (by kernel_rfl)) (fun _ _ _ h => h) (Or.inl ⟨by rfl, ?_⟩) ?_ ?_
           rotate_left
           ·intro w'
            go_simp
            with_reducible rfl
           rotate_left
           ·simp only [Act.put, List.setIfInBounds_toArray, List.set_cons_zero, List.set_cons_succ, i64_w, i32_w]
            rfl
           refine pure_ (i := 15) (N := some 59) (v := ?_) (a' := ?_) #[true, true, true, true, true, true, true, false, true, true, true, false, false, true, true, true, false, false, false, false, false, false, false, false, false, false, false, false, false, false, false] rfl rfl (any_of HT_.out (by kernel_rfl)) (fun _ _ _ h => h) (Or.inl ⟨by rfl, ?_⟩) ?_ ?_
           rotate_left
           ·intro w'
            go_simp
            with_reducible rfl
           rotate_left
           ·simp only [Act.put, List.setIfInBounds_toArray, List.set_cons_zero, List.set_cons_succ, i64_w, i32_w]
            rfl
           refine take_ (i := 7) (N := some 51) (v := ?_) (a' := ?_) #[true, true, true, true, true, true, true, true, true, true, true, false, false, true, true, true, false, false, false, false, false, false, false, false, false, false, false, false, false, false, false] rfl rfl (take_ofW HT_.out HW_.out (by kernel_rfl)) (fun _ _ _ h => h) (Or.inl ⟨by rfl, ?_⟩) hHeld ?_ ?_
           rotate_left
           ·rintro w' ⟨s0, s1, s2, s3, s4, s5, s6, s7, s8, s9, s10⟩
            go_simp
            with_reducible rfl
           rotate_left
           ·simp only [Act.put, List.setIfInBounds_toArray, List.set_cons_zero, List.set_cons_succ, i64_w, i32_w]
            rfl
           refine take_ (i := 11) (N := some 55) (v := ?_) (a' := ?_) #[true, true, true, true, true, true, true, true, true, true, true, true, false, true, true, true, false, false, false, false, false, false, false, false, false, false, false, false, false, false, false] rfl rfl (take_ofW HT_.out HW_.out (by kernel_rfl)) (fun _ _ _ h => h) (Or.inl ⟨by rfl, ?_⟩) hHeld ?_ ?_
           rotate_left
           ·rintro w' ⟨s0, s1, s2, s3, s4, s5, s6, s7, s8, s9, s10⟩
            go_simp
            with_reducible rfl
           rotate_left
           ·simp only [Act.put, List.setIfInBounds_toArray, List.set_cons_zero, List.set_cons_succ, i64_w, i32_w]
            rfl
           refine pure_ (i := 12) (N := some 56) (v := ?_) (a' := ?_) #[true, true, true, true, true, true, true, true, true, true, true, true, true, true, true, true, false, false, false, false, false, false, false, false, false, false, false, false, false, false, false] rfl rfl (any_of HT_.out (by kernel_rfl)) (fun _ _ _ h => h) (Or.inl ⟨by rfl, ?_⟩) ?_ ?_
           rotate_left
           ·intro w'
            go_simp
            with_reducible rfl
           rotate_left
           ·simp only [Act.put, List.setIfInBounds_toArray, List.set_cons_zero, List.set_cons_succ, i64_w, i32_w]
            rfl
           refine take_ (i := 16) (N := some 60) (v := ?_) (a' := ?_) #[true, true, true, true, true, true, true, true, true, true, true, true, true, true, true, true, true, false, false, false, false, false, false, false, false, false, false, false, false, false, false] rfl rfl (take_ofW HT_.out HW_.out (by kernel_rfl)) (fun _ _ _ h => h) (Or.inl ⟨by rfl, ?_⟩) hHeld ?_ ?_
           rotate_left
           ·rintro w' ⟨s0, s1, s2, s3, s4, s5, s6, s7, s8, s9, s10⟩
            go_simp
            with_reducible rfl
           rotate_left
           ·simp only [Act.put, List.setIfInBounds_toArray, List.set_cons_zero, List.set_cons_succ, i64_w, i32_w]
            rfl
           refine pure_ (i := 17) (N := some 61) (v := ?_) (a' := ?_) #[true, true, true, true, true, true, true, true, true, true, true, true, true, true, true, true, true, true, false, false, false, false, false, false, false, false, false, false, false, false, false] rfl rfl (any_of HT_.out (by kernel_rfl)) (fun _ _ _ h => h) (Or.inl ⟨by rfl, ?_⟩) ?_ ?_
           rotate_left
           ·intro w'
            go_simp
            with_reducible rfl
           rotate_left
           ·simp only [Act.put, List.setIfInBounds_toArray, List.set_cons_zero, List.set_cons_succ, i64_w, i32_w]
            rfl
           refine one_ (i := 18) (N := some 62) #[true, true, true, true, true, true, true, true, true, true, true, true, true, true, true, true, true, true, true, false, false, false, false, false, false, false, false, false, false, false, false] rfl rfl (one_of HT_.out (by kernel_rfl)) (by decide) (fun K hK => ?_)
           refine goes_ Try.func133 (by kernel_rfl) rfl #[.agg #[.int .i8 ((rd_T91 ((rd_T37 l0 0).f2) x3_2).f0.f0), .int .i8 ((rd_T91 ((rd_T37 l0 0).f2) x3_2).f0.f1)], .int .i64 (wrap64 ((rd_T37 l0 0).f0)), .int .i64 (wrap64 ((rd_T37 l0 0).f1))] (by rfl) rfl rfl (by (try simp only [List.map_toArray, List.map_cons, List.map_nil]); first | done | rfl | (simp only [List.length_drop, List.length_take]; rfl)) ?_
           with_reducible refine (spec_l01In.calls ((rd_T91 ((rd_T37 l0 0).f2) x3_2).f0.f0) ((rd_T91 ((rd_T37 l0 0).f2) x3_2).f0.f1) (wrap64 ((rd_T37 l0 0).f0)) (wrap64 ((rd_T37 l0 0).f1)) false _ A14.out).mono ?_
           rintro e w28 ⟨rfl, hb⟩
           refine ⟨_, rfl, ?_⟩
           have n0_ := zN (below_step (by repeat (first | (with_reducible first | exact HB.out | apply zA | apply zB | apply zC) | exact HB.out)) hb)
           clear HB
           have HB := n0_
           clear n0_
           (try clear hb)
           (try clear hb2)
           (try clear hk)
           (try clear hi)
           refine hK.out _ _ ⟨((HB.out.cell (zH w _ hw214_0)).trans hw214_0), ((HB.out.cell (zH w _ hw214_1)).trans hw214_1), ((HB.out.cell (zH w _ hw214_2)).trans hw214_2), ((HB.out.cell (zH w _ hw214_3)).trans hw214_3), ((HB.out.cell (zH w _ hw214_4)).trans hw214_4), ((HB.out.cell (zH w _ hw215_0)).trans hw215_0), ((HB.out.cell (zH w _ hw215_1)).trans hw215_1), ((HB.out.cell (zH w _ hw215_2)).trans hw215_2), ((HB.out.cell (zH w _ hw216_0)).trans hw216_0), ((HB.out.cell (zH w _ hw216_1)).trans hw216_1), ((HB.out.cell (zH w _ hw216_2)).trans hw216_2)⟩ (fun hHeld => ?_)
           clear hK K
           refine norm_ (a' := ?_) ?_ ?_
           rotate_left
           ·show Act.put _ (some 62) _ = _
            simp only [Act.put, List.setIfInBounds_toArray, List.set_cons_zero, List.set_cons_succ, i64_w, i32_w]
            rfl
           refine pure_ (i := 19) (N := some 63) (v := ?_) (a' := ?_) #[true, true, true, true, true, true, true, true, true, true, true, true, true, true, true, true, true, true, true, true, false, false, false, false, false, false, false, false, false, false, false] rfl rfl (any_of HT_.out (by kernel_rfl)) (fun _ _ _ h => h) (Or.inl ⟨by rfl, ?_⟩) ?_ ?_
           rotate_left
           ·intro w'
            go_simp
            with_reducible rfl
           rotate_left
           ·simp only [Act.put, List.setIfInBounds_toArray, List.set_cons_zero, List.set_cons_succ, i64_w, i32_w]
            rfl
           refine pure_ (i := 20) (N := some 64) (v := ?_) (a' := ?_) #[true, true, true, true, true, true, true, true, true, true, true, true, true, true, true, true, true, true, true, true, true, false, false, false, false, false, false, false, false, false, false] rfl rfl (any_of HT_.out (by kernel_rfl)) (fun _ _ _ h => h) (Or.inl ⟨by rfl, ?_⟩) ?_ ?_
           rotate_left
           ·intro w'
            go_simp
            with_reducible rfl
           rotate_left
           ·simp only [Act.put, List.setIfInBounds_toArray, List.set_cons_zero, List.set_cons_succ, i64_w, i32_w]
            rfl
           refine pure_ (i := 21) (N := some 65) (v := ?_) (a' := ?_) #[true, true, true, true, true, true, true, true, true, true, true, true, true, true, true, true, true, true, true, true, true, true, false, false, false, false, false, false, false, false, false] rfl rfl (any_of HT_.out (by kernel_rfl)) (fun _ _ _ h => h) (Or.inl ⟨by rfl, ?_⟩) ?_ ?_
           rotate_left
           ·intro w'
            go_simp
            with_reducible rfl
           rotate_left
           ·simp only [Act.put, List.setIfInBounds_toArray, List.set_cons_zero, List.set_cons_succ, i64_w, i32_w]
            rfl
           refine pure_ (i := 22) (N := some 66) (v := undef) (a' := ?_) #[true, true, true, true, true, true, true, true, true, true, true, true, true, true, true, true, true, true, true, true, true, true, true, false, false, false, false, false, false, false, false] rfl rfl (any_of HT_.out (by kernel_rfl)) (fun _ _ _ h => h) (Or.inr ⟨by rfl, rfl⟩) ?_ ?_
           rotate_left
           ·simp only [Act.put, List.setIfInBounds_toArray, List.set_cons_zero, List.set_cons_succ, i64_w, i32_w]
            rfl
           refine pure_ (i := 23) (N := some 67) (v := undef) (a' := ?_) #[true, true, true, true, true, true, true, true, true, true, true, true, true, true, true, true, true, true, true, true, true, true, true, true, false, false, false, false, false, false, false] rfl rfl (any_of HT_.out (by kernel_rfl)) (fun _ _ _ h => h) (Or.inr ⟨by rfl, rfl⟩) ?_ ?_
           rotate_left
           ·simp only [Act.put, List.setIfInBounds_toArray, List.set_cons_zero, List.set_cons_succ, i64_w, i32_w]
            rfl
           refine pure_ (i := 24) (N := some 68) (v := undef) (a' := ?_) #[true, true, true, true, true, true, true, true, true, true, true, true, true, true, true, true, true, true, true, true, true, true, true, true, true, false, false, false, false, false, false] rfl rfl (any_of HT_.out (by kernel_rfl)) (fun _ _ _ h => h) (Or.inr ⟨by rfl, rfl⟩) ?_ ?_
           rotate_left
           ·simp only [Act.put, List.setIfInBounds_toArray, List.set_cons_zero, List.set_cons_succ, i64_w, i32_w]
            rfl
           refine pure_ (i := 25) (N := some 69) (v := undef) (a' := ?_) #[true, true, true, true, true, true, true, true, true, true, true, true, true, true, true, true, true, true, true, true, true, true, true, true, true, true, false, false, false, false, false] rfl rfl (any_of HT_.out (by kernel_rfl)) (fun _ _ _ h => h) (Or.inr ⟨by rfl, rfl⟩) ?_ ?_
           rotate_left
           ·simp only [Act.put, List.setIfInBounds_toArray, List.set_cons_zero, List.set_cons_succ, i64_w, i32_w]
            rfl
           refine pure_ (i := 26) (N := some 70) (v := undef) (a' := ?_) #[true, true, true, true, true, true, true, true, true, true, true, true, true, true, true, true, true, true, true, true, true, true, true, true, true, true, true, false, false, false, false] rfl rfl (any_of HT_.out (by kernel_rfl)) (fun _ _ _ h => h) (Or.inr ⟨by rfl, rfl⟩) ?_ ?_
           rotate_left
           ·simp only [Act.put, List.setIfInBounds_toArray, List.set_cons_zero, List.set_cons_succ, i64_w, i32_w]
            rfl
           refine pure_ (i := 27) (N := some 71) (v := undef) (a' := ?_) #[true, true, true, true, true, true, true, true, true, true, true, true, true, true, true, true, true, true, true, true, true, true, true, true, true, true, true, true, false, false, false] rfl rfl (any_of HT_.out (by kernel_rfl)) (fun _ _ _ h => h) (Or.inr ⟨by rfl, rfl⟩) ?_ ?_
           rotate_left
           ·simp only [Act.put, List.setIfInBounds_toArray, List.set_cons_zero, List.set_cons_succ, i64_w, i32_w]
            rfl
           refine pure_ (i := 28) (N := some 72) (v := undef) (a' := ?_) #[true, true, true, true, true, true, true, true, true, true, true, true, true, true, true, true, true, true, true, true, true, true, true, true, true, true, true, true, true, false, false] rfl rfl (any_of HT_.out (by kernel_rfl)) (fun _ _ _ h => h) (Or.inr ⟨by rfl, rfl⟩) ?_ ?_
           rotate_left
           ·simp only [Act.put, List.setIfInBounds_toArray, List.set_cons_zero, List.set_cons_succ, i64_w, i32_w]
            rfl
           refine pure_ (i := 29) (N := some 73) (v := undef) (a' := ?_) #[true, true, true, true, true, true, true, true, true, true, true, true, true, true, true, true, true, true, true, true, true, true, true, true, true, true, true, true, true, true, false] rfl rfl (any_of HT_.out (by kernel_rfl)) (fun _ _ _ h => h) (Or.inr ⟨by rfl, rfl⟩) ?_ ?_
           rotate_left
           ·simp only [Act.put, List.setIfInBounds_toArray, List.set_cons_zero, List.set_cons_succ, i64_w, i32_w]
            rfl
           refine pure_ (i := 30) (N := some 74) (v := ?_) (a' := ?_) #[true, true, true, true, true, true, true, true, true, true, true, true, true, true, true, true, true, true, true, true, true, true, true, true, true, true, true, true, true, true, true] rfl rfl (any_of HT_.out (by kernel_rfl)) (fun _ _ _ h => h) (Or.inl ⟨by rfl, ?_⟩) ?_ ?_
           rotate_left
           ·intro w'
            go_simp
            with_reducible rfl
           rotate_left
           ·simp only [Act.put, List.setIfInBounds_toArray, List.set_cons_zero, List.set_cons_succ, i64_w, i32_w]
            rfl
           refine done_ (done_of HT_.out (by kernel_rfl)) ?_
           try go_wp2
           go_ret
           exact ⟨by first | rfl | (simp [errW_none, errW_some] <;> rfl) | (simp [*, errW_none, errW_some] <;> rfl), by repeat (first | (with_reducible first | exact HB.out | apply zA | apply zB | apply zC) | exact HB.out)⟩
         ·replace c13 := Bool.eq_false_iff.mpr c13
          subst c13
          have H1 : (some false) = some r := by rw [if_neg (show ¬ (false = true) by decide)] at H; exact H
          clear H
          have H := H1
          clear H1
          obtain rfl := Option.some.inj H
          have p210 : 0 ≤ (0 : Int) := (by omega)
          have q210 : 0 < (l0.length : Int) := zJ (by first | (with_reducible assumption) | assumption)
          obtain ⟨ad210, A210_2, c210_2, e210, hx210_0, hx210_1, hx210_2, hl210_2, hi210_2⟩ := at_T37 HR0.out 0 p210 q210
          obtain rfl : adp0 = ad210 := (by injection e210)
          have qi210 : (0 < l0.length) = True := eq_true (by omega)
          (try rw [zI] at hx210_0)
          (try rw [Nat.zero_mul] at hx210_0)
          (try rw [Addr.add_zero'] at hx210_0)
          (try rw [zI] at hx210_1)
          (try rw [Nat.zero_mul] at hx210_1)
          (try rw [Addr.add_zero'] at hx210_1)
          (try rw [zI] at hx210_2)
          (try rw [Nat.zero_mul] at hx210_2)
          (try rw [Addr.add_zero'] at hx210_2)
          replace hx210_0 := (HB.out.cell (zH w _ hx210_0)).trans hx210_0
          replace hx210_1 := (HB.out.cell (zH w _ hx210_1)).trans hx210_1
          replace hx210_2 := (HB.out.cell (zH w _ hx210_2)).trans hx210_2
          have HR210_2 := zN hi210_2
          have HC210_2 := zN hl210_2
          clear hi210_2 hl210_2
          replace p210 := eq_true p210
          replace q210 := eq_true q210
          have p211 : 0 ≤ (0 : Int) := (by omega)
          have q211 : 0 < (l0.length : Int) := zJ (by first | (with_reducible assumption) | assumption)
          obtain ⟨ad211, A211_2, c211_2, e211, hx211_0, hx211_1, hx211_2, hl211_2, hi211_2⟩ := at_T37 HR0.out 0 p211 q211
          obtain rfl : adp0 = ad211 := (by injection e211)
          have qi211 : (0 < l0.length) = True := eq_true (by omega)
          (try rw [zI] at hx211_0)
          (try rw [Nat.zero_mul] at hx211_0)
          (try rw [Addr.add_zero'] at hx211_0)
          (try rw [zI] at hx211_1)
          (try rw [Nat.zero_mul] at hx211_1)
          (try rw [Addr.add_zero'] at hx211_1)
          (try rw [zI] at hx211_2)
          (try rw [Nat.zero_mul] at hx211_2)
          (try rw [Addr.add_zero'] at hx211_2)
          replace hx211_0 := (HB.out.cell (zH w _ hx211_0)).trans hx211_0
          replace hx211_1 := (HB.out.cell (zH w _ hx211_1)).trans hx211_1
          replace hx211_2 := (HB.out.cell (zH w _ hx211_2)).trans hx211_2
          have HR211_2 := zN hi211_2
          have HC211_2 := zN hl211_2
          clear hi211_2 hl211_2
          replace p211 := eq_true p211
          replace q211 := eq_true q211
          have ea_ := Option.some.inj (hx210_2.symm.trans hx211_2)
          injection ea_ with ea_ en_ ec_
          subst ea_
          subst ec_
          clear en_
          have p212 : 0 ≤ (x3_2 : Int) := zJ (by first | (with_reducible assumption) | assumption)
          have q212 : x3_2 < (((rd_T37 l0 0).f2).length : Int) := zJ (by first | (with_reducible assumption) | assumption)
          obtain ⟨ad212, e212, hx212_0, hx212_1, hx212_2, hx212_3, hx212_4⟩ := at_T91 HR211_2.out x3_2 p212 q212
          cases e212
          replace hx212_0 := (HB.out.cell (zH w _ hx212_0)).trans hx212_0
          replace hx212_1 := (HB.out.cell (zH w _ hx212_1)).trans hx212_1
          replace hx212_2 := (HB.out.cell (zH w _ hx212_2)).trans hx212_2
          replace hx212_3 := (HB.out.cell (zH w _ hx212_3)).trans hx212_3
          replace hx212_4 := (HB.out.cell (zH w _ hx212_4)).trans hx212_4
          replace p212 := eq_true p212
          replace q212 := eq_true q212
          try go_wp2
          have n0_ := zN (zC HB.out)
          clear HB
          have HB := n0_
          clear n0_
          refine start_ (n := 31) (S := fun w' => True) (ds := []) #[false, false, false, false, false, false, false, false, false, false, false, false, false, false, false, false, false, false, false, false, false, false, false, false, false, false, false, false, false, false, false] (by kernel_rfl) rfl rfl trivial (fun hHeld => ?_); refine with_tabW spec_l01Ok.tab7 spec_l01Ok.bits7 (fun HT_ HW_ => ?_)
          generalize wr.drew = w29 at HB hHeld ⊢
          refine pure_ (i := 0) (N := some 44) (v := ?_) (a' := ?_) #[true, false, false, false, false, false, false, false, false, false, false, false, false, false, false, false, false, false, false, false, false, false, false, false, false, false, false, false, false, false, false] rfl rfl (any_of HT_.out (by kernel_rfl)) (fun _ _ _ h => h) (Or.inl ⟨by rfl, ?_⟩) ?_ ?_
          rotate_left
          ·intro w'
           go_simp
           with_reducible rfl
          rotate_left
          ·simp only [Act.put, List.setIfInBounds_toArray, List.set_cons_zero, List.set_cons_succ, i64_w, i32_w]
           rfl
          refine one_ (i := 1) (N := some 45) #[true, true, false, false, false, false, false, false, false, false, false, false, false, false, false, false, false, false, false, false, false, false, false, false, false, false, false, false, false, false, false] rfl rfl (one_of HT_.out (by kernel_rfl)) (by decide) (fun K hK => ?_)
          refine goes_ Try.func132 (by kernel_rfl) rfl #[.pointer (some (ad212.add (x3_2.toNat * 5)))] (by rfl) rfl rfl (by (try simp only [List.map_toArray, List.map_cons, List.map_nil]); first | done | rfl | (simp only [List.length_drop, List.length_take]; rfl)) ?_
          with_reducible refine (spec_l01Piece.calls _ [rd_T91 ((rd_T37 l0 0).f2) x3_2] false _ ?side1 A12.out).mono ?_
          (case side1 => refine ro_of_elem (d := k91) z91 x3_2 (by first | exact of_eq_true p212 | omega) (by first | exact of_eq_true q212 | omega) ?_; repeat (first | exact (Kd.C_below HR211_2.out HB.out) | (with_reducible refine Kd.C_alloc ?_ _) | (with_reducible refine Kd.C_drewN ?_ _) | (with_reducible refine Kd.C_drew ?_)))
          rintro e w30 ⟨rfl, hb⟩
          refine ⟨_, rfl, ?_⟩
          have n0_ := zN (below_step (by repeat (first | (with_reducible first | exact HB.out | apply zA | apply zB | apply zC) | exact HB.out)) hb)
          clear HB
          have HB := n0_
          clear n0_
          (try clear hb)
          (try clear hb2)
          (try clear hk)
          (try clear hi)
          refine hK.out _ _ trivial (fun hHeld => ?_)
          clear hK K
          refine norm_ (a' := ?_) ?_ ?_
          rotate_left
          ·show Act.put _ (some 45) _ = _
           simp only [Act.put, List.setIfInBounds_toArray, List.set_cons_zero, List.set_cons_succ, i64_w, i32_w]
           rfl
          refine pure_ (i := 2) (N := some 46) (v := ?_) (a' := ?_) #[true, true, true, false, false, false, false, false, false, false, false, false, false, false, false, false, false, false, false, false, false, false, false, false, false, false, false, false, false, false, false] rfl rfl (any_of HT_.out (by kernel_rfl)) (fun _ _ _ h => h) (Or.inl ⟨by rfl, ?_⟩) ?_ ?_
          rotate_left
          ·intro w'
           go_simp
           with_reducible rfl
          rotate_left
          ·simp only [Act.put, List.setIfInBounds_toArray, List.set_cons_zero, List.set_cons_succ, i64_w, i32_w]
           rfl
          refine pure_ (i := 3) (N := some 47) (v := ?_) (a' := ?_) #[true, true, true, true, false, false, false, false, false, false, false, false, false, false, false, false, false, false, false, false, false, false, false, false, false, false, false, false, false, false, false] rfl rfl (any_of HT_.out (by kernel_rfl)) (fun _ _ _ h => h) (Or.inl ⟨by rfl, ?_⟩) ?_ ?_
          rotate_left
          ·intro w'
           go_simp
           with_reducible rfl
          rotate_left
          ·simp only [Act.put, List.setIfInBounds_toArray, List.set_cons_zero, List.set_cons_succ, i64_w, i32_w]
           rfl
          refine pure_ (i := 4) (N := some 48) (v := undef) (a' := ?_) #[true, true, true, true, true, false, false, false, false, false, false, false, false, false, false, false, false, false, false, false, false, false, false, false, false, false, false, false, false, false, false] rfl rfl (any_of HT_.out (by kernel_rfl)) (fun _ _ _ h => h) (Or.inr ⟨by rfl, rfl⟩) ?_ ?_
          rotate_left
          ·simp only [Act.put, List.setIfInBounds_toArray, List.set_cons_zero, List.set_cons_succ, i64_w, i32_w]
           rfl
          refine pure_ (i := 5) (N := some 49) (v := undef) (a' := ?_) #[true, true, true, true, true, true, false, false, false, false, false, false, false, false, false, false, false, false, false, false, false, false, false, false, false, false, false, false, false, false, false] rfl rfl (any_of HT_.out (by kernel_rfl)) (fun _ _ _ h => h) (Or.inr ⟨by rfl, rfl⟩) ?_ ?_
          rotate_left
          ·simp only [Act.put, List.setIfInBounds_toArray, List.set_cons_zero, List.set_cons_succ, i64_w, i32_w]
           rfl
          refine pure_ (i := 6) (N := some 50) (v := undef) (a' := ?_) #[true, true, true, true, true, true, true, false, false, false, false, false, false, false, false, false, false, false, false, false, false, false, false, false, false, false, false, false, false, false, false] rfl rfl (any_of HT_.out (by kernel_rfl)) (fun _ _ _ h => h) (Or.inr ⟨by rfl, rfl⟩) ?_ ?_
          rotate_left
          ·simp only [Act.put, List.setIfInBounds_toArray, List.set_cons_zero, List.set_cons_succ, i64_w, i32_w]
           rfl
          refine pure_ (i := 7) (N := some 51) (v := undef) (a' := ?_) #[true, true, true, true, true, true, true, true, false, false, false, false, false, false, false, false, false, false, false, false, false, false, false, false, false, false, false, false, false, false, false] rfl rfl (any_of HT_.out (by kernel_rfl)) (fun _ _ _ h => h) (Or.inr ⟨by rfl, rfl⟩) ?_ ?_
          rotate_left
          ·simp only [Act.put, List.setIfInBounds_toArray, List.set_cons_zero, List.set_cons_succ, i64_w, i32_w]
           rfl
          refine pure_ (i := 8) (N := some 52) (v := undef) (a' := ?_) #[true, true, true, true, true, true, true, true, true, false, false, false, false, false, false, false, false, false, false, false, false, false, false, false, false, false, false, false, false, false, false] rfl rfl (any_of HT_.out (by kernel_rfl)) (fun _ _ _ h => h) (Or.inr ⟨by rfl, rfl⟩) ?_ ?_
          rotate_left
          ·simp only [Act.put, List.setIfInBounds_toArray, List.set_cons_zero, List.set_cons_succ, i64_w, i32_w]
           rfl
          refine pure_ (i := 9) (N := some 53) (v := undef) (a' := ?_) #[true, true, true, true, true, true, true, true, true, true, false, false, false, false, false, false, false, false, false, false, false, false, false, false, false, false, false, false, false, false, false] rfl rfl (any_of HT_.out (by kernel_rfl)) (fun _ _ _ h => h) (Or.inr ⟨by rfl, rfl⟩) ?_ ?_
          rotate_left
          ·simp only [Act.put, List.setIfInBounds_toArray, List.set_cons_zero, List.set_cons_succ, i64_w, i32_w]
           rfl
          refine pure_ (i := 10) (N := some 54) (v := undef) (a' := ?_) #[true, true, true, true, true, true, true, true, true, true, true, false, false, false, false, false, false, false, false, false, false, false, false, false, false, false, false, false, false, false, false] rfl rfl (any_of HT_.out (by kernel_rfl)) (fun _ _ _ h => h) (Or.inr ⟨by rfl, rfl⟩) ?_ ?_
          rotate_left
          ·simp only [Act.put, List.setIfInBounds_toArray, List.set_cons_zero, List.set_cons_succ, i64_w, i32_w]
           rfl
          refine pure_ (i := 11) (N := some 55) (v := undef) (a' := ?_) #[true, true, true, true, true, true, true, true, true, true, true, true, false, false, false, false, false, false, false, false, false, false, false, false, false, false, false, false, false, false, false] rfl rfl (any_of HT_.out (by kernel_rfl)) (fun _ _ _ h => h) (Or.inr ⟨by rfl, rfl⟩) ?_ ?_
          rotate_left
          ·simp only [Act.put, List.setIfInBounds_toArray, List.set_cons_zero, List.set_cons_succ, i64_w, i32_w]
           rfl
          refine pure_ (i := 12) (N := some 56) (v := undef) (a' := ?_) #[true, true, true, true, true, true, true, true, true, true, true, true, true, false, false, false, false, false, false, false, false, false, false, false, false, false, false, false, false, false, false] rfl rfl (any_of HT_.out (by kernel_rfl)) (fun _ _ _ h => h) (Or.inr ⟨by rfl, rfl⟩) ?_ ?_
          rotate_left
          ·simp only [Act.put, List.setIfInBounds_toArray, List.set_cons_zero, List.set_cons_succ, i64_w, i32_w]
           rfl
          refine pure_ (i := 13) (N := some 57) (v := undef) (a' := ?_) #[true, true, true, true, true, true, true, true, true, true, true, true, true, true, false, false, false, false, false, false, false, false, false, false, false, false, false, false, false, false, false] rfl rfl (any_of HT_.out (by kernel_rfl)) (fun _ _ _ h => h) (Or.inr ⟨by rfl, rfl⟩) ?_ ?_
          rotate_left
          ·simp only [Act.put, List.setIfInBounds_toArray, List.set_cons_zero, List.set_cons_succ, i64_w, i32_w]
           rfl
          refine pure_ (i := 14) (N := some 58) (v := undef) (a' := ?_) #[true, true, true, true, true, true, true, true, true, true, true, true, true, true, true, false, false, false, false, false, false, false, false, false, false, false, false, false, false, false, false] rfl rfl (any_of HT_.out (by kernel_rfl)) (fun _ _ _ h => h) (Or.inr ⟨by rfl, rfl⟩) ?_ ?_
          rotate_left
          ·simp only [Act.put, List.setIfInBounds_toArray, List.set_cons_zero, List.set_cons_succ, i64_w, i32_w]
           rfl
          refine pure_ (i := 15) (N := some 59) (v := undef) (a' := ?_) #[true, true, true, true, true, true, true, true, true, true, true, true, true, true, true, true, false, false, false, false, false, false, false, false, false, false, false, false, false, false, false] rfl rfl (any_of HT_.out (by kernel_rfl)) (fun _ _ _ h => h) (Or.inr ⟨by rfl, rfl⟩) ?_ ?_
          rotate_left
          ·simp only [Act.put, List.setIfInBounds_toArray, List.set_cons_zero, List.set_cons_succ, i64_w, i32_w]
           rfl
          refine pure_ (i := 16) (N := some 60) (v := undef) (a' := ?_) #[true, true, true, true, true, true, true, true, true, true, true, true, true, true, true, true, true, false, false, false, false, false, false, false, false, false, false, false, false, false, false] rfl rfl (any_of HT_.out (by kernel_rfl)) (fun _ _ _ h => h) (Or.inr ⟨by rfl, rfl⟩) ?_ ?_
          rotate_left
          ·simp only [Act.put, List.setIfInBounds_toArray, List.set_cons_zero, List.set_cons_succ, i64_w, i32_w]
           rfl
          refine pure_ (i := 17) (N := some 61) (v := undef) (a' := ?_) #[true, true, true, true, true, true, true, true, true, true, true, true, true, true, true, true, true, true, false, false, false, false, false, false, false, false, false, false, false, false, false] rfl rfl (any_of HT_.out (by kernel_rfl)) (fun _ _ _ h => h) (Or.inr ⟨by rfl, rfl⟩) ?_ ?_
          rotate_left
          ·simp only [Act.put, List.setIfInBounds_toArray, List.set_cons_zero, List.set_cons_succ, i64_w, i32_w]
           rfl
          refine pure_ (i := 18) (N := some 62) (v := undef) (a' := ?_) #[true, true, true, true, true, true, true, true, true, true, true, true, true, true, true, true, true, true, true, false, false, false, false, false, false, false, false, false, false, false, false] rfl rfl (any_of HT_.out (by kernel_rfl)) (fun _ _ _ h => h) (Or.inr ⟨by rfl, rfl⟩) ?_ ?_
          rotate_left
          ·simp only [Act.put, List.setIfInBounds_toArray, List.set_cons_zero, List.set_cons_succ, i64_w, i32_w]
           rfl
          refine pure_ (i := 19) (N := some 63) (v := undef) (a' := ?_) #[true, true, true, true, true, true, true, true, true, true, true, true, true, true, true, true, true, true, true, true, false, false, false, false, false, false, false, false, false, false, false] rfl rfl (any_of HT_.out (by kernel_rfl)) (fun _ _ _ h => h) (Or.inr ⟨by rfl, rfl⟩) ?_ ?_
          rotate_left
          ·simp only [Act.put, List.setIfInBounds_toArray, List.set_cons_zero, List.set_cons_succ, i64_w, i32_w]
           rfl
          refine pure_ (i := 20) (N := some 64) (v := ?_) (a' := ?_) #[true, true, true, true, true, true, true, true, true, true, true, true, true, true, true, true, true, true, true, true, true, false, false, false, false, false, false, false, false, false, false] rfl rfl (any_of HT_.out (by kernel_rfl)) (fun _ _ _ h => h) (Or.inl ⟨by rfl, ?_⟩) ?_ ?_
          rotate_left
          ·intro w'
           go_simp
           with_reducible rfl
          rotate_left
          ·simp only [Act.put, List.setIfInBounds_toArray, List.set_cons_zero, List.set_cons_succ, i64_w, i32_w]
           rfl
          refine pure_ (i := 21) (N := some 65) (v := ?_) (a' := ?_) #[true, true, true, true, true, true, true, true, true, true, true, true, true, true, true, true, true, true, true, true, true, true, false, false, false, false, false, false, false, false, false] rfl rfl (any_of HT_.out (by kernel_rfl)) (fun _ _ _ h => h) (Or.inl ⟨by rfl, ?_⟩) ?_ ?_
          rotate_left
          ·intro w'
           go_simp
           with_reducible rfl
          rotate_left
          ·simp only [Act.put, List.setIfInBounds_toArray, List.set_cons_zero, List.set_cons_succ, i64_w, i32_w]
           rfl
          refine pure_ (i := 22) (N := some 66) (v := undef) (a' := ?_) #[true, true, true, true, true, true, true, true, true, true, true, true, true, true, true, true, true, true, true, true, true, true, true, false, false, false, false, false, false, false, false] rfl rfl (any_of HT_.out (by kernel_rfl)) (fun _ _ _ h => h) (Or.inr ⟨by rfl, rfl⟩) ?_ ?_
          rotate_left
          ·simp only [Act.put, List.setIfInBounds_toArray, List.set_cons_zero, List.set_cons_succ, i64_w, i32_w]
           rfl
          refine pure_ (i := 23) (N := some 67) (v := undef) (a' := ?_) #[true, true, true, true, true, true, true, true, true, true, true, true, true, true, true, true, true, true, true, true, true, true, true, true, false, false, false, false, false, false, false] rfl rfl (any_of HT_.out (by kernel_rfl)) (fun _ _ _ h => h) (Or.inr ⟨by rfl, rfl⟩) ?_ ?_
          rotate_left
          ·simp only [Act.put, List.setIfInBounds_toArray, List.set_cons_zero, List.set_cons_succ, i64_w, i32_w]
           rfl
          refine pure_ (i := 24) (N := some 68) (v := undef) (a' := ?_) #[true, true, true, true, true, true, true, true, true, true, true, true, true, true, true, true, true, true, true, true, true, true, true, true, true, false, false, false, false, false, false] rfl rfl (any_of HT_.out (by kernel_rfl)) (fun _ _ _ h => h) (Or.inr ⟨by rfl, rfl⟩) ?_ ?_
          rotate_left
          ·simp only [Act.put, List.setIfInBounds_toArray, List.set_cons_zero, List.set_cons_succ, i64_w, i32_w]
           rfl
          refine pure_ (i := 25) (N := some 69) (v := undef) (a' := ?_) #[true, true, true, true, true, true, true, true, true, true, true, true, true, true, true, true, true, true, true, true, true, true, true, true, true, true, false, false, false, false, false] rfl rfl (any_of HT_.out (by kernel_rfl)) (fun _ _ _ h => h) (Or.inr ⟨by rfl, rfl⟩) ?_ ?_
          rotate_left
          ·simp only [Act.put, List.setIfInBounds_toArray, List.set_cons_zero, List.set_cons_succ, i64_w, i32_w]
           rfl
          refine pure_ (i := 26) (N := some 70) (v := undef) (a' := ?_) #[true, true, true, true, true, true, true, true, true, true, true, true, true, true, true, true, true, true, true, true, true, true, true, true, true, true, true, false, false, false, false] rfl rfl (any_of HT_.out (by kernel_rfl)) (fun _ _ _ h => h) (Or.inr ⟨by rfl, rfl⟩) ?_ ?_
          rotate_left
          ·simp only [Act.put, List.setIfInBounds_toArray, List.set_cons_zero, List.set_cons_succ, i64_w, i32_w]
           rfl
          refine pure_ (i := 27) (N := some 71) (v := undef) (a' := ?_) #[true, true, true, true, true, true, true, true, true, true, true, true, true, true, true, true, true, true, true, true, true, true, true, true, true, true, true, true, false, false, false] rfl rfl (any_of HT_.out (by kernel_rfl)) (fun _ _ _ h => h) (Or.inr ⟨by rfl, rfl⟩) ?_ ?_
          rotate_left
          ·simp only [Act.put, List.setIfInBounds_toArray, List.set_cons_zero, List.set_cons_succ, i64_w, i32_w]
           rfl
          refine pure_ (i := 28) (N := some 72) (v := undef) (a' := ?_) #[true, true, true, true, true, true, true, true, true, true, true, true, true, true, true, true, true, true, true, true, true, true, true, true, true, true, true, true, true, false, false] rfl rfl (any_of HT_.out (by kernel_rfl)) (fun _ _ _ h => h) (Or.inr ⟨by rfl, rfl⟩) ?_ ?_
          rotate_left
          ·simp only [Act.put, List.setIfInBounds_toArray, List.set_cons_zero, List.set_cons_succ, i64_w, i32_w]
           rfl
          refine pure_ (i := 29) (N := some 73) (v := undef) (a' := ?_) #[true, true, true, true, true, true, true, true, true, true, true, true, true, true, true, true, true, true, true, true, true, true, true, true, true, true, true, true, true, true, false] rfl rfl (any_of HT_.out (by kernel_rfl)) (fun _ _ _ h => h) (Or.inr ⟨by rfl, rfl⟩) ?_ ?_
          rotate_left
          ·simp only [Act.put, List.setIfInBounds_toArray, List.set_cons_zero, List.set_cons_succ, i64_w, i32_w]
           rfl
          refine pure_ (i := 30) (N := some 74) (v := ?_) (a' := ?_) #[true, true, true, true, true, true, true, true, true, true, true, true, true, true, true, true, true, true, true, true, true, true, true, true, true, true, true, true, true, true, true] rfl rfl (any_of HT_.out (by kernel_rfl)) (fun _ _ _ h => h) (Or.inl ⟨by rfl, ?_⟩) ?_ ?_
          rotate_left
          ·intro w'
           go_simp
           with_reducible rfl
          rotate_left
          ·simp only [Act.put, List.setIfInBounds_toArray, List.set_cons_zero, List.set_cons_succ, i64_w, i32_w]
           rfl
          refine done_ (done_of HT_.out (by kernel_rfl)) ?_
          try go_wp2
          go_ret
          exact ⟨by first | rfl | (simp [errW_none, errW_some] <;> rfl) | (simp [*, errW_none, errW_some] <;> rfl), by repeat (first | (with_reducible first | exact HB.out | apply zA | apply zB | apply zC) | exact HB.out)⟩
        ·rw [if_neg c11] at H
         exact absurd H (by simp)
       ·rw [if_neg c10] at H
        have c10b0 : decide (x3_2 < (((rd_T37 l0 0).f2).length : Int)) = false := decide_eq_false c10
        clear c10
        obtain rfl := Option.some.inj H
        have p210 : 0 ≤ (0 : Int) := (by omega)
        have q210 : 0 < (l0.length : Int) := zJ (by first | (with_reducible assumption) | assumption)
        obtain ⟨ad210, A210_2, c210_2, e210, hx210_0, hx210_1, hx210_2, hl210_2, hi210_2⟩ := at_T37 HR0.out 0 p210 q210
        obtain rfl : adp0 = ad210 := (by injection e210)
        have qi210 : (0 < l0.length) = True := eq_true (by omega)
        (try rw [zI] at hx210_0)
        (try rw [Nat.zero_mul] at hx210_0)
        (try rw [Addr.add_zero'] at hx210_0)
        (try rw [zI] at hx210_1)
        (try rw [Nat.zero_mul] at hx210_1)
        (try rw [Addr.add_zero'] at hx210_1)
        (try rw [zI] at hx210_2)
        (try rw [Nat.zero_mul] at hx210_2)
        (try rw [Addr.add_zero'] at hx210_2)
        replace hx210_0 := (HB.out.cell (zH w _ hx210_0)).trans hx210_0
        replace hx210_1 := (HB.out.cell (zH w _ hx210_1)).trans hx210_1
        replace hx210_2 := (HB.out.cell (zH w _ hx210_2)).trans hx210_2
        have HR210_2 := zN hi210_2
        have HC210_2 := zN hl210_2
        clear hi210_2 hl210_2
        replace p210 := eq_true p210
        replace q210 := eq_true q210
        go_wp2
        go_ret
        exact ⟨by first | rfl | (simp [errW_none, errW_some] <;> rfl) | (simp [*, errW_none, errW_some] <;> rfl), by repeat (first | (with_reducible first | exact HB.out | apply zA | apply zB | apply zC) | exact HB.out)⟩
      ·rw [if_neg c9] at H
       exact absurd H (by simp)

end Go.Proofs.Ytffnfpnajkgnaaa.PFnExactValidMachine
