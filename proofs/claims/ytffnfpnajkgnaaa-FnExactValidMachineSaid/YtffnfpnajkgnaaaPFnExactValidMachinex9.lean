-- short
-- WRITTEN by xprint.py, a program of this session's. Not trusted: Lean checks it.
import Derived.Test.YtffnfpnajkgnaaaPFnExactValidMachinex0
import Derived.Test.YtffnfpnajkgnaaaPFnExactValidMachinex2
import Derived.Test.YtffnfpnajkgnaaaPFnExactValidMachinex6
import Derived.Test.YtffnfpnajkgnaaaPFnExactValidMachinex7
import Derived.Test.YtffnfpnajkgnaaaPFnExactValidMachinex8
namespace Go.Proofs.Ytffnfpnajkgnaaa.PFnExactValidMachine
open Go.RowKit Go.Proofs.YtffnfpnajkgnaaaW.PrintWords Go.Proofs.YtffnfpnajkgnaaaW.PrintLast Go.Proofs.YtffnfpnajkgnaaaW.PrintMore Go.Proofs.YtffnfpnajkgnaaaX
attribute [local go_sem] max2_int min2_int max_two min_two max_three min_three max_four min_four   -- for this text's walks alone
set_option linter.unusedVariables false
set_option linter.unusedSimpArgs false

attribute [local go_sem high] eqA116
/-! ### spec_l03Ok: function 99 -/
mutual
def spec_l03Ok.j0 : Nat → List (S41) → Bool → Option (Bool)
 | 0, _, _ => none
 | k + 1, x0, x37 => if x37 = true then (some false) else (spec_l03Ok.l0 k x0 0)
def spec_l03Ok.l0 : Nat → List (S41) → Int → Option (Bool)
 | 0, _, _ => none
 | k + 1, x0, x3 => if 0 < (x0.length : Int) then (if x3 < (((rd_T41 x0 0).f1).length : Int) then (if 0 ≤ x3 then ((spec_l01Side.f (wrap64 ((rd_T116 ((rd_T41 x0 0).f1) x3).f1))).bind fun t231 => (if t231 = true then ((spec_l01Find.f k [(⟨(rd_T41 x0 0).f0.f0, (rd_T41 x0 0).f0.f1, (rd_T41 x0 0).f0.f2⟩ : S37)] ((rd_T116 ((rd_T41 x0 0).f1) x3).f0.f0) ((rd_T116 ((rd_T41 x0 0).f1) x3).f0.f1)).bind fun t235 => (spec_l03Ok.j2 k x0 x3 (decide (t235 < 0)))) else (spec_l03Ok.j2 k x0 x3 true))) else (none)) else (spec_l03Ok.l2 k x0 0)) else (none)
def spec_l03Ok.j2 : Nat → List (S41) → Int → Bool → Option (Bool)
 | 0, _, _, _ => none
 | k + 1, x0, x3, x72 => if x72 = true then (some false) else (spec_l03Ok.l1 k x0 x3 0)
def spec_l03Ok.l1 : Nat → List (S41) → Int → Int → Option (Bool)
 | 0, _, _, _ => none
 | k + 1, x0, x3, x4 => if x4 < x3 then (if 0 < (x0.length : Int) then (if 0 ≤ x4 then (if x4 < (((rd_T41 x0 0).f1).length : Int) then (if 0 ≤ x3 then (if x3 < (((rd_T41 x0 0).f1).length : Int) then (if ((((rd_T116 ((rd_T41 x0 0).f1) x4).f0.f0) == ((rd_T116 ((rd_T41 x0 0).f1) x3).f0.f0) && (((rd_T116 ((rd_T41 x0 0).f1) x4).f0.f1) == ((rd_T116 ((rd_T41 x0 0).f1) x3).f0.f1))) && (((rd_T116 ((rd_T41 x0 0).f1) x4).f1) == ((rd_T116 ((rd_T41 x0 0).f1) x3).f1))) = true then (some false) else (spec_l03Ok.l1 k x0 x3 (wrap64 (x4 + 1)))) else (none)) else (none)) else (none)) else (none)) else (none)) else (spec_l03Ok.l0 k x0 (wrap64 (x3 + 1)))
def spec_l03Ok.l2 : Nat → List (S41) → Int → Option (Bool)
 | 0, _, _ => none
 | k + 1, x0, x5 => if 0 < (x0.length : Int) then (if x5 < (((rd_T41 x0 0).f2).length : Int) then (if 0 ≤ x5 then ((spec_l01Find.f k [(⟨(rd_T41 x0 0).f0.f0, (rd_T41 x0 0).f0.f1, (rd_T41 x0 0).f0.f2⟩ : S37)] ((rd_T74 ((rd_T41 x0 0).f2) x5).f0) ((rd_T74 ((rd_T41 x0 0).f2) x5).f1)).bind fun t244 => (if t244 < 0 then (some false) else (spec_l03Ok.l2 k x0 (wrap64 (x5 + 1))))) else (none)) else (some true)) else (none)
end
def spec_l03Ok.f (k : Nat) (l0 : List (S41)) : Option (Bool) := if 0 < (l0.length : Int) then ((spec_l01Ok.f k [(⟨(rd_T41 l0 0).f0.f0, (rd_T41 l0 0).f0.f1, (rd_T41 l0 0).f0.f2⟩ : S37)]).bind fun t222 => (if t222 = true then (if (((rd_T41 l0 0).f0.f2).length : Int) > 60 then (spec_l03Ok.j0 k l0 true) else ((spec_l00In.f (((rd_T41 l0 0).f1).length : Int) 1 6).bind fun t225 => (if t225 = true then ((spec_l00In.f (((rd_T41 l0 0).f2).length : Int) 1 8).bind fun t227 => (spec_l03Ok.j0 k l0 (!t227))) else (spec_l03Ok.j0 k l0 true)))) else (spec_l03Ok.j0 k l0 true))) else (none)
theorem spec_l03Ok.mono_l : ∀ k, (∀ y0 y1, LeO (spec_l03Ok.j0 k y0 y1) (spec_l03Ok.j0 (k + 1) y0 y1)) ∧ (∀ y0 y1, LeO (spec_l03Ok.l0 k y0 y1) (spec_l03Ok.l0 (k + 1) y0 y1)) ∧ (∀ y0 y1 y2, LeO (spec_l03Ok.j2 k y0 y1 y2) (spec_l03Ok.j2 (k + 1) y0 y1 y2)) ∧ (∀ y0 y1 y2, LeO (spec_l03Ok.l1 k y0 y1 y2) (spec_l03Ok.l1 (k + 1) y0 y1 y2)) ∧ (∀ y0 y1, LeO (spec_l03Ok.l2 k y0 y1) (spec_l03Ok.l2 (k + 1) y0 y1))
 | 0 => ⟨fun _ _ r h => by simp [spec_l03Ok.j0] at h, fun _ _ r h => by simp [spec_l03Ok.l0] at h, fun _ _ _ r h => by simp [spec_l03Ok.j2] at h, fun _ _ _ r h => by simp [spec_l03Ok.l1] at h, fun _ _ r h => by simp [spec_l03Ok.l2] at h⟩
 | k + 1 => by
  obtain ⟨ih0, ih1, ih2, ih3, ih4⟩ := spec_l03Ok.mono_l k
  refine ⟨?_, ?_, ?_, ?_, ?_⟩
  ·intro y0 y1
   unfold spec_l03Ok.j0
   repeat' first
   | (with_reducible exact ih0 _ _)
   | (with_reducible exact ih1 _ _)
   | (with_reducible exact ih2 _ _ _)
   | (with_reducible exact ih3 _ _ _)
   | (with_reducible exact ih4 _ _)
   | (with_reducible exact spec_l01Find.mono _ _ _ _)
   | (with_reducible exact spec_l01Ok.mono _ _)
   | (with_reducible exact LeO.refl _)
   | (with_reducible exact LeO.none _)
   | (with_reducible refine LeO.ite ?_ ?_)
   | (with_reducible refine LeO.bind ?_ (fun _ => ?_))
   | exact ih0 _ _
   | exact ih1 _ _
   | exact ih2 _ _ _
   | exact ih3 _ _ _
   | exact ih4 _ _
   | exact spec_l01Find.mono _ _ _ _
   | exact spec_l01Ok.mono _ _
   | exact LeO.none _
   | refine LeO.ite ?_ ?_
   | refine LeO.bind ?_ (fun _ => ?_)
  ·intro y0 y1
   unfold spec_l03Ok.l0
   repeat' first
   | (with_reducible exact ih0 _ _)
   | (with_reducible exact ih1 _ _)
   | (with_reducible exact ih2 _ _ _)
   | (with_reducible exact ih3 _ _ _)
   | (with_reducible exact ih4 _ _)
   | (with_reducible exact spec_l01Find.mono _ _ _ _)
   | (with_reducible exact spec_l01Ok.mono _ _)
   | (with_reducible exact LeO.refl _)
   | (with_reducible exact LeO.none _)
   | (with_reducible refine LeO.ite ?_ ?_)
   | (with_reducible refine LeO.bind ?_ (fun _ => ?_))
   | exact ih0 _ _
   | exact ih1 _ _
   | exact ih2 _ _ _
   | exact ih3 _ _ _
   | exact ih4 _ _
   | exact spec_l01Find.mono _ _ _ _
   | exact spec_l01Ok.mono _ _
   | exact LeO.none _
   | refine LeO.ite ?_ ?_
   | refine LeO.bind ?_ (fun _ => ?_)
  ·intro y0 y1 y2
   unfold spec_l03Ok.j2
   repeat' first
   | (with_reducible exact ih0 _ _)
   | (with_reducible exact ih1 _ _)
   | (with_reducible exact ih2 _ _ _)
   | (with_reducible exact ih3 _ _ _)
   | (with_reducible exact ih4 _ _)
   | (with_reducible exact spec_l01Find.mono _ _ _ _)
   | (with_reducible exact spec_l01Ok.mono _ _)
   | (with_reducible exact LeO.refl _)
   | (with_reducible exact LeO.none _)
   | (with_reducible refine LeO.ite ?_ ?_)
   | (with_reducible refine LeO.bind ?_ (fun _ => ?_))
   | exact ih0 _ _
   | exact ih1 _ _
   | exact ih2 _ _ _
   | exact ih3 _ _ _
   | exact ih4 _ _
   | exact spec_l01Find.mono _ _ _ _
   | exact spec_l01Ok.mono _ _
   | exact LeO.none _
   | refine LeO.ite ?_ ?_
   | refine LeO.bind ?_ (fun _ => ?_)
  ·intro y0 y1 y2
   unfold spec_l03Ok.l1
   repeat' first
   | (with_reducible exact ih0 _ _)
   | (with_reducible exact ih1 _ _)
   | (with_reducible exact ih2 _ _ _)
   | (with_reducible exact ih3 _ _ _)
   | (with_reducible exact ih4 _ _)
   | (with_reducible exact spec_l01Find.mono _ _ _ _)
   | (with_reducible exact spec_l01Ok.mono _ _)
   | (with_reducible exact LeO.refl _)
   | (with_reducible exact LeO.none _)
   | (with_reducible refine LeO.ite ?_ ?_)
   | (with_reducible refine LeO.bind ?_ (fun _ => ?_))
   | exact ih0 _ _
   | exact ih1 _ _
   | exact ih2 _ _ _
   | exact ih3 _ _ _
   | exact ih4 _ _
   | exact spec_l01Find.mono _ _ _ _
   | exact spec_l01Ok.mono _ _
   | exact LeO.none _
   | refine LeO.ite ?_ ?_
   | refine LeO.bind ?_ (fun _ => ?_)
  ·intro y0 y1
   unfold spec_l03Ok.l2
   repeat' first
   | (with_reducible exact ih0 _ _)
   | (with_reducible exact ih1 _ _)
   | (with_reducible exact ih2 _ _ _)
   | (with_reducible exact ih3 _ _ _)
   | (with_reducible exact ih4 _ _)
   | (with_reducible exact spec_l01Find.mono _ _ _ _)
   | (with_reducible exact spec_l01Ok.mono _ _)
   | (with_reducible exact LeO.refl _)
   | (with_reducible exact LeO.none _)
   | (with_reducible refine LeO.ite ?_ ?_)
   | (with_reducible refine LeO.bind ?_ (fun _ => ?_))
   | exact ih0 _ _
   | exact ih1 _ _
   | exact ih2 _ _ _
   | exact ih3 _ _ _
   | exact ih4 _ _
   | exact spec_l01Find.mono _ _ _ _
   | exact spec_l01Ok.mono _ _
   | exact LeO.none _
   | refine LeO.ite ?_ ?_
   | refine LeO.bind ?_ (fun _ => ?_)
theorem spec_l03Ok.mono : ∀ a0 k, LeO (spec_l03Ok.f k a0) (spec_l03Ok.f (k + 1) a0) := by
 intro a0 k
 obtain ⟨ih0, ih1, ih2, ih3, ih4⟩ := spec_l03Ok.mono_l k
 unfold spec_l03Ok.f
 repeat' first
   | (with_reducible exact ih0 _ _)
   | (with_reducible exact ih1 _ _)
   | (with_reducible exact ih2 _ _ _)
   | (with_reducible exact ih3 _ _ _)
   | (with_reducible exact ih4 _ _)
   | (with_reducible exact spec_l01Find.mono _ _ _ _)
   | (with_reducible exact spec_l01Ok.mono _ _)
   | (with_reducible exact LeO.refl _)
   | (with_reducible exact LeO.none _)
   | (with_reducible refine LeO.ite ?_ ?_)
   | (with_reducible refine LeO.bind ?_ (fun _ => ?_))
   | exact ih0 _ _
   | exact ih1 _ _
   | exact ih2 _ _ _
   | exact ih3 _ _ _
   | exact ih4 _ _
   | exact spec_l01Find.mono _ _ _ _
   | exact spec_l01Ok.mono _ _
   | exact LeO.none _
   | refine LeO.ite ?_ ?_
   | refine LeO.bind ?_ (fun _ => ?_)
def spec_l03Ok.T6 : Bool × List (List Nat × List Nat) := (true, [([], []), ([0], [0]), ([1], [1]), ([2], [2]), ([], []), ([3, 4], [3, 4]), ([5], [5]), ([6], [6]), ([7], [7]), ([8], [8]), ([9], [9]), ([10, 9], [10]), ([11], [11]), ([12, 11], [11, 12]), ([13, 11], [11, 13]), ([11], [11]), ([15, 11], [11, 15]), ([16, 11], [11, 16]), ([17, 11], [11, 17]), ([11], [11]), ([18, 19, 11], [11, 18, 19]), ([20, 11], [11, 20]), ([21, 11], [11, 21]), ([14, 22, 11, 11], [11, 14, 22]), ([23, 11], [11, 23]), ([11, 24], [11, 24])])
def spec_l03Ok.B6 : List Nat := [0, 1, 3, 7, 0, 31, 63, 127, 255, 511, 1023, 2047, 4095, 8191, 16383, 4095, 36863, 102399, 233471, 4095, 1019903, 2068479, 4165631, 8388607, 16777215, 33554431]
theorem spec_l03Ok.tab6 : rtab .any (opsOf Try.f99 6) = spec_l03Ok.T6 := by kernel_rfl
theorem spec_l03Ok.bits6 : waitsOk spec_l03Ok.T6.2 spec_l03Ok.B6 = true := by kernel_rfl
def spec_l03Ok.T11 : Bool × List (List Nat × List Nat) := (true, [([], []), ([0], [0]), ([1], [1]), ([2], [2]), ([], []), ([3, 4], [3, 4]), ([5], [5]), ([], []), ([7], [7]), ([8], [8]), ([9], [9]), ([], []), ([10, 11], [10, 11]), ([12], [12]), ([6, 13], [6, 13])])
def spec_l03Ok.B11 : List Nat := [0, 1, 3, 7, 0, 31, 63, 0, 128, 384, 896, 0, 3968, 8064, 16383]
theorem spec_l03Ok.tab11 : rtab .any (opsOf Try.f99 11) = spec_l03Ok.T11 := by kernel_rfl
theorem spec_l03Ok.bits11 : waitsOk spec_l03Ok.T11.2 spec_l03Ok.B11 = true := by kernel_rfl
def spec_l03Ok.T16 : Bool × List (List Nat × List Nat) := (true, [([], []), ([0], [0]), ([1], [1]), ([], []), ([3], [3]), ([4], [4]), ([5], [5]), ([], []), ([6, 7], [6, 7]), ([8], [8]), ([2, 9], [2, 9]), ([10], [10])])
def spec_l03Ok.B16 : List Nat := [0, 1, 3, 0, 8, 24, 56, 0, 248, 504, 1023, 2047]
theorem spec_l03Ok.tab16 : rtab .any (opsOf Try.f99 16) = spec_l03Ok.T16 := by kernel_rfl
theorem spec_l03Ok.bits16 : waitsOk spec_l03Ok.T16.2 spec_l03Ok.B16 = true := by kernel_rfl
set_option maxHeartbeats 8000000 in
set_option maxRecDepth 100000 in
theorem spec_l03Ok.calls (k : Nat) (adp0 : Addr) (l0 : List (S41)) (r : Bool) (w : World) (hr0 : Kd.C k41 w (some adp0) l0.length l0) (h : spec_l03Ok.f k l0 = some r) :
  Calls Try.prog 99 #[.pointer (some adp0)] w fun e w' => e = .returned (.bool r) ∧ Below w.heap.size w w' := by
 have hu74 := Try.underlying74
 have hu116 := Try.underlying116
 have HR0 := zN hr0
 clear hr0
 have HB := zN (Below.refl w.heap.size w)
 have H : (if 0 < (l0.length : Int) then ((spec_l01Ok.f k [(⟨(rd_T41 l0 0).f0.f0, (rd_T41 l0 0).f0.f1, (rd_T41 l0 0).f0.f2⟩ : S37)]).bind fun t222 => (if t222 = true then (if (((rd_T41 l0 0).f0.f2).length : Int) > 60 then (spec_l03Ok.j0 k l0 true) else ((spec_l00In.f (((rd_T41 l0 0).f1).length : Int) 1 6).bind fun t225 => (if t225 = true then ((spec_l00In.f (((rd_T41 l0 0).f2).length : Int) 1 8).bind fun t227 => (spec_l03Ok.j0 k l0 (!t227))) else (spec_l03Ok.j0 k l0 true)))) else (spec_l03Ok.j0 k l0 true))) else (none)) = some r := h
 clear h
 have HC2 := zN H
 clear H
 go_enter Try.func99, Try.ntmps99
 go_upto_region 1 with (fail)
 go_cut [37] (fun v37 wc => ∃ (kq : Nat) (x37_1 : Bool), v37 = .bool x37_1 ∧ Aside0 (spec_l03Ok.j0 kq l0 x37_1 = some r) ∧ Aside0 (kq ≤ k) ∧ Aside0 (Below w.heap.size w wc))
 case first =>
  have H := HC2.out
  clear HC2
  by_cases c3 : 0 < (l0.length : Int)
  ·rw [if_pos c3] at H
   have c3b0 : decide (0 < (l0.length : Int)) = true := decide_eq_true c3
   have c3b1 : decide (0 < l0.length) = true := decide_eq_true (by omega)
   clear c3
   (first | rw [c3b0] | (simp only [i64_w, i32_w]; rw [c3b0]) | (have h_ := c3b0; simp only [bne] at h_; rw [h_]) | skip)
   replace H := Option.bind_eq_some_iff.mp H
   obtain ⟨t222, A40, H⟩ := H
   replace H : (if t222 = true then (if (((rd_T41 l0 0).f0.f2).length : Int) > 60 then (spec_l03Ok.j0 k l0 true) else ((spec_l00In.f (((rd_T41 l0 0).f1).length : Int) 1 6).bind fun t225 => (if t225 = true then ((spec_l00In.f (((rd_T41 l0 0).f2).length : Int) 1 8).bind fun t227 => (spec_l03Ok.j0 k l0 (!t227))) else (spec_l03Ok.j0 k l0 true)))) else (spec_l03Ok.j0 k l0 true)) = some r := H
   have A4 := zN A40
   clear A40
   by_cases c5 : t222 = true
   ·subst c5
    have H1 : (if (((rd_T41 l0 0).f0.f2).length : Int) > 60 then (spec_l03Ok.j0 k l0 true) else ((spec_l00In.f (((rd_T41 l0 0).f1).length : Int) 1 6).bind fun t225 => (if t225 = true then ((spec_l00In.f (((rd_T41 l0 0).f2).length : Int) 1 8).bind fun t227 => (spec_l03Ok.j0 k l0 (!t227))) else (spec_l03Ok.j0 k l0 true)))) = some r := by rw [if_pos rfl] at H; exact H
    clear H
    have H := H1
    clear H1
    by_cases c6 : (((rd_T41 l0 0).f0.f2).length : Int) > 60
    ·rw [if_pos c6] at H
     have c6b0 : decide (60 < (((rd_T41 l0 0).f0.f2).length : Int)) = true := decide_eq_true c6
     have c6b1 : decide (60 < ((rd_T41 l0 0).f0.f2).length) = true := decide_eq_true (by omega)
     clear c6
     have H' := zN H
     clear H
     have p221 : 0 ≤ (0 : Int) := (by omega)
     have q221 : 0 < (l0.length : Int) := zJ (by first | (with_reducible assumption) | assumption)
     obtain ⟨ad221, A221_2, c221_2, A221_3, c221_3, A221_4, c221_4, e221, hx221_0, hx221_1, hx221_2, hx221_3, hx221_4, hl221_2, hi221_2, hl221_3, hi221_3, hl221_4, hi221_4⟩ := at_T41 HR0.out 0 p221 q221
     obtain rfl : adp0 = ad221 := (by injection e221)
     have qi221 : (0 < l0.length) = True := eq_true (by omega)
     (try rw [zI] at hx221_0)
     (try rw [Nat.zero_mul] at hx221_0)
     (try rw [Addr.add_zero'] at hx221_0)
     (try rw [zI] at hx221_1)
     (try rw [Nat.zero_mul] at hx221_1)
     (try rw [Addr.add_zero'] at hx221_1)
     (try rw [zI] at hx221_2)
     (try rw [Nat.zero_mul] at hx221_2)
     (try rw [Addr.add_zero'] at hx221_2)
     (try rw [zI] at hx221_3)
     (try rw [Nat.zero_mul] at hx221_3)
     (try rw [Addr.add_zero'] at hx221_3)
     (try rw [zI] at hx221_4)
     (try rw [Nat.zero_mul] at hx221_4)
     (try rw [Addr.add_zero'] at hx221_4)
     replace hx221_0 := (HB.out.cell (zH w _ hx221_0)).trans hx221_0
     replace hx221_1 := (HB.out.cell (zH w _ hx221_1)).trans hx221_1
     replace hx221_2 := (HB.out.cell (zH w _ hx221_2)).trans hx221_2
     replace hx221_3 := (HB.out.cell (zH w _ hx221_3)).trans hx221_3
     replace hx221_4 := (HB.out.cell (zH w _ hx221_4)).trans hx221_4
     have HR221_2 := zN hi221_2
     have HC221_2 := zN hl221_2
     clear hi221_2 hl221_2
     have HR221_3 := zN hi221_3
     have HC221_3 := zN hl221_3
     clear hi221_3 hl221_3
     have HR221_4 := zN hi221_4
     have HC221_4 := zN hl221_4
     clear hi221_4 hl221_4
     replace p221 := eq_true p221
     replace q221 := eq_true q221
     go_wp2_with (first | ((with_reducible refine gate_callee (f := 106) rfl ?_); refine goesL_ (some 9) rfl rfl Try.func106 (by kernel_rfl) rfl #[.pointer (some adp0)] rfl (by (try simp only [List.map_toArray, List.map_cons, List.map_nil]); first | done | rfl | (simp only [List.length_drop, List.length_take]; rfl)) ?_; (with_reducible refine (spec_l01Ok.calls k _ [(⟨(rd_T41 l0 0).f0.f0, (rd_T41 l0 0).f0.f1, (rd_T41 l0 0).f0.f2⟩ : S37)] true _ ?side1 A4.out).mono ?_); (case side1 => refine ro_first (d := k41) (d1 := k37) (f := fun x : S41 => (x.f0, x.f1, x.f2)) (l := l0) rfl z41 ?_ (by first | (have h_ := of_eq_true q221; omega) | (have h_ : 0 < (l0.length : Int) := zJ (by assumption); omega) | omega) rfl; repeat (first | exact (Kd.C_below HR0.out HB.out) | (with_reducible refine Kd.C_alloc ?_ _) | (with_reducible refine Kd.C_drewN ?_ _) | (with_reducible refine Kd.C_drew ?_))); rintro e w7 ⟨rfl, hb⟩; refine ⟨_, rfl, ?_⟩; have n0_ := zN (below_step (by repeat (first | (with_reducible first | exact HB.out | apply zA | apply zB | apply zC) | exact HB.out)) hb); clear HB; have HB := n0_; clear n0_; (try clear hb); (try clear hb2); (try clear hk); (try clear hi); have p223 : 0 ≤ (0 : Int) := (by omega); have q223 : 0 < (l0.length : Int) := zJ (by first | (with_reducible assumption) | assumption); obtain ⟨ad223, A223_2, c223_2, A223_3, c223_3, A223_4, c223_4, e223, hx223_0, hx223_1, hx223_2, hx223_3, hx223_4, hl223_2, hi223_2, hl223_3, hi223_3, hl223_4, hi223_4⟩ := at_T41 HR0.out 0 p223 q223; obtain rfl : adp0 = ad223 := (by injection e223); have qi223 : (0 < l0.length) = True := eq_true (by omega); (try rw [zI] at hx223_0); (try rw [Nat.zero_mul] at hx223_0); (try rw [Addr.add_zero'] at hx223_0); (try rw [zI] at hx223_1); (try rw [Nat.zero_mul] at hx223_1); (try rw [Addr.add_zero'] at hx223_1); (try rw [zI] at hx223_2); (try rw [Nat.zero_mul] at hx223_2); (try rw [Addr.add_zero'] at hx223_2); (try rw [zI] at hx223_3); (try rw [Nat.zero_mul] at hx223_3); (try rw [Addr.add_zero'] at hx223_3); (try rw [zI] at hx223_4); (try rw [Nat.zero_mul] at hx223_4); (try rw [Addr.add_zero'] at hx223_4); replace hx223_0 := (HB.out.cell (zH w _ hx223_0)).trans hx223_0; replace hx223_1 := (HB.out.cell (zH w _ hx223_1)).trans hx223_1; replace hx223_2 := (HB.out.cell (zH w _ hx223_2)).trans hx223_2; replace hx223_3 := (HB.out.cell (zH w _ hx223_3)).trans hx223_3; replace hx223_4 := (HB.out.cell (zH w _ hx223_4)).trans hx223_4; have HR223_2 := zN hi223_2; have HC223_2 := zN hl223_2; clear hi223_2 hl223_2; have HR223_3 := zN hi223_3; have HC223_3 := zN hl223_3; clear hi223_3 hl223_3; have HR223_4 := zN hi223_4; have HC223_4 := zN hl223_4; clear hi223_4 hl223_4; replace p223 := eq_true p223; replace q223 := eq_true q223))
     go_meet
     case rel => exact ⟨_, (true), (by first | rfl | (simp; done) | (simp [*]; done) | (exact congrArg (Value.int .i64) (wrap_eq (by omega)))), H', ⟨by first | omega | exact Nat.le_refl _⟩, ⟨by repeat (first | (with_reducible first | exact HB.out | apply zA | apply zB | apply zC) | exact HB.out)⟩⟩
    ·rw [if_neg c6] at H
     have c6b0 : decide (60 < (((rd_T41 l0 0).f0.f2).length : Int)) = false := decide_eq_false c6
     have c6b1 : decide (60 < ((rd_T41 l0 0).f0.f2).length) = false := decide_eq_false (by omega)
     clear c6
     replace H := Option.bind_eq_some_iff.mp H
     obtain ⟨t225, A80, H⟩ := H
     replace H : (if t225 = true then ((spec_l00In.f (((rd_T41 l0 0).f2).length : Int) 1 8).bind fun t227 => (spec_l03Ok.j0 k l0 (!t227))) else (spec_l03Ok.j0 k l0 true)) = some r := H
     have A8 := zN A80
     clear A80
     by_cases c9 : t225 = true
     ·subst c9
      have H1 : ((spec_l00In.f (((rd_T41 l0 0).f2).length : Int) 1 8).bind fun t227 => (spec_l03Ok.j0 k l0 (!t227))) = some r := by rw [if_pos rfl] at H; exact H
      clear H
      have H := H1
      clear H1
      replace H := Option.bind_eq_some_iff.mp H
      obtain ⟨t227, A100, H⟩ := H
      replace H : (spec_l03Ok.j0 k l0 (!t227)) = some r := H
      have A10 := zN A100
      clear A100
      have H' := zN H
      clear H
      have p221 : 0 ≤ (0 : Int) := (by omega)
      have q221 : 0 < (l0.length : Int) := zJ (by first | (with_reducible assumption) | assumption)
      obtain ⟨ad221, A221_2, c221_2, A221_3, c221_3, A221_4, c221_4, e221, hx221_0, hx221_1, hx221_2, hx221_3, hx221_4, hl221_2, hi221_2, hl221_3, hi221_3, hl221_4, hi221_4⟩ := at_T41 HR0.out 0 p221 q221
      obtain rfl : adp0 = ad221 := (by injection e221)
      have qi221 : (0 < l0.length) = True := eq_true (by omega)
      (try rw [zI] at hx221_0)
      (try rw [Nat.zero_mul] at hx221_0)
      (try rw [Addr.add_zero'] at hx221_0)
      (try rw [zI] at hx221_1)
      (try rw [Nat.zero_mul] at hx221_1)
      (try rw [Addr.add_zero'] at hx221_1)
      (try rw [zI] at hx221_2)
      (try rw [Nat.zero_mul] at hx221_2)
      (try rw [Addr.add_zero'] at hx221_2)
      (try rw [zI] at hx221_3)
      (try rw [Nat.zero_mul] at hx221_3)
      (try rw [Addr.add_zero'] at hx221_3)
      (try rw [zI] at hx221_4)
      (try rw [Nat.zero_mul] at hx221_4)
      (try rw [Addr.add_zero'] at hx221_4)
      replace hx221_0 := (HB.out.cell (zH w _ hx221_0)).trans hx221_0
      replace hx221_1 := (HB.out.cell (zH w _ hx221_1)).trans hx221_1
      replace hx221_2 := (HB.out.cell (zH w _ hx221_2)).trans hx221_2
      replace hx221_3 := (HB.out.cell (zH w _ hx221_3)).trans hx221_3
      replace hx221_4 := (HB.out.cell (zH w _ hx221_4)).trans hx221_4
      have HR221_2 := zN hi221_2
      have HC221_2 := zN hl221_2
      clear hi221_2 hl221_2
      have HR221_3 := zN hi221_3
      have HC221_3 := zN hl221_3
      clear hi221_3 hl221_3
      have HR221_4 := zN hi221_4
      have HC221_4 := zN hl221_4
      clear hi221_4 hl221_4
      replace p221 := eq_true p221
      replace q221 := eq_true q221
      go_wp2_with (first | ((with_reducible refine gate_callee (f := 106) rfl ?_); refine goesL_ (some 9) rfl rfl Try.func106 (by kernel_rfl) rfl #[.pointer (some adp0)] rfl (by (try simp only [List.map_toArray, List.map_cons, List.map_nil]); first | done | rfl | (simp only [List.length_drop, List.length_take]; rfl)) ?_; (with_reducible refine (spec_l01Ok.calls k _ [(⟨(rd_T41 l0 0).f0.f0, (rd_T41 l0 0).f0.f1, (rd_T41 l0 0).f0.f2⟩ : S37)] true _ ?side1 A4.out).mono ?_); (case side1 => refine ro_first (d := k41) (d1 := k37) (f := fun x : S41 => (x.f0, x.f1, x.f2)) (l := l0) rfl z41 ?_ (by first | (have h_ := of_eq_true q221; omega) | (have h_ : 0 < (l0.length : Int) := zJ (by assumption); omega) | omega) rfl; repeat (first | exact (Kd.C_below HR0.out HB.out) | (with_reducible refine Kd.C_alloc ?_ _) | (with_reducible refine Kd.C_drewN ?_ _) | (with_reducible refine Kd.C_drew ?_))); rintro e w11 ⟨rfl, hb⟩; refine ⟨_, rfl, ?_⟩; have n0_ := zN (below_step (by repeat (first | (with_reducible first | exact HB.out | apply zA | apply zB | apply zC) | exact HB.out)) hb); clear HB; have HB := n0_; clear n0_; (try clear hb); (try clear hb2); (try clear hk); (try clear hi); have p223 : 0 ≤ (0 : Int) := (by omega); have q223 : 0 < (l0.length : Int) := zJ (by first | (with_reducible assumption) | assumption); obtain ⟨ad223, A223_2, c223_2, A223_3, c223_3, A223_4, c223_4, e223, hx223_0, hx223_1, hx223_2, hx223_3, hx223_4, hl223_2, hi223_2, hl223_3, hi223_3, hl223_4, hi223_4⟩ := at_T41 HR0.out 0 p223 q223; obtain rfl : adp0 = ad223 := (by injection e223); have qi223 : (0 < l0.length) = True := eq_true (by omega); (try rw [zI] at hx223_0); (try rw [Nat.zero_mul] at hx223_0); (try rw [Addr.add_zero'] at hx223_0); (try rw [zI] at hx223_1); (try rw [Nat.zero_mul] at hx223_1); (try rw [Addr.add_zero'] at hx223_1); (try rw [zI] at hx223_2); (try rw [Nat.zero_mul] at hx223_2); (try rw [Addr.add_zero'] at hx223_2); (try rw [zI] at hx223_3); (try rw [Nat.zero_mul] at hx223_3); (try rw [Addr.add_zero'] at hx223_3); (try rw [zI] at hx223_4); (try rw [Nat.zero_mul] at hx223_4); (try rw [Addr.add_zero'] at hx223_4); replace hx223_0 := (HB.out.cell (zH w _ hx223_0)).trans hx223_0; replace hx223_1 := (HB.out.cell (zH w _ hx223_1)).trans hx223_1; replace hx223_2 := (HB.out.cell (zH w _ hx223_2)).trans hx223_2; replace hx223_3 := (HB.out.cell (zH w _ hx223_3)).trans hx223_3; replace hx223_4 := (HB.out.cell (zH w _ hx223_4)).trans hx223_4; have HR223_2 := zN hi223_2; have HC223_2 := zN hl223_2; clear hi223_2 hl223_2; have HR223_3 := zN hi223_3; have HC223_3 := zN hl223_3; clear hi223_3 hl223_3; have HR223_4 := zN hi223_4; have HC223_4 := zN hl223_4; clear hi223_4 hl223_4; replace p223 := eq_true p223; replace q223 := eq_true q223; have p224 : 0 ≤ (0 : Int) := (by omega); have q224 : 0 < (l0.length : Int) := zJ (by first | (with_reducible assumption) | assumption); obtain ⟨ad224, A224_2, c224_2, A224_3, c224_3, A224_4, c224_4, e224, hx224_0, hx224_1, hx224_2, hx224_3, hx224_4, hl224_2, hi224_2, hl224_3, hi224_3, hl224_4, hi224_4⟩ := at_T41 HR0.out 0 p224 q224; obtain rfl : adp0 = ad224 := (by injection e224); have qi224 : (0 < l0.length) = True := eq_true (by omega); (try rw [zI] at hx224_0); (try rw [Nat.zero_mul] at hx224_0); (try rw [Addr.add_zero'] at hx224_0); (try rw [zI] at hx224_1); (try rw [Nat.zero_mul] at hx224_1); (try rw [Addr.add_zero'] at hx224_1); (try rw [zI] at hx224_2); (try rw [Nat.zero_mul] at hx224_2); (try rw [Addr.add_zero'] at hx224_2); (try rw [zI] at hx224_3); (try rw [Nat.zero_mul] at hx224_3); (try rw [Addr.add_zero'] at hx224_3); (try rw [zI] at hx224_4); (try rw [Nat.zero_mul] at hx224_4); (try rw [Addr.add_zero'] at hx224_4); replace hx224_0 := (HB.out.cell (zH w _ hx224_0)).trans hx224_0; replace hx224_1 := (HB.out.cell (zH w _ hx224_1)).trans hx224_1; replace hx224_2 := (HB.out.cell (zH w _ hx224_2)).trans hx224_2; replace hx224_3 := (HB.out.cell (zH w _ hx224_3)).trans hx224_3; replace hx224_4 := (HB.out.cell (zH w _ hx224_4)).trans hx224_4; have HR224_2 := zN hi224_2; have HC224_2 := zN hl224_2; clear hi224_2 hl224_2; have HR224_3 := zN hi224_3; have HC224_3 := zN hl224_3; clear hi224_3 hl224_3; have HR224_4 := zN hi224_4; have HC224_4 := zN hl224_4; clear hi224_4 hl224_4; replace p224 := eq_true p224; replace q224 := eq_true q224; have ea_ := Option.some.inj (hx223_2.symm.trans hx224_2); injection ea_ with ea_ en_ ec_; subst ea_; subst ec_; clear en_; have ea_ := Option.some.inj (hx223_3.symm.trans hx224_3); injection ea_ with ea_ en_ ec_; subst ea_; subst ec_; clear en_; have ea_ := Option.some.inj (hx223_4.symm.trans hx224_4); injection ea_ with ea_ en_ ec_; subst ea_; subst ec_; clear en_) | (go_at_call 96; (with_reducible refine (spec_l00In.calls (((rd_T41 l0 0).f1).length : Int) 1 6 true _ A8.out).mono ?_); rintro e w' ⟨rfl, ⟨nd, rfl⟩⟩; have p226 : 0 ≤ (0 : Int) := (by omega); have q226 : 0 < (l0.length : Int) := zJ (by first | (with_reducible assumption) | assumption); obtain ⟨ad226, A226_2, c226_2, A226_3, c226_3, A226_4, c226_4, e226, hx226_0, hx226_1, hx226_2, hx226_3, hx226_4, hl226_2, hi226_2, hl226_3, hi226_3, hl226_4, hi226_4⟩ := at_T41 HR0.out 0 p226 q226; obtain rfl : adp0 = ad226 := (by injection e226); have qi226 : (0 < l0.length) = True := eq_true (by omega); (try rw [zI] at hx226_0); (try rw [Nat.zero_mul] at hx226_0); (try rw [Addr.add_zero'] at hx226_0); (try rw [zI] at hx226_1); (try rw [Nat.zero_mul] at hx226_1); (try rw [Addr.add_zero'] at hx226_1); (try rw [zI] at hx226_2); (try rw [Nat.zero_mul] at hx226_2); (try rw [Addr.add_zero'] at hx226_2); (try rw [zI] at hx226_3); (try rw [Nat.zero_mul] at hx226_3); (try rw [Addr.add_zero'] at hx226_3); (try rw [zI] at hx226_4); (try rw [Nat.zero_mul] at hx226_4); (try rw [Addr.add_zero'] at hx226_4); replace hx226_0 := (HB.out.cell (zH w _ hx226_0)).trans hx226_0; replace hx226_1 := (HB.out.cell (zH w _ hx226_1)).trans hx226_1; replace hx226_2 := (HB.out.cell (zH w _ hx226_2)).trans hx226_2; replace hx226_3 := (HB.out.cell (zH w _ hx226_3)).trans hx226_3; replace hx226_4 := (HB.out.cell (zH w _ hx226_4)).trans hx226_4; have HR226_2 := zN hi226_2; have HC226_2 := zN hl226_2; clear hi226_2 hl226_2; have HR226_3 := zN hi226_3; have HC226_3 := zN hl226_3; clear hi226_3 hl226_3; have HR226_4 := zN hi226_4; have HC226_4 := zN hl226_4; clear hi226_4 hl226_4; replace p226 := eq_true p226; replace q226 := eq_true q226; have ea_ := Option.some.inj (hx223_2.symm.trans hx226_2); injection ea_ with ea_ en_ ec_; subst ea_; subst ec_; clear en_; have ea_ := Option.some.inj (hx223_3.symm.trans hx226_3); injection ea_ with ea_ en_ ec_; subst ea_; subst ec_; clear en_; have ea_ := Option.some.inj (hx223_4.symm.trans hx226_4); injection ea_ with ea_ en_ ec_; subst ea_; subst ec_; clear en_) | (go_at_call 96; (with_reducible refine (spec_l00In.calls (((rd_T41 l0 0).f2).length : Int) 1 8 t227 _ A10.out).mono ?_); rintro e w' ⟨rfl, ⟨nd, rfl⟩⟩))
      go_meet
      case rel => exact ⟨_, (!t227), (by first | rfl | (simp; done) | (simp [*]; done) | (exact congrArg (Value.int .i64) (wrap_eq (by omega)))), H', ⟨by first | omega | exact Nat.le_refl _⟩, ⟨by repeat (first | (with_reducible first | exact HB.out | apply zA | apply zB | apply zC) | exact HB.out)⟩⟩
     ·replace c9 := Bool.eq_false_iff.mpr c9
      subst c9
      have H1 : (spec_l03Ok.j0 k l0 true) = some r := by rw [if_neg (show ¬ (false = true) by decide)] at H; exact H
      clear H
      have H := H1
      clear H1
      have H' := zN H
      clear H
      have p221 : 0 ≤ (0 : Int) := (by omega)
      have q221 : 0 < (l0.length : Int) := zJ (by first | (with_reducible assumption) | assumption)
      obtain ⟨ad221, A221_2, c221_2, A221_3, c221_3, A221_4, c221_4, e221, hx221_0, hx221_1, hx221_2, hx221_3, hx221_4, hl221_2, hi221_2, hl221_3, hi221_3, hl221_4, hi221_4⟩ := at_T41 HR0.out 0 p221 q221
      obtain rfl : adp0 = ad221 := (by injection e221)
      have qi221 : (0 < l0.length) = True := eq_true (by omega)
      (try rw [zI] at hx221_0)
      (try rw [Nat.zero_mul] at hx221_0)
      (try rw [Addr.add_zero'] at hx221_0)
      (try rw [zI] at hx221_1)
      (try rw [Nat.zero_mul] at hx221_1)
      (try rw [Addr.add_zero'] at hx221_1)
      (try rw [zI] at hx221_2)
      (try rw [Nat.zero_mul] at hx221_2)
      (try rw [Addr.add_zero'] at hx221_2)
      (try rw [zI] at hx221_3)
      (try rw [Nat.zero_mul] at hx221_3)
      (try rw [Addr.add_zero'] at hx221_3)
      (try rw [zI] at hx221_4)
      (try rw [Nat.zero_mul] at hx221_4)
      (try rw [Addr.add_zero'] at hx221_4)
      replace hx221_0 := (HB.out.cell (zH w _ hx221_0)).trans hx221_0
      replace hx221_1 := (HB.out.cell (zH w _ hx221_1)).trans hx221_1
      replace hx221_2 := (HB.out.cell (zH w _ hx221_2)).trans hx221_2
      replace hx221_3 := (HB.out.cell (zH w _ hx221_3)).trans hx221_3
      replace hx221_4 := (HB.out.cell (zH w _ hx221_4)).trans hx221_4
      have HR221_2 := zN hi221_2
      have HC221_2 := zN hl221_2
      clear hi221_2 hl221_2
      have HR221_3 := zN hi221_3
      have HC221_3 := zN hl221_3
      clear hi221_3 hl221_3
      have HR221_4 := zN hi221_4
      have HC221_4 := zN hl221_4
      clear hi221_4 hl221_4
      replace p221 := eq_true p221
      replace q221 := eq_true q221
      go_wp2_with (first | ((with_reducible refine gate_callee (f := 106) rfl ?_); refine goesL_ (some 9) rfl rfl Try.func106 (by kernel_rfl) rfl #[.pointer (some adp0)] rfl (by (try simp only [List.map_toArray, List.map_cons, List.map_nil]); first | done | rfl | (simp only [List.length_drop, List.length_take]; rfl)) ?_; (with_reducible refine (spec_l01Ok.calls k _ [(⟨(rd_T41 l0 0).f0.f0, (rd_T41 l0 0).f0.f1, (rd_T41 l0 0).f0.f2⟩ : S37)] true _ ?side1 A4.out).mono ?_); (case side1 => refine ro_first (d := k41) (d1 := k37) (f := fun x : S41 => (x.f0, x.f1, x.f2)) (l := l0) rfl z41 ?_ (by first | (have h_ := of_eq_true q221; omega) | (have h_ : 0 < (l0.length : Int) := zJ (by assumption); omega) | omega) rfl; repeat (first | exact (Kd.C_below HR0.out HB.out) | (with_reducible refine Kd.C_alloc ?_ _) | (with_reducible refine Kd.C_drewN ?_ _) | (with_reducible refine Kd.C_drew ?_))); rintro e w12 ⟨rfl, hb⟩; refine ⟨_, rfl, ?_⟩; have n0_ := zN (below_step (by repeat (first | (with_reducible first | exact HB.out | apply zA | apply zB | apply zC) | exact HB.out)) hb); clear HB; have HB := n0_; clear n0_; (try clear hb); (try clear hb2); (try clear hk); (try clear hi); have p223 : 0 ≤ (0 : Int) := (by omega); have q223 : 0 < (l0.length : Int) := zJ (by first | (with_reducible assumption) | assumption); obtain ⟨ad223, A223_2, c223_2, A223_3, c223_3, A223_4, c223_4, e223, hx223_0, hx223_1, hx223_2, hx223_3, hx223_4, hl223_2, hi223_2, hl223_3, hi223_3, hl223_4, hi223_4⟩ := at_T41 HR0.out 0 p223 q223; obtain rfl : adp0 = ad223 := (by injection e223); have qi223 : (0 < l0.length) = True := eq_true (by omega); (try rw [zI] at hx223_0); (try rw [Nat.zero_mul] at hx223_0); (try rw [Addr.add_zero'] at hx223_0); (try rw [zI] at hx223_1); (try rw [Nat.zero_mul] at hx223_1); (try rw [Addr.add_zero'] at hx223_1); (try rw [zI] at hx223_2); (try rw [Nat.zero_mul] at hx223_2); (try rw [Addr.add_zero'] at hx223_2); (try rw [zI] at hx223_3); (try rw [Nat.zero_mul] at hx223_3); (try rw [Addr.add_zero'] at hx223_3); (try rw [zI] at hx223_4); (try rw [Nat.zero_mul] at hx223_4); (try rw [Addr.add_zero'] at hx223_4); replace hx223_0 := (HB.out.cell (zH w _ hx223_0)).trans hx223_0; replace hx223_1 := (HB.out.cell (zH w _ hx223_1)).trans hx223_1; replace hx223_2 := (HB.out.cell (zH w _ hx223_2)).trans hx223_2; replace hx223_3 := (HB.out.cell (zH w _ hx223_3)).trans hx223_3; replace hx223_4 := (HB.out.cell (zH w _ hx223_4)).trans hx223_4; have HR223_2 := zN hi223_2; have HC223_2 := zN hl223_2; clear hi223_2 hl223_2; have HR223_3 := zN hi223_3; have HC223_3 := zN hl223_3; clear hi223_3 hl223_3; have HR223_4 := zN hi223_4; have HC223_4 := zN hl223_4; clear hi223_4 hl223_4; replace p223 := eq_true p223; replace q223 := eq_true q223; have p224 : 0 ≤ (0 : Int) := (by omega); have q224 : 0 < (l0.length : Int) := zJ (by first | (with_reducible assumption) | assumption); obtain ⟨ad224, A224_2, c224_2, A224_3, c224_3, A224_4, c224_4, e224, hx224_0, hx224_1, hx224_2, hx224_3, hx224_4, hl224_2, hi224_2, hl224_3, hi224_3, hl224_4, hi224_4⟩ := at_T41 HR0.out 0 p224 q224; obtain rfl : adp0 = ad224 := (by injection e224); have qi224 : (0 < l0.length) = True := eq_true (by omega); (try rw [zI] at hx224_0); (try rw [Nat.zero_mul] at hx224_0); (try rw [Addr.add_zero'] at hx224_0); (try rw [zI] at hx224_1); (try rw [Nat.zero_mul] at hx224_1); (try rw [Addr.add_zero'] at hx224_1); (try rw [zI] at hx224_2); (try rw [Nat.zero_mul] at hx224_2); (try rw [Addr.add_zero'] at hx224_2); (try rw [zI] at hx224_3); (try rw [Nat.zero_mul] at hx224_3); (try rw [Addr.add_zero'] at hx224_3); (try rw [zI] at hx224_4); (try rw [Nat.zero_mul] at hx224_4); (try rw [Addr.add_zero'] at hx224_4); replace hx224_0 := (HB.out.cell (zH w _ hx224_0)).trans hx224_0; replace hx224_1 := (HB.out.cell (zH w _ hx224_1)).trans hx224_1; replace hx224_2 := (HB.out.cell (zH w _ hx224_2)).trans hx224_2; replace hx224_3 := (HB.out.cell (zH w _ hx224_3)).trans hx224_3; replace hx224_4 := (HB.out.cell (zH w _ hx224_4)).trans hx224_4; have HR224_2 := zN hi224_2; have HC224_2 := zN hl224_2; clear hi224_2 hl224_2; have HR224_3 := zN hi224_3; have HC224_3 := zN hl224_3; clear hi224_3 hl224_3; have HR224_4 := zN hi224_4; have HC224_4 := zN hl224_4; clear hi224_4 hl224_4; replace p224 := eq_true p224; replace q224 := eq_true q224; have ea_ := Option.some.inj (hx223_2.symm.trans hx224_2); injection ea_ with ea_ en_ ec_; subst ea_; subst ec_; clear en_; have ea_ := Option.some.inj (hx223_3.symm.trans hx224_3); injection ea_ with ea_ en_ ec_; subst ea_; subst ec_; clear en_; have ea_ := Option.some.inj (hx223_4.symm.trans hx224_4); injection ea_ with ea_ en_ ec_; subst ea_; subst ec_; clear en_) | (go_at_call 96; (with_reducible refine (spec_l00In.calls (((rd_T41 l0 0).f1).length : Int) 1 6 false _ A8.out).mono ?_); rintro e w' ⟨rfl, ⟨nd, rfl⟩⟩))
      go_meet
      case rel => exact ⟨_, (true), (by first | rfl | (simp; done) | (simp [*]; done) | (exact congrArg (Value.int .i64) (wrap_eq (by omega)))), H', ⟨by first | omega | exact Nat.le_refl _⟩, ⟨by repeat (first | (with_reducible first | exact HB.out | apply zA | apply zB | apply zC) | exact HB.out)⟩⟩
   ·replace c5 := Bool.eq_false_iff.mpr c5
    subst c5
    have H1 : (spec_l03Ok.j0 k l0 true) = some r := by rw [if_neg (show ¬ (false = true) by decide)] at H; exact H
    clear H
    have H := H1
    clear H1
    have H' := zN H
    clear H
    have p221 : 0 ≤ (0 : Int) := (by omega)
    have q221 : 0 < (l0.length : Int) := zJ (by first | (with_reducible assumption) | assumption)
    obtain ⟨ad221, A221_2, c221_2, A221_3, c221_3, A221_4, c221_4, e221, hx221_0, hx221_1, hx221_2, hx221_3, hx221_4, hl221_2, hi221_2, hl221_3, hi221_3, hl221_4, hi221_4⟩ := at_T41 HR0.out 0 p221 q221
    obtain rfl : adp0 = ad221 := (by injection e221)
    have qi221 : (0 < l0.length) = True := eq_true (by omega)
    (try rw [zI] at hx221_0)
    (try rw [Nat.zero_mul] at hx221_0)
    (try rw [Addr.add_zero'] at hx221_0)
    (try rw [zI] at hx221_1)
    (try rw [Nat.zero_mul] at hx221_1)
    (try rw [Addr.add_zero'] at hx221_1)
    (try rw [zI] at hx221_2)
    (try rw [Nat.zero_mul] at hx221_2)
    (try rw [Addr.add_zero'] at hx221_2)
    (try rw [zI] at hx221_3)
    (try rw [Nat.zero_mul] at hx221_3)
    (try rw [Addr.add_zero'] at hx221_3)
    (try rw [zI] at hx221_4)
    (try rw [Nat.zero_mul] at hx221_4)
    (try rw [Addr.add_zero'] at hx221_4)
    replace hx221_0 := (HB.out.cell (zH w _ hx221_0)).trans hx221_0
    replace hx221_1 := (HB.out.cell (zH w _ hx221_1)).trans hx221_1
    replace hx221_2 := (HB.out.cell (zH w _ hx221_2)).trans hx221_2
    replace hx221_3 := (HB.out.cell (zH w _ hx221_3)).trans hx221_3
    replace hx221_4 := (HB.out.cell (zH w _ hx221_4)).trans hx221_4
    have HR221_2 := zN hi221_2
    have HC221_2 := zN hl221_2
    clear hi221_2 hl221_2
    have HR221_3 := zN hi221_3
    have HC221_3 := zN hl221_3
    clear hi221_3 hl221_3
    have HR221_4 := zN hi221_4
    have HC221_4 := zN hl221_4
    clear hi221_4 hl221_4
    replace p221 := eq_true p221
    replace q221 := eq_true q221
    go_wp2_with (first | ((with_reducible refine gate_callee (f := 106) rfl ?_); refine goesL_ (some 9) rfl rfl Try.func106 (by kernel_rfl) rfl #[.pointer (some adp0)] rfl (by (try simp only [List.map_toArray, List.map_cons, List.map_nil]); first | done | rfl | (simp only [List.length_drop, List.length_take]; rfl)) ?_; (with_reducible refine (spec_l01Ok.calls k _ [(⟨(rd_T41 l0 0).f0.f0, (rd_T41 l0 0).f0.f1, (rd_T41 l0 0).f0.f2⟩ : S37)] false _ ?side1 A4.out).mono ?_); (case side1 => refine ro_first (d := k41) (d1 := k37) (f := fun x : S41 => (x.f0, x.f1, x.f2)) (l := l0) rfl z41 ?_ (by first | (have h_ := of_eq_true q221; omega) | (have h_ : 0 < (l0.length : Int) := zJ (by assumption); omega) | omega) rfl; repeat (first | exact (Kd.C_below HR0.out HB.out) | (with_reducible refine Kd.C_alloc ?_ _) | (with_reducible refine Kd.C_drewN ?_ _) | (with_reducible refine Kd.C_drew ?_))); rintro e w13 ⟨rfl, hb⟩; refine ⟨_, rfl, ?_⟩; have n0_ := zN (below_step (by repeat (first | (with_reducible first | exact HB.out | apply zA | apply zB | apply zC) | exact HB.out)) hb); clear HB; have HB := n0_; clear n0_; (try clear hb); (try clear hb2); (try clear hk); (try clear hi)))
    go_meet
    case rel => exact ⟨_, (true), (by first | rfl | (simp; done) | (simp [*]; done) | (exact congrArg (Value.int .i64) (wrap_eq (by omega)))), H', ⟨by first | omega | exact Nat.le_refl _⟩, ⟨by repeat (first | (with_reducible first | exact HB.out | apply zA | apply zB | apply zC) | exact HB.out)⟩⟩
  ·rw [if_neg c3] at H
   exact absurd H (by simp)
 case rest =>
  clear HC2
  try clear c1
  try clear c2
  try clear p2
  try clear q2
  try clear hx2
  try clear qi2
  try clear c3
  try clear c3b0
  try clear c3b1
  try clear c5
  try clear c6
  try clear c6b0
  try clear c6b1
  try clear c9
  try clear c10
  try clear hx221_0
  try clear hx221_1
  try clear hx221_2
  try clear hx221_3
  try clear hx221_4
  try clear hx223_0
  try clear hx223_1
  try clear hx223_2
  try clear hx223_3
  try clear hx223_4
  try clear hx224_0
  try clear hx224_1
  try clear hx224_2
  try clear hx224_3
  try clear hx224_4
  try clear hx226_0
  try clear hx226_1
  try clear hx226_2
  try clear hx226_3
  try clear hx226_4
  try clear p221
  try clear p223
  try clear p224
  try clear p226
  try clear q221
  try clear q223
  try clear q224
  try clear q226
  obtain ⟨kq, x37_1, rfl, HA, HJ1, HB⟩ := hcut
  cases kq with
  | zero => exact absurd HA.out (by simp [spec_l03Ok.j0])
  | succ kj1 =>
   have H := HA.out
   clear HA
   simp only [spec_l03Ok.j0] at H
   by_cases c14 : x37_1 = true
   ·subst c14
    have H1 : (some false) = some r := by rw [if_pos rfl] at H; exact H
    clear H
    have H := H1
    clear H1
    obtain rfl := Option.some.inj H
    go_wp2
    go_ret
    exact ⟨by first | rfl | (simp [errW_none, errW_some] <;> rfl) | (simp [*, errW_none, errW_some] <;> rfl), by repeat (first | (with_reducible first | exact HB.out | apply zA | apply zB | apply zC) | exact HB.out)⟩
   ·replace c14 := Bool.eq_false_iff.mpr c14
    subst c14
    have H1 : (spec_l03Ok.l0 kj1 l0 0) = some r := by rw [if_neg (show ¬ (false = true) by decide)] at H; exact H
    clear H
    have H := H1
    clear H1
    have H' := zN H
    clear H
    go_wp2
    go_loopg [3] kj1 (fun kq v3 w' => ∃ (x3_2 : Int), v3 = .int .i64 x3_2 ∧ Aside0 (spec_l03Ok.l0 kq l0 x3_2 = some r) ∧ Aside0 (kq ≤ kj1) ∧ Aside0 (Below w.heap.size w w'))
    case atStart => exact ⟨(0), (by first | rfl | (simp; done) | (simp [*]; done) | (exact congrArg (Value.int .i64) (wrap_eq (by omega)))), H', ⟨Nat.le_refl _⟩, ⟨by repeat (first | (with_reducible first | exact HB.out | apply zA | apply zB | apply zC) | exact HB.out)⟩⟩
    case round =>
     clear H'
     try clear c1
     try clear c2
     try clear p2
     try clear q2
     try clear hx2
     try clear qi2
     try clear c3
     try clear c3b0
     try clear c3b1
     try clear c5
     try clear c6
     try clear c6b0
     try clear c6b1
     try clear c9
     try clear c10
     try clear c14
     try clear hx221_0
     try clear hx221_1
     try clear hx221_2
     try clear hx221_3
     try clear hx221_4
     try clear hx223_0
     try clear hx223_1
     try clear hx223_2
     try clear hx223_3
     try clear hx223_4
     try clear hx224_0
     try clear hx224_1
     try clear hx224_2
     try clear hx224_3
     try clear hx224_4
     try clear hx226_0
     try clear hx226_1
     try clear hx226_2
     try clear hx226_3
     try clear hx226_4
     try clear p2
     try clear p221
     try clear p223
     try clear p224
     try clear p226
     try clear q2
     try clear q221
     try clear q223
     try clear q224
     try clear q226
     obtain ⟨x3_2, rfl, HA, HK2, HB⟩ := hrel
     cases gk with
     | zero => exact absurd HA.out (by simp [spec_l03Ok.l0])
     | succ k2 =>
      have H := HA.out
      clear HA
      simp only [spec_l03Ok.l0] at H
      by_cases c15 : 0 < (l0.length : Int)
      ·rw [if_pos c15] at H
       have c15b0 : decide (0 < (l0.length : Int)) = true := decide_eq_true c15
       have c15b1 : decide (0 < l0.length) = true := decide_eq_true (by omega)
       clear c15
       by_cases c16 : x3_2 < (((rd_T41 l0 0).f1).length : Int)
       ·rw [if_pos c16] at H
        have c16b0 : decide (x3_2 < (((rd_T41 l0 0).f1).length : Int)) = true := decide_eq_true c16
        clear c16
        have HC17 := zN H
        clear H
        have p228 : 0 ≤ (0 : Int) := (by omega)
        have q228 : 0 < (l0.length : Int) := zJ (by first | (with_reducible assumption) | assumption)
        obtain ⟨ad228, A228_2, c228_2, A228_3, c228_3, A228_4, c228_4, e228, hx228_0, hx228_1, hx228_2, hx228_3, hx228_4, hl228_2, hi228_2, hl228_3, hi228_3, hl228_4, hi228_4⟩ := at_T41 HR0.out 0 p228 q228
        obtain rfl : adp0 = ad228 := (by injection e228)
        have qi228 : (0 < l0.length) = True := eq_true (by omega)
        (try rw [zI] at hx228_0)
        (try rw [Nat.zero_mul] at hx228_0)
        (try rw [Addr.add_zero'] at hx228_0)
        (try rw [zI] at hx228_1)
        (try rw [Nat.zero_mul] at hx228_1)
        (try rw [Addr.add_zero'] at hx228_1)
        (try rw [zI] at hx228_2)
        (try rw [Nat.zero_mul] at hx228_2)
        (try rw [Addr.add_zero'] at hx228_2)
        (try rw [zI] at hx228_3)
        (try rw [Nat.zero_mul] at hx228_3)
        (try rw [Addr.add_zero'] at hx228_3)
        (try rw [zI] at hx228_4)
        (try rw [Nat.zero_mul] at hx228_4)
        (try rw [Addr.add_zero'] at hx228_4)
        replace hx228_0 := (HB.out.cell (zH w _ hx228_0)).trans hx228_0
        replace hx228_1 := (HB.out.cell (zH w _ hx228_1)).trans hx228_1
        replace hx228_2 := (HB.out.cell (zH w _ hx228_2)).trans hx228_2
        replace hx228_3 := (HB.out.cell (zH w _ hx228_3)).trans hx228_3
        replace hx228_4 := (HB.out.cell (zH w _ hx228_4)).trans hx228_4
        have HR228_2 := zN hi228_2
        have HC228_2 := zN hl228_2
        clear hi228_2 hl228_2
        have HR228_3 := zN hi228_3
        have HC228_3 := zN hl228_3
        clear hi228_3 hl228_3
        have HR228_4 := zN hi228_4
        have HC228_4 := zN hl228_4
        clear hi228_4 hl228_4
        replace p228 := eq_true p228
        replace q228 := eq_true q228
        go_upto_region 6 with (fail)
        go_cut [72] (fun v72 wc => ∃ (kq : Nat) (x72_16 : Bool), v72 = .bool x72_16 ∧ Aside0 (spec_l03Ok.j2 kq l0 x3_2 x72_16 = some r) ∧ Aside0 (kq ≤ k2) ∧ Aside0 (Below w.heap.size w wc))
        case first =>
         have H := HC17.out
         clear HC17
         by_cases c18 : 0 ≤ x3_2
         ·rw [if_pos c18] at H
          have c18b0 : decide (0 ≤ x3_2) = true := decide_eq_true c18
          clear c18
          (first | rw [c18b0] | (simp only [i64_w, i32_w]; rw [c18b0]) | (have h_ := c18b0; simp only [bne] at h_; rw [h_]) | skip)
          replace H := Option.bind_eq_some_iff.mp H
          obtain ⟨t231, A190, H⟩ := H
          replace H : (if t231 = true then ((spec_l01Find.f k2 [(⟨(rd_T41 l0 0).f0.f0, (rd_T41 l0 0).f0.f1, (rd_T41 l0 0).f0.f2⟩ : S37)] ((rd_T116 ((rd_T41 l0 0).f1) x3_2).f0.f0) ((rd_T116 ((rd_T41 l0 0).f1) x3_2).f0.f1)).bind fun t235 => (spec_l03Ok.j2 k2 l0 x3_2 (decide (t235 < 0)))) else (spec_l03Ok.j2 k2 l0 x3_2 true)) = some r := H
          have A19 := zN A190
          clear A190
          by_cases c20 : t231 = true
          ·subst c20
           have H1 : ((spec_l01Find.f k2 [(⟨(rd_T41 l0 0).f0.f0, (rd_T41 l0 0).f0.f1, (rd_T41 l0 0).f0.f2⟩ : S37)] ((rd_T116 ((rd_T41 l0 0).f1) x3_2).f0.f0) ((rd_T116 ((rd_T41 l0 0).f1) x3_2).f0.f1)).bind fun t235 => (spec_l03Ok.j2 k2 l0 x3_2 (decide (t235 < 0)))) = some r := by rw [if_pos rfl] at H; exact H
           clear H
           have H := H1
           clear H1
           replace H := Option.bind_eq_some_iff.mp H
           obtain ⟨t235, A210, H⟩ := H
           replace H : (spec_l03Ok.j2 k2 l0 x3_2 (decide (t235 < 0))) = some r := H
           have A21 := zN A210
           clear A210
           have H' := zN H
           clear H
           try go_wp2
           have n0_ := zN (zC HB.out)
           clear HB
           have HB := n0_
           clear n0_
           have p229 : 0 ≤ (0 : Int) := (by omega)
           have q229 : 0 < (l0.length : Int) := zJ (by first | (with_reducible assumption) | assumption)
           obtain ⟨ad229, A229_2, c229_2, A229_3, c229_3, A229_4, c229_4, e229, hx229_0, hx229_1, hx229_2, hx229_3, hx229_4, hl229_2, hi229_2, hl229_3, hi229_3, hl229_4, hi229_4⟩ := at_T41 HR0.out 0 p229 q229
           have hw229_4 := hx229_4
           (try rw [zI] at hw229_4)
           (try rw [Nat.zero_mul] at hw229_4)
           (try rw [Addr.add_zero'] at hw229_4)
           have hw229_3 := hx229_3
           (try rw [zI] at hw229_3)
           (try rw [Nat.zero_mul] at hw229_3)
           (try rw [Addr.add_zero'] at hw229_3)
           have hw229_2 := hx229_2
           (try rw [zI] at hw229_2)
           (try rw [Nat.zero_mul] at hw229_2)
           (try rw [Addr.add_zero'] at hw229_2)
           have hw229_1 := hx229_1
           (try rw [zI] at hw229_1)
           (try rw [Nat.zero_mul] at hw229_1)
           (try rw [Addr.add_zero'] at hw229_1)
           have hw229_0 := hx229_0
           (try rw [zI] at hw229_0)
           (try rw [Nat.zero_mul] at hw229_0)
           (try rw [Addr.add_zero'] at hw229_0)
           obtain rfl : adp0 = ad229 := (by injection e229)
           have qi229 : (0 < l0.length) = True := eq_true (by omega)
           (try rw [zI] at hx229_0)
           (try rw [Nat.zero_mul] at hx229_0)
           (try rw [Addr.add_zero'] at hx229_0)
           (try rw [zI] at hx229_1)
           (try rw [Nat.zero_mul] at hx229_1)
           (try rw [Addr.add_zero'] at hx229_1)
           (try rw [zI] at hx229_2)
           (try rw [Nat.zero_mul] at hx229_2)
           (try rw [Addr.add_zero'] at hx229_2)
           (try rw [zI] at hx229_3)
           (try rw [Nat.zero_mul] at hx229_3)
           (try rw [Addr.add_zero'] at hx229_3)
           (try rw [zI] at hx229_4)
           (try rw [Nat.zero_mul] at hx229_4)
           (try rw [Addr.add_zero'] at hx229_4)
           replace hx229_0 := (HB.out.cell (zH w _ hx229_0)).trans hx229_0
           replace hx229_1 := (HB.out.cell (zH w _ hx229_1)).trans hx229_1
           replace hx229_2 := (HB.out.cell (zH w _ hx229_2)).trans hx229_2
           replace hx229_3 := (HB.out.cell (zH w _ hx229_3)).trans hx229_3
           replace hx229_4 := (HB.out.cell (zH w _ hx229_4)).trans hx229_4
           have HR229_2 := zN hi229_2
           have HC229_2 := zN hl229_2
           clear hi229_2 hl229_2
           have HR229_3 := zN hi229_3
           have HC229_3 := zN hl229_3
           clear hi229_3 hl229_3
           have HR229_4 := zN hi229_4
           have HC229_4 := zN hl229_4
           clear hi229_4 hl229_4
           replace p229 := eq_true p229
           replace q229 := eq_true q229
           have p230 : 0 ≤ (x3_2 : Int) := zJ (by first | (with_reducible assumption) | assumption)
           have q230 : x3_2 < (((rd_T41 l0 0).f1).length : Int) := zJ (by first | (with_reducible assumption) | assumption)
           obtain ⟨ad230, e230, hx230_0, hx230_1, hx230_2⟩ := at_T116 HR229_3.out x3_2 p230 q230
           have hw230_2 := hx230_2
           have hw230_1 := hx230_1
           have hw230_0 := hx230_0
           cases e230
           replace hx230_0 := (HB.out.cell (zH w _ hx230_0)).trans hx230_0
           replace hx230_1 := (HB.out.cell (zH w _ hx230_1)).trans hx230_1
           replace hx230_2 := (HB.out.cell (zH w _ hx230_2)).trans hx230_2
           replace p230 := eq_true p230
           replace q230 := eq_true q230
           have p232 : 0 ≤ (0 : Int) := (by omega)
           have q232 : 0 < (l0.length : Int) := zJ (by first | (with_reducible assumption) | assumption)
           obtain ⟨ad232, A232_2, c232_2, A232_3, c232_3, A232_4, c232_4, e232, hx232_0, hx232_1, hx232_2, hx232_3, hx232_4, hl232_2, hi232_2, hl232_3, hi232_3, hl232_4, hi232_4⟩ := at_T41 HR0.out 0 p232 q232
           have hw232_4 := hx232_4
           (try rw [zI] at hw232_4)
           (try rw [Nat.zero_mul] at hw232_4)
           (try rw [Addr.add_zero'] at hw232_4)
           have hw232_3 := hx232_3
           (try rw [zI] at hw232_3)
           (try rw [Nat.zero_mul] at hw232_3)
           (try rw [Addr.add_zero'] at hw232_3)
           have hw232_2 := hx232_2
           (try rw [zI] at hw232_2)
           (try rw [Nat.zero_mul] at hw232_2)
           (try rw [Addr.add_zero'] at hw232_2)
           have hw232_1 := hx232_1
           (try rw [zI] at hw232_1)
           (try rw [Nat.zero_mul] at hw232_1)
           (try rw [Addr.add_zero'] at hw232_1)
           have hw232_0 := hx232_0
           (try rw [zI] at hw232_0)
           (try rw [Nat.zero_mul] at hw232_0)
           (try rw [Addr.add_zero'] at hw232_0)
           obtain rfl : adp0 = ad232 := (by injection e232)
           have qi232 : (0 < l0.length) = True := eq_true (by omega)
           (try rw [zI] at hx232_0)
           (try rw [Nat.zero_mul] at hx232_0)
           (try rw [Addr.add_zero'] at hx232_0)
           (try rw [zI] at hx232_1)
           (try rw [Nat.zero_mul] at hx232_1)
           (try rw [Addr.add_zero'] at hx232_1)
           (try rw [zI] at hx232_2)
           (try rw [Nat.zero_mul] at hx232_2)
           (try rw [Addr.add_zero'] at hx232_2)
           (try rw [zI] at hx232_3)
           (try rw [Nat.zero_mul] at hx232_3)
           (try rw [Addr.add_zero'] at hx232_3)
           (try rw [zI] at hx232_4)
           (try rw [Nat.zero_mul] at hx232_4)
           (try rw [Addr.add_zero'] at hx232_4)
           replace hx232_0 := (HB.out.cell (zH w _ hx232_0)).trans hx232_0
           replace hx232_1 := (HB.out.cell (zH w _ hx232_1)).trans hx232_1
           replace hx232_2 := (HB.out.cell (zH w _ hx232_2)).trans hx232_2
           replace hx232_3 := (HB.out.cell (zH w _ hx232_3)).trans hx232_3
           replace hx232_4 := (HB.out.cell (zH w _ hx232_4)).trans hx232_4
           have HR232_2 := zN hi232_2
           have HC232_2 := zN hl232_2
           clear hi232_2 hl232_2
           have HR232_3 := zN hi232_3
           have HC232_3 := zN hl232_3
           clear hi232_3 hl232_3
           have HR232_4 := zN hi232_4
           have HC232_4 := zN hl232_4
           clear hi232_4 hl232_4
           replace p232 := eq_true p232
           replace q232 := eq_true q232
           have ea_ := Option.some.inj (hx229_2.symm.trans hx232_2)
           injection ea_ with ea_ en_ ec_
           subst ea_
           subst ec_
           clear en_
           have ea_ := Option.some.inj (hx229_3.symm.trans hx232_3)
           injection ea_ with ea_ en_ ec_
           subst ea_
           subst ec_
           clear en_
           have ea_ := Option.some.inj (hx229_4.symm.trans hx232_4)
           injection ea_ with ea_ en_ ec_
           subst ea_
           subst ec_
           clear en_
           have p233 : 0 ≤ (0 : Int) := (by omega)
           have q233 : 0 < (l0.length : Int) := zJ (by first | (with_reducible assumption) | assumption)
           obtain ⟨ad233, A233_2, c233_2, A233_3, c233_3, A233_4, c233_4, e233, hx233_0, hx233_1, hx233_2, hx233_3, hx233_4, hl233_2, hi233_2, hl233_3, hi233_3, hl233_4, hi233_4⟩ := at_T41 HR0.out 0 p233 q233
           have hw233_4 := hx233_4
           (try rw [zI] at hw233_4)
           (try rw [Nat.zero_mul] at hw233_4)
           (try rw [Addr.add_zero'] at hw233_4)
           have hw233_3 := hx233_3
           (try rw [zI] at hw233_3)
           (try rw [Nat.zero_mul] at hw233_3)
           (try rw [Addr.add_zero'] at hw233_3)
           have hw233_2 := hx233_2
           (try rw [zI] at hw233_2)
           (try rw [Nat.zero_mul] at hw233_2)
           (try rw [Addr.add_zero'] at hw233_2)
           have hw233_1 := hx233_1
           (try rw [zI] at hw233_1)
           (try rw [Nat.zero_mul] at hw233_1)
           (try rw [Addr.add_zero'] at hw233_1)
           have hw233_0 := hx233_0
           (try rw [zI] at hw233_0)
           (try rw [Nat.zero_mul] at hw233_0)
           (try rw [Addr.add_zero'] at hw233_0)
           obtain rfl : adp0 = ad233 := (by injection e233)
           have qi233 : (0 < l0.length) = True := eq_true (by omega)
           (try rw [zI] at hx233_0)
           (try rw [Nat.zero_mul] at hx233_0)
           (try rw [Addr.add_zero'] at hx233_0)
           (try rw [zI] at hx233_1)
           (try rw [Nat.zero_mul] at hx233_1)
           (try rw [Addr.add_zero'] at hx233_1)
           (try rw [zI] at hx233_2)
           (try rw [Nat.zero_mul] at hx233_2)
           (try rw [Addr.add_zero'] at hx233_2)
           (try rw [zI] at hx233_3)
           (try rw [Nat.zero_mul] at hx233_3)
           (try rw [Addr.add_zero'] at hx233_3)
           (try rw [zI] at hx233_4)
           (try rw [Nat.zero_mul] at hx233_4)
           (try rw [Addr.add_zero'] at hx233_4)
           replace hx233_0 := (HB.out.cell (zH w _ hx233_0)).trans hx233_0
           replace hx233_1 := (HB.out.cell (zH w _ hx233_1)).trans hx233_1
           replace hx233_2 := (HB.out.cell (zH w _ hx233_2)).trans hx233_2
           replace hx233_3 := (HB.out.cell (zH w _ hx233_3)).trans hx233_3
           replace hx233_4 := (HB.out.cell (zH w _ hx233_4)).trans hx233_4
           have HR233_2 := zN hi233_2
           have HC233_2 := zN hl233_2
           clear hi233_2 hl233_2
           have HR233_3 := zN hi233_3
           have HC233_3 := zN hl233_3
           clear hi233_3 hl233_3
           have HR233_4 := zN hi233_4
           have HC233_4 := zN hl233_4
           clear hi233_4 hl233_4
           replace p233 := eq_true p233
           replace q233 := eq_true q233
           have ea_ := Option.some.inj (hx229_2.symm.trans hx233_2)
           injection ea_ with ea_ en_ ec_
           subst ea_
           subst ec_
           clear en_
           have ea_ := Option.some.inj (hx229_3.symm.trans hx233_3)
           injection ea_ with ea_ en_ ec_
           subst ea_
           subst ec_
           clear en_
           have ea_ := Option.some.inj (hx229_4.symm.trans hx233_4)
           injection ea_ with ea_ en_ ec_
           subst ea_
           subst ec_
           clear en_
           have p234 : 0 ≤ (x3_2 : Int) := zJ (by first | (with_reducible assumption) | assumption)
           have q234 : x3_2 < (((rd_T41 l0 0).f1).length : Int) := zJ (by first | (with_reducible assumption) | assumption)
           obtain ⟨ad234, e234, hx234_0, hx234_1, hx234_2⟩ := at_T116 HR233_3.out x3_2 p234 q234
           have hw234_2 := hx234_2
           have hw234_1 := hx234_1
           have hw234_0 := hx234_0
           obtain rfl : ad230 = ad234 := (by injection e234)
           replace hx234_0 := (HB.out.cell (zH w _ hx234_0)).trans hx234_0
           replace hx234_1 := (HB.out.cell (zH w _ hx234_1)).trans hx234_1
           replace hx234_2 := (HB.out.cell (zH w _ hx234_2)).trans hx234_2
           replace p234 := eq_true p234
           replace q234 := eq_true q234
           refine start_ (n := 26) (S := fun w' => w'.cell? adp0 = some (.int .i8 ((rd_T41 l0 0).f0.f0)) ∧ w'.cell? ⟨adp0.block, adp0.off + 1, none⟩ = some (.int .i8 ((rd_T41 l0 0).f0.f1)) ∧ w'.cell? ⟨adp0.block, adp0.off + 2, none⟩ = some (.slice A229_2 ((rd_T41 l0 0).f0.f2).length c229_2) ∧ w'.cell? ⟨adp0.block, adp0.off + 3, none⟩ = some (.slice (some ad230) ((rd_T41 l0 0).f1).length c229_3) ∧ w'.cell? ⟨adp0.block, adp0.off + 4, none⟩ = some (.slice A229_4 ((rd_T41 l0 0).f2).length c229_4) ∧ w'.cell? (ad230.add ((x3_2).toNat * 3)) = some (.int .i8 ((rd_T116 ((rd_T41 l0 0).f1) x3_2).f0.f0)) ∧ w'.cell? ⟨(ad230.add ((x3_2).toNat * 3)).block, (ad230.add ((x3_2).toNat * 3)).off + 1, none⟩ = some (.int .i8 ((rd_T116 ((rd_T41 l0 0).f1) x3_2).f0.f1)) ∧ w'.cell? ⟨(ad230.add ((x3_2).toNat * 3)).block, (ad230.add ((x3_2).toNat * 3)).off + 2, none⟩ = some (.int .i8 ((rd_T116 ((rd_T41 l0 0).f1) x3_2).f1)) ∧ w'.cell? adp0 = some (.int .i8 ((rd_T41 l0 0).f0.f0)) ∧ w'.cell? ⟨adp0.block, adp0.off + 1, none⟩ = some (.int .i8 ((rd_T41 l0 0).f0.f1)) ∧ w'.cell? ⟨adp0.block, adp0.off + 2, none⟩ = some (.slice A229_2 ((rd_T41 l0 0).f0.f2).length c229_2) ∧ w'.cell? ⟨adp0.block, adp0.off + 3, none⟩ = some (.slice (some ad230) ((rd_T41 l0 0).f1).length c229_3) ∧ w'.cell? ⟨adp0.block, adp0.off + 4, none⟩ = some (.slice A229_4 ((rd_T41 l0 0).f2).length c229_4) ∧ w'.cell? adp0 = some (.int .i8 ((rd_T41 l0 0).f0.f0)) ∧ w'.cell? ⟨adp0.block, adp0.off + 1, none⟩ = some (.int .i8 ((rd_T41 l0 0).f0.f1)) ∧ w'.cell? ⟨adp0.block, adp0.off + 2, none⟩ = some (.slice A229_2 ((rd_T41 l0 0).f0.f2).length c229_2) ∧ w'.cell? ⟨adp0.block, adp0.off + 3, none⟩ = some (.slice (some ad230) ((rd_T41 l0 0).f1).length c229_3) ∧ w'.cell? ⟨adp0.block, adp0.off + 4, none⟩ = some (.slice A229_4 ((rd_T41 l0 0).f2).length c229_4) ∧ w'.cell? (ad230.add ((x3_2).toNat * 3)) = some (.int .i8 ((rd_T116 ((rd_T41 l0 0).f1) x3_2).f0.f0)) ∧ w'.cell? ⟨(ad230.add ((x3_2).toNat * 3)).block, (ad230.add ((x3_2).toNat * 3)).off + 1, none⟩ = some (.int .i8 ((rd_T116 ((rd_T41 l0 0).f1) x3_2).f0.f1)) ∧ w'.cell? ⟨(ad230.add ((x3_2).toNat * 3)).block, (ad230.add ((x3_2).toNat * 3)).off + 2, none⟩ = some (.int .i8 ((rd_T116 ((rd_T41 l0 0).f1) x3_2).f1))) (ds := []) #[false, false, false, false, false, false, false, false, false, false, false, false, false, false, false, false, false, false, false, false, false, false, false, false, false, false] (by kernel_rfl) rfl rfl ⟨((HB.out.cell (zH w _ hw229_0)).trans hw229_0), ((HB.out.cell (zH w _ hw229_1)).trans hw229_1), ((HB.out.cell (zH w _ hw229_2)).trans hw229_2), ((HB.out.cell (zH w _ hw229_3)).trans hw229_3), ((HB.out.cell (zH w _ hw229_4)).trans hw229_4), ((HB.out.cell (zH w _ hw230_0)).trans hw230_0), ((HB.out.cell (zH w _ hw230_1)).trans hw230_1), ((HB.out.cell (zH w _ hw230_2)).trans hw230_2), ((HB.out.cell (zH w _ hw232_0)).trans hw232_0), ((HB.out.cell (zH w _ hw232_1)).trans hw232_1), ((HB.out.cell (zH w _ hw232_2)).trans hw232_2), ((HB.out.cell (zH w _ hw232_3)).trans hw232_3), ((HB.out.cell (zH w _ hw232_4)).trans hw232_4), ((HB.out.cell (zH w _ hw233_0)).trans hw233_0), ((HB.out.cell (zH w _ hw233_1)).trans hw233_1), ((HB.out.cell (zH w _ hw233_2)).trans hw233_2), ((HB.out.cell (zH w _ hw233_3)).trans hw233_3), ((HB.out.cell (zH w _ hw233_4)).trans hw233_4), ((HB.out.cell (zH w _ hw234_0)).trans hw234_0), ((HB.out.cell (zH w _ hw234_1)).trans hw234_1), ((HB.out.cell (zH w _ hw234_2)).trans hw234_2)⟩ (fun hHeld => ?_); refine with_tabW spec_l03Ok.tab6 spec_l03Ok.bits6 (fun HT_ HW_ => ?_)
           generalize wr.drew = w22 at HB HR229_2 HR229_3 HR229_4 HR232_2 HR232_3 HR232_4 HR233_2 HR233_3 HR233_4 hx229_0 hx229_1 hx229_2 hx229_3 hx229_4 hx230_0 hx230_1 hx230_2 hx232_0 hx232_1 hx232_2 hx232_3 hx232_4 hx233_0 hx233_1 hx233_2 hx233_3 hx233_4 hx234_0 hx234_1 hx234_2 hHeld ⊢
           refine pure_ (i := 0) (N := some 47) (v := ?_) (a' := ?_) #[true, false, false, false, false, false, false, false, false, false, false, false, false, false, false, false, false, false, false, false, false, false, false, false, false, false] rfl rfl (any_of HT_.out (by kernel_rfl)) (fun _ _ _ h => h) (Or.inl ⟨by rfl, ?_⟩) ?_ ?_
           rotate_left
           ·intro w'
            go_simp
            with_reducible rfl
           rotate_left
           ·simp only [Act.put, List.setIfInBounds_toArray, List.set_cons_zero, List.set_cons_succ, i64_w, i32_w]
            rfl
           refine pure_ (i := 1) (N := some 48) (v := ?_) (a' := ?_) #[true, true, false, false, false, false, false, false, false, false, false, false, false, false, false, false, false, false, false, false, false, false, false, false, false, false] rfl rfl (any_of HT_.out (by kernel_rfl)) (fun _ _ _ h => h) (Or.inl ⟨by rfl, ?_⟩) ?_ ?_
           rotate_left
           ·intro w'
            go_simp
            with_reducible rfl
           rotate_left
           ·simp only [Act.put, List.setIfInBounds_toArray, List.set_cons_zero, List.set_cons_succ, i64_w, i32_w]
            rfl
           refine pure_ (i := 2) (N := some 49) (v := ?_) (a' := ?_) #[true, true, true, false, false, false, false, false, false, false, false, false, false, false, false, false, false, false, false, false, false, false, false, false, false, false] rfl rfl (any_of HT_.out (by kernel_rfl)) (fun _ _ _ h => h) (Or.inl ⟨by rfl, ?_⟩) ?_ ?_
           rotate_left
           ·intro w'
            go_simp
            with_reducible rfl
           rotate_left
           ·simp only [Act.put, List.setIfInBounds_toArray, List.set_cons_zero, List.set_cons_succ, i64_w, i32_w]
            rfl
           refine pure_ (i := 4) (N := some 51) (v := ?_) (a' := ?_) #[true, true, true, false, true, false, false, false, false, false, false, false, false, false, false, false, false, false, false, false, false, false, false, false, false, false] rfl rfl (any_of HT_.out (by kernel_rfl)) (fun _ _ _ h => h) (Or.inl ⟨by rfl, ?_⟩) ?_ ?_
           rotate_left
           ·intro w'
            go_simp
            with_reducible rfl
           rotate_left
           ·simp only [Act.put, List.setIfInBounds_toArray, List.set_cons_zero, List.set_cons_succ, i64_w, i32_w]
            rfl
           refine take_ (i := 3) (N := some 50) (v := ?_) (a' := ?_) #[true, true, true, true, true, false, false, false, false, false, false, false, false, false, false, false, false, false, false, false, false, false, false, false, false, false] rfl rfl (take_ofW HT_.out HW_.out (by kernel_rfl)) (fun _ _ _ h => h) (Or.inl ⟨by rfl, ?_⟩) hHeld ?_ ?_
           rotate_left
           ·rintro w' ⟨s0, s1, s2, s3, s4, s5, s6, s7, s8, s9, s10, s11, s12, s13, s14, s15, s16, s17, s18, s19, s20⟩
            go_simp
            with_reducible rfl
           rotate_left
           ·simp only [Act.put, List.setIfInBounds_toArray, List.set_cons_zero, List.set_cons_succ, i64_w, i32_w]
            rfl
           refine pure_ (i := 5) (N := some 52) (v := ?_) (a' := ?_) #[true, true, true, true, true, true, false, false, false, false, false, false, false, false, false, false, false, false, false, false, false, false, false, false, false, false] rfl rfl (any_of HT_.out (by kernel_rfl)) (fun _ _ _ h => h) (Or.inl ⟨by rfl, ?_⟩) ?_ ?_
           rotate_left
           ·intro w'
            go_simp
            with_reducible rfl
           rotate_left
           ·simp only [Act.put, List.setIfInBounds_toArray, List.set_cons_zero, List.set_cons_succ, i64_w, i32_w]
            rfl
           refine pure_ (i := 6) (N := some 53) (v := ?_) (a' := ?_) #[true, true, true, true, true, true, true, false, false, false, false, false, false, false, false, false, false, false, false, false, false, false, false, false, false, false] rfl rfl (any_of HT_.out (by kernel_rfl)) (fun _ _ _ h => h) (Or.inl ⟨by rfl, ?_⟩) ?_ ?_
           rotate_left
           ·intro w'
            go_simp
            with_reducible rfl
           rotate_left
           ·simp only [Act.put, List.setIfInBounds_toArray, List.set_cons_zero, List.set_cons_succ, i64_w, i32_w]
            rfl
           refine take_ (i := 7) (N := some 54) (v := ?_) (a' := ?_) #[true, true, true, true, true, true, true, true, false, false, false, false, false, false, false, false, false, false, false, false, false, false, false, false, false, false] rfl rfl (take_ofW HT_.out HW_.out (by kernel_rfl)) (fun _ _ _ h => h) (Or.inl ⟨by rfl, ?_⟩) hHeld ?_ ?_
           rotate_left
           ·rintro w' ⟨s0, s1, s2, s3, s4, s5, s6, s7, s8, s9, s10, s11, s12, s13, s14, s15, s16, s17, s18, s19, s20⟩
            go_simp
            with_reducible rfl
           rotate_left
           ·simp only [Act.put, List.setIfInBounds_toArray, List.set_cons_zero, List.set_cons_succ, i64_w, i32_w]
            rfl
           refine pure_ (i := 8) (N := some 55) (v := ?_) (a' := ?_) #[true, true, true, true, true, true, true, true, true, false, false, false, false, false, false, false, false, false, false, false, false, false, false, false, false, false] rfl rfl (any_of HT_.out (by kernel_rfl)) (fun _ _ _ h => h) (Or.inl ⟨by rfl, ?_⟩) ?_ ?_
           rotate_left
           ·intro w'
            go_simp
            with_reducible rfl
           rotate_left
           ·simp only [Act.put, List.setIfInBounds_toArray, List.set_cons_zero, List.set_cons_succ, i64_w, i32_w]
            rfl
           refine one_ (i := 9) (N := some 56) #[true, true, true, true, true, true, true, true, true, true, false, false, false, false, false, false, false, false, false, false, false, false, false, false, false, false] rfl rfl (one_of HT_.out (by kernel_rfl)) (by decide) (fun K hK => ?_)
           refine goes_ Try.func161 (by kernel_rfl) rfl #[.int .i64 (wrap64 ((rd_T116 ((rd_T41 l0 0).f1) x3_2).f1))] (by rfl) rfl rfl (by (try simp only [List.map_toArray, List.map_cons, List.map_nil]); first | done | rfl | (simp only [List.length_drop, List.length_take]; rfl)) ?_
           with_reducible refine (spec_l01Side.calls (wrap64 ((rd_T116 ((rd_T41 l0 0).f1) x3_2).f1)) true _ A19.out).mono ?_
           rintro e w' ⟨rfl, ⟨nd, rfl⟩⟩
           refine ⟨_, rfl, ?_⟩
           refine hK.out _ _ ⟨((HB.out.cell (zH w _ hw229_0)).trans hw229_0), ((HB.out.cell (zH w _ hw229_1)).trans hw229_1), ((HB.out.cell (zH w _ hw229_2)).trans hw229_2), ((HB.out.cell (zH w _ hw229_3)).trans hw229_3), ((HB.out.cell (zH w _ hw229_4)).trans hw229_4), ((HB.out.cell (zH w _ hw230_0)).trans hw230_0), ((HB.out.cell (zH w _ hw230_1)).trans hw230_1), ((HB.out.cell (zH w _ hw230_2)).trans hw230_2), ((HB.out.cell (zH w _ hw232_0)).trans hw232_0), ((HB.out.cell (zH w _ hw232_1)).trans hw232_1), ((HB.out.cell (zH w _ hw232_2)).trans hw232_2), ((HB.out.cell (zH w _ hw232_3)).trans hw232_3), ((HB.out.cell (zH w _ hw232_4)).trans hw232_4), ((HB.out.cell (zH w _ hw233_0)).trans hw233_0), ((HB.out.cell (zH w _ hw233_1)).trans hw233_1), ((HB.out.cell (zH w _ hw233_2)).trans hw233_2), ((HB.out.cell (zH w _ hw233_3)).trans hw233_3), ((HB.out.cell (zH w _ hw233_4)).trans hw233_4), ((HB.out.cell (zH w _ hw234_0)).trans hw234_0), ((HB.out.cell (zH w _ hw234_1)).trans hw234_1), ((HB.out.cell (zH w _ hw234_2)).trans hw234_2)⟩ (fun hHeld => ?_)
           clear hK K
           refine norm_ (a' := ?_) ?_ ?_
           rotate_left
           ·show Act.put _ (some 56) _ = _
            simp only [Act.put, List.setIfInBounds_toArray, List.set_cons_zero, List.set_cons_succ, i64_w, i32_w]
            rfl
           refine pure_ (i := 10) (N := some 57) (v := ?_) (a' := ?_) #[true, true, true, true, true, true, true, true, true, true, true, false, false, false, false, false, false, false, false, false, false, false, false, false, false, false] rfl rfl (any_of HT_.out (by kernel_rfl)) (fun _ _ _ h => h) (Or.inl ⟨by rfl, ?_⟩) ?_ ?_
           rotate_left
           ·intro w'
            go_simp
            with_reducible rfl
           rotate_left
           ·simp only [Act.put, List.setIfInBounds_toArray, List.set_cons_zero, List.set_cons_succ, i64_w, i32_w]
            rfl
           refine pure_ (i := 11) (N := some 58) (v := ?_) (a' := ?_) #[true, true, true, true, true, true, true, true, true, true, true, true, false, false, false, false, false, false, false, false, false, false, false, false, false, false] rfl rfl (any_of HT_.out (by kernel_rfl)) (fun _ _ _ h => h) (Or.inl ⟨by rfl, ?_⟩) ?_ ?_
           rotate_left
           ·intro w'
            go_simp
            with_reducible rfl
           rotate_left
           ·simp only [Act.put, List.setIfInBounds_toArray, List.set_cons_zero, List.set_cons_succ, i64_w, i32_w]
            rfl
           refine pure_ (i := 12) (N := some 59) (v := ?_) (a' := ?_) #[true, true, true, true, true, true, true, true, true, true, true, true, true, false, false, false, false, false, false, false, false, false, false, false, false, false] rfl rfl (any_of HT_.out (by kernel_rfl)) (fun _ _ _ h => h) (Or.inl ⟨by rfl, ?_⟩) ?_ ?_
           rotate_left
           ·intro w'
            go_simp
            with_reducible rfl
           rotate_left
           ·simp only [Act.put, List.setIfInBounds_toArray, List.set_cons_zero, List.set_cons_succ, i64_w, i32_w]
            rfl
           refine pure_ (i := 13) (N := some 60) (v := ?_) (a' := ?_) #[true, true, true, true, true, true, true, true, true, true, true, true, true, true, false, false, false, false, false, false, false, false, false, false, false, false] rfl rfl (any_of HT_.out (by kernel_rfl)) (fun _ _ _ h => h) (Or.inl ⟨by rfl, ?_⟩) ?_ ?_
           rotate_left
           ·intro w'
            go_simp
            with_reducible rfl
           rotate_left
           ·simp only [Act.put, List.setIfInBounds_toArray, List.set_cons_zero, List.set_cons_succ, i64_w, i32_w]
            rfl
           refine pure_ (i := 14) (N := some 61) (v := ?_) (a' := ?_) #[true, true, true, true, true, true, true, true, true, true, true, true, true, true, true, false, false, false, false, false, false, false, false, false, false, false] rfl rfl (any_of HT_.out (by kernel_rfl)) (fun _ _ _ h => h) (Or.inl ⟨by rfl, ?_⟩) ?_ ?_
           rotate_left
           ·intro w'
            go_simp
            with_reducible rfl
           rotate_left
           ·simp only [Act.put, List.setIfInBounds_toArray, List.set_cons_zero, List.set_cons_succ, i64_w, i32_w]
            rfl
           refine pure_ (i := 15) (N := some 62) (v := ?_) (a' := ?_) #[true, true, true, true, true, true, true, true, true, true, true, true, true, true, true, true, false, false, false, false, false, false, false, false, false, false] rfl rfl (any_of HT_.out (by kernel_rfl)) (fun _ _ _ h => h) (Or.inl ⟨by rfl, ?_⟩) ?_ ?_
           rotate_left
           ·intro w'
            go_simp
            with_reducible rfl
           rotate_left
           ·simp only [Act.put, List.setIfInBounds_toArray, List.set_cons_zero, List.set_cons_succ, i64_w, i32_w]
            rfl
           refine pure_ (i := 16) (N := some 63) (v := ?_) (a' := ?_) #[true, true, true, true, true, true, true, true, true, true, true, true, true, true, true, true, true, false, false, false, false, false, false, false, false, false] rfl rfl (any_of HT_.out (by kernel_rfl)) (fun _ _ _ h => h) (Or.inl ⟨by rfl, ?_⟩) ?_ ?_
           rotate_left
           ·intro w'
            go_simp
            with_reducible rfl
           rotate_left
           ·simp only [Act.put, List.setIfInBounds_toArray, List.set_cons_zero, List.set_cons_succ, i64_w, i32_w]
            rfl
           refine pure_ (i := 17) (N := some 64) (v := ?_) (a' := ?_) #[true, true, true, true, true, true, true, true, true, true, true, true, true, true, true, true, true, true, false, false, false, false, false, false, false, false] rfl rfl (any_of HT_.out (by kernel_rfl)) (fun _ _ _ h => h) (Or.inl ⟨by rfl, ?_⟩) ?_ ?_
           rotate_left
           ·intro w'
            go_simp
            with_reducible rfl
           rotate_left
           ·simp only [Act.put, List.setIfInBounds_toArray, List.set_cons_zero, List.set_cons_succ, i64_w, i32_w]
            rfl
           refine pure_ (i := 19) (N := some 66) (v := ?_) (a' := ?_) #[true, true, true, true, true, true, true, true, true, true, true, true, true, true, true, true, true, true, false, true, false, false, false, false, false, false] rfl rfl (any_of HT_.out (by kernel_rfl)) (fun _ _ _ h => h) (Or.inl ⟨by rfl, ?_⟩) ?_ ?_
           rotate_left
           ·intro w'
            go_simp
            with_reducible rfl
           rotate_left
           ·simp only [Act.put, List.setIfInBounds_toArray, List.set_cons_zero, List.set_cons_succ, i64_w, i32_w]
            rfl
           refine take_ (i := 18) (N := some 65) (v := ?_) (a' := ?_) #[true, true, true, true, true, true, true, true, true, true, true, true, true, true, true, true, true, true, true, true, false, false, false, false, false, false] rfl rfl (take_ofW HT_.out HW_.out (by kernel_rfl)) (fun _ _ _ h => h) (Or.inl ⟨by rfl, ?_⟩) hHeld ?_ ?_
           rotate_left
           ·rintro w' ⟨s0, s1, s2, s3, s4, s5, s6, s7, s8, s9, s10, s11, s12, s13, s14, s15, s16, s17, s18, s19, s20⟩
            go_simp
            with_reducible rfl
           rotate_left
           ·simp only [Act.put, List.setIfInBounds_toArray, List.set_cons_zero, List.set_cons_succ, i64_w, i32_w]
            rfl
           refine pure_ (i := 20) (N := some 67) (v := ?_) (a' := ?_) #[true, true, true, true, true, true, true, true, true, true, true, true, true, true, true, true, true, true, true, true, true, false, false, false, false, false] rfl rfl (any_of HT_.out (by kernel_rfl)) (fun _ _ _ h => h) (Or.inl ⟨by rfl, ?_⟩) ?_ ?_
           rotate_left
           ·intro w'
            go_simp
            with_reducible rfl
           rotate_left
           ·simp only [Act.put, List.setIfInBounds_toArray, List.set_cons_zero, List.set_cons_succ, i64_w, i32_w]
            rfl
           refine pure_ (i := 21) (N := some 68) (v := ?_) (a' := ?_) #[true, true, true, true, true, true, true, true, true, true, true, true, true, true, true, true, true, true, true, true, true, true, false, false, false, false] rfl rfl (any_of HT_.out (by kernel_rfl)) (fun _ _ _ h => h) (Or.inl ⟨by rfl, ?_⟩) ?_ ?_
           rotate_left
           ·intro w'
            go_simp
            with_reducible rfl
           rotate_left
           ·simp only [Act.put, List.setIfInBounds_toArray, List.set_cons_zero, List.set_cons_succ, i64_w, i32_w]
            rfl
           refine take_ (i := 22) (N := some 69) (v := ?_) (a' := ?_) #[true, true, true, true, true, true, true, true, true, true, true, true, true, true, true, true, true, true, true, true, true, true, true, false, false, false] rfl rfl (take_ofW HT_.out HW_.out (by kernel_rfl)) (fun _ _ _ h => h) (Or.inl ⟨by rfl, ?_⟩) hHeld ?_ ?_
           rotate_left
           ·rintro w' ⟨s0, s1, s2, s3, s4, s5, s6, s7, s8, s9, s10, s11, s12, s13, s14, s15, s16, s17, s18, s19, s20⟩
            go_simp
            with_reducible rfl
           rotate_left
           ·simp only [Act.put, List.setIfInBounds_toArray, List.set_cons_zero, List.set_cons_succ, i64_w, i32_w]
            rfl
           refine one_ (i := 23) (N := some 70) #[true, true, true, true, true, true, true, true, true, true, true, true, true, true, true, true, true, true, true, true, true, true, true, true, false, false] rfl rfl (one_of HT_.out (by kernel_rfl)) (by decide) (fun K hK => ?_)
           refine goes_ Try.func111 (by kernel_rfl) rfl #[.pointer (some adp0), .agg #[.int .i8 ((rd_T116 ((rd_T41 l0 0).f1) x3_2).f0.f0), .int .i8 ((rd_T116 ((rd_T41 l0 0).f1) x3_2).f0.f1)]] (by rfl) rfl rfl (by (try simp only [List.map_toArray, List.map_cons, List.map_nil]); first | done | rfl | (simp only [List.length_drop, List.length_take]; rfl)) ?_
           with_reducible refine (spec_l01Find.calls k2 _ [(⟨(rd_T41 l0 0).f0.f0, (rd_T41 l0 0).f0.f1, (rd_T41 l0 0).f0.f2⟩ : S37)] ((rd_T116 ((rd_T41 l0 0).f1) x3_2).f0.f0) ((rd_T116 ((rd_T41 l0 0).f1) x3_2).f0.f1) t235 _ ?side1 A21.out).mono ?_
           (case side1 => refine ro_first (d := k41) (d1 := k37) (f := fun x : S41 => (x.f0, x.f1, x.f2)) (l := l0) rfl z41 ?_ (by first | (have h_ := of_eq_true q232; omega) | (have h_ : 0 < (l0.length : Int) := zJ (by assumption); omega) | omega) rfl; repeat (first | exact (Kd.C_below HR0.out (by repeat (first | (with_reducible first | exact HB.out | apply zA | apply zB | apply zC) | exact HB.out))) | (with_reducible refine Kd.C_alloc ?_ _) | (with_reducible refine Kd.C_drewN ?_ _) | (with_reducible refine Kd.C_drew ?_)))
           rintro e w23 ⟨rfl, hb⟩
           refine ⟨_, rfl, ?_⟩
           have n0_ := zN (below_step (by repeat (first | (with_reducible first | exact HB.out | apply zA | apply zB | apply zC) | exact HB.out)) hb)
           clear HB
           have HB := n0_
           clear n0_
           (try clear hb)
           (try clear hb2)
           (try clear hk)
           (try clear hi)
           refine hK.out _ _ ⟨((HB.out.cell (zH w _ hw229_0)).trans hw229_0), ((HB.out.cell (zH w _ hw229_1)).trans hw229_1), ((HB.out.cell (zH w _ hw229_2)).trans hw229_2), ((HB.out.cell (zH w _ hw229_3)).trans hw229_3), ((HB.out.cell (zH w _ hw229_4)).trans hw229_4), ((HB.out.cell (zH w _ hw230_0)).trans hw230_0), ((HB.out.cell (zH w _ hw230_1)).trans hw230_1), ((HB.out.cell (zH w _ hw230_2)).trans hw230_2), ((HB.out.cell (zH w _ hw232_0)).trans hw232_0), ((HB.out.cell (zH w _ hw232_1)).trans hw232_1), ((HB.out.cell (zH w _ hw232_2)).trans hw232_2), ((HB.out.cell (zH w _ hw232_3)).trans hw232_3), ((HB.out.cell (zH w _ hw232_4)).trans hw232_4), ((HB.out.cell (zH w _ hw233_0)).trans hw233_0), ((HB.out.cell (zH w _ hw233_1)).trans hw233_1), ((HB.out.cell (zH w _ hw233_2)).trans hw233_2), ((HB.out.cell (zH w _ hw233_3)).trans hw233_3), ((HB.out.cell (zH w _ hw233_4)).trans hw233_4), ((HB.out.cell (zH w _ hw234_0)).trans hw234_0), ((HB.out.cell (zH w _ hw234_1)).trans hw234_1), ((HB.out.cell (zH w _ hw234_2)).trans hw234_2)⟩ (fun hHeld => ?_)
           clear hK K
           refine norm_ (a' := ?_) ?_ ?_
           rotate_left
           ·show Act.put _ (some 70) _ = _
            simp only [Act.put, List.setIfInBounds_toArray, List.set_cons_zero, List.set_cons_succ, i64_w, i32_w]
            rfl
           refine pure_ (i := 24) (N := some 71) (v := ?_) (a' := ?_) #[true, true, true, true, true, true, true, true, true, true, true, true, true, true, true, true, true, true, true, true, true, true, true, true, true, false] rfl rfl (any_of HT_.out (by kernel_rfl)) (fun _ _ _ h => h) (Or.inl ⟨by rfl, ?_⟩) ?_ ?_
           rotate_left
           ·intro w'
            go_simp
            with_reducible rfl
           rotate_left
           ·simp only [Act.put, List.setIfInBounds_toArray, List.set_cons_zero, List.set_cons_succ, i64_w, i32_w]
            rfl
           refine pure_ (i := 25) (N := some 72) (v := ?_) (a' := ?_) #[true, true, true, true, true, true, true, true, true, true, true, true, true, true, true, true, true, true, true, true, true, true, true, true, true, true] rfl rfl (any_of HT_.out (by kernel_rfl)) (fun _ _ _ h => h) (Or.inl ⟨by rfl, ?_⟩) ?_ ?_
           rotate_left
           ·intro w'
            go_simp
            with_reducible rfl
           rotate_left
           ·simp only [Act.put, List.setIfInBounds_toArray, List.set_cons_zero, List.set_cons_succ, i64_w, i32_w]
            rfl
           refine done_ (done_of HT_.out (by kernel_rfl)) ?_
           try go_wp2
           go_meet
           case rel => exact ⟨_, (decide (t235 < 0)), (by first | rfl | (simp; done) | (simp [*]; done) | (exact congrArg (Value.int .i64) (wrap_eq (by omega)))), H', ⟨by have := HJ1.out; have := HK2.out; first | omega | exact Nat.le_refl _⟩, ⟨by repeat (first | (with_reducible first | exact HB.out | apply zA | apply zB | apply zC) | exact HB.out)⟩⟩
          ·replace c20 := Bool.eq_false_iff.mpr c20
           subst c20
           have H1 : (spec_l03Ok.j2 k2 l0 x3_2 true) = some r := by rw [if_neg (show ¬ (false = true) by decide)] at H; exact H
           clear H
           have H := H1
           clear H1
           have H' := zN H
           clear H
           try go_wp2
           have n0_ := zN (zC HB.out)
           clear HB
           have HB := n0_
           clear n0_
           have p229 : 0 ≤ (0 : Int) := (by omega)
           have q229 : 0 < (l0.length : Int) := zJ (by first | (with_reducible assumption) | assumption)
           obtain ⟨ad229, A229_2, c229_2, A229_3, c229_3, A229_4, c229_4, e229, hx229_0, hx229_1, hx229_2, hx229_3, hx229_4, hl229_2, hi229_2, hl229_3, hi229_3, hl229_4, hi229_4⟩ := at_T41 HR0.out 0 p229 q229
           have hw229_4 := hx229_4
           (try rw [zI] at hw229_4)
           (try rw [Nat.zero_mul] at hw229_4)
           (try rw [Addr.add_zero'] at hw229_4)
           have hw229_3 := hx229_3
           (try rw [zI] at hw229_3)
           (try rw [Nat.zero_mul] at hw229_3)
           (try rw [Addr.add_zero'] at hw229_3)
           have hw229_2 := hx229_2
           (try rw [zI] at hw229_2)
           (try rw [Nat.zero_mul] at hw229_2)
           (try rw [Addr.add_zero'] at hw229_2)
           have hw229_1 := hx229_1
           (try rw [zI] at hw229_1)
           (try rw [Nat.zero_mul] at hw229_1)
           (try rw [Addr.add_zero'] at hw229_1)
           have hw229_0 := hx229_0
           (try rw [zI] at hw229_0)
           (try rw [Nat.zero_mul] at hw229_0)
           (try rw [Addr.add_zero'] at hw229_0)
           obtain rfl : adp0 = ad229 := (by injection e229)
           have qi229 : (0 < l0.length) = True := eq_true (by omega)
           (try rw [zI] at hx229_0)
           (try rw [Nat.zero_mul] at hx229_0)
           (try rw [Addr.add_zero'] at hx229_0)
           (try rw [zI] at hx229_1)
           (try rw [Nat.zero_mul] at hx229_1)
           (try rw [Addr.add_zero'] at hx229_1)
           (try rw [zI] at hx229_2)
           (try rw [Nat.zero_mul] at hx229_2)
           (try rw [Addr.add_zero'] at hx229_2)
           (try rw [zI] at hx229_3)
           (try rw [Nat.zero_mul] at hx229_3)
           (try rw [Addr.add_zero'] at hx229_3)
           (try rw [zI] at hx229_4)
           (try rw [Nat.zero_mul] at hx229_4)
           (try rw [Addr.add_zero'] at hx229_4)
           replace hx229_0 := (HB.out.cell (zH w _ hx229_0)).trans hx229_0
           replace hx229_1 := (HB.out.cell (zH w _ hx229_1)).trans hx229_1
           replace hx229_2 := (HB.out.cell (zH w _ hx229_2)).trans hx229_2
           replace hx229_3 := (HB.out.cell (zH w _ hx229_3)).trans hx229_3
           replace hx229_4 := (HB.out.cell (zH w _ hx229_4)).trans hx229_4
           have HR229_2 := zN hi229_2
           have HC229_2 := zN hl229_2
           clear hi229_2 hl229_2
           have HR229_3 := zN hi229_3
           have HC229_3 := zN hl229_3
           clear hi229_3 hl229_3
           have HR229_4 := zN hi229_4
           have HC229_4 := zN hl229_4
           clear hi229_4 hl229_4
           replace p229 := eq_true p229
           replace q229 := eq_true q229
           have p230 : 0 ≤ (x3_2 : Int) := zJ (by first | (with_reducible assumption) | assumption)
           have q230 : x3_2 < (((rd_T41 l0 0).f1).length : Int) := zJ (by first | (with_reducible assumption) | assumption)
           obtain ⟨ad230, e230, hx230_0, hx230_1, hx230_2⟩ := at_T116 HR229_3.out x3_2 p230 q230
           have hw230_2 := hx230_2
           have hw230_1 := hx230_1
           have hw230_0 := hx230_0
           cases e230
           replace hx230_0 := (HB.out.cell (zH w _ hx230_0)).trans hx230_0
           replace hx230_1 := (HB.out.cell (zH w _ hx230_1)).trans hx230_1
           replace hx230_2 := (HB.out.cell (zH w _ hx230_2)).trans hx230_2
           replace p230 := eq_true p230
           replace q230 := eq_true q230
           refine start_ (n := 26) (S := fun w' => w'.cell? adp0 = some (.int .i8 ((rd_T41 l0 0).f0.f0)) ∧ w'.cell? ⟨adp0.block, adp0.off + 1, none⟩ = some (.int .i8 ((rd_T41 l0 0).f0.f1)) ∧ w'.cell? ⟨adp0.block, adp0.off + 2, none⟩ = some (.slice A229_2 ((rd_T41 l0 0).f0.f2).length c229_2) ∧ w'.cell? ⟨adp0.block, adp0.off + 3, none⟩ = some (.slice (some ad230) ((rd_T41 l0 0).f1).length c229_3) ∧ w'.cell? ⟨adp0.block, adp0.off + 4, none⟩ = some (.slice A229_4 ((rd_T41 l0 0).f2).length c229_4) ∧ w'.cell? (ad230.add ((x3_2).toNat * 3)) = some (.int .i8 ((rd_T116 ((rd_T41 l0 0).f1) x3_2).f0.f0)) ∧ w'.cell? ⟨(ad230.add ((x3_2).toNat * 3)).block, (ad230.add ((x3_2).toNat * 3)).off + 1, none⟩ = some (.int .i8 ((rd_T116 ((rd_T41 l0 0).f1) x3_2).f0.f1)) ∧ w'.cell? ⟨(ad230.add ((x3_2).toNat * 3)).block, (ad230.add ((x3_2).toNat * 3)).off + 2, none⟩ = some (.int .i8 ((rd_T116 ((rd_T41 l0 0).f1) x3_2).f1))) (ds := []) #[false, false, false, false, false, false, false, false, false, false, false, false, false, false, false, false, false, false, false, false, false, false, false, false, false, false] (by kernel_rfl) rfl rfl ⟨((HB.out.cell (zH w _ hw229_0)).trans hw229_0), ((HB.out.cell (zH w _ hw229_1)).trans hw229_1), ((HB.out.cell (zH w _ hw229_2)).trans hw229_2), ((HB.out.cell (zH w _ hw229_3)).trans hw229_3), ((HB.out.cell (zH w _ hw229_4)).trans hw229_4), ((HB.out.cell (zH w _ hw230_0)).trans hw230_0), ((HB.out.cell (zH w _ hw230_1)).trans hw230_1), ((HB.out.cell (zH w _ hw230_2)).trans hw230_2)⟩ (fun hHeld => ?_); refine with_tabW spec_l03Ok.tab6 spec_l03Ok.bits6 (fun HT_ HW_ => ?_)
           generalize wr.drew = w24 at HB HR229_2 HR229_3 HR229_4 hx229_0 hx229_1 hx229_2 hx229_3 hx229_4 hx230_0 hx230_1 hx230_2 hHeld ⊢
           refine pure_ (i := 0) (N := some 47) (v := ?_) (a' := ?_) #[true, false, false, false, false, false, false, false, false, false, false, false, false, false, false, false, false, false, false, false, false, false, false, false, false, false] rfl rfl (any_of HT_.out (by kernel_rfl)) (fun _ _ _ h => h) (Or.inl ⟨by rfl, ?_⟩) ?_ ?_
           rotate_left
           ·intro w'
            go_simp
            with_reducible rfl
           rotate_left
           ·simp only [Act.put, List.setIfInBounds_toArray, List.set_cons_zero, List.set_cons_succ, i64_w, i32_w]
            rfl
           refine pure_ (i := 1) (N := some 48) (v := ?_) (a' := ?_) #[true, true, false, false, false, false, false, false, false, false, false, false, false, false, false, false, false, false, false, false, false, false, false, false, false, false] rfl rfl (any_of HT_.out (by kernel_rfl)) (fun _ _ _ h => h) (Or.inl ⟨by rfl, ?_⟩) ?_ ?_
           rotate_left
           ·intro w'
            go_simp
            with_reducible rfl
           rotate_left
           ·simp only [Act.put, List.setIfInBounds_toArray, List.set_cons_zero, List.set_cons_succ, i64_w, i32_w]
            rfl
           refine pure_ (i := 2) (N := some 49) (v := ?_) (a' := ?_) #[true, true, true, false, false, false, false, false, false, false, false, false, false, false, false, false, false, false, false, false, false, false, false, false, false, false] rfl rfl (any_of HT_.out (by kernel_rfl)) (fun _ _ _ h => h) (Or.inl ⟨by rfl, ?_⟩) ?_ ?_
           rotate_left
           ·intro w'
            go_simp
            with_reducible rfl
           rotate_left
           ·simp only [Act.put, List.setIfInBounds_toArray, List.set_cons_zero, List.set_cons_succ, i64_w, i32_w]
            rfl
           refine pure_ (i := 4) (N := some 51) (v := ?_) (a' := ?_) #[true, true, true, false, true, false, false, false, false, false, false, false, false, false, false, false, false, false, false, false, false, false, false, false, false, false] rfl rfl (any_of HT_.out (by kernel_rfl)) (fun _ _ _ h => h) (Or.inl ⟨by rfl, ?_⟩) ?_ ?_
           rotate_left
           ·intro w'
            go_simp
            with_reducible rfl
           rotate_left
           ·simp only [Act.put, List.setIfInBounds_toArray, List.set_cons_zero, List.set_cons_succ, i64_w, i32_w]
            rfl
           refine take_ (i := 3) (N := some 50) (v := ?_) (a' := ?_) #[true, true, true, true, true, false, false, false, false, false, false, false, false, false, false, false, false, false, false, false, false, false, false, false, false, false] rfl rfl (take_ofW HT_.out HW_.out (by kernel_rfl)) (fun _ _ _ h => h) (Or.inl ⟨by rfl, ?_⟩) hHeld ?_ ?_
           rotate_left
           ·rintro w' ⟨s0, s1, s2, s3, s4, s5, s6, s7⟩
            go_simp
            with_reducible rfl
           rotate_left
           ·simp only [Act.put, List.setIfInBounds_toArray, List.set_cons_zero, List.set_cons_succ, i64_w, i32_w]
            rfl
           refine pure_ (i := 5) (N := some 52) (v := ?_) (a' := ?_) #[true, true, true, true, true, true, false, false, false, false, false, false, false, false, false, false, false, false, false, false, false, false, false, false, false, false] rfl rfl (any_of HT_.out (by kernel_rfl)) (fun _ _ _ h => h) (Or.inl ⟨by rfl, ?_⟩) ?_ ?_
           rotate_left
           ·intro w'
            go_simp
            with_reducible rfl
           rotate_left
           ·simp only [Act.put, List.setIfInBounds_toArray, List.set_cons_zero, List.set_cons_succ, i64_w, i32_w]
            rfl
           refine pure_ (i := 6) (N := some 53) (v := ?_) (a' := ?_) #[true, true, true, true, true, true, true, false, false, false, false, false, false, false, false, false, false, false, false, false, false, false, false, false, false, false] rfl rfl (any_of HT_.out (by kernel_rfl)) (fun _ _ _ h => h) (Or.inl ⟨by rfl, ?_⟩) ?_ ?_
           rotate_left
           ·intro w'
            go_simp
            with_reducible rfl
           rotate_left
           ·simp only [Act.put, List.setIfInBounds_toArray, List.set_cons_zero, List.set_cons_succ, i64_w, i32_w]
            rfl
           refine take_ (i := 7) (N := some 54) (v := ?_) (a' := ?_) #[true, true, true, true, true, true, true, true, false, false, false, false, false, false, false, false, false, false, false, false, false, false, false, false, false, false] rfl rfl (take_ofW HT_.out HW_.out (by kernel_rfl)) (fun _ _ _ h => h) (Or.inl ⟨by rfl, ?_⟩) hHeld ?_ ?_
           rotate_left
           ·rintro w' ⟨s0, s1, s2, s3, s4, s5, s6, s7⟩
            go_simp
            with_reducible rfl
           rotate_left
           ·simp only [Act.put, List.setIfInBounds_toArray, List.set_cons_zero, List.set_cons_succ, i64_w, i32_w]
            rfl
           refine pure_ (i := 8) (N := some 55) (v := ?_) (a' := ?_) #[true, true, true, true, true, true, true, true, true, false, false, false, false, false, false, false, false, false, false, false, false, false, false, false, false, false] rfl rfl (any_of HT_.out (by kernel_rfl)) (fun _ _ _ h => h) (Or.inl ⟨by rfl, ?_⟩) ?_ ?_
           rotate_left
           ·intro w'
            go_simp
            with_reducible rfl
           rotate_left
           ·simp only [Act.put, List.setIfInBounds_toArray, List.set_cons_zero, List.set_cons_succ, i64_w, i32_w]
            rfl
           refine one_ (i := 9) (N := some 56) #[true, true, true, true, true, true, true, true, true, true, false, false, false, false, false, false, false, false, false, false, false, false, false, false, false, false] rfl rfl (one_of HT_.out (by kernel_rfl)) (by decide) (fun K hK => ?_)
           refine goes_ Try.func161 (by kernel_rfl) rfl #[.int .i64 (wrap64 ((rd_T116 ((rd_T41 l0 0).f1) x3_2).f1))] (by rfl) rfl rfl (by (try simp only [List.map_toArray, List.map_cons, List.map_nil]); first | done | rfl | (simp only [List.length_drop, List.length_take]; rfl)) ?_
           with_reducible refine (spec_l01Side.calls (wrap64 ((rd_T116 ((rd_T41 l0 0).f1) x3_2).f1)) false _ A19.out).mono ?_
           rintro e w' ⟨rfl, ⟨nd, rfl⟩⟩
           refine ⟨_, rfl, ?_⟩
           refine hK.out _ _ ⟨((HB.out.cell (zH w _ hw229_0)).trans hw229_0), ((HB.out.cell (zH w _ hw229_1)).trans hw229_1), ((HB.out.cell (zH w _ hw229_2)).trans hw229_2), ((HB.out.cell (zH w _ hw229_3)).trans hw229_3), ((HB.out.cell (zH w _ hw229_4)).trans hw229_4), ((HB.out.cell (zH w _ hw230_0)).trans hw230_0), ((HB.out.cell (zH w _ hw230_1)).trans hw230_1), ((HB.out.cell (zH w _ hw230_2)).trans hw230_2)⟩ (fun hHeld => ?_)
           clear hK K
           refine norm_ (a' := ?_) ?_ ?_
           rotate_left
           ·show Act.put _ (some 56) _ = _
            simp only [Act.put, List.setIfInBounds_toArray, List.set_cons_zero, List.set_cons_succ, i64_w, i32_w]
            rfl
           refine pure_ (i := 10) (N := some 57) (v := ?_) (a' := ?_) #[true, true, true, true, true, true, true, true, true, true, true, false, false, false, false, false, false, false, false, false, false, false, false, false, false, false] rfl rfl (any_of HT_.out (by kernel_rfl)) (fun _ _ _ h => h) (Or.inl ⟨by rfl, ?_⟩) ?_ ?_
           rotate_left
           ·intro w'
            go_simp
            with_reducible rfl
           rotate_left
           ·simp only [Act.put, List.setIfInBounds_toArray, List.set_cons_zero, List.set_cons_succ, i64_w, i32_w]
            rfl
           refine pure_ (i := 11) (N := some 58) (v := ?_) (a' := ?_) #[true, true, true, true, true, true, true, true, true, true, true, true, false, false, false, false, false, false, false, false, false, false, false, false, false, false] rfl rfl (any_of HT_.out (by kernel_rfl)) (fun _ _ _ h => h) (Or.inl ⟨by rfl, ?_⟩) ?_ ?_
           rotate_left
           ·intro w'
            go_simp
            with_reducible rfl
           rotate_left
           ·simp only [Act.put, List.setIfInBounds_toArray, List.set_cons_zero, List.set_cons_succ, i64_w, i32_w]
            rfl
           refine pure_ (i := 12) (N := some 59) (v := undef) (a' := ?_) #[true, true, true, true, true, true, true, true, true, true, true, true, true, false, false, false, false, false, false, false, false, false, false, false, false, false] rfl rfl (any_of HT_.out (by kernel_rfl)) (fun _ _ _ h => h) (Or.inr ⟨by rfl, rfl⟩) ?_ ?_
           rotate_left
           ·simp only [Act.put, List.setIfInBounds_toArray, List.set_cons_zero, List.set_cons_succ, i64_w, i32_w]
            rfl
           refine pure_ (i := 13) (N := some 60) (v := undef) (a' := ?_) #[true, true, true, true, true, true, true, true, true, true, true, true, true, true, false, false, false, false, false, false, false, false, false, false, false, false] rfl rfl (any_of HT_.out (by kernel_rfl)) (fun _ _ _ h => h) (Or.inr ⟨by rfl, rfl⟩) ?_ ?_
           rotate_left
           ·simp only [Act.put, List.setIfInBounds_toArray, List.set_cons_zero, List.set_cons_succ, i64_w, i32_w]
            rfl
           refine pure_ (i := 14) (N := some 61) (v := undef) (a' := ?_) #[true, true, true, true, true, true, true, true, true, true, true, true, true, true, true, false, false, false, false, false, false, false, false, false, false, false] rfl rfl (any_of HT_.out (by kernel_rfl)) (fun _ _ _ h => h) (Or.inr ⟨by rfl, rfl⟩) ?_ ?_
           rotate_left
           ·simp only [Act.put, List.setIfInBounds_toArray, List.set_cons_zero, List.set_cons_succ, i64_w, i32_w]
            rfl
           refine pure_ (i := 15) (N := some 62) (v := undef) (a' := ?_) #[true, true, true, true, true, true, true, true, true, true, true, true, true, true, true, true, false, false, false, false, false, false, false, false, false, false] rfl rfl (any_of HT_.out (by kernel_rfl)) (fun _ _ _ h => h) (Or.inr ⟨by rfl, rfl⟩) ?_ ?_
           rotate_left
           ·simp only [Act.put, List.setIfInBounds_toArray, List.set_cons_zero, List.set_cons_succ, i64_w, i32_w]
            rfl
           refine pure_ (i := 16) (N := some 63) (v := undef) (a' := ?_) #[true, true, true, true, true, true, true, true, true, true, true, true, true, true, true, true, true, false, false, false, false, false, false, false, false, false] rfl rfl (any_of HT_.out (by kernel_rfl)) (fun _ _ _ h => h) (Or.inr ⟨by rfl, rfl⟩) ?_ ?_
           rotate_left
           ·simp only [Act.put, List.setIfInBounds_toArray, List.set_cons_zero, List.set_cons_succ, i64_w, i32_w]
            rfl
           refine pure_ (i := 17) (N := some 64) (v := undef) (a' := ?_) #[true, true, true, true, true, true, true, true, true, true, true, true, true, true, true, true, true, true, false, false, false, false, false, false, false, false] rfl rfl (any_of HT_.out (by kernel_rfl)) (fun _ _ _ h => h) (Or.inr ⟨by rfl, rfl⟩) ?_ ?_
           rotate_left
           ·simp only [Act.put, List.setIfInBounds_toArray, List.set_cons_zero, List.set_cons_succ, i64_w, i32_w]
            rfl
           refine pure_ (i := 18) (N := some 65) (v := undef) (a' := ?_) #[true, true, true, true, true, true, true, true, true, true, true, true, true, true, true, true, true, true, true, false, false, false, false, false, false, false] rfl rfl (any_of HT_.out (by kernel_rfl)) (fun _ _ _ h => h) (Or.inr ⟨by rfl, rfl⟩) ?_ ?_
           rotate_left
           ·simp only [Act.put, List.setIfInBounds_toArray, List.set_cons_zero, List.set_cons_succ, i64_w, i32_w]
            rfl
           refine pure_ (i := 19) (N := some 66) (v := undef) (a' := ?_) #[true, true, true, true, true, true, true, true, true, true, true, true, true, true, true, true, true, true, true, true, false, false, false, false, false, false] rfl rfl (any_of HT_.out (by kernel_rfl)) (fun _ _ _ h => h) (Or.inr ⟨by rfl, rfl⟩) ?_ ?_
           rotate_left
           ·simp only [Act.put, List.setIfInBounds_toArray, List.set_cons_zero, List.set_cons_succ, i64_w, i32_w]
            rfl
           refine pure_ (i := 20) (N := some 67) (v := undef) (a' := ?_) #[true, true, true, true, true, true, true, true, true, true, true, true, true, true, true, true, true, true, true, true, true, false, false, false, false, false] rfl rfl (any_of HT_.out (by kernel_rfl)) (fun _ _ _ h => h) (Or.inr ⟨by rfl, rfl⟩) ?_ ?_
           rotate_left
           ·simp only [Act.put, List.setIfInBounds_toArray, List.set_cons_zero, List.set_cons_succ, i64_w, i32_w]
            rfl
           refine pure_ (i := 21) (N := some 68) (v := undef) (a' := ?_) #[true, true, true, true, true, true, true, true, true, true, true, true, true, true, true, true, true, true, true, true, true, true, false, false, false, false] rfl rfl (any_of HT_.out (by kernel_rfl)) (fun _ _ _ h => h) (Or.inr ⟨by rfl, rfl⟩) ?_ ?_
           rotate_left
           ·simp only [Act.put, List.setIfInBounds_toArray, List.set_cons_zero, List.set_cons_succ, i64_w, i32_w]
            rfl
           refine pure_ (i := 22) (N := some 69) (v := undef) (a' := ?_) #[true, true, true, true, true, true, true, true, true, true, true, true, true, true, true, true, true, true, true, true, true, true, true, false, false, false] rfl rfl (any_of HT_.out (by kernel_rfl)) (fun _ _ _ h => h) (Or.inr ⟨by rfl, rfl⟩) ?_ ?_
           rotate_left
           ·simp only [Act.put, List.setIfInBounds_toArray, List.set_cons_zero, List.set_cons_succ, i64_w, i32_w]
            rfl
           refine pure_ (i := 23) (N := some 70) (v := undef) (a' := ?_) #[true, true, true, true, true, true, true, true, true, true, true, true, true, true, true, true, true, true, true, true, true, true, true, true, false, false] rfl rfl (any_of HT_.out (by kernel_rfl)) (fun _ _ _ h => h) (Or.inr ⟨by rfl, rfl⟩) ?_ ?_
           rotate_left
           ·simp only [Act.put, List.setIfInBounds_toArray, List.set_cons_zero, List.set_cons_succ, i64_w, i32_w]
            rfl
           refine pure_ (i := 24) (N := some 71) (v := undef) (a' := ?_) #[true, true, true, true, true, true, true, true, true, true, true, true, true, true, true, true, true, true, true, true, true, true, true, true, true, false] rfl rfl (any_of HT_.out (by kernel_rfl)) (fun _ _ _ h => h) (Or.inr ⟨by rfl, rfl⟩) ?_ ?_
           rotate_left
           ·simp only [Act.put, List.setIfInBounds_toArray, List.set_cons_zero, List.set_cons_succ, i64_w, i32_w]
            rfl
           refine pure_ (i := 25) (N := some 72) (v := ?_) (a' := ?_) #[true, true, true, true, true, true, true, true, true, true, true, true, true, true, true, true, true, true, true, true, true, true, true, true, true, true] rfl rfl (any_of HT_.out (by kernel_rfl)) (fun _ _ _ h => h) (Or.inl ⟨by rfl, ?_⟩) ?_ ?_
           rotate_left
           ·intro w'
            go_simp
            with_reducible rfl
           rotate_left
           ·simp only [Act.put, List.setIfInBounds_toArray, List.set_cons_zero, List.set_cons_succ, i64_w, i32_w]
            rfl
           refine done_ (done_of HT_.out (by kernel_rfl)) ?_
           try go_wp2
           go_meet
           case rel => exact ⟨_, (true), (by first | rfl | (simp; done) | (simp [*]; done) | (exact congrArg (Value.int .i64) (wrap_eq (by omega)))), H', ⟨by have := HJ1.out; have := HK2.out; first | omega | exact Nat.le_refl _⟩, ⟨by repeat (first | (with_reducible first | exact HB.out | apply zA | apply zB | apply zC) | exact HB.out)⟩⟩
         ·rw [if_neg c18] at H
          exact absurd H (by simp)
        case rest =>
         clear HC17
         try clear c1
         try clear c2
         try clear p2
         try clear q2
         try clear hx2
         try clear qi2
         try clear p6
         try clear c11
         try clear c16
         try clear c18
         try clear c20
         try clear c22
         try clear p22
         try clear q22
         try clear hx22
         try clear qi22
         try clear c23
         try clear p23
         try clear q23
         try clear hx23
         try clear qi23
         try clear hx229_0
         try clear hx229_1
         try clear hx229_2
         try clear hx229_3
         try clear hx229_4
         try clear hx230_0
         try clear hx230_1
         try clear hx230_2
         try clear hx232_0
         try clear hx232_1
         try clear hx232_2
         try clear hx232_3
         try clear hx232_4
         try clear hx233_0
         try clear hx233_1
         try clear hx233_2
         try clear hx233_3
         try clear hx233_4
         try clear hx234_0
         try clear hx234_1
         try clear hx234_2
         try clear p229
         try clear p230
         try clear p232
         try clear p233
         try clear p234
         try clear q229
         try clear q230
         try clear q232
         try clear q233
         try clear q234
         obtain ⟨kq, x72_16, rfl, HA, HJ16, HB⟩ := hcut
         cases kq with
         | zero => exact absurd HA.out (by simp [spec_l03Ok.j2])
         | succ kj16 =>
          have H := HA.out
          clear HA
          simp only [spec_l03Ok.j2] at H
          by_cases c25 : x72_16 = true
          ·subst c25
           have H1 : (some false) = some r := by rw [if_pos rfl] at H; exact H
           clear H
           have H := H1
           clear H1
           obtain rfl := Option.some.inj H
           go_wp2
           go_ret
           exact ⟨by first | rfl | (simp [errW_none, errW_some] <;> rfl) | (simp [*, errW_none, errW_some] <;> rfl), by repeat (first | (with_reducible first | exact HB.out | apply zA | apply zB | apply zC) | exact HB.out)⟩
          ·replace c25 := Bool.eq_false_iff.mpr c25
           subst c25
           have H1 : (spec_l03Ok.l1 kj16 l0 x3_2 0) = some r := by rw [if_neg (show ¬ (false = true) by decide)] at H; exact H
           clear H
           have H := H1
           clear H1
           have H' := zN H
           clear H
           go_wp2
           go_loopg [4] kj16 (fun kq v4 w' => ∃ (x4_4 : Int), v4 = .int .i64 x4_4 ∧ Aside0 (spec_l03Ok.l1 kq l0 x3_2 x4_4 = some r) ∧ Aside0 (kq ≤ kj16) ∧ Aside0 (Below w.heap.size w w'))
           case atStart => exact ⟨(0), (by first | rfl | (simp; done) | (simp [*]; done) | (exact congrArg (Value.int .i64) (wrap_eq (by omega)))), H', ⟨Nat.le_refl _⟩, ⟨by repeat (first | (with_reducible first | exact HB.out | apply zA | apply zB | apply zC) | exact HB.out)⟩⟩
           case round =>
            clear H'
            try clear c1
            try clear c2
            try clear p2
            try clear q2
            try clear hx2
            try clear qi2
            try clear p6
            try clear c11
            try clear c16
            try clear c18
            try clear c20
            try clear c22
            try clear p22
            try clear q22
            try clear hx22
            try clear qi22
            try clear c23
            try clear p23
            try clear q23
            try clear hx23
            try clear qi23
            try clear c25
            try clear hx229_0
            try clear hx229_1
            try clear hx229_2
            try clear hx229_3
            try clear hx229_4
            try clear hx230_0
            try clear hx230_1
            try clear hx230_2
            try clear hx232_0
            try clear hx232_1
            try clear hx232_2
            try clear hx232_3
            try clear hx232_4
            try clear hx233_0
            try clear hx233_1
            try clear hx233_2
            try clear hx233_3
            try clear hx233_4
            try clear hx234_0
            try clear hx234_1
            try clear hx234_2
            try clear p2
            try clear p22
            try clear p229
            try clear p23
            try clear p230
            try clear p232
            try clear p233
            try clear p234
            try clear p6
            try clear q2
            try clear q22
            try clear q229
            try clear q23
            try clear q230
            try clear q232
            try clear q233
            try clear q234
            obtain ⟨x4_4, rfl, HA, HK4, HB⟩ := hrel
            cases gk with
            | zero => exact absurd HA.out (by simp [spec_l03Ok.l1])
            | succ k4 =>
             have H := HA.out
             clear HA
             simp only [spec_l03Ok.l1] at H
             by_cases c26 : x4_4 < x3_2
             ·rw [if_pos c26] at H
              have c26b0 : decide (x4_4 < x3_2) = true := decide_eq_true c26
              clear c26
              by_cases c27 : 0 < (l0.length : Int)
              ·rw [if_pos c27] at H
               have c27b0 : decide (0 < (l0.length : Int)) = true := decide_eq_true c27
               have c27b1 : decide (0 < l0.length) = true := decide_eq_true (by omega)
               clear c27
               by_cases c28 : 0 ≤ x4_4
               ·rw [if_pos c28] at H
                have c28b0 : decide (0 ≤ x4_4) = true := decide_eq_true c28
                clear c28
                by_cases c29 : x4_4 < (((rd_T41 l0 0).f1).length : Int)
                ·rw [if_pos c29] at H
                 have c29b0 : decide (x4_4 < (((rd_T41 l0 0).f1).length : Int)) = true := decide_eq_true c29
                 clear c29
                 by_cases c30 : 0 ≤ x3_2
                 ·rw [if_pos c30] at H
                  have c30b0 : decide (0 ≤ x3_2) = true := decide_eq_true c30
                  clear c30
                  by_cases c31 : x3_2 < (((rd_T41 l0 0).f1).length : Int)
                  ·rw [if_pos c31] at H
                   have c31b0 : decide (x3_2 < (((rd_T41 l0 0).f1).length : Int)) = true := decide_eq_true c31
                   clear c31
                   by_cases c32 : ((((rd_T116 ((rd_T41 l0 0).f1) x4_4).f0.f0) == ((rd_T116 ((rd_T41 l0 0).f1) x3_2).f0.f0) && (((rd_T116 ((rd_T41 l0 0).f1) x4_4).f0.f1) == ((rd_T116 ((rd_T41 l0 0).f1) x3_2).f0.f1))) && (((rd_T116 ((rd_T41 l0 0).f1) x4_4).f1) == ((rd_T116 ((rd_T41 l0 0).f1) x3_2).f1))) = true
                   ·rw [if_pos c32] at H
                    have c32b0 : ((((rd_T116 ((rd_T41 l0 0).f1) x4_4).f0.f0) == ((rd_T116 ((rd_T41 l0 0).f1) x3_2).f0.f0) && (((rd_T116 ((rd_T41 l0 0).f1) x4_4).f0.f1) == ((rd_T116 ((rd_T41 l0 0).f1) x3_2).f0.f1))) && (((rd_T116 ((rd_T41 l0 0).f1) x4_4).f1) == ((rd_T116 ((rd_T41 l0 0).f1) x3_2).f1))) = true := c32
                    clear c32
                    obtain rfl := Option.some.inj H
                    try go_wp2
                    have n0_ := zN (zC HB.out)
                    clear HB
                    have HB := n0_
                    clear n0_
                    have p236 : 0 ≤ (0 : Int) := (by omega)
                    have q236 : 0 < (l0.length : Int) := zJ (by first | (with_reducible assumption) | assumption)
                    obtain ⟨ad236, A236_2, c236_2, A236_3, c236_3, A236_4, c236_4, e236, hx236_0, hx236_1, hx236_2, hx236_3, hx236_4, hl236_2, hi236_2, hl236_3, hi236_3, hl236_4, hi236_4⟩ := at_T41 HR0.out 0 p236 q236
                    have hw236_4 := hx236_4
                    (try rw [zI] at hw236_4)
                    (try rw [Nat.zero_mul] at hw236_4)
                    (try rw [Addr.add_zero'] at hw236_4)
                    have hw236_3 := hx236_3
                    (try rw [zI] at hw236_3)
                    (try rw [Nat.zero_mul] at hw236_3)
                    (try rw [Addr.add_zero'] at hw236_3)
                    have hw236_2 := hx236_2
                    (try rw [zI] at hw236_2)
                    (try rw [Nat.zero_mul] at hw236_2)
                    (try rw [Addr.add_zero'] at hw236_2)
                    have hw236_1 := hx236_1
                    (try rw [zI] at hw236_1)
                    (try rw [Nat.zero_mul] at hw236_1)
                    (try rw [Addr.add_zero'] at hw236_1)
                    have hw236_0 := hx236_0
                    (try rw [zI] at hw236_0)
                    (try rw [Nat.zero_mul] at hw236_0)
                    (try rw [Addr.add_zero'] at hw236_0)
                    obtain rfl : adp0 = ad236 := (by injection e236)
                    have qi236 : (0 < l0.length) = True := eq_true (by omega)
                    (try rw [zI] at hx236_0)
                    (try rw [Nat.zero_mul] at hx236_0)
                    (try rw [Addr.add_zero'] at hx236_0)
                    (try rw [zI] at hx236_1)
                    (try rw [Nat.zero_mul] at hx236_1)
                    (try rw [Addr.add_zero'] at hx236_1)
                    (try rw [zI] at hx236_2)
                    (try rw [Nat.zero_mul] at hx236_2)
                    (try rw [Addr.add_zero'] at hx236_2)
                    (try rw [zI] at hx236_3)
                    (try rw [Nat.zero_mul] at hx236_3)
                    (try rw [Addr.add_zero'] at hx236_3)
                    (try rw [zI] at hx236_4)
                    (try rw [Nat.zero_mul] at hx236_4)
                    (try rw [Addr.add_zero'] at hx236_4)
                    replace hx236_0 := (HB.out.cell (zH w _ hx236_0)).trans hx236_0
                    replace hx236_1 := (HB.out.cell (zH w _ hx236_1)).trans hx236_1
                    replace hx236_2 := (HB.out.cell (zH w _ hx236_2)).trans hx236_2
                    replace hx236_3 := (HB.out.cell (zH w _ hx236_3)).trans hx236_3
                    replace hx236_4 := (HB.out.cell (zH w _ hx236_4)).trans hx236_4
                    have HR236_2 := zN hi236_2
                    have HC236_2 := zN hl236_2
                    clear hi236_2 hl236_2
                    have HR236_3 := zN hi236_3
                    have HC236_3 := zN hl236_3
                    clear hi236_3 hl236_3
                    have HR236_4 := zN hi236_4
                    have HC236_4 := zN hl236_4
                    clear hi236_4 hl236_4
                    replace p236 := eq_true p236
                    replace q236 := eq_true q236
                    have p237 : 0 ≤ (x4_4 : Int) := zJ (by first | (with_reducible assumption) | assumption)
                    have q237 : x4_4 < (((rd_T41 l0 0).f1).length : Int) := zJ (by first | (with_reducible assumption) | assumption)
                    obtain ⟨ad237, e237, hx237_0, hx237_1, hx237_2⟩ := at_T116 HR236_3.out x4_4 p237 q237
                    have hw237_2 := hx237_2
                    have hw237_1 := hx237_1
                    have hw237_0 := hx237_0
                    cases e237
                    replace hx237_0 := (HB.out.cell (zH w _ hx237_0)).trans hx237_0
                    replace hx237_1 := (HB.out.cell (zH w _ hx237_1)).trans hx237_1
                    replace hx237_2 := (HB.out.cell (zH w _ hx237_2)).trans hx237_2
                    replace p237 := eq_true p237
                    replace q237 := eq_true q237
                    have p238 : 0 ≤ (0 : Int) := (by omega)
                    have q238 : 0 < (l0.length : Int) := zJ (by first | (with_reducible assumption) | assumption)
                    obtain ⟨ad238, A238_2, c238_2, A238_3, c238_3, A238_4, c238_4, e238, hx238_0, hx238_1, hx238_2, hx238_3, hx238_4, hl238_2, hi238_2, hl238_3, hi238_3, hl238_4, hi238_4⟩ := at_T41 HR0.out 0 p238 q238
                    have hw238_4 := hx238_4
                    (try rw [zI] at hw238_4)
                    (try rw [Nat.zero_mul] at hw238_4)
                    (try rw [Addr.add_zero'] at hw238_4)
                    have hw238_3 := hx238_3
                    (try rw [zI] at hw238_3)
                    (try rw [Nat.zero_mul] at hw238_3)
                    (try rw [Addr.add_zero'] at hw238_3)
                    have hw238_2 := hx238_2
                    (try rw [zI] at hw238_2)
                    (try rw [Nat.zero_mul] at hw238_2)
                    (try rw [Addr.add_zero'] at hw238_2)
                    have hw238_1 := hx238_1
                    (try rw [zI] at hw238_1)
                    (try rw [Nat.zero_mul] at hw238_1)
                    (try rw [Addr.add_zero'] at hw238_1)
                    have hw238_0 := hx238_0
                    (try rw [zI] at hw238_0)
                    (try rw [Nat.zero_mul] at hw238_0)
                    (try rw [Addr.add_zero'] at hw238_0)
                    obtain rfl : adp0 = ad238 := (by injection e238)
                    have qi238 : (0 < l0.length) = True := eq_true (by omega)
                    (try rw [zI] at hx238_0)
                    (try rw [Nat.zero_mul] at hx238_0)
                    (try rw [Addr.add_zero'] at hx238_0)
                    (try rw [zI] at hx238_1)
                    (try rw [Nat.zero_mul] at hx238_1)
                    (try rw [Addr.add_zero'] at hx238_1)
                    (try rw [zI] at hx238_2)
                    (try rw [Nat.zero_mul] at hx238_2)
                    (try rw [Addr.add_zero'] at hx238_2)
                    (try rw [zI] at hx238_3)
                    (try rw [Nat.zero_mul] at hx238_3)
                    (try rw [Addr.add_zero'] at hx238_3)
                    (try rw [zI] at hx238_4)
                    (try rw [Nat.zero_mul] at hx238_4)
                    (try rw [Addr.add_zero'] at hx238_4)
                    replace hx238_0 := (HB.out.cell (zH w _ hx238_0)).trans hx238_0
                    replace hx238_1 := (HB.out.cell (zH w _ hx238_1)).trans hx238_1
                    replace hx238_2 := (HB.out.cell (zH w _ hx238_2)).trans hx238_2
                    replace hx238_3 := (HB.out.cell (zH w _ hx238_3)).trans hx238_3
                    replace hx238_4 := (HB.out.cell (zH w _ hx238_4)).trans hx238_4
                    have HR238_2 := zN hi238_2
                    have HC238_2 := zN hl238_2
                    clear hi238_2 hl238_2
                    have HR238_3 := zN hi238_3
                    have HC238_3 := zN hl238_3
                    clear hi238_3 hl238_3
                    have HR238_4 := zN hi238_4
                    have HC238_4 := zN hl238_4
                    clear hi238_4 hl238_4
                    replace p238 := eq_true p238
                    replace q238 := eq_true q238
                    have ea_ := Option.some.inj (hx236_2.symm.trans hx238_2)
                    injection ea_ with ea_ en_ ec_
                    subst ea_
                    subst ec_
                    clear en_
                    have ea_ := Option.some.inj (hx236_3.symm.trans hx238_3)
                    injection ea_ with ea_ en_ ec_
                    subst ea_
                    subst ec_
                    clear en_
                    have ea_ := Option.some.inj (hx236_4.symm.trans hx238_4)
                    injection ea_ with ea_ en_ ec_
                    subst ea_
                    subst ec_
                    clear en_
                    have p239 : 0 ≤ (x3_2 : Int) := zJ (by first | (with_reducible assumption) | assumption)
                    have q239 : x3_2 < (((rd_T41 l0 0).f1).length : Int) := zJ (by first | (with_reducible assumption) | assumption)
                    obtain ⟨ad239, e239, hx239_0, hx239_1, hx239_2⟩ := at_T116 HR238_3.out x3_2 p239 q239
                    have hw239_2 := hx239_2
                    have hw239_1 := hx239_1
                    have hw239_0 := hx239_0
                    obtain rfl : ad237 = ad239 := (by injection e239)
                    replace hx239_0 := (HB.out.cell (zH w _ hx239_0)).trans hx239_0
                    replace hx239_1 := (HB.out.cell (zH w _ hx239_1)).trans hx239_1
                    replace hx239_2 := (HB.out.cell (zH w _ hx239_2)).trans hx239_2
                    replace p239 := eq_true p239
                    replace q239 := eq_true q239
                    refine start_ (n := 15) (S := fun w' => w'.cell? adp0 = some (.int .i8 ((rd_T41 l0 0).f0.f0)) ∧ w'.cell? ⟨adp0.block, adp0.off + 1, none⟩ = some (.int .i8 ((rd_T41 l0 0).f0.f1)) ∧ w'.cell? ⟨adp0.block, adp0.off + 2, none⟩ = some (.slice A236_2 ((rd_T41 l0 0).f0.f2).length c236_2) ∧ w'.cell? ⟨adp0.block, adp0.off + 3, none⟩ = some (.slice (some ad237) ((rd_T41 l0 0).f1).length c236_3) ∧ w'.cell? ⟨adp0.block, adp0.off + 4, none⟩ = some (.slice A236_4 ((rd_T41 l0 0).f2).length c236_4) ∧ w'.cell? (ad237.add ((x4_4).toNat * 3)) = some (.int .i8 ((rd_T116 ((rd_T41 l0 0).f1) x4_4).f0.f0)) ∧ w'.cell? ⟨(ad237.add ((x4_4).toNat * 3)).block, (ad237.add ((x4_4).toNat * 3)).off + 1, none⟩ = some (.int .i8 ((rd_T116 ((rd_T41 l0 0).f1) x4_4).f0.f1)) ∧ w'.cell? ⟨(ad237.add ((x4_4).toNat * 3)).block, (ad237.add ((x4_4).toNat * 3)).off + 2, none⟩ = some (.int .i8 ((rd_T116 ((rd_T41 l0 0).f1) x4_4).f1)) ∧ w'.cell? adp0 = some (.int .i8 ((rd_T41 l0 0).f0.f0)) ∧ w'.cell? ⟨adp0.block, adp0.off + 1, none⟩ = some (.int .i8 ((rd_T41 l0 0).f0.f1)) ∧ w'.cell? ⟨adp0.block, adp0.off + 2, none⟩ = some (.slice A236_2 ((rd_T41 l0 0).f0.f2).length c236_2) ∧ w'.cell? ⟨adp0.block, adp0.off + 3, none⟩ = some (.slice (some ad237) ((rd_T41 l0 0).f1).length c236_3) ∧ w'.cell? ⟨adp0.block, adp0.off + 4, none⟩ = some (.slice A236_4 ((rd_T41 l0 0).f2).length c236_4) ∧ w'.cell? (ad237.add ((x3_2).toNat * 3)) = some (.int .i8 ((rd_T116 ((rd_T41 l0 0).f1) x3_2).f0.f0)) ∧ w'.cell? ⟨(ad237.add ((x3_2).toNat * 3)).block, (ad237.add ((x3_2).toNat * 3)).off + 1, none⟩ = some (.int .i8 ((rd_T116 ((rd_T41 l0 0).f1) x3_2).f0.f1)) ∧ w'.cell? ⟨(ad237.add ((x3_2).toNat * 3)).block, (ad237.add ((x3_2).toNat * 3)).off + 2, none⟩ = some (.int .i8 ((rd_T116 ((rd_T41 l0 0).f1) x3_2).f1))) (ds := []) #[false, false, false, false, false, false, false, false, false, false, false, false, false, false, false] (by kernel_rfl) rfl rfl ⟨((HB.out.cell (zH w _ hw236_0)).trans hw236_0), ((HB.out.cell (zH w _ hw236_1)).trans hw236_1), ((HB.out.cell (zH w _ hw236_2)).trans hw236_2), ((HB.out.cell (zH w _ hw236_3)).trans hw236_3), ((HB.out.cell (zH w _ hw236_4)).trans hw236_4), ((HB.out.cell (zH w _ hw237_0)).trans hw237_0), ((HB.out.cell (zH w _ hw237_1)).trans hw237_1), ((HB.out.cell (zH w _ hw237_2)).trans hw237_2), ((HB.out.cell (zH w _ hw238_0)).trans hw238_0), ((HB.out.cell (zH w _ hw238_1)).trans hw238_1), ((HB.out.cell (zH w _ hw238_2)).trans hw238_2), ((HB.out.cell (zH w _ hw238_3)).trans hw238_3), ((HB.out.cell (zH w _ hw238_4)).trans hw238_4), ((HB.out.cell (zH w _ hw239_0)).trans hw239_0), ((HB.out.cell (zH w _ hw239_1)).trans hw239_1), ((HB.out.cell (zH w _ hw239_2)).trans hw239_2)⟩ (fun hHeld => ?_); refine with_tabW spec_l03Ok.tab11 spec_l03Ok.bits11 (fun HT_ HW_ => ?_)
                    generalize wr.drew = w33 at HB HR236_2 HR236_3 HR236_4 HR238_2 HR238_3 HR238_4 hx236_0 hx236_1 hx236_2 hx236_3 hx236_4 hx237_0 hx237_1 hx237_2 hx238_0 hx238_1 hx238_2 hx238_3 hx238_4 hx239_0 hx239_1 hx239_2 hHeld ⊢
                    refine pure_ (i := 0) (N := some 78) (v := ?_) (a' := ?_) #[true, false, false, false, false, false, false, false, false, false, false, false, false, false, false] rfl rfl (any_of HT_.out (by kernel_rfl)) (fun _ _ _ h => h) (Or.inl ⟨by rfl, ?_⟩) ?_ ?_
                    rotate_left
                    ·intro w'
                     go_simp
                     with_reducible rfl
                    rotate_left
                    ·simp only [Act.put, List.setIfInBounds_toArray, List.set_cons_zero, List.set_cons_succ, i64_w, i32_w]
                     rfl
                    refine pure_ (i := 1) (N := some 79) (v := ?_) (a' := ?_) #[true, true, false, false, false, false, false, false, false, false, false, false, false, false, false] rfl rfl (any_of HT_.out (by kernel_rfl)) (fun _ _ _ h => h) (Or.inl ⟨by rfl, ?_⟩) ?_ ?_
                    rotate_left
                    ·intro w'
                     go_simp
                     with_reducible rfl
                    rotate_left
                    ·simp only [Act.put, List.setIfInBounds_toArray, List.set_cons_zero, List.set_cons_succ, i64_w, i32_w]
                     rfl
                    refine pure_ (i := 2) (N := some 80) (v := ?_) (a' := ?_) #[true, true, true, false, false, false, false, false, false, false, false, false, false, false, false] rfl rfl (any_of HT_.out (by kernel_rfl)) (fun _ _ _ h => h) (Or.inl ⟨by rfl, ?_⟩) ?_ ?_
                    rotate_left
                    ·intro w'
                     go_simp
                     with_reducible rfl
                    rotate_left
                    ·simp only [Act.put, List.setIfInBounds_toArray, List.set_cons_zero, List.set_cons_succ, i64_w, i32_w]
                     rfl
                    refine pure_ (i := 4) (N := some 82) (v := ?_) (a' := ?_) #[true, true, true, false, true, false, false, false, false, false, false, false, false, false, false] rfl rfl (any_of HT_.out (by kernel_rfl)) (fun _ _ _ h => h) (Or.inl ⟨by rfl, ?_⟩) ?_ ?_
                    rotate_left
                    ·intro w'
                     go_simp
                     with_reducible rfl
                    rotate_left
                    ·simp only [Act.put, List.setIfInBounds_toArray, List.set_cons_zero, List.set_cons_succ, i64_w, i32_w]
                     rfl
                    refine pure_ (i := 7) (N := some 85) (v := ?_) (a' := ?_) #[true, true, true, false, true, false, false, true, false, false, false, false, false, false, false] rfl rfl (any_of HT_.out (by kernel_rfl)) (fun _ _ _ h => h) (Or.inl ⟨by rfl, ?_⟩) ?_ ?_
                    rotate_left
                    ·intro w'
                     go_simp
                     with_reducible rfl
                    rotate_left
                    ·simp only [Act.put, List.setIfInBounds_toArray, List.set_cons_zero, List.set_cons_succ, i64_w, i32_w]
                     rfl
                    refine pure_ (i := 8) (N := some 86) (v := ?_) (a' := ?_) #[true, true, true, false, true, false, false, true, true, false, false, false, false, false, false] rfl rfl (any_of HT_.out (by kernel_rfl)) (fun _ _ _ h => h) (Or.inl ⟨by rfl, ?_⟩) ?_ ?_
                    rotate_left
                    ·intro w'
                     go_simp
                     with_reducible rfl
                    rotate_left
                    ·simp only [Act.put, List.setIfInBounds_toArray, List.set_cons_zero, List.set_cons_succ, i64_w, i32_w]
                     rfl
                    refine pure_ (i := 9) (N := some 87) (v := ?_) (a' := ?_) #[true, true, true, false, true, false, false, true, true, true, false, false, false, false, false] rfl rfl (any_of HT_.out (by kernel_rfl)) (fun _ _ _ h => h) (Or.inl ⟨by rfl, ?_⟩) ?_ ?_
                    rotate_left
                    ·intro w'
                     go_simp
                     with_reducible rfl
                    rotate_left
                    ·simp only [Act.put, List.setIfInBounds_toArray, List.set_cons_zero, List.set_cons_succ, i64_w, i32_w]
                     rfl
                    refine pure_ (i := 11) (N := some 89) (v := ?_) (a' := ?_) #[true, true, true, false, true, false, false, true, true, true, false, true, false, false, false] rfl rfl (any_of HT_.out (by kernel_rfl)) (fun _ _ _ h => h) (Or.inl ⟨by rfl, ?_⟩) ?_ ?_
                    rotate_left
                    ·intro w'
                     go_simp
                     with_reducible rfl
                    rotate_left
                    ·simp only [Act.put, List.setIfInBounds_toArray, List.set_cons_zero, List.set_cons_succ, i64_w, i32_w]
                     rfl
                    refine take_ (i := 3) (N := some 81) (v := ?_) (a' := ?_) #[true, true, true, true, true, false, false, true, true, true, false, true, false, false, false] rfl rfl (take_ofW HT_.out HW_.out (by kernel_rfl)) (fun _ _ _ h => h) (Or.inl ⟨by rfl, ?_⟩) hHeld ?_ ?_
                    rotate_left
                    ·rintro w' ⟨s0, s1, s2, s3, s4, s5, s6, s7, s8, s9, s10, s11, s12, s13, s14, s15⟩
                     go_simp
                     with_reducible rfl
                    rotate_left
                    ·simp only [Act.put, List.setIfInBounds_toArray, List.set_cons_zero, List.set_cons_succ, i64_w, i32_w]
                     rfl
                    refine pure_ (i := 5) (N := some 83) (v := ?_) (a' := ?_) #[true, true, true, true, true, true, false, true, true, true, false, true, false, false, false] rfl rfl (any_of HT_.out (by kernel_rfl)) (fun _ _ _ h => h) (Or.inl ⟨by rfl, ?_⟩) ?_ ?_
                    rotate_left
                    ·intro w'
                     go_simp
                     with_reducible rfl
                    rotate_left
                    ·simp only [Act.put, List.setIfInBounds_toArray, List.set_cons_zero, List.set_cons_succ, i64_w, i32_w]
                     rfl
                    refine take_ (i := 6) (N := some 84) (v := ?_) (a' := ?_) #[true, true, true, true, true, true, true, true, true, true, false, true, false, false, false] rfl rfl (take_ofW HT_.out HW_.out (by kernel_rfl)) (fun _ _ _ h => h) (Or.inl ⟨by rfl, ?_⟩) hHeld ?_ ?_
                    rotate_left
                    ·rintro w' ⟨s0, s1, s2, s3, s4, s5, s6, s7, s8, s9, s10, s11, s12, s13, s14, s15⟩
                     go_simp
                     with_reducible rfl
                    rotate_left
                    ·simp only [Act.put, List.setIfInBounds_toArray, List.set_cons_zero, List.set_cons_succ, i64_w, i32_w]
                     rfl
                    refine take_ (i := 10) (N := some 88) (v := ?_) (a' := ?_) #[true, true, true, true, true, true, true, true, true, true, true, true, false, false, false] rfl rfl (take_ofW HT_.out HW_.out (by kernel_rfl)) (fun _ _ _ h => h) (Or.inl ⟨by rfl, ?_⟩) hHeld ?_ ?_
                    rotate_left
                    ·rintro w' ⟨s0, s1, s2, s3, s4, s5, s6, s7, s8, s9, s10, s11, s12, s13, s14, s15⟩
                     go_simp
                     with_reducible rfl
                    rotate_left
                    ·simp only [Act.put, List.setIfInBounds_toArray, List.set_cons_zero, List.set_cons_succ, i64_w, i32_w]
                     rfl
                    refine pure_ (i := 12) (N := some 90) (v := ?_) (a' := ?_) #[true, true, true, true, true, true, true, true, true, true, true, true, true, false, false] rfl rfl (any_of HT_.out (by kernel_rfl)) (fun _ _ _ h => h) (Or.inl ⟨by rfl, ?_⟩) ?_ ?_
                    rotate_left
                    ·intro w'
                     go_simp
                     with_reducible rfl
                    rotate_left
                    ·simp only [Act.put, List.setIfInBounds_toArray, List.set_cons_zero, List.set_cons_succ, i64_w, i32_w]
                     rfl
                    refine take_ (i := 13) (N := some 91) (v := ?_) (a' := ?_) #[true, true, true, true, true, true, true, true, true, true, true, true, true, true, false] rfl rfl (take_ofW HT_.out HW_.out (by kernel_rfl)) (fun _ _ _ h => h) (Or.inl ⟨by rfl, ?_⟩) hHeld ?_ ?_
                    rotate_left
                    ·rintro w' ⟨s0, s1, s2, s3, s4, s5, s6, s7, s8, s9, s10, s11, s12, s13, s14, s15⟩
                     go_simp
                     with_reducible rfl
                    rotate_left
                    ·simp only [Act.put, List.setIfInBounds_toArray, List.set_cons_zero, List.set_cons_succ, i64_w, i32_w]
                     rfl
                    refine pure_ (i := 14) (N := some 92) (v := ?_) (a' := ?_) #[true, true, true, true, true, true, true, true, true, true, true, true, true, true, true] rfl rfl (any_of HT_.out (by kernel_rfl)) (fun _ _ _ h => h) (Or.inl ⟨by rfl, ?_⟩) ?_ ?_
                    rotate_left
                    ·intro w'
                     go_simp
                     with_reducible rfl
                    rotate_left
                    ·simp only [Act.put, List.setIfInBounds_toArray, List.set_cons_zero, List.set_cons_succ, i64_w, i32_w]
                     rfl
                    refine done_ (done_of HT_.out (by kernel_rfl)) ?_
                    try go_wp2
                    go_ret
                    exact ⟨by first | rfl | (simp [errW_none, errW_some] <;> rfl) | (simp [*, errW_none, errW_some] <;> rfl), by repeat (first | (with_reducible first | exact HB.out | apply zA | apply zB | apply zC) | exact HB.out)⟩
                   ·rw [if_neg c32] at H
                    have c32b0 : ((((rd_T116 ((rd_T41 l0 0).f1) x4_4).f0.f0) == ((rd_T116 ((rd_T41 l0 0).f1) x3_2).f0.f0) && (((rd_T116 ((rd_T41 l0 0).f1) x4_4).f0.f1) == ((rd_T116 ((rd_T41 l0 0).f1) x3_2).f0.f1))) && (((rd_T116 ((rd_T41 l0 0).f1) x4_4).f1) == ((rd_T116 ((rd_T41 l0 0).f1) x3_2).f1))) = false := by simpa using c32
                    clear c32
                    have H' := zN H
                    clear H
                    try go_wp2
                    have n0_ := zN (zC HB.out)
                    clear HB
                    have HB := n0_
                    clear n0_
                    have p236 : 0 ≤ (0 : Int) := (by omega)
                    have q236 : 0 < (l0.length : Int) := zJ (by first | (with_reducible assumption) | assumption)
                    obtain ⟨ad236, A236_2, c236_2, A236_3, c236_3, A236_4, c236_4, e236, hx236_0, hx236_1, hx236_2, hx236_3, hx236_4, hl236_2, hi236_2, hl236_3, hi236_3, hl236_4, hi236_4⟩ := at_T41 HR0.out 0 p236 q236
                    have hw236_4 := hx236_4
                    (try rw [zI] at hw236_4)
                    (try rw [Nat.zero_mul] at hw236_4)
                    (try rw [Addr.add_zero'] at hw236_4)
                    have hw236_3 := hx236_3
                    (try rw [zI] at hw236_3)
                    (try rw [Nat.zero_mul] at hw236_3)
                    (try rw [Addr.add_zero'] at hw236_3)
                    have hw236_2 := hx236_2
                    (try rw [zI] at hw236_2)
                    (try rw [Nat.zero_mul] at hw236_2)
                    (try rw [Addr.add_zero'] at hw236_2)
                    have hw236_1 := hx236_1
                    (try rw [zI] at hw236_1)
                    (try rw [Nat.zero_mul] at hw236_1)
                    (try rw [Addr.add_zero'] at hw236_1)
                    have hw236_0 := hx236_0
                    (try rw [zI] at hw236_0)
                    (try rw [Nat.zero_mul] at hw236_0)
                    (try rw [Addr.add_zero'] at hw236_0)
                    obtain rfl : adp0 = ad236 := (by injection e236)
                    have qi236 : (0 < l0.length) = True := eq_true (by omega)
                    (try rw [zI] at hx236_0)
                    (try rw [Nat.zero_mul] at hx236_0)
                    (try rw [Addr.add_zero'] at hx236_0)
                    (try rw [zI] at hx236_1)
                    (try rw [Nat.zero_mul] at hx236_1)
                    (try rw [Addr.add_zero'] at hx236_1)
                    (try rw [zI] at hx236_2)
                    (try rw [Nat.zero_mul] at hx236_2)
                    (try rw [Addr.add_zero'] at hx236_2)
                    (try rw [zI] at hx236_3)
                    (try rw [Nat.zero_mul] at hx236_3)
                    (try rw [Addr.add_zero'] at hx236_3)
                    (try rw [zI] at hx236_4)
                    (try rw [Nat.zero_mul] at hx236_4)
                    (try rw [Addr.add_zero'] at hx236_4)
                    replace hx236_0 := (HB.out.cell (zH w _ hx236_0)).trans hx236_0
                    replace hx236_1 := (HB.out.cell (zH w _ hx236_1)).trans hx236_1
                    replace hx236_2 := (HB.out.cell (zH w _ hx236_2)).trans hx236_2
                    replace hx236_3 := (HB.out.cell (zH w _ hx236_3)).trans hx236_3
                    replace hx236_4 := (HB.out.cell (zH w _ hx236_4)).trans hx236_4
                    have HR236_2 := zN hi236_2
                    have HC236_2 := zN hl236_2
                    clear hi236_2 hl236_2
                    have HR236_3 := zN hi236_3
                    have HC236_3 := zN hl236_3
                    clear hi236_3 hl236_3
                    have HR236_4 := zN hi236_4
                    have HC236_4 := zN hl236_4
                    clear hi236_4 hl236_4
                    replace p236 := eq_true p236
                    replace q236 := eq_true q236
                    have p237 : 0 ≤ (x4_4 : Int) := zJ (by first | (with_reducible assumption) | assumption)
                    have q237 : x4_4 < (((rd_T41 l0 0).f1).length : Int) := zJ (by first | (with_reducible assumption) | assumption)
                    obtain ⟨ad237, e237, hx237_0, hx237_1, hx237_2⟩ := at_T116 HR236_3.out x4_4 p237 q237
                    have hw237_2 := hx237_2
                    have hw237_1 := hx237_1
                    have hw237_0 := hx237_0
                    cases e237
                    replace hx237_0 := (HB.out.cell (zH w _ hx237_0)).trans hx237_0
                    replace hx237_1 := (HB.out.cell (zH w _ hx237_1)).trans hx237_1
                    replace hx237_2 := (HB.out.cell (zH w _ hx237_2)).trans hx237_2
                    replace p237 := eq_true p237
                    replace q237 := eq_true q237
                    have p238 : 0 ≤ (0 : Int) := (by omega)
                    have q238 : 0 < (l0.length : Int) := zJ (by first | (with_reducible assumption) | assumption)
                    obtain ⟨ad238, A238_2, c238_2, A238_3, c238_3, A238_4, c238_4, e238, hx238_0, hx238_1, hx238_2, hx238_3, hx238_4, hl238_2, hi238_2, hl238_3, hi238_3, hl238_4, hi238_4⟩ := at_T41 HR0.out 0 p238 q238
                    have hw238_4 := hx238_4
                    (try rw [zI] at hw238_4)
                    (try rw [Nat.zero_mul] at hw238_4)
                    (try rw [Addr.add_zero'] at hw238_4)
                    have hw238_3 := hx238_3
                    (try rw [zI] at hw238_3)
                    (try rw [Nat.zero_mul] at hw238_3)
                    (try rw [Addr.add_zero'] at hw238_3)
                    have hw238_2 := hx238_2
                    (try rw [zI] at hw238_2)
                    (try rw [Nat.zero_mul] at hw238_2)
                    (try rw [Addr.add_zero'] at hw238_2)
                    have hw238_1 := hx238_1
                    (try rw [zI] at hw238_1)
                    (try rw [Nat.zero_mul] at hw238_1)
                    (try rw [Addr.add_zero'] at hw238_1)
                    have hw238_0 := hx238_0
                    (try rw [zI] at hw238_0)
                    (try rw [Nat.zero_mul] at hw238_0)
                    (try rw [Addr.add_zero'] at hw238_0)
                    obtain rfl : adp0 = ad238 := (by injection e238)
                    have qi238 : (0 < l0.length) = True := eq_true (by omega)
                    (try rw [zI] at hx238_0)
                    (try rw [Nat.zero_mul] at hx238_0)
                    (try rw [Addr.add_zero'] at hx238_0)
                    (try rw [zI] at hx238_1)
                    (try rw [Nat.zero_mul] at hx238_1)
                    (try rw [Addr.add_zero'] at hx238_1)
                    (try rw [zI] at hx238_2)
                    (try rw [Nat.zero_mul] at hx238_2)
                    (try rw [Addr.add_zero'] at hx238_2)
                    (try rw [zI] at hx238_3)
                    (try rw [Nat.zero_mul] at hx238_3)
                    (try rw [Addr.add_zero'] at hx238_3)
                    (try rw [zI] at hx238_4)
                    (try rw [Nat.zero_mul] at hx238_4)
                    (try rw [Addr.add_zero'] at hx238_4)
                    replace hx238_0 := (HB.out.cell (zH w _ hx238_0)).trans hx238_0
                    replace hx238_1 := (HB.out.cell (zH w _ hx238_1)).trans hx238_1
                    replace hx238_2 := (HB.out.cell (zH w _ hx238_2)).trans hx238_2
                    replace hx238_3 := (HB.out.cell (zH w _ hx238_3)).trans hx238_3
                    replace hx238_4 := (HB.out.cell (zH w _ hx238_4)).trans hx238_4
                    have HR238_2 := zN hi238_2
                    have HC238_2 := zN hl238_2
                    clear hi238_2 hl238_2
                    have HR238_3 := zN hi238_3
                    have HC238_3 := zN hl238_3
                    clear hi238_3 hl238_3
                    have HR238_4 := zN hi238_4
                    have HC238_4 := zN hl238_4
                    clear hi238_4 hl238_4
                    replace p238 := eq_true p238
                    replace q238 := eq_true q238
                    have ea_ := Option.some.inj (hx236_2.symm.trans hx238_2)
                    injection ea_ with ea_ en_ ec_
                    subst ea_
                    subst ec_
                    clear en_
                    have ea_ := Option.some.inj (hx236_3.symm.trans hx238_3)
                    injection ea_ with ea_ en_ ec_
                    subst ea_
                    subst ec_
                    clear en_
                    have ea_ := Option.some.inj (hx236_4.symm.trans hx238_4)
                    injection ea_ with ea_ en_ ec_
                    subst ea_
                    subst ec_
                    clear en_
                    have p239 : 0 ≤ (x3_2 : Int) := zJ (by first | (with_reducible assumption) | assumption)
                    have q239 : x3_2 < (((rd_T41 l0 0).f1).length : Int) := zJ (by first | (with_reducible assumption) | assumption)
                    obtain ⟨ad239, e239, hx239_0, hx239_1, hx239_2⟩ := at_T116 HR238_3.out x3_2 p239 q239
                    have hw239_2 := hx239_2
                    have hw239_1 := hx239_1
                    have hw239_0 := hx239_0
                    obtain rfl : ad237 = ad239 := (by injection e239)
                    replace hx239_0 := (HB.out.cell (zH w _ hx239_0)).trans hx239_0
                    replace hx239_1 := (HB.out.cell (zH w _ hx239_1)).trans hx239_1
                    replace hx239_2 := (HB.out.cell (zH w _ hx239_2)).trans hx239_2
                    replace p239 := eq_true p239
                    replace q239 := eq_true q239
                    refine start_ (n := 15) (S := fun w' => w'.cell? adp0 = some (.int .i8 ((rd_T41 l0 0).f0.f0)) ∧ w'.cell? ⟨adp0.block, adp0.off + 1, none⟩ = some (.int .i8 ((rd_T41 l0 0).f0.f1)) ∧ w'.cell? ⟨adp0.block, adp0.off + 2, none⟩ = some (.slice A236_2 ((rd_T41 l0 0).f0.f2).length c236_2) ∧ w'.cell? ⟨adp0.block, adp0.off + 3, none⟩ = some (.slice (some ad237) ((rd_T41 l0 0).f1).length c236_3) ∧ w'.cell? ⟨adp0.block, adp0.off + 4, none⟩ = some (.slice A236_4 ((rd_T41 l0 0).f2).length c236_4) ∧ w'.cell? (ad237.add ((x4_4).toNat * 3)) = some (.int .i8 ((rd_T116 ((rd_T41 l0 0).f1) x4_4).f0.f0)) ∧ w'.cell? ⟨(ad237.add ((x4_4).toNat * 3)).block, (ad237.add ((x4_4).toNat * 3)).off + 1, none⟩ = some (.int .i8 ((rd_T116 ((rd_T41 l0 0).f1) x4_4).f0.f1)) ∧ w'.cell? ⟨(ad237.add ((x4_4).toNat * 3)).block, (ad237.add ((x4_4).toNat * 3)).off + 2, none⟩ = some (.int .i8 ((rd_T116 ((rd_T41 l0 0).f1) x4_4).f1)) ∧ w'.cell? adp0 = some (.int .i8 ((rd_T41 l0 0).f0.f0)) ∧ w'.cell? ⟨adp0.block, adp0.off + 1, none⟩ = some (.int .i8 ((rd_T41 l0 0).f0.f1)) ∧ w'.cell? ⟨adp0.block, adp0.off + 2, none⟩ = some (.slice A236_2 ((rd_T41 l0 0).f0.f2).length c236_2) ∧ w'.cell? ⟨adp0.block, adp0.off + 3, none⟩ = some (.slice (some ad237) ((rd_T41 l0 0).f1).length c236_3) ∧ w'.cell? ⟨adp0.block, adp0.off + 4, none⟩ = some (.slice A236_4 ((rd_T41 l0 0).f2).length c236_4) ∧ w'.cell? (ad237.add ((x3_2).toNat * 3)) = some (.int .i8 ((rd_T116 ((rd_T41 l0 0).f1) x3_2).f0.f0)) ∧ w'.cell? ⟨(ad237.add ((x3_2).toNat * 3)).block, (ad237.add ((x3_2).toNat * 3)).off + 1, none⟩ = some (.int .i8 ((rd_T116 ((rd_T41 l0 0).f1) x3_2).f0.f1)) ∧ w'.cell? ⟨(ad237.add ((x3_2).toNat * 3)).block, (ad237.add ((x3_2).toNat * 3)).off + 2, none⟩ = some (.int .i8 ((rd_T116 ((rd_T41 l0 0).f1) x3_2).f1))) (ds := []) #[false, false, false, false, false, false, false, false, false, false, false, false, false, false, false] (by kernel_rfl) rfl rfl ⟨((HB.out.cell (zH w _ hw236_0)).trans hw236_0), ((HB.out.cell (zH w _ hw236_1)).trans hw236_1), ((HB.out.cell (zH w _ hw236_2)).trans hw236_2), ((HB.out.cell (zH w _ hw236_3)).trans hw236_3), ((HB.out.cell (zH w _ hw236_4)).trans hw236_4), ((HB.out.cell (zH w _ hw237_0)).trans hw237_0), ((HB.out.cell (zH w _ hw237_1)).trans hw237_1), ((HB.out.cell (zH w _ hw237_2)).trans hw237_2), ((HB.out.cell (zH w _ hw238_0)).trans hw238_0), ((HB.out.cell (zH w _ hw238_1)).trans hw238_1), ((HB.out.cell (zH w _ hw238_2)).trans hw238_2), ((HB.out.cell (zH w _ hw238_3)).trans hw238_3), ((HB.out.cell (zH w _ hw238_4)).trans hw238_4), ((HB.out.cell (zH w _ hw239_0)).trans hw239_0), ((HB.out.cell (zH w _ hw239_1)).trans hw239_1), ((HB.out.cell (zH w _ hw239_2)).trans hw239_2)⟩ (fun hHeld => ?_); refine with_tabW spec_l03Ok.tab11 spec_l03Ok.bits11 (fun HT_ HW_ => ?_)
                    generalize wr.drew = w34 at HB HR236_2 HR236_3 HR236_4 HR238_2 HR238_3 HR238_4 hx236_0 hx236_1 hx236_2 hx236_3 hx236_4 hx237_0 hx237_1 hx237_2 hx238_0 hx238_1 hx238_2 hx238_3 hx238_4 hx239_0 hx239_1 hx239_2 hHeld ⊢
                    refine pure_ (i := 0) (N := some 78) (v := ?_) (a' := ?_) #[true, false, false, false, false, false, false, false, false, false, false, false, false, false, false] rfl rfl (any_of HT_.out (by kernel_rfl)) (fun _ _ _ h => h) (Or.inl ⟨by rfl, ?_⟩) ?_ ?_
                    rotate_left
                    ·intro w'
                     go_simp
                     with_reducible rfl
                    rotate_left
                    ·simp only [Act.put, List.setIfInBounds_toArray, List.set_cons_zero, List.set_cons_succ, i64_w, i32_w]
                     rfl
                    refine pure_ (i := 1) (N := some 79) (v := ?_) (a' := ?_) #[true, true, false, false, false, false, false, false, false, false, false, false, false, false, false] rfl rfl (any_of HT_.out (by kernel_rfl)) (fun _ _ _ h => h) (Or.inl ⟨by rfl, ?_⟩) ?_ ?_
                    rotate_left
                    ·intro w'
                     go_simp
                     with_reducible rfl
                    rotate_left
                    ·simp only [Act.put, List.setIfInBounds_toArray, List.set_cons_zero, List.set_cons_succ, i64_w, i32_w]
                     rfl
                    refine pure_ (i := 2) (N := some 80) (v := ?_) (a' := ?_) #[true, true, true, false, false, false, false, false, false, false, false, false, false, false, false] rfl rfl (any_of HT_.out (by kernel_rfl)) (fun _ _ _ h => h) (Or.inl ⟨by rfl, ?_⟩) ?_ ?_
                    rotate_left
                    ·intro w'
                     go_simp
                     with_reducible rfl
                    rotate_left
                    ·simp only [Act.put, List.setIfInBounds_toArray, List.set_cons_zero, List.set_cons_succ, i64_w, i32_w]
                     rfl
                    refine pure_ (i := 4) (N := some 82) (v := ?_) (a' := ?_) #[true, true, true, false, true, false, false, false, false, false, false, false, false, false, false] rfl rfl (any_of HT_.out (by kernel_rfl)) (fun _ _ _ h => h) (Or.inl ⟨by rfl, ?_⟩) ?_ ?_
                    rotate_left
                    ·intro w'
                     go_simp
                     with_reducible rfl
                    rotate_left
                    ·simp only [Act.put, List.setIfInBounds_toArray, List.set_cons_zero, List.set_cons_succ, i64_w, i32_w]
                     rfl
                    refine pure_ (i := 7) (N := some 85) (v := ?_) (a' := ?_) #[true, true, true, false, true, false, false, true, false, false, false, false, false, false, false] rfl rfl (any_of HT_.out (by kernel_rfl)) (fun _ _ _ h => h) (Or.inl ⟨by rfl, ?_⟩) ?_ ?_
                    rotate_left
                    ·intro w'
                     go_simp
                     with_reducible rfl
                    rotate_left
                    ·simp only [Act.put, List.setIfInBounds_toArray, List.set_cons_zero, List.set_cons_succ, i64_w, i32_w]
                     rfl
                    refine pure_ (i := 8) (N := some 86) (v := ?_) (a' := ?_) #[true, true, true, false, true, false, false, true, true, false, false, false, false, false, false] rfl rfl (any_of HT_.out (by kernel_rfl)) (fun _ _ _ h => h) (Or.inl ⟨by rfl, ?_⟩) ?_ ?_
                    rotate_left
                    ·intro w'
                     go_simp
                     with_reducible rfl
                    rotate_left
                    ·simp only [Act.put, List.setIfInBounds_toArray, List.set_cons_zero, List.set_cons_succ, i64_w, i32_w]
                     rfl
                    refine pure_ (i := 9) (N := some 87) (v := ?_) (a' := ?_) #[true, true, true, false, true, false, false, true, true, true, false, false, false, false, false] rfl rfl (any_of HT_.out (by kernel_rfl)) (fun _ _ _ h => h) (Or.inl ⟨by rfl, ?_⟩) ?_ ?_
                    rotate_left
                    ·intro w'
                     go_simp
                     with_reducible rfl
                    rotate_left
                    ·simp only [Act.put, List.setIfInBounds_toArray, List.set_cons_zero, List.set_cons_succ, i64_w, i32_w]
                     rfl
                    refine pure_ (i := 11) (N := some 89) (v := ?_) (a' := ?_) #[true, true, true, false, true, false, false, true, true, true, false, true, false, false, false] rfl rfl (any_of HT_.out (by kernel_rfl)) (fun _ _ _ h => h) (Or.inl ⟨by rfl, ?_⟩) ?_ ?_
                    rotate_left
                    ·intro w'
                     go_simp
                     with_reducible rfl
                    rotate_left
                    ·simp only [Act.put, List.setIfInBounds_toArray, List.set_cons_zero, List.set_cons_succ, i64_w, i32_w]
                     rfl
                    refine take_ (i := 3) (N := some 81) (v := ?_) (a' := ?_) #[true, true, true, true, true, false, false, true, true, true, false, true, false, false, false] rfl rfl (take_ofW HT_.out HW_.out (by kernel_rfl)) (fun _ _ _ h => h) (Or.inl ⟨by rfl, ?_⟩) hHeld ?_ ?_
                    rotate_left
                    ·rintro w' ⟨s0, s1, s2, s3, s4, s5, s6, s7, s8, s9, s10, s11, s12, s13, s14, s15⟩
                     go_simp
                     with_reducible rfl
                    rotate_left
                    ·simp only [Act.put, List.setIfInBounds_toArray, List.set_cons_zero, List.set_cons_succ, i64_w, i32_w]
                     rfl
                    refine pure_ (i := 5) (N := some 83) (v := ?_) (a' := ?_) #[true, true, true, true, true, true, false, true, true, true, false, true, false, false, false] rfl rfl (any_of HT_.out (by kernel_rfl)) (fun _ _ _ h => h) (Or.inl ⟨by rfl, ?_⟩) ?_ ?_
                    rotate_left
                    ·intro w'
                     go_simp
                     with_reducible rfl
                    rotate_left
                    ·simp only [Act.put, List.setIfInBounds_toArray, List.set_cons_zero, List.set_cons_succ, i64_w, i32_w]
                     rfl
                    refine take_ (i := 6) (N := some 84) (v := ?_) (a' := ?_) #[true, true, true, true, true, true, true, true, true, true, false, true, false, false, false] rfl rfl (take_ofW HT_.out HW_.out (by kernel_rfl)) (fun _ _ _ h => h) (Or.inl ⟨by rfl, ?_⟩) hHeld ?_ ?_
                    rotate_left
                    ·rintro w' ⟨s0, s1, s2, s3, s4, s5, s6, s7, s8, s9, s10, s11, s12, s13, s14, s15⟩
                     go_simp
                     with_reducible rfl
                    rotate_left
                    ·simp only [Act.put, List.setIfInBounds_toArray, List.set_cons_zero, List.set_cons_succ, i64_w, i32_w]
                     rfl
                    refine take_ (i := 10) (N := some 88) (v := ?_) (a' := ?_) #[true, true, true, true, true, true, true, true, true, true, true, true, false, false, false] rfl rfl (take_ofW HT_.out HW_.out (by kernel_rfl)) (fun _ _ _ h => h) (Or.inl ⟨by rfl, ?_⟩) hHeld ?_ ?_
                    rotate_left
                    ·rintro w' ⟨s0, s1, s2, s3, s4, s5, s6, s7, s8, s9, s10, s11, s12, s13, s14, s15⟩
                     go_simp
                     with_reducible rfl
                    rotate_left
                    ·simp only [Act.put, List.setIfInBounds_toArray, List.set_cons_zero, List.set_cons_succ, i64_w, i32_w]
                     rfl
                    refine pure_ (i := 12) (N := some 90) (v := ?_) (a' := ?_) #[true, true, true, true, true, true, true, true, true, true, true, true, true, false, false] rfl rfl (any_of HT_.out (by kernel_rfl)) (fun _ _ _ h => h) (Or.inl ⟨by rfl, ?_⟩) ?_ ?_
                    rotate_left
                    ·intro w'
                     go_simp
                     with_reducible rfl
                    rotate_left
                    ·simp only [Act.put, List.setIfInBounds_toArray, List.set_cons_zero, List.set_cons_succ, i64_w, i32_w]
                     rfl
                    refine take_ (i := 13) (N := some 91) (v := ?_) (a' := ?_) #[true, true, true, true, true, true, true, true, true, true, true, true, true, true, false] rfl rfl (take_ofW HT_.out HW_.out (by kernel_rfl)) (fun _ _ _ h => h) (Or.inl ⟨by rfl, ?_⟩) hHeld ?_ ?_
                    rotate_left
                    ·rintro w' ⟨s0, s1, s2, s3, s4, s5, s6, s7, s8, s9, s10, s11, s12, s13, s14, s15⟩
                     go_simp
                     with_reducible rfl
                    rotate_left
                    ·simp only [Act.put, List.setIfInBounds_toArray, List.set_cons_zero, List.set_cons_succ, i64_w, i32_w]
                     rfl
                    refine pure_ (i := 14) (N := some 92) (v := ?_) (a' := ?_) #[true, true, true, true, true, true, true, true, true, true, true, true, true, true, true] rfl rfl (any_of HT_.out (by kernel_rfl)) (fun _ _ _ h => h) (Or.inl ⟨by rfl, ?_⟩) ?_ ?_
                    rotate_left
                    ·intro w'
                     go_simp
                     with_reducible rfl
                    rotate_left
                    ·simp only [Act.put, List.setIfInBounds_toArray, List.set_cons_zero, List.set_cons_succ, i64_w, i32_w]
                     rfl
                    refine done_ (done_of HT_.out (by kernel_rfl)) ?_
                    try go_wp2
                    go_roundg k4
                    case measure => have := HJ1.out; have := HK2.out; have := HJ16.out; have := HK4.out; omega
                    case rel => exact ⟨(wrap64 (x4_4 + 1)), (by first | rfl | (simp; done) | (simp [*]; done) | (exact congrArg (Value.int .i64) (wrap_eq (by omega)))), H', ⟨by have := HJ1.out; have := HK2.out; have := HJ16.out; have := HK4.out; omega⟩, ⟨by repeat (first | (with_reducible first | exact HB.out | apply zA | apply zB | apply zC) | exact HB.out)⟩⟩
                  ·rw [if_neg c31] at H
                   exact absurd H (by simp)
                 ·rw [if_neg c30] at H
                  exact absurd H (by simp)
                ·rw [if_neg c29] at H
                 exact absurd H (by simp)
               ·rw [if_neg c28] at H
                exact absurd H (by simp)
              ·rw [if_neg c27] at H
               exact absurd H (by simp)
             ·rw [if_neg c26] at H
              have c26b0 : decide (x4_4 < x3_2) = false := decide_eq_false c26
              clear c26
              have H' := zN H
              clear H
              go_wp2
              go_roundg k4
              case measure => have := HJ1.out; have := HK2.out; have := HJ16.out; have := HK4.out; omega
              case rel => exact ⟨(wrap64 (x3_2 + 1)), (by first | rfl | (simp; done) | (simp [*]; done) | (exact congrArg (Value.int .i64) (wrap_eq (by omega)))), H', ⟨by have := HJ1.out; have := HK2.out; have := HJ16.out; have := HK4.out; omega⟩, ⟨by repeat (first | (with_reducible first | exact HB.out | apply zA | apply zB | apply zC) | exact HB.out)⟩⟩
       ·rw [if_neg c16] at H
        have c16b0 : decide (x3_2 < (((rd_T41 l0 0).f1).length : Int)) = false := decide_eq_false c16
        clear c16
        have H' := zN H
        clear H
        have p228 : 0 ≤ (0 : Int) := (by omega)
        have q228 : 0 < (l0.length : Int) := zJ (by first | (with_reducible assumption) | assumption)
        obtain ⟨ad228, A228_2, c228_2, A228_3, c228_3, A228_4, c228_4, e228, hx228_0, hx228_1, hx228_2, hx228_3, hx228_4, hl228_2, hi228_2, hl228_3, hi228_3, hl228_4, hi228_4⟩ := at_T41 HR0.out 0 p228 q228
        obtain rfl : adp0 = ad228 := (by injection e228)
        have qi228 : (0 < l0.length) = True := eq_true (by omega)
        (try rw [zI] at hx228_0)
        (try rw [Nat.zero_mul] at hx228_0)
        (try rw [Addr.add_zero'] at hx228_0)
        (try rw [zI] at hx228_1)
        (try rw [Nat.zero_mul] at hx228_1)
        (try rw [Addr.add_zero'] at hx228_1)
        (try rw [zI] at hx228_2)
        (try rw [Nat.zero_mul] at hx228_2)
        (try rw [Addr.add_zero'] at hx228_2)
        (try rw [zI] at hx228_3)
        (try rw [Nat.zero_mul] at hx228_3)
        (try rw [Addr.add_zero'] at hx228_3)
        (try rw [zI] at hx228_4)
        (try rw [Nat.zero_mul] at hx228_4)
        (try rw [Addr.add_zero'] at hx228_4)
        replace hx228_0 := (HB.out.cell (zH w _ hx228_0)).trans hx228_0
        replace hx228_1 := (HB.out.cell (zH w _ hx228_1)).trans hx228_1
        replace hx228_2 := (HB.out.cell (zH w _ hx228_2)).trans hx228_2
        replace hx228_3 := (HB.out.cell (zH w _ hx228_3)).trans hx228_3
        replace hx228_4 := (HB.out.cell (zH w _ hx228_4)).trans hx228_4
        have HR228_2 := zN hi228_2
        have HC228_2 := zN hl228_2
        clear hi228_2 hl228_2
        have HR228_3 := zN hi228_3
        have HC228_3 := zN hl228_3
        clear hi228_3 hl228_3
        have HR228_4 := zN hi228_4
        have HC228_4 := zN hl228_4
        clear hi228_4 hl228_4
        replace p228 := eq_true p228
        replace q228 := eq_true q228
        go_wp2
        go_loopg [5] k2 (fun kq v5 w' => ∃ (x5_3 : Int), v5 = .int .i64 x5_3 ∧ Aside0 (spec_l03Ok.l2 kq l0 x5_3 = some r) ∧ Aside0 (kq ≤ k2) ∧ Aside0 (Below w.heap.size w w'))
        case atStart => exact ⟨(0), (by first | rfl | (simp; done) | (simp [*]; done) | (exact congrArg (Value.int .i64) (wrap_eq (by omega)))), H', ⟨Nat.le_refl _⟩, ⟨by repeat (first | (with_reducible first | exact HB.out | apply zA | apply zB | apply zC) | exact HB.out)⟩⟩
        case round =>
         clear H'
         try clear c1
         try clear c2
         try clear p2
         try clear q2
         try clear hx2
         try clear qi2
         try clear c3
         try clear p6
         try clear c16
         try clear c16b0
         try clear c22
         try clear p22
         try clear q22
         try clear hx22
         try clear qi22
         try clear c23
         try clear p23
         try clear q23
         try clear hx23
         try clear qi23
         try clear c26
         try clear c26b0
         try clear c27
         try clear c28
         try clear c29
         try clear c30
         try clear c31
         try clear c32
         try clear c32b0
         try clear hx228_0
         try clear hx228_1
         try clear hx228_2
         try clear hx228_3
         try clear hx228_4
         try clear hx236_0
         try clear hx236_1
         try clear hx236_2
         try clear hx236_3
         try clear hx236_4
         try clear hx237_0
         try clear hx237_1
         try clear hx237_2
         try clear hx238_0
         try clear hx238_1
         try clear hx238_2
         try clear hx238_3
         try clear hx238_4
         try clear hx239_0
         try clear hx239_1
         try clear hx239_2
         try clear p228
         try clear p236
         try clear p237
         try clear p238
         try clear p239
         try clear q228
         try clear q236
         try clear q237
         try clear q238
         try clear q239
         obtain ⟨x5_3, rfl, HA, HK3, HB⟩ := hrel
         cases gk with
         | zero => exact absurd HA.out (by simp [spec_l03Ok.l2])
         | succ k3 =>
          have H := HA.out
          clear HA
          simp only [spec_l03Ok.l2] at H
          by_cases c35 : 0 < (l0.length : Int)
          ·rw [if_pos c35] at H
           have c35b0 : decide (0 < (l0.length : Int)) = true := decide_eq_true c35
           have c35b1 : decide (0 < l0.length) = true := decide_eq_true (by omega)
           clear c35
           by_cases c36 : x5_3 < (((rd_T41 l0 0).f2).length : Int)
           ·rw [if_pos c36] at H
            have c36b0 : decide (x5_3 < (((rd_T41 l0 0).f2).length : Int)) = true := decide_eq_true c36
            clear c36
            by_cases c37 : 0 ≤ x5_3
            ·rw [if_pos c37] at H
             have c37b0 : decide (0 ≤ x5_3) = true := decide_eq_true c37
             clear c37
             replace H := Option.bind_eq_some_iff.mp H
             obtain ⟨t244, A380, H⟩ := H
             replace H : (if t244 < 0 then (some false) else (spec_l03Ok.l2 k3 l0 (wrap64 (x5_3 + 1)))) = some r := H
             have A38 := zN A380
             clear A380
             by_cases c39 : t244 < 0
             ·rw [if_pos c39] at H
              have c39b0 : decide (t244 < 0) = true := decide_eq_true c39
              clear c39
              obtain rfl := Option.some.inj H
              have p240 : 0 ≤ (0 : Int) := (by omega)
              have q240 : 0 < (l0.length : Int) := zJ (by first | (with_reducible assumption) | assumption)
              obtain ⟨ad240, A240_2, c240_2, A240_3, c240_3, A240_4, c240_4, e240, hx240_0, hx240_1, hx240_2, hx240_3, hx240_4, hl240_2, hi240_2, hl240_3, hi240_3, hl240_4, hi240_4⟩ := at_T41 HR0.out 0 p240 q240
              obtain rfl : adp0 = ad240 := (by injection e240)
              have qi240 : (0 < l0.length) = True := eq_true (by omega)
              (try rw [zI] at hx240_0)
              (try rw [Nat.zero_mul] at hx240_0)
              (try rw [Addr.add_zero'] at hx240_0)
              (try rw [zI] at hx240_1)
              (try rw [Nat.zero_mul] at hx240_1)
              (try rw [Addr.add_zero'] at hx240_1)
              (try rw [zI] at hx240_2)
              (try rw [Nat.zero_mul] at hx240_2)
              (try rw [Addr.add_zero'] at hx240_2)
              (try rw [zI] at hx240_3)
              (try rw [Nat.zero_mul] at hx240_3)
              (try rw [Addr.add_zero'] at hx240_3)
              (try rw [zI] at hx240_4)
              (try rw [Nat.zero_mul] at hx240_4)
              (try rw [Addr.add_zero'] at hx240_4)
              replace hx240_0 := (HB.out.cell (zH w _ hx240_0)).trans hx240_0
              replace hx240_1 := (HB.out.cell (zH w _ hx240_1)).trans hx240_1
              replace hx240_2 := (HB.out.cell (zH w _ hx240_2)).trans hx240_2
              replace hx240_3 := (HB.out.cell (zH w _ hx240_3)).trans hx240_3
              replace hx240_4 := (HB.out.cell (zH w _ hx240_4)).trans hx240_4
              have HR240_2 := zN hi240_2
              have HC240_2 := zN hl240_2
              clear hi240_2 hl240_2
              have HR240_3 := zN hi240_3
              have HC240_3 := zN hl240_3
              clear hi240_3 hl240_3
              have HR240_4 := zN hi240_4
              have HC240_4 := zN hl240_4
              clear hi240_4 hl240_4
              replace p240 := eq_true p240
              replace q240 := eq_true q240
              try go_wp2
              have n0_ := zN (zC HB.out)
              clear HB
              have HB := n0_
              clear n0_
              have p241 : 0 ≤ (0 : Int) := (by omega)
              have q241 : 0 < (l0.length : Int) := zJ (by first | (with_reducible assumption) | assumption)
              obtain ⟨ad241, A241_2, c241_2, A241_3, c241_3, A241_4, c241_4, e241, hx241_0, hx241_1, hx241_2, hx241_3, hx241_4, hl241_2, hi241_2, hl241_3, hi241_3, hl241_4, hi241_4⟩ := at_T41 HR0.out 0 p241 q241
              have hw241_4 := hx241_4
              (try rw [zI] at hw241_4)
              (try rw [Nat.zero_mul] at hw241_4)
              (try rw [Addr.add_zero'] at hw241_4)
              have hw241_3 := hx241_3
              (try rw [zI] at hw241_3)
              (try rw [Nat.zero_mul] at hw241_3)
              (try rw [Addr.add_zero'] at hw241_3)
              have hw241_2 := hx241_2
              (try rw [zI] at hw241_2)
              (try rw [Nat.zero_mul] at hw241_2)
              (try rw [Addr.add_zero'] at hw241_2)
              have hw241_1 := hx241_1
              (try rw [zI] at hw241_1)
              (try rw [Nat.zero_mul] at hw241_1)
              (try rw [Addr.add_zero'] at hw241_1)
              have hw241_0 := hx241_0
              (try rw [zI] at hw241_0)
              (try rw [Nat.zero_mul] at hw241_0)
              (try rw [Addr.add_zero'] at hw241_0)
              obtain rfl : adp0 = ad241 := (by injection e241)
              have qi241 : (0 < l0.length) = True := eq_true (by omega)
              (try rw [zI] at hx241_0)
              (try rw [Nat.zero_mul] at hx241_0)
              (try rw [Addr.add_zero'] at hx241_0)
              (try rw [zI] at hx241_1)
              (try rw [Nat.zero_mul] at hx241_1)
              (try rw [Addr.add_zero'] at hx241_1)
              (try rw [zI] at hx241_2)
              (try rw [Nat.zero_mul] at hx241_2)
              (try rw [Addr.add_zero'] at hx241_2)
              (try rw [zI] at hx241_3)
              (try rw [Nat.zero_mul] at hx241_3)
              (try rw [Addr.add_zero'] at hx241_3)
              (try rw [zI] at hx241_4)
              (try rw [Nat.zero_mul] at hx241_4)
              (try rw [Addr.add_zero'] at hx241_4)
              replace hx241_0 := (HB.out.cell (zH w _ hx241_0)).trans hx241_0
              replace hx241_1 := (HB.out.cell (zH w _ hx241_1)).trans hx241_1
              replace hx241_2 := (HB.out.cell (zH w _ hx241_2)).trans hx241_2
              replace hx241_3 := (HB.out.cell (zH w _ hx241_3)).trans hx241_3
              replace hx241_4 := (HB.out.cell (zH w _ hx241_4)).trans hx241_4
              have HR241_2 := zN hi241_2
              have HC241_2 := zN hl241_2
              clear hi241_2 hl241_2
              have HR241_3 := zN hi241_3
              have HC241_3 := zN hl241_3
              clear hi241_3 hl241_3
              have HR241_4 := zN hi241_4
              have HC241_4 := zN hl241_4
              clear hi241_4 hl241_4
              replace p241 := eq_true p241
              replace q241 := eq_true q241
              have p242 : 0 ≤ (0 : Int) := (by omega)
              have q242 : 0 < (l0.length : Int) := zJ (by first | (with_reducible assumption) | assumption)
              obtain ⟨ad242, A242_2, c242_2, A242_3, c242_3, A242_4, c242_4, e242, hx242_0, hx242_1, hx242_2, hx242_3, hx242_4, hl242_2, hi242_2, hl242_3, hi242_3, hl242_4, hi242_4⟩ := at_T41 HR0.out 0 p242 q242
              have hw242_4 := hx242_4
              (try rw [zI] at hw242_4)
              (try rw [Nat.zero_mul] at hw242_4)
              (try rw [Addr.add_zero'] at hw242_4)
              have hw242_3 := hx242_3
              (try rw [zI] at hw242_3)
              (try rw [Nat.zero_mul] at hw242_3)
              (try rw [Addr.add_zero'] at hw242_3)
              have hw242_2 := hx242_2
              (try rw [zI] at hw242_2)
              (try rw [Nat.zero_mul] at hw242_2)
              (try rw [Addr.add_zero'] at hw242_2)
              have hw242_1 := hx242_1
              (try rw [zI] at hw242_1)
              (try rw [Nat.zero_mul] at hw242_1)
              (try rw [Addr.add_zero'] at hw242_1)
              have hw242_0 := hx242_0
              (try rw [zI] at hw242_0)
              (try rw [Nat.zero_mul] at hw242_0)
              (try rw [Addr.add_zero'] at hw242_0)
              obtain rfl : adp0 = ad242 := (by injection e242)
              have qi242 : (0 < l0.length) = True := eq_true (by omega)
              (try rw [zI] at hx242_0)
              (try rw [Nat.zero_mul] at hx242_0)
              (try rw [Addr.add_zero'] at hx242_0)
              (try rw [zI] at hx242_1)
              (try rw [Nat.zero_mul] at hx242_1)
              (try rw [Addr.add_zero'] at hx242_1)
              (try rw [zI] at hx242_2)
              (try rw [Nat.zero_mul] at hx242_2)
              (try rw [Addr.add_zero'] at hx242_2)
              (try rw [zI] at hx242_3)
              (try rw [Nat.zero_mul] at hx242_3)
              (try rw [Addr.add_zero'] at hx242_3)
              (try rw [zI] at hx242_4)
              (try rw [Nat.zero_mul] at hx242_4)
              (try rw [Addr.add_zero'] at hx242_4)
              replace hx242_0 := (HB.out.cell (zH w _ hx242_0)).trans hx242_0
              replace hx242_1 := (HB.out.cell (zH w _ hx242_1)).trans hx242_1
              replace hx242_2 := (HB.out.cell (zH w _ hx242_2)).trans hx242_2
              replace hx242_3 := (HB.out.cell (zH w _ hx242_3)).trans hx242_3
              replace hx242_4 := (HB.out.cell (zH w _ hx242_4)).trans hx242_4
              have HR242_2 := zN hi242_2
              have HC242_2 := zN hl242_2
              clear hi242_2 hl242_2
              have HR242_3 := zN hi242_3
              have HC242_3 := zN hl242_3
              clear hi242_3 hl242_3
              have HR242_4 := zN hi242_4
              have HC242_4 := zN hl242_4
              clear hi242_4 hl242_4
              replace p242 := eq_true p242
              replace q242 := eq_true q242
              have ea_ := Option.some.inj (hx241_2.symm.trans hx242_2)
              injection ea_ with ea_ en_ ec_
              subst ea_
              subst ec_
              clear en_
              have ea_ := Option.some.inj (hx241_3.symm.trans hx242_3)
              injection ea_ with ea_ en_ ec_
              subst ea_
              subst ec_
              clear en_
              have ea_ := Option.some.inj (hx241_4.symm.trans hx242_4)
              injection ea_ with ea_ en_ ec_
              subst ea_
              subst ec_
              clear en_
              have p243 : 0 ≤ (x5_3 : Int) := zJ (by first | (with_reducible assumption) | assumption)
              have q243 : x5_3 < (((rd_T41 l0 0).f2).length : Int) := zJ (by first | (with_reducible assumption) | assumption)
              obtain ⟨ad243, e243, hx243_0, hx243_1⟩ := at_T74 HR242_4.out x5_3 p243 q243
              have hw243_1 := hx243_1
              have hw243_0 := hx243_0
              cases e243
              replace hx243_0 := (HB.out.cell (zH w _ hx243_0)).trans hx243_0
              replace hx243_1 := (HB.out.cell (zH w _ hx243_1)).trans hx243_1
              replace p243 := eq_true p243
              replace q243 := eq_true q243
              refine start_ (n := 12) (S := fun w' => w'.cell? adp0 = some (.int .i8 ((rd_T41 l0 0).f0.f0)) ∧ w'.cell? ⟨adp0.block, adp0.off + 1, none⟩ = some (.int .i8 ((rd_T41 l0 0).f0.f1)) ∧ w'.cell? ⟨adp0.block, adp0.off + 2, none⟩ = some (.slice A241_2 ((rd_T41 l0 0).f0.f2).length c241_2) ∧ w'.cell? ⟨adp0.block, adp0.off + 3, none⟩ = some (.slice A241_3 ((rd_T41 l0 0).f1).length c241_3) ∧ w'.cell? ⟨adp0.block, adp0.off + 4, none⟩ = some (.slice (some ad243) ((rd_T41 l0 0).f2).length c241_4) ∧ w'.cell? adp0 = some (.int .i8 ((rd_T41 l0 0).f0.f0)) ∧ w'.cell? ⟨adp0.block, adp0.off + 1, none⟩ = some (.int .i8 ((rd_T41 l0 0).f0.f1)) ∧ w'.cell? ⟨adp0.block, adp0.off + 2, none⟩ = some (.slice A241_2 ((rd_T41 l0 0).f0.f2).length c241_2) ∧ w'.cell? ⟨adp0.block, adp0.off + 3, none⟩ = some (.slice A241_3 ((rd_T41 l0 0).f1).length c241_3) ∧ w'.cell? ⟨adp0.block, adp0.off + 4, none⟩ = some (.slice (some ad243) ((rd_T41 l0 0).f2).length c241_4) ∧ w'.cell? (ad243.add ((x5_3).toNat * 2)) = some (.int .i8 ((rd_T74 ((rd_T41 l0 0).f2) x5_3).f0)) ∧ w'.cell? ⟨(ad243.add ((x5_3).toNat * 2)).block, (ad243.add ((x5_3).toNat * 2)).off + 1, none⟩ = some (.int .i8 ((rd_T74 ((rd_T41 l0 0).f2) x5_3).f1))) (ds := []) #[false, false, false, false, false, false, false, false, false, false, false, false] (by kernel_rfl) rfl rfl ⟨((HB.out.cell (zH w _ hw241_0)).trans hw241_0), ((HB.out.cell (zH w _ hw241_1)).trans hw241_1), ((HB.out.cell (zH w _ hw241_2)).trans hw241_2), ((HB.out.cell (zH w _ hw241_3)).trans hw241_3), ((HB.out.cell (zH w _ hw241_4)).trans hw241_4), ((HB.out.cell (zH w _ hw242_0)).trans hw242_0), ((HB.out.cell (zH w _ hw242_1)).trans hw242_1), ((HB.out.cell (zH w _ hw242_2)).trans hw242_2), ((HB.out.cell (zH w _ hw242_3)).trans hw242_3), ((HB.out.cell (zH w _ hw242_4)).trans hw242_4), ((HB.out.cell (zH w _ hw243_0)).trans hw243_0), ((HB.out.cell (zH w _ hw243_1)).trans hw243_1)⟩ (fun hHeld => ?_); refine with_tabW spec_l03Ok.tab16 spec_l03Ok.bits16 (fun HT_ HW_ => ?_)
              generalize wr.drew = w40 at HB HR241_2 HR241_3 HR241_4 HR242_2 HR242_3 HR242_4 hx241_0 hx241_1 hx241_2 hx241_3 hx241_4 hx242_0 hx242_1 hx242_2 hx242_3 hx242_4 hx243_0 hx243_1 hHeld ⊢
              refine pure_ (i := 0) (N := some 102) (v := ?_) (a' := ?_) #[true, false, false, false, false, false, false, false, false, false, false, false] rfl rfl (any_of HT_.out (by kernel_rfl)) (fun _ _ _ h => h) (Or.inl ⟨by rfl, ?_⟩) ?_ ?_
              rotate_left
              ·intro w'
               go_simp
               with_reducible rfl
              rotate_left
              ·simp only [Act.put, List.setIfInBounds_toArray, List.set_cons_zero, List.set_cons_succ, i64_w, i32_w]
               rfl
              refine pure_ (i := 1) (N := some 103) (v := ?_) (a' := ?_) #[true, true, false, false, false, false, false, false, false, false, false, false] rfl rfl (any_of HT_.out (by kernel_rfl)) (fun _ _ _ h => h) (Or.inl ⟨by rfl, ?_⟩) ?_ ?_
              rotate_left
              ·intro w'
               go_simp
               with_reducible rfl
              rotate_left
              ·simp only [Act.put, List.setIfInBounds_toArray, List.set_cons_zero, List.set_cons_succ, i64_w, i32_w]
               rfl
              refine pure_ (i := 2) (N := some 104) (v := ?_) (a' := ?_) #[true, true, true, false, false, false, false, false, false, false, false, false] rfl rfl (any_of HT_.out (by kernel_rfl)) (fun _ _ _ h => h) (Or.inl ⟨by rfl, ?_⟩) ?_ ?_
              rotate_left
              ·intro w'
               go_simp
               with_reducible rfl
              rotate_left
              ·simp only [Act.put, List.setIfInBounds_toArray, List.set_cons_zero, List.set_cons_succ, i64_w, i32_w]
               rfl
              refine pure_ (i := 3) (N := some 105) (v := ?_) (a' := ?_) #[true, true, true, true, false, false, false, false, false, false, false, false] rfl rfl (any_of HT_.out (by kernel_rfl)) (fun _ _ _ h => h) (Or.inl ⟨by rfl, ?_⟩) ?_ ?_
              rotate_left
              ·intro w'
               go_simp
               with_reducible rfl
              rotate_left
              ·simp only [Act.put, List.setIfInBounds_toArray, List.set_cons_zero, List.set_cons_succ, i64_w, i32_w]
               rfl
              refine pure_ (i := 4) (N := some 106) (v := ?_) (a' := ?_) #[true, true, true, true, true, false, false, false, false, false, false, false] rfl rfl (any_of HT_.out (by kernel_rfl)) (fun _ _ _ h => h) (Or.inl ⟨by rfl, ?_⟩) ?_ ?_
              rotate_left
              ·intro w'
               go_simp
               with_reducible rfl
              rotate_left
              ·simp only [Act.put, List.setIfInBounds_toArray, List.set_cons_zero, List.set_cons_succ, i64_w, i32_w]
               rfl
              refine pure_ (i := 5) (N := some 107) (v := ?_) (a' := ?_) #[true, true, true, true, true, true, false, false, false, false, false, false] rfl rfl (any_of HT_.out (by kernel_rfl)) (fun _ _ _ h => h) (Or.inl ⟨by rfl, ?_⟩) ?_ ?_
              rotate_left
              ·intro w'
               go_simp
               with_reducible rfl
              rotate_left
              ·simp only [Act.put, List.setIfInBounds_toArray, List.set_cons_zero, List.set_cons_succ, i64_w, i32_w]
               rfl
              refine pure_ (i := 7) (N := some 109) (v := ?_) (a' := ?_) #[true, true, true, true, true, true, false, true, false, false, false, false] rfl rfl (any_of HT_.out (by kernel_rfl)) (fun _ _ _ h => h) (Or.inl ⟨by rfl, ?_⟩) ?_ ?_
              rotate_left
              ·intro w'
               go_simp
               with_reducible rfl
              rotate_left
              ·simp only [Act.put, List.setIfInBounds_toArray, List.set_cons_zero, List.set_cons_succ, i64_w, i32_w]
               rfl
              refine take_ (i := 6) (N := some 108) (v := ?_) (a' := ?_) #[true, true, true, true, true, true, true, true, false, false, false, false] rfl rfl (take_ofW HT_.out HW_.out (by kernel_rfl)) (fun _ _ _ h => h) (Or.inl ⟨by rfl, ?_⟩) hHeld ?_ ?_
              rotate_left
              ·rintro w' ⟨s0, s1, s2, s3, s4, s5, s6, s7, s8, s9, s10, s11⟩
               go_simp
               with_reducible rfl
              rotate_left
              ·simp only [Act.put, List.setIfInBounds_toArray, List.set_cons_zero, List.set_cons_succ, i64_w, i32_w]
               rfl
              refine pure_ (i := 8) (N := some 110) (v := ?_) (a' := ?_) #[true, true, true, true, true, true, true, true, true, false, false, false] rfl rfl (any_of HT_.out (by kernel_rfl)) (fun _ _ _ h => h) (Or.inl ⟨by rfl, ?_⟩) ?_ ?_
              rotate_left
              ·intro w'
               go_simp
               with_reducible rfl
              rotate_left
              ·simp only [Act.put, List.setIfInBounds_toArray, List.set_cons_zero, List.set_cons_succ, i64_w, i32_w]
               rfl
              refine take_ (i := 9) (N := some 111) (v := ?_) (a' := ?_) #[true, true, true, true, true, true, true, true, true, true, false, false] rfl rfl (take_ofW HT_.out HW_.out (by kernel_rfl)) (fun _ _ _ h => h) (Or.inl ⟨by rfl, ?_⟩) hHeld ?_ ?_
              rotate_left
              ·rintro w' ⟨s0, s1, s2, s3, s4, s5, s6, s7, s8, s9, s10, s11⟩
               go_simp
               with_reducible rfl
              rotate_left
              ·simp only [Act.put, List.setIfInBounds_toArray, List.set_cons_zero, List.set_cons_succ, i64_w, i32_w]
               rfl
              refine one_ (i := 10) (N := some 112) #[true, true, true, true, true, true, true, true, true, true, true, false] rfl rfl (one_of HT_.out (by kernel_rfl)) (by decide) (fun K hK => ?_)
              refine goes_ Try.func111 (by kernel_rfl) rfl #[.pointer (some adp0), .agg #[.int .i8 ((rd_T74 ((rd_T41 l0 0).f2) x5_3).f0), .int .i8 ((rd_T74 ((rd_T41 l0 0).f2) x5_3).f1)]] (by rfl) rfl rfl (by (try simp only [List.map_toArray, List.map_cons, List.map_nil]); first | done | rfl | (simp only [List.length_drop, List.length_take]; rfl)) ?_
              with_reducible refine (spec_l01Find.calls k3 _ [(⟨(rd_T41 l0 0).f0.f0, (rd_T41 l0 0).f0.f1, (rd_T41 l0 0).f0.f2⟩ : S37)] ((rd_T74 ((rd_T41 l0 0).f2) x5_3).f0) ((rd_T74 ((rd_T41 l0 0).f2) x5_3).f1) t244 _ ?side1 A38.out).mono ?_
              (case side1 => refine ro_first (d := k41) (d1 := k37) (f := fun x : S41 => (x.f0, x.f1, x.f2)) (l := l0) rfl z41 ?_ (by first | (have h_ := of_eq_true q241; omega) | (have h_ : 0 < (l0.length : Int) := zJ (by assumption); omega) | omega) rfl; repeat (first | exact (Kd.C_below HR0.out HB.out) | (with_reducible refine Kd.C_alloc ?_ _) | (with_reducible refine Kd.C_drewN ?_ _) | (with_reducible refine Kd.C_drew ?_)))
              rintro e w41 ⟨rfl, hb⟩
              refine ⟨_, rfl, ?_⟩
              have n0_ := zN (below_step (by repeat (first | (with_reducible first | exact HB.out | apply zA | apply zB | apply zC) | exact HB.out)) hb)
              clear HB
              have HB := n0_
              clear n0_
              (try clear hb)
              (try clear hb2)
              (try clear hk)
              (try clear hi)
              refine hK.out _ _ ⟨((HB.out.cell (zH w _ hw241_0)).trans hw241_0), ((HB.out.cell (zH w _ hw241_1)).trans hw241_1), ((HB.out.cell (zH w _ hw241_2)).trans hw241_2), ((HB.out.cell (zH w _ hw241_3)).trans hw241_3), ((HB.out.cell (zH w _ hw241_4)).trans hw241_4), ((HB.out.cell (zH w _ hw242_0)).trans hw242_0), ((HB.out.cell (zH w _ hw242_1)).trans hw242_1), ((HB.out.cell (zH w _ hw242_2)).trans hw242_2), ((HB.out.cell (zH w _ hw242_3)).trans hw242_3), ((HB.out.cell (zH w _ hw242_4)).trans hw242_4), ((HB.out.cell (zH w _ hw243_0)).trans hw243_0), ((HB.out.cell (zH w _ hw243_1)).trans hw243_1)⟩ (fun hHeld => ?_)
              clear hK K
              refine norm_ (a' := ?_) ?_ ?_
              rotate_left
              ·show Act.put _ (some 112) _ = _
               simp only [Act.put, List.setIfInBounds_toArray, List.set_cons_zero, List.set_cons_succ, i64_w, i32_w]
               rfl
              refine pure_ (i := 11) (N := some 113) (v := ?_) (a' := ?_) #[true, true, true, true, true, true, true, true, true, true, true, true] rfl rfl (any_of HT_.out (by kernel_rfl)) (fun _ _ _ h => h) (Or.inl ⟨by rfl, ?_⟩) ?_ ?_
              rotate_left
              ·intro w'
               go_simp
               with_reducible rfl
              rotate_left
              ·simp only [Act.put, List.setIfInBounds_toArray, List.set_cons_zero, List.set_cons_succ, i64_w, i32_w]
               rfl
              refine done_ (done_of HT_.out (by kernel_rfl)) ?_
              try go_wp2
              go_ret
              exact ⟨by first | rfl | (simp [errW_none, errW_some] <;> rfl) | (simp [*, errW_none, errW_some] <;> rfl), by repeat (first | (with_reducible first | exact HB.out | apply zA | apply zB | apply zC) | exact HB.out)⟩
             ·rw [if_neg c39] at H
              have c39b0 : decide (t244 < 0) = false := decide_eq_false c39
              clear c39
              have H' := zN H
              clear H
              have p240 : 0 ≤ (0 : Int) := (by omega)
              have q240 : 0 < (l0.length : Int) := zJ (by first | (with_reducible assumption) | assumption)
              obtain ⟨ad240, A240_2, c240_2, A240_3, c240_3, A240_4, c240_4, e240, hx240_0, hx240_1, hx240_2, hx240_3, hx240_4, hl240_2, hi240_2, hl240_3, hi240_3, hl240_4, hi240_4⟩ := at_T41 HR0.out 0 p240 q240
              obtain rfl : adp0 = ad240 := (by injection e240)
              have qi240 : (0 < l0.length) = True := eq_true (by omega)
              (try rw [zI] at hx240_0)
              (try rw [Nat.zero_mul] at hx240_0)
              (try rw [Addr.add_zero'] at hx240_0)
              (try rw [zI] at hx240_1)
              (try rw [Nat.zero_mul] at hx240_1)
              (try rw [Addr.add_zero'] at hx240_1)
              (try rw [zI] at hx240_2)
              (try rw [Nat.zero_mul] at hx240_2)
              (try rw [Addr.add_zero'] at hx240_2)
              (try rw [zI] at hx240_3)
              (try rw [Nat.zero_mul] at hx240_3)
              (try rw [Addr.add_zero'] at hx240_3)
              (try rw [zI] at hx240_4)
              (try rw [Nat.zero_mul] at hx240_4)
              (try rw [Addr.add_zero'] at hx240_4)
              replace hx240_0 := (HB.out.cell (zH w _ hx240_0)).trans hx240_0
              replace hx240_1 := (HB.out.cell (zH w _ hx240_1)).trans hx240_1
              replace hx240_2 := (HB.out.cell (zH w _ hx240_2)).trans hx240_2
              replace hx240_3 := (HB.out.cell (zH w _ hx240_3)).trans hx240_3
              replace hx240_4 := (HB.out.cell (zH w _ hx240_4)).trans hx240_4
              have HR240_2 := zN hi240_2
              have HC240_2 := zN hl240_2
              clear hi240_2 hl240_2
              have HR240_3 := zN hi240_3
              have HC240_3 := zN hl240_3
              clear hi240_3 hl240_3
              have HR240_4 := zN hi240_4
              have HC240_4 := zN hl240_4
              clear hi240_4 hl240_4
              replace p240 := eq_true p240
              replace q240 := eq_true q240
              try go_wp2
              have n0_ := zN (zC HB.out)
              clear HB
              have HB := n0_
              clear n0_
              have p241 : 0 ≤ (0 : Int) := (by omega)
              have q241 : 0 < (l0.length : Int) := zJ (by first | (with_reducible assumption) | assumption)
              obtain ⟨ad241, A241_2, c241_2, A241_3, c241_3, A241_4, c241_4, e241, hx241_0, hx241_1, hx241_2, hx241_3, hx241_4, hl241_2, hi241_2, hl241_3, hi241_3, hl241_4, hi241_4⟩ := at_T41 HR0.out 0 p241 q241
              have hw241_4 := hx241_4
              (try rw [zI] at hw241_4)
              (try rw [Nat.zero_mul] at hw241_4)
              (try rw [Addr.add_zero'] at hw241_4)
              have hw241_3 := hx241_3
              (try rw [zI] at hw241_3)
              (try rw [Nat.zero_mul] at hw241_3)
              (try rw [Addr.add_zero'] at hw241_3)
              have hw241_2 := hx241_2
              (try rw [zI] at hw241_2)
              (try rw [Nat.zero_mul] at hw241_2)
              (try rw [Addr.add_zero'] at hw241_2)
              have hw241_1 := hx241_1
              (try rw [zI] at hw241_1)
              (try rw [Nat.zero_mul] at hw241_1)
              (try rw [Addr.add_zero'] at hw241_1)
              have hw241_0 := hx241_0
              (try rw [zI] at hw241_0)
              (try rw [Nat.zero_mul] at hw241_0)
              (try rw [Addr.add_zero'] at hw241_0)
              obtain rfl : adp0 = ad241 := (by injection e241)
              have qi241 : (0 < l0.length) = True := eq_true (by omega)
              (try rw [zI] at hx241_0)
              (try rw [Nat.zero_mul] at hx241_0)
              (try rw [Addr.add_zero'] at hx241_0)
              (try rw [zI] at hx241_1)
              (try rw [Nat.zero_mul] at hx241_1)
              (try rw [Addr.add_zero'] at hx241_1)
              (try rw [zI] at hx241_2)
              (try rw [Nat.zero_mul] at hx241_2)
              (try rw [Addr.add_zero'] at hx241_2)
              (try rw [zI] at hx241_3)
              (try rw [Nat.zero_mul] at hx241_3)
              (try rw [Addr.add_zero'] at hx241_3)
              (try rw [zI] at hx241_4)
              (try rw [Nat.zero_mul] at hx241_4)
              (try rw [Addr.add_zero'] at hx241_4)
              replace hx241_0 := (HB.out.cell (zH w _ hx241_0)).trans hx241_0
              replace hx241_1 := (HB.out.cell (zH w _ hx241_1)).trans hx241_1
              replace hx241_2 := (HB.out.cell (zH w _ hx241_2)).trans hx241_2
              replace hx241_3 := (HB.out.cell (zH w _ hx241_3)).trans hx241_3
              replace hx241_4 := (HB.out.cell (zH w _ hx241_4)).trans hx241_4
              have HR241_2 := zN hi241_2
              have HC241_2 := zN hl241_2
              clear hi241_2 hl241_2
              have HR241_3 := zN hi241_3
              have HC241_3 := zN hl241_3
              clear hi241_3 hl241_3
              have HR241_4 := zN hi241_4
              have HC241_4 := zN hl241_4
              clear hi241_4 hl241_4
              replace p241 := eq_true p241
              replace q241 := eq_true q241
              have p242 : 0 ≤ (0 : Int) := (by omega)
              have q242 : 0 < (l0.length : Int) := zJ (by first | (with_reducible assumption) | assumption)
              obtain ⟨ad242, A242_2, c242_2, A242_3, c242_3, A242_4, c242_4, e242, hx242_0, hx242_1, hx242_2, hx242_3, hx242_4, hl242_2, hi242_2, hl242_3, hi242_3, hl242_4, hi242_4⟩ := at_T41 HR0.out 0 p242 q242
              have hw242_4 := hx242_4
              (try rw [zI] at hw242_4)
              (try rw [Nat.zero_mul] at hw242_4)
              (try rw [Addr.add_zero'] at hw242_4)
              have hw242_3 := hx242_3
              (try rw [zI] at hw242_3)
              (try rw [Nat.zero_mul] at hw242_3)
              (try rw [Addr.add_zero'] at hw242_3)
              have hw242_2 := hx242_2
              (try rw [zI] at hw242_2)
              (try rw [Nat.zero_mul] at hw242_2)
              (try rw [Addr.add_zero'] at hw242_2)
              have hw242_1 := hx242_1
              (try rw [zI] at hw242_1)
              (try rw [Nat.zero_mul] at hw242_1)
              (try rw [Addr.add_zero'] at hw242_1)
              have hw242_0 := hx242_0
              (try rw [zI] at hw242_0)
              (try rw [Nat.zero_mul] at hw242_0)
              (try rw [Addr.add_zero'] at hw242_0)
              obtain rfl : adp0 = ad242 := (by injection e242)
              have qi242 : (0 < l0.length) = True := eq_true (by omega)
              (try rw [zI] at hx242_0)
              (try rw [Nat.zero_mul] at hx242_0)
              (try rw [Addr.add_zero'] at hx242_0)
              (try rw [zI] at hx242_1)
              (try rw [Nat.zero_mul] at hx242_1)
              (try rw [Addr.add_zero'] at hx242_1)
              (try rw [zI] at hx242_2)
              (try rw [Nat.zero_mul] at hx242_2)
              (try rw [Addr.add_zero'] at hx242_2)
              (try rw [zI] at hx242_3)
              (try rw [Nat.zero_mul] at hx242_3)
              (try rw [Addr.add_zero'] at hx242_3)
              (try rw [zI] at hx242_4)
              (try rw [Nat.zero_mul] at hx242_4)
              (try rw [Addr.add_zero'] at hx242_4)
              replace hx242_0 := (HB.out.cell (zH w _ hx242_0)).trans hx242_0
              replace hx242_1 := (HB.out.cell (zH w _ hx242_1)).trans hx242_1
              replace hx242_2 := (HB.out.cell (zH w _ hx242_2)).trans hx242_2
              replace hx242_3 := (HB.out.cell (zH w _ hx242_3)).trans hx242_3
              replace hx242_4 := (HB.out.cell (zH w _ hx242_4)).trans hx242_4
              have HR242_2 := zN hi242_2
              have HC242_2 := zN hl242_2
              clear hi242_2 hl242_2
              have HR242_3 := zN hi242_3
              have HC242_3 := zN hl242_3
              clear hi242_3 hl242_3
              have HR242_4 := zN hi242_4
              have HC242_4 := zN hl242_4
              clear hi242_4 hl242_4
              replace p242 := eq_true p242
              replace q242 := eq_true q242
              have ea_ := Option.some.inj (hx241_2.symm.trans hx242_2)
              injection ea_ with ea_ en_ ec_
              subst ea_
              subst ec_
              clear en_
              have ea_ := Option.some.inj (hx241_3.symm.trans hx242_3)
              injection ea_ with ea_ en_ ec_
              subst ea_
              subst ec_
              clear en_
              have ea_ := Option.some.inj (hx241_4.symm.trans hx242_4)
              injection ea_ with ea_ en_ ec_
              subst ea_
              subst ec_
              clear en_
              have p243 : 0 ≤ (x5_3 : Int) := zJ (by first | (with_reducible assumption) | assumption)
              have q243 : x5_3 < (((rd_T41 l0 0).f2).length : Int) := zJ (by first | (with_reducible assumption) | assumption)
              obtain ⟨ad243, e243, hx243_0, hx243_1⟩ := at_T74 HR242_4.out x5_3 p243 q243
              have hw243_1 := hx243_1
              have hw243_0 := hx243_0
              cases e243
              replace hx243_0 := (HB.out.cell (zH w _ hx243_0)).trans hx243_0
              replace hx243_1 := (HB.out.cell (zH w _ hx243_1)).trans hx243_1
              replace p243 := eq_true p243
              replace q243 := eq_true q243
              refine start_ (n := 12) (S := fun w' => w'.cell? adp0 = some (.int .i8 ((rd_T41 l0 0).f0.f0)) ∧ w'.cell? ⟨adp0.block, adp0.off + 1, none⟩ = some (.int .i8 ((rd_T41 l0 0).f0.f1)) ∧ w'.cell? ⟨adp0.block, adp0.off + 2, none⟩ = some (.slice A241_2 ((rd_T41 l0 0).f0.f2).length c241_2) ∧ w'.cell? ⟨adp0.block, adp0.off + 3, none⟩ = some (.slice A241_3 ((rd_T41 l0 0).f1).length c241_3) ∧ w'.cell? ⟨adp0.block, adp0.off + 4, none⟩ = some (.slice (some ad243) ((rd_T41 l0 0).f2).length c241_4) ∧ w'.cell? adp0 = some (.int .i8 ((rd_T41 l0 0).f0.f0)) ∧ w'.cell? ⟨adp0.block, adp0.off + 1, none⟩ = some (.int .i8 ((rd_T41 l0 0).f0.f1)) ∧ w'.cell? ⟨adp0.block, adp0.off + 2, none⟩ = some (.slice A241_2 ((rd_T41 l0 0).f0.f2).length c241_2) ∧ w'.cell? ⟨adp0.block, adp0.off + 3, none⟩ = some (.slice A241_3 ((rd_T41 l0 0).f1).length c241_3) ∧ w'.cell? ⟨adp0.block, adp0.off + 4, none⟩ = some (.slice (some ad243) ((rd_T41 l0 0).f2).length c241_4) ∧ w'.cell? (ad243.add ((x5_3).toNat * 2)) = some (.int .i8 ((rd_T74 ((rd_T41 l0 0).f2) x5_3).f0)) ∧ w'.cell? ⟨(ad243.add ((x5_3).toNat * 2)).block, (ad243.add ((x5_3).toNat * 2)).off + 1, none⟩ = some (.int .i8 ((rd_T74 ((rd_T41 l0 0).f2) x5_3).f1))) (ds := []) #[false, false, false, false, false, false, false, false, false, false, false, false] (by kernel_rfl) rfl rfl ⟨((HB.out.cell (zH w _ hw241_0)).trans hw241_0), ((HB.out.cell (zH w _ hw241_1)).trans hw241_1), ((HB.out.cell (zH w _ hw241_2)).trans hw241_2), ((HB.out.cell (zH w _ hw241_3)).trans hw241_3), ((HB.out.cell (zH w _ hw241_4)).trans hw241_4), ((HB.out.cell (zH w _ hw242_0)).trans hw242_0), ((HB.out.cell (zH w _ hw242_1)).trans hw242_1), ((HB.out.cell (zH w _ hw242_2)).trans hw242_2), ((HB.out.cell (zH w _ hw242_3)).trans hw242_3), ((HB.out.cell (zH w _ hw242_4)).trans hw242_4), ((HB.out.cell (zH w _ hw243_0)).trans hw243_0), ((HB.out.cell (zH w _ hw243_1)).trans hw243_1)⟩ (fun hHeld => ?_); refine with_tabW spec_l03Ok.tab16 spec_l03Ok.bits16 (fun HT_ HW_ => ?_)
              generalize wr.drew = w42 at HB HR241_2 HR241_3 HR241_4 HR242_2 HR242_3 HR242_4 hx241_0 hx241_1 hx241_2 hx241_3 hx241_4 hx242_0 hx242_1 hx242_2 hx242_3 hx242_4 hx243_0 hx243_1 hHeld ⊢
              refine pure_ (i := 0) (N := some 102) (v := ?_) (a' := ?_) #[true, false, false, false, false, false, false, false, false, false, false, false] rfl rfl (any_of HT_.out (by kernel_rfl)) (fun _ _ _ h => h) (Or.inl ⟨by rfl, ?_⟩) ?_ ?_
              rotate_left
              ·intro w'
               go_simp
               with_reducible rfl
              rotate_left
              ·simp only [Act.put, List.setIfInBounds_toArray, List.set_cons_zero, List.set_cons_succ, i64_w, i32_w]
               rfl
              refine pure_ (i := 1) (N := some 103) (v := ?_) (a' := ?_) #[true, true, false, false, false, false, false, false, false, false, false, false] rfl rfl (any_of HT_.out (by kernel_rfl)) (fun _ _ _ h => h) (Or.inl ⟨by rfl, ?_⟩) ?_ ?_
              rotate_left
              ·intro w'
               go_simp
               with_reducible rfl
              rotate_left
              ·simp only [Act.put, List.setIfInBounds_toArray, List.set_cons_zero, List.set_cons_succ, i64_w, i32_w]
               rfl
              refine pure_ (i := 2) (N := some 104) (v := ?_) (a' := ?_) #[true, true, true, false, false, false, false, false, false, false, false, false] rfl rfl (any_of HT_.out (by kernel_rfl)) (fun _ _ _ h => h) (Or.inl ⟨by rfl, ?_⟩) ?_ ?_
              rotate_left
              ·intro w'
               go_simp
               with_reducible rfl
              rotate_left
              ·simp only [Act.put, List.setIfInBounds_toArray, List.set_cons_zero, List.set_cons_succ, i64_w, i32_w]
               rfl
              refine pure_ (i := 3) (N := some 105) (v := ?_) (a' := ?_) #[true, true, true, true, false, false, false, false, false, false, false, false] rfl rfl (any_of HT_.out (by kernel_rfl)) (fun _ _ _ h => h) (Or.inl ⟨by rfl, ?_⟩) ?_ ?_
              rotate_left
              ·intro w'
               go_simp
               with_reducible rfl
              rotate_left
              ·simp only [Act.put, List.setIfInBounds_toArray, List.set_cons_zero, List.set_cons_succ, i64_w, i32_w]
               rfl
              refine pure_ (i := 4) (N := some 106) (v := ?_) (a' := ?_) #[true, true, true, true, true, false, false, false, false, false, false, false] rfl rfl (any_of HT_.out (by kernel_rfl)) (fun _ _ _ h => h) (Or.inl ⟨by rfl, ?_⟩) ?_ ?_
              rotate_left
              ·intro w'
               go_simp
               with_reducible rfl
              rotate_left
              ·simp only [Act.put, List.setIfInBounds_toArray, List.set_cons_zero, List.set_cons_succ, i64_w, i32_w]
               rfl
              refine pure_ (i := 5) (N := some 107) (v := ?_) (a' := ?_) #[true, true, true, true, true, true, false, false, false, false, false, false] rfl rfl (any_of HT_.out (by kernel_rfl)) (fun _ _ _ h => h) (Or.inl ⟨by rfl, ?_⟩) ?_ ?_
              rotate_left
              ·intro w'
               go_simp
               with_reducible rfl
              rotate_left
              ·simp only [Act.put, List.setIfInBounds_toArray, List.set_cons_zero, List.set_cons_succ, i64_w, i32_w]
               rfl
              refine pure_ (i := 7) (N := some 109) (v := ?_) (a' := ?_) #[true, true, true, true, true, true, false, true, false, false, false, false] rfl rfl (any_of HT_.out (by kernel_rfl)) (fun _ _ _ h => h) (Or.inl ⟨by rfl, ?_⟩) ?_ ?_
              rotate_left
              ·intro w'
               go_simp
               with_reducible rfl
              rotate_left
              ·simp only [Act.put, List.setIfInBounds_toArray, List.set_cons_zero, List.set_cons_succ, i64_w, i32_w]
               rfl
              refine take_ (i := 6) (N := some 108) (v := ?_) (a' := ?_) #[true, true, true, true, true, true, true, true, false, false, false, false] rfl rfl (take_ofW HT_.out HW_.out (by kernel_rfl)) (fun _ _ _ h => h) (Or.inl ⟨by rfl, ?_⟩) hHeld ?_ ?_
              rotate_left
              ·rintro w' ⟨s0, s1, s2, s3, s4, s5, s6, s7, s8, s9, s10, s11⟩
               go_simp
               with_reducible rfl
              rotate_left
              ·simp only [Act.put, List.setIfInBounds_toArray, List.set_cons_zero, List.set_cons_succ, i64_w, i32_w]
               rfl
              refine pure_ (i := 8) (N := some 110) (v := ?_) (a' := ?_) #[true, true, true, true, true, true, true, true, true, false, false, false] rfl rfl (any_of HT_.out (by kernel_rfl)) (fun _ _ _ h => h) (Or.inl ⟨by rfl, ?_⟩) ?_ ?_
              rotate_left
              ·intro w'
               go_simp
               with_reducible rfl
              rotate_left
              ·simp only [Act.put, List.setIfInBounds_toArray, List.set_cons_zero, List.set_cons_succ, i64_w, i32_w]
               rfl
              refine take_ (i := 9) (N := some 111) (v := ?_) (a' := ?_) #[true, true, true, true, true, true, true, true, true, true, false, false] rfl rfl (take_ofW HT_.out HW_.out (by kernel_rfl)) (fun _ _ _ h => h) (Or.inl ⟨by rfl, ?_⟩) hHeld ?_ ?_
              rotate_left
              ·rintro w' ⟨s0, s1, s2, s3, s4, s5, s6, s7, s8, s9, s10, s11⟩
               go_simp
               with_reducible rfl
              rotate_left
              ·simp only [Act.put, List.setIfInBounds_toArray, List.set_cons_zero, List.set_cons_succ, i64_w, i32_w]
               rfl
              refine one_ (i := 10) (N := some 112) #[true, true, true, true, true, true, true, true, true, true, true, false] rfl rfl (one_of HT_.out (by kernel_rfl)) (by decide) (fun K hK => ?_)
              refine goes_ Try.func111 (by kernel_rfl) rfl #[.pointer (some adp0), .agg #[.int .i8 ((rd_T74 ((rd_T41 l0 0).f2) x5_3).f0), .int .i8 ((rd_T74 ((rd_T41 l0 0).f2) x5_3).f1)]] (by rfl) rfl rfl (by (try simp only [List.map_toArray, List.map_cons, List.map_nil]); first | done | rfl | (simp only [List.length_drop, List.length_take]; rfl)) ?_
              with_reducible refine (spec_l01Find.calls k3 _ [(⟨(rd_T41 l0 0).f0.f0, (rd_T41 l0 0).f0.f1, (rd_T41 l0 0).f0.f2⟩ : S37)] ((rd_T74 ((rd_T41 l0 0).f2) x5_3).f0) ((rd_T74 ((rd_T41 l0 0).f2) x5_3).f1) t244 _ ?side1 A38.out).mono ?_
              (case side1 => refine ro_first (d := k41) (d1 := k37) (f := fun x : S41 => (x.f0, x.f1, x.f2)) (l := l0) rfl z41 ?_ (by first | (have h_ := of_eq_true q241; omega) | (have h_ : 0 < (l0.length : Int) := zJ (by assumption); omega) | omega) rfl; repeat (first | exact (Kd.C_below HR0.out HB.out) | (with_reducible refine Kd.C_alloc ?_ _) | (with_reducible refine Kd.C_drewN ?_ _) | (with_reducible refine Kd.C_drew ?_)))
              rintro e w43 ⟨rfl, hb⟩
              refine ⟨_, rfl, ?_⟩
              have n0_ := zN (below_step (by repeat (first | (with_reducible first | exact HB.out | apply zA | apply zB | apply zC) | exact HB.out)) hb)
              clear HB
              have HB := n0_
              clear n0_
              (try clear hb)
              (try clear hb2)
              (try clear hk)
              (try clear hi)
              refine hK.out _ _ ⟨((HB.out.cell (zH w _ hw241_0)).trans hw241_0), ((HB.out.cell (zH w _ hw241_1)).trans hw241_1), ((HB.out.cell (zH w _ hw241_2)).trans hw241_2), ((HB.out.cell (zH w _ hw241_3)).trans hw241_3), ((HB.out.cell (zH w _ hw241_4)).trans hw241_4), ((HB.out.cell (zH w _ hw242_0)).trans hw242_0), ((HB.out.cell (zH w _ hw242_1)).trans hw242_1), ((HB.out.cell (zH w _ hw242_2)).trans hw242_2), ((HB.out.cell (zH w _ hw242_3)).trans hw242_3), ((HB.out.cell (zH w _ hw242_4)).trans hw242_4), ((HB.out.cell (zH w _ hw243_0)).trans hw243_0), ((HB.out.cell (zH w _ hw243_1)).trans hw243_1)⟩ (fun hHeld => ?_)
              clear hK K
              refine norm_ (a' := ?_) ?_ ?_
              rotate_left
              ·show Act.put _ (some 112) _ = _
               simp only [Act.put, List.setIfInBounds_toArray, List.set_cons_zero, List.set_cons_succ, i64_w, i32_w]
               rfl
              refine pure_ (i := 11) (N := some 113) (v := ?_) (a' := ?_) #[true, true, true, true, true, true, true, true, true, true, true, true] rfl rfl (any_of HT_.out (by kernel_rfl)) (fun _ _ _ h => h) (Or.inl ⟨by rfl, ?_⟩) ?_ ?_
              rotate_left
              ·intro w'
               go_simp
               with_reducible rfl
              rotate_left
              ·simp only [Act.put, List.setIfInBounds_toArray, List.set_cons_zero, List.set_cons_succ, i64_w, i32_w]
               rfl
              refine done_ (done_of HT_.out (by kernel_rfl)) ?_
              try go_wp2
              go_roundg k3
              case measure => have := HJ1.out; have := HK2.out; have := HK3.out; omega
              case rel => exact ⟨(wrap64 (x5_3 + 1)), (by first | rfl | (simp; done) | (simp [*]; done) | (exact congrArg (Value.int .i64) (wrap_eq (by omega)))), H', ⟨by have := HJ1.out; have := HK2.out; have := HK3.out; omega⟩, ⟨by repeat (first | (with_reducible first | exact HB.out | apply zA | apply zB | apply zC) | exact HB.out)⟩⟩
            ·rw [if_neg c37] at H
             exact absurd H (by simp)
           ·rw [if_neg c36] at H
            have c36b0 : decide (x5_3 < (((rd_T41 l0 0).f2).length : Int)) = false := decide_eq_false c36
            clear c36
            obtain rfl := Option.some.inj H
            have p240 : 0 ≤ (0 : Int) := (by omega)
            have q240 : 0 < (l0.length : Int) := zJ (by first | (with_reducible assumption) | assumption)
            obtain ⟨ad240, A240_2, c240_2, A240_3, c240_3, A240_4, c240_4, e240, hx240_0, hx240_1, hx240_2, hx240_3, hx240_4, hl240_2, hi240_2, hl240_3, hi240_3, hl240_4, hi240_4⟩ := at_T41 HR0.out 0 p240 q240
            obtain rfl : adp0 = ad240 := (by injection e240)
            have qi240 : (0 < l0.length) = True := eq_true (by omega)
            (try rw [zI] at hx240_0)
            (try rw [Nat.zero_mul] at hx240_0)
            (try rw [Addr.add_zero'] at hx240_0)
            (try rw [zI] at hx240_1)
            (try rw [Nat.zero_mul] at hx240_1)
            (try rw [Addr.add_zero'] at hx240_1)
            (try rw [zI] at hx240_2)
            (try rw [Nat.zero_mul] at hx240_2)
            (try rw [Addr.add_zero'] at hx240_2)
            (try rw [zI] at hx240_3)
            (try rw [Nat.zero_mul] at hx240_3)
            (try rw [Addr.add_zero'] at hx240_3)
            (try rw [zI] at hx240_4)
            (try rw [Nat.zero_mul] at hx240_4)
            (try rw [Addr.add_zero'] at hx240_4)
            replace hx240_0 := (HB.out.cell (zH w _ hx240_0)).trans hx240_0
            replace hx240_1 := (HB.out.cell (zH w _ hx240_1)).trans hx240_1
            replace hx240_2 := (HB.out.cell (zH w _ hx240_2)).trans hx240_2
            replace hx240_3 := (HB.out.cell (zH w _ hx240_3)).trans hx240_3
            replace hx240_4 := (HB.out.cell (zH w _ hx240_4)).trans hx240_4
            have HR240_2 := zN hi240_2
            have HC240_2 := zN hl240_2
            clear hi240_2 hl240_2
            have HR240_3 := zN hi240_3
            have HC240_3 := zN hl240_3
            clear hi240_3 hl240_3
            have HR240_4 := zN hi240_4
            have HC240_4 := zN hl240_4
            clear hi240_4 hl240_4
            replace p240 := eq_true p240
            replace q240 := eq_true q240
            go_wp2
            go_ret
            exact ⟨by first | rfl | (simp [errW_none, errW_some] <;> rfl) | (simp [*, errW_none, errW_some] <;> rfl), by repeat (first | (with_reducible first | exact HB.out | apply zA | apply zB | apply zC) | exact HB.out)⟩
          ·rw [if_neg c35] at H
           exact absurd H (by simp)
      ·rw [if_neg c15] at H
       exact absurd H (by simp)

end Go.Proofs.Ytffnfpnajkgnaaa.PFnExactValidMachine
