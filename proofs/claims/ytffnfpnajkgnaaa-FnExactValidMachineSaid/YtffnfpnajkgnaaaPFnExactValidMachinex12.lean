-- short
-- WRITTEN by xprint.py, a program of this session's. Not trusted: Lean checks it.
import Derived.Test.YtffnfpnajkgnaaaPFnExactValidMachinex0
import Derived.Test.YtffnfpnajkgnaaaPFnExactValidMachinex10
import Derived.Test.YtffnfpnajkgnaaaPFnExactValidMachinex11
namespace Go.Proofs.Ytffnfpnajkgnaaa.PFnExactValidMachine
open Go.RowKit Go.Proofs.YtffnfpnajkgnaaaW.PrintWords Go.Proofs.YtffnfpnajkgnaaaW.PrintLast Go.Proofs.YtffnfpnajkgnaaaW.PrintMore Go.Proofs.YtffnfpnajkgnaaaX
attribute [local go_sem] max2_int min2_int max_two min_two max_three min_three max_four min_four   -- for this text's walks alone
set_option linter.unusedVariables false
set_option linter.unusedSimpArgs false

/-! ### impl_ValidMachine: function 79 -/
mutual
def impl_ValidMachine.j0 : Nat → Bool → Int → Int → List (S91) → List (S116) → List (S74) → Option (Bool)
 | 0, _, _, _, _, _, _ => none
 | k + 1, x29, x277000, x277001, x277002, x277003, x277004 => if x29 = true then (some false) else (impl_ValidMachine.l0 k x277003 (x277003.length : Int) 0 x277000 x277001 x277002 x277003 x277004)
def impl_ValidMachine.l0 : Nat → List (S116) → Int → Int → Int → Int → List (S91) → List (S116) → List (S74) → Option (Bool)
 | 0, _, _, _, _, _, _, _, _ => none
 | k + 1, x31, x32, x33, x277000, x277001, x277002, x277003, x277004 => if x33 < x32 then (if 0 ≤ x33 then (if x33 < (x31.length : Int) then ((impl_isSide.f (wrap64 ((rd_T116 x31 x33).f1))).bind fun t283 => (if t283 = true then ((impl_Board_at.f k [(⟨x277000, x277001, x277002⟩ : S37)] ((rd_T116 x31 x33).f0.f0) ((rd_T116 x31 x33).f0.f1)).bind fun t284 => (if t284 < 0 then (some false) else (if x33 ≤ (x277003.length : Int) then ((impl_Port_147.f k (x277003.take (x33 : Int).toNat) ((rd_T116 x31 x33).f0.f0) ((rd_T116 x31 x33).f0.f1) ((rd_T116 x31 x33).f1)).bind fun t289 => (if t289 = true then (some false) else (impl_ValidMachine.l0 k x31 x32 (wrap64 (x33 + 1)) x277000 x277001 x277002 x277003 x277004))) else (none)))) else (some false))) else (none)) else (none)) else ((slices_ContainsFunc__impl_ValidMachine_1.f k x277004 [(⟨(⟨x277000, x277001, x277002⟩ : S37), x277003, x277004⟩ : S41)]).bind fun t280 => (some (!t280)))
end
def impl_ValidMachine.f (k : Nat) (a0_0 : Int) (a0_1 : Int) (l0_2 : List (S91)) (l0_3 : List (S116)) (l0_4 : List (S74)) : Option (Bool) := (impl_ValidBoard.f k a0_0 a0_1 l0_2).bind fun t277 => (if t277 = true then (if (l0_2.length : Int) > 60 then (impl_ValidMachine.j0 k true a0_0 a0_1 l0_2 l0_3 l0_4) else ((impl_in.f (l0_3.length : Int) 1 6).bind fun t278 => (if t278 = true then ((impl_in.f (l0_4.length : Int) 1 8).bind fun t279 => (impl_ValidMachine.j0 k (!t279) a0_0 a0_1 l0_2 l0_3 l0_4)) else (impl_ValidMachine.j0 k true a0_0 a0_1 l0_2 l0_3 l0_4)))) else (impl_ValidMachine.j0 k true a0_0 a0_1 l0_2 l0_3 l0_4))
theorem impl_ValidMachine.mono_l : ∀ k, (∀ y0 y1 y2 y3 y4 y5, LeO (impl_ValidMachine.j0 k y0 y1 y2 y3 y4 y5) (impl_ValidMachine.j0 (k + 1) y0 y1 y2 y3 y4 y5)) ∧ (∀ y0 y1 y2 y3 y4 y5 y6 y7, LeO (impl_ValidMachine.l0 k y0 y1 y2 y3 y4 y5 y6 y7) (impl_ValidMachine.l0 (k + 1) y0 y1 y2 y3 y4 y5 y6 y7))
 | 0 => ⟨fun _ _ _ _ _ _ r h => by simp [impl_ValidMachine.j0] at h, fun _ _ _ _ _ _ _ _ r h => by simp [impl_ValidMachine.l0] at h⟩
 | k + 1 => by
  obtain ⟨ih0, ih1⟩ := impl_ValidMachine.mono_l k
  refine ⟨?_, ?_⟩
  ·intro y0 y1 y2 y3 y4 y5
   unfold impl_ValidMachine.j0
   repeat' first
   | (with_reducible exact ih0 _ _ _ _ _ _)
   | (with_reducible exact ih1 _ _ _ _ _ _ _ _)
   | (with_reducible exact impl_Board_at.mono _ _ _ _)
   | (with_reducible exact impl_Port_147.mono _ _ _ _ _)
   | (with_reducible exact impl_ValidBoard.mono _ _ _ _)
   | (with_reducible exact slices_ContainsFunc__impl_ValidMachine_1.mono _ _ _)
   | (with_reducible exact LeO.refl _)
   | (with_reducible exact LeO.none _)
   | (with_reducible refine LeO.ite ?_ ?_)
   | (with_reducible refine LeO.bind ?_ (fun _ => ?_))
   | exact ih0 _ _ _ _ _ _
   | exact ih1 _ _ _ _ _ _ _ _
   | exact impl_Board_at.mono _ _ _ _
   | exact impl_Port_147.mono _ _ _ _ _
   | exact impl_ValidBoard.mono _ _ _ _
   | exact slices_ContainsFunc__impl_ValidMachine_1.mono _ _ _
   | exact LeO.none _
   | refine LeO.ite ?_ ?_
   | refine LeO.bind ?_ (fun _ => ?_)
  ·intro y0 y1 y2 y3 y4 y5 y6 y7
   unfold impl_ValidMachine.l0
   repeat' first
   | (with_reducible exact ih0 _ _ _ _ _ _)
   | (with_reducible exact ih1 _ _ _ _ _ _ _ _)
   | (with_reducible exact impl_Board_at.mono _ _ _ _)
   | (with_reducible exact impl_Port_147.mono _ _ _ _ _)
   | (with_reducible exact impl_ValidBoard.mono _ _ _ _)
   | (with_reducible exact slices_ContainsFunc__impl_ValidMachine_1.mono _ _ _)
   | (with_reducible exact LeO.refl _)
   | (with_reducible exact LeO.none _)
   | (with_reducible refine LeO.ite ?_ ?_)
   | (with_reducible refine LeO.bind ?_ (fun _ => ?_))
   | exact ih0 _ _ _ _ _ _
   | exact ih1 _ _ _ _ _ _ _ _
   | exact impl_Board_at.mono _ _ _ _
   | exact impl_Port_147.mono _ _ _ _ _
   | exact impl_ValidBoard.mono _ _ _ _
   | exact slices_ContainsFunc__impl_ValidMachine_1.mono _ _ _
   | exact LeO.none _
   | refine LeO.ite ?_ ?_
   | refine LeO.bind ?_ (fun _ => ?_)
theorem impl_ValidMachine.mono : ∀ a0 a1 a2 a3 a4 k, LeO (impl_ValidMachine.f k a0 a1 a2 a3 a4) (impl_ValidMachine.f (k + 1) a0 a1 a2 a3 a4) := by
 intro a0 a1 a2 a3 a4 k
 obtain ⟨ih0, ih1⟩ := impl_ValidMachine.mono_l k
 unfold impl_ValidMachine.f
 repeat' first
   | (with_reducible exact ih0 _ _ _ _ _ _)
   | (with_reducible exact ih1 _ _ _ _ _ _ _ _)
   | (with_reducible exact impl_Board_at.mono _ _ _ _)
   | (with_reducible exact impl_Port_147.mono _ _ _ _ _)
   | (with_reducible exact impl_ValidBoard.mono _ _ _ _)
   | (with_reducible exact slices_ContainsFunc__impl_ValidMachine_1.mono _ _ _)
   | (with_reducible exact LeO.refl _)
   | (with_reducible exact LeO.none _)
   | (with_reducible refine LeO.ite ?_ ?_)
   | (with_reducible refine LeO.bind ?_ (fun _ => ?_))
   | exact ih0 _ _ _ _ _ _
   | exact ih1 _ _ _ _ _ _ _ _
   | exact impl_Board_at.mono _ _ _ _
   | exact impl_Port_147.mono _ _ _ _ _
   | exact impl_ValidBoard.mono _ _ _ _
   | exact slices_ContainsFunc__impl_ValidMachine_1.mono _ _ _
   | exact LeO.none _
   | refine LeO.ite ?_ ?_
   | refine LeO.bind ?_ (fun _ => ?_)
def impl_ValidMachine.T6 : Bool × List (List Nat × List Nat) := (true, [([], []), ([0], [0]), ([1], [1]), ([2], [2]), ([3], [3]), ([4, 3], [4]), ([5], [5]), ([5], [5]), ([7, 5], [5, 7]), ([6, 8, 5, 5], [5, 6, 8]), ([9, 5], [5, 9]), ([5, 10], [5, 10]), ([11, 9], [11]), ([12], [12]), ([13, 12], [12, 13]), ([12], [12]), ([14, 15, 12], [12, 14, 15]), ([12], [12]), ([16, 17, 12, 12], [12, 16, 17]), ([12, 18], [12, 18])])
def impl_ValidMachine.B6 : List Nat := [0, 1, 3, 7, 15, 31, 63, 63, 191, 511, 1023, 2047, 4095, 8191, 16383, 8191, 65535, 8191, 262143, 524287]
theorem impl_ValidMachine.tab6 : rtab .any (opsOf Try.f79 6) = impl_ValidMachine.T6 := by kernel_rfl
theorem impl_ValidMachine.bits6 : waitsOk impl_ValidMachine.T6.2 impl_ValidMachine.B6 = true := by kernel_rfl
set_option maxHeartbeats 8000000 in
set_option maxRecDepth 100000 in
theorem impl_ValidMachine.calls (k : Nat) (a0_0 : Int) (a0_1 : Int) (A0_2 : Option Addr) (c0_2 : Nat) (l0_2 : List (S91)) (A0_3 : Option Addr) (c0_3 : Nat) (l0_3 : List (S116)) (A0_4 : Option Addr) (c0_4 : Nat) (l0_4 : List (S74)) (r : Bool) (w : World) (hr0_2 : Kd.C k91 w A0_2 l0_2.length l0_2) (hc0_2 : l0_2.length ≤ c0_2) (hr0_3 : Kd.C k116 w A0_3 l0_3.length l0_3) (hc0_3 : l0_3.length ≤ c0_3) (hr0_4 : Kd.C k74 w A0_4 l0_4.length l0_4) (hc0_4 : l0_4.length ≤ c0_4) (h : impl_ValidMachine.f k a0_0 a0_1 l0_2 l0_3 l0_4 = some r) :
  Calls Try.prog 79 #[.agg #[.int .i8 a0_0, .int .i8 a0_1, .slice A0_2 l0_2.length c0_2, .slice A0_3 l0_3.length c0_3, .slice A0_4 l0_4.length c0_4]] w fun e w' => e = .returned (.bool r) ∧ Below w.heap.size w w' := by
 have hu41 := Try.underlying41
 have hu37 := Try.underlying37
 have hu116 := Try.underlying116
 have hu74 := Try.underlying74
 have HR0_2 := zN hr0_2
 have HC0_2 := zN hc0_2
 clear hr0_2 hc0_2
 have HR0_3 := zN hr0_3
 have HC0_3 := zN hc0_3
 clear hr0_3 hc0_3
 have HR0_4 := zN hr0_4
 have HC0_4 := zN hc0_4
 clear hr0_4 hc0_4
 have HB := zN (Below.refl w.heap.size w)
 have H : ((impl_ValidBoard.f k a0_0 a0_1 l0_2).bind fun t277 => (if t277 = true then (if (l0_2.length : Int) > 60 then (impl_ValidMachine.j0 k true a0_0 a0_1 l0_2 l0_3 l0_4) else ((impl_in.f (l0_3.length : Int) 1 6).bind fun t278 => (if t278 = true then ((impl_in.f (l0_4.length : Int) 1 8).bind fun t279 => (impl_ValidMachine.j0 k (!t279) a0_0 a0_1 l0_2 l0_3 l0_4)) else (impl_ValidMachine.j0 k true a0_0 a0_1 l0_2 l0_3 l0_4)))) else (impl_ValidMachine.j0 k true a0_0 a0_1 l0_2 l0_3 l0_4))) = some r := h
 clear h
 have HC2 := zN H
 clear H
 go_enter Try.func79, Try.ntmps79
 go_upto_region 1 with (first | ((with_reducible refine gate_dst (N := 1) rfl ?_); (try (refine gate_guard (by rfl) ?_; dsimp only)); refine box_event ?hg (N := 1) ?hd (cs := #[.int .i8 a0_0, .int .i8 a0_1, .slice A0_2 l0_2.length c0_2, .slice A0_3 l0_3.length c0_3, .slice A0_4 l0_4.length c0_4]) (t := 41) ?hr ?_; (case hd => rfl); (case hg => rfl); (case hr => first | (go_simp; done) | (go_simp; rfl)); intro gb276 hg w3 hbox hb; have n0_ := zN (below_step (by repeat (first | (with_reducible first | exact HB.out | apply zA | apply zB | apply zC) | exact HB.out)) hb); have n1_ := zN (hbox); have n2_ := zN ((by rw [hg]; exact (below_size (by repeat (first | (with_reducible first | exact HB.out | apply zA | apply zB | apply zC) | exact HB.out))) : w.heap.size ≤ gb276)); have n3_ := zN ((by rw [hg]; exact (below_size (by repeat (first | (with_reducible first | exact HB.out | apply zA | apply zB | apply zC) | exact HB.out))) : w.heap.size ≤ gb276)); clear HB; have HB := n0_; have BK276 := n1_; have GW276 := n2_; have GE276 := n3_; clear n0_ n1_ n2_ n3_; clear hb hbox hg))
 (try simp only [Act.put, List.setIfInBounds_toArray, List.set_cons_zero, List.set_cons_succ])
 go_cut [29] (fun v29 wc => ∃ (kq : Nat) (x29_1 : Bool), v29 = .bool x29_1 ∧ Aside0 (impl_ValidMachine.j0 kq x29_1 a0_0 a0_1 l0_2 l0_3 l0_4 = some r) ∧ Aside0 (kq ≤ k) ∧ Aside0 (wc.heap[gb276]? = some (.cells #[.int .i8 a0_0, .int .i8 a0_1, (.slice A0_2 l0_2.length c0_2), (.slice A0_3 l0_3.length c0_3), (.slice A0_4 l0_4.length c0_4)] 41 (0, 0))) ∧ Aside0 (Below w.heap.size w wc))
 case first =>
  have H := HC2.out
  clear HC2
  replace H := Option.bind_eq_some_iff.mp H
  obtain ⟨t277, A40, H⟩ := H
  replace H : (if t277 = true then (if (l0_2.length : Int) > 60 then (impl_ValidMachine.j0 k true a0_0 a0_1 l0_2 l0_3 l0_4) else ((impl_in.f (l0_3.length : Int) 1 6).bind fun t278 => (if t278 = true then ((impl_in.f (l0_4.length : Int) 1 8).bind fun t279 => (impl_ValidMachine.j0 k (!t279) a0_0 a0_1 l0_2 l0_3 l0_4)) else (impl_ValidMachine.j0 k true a0_0 a0_1 l0_2 l0_3 l0_4)))) else (impl_ValidMachine.j0 k true a0_0 a0_1 l0_2 l0_3 l0_4)) = some r := H
  have A4 := zN A40
  clear A40
  by_cases c5 : t277 = true
  ·subst c5
   have H1 : (if (l0_2.length : Int) > 60 then (impl_ValidMachine.j0 k true a0_0 a0_1 l0_2 l0_3 l0_4) else ((impl_in.f (l0_3.length : Int) 1 6).bind fun t278 => (if t278 = true then ((impl_in.f (l0_4.length : Int) 1 8).bind fun t279 => (impl_ValidMachine.j0 k (!t279) a0_0 a0_1 l0_2 l0_3 l0_4)) else (impl_ValidMachine.j0 k true a0_0 a0_1 l0_2 l0_3 l0_4)))) = some r := by rw [if_pos rfl] at H; exact H
   clear H
   have H := H1
   clear H1
   by_cases c6 : (l0_2.length : Int) > 60
   ·rw [if_pos c6] at H
    have c6b0 : decide (60 < (l0_2.length : Int)) = true := decide_eq_true c6
    have c6b1 : decide (60 < l0_2.length) = true := decide_eq_true (by omega)
    clear c6
    (first | rw [c6b0] | (simp only [i64_w, i32_w]; rw [c6b0]) | (have h_ := c6b0; simp only [bne] at h_; rw [h_]) | skip)
    have H' := zN H
    clear H
    have hcz7_0 : w3.cell? ⟨gb276, 0, none⟩ = some (.int .i8 a0_0) := (blk_cell BK276.out 0).trans rfl
    have hcz7_1 : w3.cell? ⟨gb276, 1, none⟩ = some (.int .i8 a0_1) := (blk_cell BK276.out 1).trans rfl
    have hcz7_2 : w3.cell? ⟨gb276, 2, none⟩ = some (.slice A0_2 l0_2.length c0_2) := (blk_cell BK276.out 2).trans rfl
    have hcz7_3 : w3.cell? ⟨gb276, 3, none⟩ = some (.slice A0_3 l0_3.length c0_3) := (blk_cell BK276.out 3).trans rfl
    have hcz7_4 : w3.cell? ⟨gb276, 4, none⟩ = some (.slice A0_4 l0_4.length c0_4) := (blk_cell BK276.out 4).trans rfl
    have hfz7_0 := blk_frozen BK276.out 0
    have hfz7_1 := blk_frozen BK276.out 1
    have hfz7_2 := blk_frozen BK276.out 2
    have hfz7_3 := blk_frozen BK276.out 3
    have hfz7_4 := blk_frozen BK276.out 4
    go_wp2_with (first | ((with_reducible refine gate_callee (f := 43) rfl ?_); refine goesL_ (some 7) rfl rfl Try.func43 (by kernel_rfl) rfl #[.agg #[.int .i8 a0_0, .int .i8 a0_1, .slice A0_2 l0_2.length c0_2]] rfl (by (try simp only [List.map_toArray, List.map_cons, List.map_nil]); first | done | rfl | (simp only [List.length_drop, List.length_take]; rfl)) ?_; (with_reducible refine (impl_ValidBoard.calls k a0_0 a0_1 _ _ l0_2 true _ ?side1 ?side2 A4.out).mono ?_); (case side1 => repeat (first | exact (Kd.C_below HR0_2.out HB.out) | (with_reducible refine Kd.C_alloc ?_ _) | (with_reducible refine Kd.C_drewN ?_ _) | (with_reducible refine Kd.C_drew ?_))); (case side2 => exact HC0_2.out); rintro e w8 ⟨rfl, hb⟩; refine ⟨_, rfl, ?_⟩; have n0_ := zN (blk_below (g := gb276) (o := .cells #[.int .i8 a0_0, .int .i8 a0_1, .slice A0_2 l0_2.length c0_2, .slice A0_3 l0_3.length c0_3, .slice A0_4 l0_4.length c0_4] 41 (0, 0)) (by (with_reducible repeat (first | refine zE ?_ _ | refine zF ?_ | refine zG ?_ _)); exact BK276.out) hb); have n1_ := zN (below_step (by repeat (first | (with_reducible first | exact HB.out | apply zA | apply zB | apply zC | refine zD ?_ GE276.out) | exact HB.out)) hb); clear BK276; clear HB; have BK276 := n0_; have HB := n1_; clear n0_ n1_; (try clear hb); (try clear hb2); (try clear hk); (try clear hi); have hcz9_0 : w8.cell? ⟨gb276, 0, none⟩ = some (.int .i8 a0_0) := (blk_cell BK276.out 0).trans rfl; have hcz9_1 : w8.cell? ⟨gb276, 1, none⟩ = some (.int .i8 a0_1) := (blk_cell BK276.out 1).trans rfl; have hcz9_2 : w8.cell? ⟨gb276, 2, none⟩ = some (.slice A0_2 l0_2.length c0_2) := (blk_cell BK276.out 2).trans rfl; have hcz9_3 : w8.cell? ⟨gb276, 3, none⟩ = some (.slice A0_3 l0_3.length c0_3) := (blk_cell BK276.out 3).trans rfl; have hcz9_4 : w8.cell? ⟨gb276, 4, none⟩ = some (.slice A0_4 l0_4.length c0_4) := (blk_cell BK276.out 4).trans rfl; have hfz9_0 := blk_frozen BK276.out 0; have hfz9_1 := blk_frozen BK276.out 1; have hfz9_2 := blk_frozen BK276.out 2; have hfz9_3 := blk_frozen BK276.out 3; have hfz9_4 := blk_frozen BK276.out 4))
    go_meet
    case rel => exact ⟨_, (true), (by first | rfl | (simp; done) | (simp [*]; done) | (exact congrArg (Value.int .i64) (wrap_eq (by omega)))), H', ⟨by first | omega | exact Nat.le_refl _⟩, ⟨by (with_reducible repeat (first | refine zE ?_ _ | refine zF ?_ | refine zG ?_ _)); exact BK276.out⟩, ⟨by repeat (first | (with_reducible first | exact HB.out | apply zA | apply zB | apply zC | refine zD ?_ GE276.out) | exact HB.out)⟩⟩
   ·rw [if_neg c6] at H
    have c6b0 : decide (60 < (l0_2.length : Int)) = false := decide_eq_false c6
    have c6b1 : decide (60 < l0_2.length) = false := decide_eq_false (by omega)
    clear c6
    (first | rw [c6b0] | (simp only [i64_w, i32_w]; rw [c6b0]) | (have h_ := c6b0; simp only [bne] at h_; rw [h_]) | skip)
    replace H := Option.bind_eq_some_iff.mp H
    obtain ⟨t278, A100, H⟩ := H
    replace H : (if t278 = true then ((impl_in.f (l0_4.length : Int) 1 8).bind fun t279 => (impl_ValidMachine.j0 k (!t279) a0_0 a0_1 l0_2 l0_3 l0_4)) else (impl_ValidMachine.j0 k true a0_0 a0_1 l0_2 l0_3 l0_4)) = some r := H
    have A10 := zN A100
    clear A100
    by_cases c11 : t278 = true
    ·subst c11
     have H1 : ((impl_in.f (l0_4.length : Int) 1 8).bind fun t279 => (impl_ValidMachine.j0 k (!t279) a0_0 a0_1 l0_2 l0_3 l0_4)) = some r := by rw [if_pos rfl] at H; exact H
     clear H
     have H := H1
     clear H1
     replace H := Option.bind_eq_some_iff.mp H
     obtain ⟨t279, A120, H⟩ := H
     replace H : (impl_ValidMachine.j0 k (!t279) a0_0 a0_1 l0_2 l0_3 l0_4) = some r := H
     have A12 := zN A120
     clear A120
     have H' := zN H
     clear H
     have hcz13_0 : w3.cell? ⟨gb276, 0, none⟩ = some (.int .i8 a0_0) := (blk_cell BK276.out 0).trans rfl
     have hcz13_1 : w3.cell? ⟨gb276, 1, none⟩ = some (.int .i8 a0_1) := (blk_cell BK276.out 1).trans rfl
     have hcz13_2 : w3.cell? ⟨gb276, 2, none⟩ = some (.slice A0_2 l0_2.length c0_2) := (blk_cell BK276.out 2).trans rfl
     have hcz13_3 : w3.cell? ⟨gb276, 3, none⟩ = some (.slice A0_3 l0_3.length c0_3) := (blk_cell BK276.out 3).trans rfl
     have hcz13_4 : w3.cell? ⟨gb276, 4, none⟩ = some (.slice A0_4 l0_4.length c0_4) := (blk_cell BK276.out 4).trans rfl
     have hfz13_0 := blk_frozen BK276.out 0
     have hfz13_1 := blk_frozen BK276.out 1
     have hfz13_2 := blk_frozen BK276.out 2
     have hfz13_3 := blk_frozen BK276.out 3
     have hfz13_4 := blk_frozen BK276.out 4
     go_wp2_with (first | ((with_reducible refine gate_callee (f := 43) rfl ?_); refine goesL_ (some 7) rfl rfl Try.func43 (by kernel_rfl) rfl #[.agg #[.int .i8 a0_0, .int .i8 a0_1, .slice A0_2 l0_2.length c0_2]] rfl (by (try simp only [List.map_toArray, List.map_cons, List.map_nil]); first | done | rfl | (simp only [List.length_drop, List.length_take]; rfl)) ?_; (with_reducible refine (impl_ValidBoard.calls k a0_0 a0_1 _ _ l0_2 true _ ?side1 ?side2 A4.out).mono ?_); (case side1 => repeat (first | exact (Kd.C_below HR0_2.out HB.out) | (with_reducible refine Kd.C_alloc ?_ _) | (with_reducible refine Kd.C_drewN ?_ _) | (with_reducible refine Kd.C_drew ?_))); (case side2 => exact HC0_2.out); rintro e w14 ⟨rfl, hb⟩; refine ⟨_, rfl, ?_⟩; have n0_ := zN (blk_below (g := gb276) (o := .cells #[.int .i8 a0_0, .int .i8 a0_1, .slice A0_2 l0_2.length c0_2, .slice A0_3 l0_3.length c0_3, .slice A0_4 l0_4.length c0_4] 41 (0, 0)) (by (with_reducible repeat (first | refine zE ?_ _ | refine zF ?_ | refine zG ?_ _)); exact BK276.out) hb); have n1_ := zN (below_step (by repeat (first | (with_reducible first | exact HB.out | apply zA | apply zB | apply zC | refine zD ?_ GE276.out) | exact HB.out)) hb); clear BK276; clear HB; have BK276 := n0_; have HB := n1_; clear n0_ n1_; (try clear hb); (try clear hb2); (try clear hk); (try clear hi); have hcz15_0 : w14.cell? ⟨gb276, 0, none⟩ = some (.int .i8 a0_0) := (blk_cell BK276.out 0).trans rfl; have hcz15_1 : w14.cell? ⟨gb276, 1, none⟩ = some (.int .i8 a0_1) := (blk_cell BK276.out 1).trans rfl; have hcz15_2 : w14.cell? ⟨gb276, 2, none⟩ = some (.slice A0_2 l0_2.length c0_2) := (blk_cell BK276.out 2).trans rfl; have hcz15_3 : w14.cell? ⟨gb276, 3, none⟩ = some (.slice A0_3 l0_3.length c0_3) := (blk_cell BK276.out 3).trans rfl; have hcz15_4 : w14.cell? ⟨gb276, 4, none⟩ = some (.slice A0_4 l0_4.length c0_4) := (blk_cell BK276.out 4).trans rfl; have hfz15_0 := blk_frozen BK276.out 0; have hfz15_1 := blk_frozen BK276.out 1; have hfz15_2 := blk_frozen BK276.out 2; have hfz15_3 := blk_frozen BK276.out 3; have hfz15_4 := blk_frozen BK276.out 4) | (go_at_call 98; (with_reducible refine (impl_in.calls (l0_3.length : Int) 1 6 true _ A10.out).mono ?_); rintro e w' ⟨rfl, ⟨nd, rfl⟩⟩) | (go_at_call 98; (with_reducible refine (impl_in.calls (l0_4.length : Int) 1 8 t279 _ A12.out).mono ?_); rintro e w' ⟨rfl, ⟨nd, rfl⟩⟩))
     go_meet
     case rel => exact ⟨_, (!t279), (by first | rfl | (simp; done) | (simp [*]; done) | (exact congrArg (Value.int .i64) (wrap_eq (by omega)))), H', ⟨by first | omega | exact Nat.le_refl _⟩, ⟨by (with_reducible repeat (first | refine zE ?_ _ | refine zF ?_ | refine zG ?_ _)); exact BK276.out⟩, ⟨by repeat (first | (with_reducible first | exact HB.out | apply zA | apply zB | apply zC | refine zD ?_ GE276.out) | exact HB.out)⟩⟩
    ·replace c11 := Bool.eq_false_iff.mpr c11
     subst c11
     have H1 : (impl_ValidMachine.j0 k true a0_0 a0_1 l0_2 l0_3 l0_4) = some r := by rw [if_neg (show ¬ (false = true) by decide)] at H; exact H
     clear H
     have H := H1
     clear H1
     have H' := zN H
     clear H
     have hcz16_0 : w3.cell? ⟨gb276, 0, none⟩ = some (.int .i8 a0_0) := (blk_cell BK276.out 0).trans rfl
     have hcz16_1 : w3.cell? ⟨gb276, 1, none⟩ = some (.int .i8 a0_1) := (blk_cell BK276.out 1).trans rfl
     have hcz16_2 : w3.cell? ⟨gb276, 2, none⟩ = some (.slice A0_2 l0_2.length c0_2) := (blk_cell BK276.out 2).trans rfl
     have hcz16_3 : w3.cell? ⟨gb276, 3, none⟩ = some (.slice A0_3 l0_3.length c0_3) := (blk_cell BK276.out 3).trans rfl
     have hcz16_4 : w3.cell? ⟨gb276, 4, none⟩ = some (.slice A0_4 l0_4.length c0_4) := (blk_cell BK276.out 4).trans rfl
     have hfz16_0 := blk_frozen BK276.out 0
     have hfz16_1 := blk_frozen BK276.out 1
     have hfz16_2 := blk_frozen BK276.out 2
     have hfz16_3 := blk_frozen BK276.out 3
     have hfz16_4 := blk_frozen BK276.out 4
     go_wp2_with (first | ((with_reducible refine gate_callee (f := 43) rfl ?_); refine goesL_ (some 7) rfl rfl Try.func43 (by kernel_rfl) rfl #[.agg #[.int .i8 a0_0, .int .i8 a0_1, .slice A0_2 l0_2.length c0_2]] rfl (by (try simp only [List.map_toArray, List.map_cons, List.map_nil]); first | done | rfl | (simp only [List.length_drop, List.length_take]; rfl)) ?_; (with_reducible refine (impl_ValidBoard.calls k a0_0 a0_1 _ _ l0_2 true _ ?side1 ?side2 A4.out).mono ?_); (case side1 => repeat (first | exact (Kd.C_below HR0_2.out HB.out) | (with_reducible refine Kd.C_alloc ?_ _) | (with_reducible refine Kd.C_drewN ?_ _) | (with_reducible refine Kd.C_drew ?_))); (case side2 => exact HC0_2.out); rintro e w17 ⟨rfl, hb⟩; refine ⟨_, rfl, ?_⟩; have n0_ := zN (blk_below (g := gb276) (o := .cells #[.int .i8 a0_0, .int .i8 a0_1, .slice A0_2 l0_2.length c0_2, .slice A0_3 l0_3.length c0_3, .slice A0_4 l0_4.length c0_4] 41 (0, 0)) (by (with_reducible repeat (first | refine zE ?_ _ | refine zF ?_ | refine zG ?_ _)); exact BK276.out) hb); have n1_ := zN (below_step (by repeat (first | (with_reducible first | exact HB.out | apply zA | apply zB | apply zC | refine zD ?_ GE276.out) | exact HB.out)) hb); clear BK276; clear HB; have BK276 := n0_; have HB := n1_; clear n0_ n1_; (try clear hb); (try clear hb2); (try clear hk); (try clear hi); have hcz18_0 : w17.cell? ⟨gb276, 0, none⟩ = some (.int .i8 a0_0) := (blk_cell BK276.out 0).trans rfl; have hcz18_1 : w17.cell? ⟨gb276, 1, none⟩ = some (.int .i8 a0_1) := (blk_cell BK276.out 1).trans rfl; have hcz18_2 : w17.cell? ⟨gb276, 2, none⟩ = some (.slice A0_2 l0_2.length c0_2) := (blk_cell BK276.out 2).trans rfl; have hcz18_3 : w17.cell? ⟨gb276, 3, none⟩ = some (.slice A0_3 l0_3.length c0_3) := (blk_cell BK276.out 3).trans rfl; have hcz18_4 : w17.cell? ⟨gb276, 4, none⟩ = some (.slice A0_4 l0_4.length c0_4) := (blk_cell BK276.out 4).trans rfl; have hfz18_0 := blk_frozen BK276.out 0; have hfz18_1 := blk_frozen BK276.out 1; have hfz18_2 := blk_frozen BK276.out 2; have hfz18_3 := blk_frozen BK276.out 3; have hfz18_4 := blk_frozen BK276.out 4) | (go_at_call 98; (with_reducible refine (impl_in.calls (l0_3.length : Int) 1 6 false _ A10.out).mono ?_); rintro e w' ⟨rfl, ⟨nd, rfl⟩⟩))
     go_meet
     case rel => exact ⟨_, (true), (by first | rfl | (simp; done) | (simp [*]; done) | (exact congrArg (Value.int .i64) (wrap_eq (by omega)))), H', ⟨by first | omega | exact Nat.le_refl _⟩, ⟨by (with_reducible repeat (first | refine zE ?_ _ | refine zF ?_ | refine zG ?_ _)); exact BK276.out⟩, ⟨by repeat (first | (with_reducible first | exact HB.out | apply zA | apply zB | apply zC | refine zD ?_ GE276.out) | exact HB.out)⟩⟩
  ·replace c5 := Bool.eq_false_iff.mpr c5
   subst c5
   have H1 : (impl_ValidMachine.j0 k true a0_0 a0_1 l0_2 l0_3 l0_4) = some r := by rw [if_neg (show ¬ (false = true) by decide)] at H; exact H
   clear H
   have H := H1
   clear H1
   have H' := zN H
   clear H
   have hcz19_0 : w3.cell? ⟨gb276, 0, none⟩ = some (.int .i8 a0_0) := (blk_cell BK276.out 0).trans rfl
   have hcz19_1 : w3.cell? ⟨gb276, 1, none⟩ = some (.int .i8 a0_1) := (blk_cell BK276.out 1).trans rfl
   have hcz19_2 : w3.cell? ⟨gb276, 2, none⟩ = some (.slice A0_2 l0_2.length c0_2) := (blk_cell BK276.out 2).trans rfl
   have hcz19_3 : w3.cell? ⟨gb276, 3, none⟩ = some (.slice A0_3 l0_3.length c0_3) := (blk_cell BK276.out 3).trans rfl
   have hcz19_4 : w3.cell? ⟨gb276, 4, none⟩ = some (.slice A0_4 l0_4.length c0_4) := (blk_cell BK276.out 4).trans rfl
   have hfz19_0 := blk_frozen BK276.out 0
   have hfz19_1 := blk_frozen BK276.out 1
   have hfz19_2 := blk_frozen BK276.out 2
   have hfz19_3 := blk_frozen BK276.out 3
   have hfz19_4 := blk_frozen BK276.out 4
   go_wp2_with (first | ((with_reducible refine gate_callee (f := 43) rfl ?_); refine goesL_ (some 7) rfl rfl Try.func43 (by kernel_rfl) rfl #[.agg #[.int .i8 a0_0, .int .i8 a0_1, .slice A0_2 l0_2.length c0_2]] rfl (by (try simp only [List.map_toArray, List.map_cons, List.map_nil]); first | done | rfl | (simp only [List.length_drop, List.length_take]; rfl)) ?_; (with_reducible refine (impl_ValidBoard.calls k a0_0 a0_1 _ _ l0_2 false _ ?side1 ?side2 A4.out).mono ?_); (case side1 => repeat (first | exact (Kd.C_below HR0_2.out HB.out) | (with_reducible refine Kd.C_alloc ?_ _) | (with_reducible refine Kd.C_drewN ?_ _) | (with_reducible refine Kd.C_drew ?_))); (case side2 => exact HC0_2.out); rintro e w20 ⟨rfl, hb⟩; refine ⟨_, rfl, ?_⟩; have n0_ := zN (blk_below (g := gb276) (o := .cells #[.int .i8 a0_0, .int .i8 a0_1, .slice A0_2 l0_2.length c0_2, .slice A0_3 l0_3.length c0_3, .slice A0_4 l0_4.length c0_4] 41 (0, 0)) (by (with_reducible repeat (first | refine zE ?_ _ | refine zF ?_ | refine zG ?_ _)); exact BK276.out) hb); have n1_ := zN (below_step (by repeat (first | (with_reducible first | exact HB.out | apply zA | apply zB | apply zC | refine zD ?_ GE276.out) | exact HB.out)) hb); clear BK276; clear HB; have BK276 := n0_; have HB := n1_; clear n0_ n1_; (try clear hb); (try clear hb2); (try clear hk); (try clear hi)))
   go_meet
   case rel => exact ⟨_, (true), (by first | rfl | (simp; done) | (simp [*]; done) | (exact congrArg (Value.int .i64) (wrap_eq (by omega)))), H', ⟨by first | omega | exact Nat.le_refl _⟩, ⟨by (with_reducible repeat (first | refine zE ?_ _ | refine zF ?_ | refine zG ?_ _)); exact BK276.out⟩, ⟨by repeat (first | (with_reducible first | exact HB.out | apply zA | apply zB | apply zC | refine zD ?_ GE276.out) | exact HB.out)⟩⟩
 case rest =>
  clear HC2
  try clear c1
  try clear p2
  try clear c4
  try clear c5
  try clear c6
  try clear c6b0
  try clear c6b1
  try clear c7
  try clear c11
  try clear hcz13_0
  try clear hcz13_1
  try clear hcz13_2
  try clear hcz13_3
  try clear hcz13_4
  try clear hcz15_0
  try clear hcz15_1
  try clear hcz15_2
  try clear hcz15_3
  try clear hcz15_4
  try clear hcz16_0
  try clear hcz16_1
  try clear hcz16_2
  try clear hcz16_3
  try clear hcz16_4
  try clear hcz18_0
  try clear hcz18_1
  try clear hcz18_2
  try clear hcz18_3
  try clear hcz18_4
  try clear hcz19_0
  try clear hcz19_1
  try clear hcz19_2
  try clear hcz19_3
  try clear hcz19_4
  try clear hcz7_0
  try clear hcz7_1
  try clear hcz7_2
  try clear hcz7_3
  try clear hcz7_4
  try clear hcz9_0
  try clear hcz9_1
  try clear hcz9_2
  try clear hcz9_3
  try clear hcz9_4
  try clear hfz13_0
  try clear hfz13_1
  try clear hfz13_2
  try clear hfz13_3
  try clear hfz13_4
  try clear hfz15_0
  try clear hfz15_1
  try clear hfz15_2
  try clear hfz15_3
  try clear hfz15_4
  try clear hfz16_0
  try clear hfz16_1
  try clear hfz16_2
  try clear hfz16_3
  try clear hfz16_4
  try clear hfz18_0
  try clear hfz18_1
  try clear hfz18_2
  try clear hfz18_3
  try clear hfz18_4
  try clear hfz19_0
  try clear hfz19_1
  try clear hfz19_2
  try clear hfz19_3
  try clear hfz19_4
  try clear hfz7_0
  try clear hfz7_1
  try clear hfz7_2
  try clear hfz7_3
  try clear hfz7_4
  try clear hfz9_0
  try clear hfz9_1
  try clear hfz9_2
  try clear hfz9_3
  try clear hfz9_4
  obtain ⟨kq, x29_1, rfl, HA, HJ1, BK276, HB⟩ := hcut
  cases kq with
  | zero => exact absurd HA.out (by simp [impl_ValidMachine.j0])
  | succ kj1 =>
   have H := HA.out
   clear HA
   simp only [impl_ValidMachine.j0] at H
   by_cases c21 : x29_1 = true
   ·subst c21
    have H1 : (some false) = some r := by rw [if_pos rfl] at H; exact H
    clear H
    have H := H1
    clear H1
    obtain rfl := Option.some.inj H
    go_wp2
    go_ret
    exact ⟨by first | rfl | (simp [errW_none, errW_some] <;> rfl) | (simp [*, errW_none, errW_some] <;> rfl), by repeat (first | (with_reducible first | exact HB.out | apply zA | apply zB | apply zC | refine zD ?_ GE276.out) | exact HB.out)⟩
   ·replace c21 := Bool.eq_false_iff.mpr c21
    subst c21
    have H1 : (impl_ValidMachine.l0 kj1 l0_3 (l0_3.length : Int) 0 a0_0 a0_1 l0_2 l0_3 l0_4) = some r := by rw [if_neg (show ¬ (false = true) by decide)] at H; exact H
    clear H
    have H := H1
    clear H1
    have H' := zN H
    clear H
    have hcz22_0 : wc.cell? ⟨gb276, 0, none⟩ = some (.int .i8 a0_0) := (blk_cell BK276.out 0).trans rfl
    have hcz22_1 : wc.cell? ⟨gb276, 1, none⟩ = some (.int .i8 a0_1) := (blk_cell BK276.out 1).trans rfl
    have hcz22_2 : wc.cell? ⟨gb276, 2, none⟩ = some (.slice A0_2 l0_2.length c0_2) := (blk_cell BK276.out 2).trans rfl
    have hcz22_3 : wc.cell? ⟨gb276, 3, none⟩ = some (.slice A0_3 l0_3.length c0_3) := (blk_cell BK276.out 3).trans rfl
    have hcz22_4 : wc.cell? ⟨gb276, 4, none⟩ = some (.slice A0_4 l0_4.length c0_4) := (blk_cell BK276.out 4).trans rfl
    have hfz22_0 := blk_frozen BK276.out 0
    have hfz22_1 := blk_frozen BK276.out 1
    have hfz22_2 := blk_frozen BK276.out 2
    have hfz22_3 := blk_frozen BK276.out 3
    have hfz22_4 := blk_frozen BK276.out 4
    go_wp2
    go_loopg [33] kj1 (fun kq v33 w' => ∃ (x33_2 : Int), v33 = .int .i64 x33_2 ∧ Aside0 (impl_ValidMachine.l0 kq l0_3 (l0_3.length : Int) x33_2 a0_0 a0_1 l0_2 l0_3 l0_4 = some r) ∧ Aside0 (kq ≤ kj1) ∧ Aside0 (w'.heap[gb276]? = some (.cells #[.int .i8 a0_0, .int .i8 a0_1, (.slice A0_2 l0_2.length c0_2), (.slice A0_3 l0_3.length c0_3), (.slice A0_4 l0_4.length c0_4)] 41 (0, 0))) ∧ Aside0 (Below w.heap.size w w'))
    case atStart => exact ⟨(0), (by first | rfl | (simp; done) | (simp [*]; done) | (exact congrArg (Value.int .i64) (wrap_eq (by omega)))), H', ⟨Nat.le_refl _⟩, ⟨by (with_reducible repeat (first | refine zE ?_ _ | refine zF ?_ | refine zG ?_ _)); exact BK276.out⟩, ⟨by repeat (first | (with_reducible first | exact HB.out | apply zA | apply zB | apply zC | refine zD ?_ GE276.out) | exact HB.out)⟩⟩
    case round =>
     clear H'
     try clear c1
     try clear c2
     try clear p2
     try clear c4
     try clear c5
     try clear c6
     try clear c6b0
     try clear c6b1
     try clear c7
     try clear c11
     try clear c21
     try clear hcz13_0
     try clear hcz13_1
     try clear hcz13_2
     try clear hcz13_3
     try clear hcz13_4
     try clear hcz15_0
     try clear hcz15_1
     try clear hcz15_2
     try clear hcz15_3
     try clear hcz15_4
     try clear hcz16_0
     try clear hcz16_1
     try clear hcz16_2
     try clear hcz16_3
     try clear hcz16_4
     try clear hcz18_0
     try clear hcz18_1
     try clear hcz18_2
     try clear hcz18_3
     try clear hcz18_4
     try clear hcz19_0
     try clear hcz19_1
     try clear hcz19_2
     try clear hcz19_3
     try clear hcz19_4
     try clear hcz22_0
     try clear hcz22_1
     try clear hcz22_2
     try clear hcz22_3
     try clear hcz22_4
     try clear hcz7_0
     try clear hcz7_1
     try clear hcz7_2
     try clear hcz7_3
     try clear hcz7_4
     try clear hcz9_0
     try clear hcz9_1
     try clear hcz9_2
     try clear hcz9_3
     try clear hcz9_4
     try clear hfz13_0
     try clear hfz13_1
     try clear hfz13_2
     try clear hfz13_3
     try clear hfz13_4
     try clear hfz15_0
     try clear hfz15_1
     try clear hfz15_2
     try clear hfz15_3
     try clear hfz15_4
     try clear hfz16_0
     try clear hfz16_1
     try clear hfz16_2
     try clear hfz16_3
     try clear hfz16_4
     try clear hfz18_0
     try clear hfz18_1
     try clear hfz18_2
     try clear hfz18_3
     try clear hfz18_4
     try clear hfz19_0
     try clear hfz19_1
     try clear hfz19_2
     try clear hfz19_3
     try clear hfz19_4
     try clear hfz22_0
     try clear hfz22_1
     try clear hfz22_2
     try clear hfz22_3
     try clear hfz22_4
     try clear hfz7_0
     try clear hfz7_1
     try clear hfz7_2
     try clear hfz7_3
     try clear hfz7_4
     try clear hfz9_0
     try clear hfz9_1
     try clear hfz9_2
     try clear hfz9_3
     try clear hfz9_4
     try clear p2
     obtain ⟨x33_2, rfl, HA, HK2, BK276, HB⟩ := hrel
     cases gk with
     | zero => exact absurd HA.out (by simp [impl_ValidMachine.l0])
     | succ k2 =>
      have H := HA.out
      clear HA
      simp only [impl_ValidMachine.l0] at H
      by_cases c23 : x33_2 < (l0_3.length : Int)
      ·rw [if_pos c23] at H
       have c23b0 : decide (x33_2 < (l0_3.length : Int)) = true := decide_eq_true c23
       clear c23
       by_cases c24 : 0 ≤ x33_2
       ·rw [if_pos c24] at H
        have c24b0 : decide (0 ≤ x33_2) = true := decide_eq_true c24
        clear c24
        by_cases c25 : x33_2 < (l0_3.length : Int)
        ·rw [if_pos c25] at H
         have c25b0 : decide (x33_2 < (l0_3.length : Int)) = true := decide_eq_true c25
         clear c25
         replace H := Option.bind_eq_some_iff.mp H
         obtain ⟨t283, A260, H⟩ := H
         replace H : (if t283 = true then ((impl_Board_at.f k2 [(⟨a0_0, a0_1, l0_2⟩ : S37)] ((rd_T116 l0_3 x33_2).f0.f0) ((rd_T116 l0_3 x33_2).f0.f1)).bind fun t284 => (if t284 < 0 then (some false) else (if x33_2 ≤ (l0_3.length : Int) then ((impl_Port_147.f k2 (l0_3.take (x33_2 : Int).toNat) ((rd_T116 l0_3 x33_2).f0.f0) ((rd_T116 l0_3 x33_2).f0.f1) ((rd_T116 l0_3 x33_2).f1)).bind fun t289 => (if t289 = true then (some false) else (impl_ValidMachine.l0 k2 l0_3 (l0_3.length : Int) (wrap64 (x33_2 + 1)) a0_0 a0_1 l0_2 l0_3 l0_4))) else (none)))) else (some false)) = some r := H
         have A26 := zN A260
         clear A260
         by_cases c27 : t283 = true
         ·subst c27
          have H1 : ((impl_Board_at.f k2 [(⟨a0_0, a0_1, l0_2⟩ : S37)] ((rd_T116 l0_3 x33_2).f0.f0) ((rd_T116 l0_3 x33_2).f0.f1)).bind fun t284 => (if t284 < 0 then (some false) else (if x33_2 ≤ (l0_3.length : Int) then ((impl_Port_147.f k2 (l0_3.take (x33_2 : Int).toNat) ((rd_T116 l0_3 x33_2).f0.f0) ((rd_T116 l0_3 x33_2).f0.f1) ((rd_T116 l0_3 x33_2).f1)).bind fun t289 => (if t289 = true then (some false) else (impl_ValidMachine.l0 k2 l0_3 (l0_3.length : Int) (wrap64 (x33_2 + 1)) a0_0 a0_1 l0_2 l0_3 l0_4))) else (none)))) = some r := by rw [if_pos rfl] at H; exact H
          clear H
          have H := H1
          clear H1
          replace H := Option.bind_eq_some_iff.mp H
          obtain ⟨t284, A280, H⟩ := H
          replace H : (if t284 < 0 then (some false) else (if x33_2 ≤ (l0_3.length : Int) then ((impl_Port_147.f k2 (l0_3.take (x33_2 : Int).toNat) ((rd_T116 l0_3 x33_2).f0.f0) ((rd_T116 l0_3 x33_2).f0.f1) ((rd_T116 l0_3 x33_2).f1)).bind fun t289 => (if t289 = true then (some false) else (impl_ValidMachine.l0 k2 l0_3 (l0_3.length : Int) (wrap64 (x33_2 + 1)) a0_0 a0_1 l0_2 l0_3 l0_4))) else (none))) = some r := H
          have A28 := zN A280
          clear A280
          by_cases c29 : t284 < 0
          ·rw [if_pos c29] at H
           have c29b0 : decide (t284 < 0) = true := decide_eq_true c29
           clear c29
           obtain rfl := Option.some.inj H
           have p281 : 0 ≤ (x33_2 : Int) := zJ (by first | (with_reducible assumption) | assumption)
           have q281 : x33_2 < (l0_3.length : Int) := zJ (by first | (with_reducible assumption) | assumption)
           obtain ⟨ad281, e281, hx281_0, hx281_1, hx281_2⟩ := at_T116 HR0_3.out x33_2 p281 q281
           cases e281
           replace hx281_0 := (HB.out.cell (zH w _ hx281_0)).trans hx281_0
           replace hx281_1 := (HB.out.cell (zH w _ hx281_1)).trans hx281_1
           replace hx281_2 := (HB.out.cell (zH w _ hx281_2)).trans hx281_2
           replace p281 := eq_true p281
           replace q281 := eq_true q281
           try go_wp2_with (first | ((with_reducible refine gate_dst (N := 4) rfl ?_); (try (refine gate_guard (by rfl) ?_; dsimp only)); refine box_event ?hg (N := 4) ?hd (cs := #[.int .i8 0, .int .i8 0, .int .i8 0]) (t := 116) ?hr ?_; (case hd => rfl); (case hg => rfl); (case hr => first | (go_simp; done) | (go_simp; rfl)); intro gb282 hg w30 hbox hb; have n0_ := zN (blk_below (g := gb276) (o := .cells #[.int .i8 a0_0, .int .i8 a0_1, .slice A0_2 l0_2.length c0_2, .slice (some ad281) l0_3.length c0_3, .slice A0_4 l0_4.length c0_4] 41 (0, 0)) (by (with_reducible repeat (first | refine zE ?_ _ | refine zF ?_ | refine zG ?_ _)); exact BK276.out) hb); have n1_ := zN (below_step (by repeat (first | (with_reducible first | exact HB.out | apply zA | apply zB | apply zC | refine zD ?_ GE276.out) | exact HB.out)) hb); have n2_ := zN (hbox); have n3_ := zN ((by rw [hg]; exact (below_size (by repeat (first | (with_reducible first | exact HB.out | apply zA | apply zB | apply zC | refine zD ?_ GE276.out) | exact HB.out))) : w.heap.size ≤ gb282)); have n4_ := zN ((by rw [hg]; exact (below_size (by repeat (first | (with_reducible first | exact HB.out | apply zA | apply zB | apply zC | refine zD ?_ GE276.out) | exact HB.out))) : w.heap.size ≤ gb282)); have n5_ := zN ((by rw [hg]; exact Nat.ne_of_lt (blk_lt (g := gb276) (o := .cells #[.int .i8 a0_0, .int .i8 a0_1, .slice A0_2 l0_2.length c0_2, .slice (some ad281) l0_3.length c0_3, .slice A0_4 l0_4.length c0_4] 41 (0, 0)) (by (with_reducible repeat (first | refine zE ?_ _ | refine zF ?_ | refine zG ?_ _)); exact BK276.out)) : gb276 ≠ gb282)); have n6_ := zN ((by rw [hg]; exact Nat.ne_of_gt (blk_lt (g := gb276) (o := .cells #[.int .i8 a0_0, .int .i8 a0_1, .slice A0_2 l0_2.length c0_2, .slice (some ad281) l0_3.length c0_3, .slice A0_4 l0_4.length c0_4] 41 (0, 0)) (by (with_reducible repeat (first | refine zE ?_ _ | refine zF ?_ | refine zG ?_ _)); exact BK276.out)) : gb282 ≠ gb276)); clear BK276; clear HB; have BK276 := n0_; have HB := n1_; have BK282 := n2_; have GW282 := n3_; have GE282 := n4_; have NB276_282 := n5_; have NB282_276 := n6_; clear n0_ n1_ n2_ n3_ n4_ n5_ n6_; clear hb hbox hg; have hnb31 := NB282_276.out; have hnc31 := NB276_282.out; have hcz32_0 : w30.cell? ⟨gb282, 0, none⟩ = some (.int .i8 0) := (blk_cell BK282.out 0).trans rfl; have hcz32_1 : w30.cell? ⟨gb282, 1, none⟩ = some (.int .i8 0) := (blk_cell BK282.out 1).trans rfl; have hcz32_2 : w30.cell? ⟨gb282, 2, none⟩ = some (.int .i8 0) := (blk_cell BK282.out 2).trans rfl; have hfz32_0 := blk_frozen BK282.out 0; have hfz32_1 := blk_frozen BK282.out 1; have hfz32_2 := blk_frozen BK282.out 2))
           have n0_ : Aside0 ((((w30.setCell ⟨gb282, 0, none⟩ (.int .i8 ((rd_T116 l0_3 x33_2).f0.f0))).setCell ⟨gb282, 1, none⟩ (.int .i8 ((rd_T116 l0_3 x33_2).f0.f1))).setCell ⟨gb282, 2, none⟩ (.int .i8 ((rd_T116 l0_3 x33_2).f1))).heap[gb276]? = some (.cells #[.int .i8 a0_0, .int .i8 a0_1, .slice A0_2 l0_2.length c0_2, .slice (some ad281) l0_3.length c0_3, .slice A0_4 l0_4.length c0_4] 41 (0, 0))) := ⟨by (with_reducible repeat (first | refine zE ?_ _ | refine zF ?_ | refine zG ?_ _)); refine blk_far ?_ NB276_282.out _; (with_reducible repeat (first | refine zE ?_ _ | refine zF ?_ | refine zG ?_ _)); refine blk_far ?_ NB276_282.out _; (with_reducible repeat (first | refine zE ?_ _ | refine zF ?_ | refine zG ?_ _)); refine blk_far ?_ NB276_282.out _; (with_reducible repeat (first | refine zE ?_ _ | refine zF ?_ | refine zG ?_ _)); exact BK276.out⟩
           have n1_ : Aside0 ((((w30.setCell ⟨gb282, 0, none⟩ (.int .i8 ((rd_T116 l0_3 x33_2).f0.f0))).setCell ⟨gb282, 1, none⟩ (.int .i8 ((rd_T116 l0_3 x33_2).f0.f1))).setCell ⟨gb282, 2, none⟩ (.int .i8 ((rd_T116 l0_3 x33_2).f1))).heap[gb282]? = some (.cells #[.int .i8 ((rd_T116 l0_3 x33_2).f0.f0), .int .i8 ((rd_T116 l0_3 x33_2).f0.f1), .int .i8 ((rd_T116 l0_3 x33_2).f1)] 116 (0, 0))) := ⟨by (with_reducible repeat (first | refine zE ?_ _ | refine zF ?_ | refine zG ?_ _)); refine blk_put (cs := #[.int .i8 ((rd_T116 l0_3 x33_2).f0.f0), .int .i8 ((rd_T116 l0_3 x33_2).f0.f1), .int .i8 0]) ?_ 2 _ rfl; (with_reducible repeat (first | refine zE ?_ _ | refine zF ?_ | refine zG ?_ _)); refine blk_put (cs := #[.int .i8 ((rd_T116 l0_3 x33_2).f0.f0), .int .i8 0, .int .i8 0]) ?_ 1 _ rfl; (with_reducible repeat (first | refine zE ?_ _ | refine zF ?_ | refine zG ?_ _)); refine blk_put (cs := #[.int .i8 0, .int .i8 0, .int .i8 0]) ?_ 0 _ rfl; (with_reducible repeat (first | refine zE ?_ _ | refine zF ?_ | refine zG ?_ _)); exact BK282.out⟩
           have n2_ : Aside0 (Below w.heap.size w (((w30.setCell ⟨gb282, 0, none⟩ (.int .i8 ((rd_T116 l0_3 x33_2).f0.f0))).setCell ⟨gb282, 1, none⟩ (.int .i8 ((rd_T116 l0_3 x33_2).f0.f1))).setCell ⟨gb282, 2, none⟩ (.int .i8 ((rd_T116 l0_3 x33_2).f1)))) := ⟨by repeat (first | (with_reducible first | exact HB.out | apply zA | apply zB | apply zC | refine zD ?_ GE276.out | refine zD ?_ GE282.out) | exact HB.out)⟩
           (try clear BK276)
           (try clear BK282)
           (try clear HB)
           generalize (((w30.setCell ⟨gb282, 0, none⟩ (.int .i8 ((rd_T116 l0_3 x33_2).f0.f0))).setCell ⟨gb282, 1, none⟩ (.int .i8 ((rd_T116 l0_3 x33_2).f0.f1))).setCell ⟨gb282, 2, none⟩ (.int .i8 ((rd_T116 l0_3 x33_2).f1))) = w33 at n0_ n1_ n2_ ⊢
           have BK276 := n0_
           have BK282 := n1_
           have HB := n2_
           clear n0_ n1_ n2_
           have n0_ := zN (zF BK276.out)
           have n1_ := zN (zF BK282.out)
           have n2_ := zN (zC HB.out)
           clear BK276
           clear BK282
           clear HB
           have BK276 := n0_
           have BK282 := n1_
           have HB := n2_
           clear n0_ n1_ n2_
           refine start_ (n := 20) (S := fun w' => w'.cell? ⟨gb282, 0, none⟩ = some (.int .i8 ((rd_T116 l0_3 x33_2).f0.f0)) ∧ w'.cell? ⟨gb282, 1, none⟩ = some (.int .i8 ((rd_T116 l0_3 x33_2).f0.f1)) ∧ w'.cell? ⟨gb282, 2, none⟩ = some (.int .i8 ((rd_T116 l0_3 x33_2).f1))) (ds := []) #[false, false, false, false, false, false, false, false, false, false, false, false, false, false, false, false, false, false, false, false] (by kernel_rfl) rfl rfl ⟨(blk_cell BK282.out 0).trans rfl, (blk_cell BK282.out 1).trans rfl, (blk_cell BK282.out 2).trans rfl⟩ (fun hHeld => ?_); refine with_tabW impl_ValidMachine.tab6 impl_ValidMachine.bits6 (fun HT_ HW_ => ?_)
           generalize w33.drew = w34 at BK276 BK282 HB hHeld ⊢
           refine pure_ (i := 0) (N := some 38) (v := ?_) (a' := ?_) #[true, false, false, false, false, false, false, false, false, false, false, false, false, false, false, false, false, false, false, false] rfl rfl (any_of HT_.out (by kernel_rfl)) (fun _ _ _ h => h) (Or.inl ⟨by rfl, ?_⟩) ?_ ?_
           rotate_left
           ·intro w'
            go_simp
            with_reducible rfl
           rotate_left
           ·simp only [Act.put, List.setIfInBounds_toArray, List.set_cons_zero, List.set_cons_succ, i64_w, i32_w]
            rfl
           refine take_ (i := 1) (N := some 39) (v := ?_) (a' := ?_) #[true, true, false, false, false, false, false, false, false, false, false, false, false, false, false, false, false, false, false, false] rfl rfl (take_ofW HT_.out HW_.out (by kernel_rfl)) (fun _ _ _ h => h) (Or.inl ⟨by rfl, ?_⟩) hHeld ?_ ?_
           rotate_left
           ·rintro w' ⟨s0, s1, s2⟩
            go_simp
            with_reducible rfl
           rotate_left
           ·simp only [Act.put, List.setIfInBounds_toArray, List.set_cons_zero, List.set_cons_succ, i64_w, i32_w]
            rfl
           refine pure_ (i := 2) (N := some 40) (v := ?_) (a' := ?_) #[true, true, true, false, false, false, false, false, false, false, false, false, false, false, false, false, false, false, false, false] rfl rfl (any_of HT_.out (by kernel_rfl)) (fun _ _ _ h => h) (Or.inl ⟨by rfl, ?_⟩) ?_ ?_
           rotate_left
           ·intro w'
            go_simp
            with_reducible rfl
           rotate_left
           ·simp only [Act.put, List.setIfInBounds_toArray, List.set_cons_zero, List.set_cons_succ, i64_w, i32_w]
            rfl
           refine one_ (i := 3) (N := some 41) #[true, true, true, true, false, false, false, false, false, false, false, false, false, false, false, false, false, false, false, false] rfl rfl (one_of HT_.out (by kernel_rfl)) (by decide) (fun K hK => ?_)
           refine goes_ Try.func146 (by kernel_rfl) rfl #[.int .i64 (wrap64 ((rd_T116 l0_3 x33_2).f1))] (by rfl) rfl rfl (by (try simp only [List.map_toArray, List.map_cons, List.map_nil]); first | done | rfl | (simp only [List.length_drop, List.length_take]; rfl)) ?_
           with_reducible refine (impl_isSide.calls (wrap64 ((rd_T116 l0_3 x33_2).f1)) true _ A26.out).mono ?_
           rintro e w' ⟨rfl, ⟨nd, rfl⟩⟩
           refine ⟨_, rfl, ?_⟩
           refine hK.out _ _ ⟨(blk_cell BK282.out 0).trans rfl, (blk_cell BK282.out 1).trans rfl, (blk_cell BK282.out 2).trans rfl⟩ (fun hHeld => ?_)
           clear hK K
           refine norm_ (a' := ?_) ?_ ?_
           rotate_left
           ·show Act.put _ (some 41) _ = _
            simp only [Act.put, List.setIfInBounds_toArray, List.set_cons_zero, List.set_cons_succ, i64_w, i32_w]
            rfl
           refine pure_ (i := 4) (N := some 42) (v := ?_) (a' := ?_) #[true, true, true, true, true, false, false, false, false, false, false, false, false, false, false, false, false, false, false, false] rfl rfl (any_of HT_.out (by kernel_rfl)) (fun _ _ _ h => h) (Or.inl ⟨by rfl, ?_⟩) ?_ ?_
           rotate_left
           ·intro w'
            go_simp
            with_reducible rfl
           rotate_left
           ·simp only [Act.put, List.setIfInBounds_toArray, List.set_cons_zero, List.set_cons_succ, i64_w, i32_w]
            rfl
           refine pure_ (i := 5) (N := some 43) (v := ?_) (a' := ?_) #[true, true, true, true, true, true, false, false, false, false, false, false, false, false, false, false, false, false, false, false] rfl rfl (any_of HT_.out (by kernel_rfl)) (fun _ _ _ h => h) (Or.inl ⟨by rfl, ?_⟩) ?_ ?_
           rotate_left
           ·intro w'
            go_simp
            with_reducible rfl
           rotate_left
           ·simp only [Act.put, List.setIfInBounds_toArray, List.set_cons_zero, List.set_cons_succ, i64_w, i32_w]
            rfl
           refine pure_ (i := 6) (N := some 44) (v := ?_) (a' := ?_) #[true, true, true, true, true, true, true, false, false, false, false, false, false, false, false, false, false, false, false, false] rfl rfl (any_of HT_.out (by kernel_rfl)) (fun _ _ _ h => h) (Or.inl ⟨by rfl, ?_⟩) ?_ ?_
           rotate_left
           ·intro w'
            go_simp
            with_reducible rfl
           rotate_left
           ·simp only [Act.put, List.setIfInBounds_toArray, List.set_cons_zero, List.set_cons_succ, i64_w, i32_w]
            rfl
           refine pure_ (i := 7) (N := some 45) (v := ?_) (a' := ?_) #[true, true, true, true, true, true, true, true, false, false, false, false, false, false, false, false, false, false, false, false] rfl rfl (any_of HT_.out (by kernel_rfl)) (fun _ _ _ h => h) (Or.inl ⟨by rfl, ?_⟩) ?_ ?_
           rotate_left
           ·intro w'
            go_simp
            with_reducible rfl
           rotate_left
           ·simp only [Act.put, List.setIfInBounds_toArray, List.set_cons_zero, List.set_cons_succ, i64_w, i32_w]
            rfl
           refine take_ (i := 8) (N := some 46) (v := ?_) (a' := ?_) #[true, true, true, true, true, true, true, true, true, false, false, false, false, false, false, false, false, false, false, false] rfl rfl (take_ofW HT_.out HW_.out (by kernel_rfl)) (fun _ _ _ h => h) (Or.inl ⟨by rfl, ?_⟩) hHeld ?_ ?_
           rotate_left
           ·rintro w' ⟨s0, s1, s2⟩
            go_simp
            with_reducible rfl
           rotate_left
           ·simp only [Act.put, List.setIfInBounds_toArray, List.set_cons_zero, List.set_cons_succ, i64_w, i32_w]
            rfl
           refine one_ (i := 9) (N := some 47) #[true, true, true, true, true, true, true, true, true, true, false, false, false, false, false, false, false, false, false, false] rfl rfl (one_of HT_.out (by kernel_rfl)) (by decide) (fun K hK => ?_)
           refine goes_ Try.func119 (by kernel_rfl) rfl #[.pointer (some ⟨gb276, 0, none⟩), .agg #[.int .i8 ((rd_T116 l0_3 x33_2).f0.f0), .int .i8 ((rd_T116 l0_3 x33_2).f0.f1)]] (by rfl) rfl rfl (by (try simp only [List.map_toArray, List.map_cons, List.map_nil]); first | done | rfl | (simp only [List.length_drop, List.length_take]; rfl)) ?_
           with_reducible refine (impl_Board_at.calls k2 _ [(⟨a0_0, a0_1, l0_2⟩ : S37)] ((rd_T116 l0_3 x33_2).f0.f0) ((rd_T116 l0_3 x33_2).f0.f1) t284 _ ?side1 A28.out).mono ?_
           (case side1 => refine ro_of_part (T := 41) (cs := #[.int .i8 a0_0, .int .i8 a0_1, .slice A0_2 l0_2.length c0_2, .slice (some ad281) l0_3.length c0_3, .slice A0_4 l0_4.length c0_4]) (o := 0) (n := 3) (by (with_reducible repeat (first | refine zE ?_ _ | refine zF ?_ | refine zG ?_ _)); exact BK276.out) ?_; exact k37_mk _ (⟨a0_0, a0_1, l0_2⟩ : S37) (by exact HC0_2.out) (by repeat (first | exact (Kd.C_below HR0_2.out (by repeat (first | (with_reducible first | exact HB.out | apply zA | apply zB | apply zC | refine zD ?_ GE276.out | refine zD ?_ GE282.out) | exact HB.out))) | (with_reducible refine Kd.C_alloc ?_ _) | (with_reducible refine Kd.C_drewN ?_ _) | (with_reducible refine Kd.C_drew ?_))))
           rintro e w35 ⟨rfl, hb⟩
           refine ⟨_, rfl, ?_⟩
           have n0_ := zN (blk_below (g := gb276) (o := .cells #[.int .i8 a0_0, .int .i8 a0_1, .slice A0_2 l0_2.length c0_2, .slice (some ad281) l0_3.length c0_3, .slice A0_4 l0_4.length c0_4] 41 (0, 0)) (by (with_reducible repeat (first | refine zE ?_ _ | refine zF ?_ | refine zG ?_ _)); exact BK276.out) hb)
           have n1_ := zN (blk_below (g := gb282) (o := .cells #[.int .i8 ((rd_T116 l0_3 x33_2).f0.f0), .int .i8 ((rd_T116 l0_3 x33_2).f0.f1), .int .i8 ((rd_T116 l0_3 x33_2).f1)] 116 (0, 0)) (by (with_reducible repeat (first | refine zE ?_ _ | refine zF ?_ | refine zG ?_ _)); exact BK282.out) hb)
           have n2_ := zN (below_step (by repeat (first | (with_reducible first | exact HB.out | apply zA | apply zB | apply zC | refine zD ?_ GE276.out | refine zD ?_ GE282.out) | exact HB.out)) hb)
           clear BK276
           clear BK282
           clear HB
           have BK276 := n0_
           have BK282 := n1_
           have HB := n2_
           clear n0_ n1_ n2_
           (try clear hb)
           (try clear hb2)
           (try clear hk)
           (try clear hi)
           refine hK.out _ _ ⟨(blk_cell BK282.out 0).trans rfl, (blk_cell BK282.out 1).trans rfl, (blk_cell BK282.out 2).trans rfl⟩ (fun hHeld => ?_)
           clear hK K
           refine norm_ (a' := ?_) ?_ ?_
           rotate_left
           ·show Act.put _ (some 47) _ = _
            simp only [Act.put, List.setIfInBounds_toArray, List.set_cons_zero, List.set_cons_succ, i64_w, i32_w]
            rfl
           refine pure_ (i := 10) (N := some 48) (v := ?_) (a' := ?_) #[true, true, true, true, true, true, true, true, true, true, true, false, false, false, false, false, false, false, false, false] rfl rfl (any_of HT_.out (by kernel_rfl)) (fun _ _ _ h => h) (Or.inl ⟨by rfl, ?_⟩) ?_ ?_
           rotate_left
           ·intro w'
            go_simp
            with_reducible rfl
           rotate_left
           ·simp only [Act.put, List.setIfInBounds_toArray, List.set_cons_zero, List.set_cons_succ, i64_w, i32_w]
            rfl
           refine pure_ (i := 11) (N := some 49) (v := ?_) (a' := ?_) #[true, true, true, true, true, true, true, true, true, true, true, true, false, false, false, false, false, false, false, false] rfl rfl (any_of HT_.out (by kernel_rfl)) (fun _ _ _ h => h) (Or.inl ⟨by rfl, ?_⟩) ?_ ?_
           rotate_left
           ·intro w'
            go_simp
            with_reducible rfl
           rotate_left
           ·simp only [Act.put, List.setIfInBounds_toArray, List.set_cons_zero, List.set_cons_succ, i64_w, i32_w]
            rfl
           refine pure_ (i := 12) (N := some 50) (v := ?_) (a' := ?_) #[true, true, true, true, true, true, true, true, true, true, true, true, true, false, false, false, false, false, false, false] rfl rfl (any_of HT_.out (by kernel_rfl)) (fun _ _ _ h => h) (Or.inl ⟨by rfl, ?_⟩) ?_ ?_
           rotate_left
           ·intro w'
            go_simp
            with_reducible rfl
           rotate_left
           ·simp only [Act.put, List.setIfInBounds_toArray, List.set_cons_zero, List.set_cons_succ, i64_w, i32_w]
            rfl
           refine pure_ (i := 13) (N := some 51) (v := undef) (a' := ?_) #[true, true, true, true, true, true, true, true, true, true, true, true, true, true, false, false, false, false, false, false] rfl rfl (any_of HT_.out (by kernel_rfl)) (fun _ _ _ h => h) (Or.inr ⟨by rfl, rfl⟩) ?_ ?_
           rotate_left
           ·simp only [Act.put, List.setIfInBounds_toArray, List.set_cons_zero, List.set_cons_succ, i64_w, i32_w]
            rfl
           refine pure_ (i := 14) (N := some 52) (v := undef) (a' := ?_) #[true, true, true, true, true, true, true, true, true, true, true, true, true, true, true, false, false, false, false, false] rfl rfl (any_of HT_.out (by kernel_rfl)) (fun _ _ _ h => h) (Or.inr ⟨by rfl, rfl⟩) ?_ ?_
           rotate_left
           ·simp only [Act.put, List.setIfInBounds_toArray, List.set_cons_zero, List.set_cons_succ, i64_w, i32_w]
            rfl
           refine pure_ (i := 15) (N := some 53) (v := undef) (a' := ?_) #[true, true, true, true, true, true, true, true, true, true, true, true, true, true, true, true, false, false, false, false] rfl rfl (any_of HT_.out (by kernel_rfl)) (fun _ _ _ h => h) (Or.inr ⟨by rfl, rfl⟩) ?_ ?_
           rotate_left
           ·simp only [Act.put, List.setIfInBounds_toArray, List.set_cons_zero, List.set_cons_succ, i64_w, i32_w]
            rfl
           refine pure_ (i := 16) (N := some 54) (v := undef) (a' := ?_) #[true, true, true, true, true, true, true, true, true, true, true, true, true, true, true, true, true, false, false, false] rfl rfl (any_of HT_.out (by kernel_rfl)) (fun _ _ _ h => h) (Or.inr ⟨by rfl, rfl⟩) ?_ ?_
           rotate_left
           ·simp only [Act.put, List.setIfInBounds_toArray, List.set_cons_zero, List.set_cons_succ, i64_w, i32_w]
            rfl
           refine pure_ (i := 17) (N := some 55) (v := undef) (a' := ?_) #[true, true, true, true, true, true, true, true, true, true, true, true, true, true, true, true, true, true, false, false] rfl rfl (any_of HT_.out (by kernel_rfl)) (fun _ _ _ h => h) (Or.inr ⟨by rfl, rfl⟩) ?_ ?_
           rotate_left
           ·simp only [Act.put, List.setIfInBounds_toArray, List.set_cons_zero, List.set_cons_succ, i64_w, i32_w]
            rfl
           refine pure_ (i := 18) (N := some 56) (v := undef) (a' := ?_) #[true, true, true, true, true, true, true, true, true, true, true, true, true, true, true, true, true, true, true, false] rfl rfl (any_of HT_.out (by kernel_rfl)) (fun _ _ _ h => h) (Or.inr ⟨by rfl, rfl⟩) ?_ ?_
           rotate_left
           ·simp only [Act.put, List.setIfInBounds_toArray, List.set_cons_zero, List.set_cons_succ, i64_w, i32_w]
            rfl
           refine pure_ (i := 19) (N := some 57) (v := ?_) (a' := ?_) #[true, true, true, true, true, true, true, true, true, true, true, true, true, true, true, true, true, true, true, true] rfl rfl (any_of HT_.out (by kernel_rfl)) (fun _ _ _ h => h) (Or.inl ⟨by rfl, ?_⟩) ?_ ?_
           rotate_left
           ·intro w'
            go_simp
            with_reducible rfl
           rotate_left
           ·simp only [Act.put, List.setIfInBounds_toArray, List.set_cons_zero, List.set_cons_succ, i64_w, i32_w]
            rfl
           refine done_ (done_of HT_.out (by kernel_rfl)) ?_
           try go_wp2
           go_ret
           exact ⟨by first | rfl | (simp [errW_none, errW_some] <;> rfl) | (simp [*, errW_none, errW_some] <;> rfl), by repeat (first | (with_reducible first | exact HB.out | apply zA | apply zB | apply zC | refine zD ?_ GE276.out | refine zD ?_ GE282.out) | exact HB.out)⟩
          ·rw [if_neg c29] at H
           have c29b0 : decide (t284 < 0) = false := decide_eq_false c29
           clear c29
           have c36b0 := eq_true (zJ (by first | (with_reducible assumption) | assumption) : 0 ≤ x33_2)
           by_cases c37 : x33_2 ≤ (l0_3.length : Int)
           ·rw [if_pos c37] at H
            have c37b0 := eq_true c37
            have c37b1 : decide (x33_2 ≤ (l0_3.length : Int)) = true := decide_eq_true c37
            clear c37
            obtain ⟨y285, hy285⟩ : ∃ y_ : List (S116), y_ = (l0_3.take (x33_2 : Int).toNat) := ⟨_, rfl⟩
            replace H : ((impl_Port_147.f k2 y285 ((rd_T116 l0_3 x33_2).f0.f0) ((rd_T116 l0_3 x33_2).f0.f1) ((rd_T116 l0_3 x33_2).f1)).bind fun t289 => (if t289 = true then (some false) else (impl_ValidMachine.l0 k2 l0_3 (l0_3.length : Int) (wrap64 (x33_2 + 1)) a0_0 a0_1 l0_2 l0_3 l0_4))) = some r := by first | (rw [hy285]; with_reducible exact H) | (have H2_ := (Option.bind_some _ _).symm.trans H; rw [hy285]; with_reducible exact H2_) | (have H2_ := (Option.bind_some _ _).symm.trans H; with_reducible exact H2_) | with_reducible exact H | (rw [hy285]; exact H) | exact H
            have Ny285 := zN hy285
            clear hy285
            replace H := Option.bind_eq_some_iff.mp H
            obtain ⟨t289, A380, H⟩ := H
            replace H : (if t289 = true then (some false) else (impl_ValidMachine.l0 k2 l0_3 (l0_3.length : Int) (wrap64 (x33_2 + 1)) a0_0 a0_1 l0_2 l0_3 l0_4)) = some r := H
            have A38 := zN A380
            clear A380
            by_cases c39 : t289 = true
            ·subst c39
             have H1 : (some false) = some r := by rw [if_pos rfl] at H; exact H
             clear H
             have H := H1
             clear H1
             obtain rfl := Option.some.inj H
             have p281 : 0 ≤ (x33_2 : Int) := zJ (by first | (with_reducible assumption) | assumption)
             have q281 : x33_2 < (l0_3.length : Int) := zJ (by first | (with_reducible assumption) | assumption)
             obtain ⟨ad281, e281, hx281_0, hx281_1, hx281_2⟩ := at_T116 HR0_3.out x33_2 p281 q281
             cases e281
             replace hx281_0 := (HB.out.cell (zH w _ hx281_0)).trans hx281_0
             replace hx281_1 := (HB.out.cell (zH w _ hx281_1)).trans hx281_1
             replace hx281_2 := (HB.out.cell (zH w _ hx281_2)).trans hx281_2
             replace p281 := eq_true p281
             replace q281 := eq_true q281
             try go_wp2_with (first | ((with_reducible refine gate_dst (N := 4) rfl ?_); (try (refine gate_guard (by rfl) ?_; dsimp only)); refine box_event ?hg (N := 4) ?hd (cs := #[.int .i8 0, .int .i8 0, .int .i8 0]) (t := 116) ?hr ?_; (case hd => rfl); (case hg => rfl); (case hr => first | (go_simp; done) | (go_simp; rfl)); intro gb282 hg w40 hbox hb; have n0_ := zN (blk_below (g := gb276) (o := .cells #[.int .i8 a0_0, .int .i8 a0_1, .slice A0_2 l0_2.length c0_2, .slice (some ad281) l0_3.length c0_3, .slice A0_4 l0_4.length c0_4] 41 (0, 0)) (by (with_reducible repeat (first | refine zE ?_ _ | refine zF ?_ | refine zG ?_ _)); exact BK276.out) hb); have n1_ := zN (below_step (by repeat (first | (with_reducible first | exact HB.out | apply zA | apply zB | apply zC | refine zD ?_ GE276.out) | exact HB.out)) hb); have n2_ := zN (hbox); have n3_ := zN ((by rw [hg]; exact (below_size (by repeat (first | (with_reducible first | exact HB.out | apply zA | apply zB | apply zC | refine zD ?_ GE276.out) | exact HB.out))) : w.heap.size ≤ gb282)); have n4_ := zN ((by rw [hg]; exact (below_size (by repeat (first | (with_reducible first | exact HB.out | apply zA | apply zB | apply zC | refine zD ?_ GE276.out) | exact HB.out))) : w.heap.size ≤ gb282)); have n5_ := zN ((by rw [hg]; exact Nat.ne_of_lt (blk_lt (g := gb276) (o := .cells #[.int .i8 a0_0, .int .i8 a0_1, .slice A0_2 l0_2.length c0_2, .slice (some ad281) l0_3.length c0_3, .slice A0_4 l0_4.length c0_4] 41 (0, 0)) (by (with_reducible repeat (first | refine zE ?_ _ | refine zF ?_ | refine zG ?_ _)); exact BK276.out)) : gb276 ≠ gb282)); have n6_ := zN ((by rw [hg]; exact Nat.ne_of_gt (blk_lt (g := gb276) (o := .cells #[.int .i8 a0_0, .int .i8 a0_1, .slice A0_2 l0_2.length c0_2, .slice (some ad281) l0_3.length c0_3, .slice A0_4 l0_4.length c0_4] 41 (0, 0)) (by (with_reducible repeat (first | refine zE ?_ _ | refine zF ?_ | refine zG ?_ _)); exact BK276.out)) : gb282 ≠ gb276)); clear BK276; clear HB; have BK276 := n0_; have HB := n1_; have BK282 := n2_; have GW282 := n3_; have GE282 := n4_; have NB276_282 := n5_; have NB282_276 := n6_; clear n0_ n1_ n2_ n3_ n4_ n5_ n6_; clear hb hbox hg; have hnb41 := NB282_276.out; have hnc41 := NB276_282.out; have hcz42_0 : w40.cell? ⟨gb282, 0, none⟩ = some (.int .i8 0) := (blk_cell BK282.out 0).trans rfl; have hcz42_1 : w40.cell? ⟨gb282, 1, none⟩ = some (.int .i8 0) := (blk_cell BK282.out 1).trans rfl; have hcz42_2 : w40.cell? ⟨gb282, 2, none⟩ = some (.int .i8 0) := (blk_cell BK282.out 2).trans rfl; have hfz42_0 := blk_frozen BK282.out 0; have hfz42_1 := blk_frozen BK282.out 1; have hfz42_2 := blk_frozen BK282.out 2))
             have n0_ : Aside0 ((((w40.setCell ⟨gb282, 0, none⟩ (.int .i8 ((rd_T116 l0_3 x33_2).f0.f0))).setCell ⟨gb282, 1, none⟩ (.int .i8 ((rd_T116 l0_3 x33_2).f0.f1))).setCell ⟨gb282, 2, none⟩ (.int .i8 ((rd_T116 l0_3 x33_2).f1))).heap[gb276]? = some (.cells #[.int .i8 a0_0, .int .i8 a0_1, .slice A0_2 l0_2.length c0_2, .slice (some ad281) l0_3.length c0_3, .slice A0_4 l0_4.length c0_4] 41 (0, 0))) := ⟨by (with_reducible repeat (first | refine zE ?_ _ | refine zF ?_ | refine zG ?_ _)); refine blk_far ?_ NB276_282.out _; (with_reducible repeat (first | refine zE ?_ _ | refine zF ?_ | refine zG ?_ _)); refine blk_far ?_ NB276_282.out _; (with_reducible repeat (first | refine zE ?_ _ | refine zF ?_ | refine zG ?_ _)); refine blk_far ?_ NB276_282.out _; (with_reducible repeat (first | refine zE ?_ _ | refine zF ?_ | refine zG ?_ _)); exact BK276.out⟩
             have n1_ : Aside0 ((((w40.setCell ⟨gb282, 0, none⟩ (.int .i8 ((rd_T116 l0_3 x33_2).f0.f0))).setCell ⟨gb282, 1, none⟩ (.int .i8 ((rd_T116 l0_3 x33_2).f0.f1))).setCell ⟨gb282, 2, none⟩ (.int .i8 ((rd_T116 l0_3 x33_2).f1))).heap[gb282]? = some (.cells #[.int .i8 ((rd_T116 l0_3 x33_2).f0.f0), .int .i8 ((rd_T116 l0_3 x33_2).f0.f1), .int .i8 ((rd_T116 l0_3 x33_2).f1)] 116 (0, 0))) := ⟨by (with_reducible repeat (first | refine zE ?_ _ | refine zF ?_ | refine zG ?_ _)); refine blk_put (cs := #[.int .i8 ((rd_T116 l0_3 x33_2).f0.f0), .int .i8 ((rd_T116 l0_3 x33_2).f0.f1), .int .i8 0]) ?_ 2 _ rfl; (with_reducible repeat (first | refine zE ?_ _ | refine zF ?_ | refine zG ?_ _)); refine blk_put (cs := #[.int .i8 ((rd_T116 l0_3 x33_2).f0.f0), .int .i8 0, .int .i8 0]) ?_ 1 _ rfl; (with_reducible repeat (first | refine zE ?_ _ | refine zF ?_ | refine zG ?_ _)); refine blk_put (cs := #[.int .i8 0, .int .i8 0, .int .i8 0]) ?_ 0 _ rfl; (with_reducible repeat (first | refine zE ?_ _ | refine zF ?_ | refine zG ?_ _)); exact BK282.out⟩
             have n2_ : Aside0 (Below w.heap.size w (((w40.setCell ⟨gb282, 0, none⟩ (.int .i8 ((rd_T116 l0_3 x33_2).f0.f0))).setCell ⟨gb282, 1, none⟩ (.int .i8 ((rd_T116 l0_3 x33_2).f0.f1))).setCell ⟨gb282, 2, none⟩ (.int .i8 ((rd_T116 l0_3 x33_2).f1)))) := ⟨by repeat (first | (with_reducible first | exact HB.out | apply zA | apply zB | apply zC | refine zD ?_ GE276.out | refine zD ?_ GE282.out) | exact HB.out)⟩
             (try clear BK276)
             (try clear BK282)
             (try clear HB)
             generalize (((w40.setCell ⟨gb282, 0, none⟩ (.int .i8 ((rd_T116 l0_3 x33_2).f0.f0))).setCell ⟨gb282, 1, none⟩ (.int .i8 ((rd_T116 l0_3 x33_2).f0.f1))).setCell ⟨gb282, 2, none⟩ (.int .i8 ((rd_T116 l0_3 x33_2).f1))) = w43 at n0_ n1_ n2_ ⊢
             have BK276 := n0_
             have BK282 := n1_
             have HB := n2_
             clear n0_ n1_ n2_
             have n0_ := zN (zF BK276.out)
             have n1_ := zN (zF BK282.out)
             have n2_ := zN (zC HB.out)
             clear BK276
             clear BK282
             clear HB
             have BK276 := n0_
             have BK282 := n1_
             have HB := n2_
             clear n0_ n1_ n2_
             refine start_ (n := 20) (S := fun w' => w'.cell? ⟨gb282, 0, none⟩ = some (.int .i8 ((rd_T116 l0_3 x33_2).f0.f0)) ∧ w'.cell? ⟨gb282, 1, none⟩ = some (.int .i8 ((rd_T116 l0_3 x33_2).f0.f1)) ∧ w'.cell? ⟨gb282, 2, none⟩ = some (.int .i8 ((rd_T116 l0_3 x33_2).f1)) ∧ w'.cell? ⟨gb276, 0, none⟩ = some (.int .i8 a0_0) ∧ w'.cell? ⟨gb276, 1, none⟩ = some (.int .i8 a0_1) ∧ w'.cell? ⟨gb276, 2, none⟩ = some (.slice A0_2 l0_2.length c0_2) ∧ w'.cell? ⟨gb276, 3, none⟩ = some (.slice (some ad281) l0_3.length c0_3) ∧ w'.cell? ⟨gb276, 4, none⟩ = some (.slice A0_4 l0_4.length c0_4)) (ds := []) #[false, false, false, false, false, false, false, false, false, false, false, false, false, false, false, false, false, false, false, false] (by kernel_rfl) rfl rfl ⟨(blk_cell BK282.out 0).trans rfl, (blk_cell BK282.out 1).trans rfl, (blk_cell BK282.out 2).trans rfl, (blk_cell BK276.out 0).trans rfl, (blk_cell BK276.out 1).trans rfl, (blk_cell BK276.out 2).trans rfl, (blk_cell BK276.out 3).trans rfl, (blk_cell BK276.out 4).trans rfl⟩ (fun hHeld => ?_); refine with_tabW impl_ValidMachine.tab6 impl_ValidMachine.bits6 (fun HT_ HW_ => ?_)
             generalize w43.drew = w44 at BK276 BK282 HB hHeld ⊢
             refine pure_ (i := 0) (N := some 38) (v := ?_) (a' := ?_) #[true, false, false, false, false, false, false, false, false, false, false, false, false, false, false, false, false, false, false, false] rfl rfl (any_of HT_.out (by kernel_rfl)) (fun _ _ _ h => h) (Or.inl ⟨by rfl, ?_⟩) ?_ ?_
             rotate_left
             ·intro w'
              go_simp
              with_reducible rfl
             rotate_left
             ·simp only [Act.put, List.setIfInBounds_toArray, List.set_cons_zero, List.set_cons_succ, i64_w, i32_w]
              rfl
             refine take_ (i := 1) (N := some 39) (v := ?_) (a' := ?_) #[true, true, false, false, false, false, false, false, false, false, false, false, false, false, false, false, false, false, false, false] rfl rfl (take_ofW HT_.out HW_.out (by kernel_rfl)) (fun _ _ _ h => h) (Or.inl ⟨by rfl, ?_⟩) hHeld ?_ ?_
             rotate_left
             ·rintro w' ⟨s0, s1, s2, s3, s4, s5, s6, s7⟩
              go_simp
              with_reducible rfl
             rotate_left
             ·simp only [Act.put, List.setIfInBounds_toArray, List.set_cons_zero, List.set_cons_succ, i64_w, i32_w]
              rfl
             refine pure_ (i := 2) (N := some 40) (v := ?_) (a' := ?_) #[true, true, true, false, false, false, false, false, false, false, false, false, false, false, false, false, false, false, false, false] rfl rfl (any_of HT_.out (by kernel_rfl)) (fun _ _ _ h => h) (Or.inl ⟨by rfl, ?_⟩) ?_ ?_
             rotate_left
             ·intro w'
              go_simp
              with_reducible rfl
             rotate_left
             ·simp only [Act.put, List.setIfInBounds_toArray, List.set_cons_zero, List.set_cons_succ, i64_w, i32_w]
              rfl
             refine one_ (i := 3) (N := some 41) #[true, true, true, true, false, false, false, false, false, false, false, false, false, false, false, false, false, false, false, false] rfl rfl (one_of HT_.out (by kernel_rfl)) (by decide) (fun K hK => ?_)
             refine goes_ Try.func146 (by kernel_rfl) rfl #[.int .i64 (wrap64 ((rd_T116 l0_3 x33_2).f1))] (by rfl) rfl rfl (by (try simp only [List.map_toArray, List.map_cons, List.map_nil]); first | done | rfl | (simp only [List.length_drop, List.length_take]; rfl)) ?_
             with_reducible refine (impl_isSide.calls (wrap64 ((rd_T116 l0_3 x33_2).f1)) true _ A26.out).mono ?_
             rintro e w' ⟨rfl, ⟨nd, rfl⟩⟩
             refine ⟨_, rfl, ?_⟩
             refine hK.out _ _ ⟨(blk_cell BK282.out 0).trans rfl, (blk_cell BK282.out 1).trans rfl, (blk_cell BK282.out 2).trans rfl, (blk_cell BK276.out 0).trans rfl, (blk_cell BK276.out 1).trans rfl, (blk_cell BK276.out 2).trans rfl, (blk_cell BK276.out 3).trans rfl, (blk_cell BK276.out 4).trans rfl⟩ (fun hHeld => ?_)
             clear hK K
             refine norm_ (a' := ?_) ?_ ?_
             rotate_left
             ·show Act.put _ (some 41) _ = _
              simp only [Act.put, List.setIfInBounds_toArray, List.set_cons_zero, List.set_cons_succ, i64_w, i32_w]
              rfl
             refine pure_ (i := 4) (N := some 42) (v := ?_) (a' := ?_) #[true, true, true, true, true, false, false, false, false, false, false, false, false, false, false, false, false, false, false, false] rfl rfl (any_of HT_.out (by kernel_rfl)) (fun _ _ _ h => h) (Or.inl ⟨by rfl, ?_⟩) ?_ ?_
             rotate_left
             ·intro w'
              go_simp
              with_reducible rfl
             rotate_left
             ·simp only [Act.put, List.setIfInBounds_toArray, List.set_cons_zero, List.set_cons_succ, i64_w, i32_w]
              rfl
             refine pure_ (i := 5) (N := some 43) (v := ?_) (a' := ?_) #[true, true, true, true, true, true, false, false, false, false, false, false, false, false, false, false, false, false, false, false] rfl rfl (any_of HT_.out (by kernel_rfl)) (fun _ _ _ h => h) (Or.inl ⟨by rfl, ?_⟩) ?_ ?_
             rotate_left
             ·intro w'
              go_simp
              with_reducible rfl
             rotate_left
             ·simp only [Act.put, List.setIfInBounds_toArray, List.set_cons_zero, List.set_cons_succ, i64_w, i32_w]
              rfl
             refine pure_ (i := 6) (N := some 44) (v := ?_) (a' := ?_) #[true, true, true, true, true, true, true, false, false, false, false, false, false, false, false, false, false, false, false, false] rfl rfl (any_of HT_.out (by kernel_rfl)) (fun _ _ _ h => h) (Or.inl ⟨by rfl, ?_⟩) ?_ ?_
             rotate_left
             ·intro w'
              go_simp
              with_reducible rfl
             rotate_left
             ·simp only [Act.put, List.setIfInBounds_toArray, List.set_cons_zero, List.set_cons_succ, i64_w, i32_w]
              rfl
             refine pure_ (i := 7) (N := some 45) (v := ?_) (a' := ?_) #[true, true, true, true, true, true, true, true, false, false, false, false, false, false, false, false, false, false, false, false] rfl rfl (any_of HT_.out (by kernel_rfl)) (fun _ _ _ h => h) (Or.inl ⟨by rfl, ?_⟩) ?_ ?_
             rotate_left
             ·intro w'
              go_simp
              with_reducible rfl
             rotate_left
             ·simp only [Act.put, List.setIfInBounds_toArray, List.set_cons_zero, List.set_cons_succ, i64_w, i32_w]
              rfl
             refine take_ (i := 8) (N := some 46) (v := ?_) (a' := ?_) #[true, true, true, true, true, true, true, true, true, false, false, false, false, false, false, false, false, false, false, false] rfl rfl (take_ofW HT_.out HW_.out (by kernel_rfl)) (fun _ _ _ h => h) (Or.inl ⟨by rfl, ?_⟩) hHeld ?_ ?_
             rotate_left
             ·rintro w' ⟨s0, s1, s2, s3, s4, s5, s6, s7⟩
              go_simp
              with_reducible rfl
             rotate_left
             ·simp only [Act.put, List.setIfInBounds_toArray, List.set_cons_zero, List.set_cons_succ, i64_w, i32_w]
              rfl
             refine one_ (i := 9) (N := some 47) #[true, true, true, true, true, true, true, true, true, true, false, false, false, false, false, false, false, false, false, false] rfl rfl (one_of HT_.out (by kernel_rfl)) (by decide) (fun K hK => ?_)
             refine goes_ Try.func119 (by kernel_rfl) rfl #[.pointer (some ⟨gb276, 0, none⟩), .agg #[.int .i8 ((rd_T116 l0_3 x33_2).f0.f0), .int .i8 ((rd_T116 l0_3 x33_2).f0.f1)]] (by rfl) rfl rfl (by (try simp only [List.map_toArray, List.map_cons, List.map_nil]); first | done | rfl | (simp only [List.length_drop, List.length_take]; rfl)) ?_
             with_reducible refine (impl_Board_at.calls k2 _ [(⟨a0_0, a0_1, l0_2⟩ : S37)] ((rd_T116 l0_3 x33_2).f0.f0) ((rd_T116 l0_3 x33_2).f0.f1) t284 _ ?side1 A28.out).mono ?_
             (case side1 => refine ro_of_part (T := 41) (cs := #[.int .i8 a0_0, .int .i8 a0_1, .slice A0_2 l0_2.length c0_2, .slice (some ad281) l0_3.length c0_3, .slice A0_4 l0_4.length c0_4]) (o := 0) (n := 3) (by (with_reducible repeat (first | refine zE ?_ _ | refine zF ?_ | refine zG ?_ _)); exact BK276.out) ?_; exact k37_mk _ (⟨a0_0, a0_1, l0_2⟩ : S37) (by exact HC0_2.out) (by repeat (first | exact (Kd.C_below HR0_2.out (by repeat (first | (with_reducible first | exact HB.out | apply zA | apply zB | apply zC | refine zD ?_ GE276.out | refine zD ?_ GE282.out) | exact HB.out))) | (with_reducible refine Kd.C_alloc ?_ _) | (with_reducible refine Kd.C_drewN ?_ _) | (with_reducible refine Kd.C_drew ?_))))
             rintro e w45 ⟨rfl, hb⟩
             refine ⟨_, rfl, ?_⟩
             have n0_ := zN (blk_below (g := gb276) (o := .cells #[.int .i8 a0_0, .int .i8 a0_1, .slice A0_2 l0_2.length c0_2, .slice (some ad281) l0_3.length c0_3, .slice A0_4 l0_4.length c0_4] 41 (0, 0)) (by (with_reducible repeat (first | refine zE ?_ _ | refine zF ?_ | refine zG ?_ _)); exact BK276.out) hb)
             have n1_ := zN (blk_below (g := gb282) (o := .cells #[.int .i8 ((rd_T116 l0_3 x33_2).f0.f0), .int .i8 ((rd_T116 l0_3 x33_2).f0.f1), .int .i8 ((rd_T116 l0_3 x33_2).f1)] 116 (0, 0)) (by (with_reducible repeat (first | refine zE ?_ _ | refine zF ?_ | refine zG ?_ _)); exact BK282.out) hb)
             have n2_ := zN (below_step (by repeat (first | (with_reducible first | exact HB.out | apply zA | apply zB | apply zC | refine zD ?_ GE276.out | refine zD ?_ GE282.out) | exact HB.out)) hb)
             clear BK276
             clear BK282
             clear HB
             have BK276 := n0_
             have BK282 := n1_
             have HB := n2_
             clear n0_ n1_ n2_
             (try clear hb)
             (try clear hb2)
             (try clear hk)
             (try clear hi)
             have q46 : (x33_2 : Int) ≤ ((l0_3.length : Int) : Int) := zJ (by first | (with_reducible assumption) | assumption)
             obtain ⟨i046, hi046, _, hsz46, _⟩ := info_parts info116
             have hroom46 : l0_3.length ≤ c0_3 := HC0_3.out
             have hC46 : Kd.C k116 _ (some ad281) l0_3.length l0_3 := HR0_3.out
             have hcut46 := cut_to (P := Try.prog) 38 116 .i64 Try.underlying38 hi046 (some ad281) l0_3.length c0_3 x33_2 (zJ (by first | (with_reducible assumption) | assumption)) q46 hroom46
             have hr46 := Kd.C_take (m := (x33_2 : Int).toNat) hC46 (by omega)
             have hy46 : y285.length = (x33_2 : Int).toNat := (by rw [Ny285.out, List.length_take]; omega)
             rw [← Ny285.out] at hr46
             rw [← hy46] at hcut46
             have HR288 := zN hr46
             have HC288 := zN (show y285.length ≤ c0_3 from by omega)
             clear hr46 hC46 hroom46 hi046 hsz46
             have KY46 := zN hy46
             clear hy46
             replace q46 := eq_true q46
             refine hK.out _ _ ⟨(blk_cell BK282.out 0).trans rfl, (blk_cell BK282.out 1).trans rfl, (blk_cell BK282.out 2).trans rfl, (blk_cell BK276.out 0).trans rfl, (blk_cell BK276.out 1).trans rfl, (blk_cell BK276.out 2).trans rfl, (blk_cell BK276.out 3).trans rfl, (blk_cell BK276.out 4).trans rfl⟩ (fun hHeld => ?_)
             clear hK K
             refine norm_ (a' := ?_) ?_ ?_
             rotate_left
             ·show Act.put _ (some 47) _ = _
              simp only [Act.put, List.setIfInBounds_toArray, List.set_cons_zero, List.set_cons_succ, i64_w, i32_w]
              rfl
             refine pure_ (i := 10) (N := some 48) (v := ?_) (a' := ?_) #[true, true, true, true, true, true, true, true, true, true, true, false, false, false, false, false, false, false, false, false] rfl rfl (any_of HT_.out (by kernel_rfl)) (fun _ _ _ h => h) (Or.inl ⟨by rfl, ?_⟩) ?_ ?_
             rotate_left
             ·intro w'
              go_simp
              with_reducible rfl
             rotate_left
             ·simp only [Act.put, List.setIfInBounds_toArray, List.set_cons_zero, List.set_cons_succ, i64_w, i32_w]
              rfl
             refine pure_ (i := 11) (N := some 49) (v := ?_) (a' := ?_) #[true, true, true, true, true, true, true, true, true, true, true, true, false, false, false, false, false, false, false, false] rfl rfl (any_of HT_.out (by kernel_rfl)) (fun _ _ _ h => h) (Or.inl ⟨by rfl, ?_⟩) ?_ ?_
             rotate_left
             ·intro w'
              go_simp
              with_reducible rfl
             rotate_left
             ·simp only [Act.put, List.setIfInBounds_toArray, List.set_cons_zero, List.set_cons_succ, i64_w, i32_w]
              rfl
             refine pure_ (i := 12) (N := some 50) (v := ?_) (a' := ?_) #[true, true, true, true, true, true, true, true, true, true, true, true, true, false, false, false, false, false, false, false] rfl rfl (any_of HT_.out (by kernel_rfl)) (fun _ _ _ h => h) (Or.inl ⟨by rfl, ?_⟩) ?_ ?_
             rotate_left
             ·intro w'
              go_simp
              with_reducible rfl
             rotate_left
             ·simp only [Act.put, List.setIfInBounds_toArray, List.set_cons_zero, List.set_cons_succ, i64_w, i32_w]
              rfl
             refine pure_ (i := 13) (N := some 51) (v := ?_) (a' := ?_) #[true, true, true, true, true, true, true, true, true, true, true, true, true, true, false, false, false, false, false, false] rfl rfl (any_of HT_.out (by kernel_rfl)) (fun _ _ _ h => h) (Or.inl ⟨by rfl, ?_⟩) ?_ ?_
             rotate_left
             ·intro w'
              go_simp
              with_reducible rfl
             rotate_left
             ·simp only [Act.put, List.setIfInBounds_toArray, List.set_cons_zero, List.set_cons_succ, i64_w, i32_w]
              rfl
             refine pure_ (i := 15) (N := some 53) (v := ?_) (a' := ?_) #[true, true, true, true, true, true, true, true, true, true, true, true, true, true, false, true, false, false, false, false] rfl rfl (any_of HT_.out (by kernel_rfl)) (fun _ _ _ h => h) (Or.inl ⟨by rfl, ?_⟩) ?_ ?_
             rotate_left
             ·intro w'
              go_simp
              with_reducible rfl
             rotate_left
             ·simp only [Act.put, List.setIfInBounds_toArray, List.set_cons_zero, List.set_cons_succ, i64_w, i32_w]
              rfl
             refine take_ (i := 14) (N := some 52) (v := ?_) (a' := ?_) #[true, true, true, true, true, true, true, true, true, true, true, true, true, true, true, true, false, false, false, false] rfl rfl (take_ofW HT_.out HW_.out (by kernel_rfl)) (fun _ _ _ h => h) (Or.inl ⟨by rfl, ?_⟩) hHeld ?_ ?_
             rotate_left
             ·rintro w' ⟨s0, s1, s2, s3, s4, s5, s6, s7⟩
              go_simp
              with_reducible rfl
             rotate_left
             ·simp only [Act.put, List.setIfInBounds_toArray, List.set_cons_zero, List.set_cons_succ, i64_w, i32_w]
              rfl
             refine pure_ (i := 16) (N := some 54) (v := ?_) (a' := ?_) #[true, true, true, true, true, true, true, true, true, true, true, true, true, true, true, true, true, false, false, false] rfl rfl (any_of HT_.out (by kernel_rfl)) (fun _ _ _ h => h) (Or.inl ⟨by rfl, ?_⟩) ?_ ?_
             rotate_left
             ·intro w'
              go_simp
              with_reducible rfl
             rotate_left
             ·simp only [Act.put, List.setIfInBounds_toArray, List.set_cons_zero, List.set_cons_succ, i64_w, i32_w]
              rfl
             refine take_ (i := 17) (N := some 55) (v := ?_) (a' := ?_) #[true, true, true, true, true, true, true, true, true, true, true, true, true, true, true, true, true, true, false, false] rfl rfl (take_ofW HT_.out HW_.out (by kernel_rfl)) (fun _ _ _ h => h) (Or.inl ⟨by rfl, ?_⟩) hHeld ?_ ?_
             rotate_left
             ·rintro w' ⟨s0, s1, s2, s3, s4, s5, s6, s7⟩
              go_simp
              with_reducible rfl
             rotate_left
             ·simp only [Act.put, List.setIfInBounds_toArray, List.set_cons_zero, List.set_cons_succ, i64_w, i32_w]
              rfl
             refine one_ (i := 18) (N := some 56) #[true, true, true, true, true, true, true, true, true, true, true, true, true, true, true, true, true, true, true, false] rfl rfl (one_of HT_.out (by kernel_rfl)) (by decide) (fun K hK => ?_)
             refine goes_ Try.func147 (by kernel_rfl) rfl #[.slice (some ad281) y285.length c0_3, .agg #[.int .i8 ((rd_T116 l0_3 x33_2).f0.f0), .int .i8 ((rd_T116 l0_3 x33_2).f0.f1), .int .i8 ((rd_T116 l0_3 x33_2).f1)]] (by rfl) rfl rfl (by (try simp only [List.map_toArray, List.map_cons, List.map_nil]); first | done | rfl | (simp only [List.length_drop, List.length_take]; rfl)) ?_
             with_reducible refine (impl_Port_147.calls k2 _ _ y285 ((rd_T116 l0_3 x33_2).f0.f0) ((rd_T116 l0_3 x33_2).f0.f1) ((rd_T116 l0_3 x33_2).f1) true _ ?side1 ?side2 A38.out).mono ?_
             (case side1 => repeat (first | exact (Kd.C_below HR288.out HB.out) | (with_reducible refine Kd.C_alloc ?_ _) | (with_reducible refine Kd.C_drewN ?_ _) | (with_reducible refine Kd.C_drew ?_)))
             (case side2 => exact HC288.out)
             rintro e w47 ⟨rfl, hb⟩
             refine ⟨_, rfl, ?_⟩
             have n0_ := zN (blk_below (g := gb276) (o := .cells #[.int .i8 a0_0, .int .i8 a0_1, .slice A0_2 l0_2.length c0_2, .slice (some ad281) l0_3.length c0_3, .slice A0_4 l0_4.length c0_4] 41 (0, 0)) (by (with_reducible repeat (first | refine zE ?_ _ | refine zF ?_ | refine zG ?_ _)); exact BK276.out) hb)
             have n1_ := zN (blk_below (g := gb282) (o := .cells #[.int .i8 ((rd_T116 l0_3 x33_2).f0.f0), .int .i8 ((rd_T116 l0_3 x33_2).f0.f1), .int .i8 ((rd_T116 l0_3 x33_2).f1)] 116 (0, 0)) (by (with_reducible repeat (first | refine zE ?_ _ | refine zF ?_ | refine zG ?_ _)); exact BK282.out) hb)
             have n2_ := zN (below_step (by repeat (first | (with_reducible first | exact HB.out | apply zA | apply zB | apply zC | refine zD ?_ GE276.out | refine zD ?_ GE282.out) | exact HB.out)) hb)
             clear BK276
             clear BK282
             clear HB
             have BK276 := n0_
             have BK282 := n1_
             have HB := n2_
             clear n0_ n1_ n2_
             (try clear hb)
             (try clear hb2)
             (try clear hk)
             (try clear hi)
             refine hK.out _ _ ⟨(blk_cell BK282.out 0).trans rfl, (blk_cell BK282.out 1).trans rfl, (blk_cell BK282.out 2).trans rfl, (blk_cell BK276.out 0).trans rfl, (blk_cell BK276.out 1).trans rfl, (blk_cell BK276.out 2).trans rfl, (blk_cell BK276.out 3).trans rfl, (blk_cell BK276.out 4).trans rfl⟩ (fun hHeld => ?_)
             clear hK K
             refine norm_ (a' := ?_) ?_ ?_
             rotate_left
             ·show Act.put _ (some 56) _ = _
              simp only [Act.put, List.setIfInBounds_toArray, List.set_cons_zero, List.set_cons_succ, i64_w, i32_w]
              rfl
             refine pure_ (i := 19) (N := some 57) (v := ?_) (a' := ?_) #[true, true, true, true, true, true, true, true, true, true, true, true, true, true, true, true, true, true, true, true] rfl rfl (any_of HT_.out (by kernel_rfl)) (fun _ _ _ h => h) (Or.inl ⟨by rfl, ?_⟩) ?_ ?_
             rotate_left
             ·intro w'
              go_simp
              with_reducible rfl
             rotate_left
             ·simp only [Act.put, List.setIfInBounds_toArray, List.set_cons_zero, List.set_cons_succ, i64_w, i32_w]
              rfl
             refine done_ (done_of HT_.out (by kernel_rfl)) ?_
             try go_wp2
             go_ret
             exact ⟨by first | rfl | (simp [errW_none, errW_some] <;> rfl) | (simp [*, errW_none, errW_some] <;> rfl), by repeat (first | (with_reducible first | exact HB.out | apply zA | apply zB | apply zC | refine zD ?_ GE276.out | refine zD ?_ GE282.out) | exact HB.out)⟩
            ·replace c39 := Bool.eq_false_iff.mpr c39
             subst c39
             have H1 : (impl_ValidMachine.l0 k2 l0_3 (l0_3.length : Int) (wrap64 (x33_2 + 1)) a0_0 a0_1 l0_2 l0_3 l0_4) = some r := by rw [if_neg (show ¬ (false = true) by decide)] at H; exact H
             clear H
             have H := H1
             clear H1
             have H' := zN H
             clear H
             have p281 : 0 ≤ (x33_2 : Int) := zJ (by first | (with_reducible assumption) | assumption)
             have q281 : x33_2 < (l0_3.length : Int) := zJ (by first | (with_reducible assumption) | assumption)
             obtain ⟨ad281, e281, hx281_0, hx281_1, hx281_2⟩ := at_T116 HR0_3.out x33_2 p281 q281
             cases e281
             replace hx281_0 := (HB.out.cell (zH w _ hx281_0)).trans hx281_0
             replace hx281_1 := (HB.out.cell (zH w _ hx281_1)).trans hx281_1
             replace hx281_2 := (HB.out.cell (zH w _ hx281_2)).trans hx281_2
             replace p281 := eq_true p281
             replace q281 := eq_true q281
             try go_wp2_with (first | ((with_reducible refine gate_dst (N := 4) rfl ?_); (try (refine gate_guard (by rfl) ?_; dsimp only)); refine box_event ?hg (N := 4) ?hd (cs := #[.int .i8 0, .int .i8 0, .int .i8 0]) (t := 116) ?hr ?_; (case hd => rfl); (case hg => rfl); (case hr => first | (go_simp; done) | (go_simp; rfl)); intro gb282 hg w48 hbox hb; have n0_ := zN (blk_below (g := gb276) (o := .cells #[.int .i8 a0_0, .int .i8 a0_1, .slice A0_2 l0_2.length c0_2, .slice (some ad281) l0_3.length c0_3, .slice A0_4 l0_4.length c0_4] 41 (0, 0)) (by (with_reducible repeat (first | refine zE ?_ _ | refine zF ?_ | refine zG ?_ _)); exact BK276.out) hb); have n1_ := zN (below_step (by repeat (first | (with_reducible first | exact HB.out | apply zA | apply zB | apply zC | refine zD ?_ GE276.out) | exact HB.out)) hb); have n2_ := zN (hbox); have n3_ := zN ((by rw [hg]; exact (below_size (by repeat (first | (with_reducible first | exact HB.out | apply zA | apply zB | apply zC | refine zD ?_ GE276.out) | exact HB.out))) : w.heap.size ≤ gb282)); have n4_ := zN ((by rw [hg]; exact (below_size (by repeat (first | (with_reducible first | exact HB.out | apply zA | apply zB | apply zC | refine zD ?_ GE276.out) | exact HB.out))) : w.heap.size ≤ gb282)); have n5_ := zN ((by rw [hg]; exact Nat.ne_of_lt (blk_lt (g := gb276) (o := .cells #[.int .i8 a0_0, .int .i8 a0_1, .slice A0_2 l0_2.length c0_2, .slice (some ad281) l0_3.length c0_3, .slice A0_4 l0_4.length c0_4] 41 (0, 0)) (by (with_reducible repeat (first | refine zE ?_ _ | refine zF ?_ | refine zG ?_ _)); exact BK276.out)) : gb276 ≠ gb282)); have n6_ := zN ((by rw [hg]; exact Nat.ne_of_gt (blk_lt (g := gb276) (o := .cells #[.int .i8 a0_0, .int .i8 a0_1, .slice A0_2 l0_2.length c0_2, .slice (some ad281) l0_3.length c0_3, .slice A0_4 l0_4.length c0_4] 41 (0, 0)) (by (with_reducible repeat (first | refine zE ?_ _ | refine zF ?_ | refine zG ?_ _)); exact BK276.out)) : gb282 ≠ gb276)); clear BK276; clear HB; have BK276 := n0_; have HB := n1_; have BK282 := n2_; have GW282 := n3_; have GE282 := n4_; have NB276_282 := n5_; have NB282_276 := n6_; clear n0_ n1_ n2_ n3_ n4_ n5_ n6_; clear hb hbox hg; have hnb49 := NB282_276.out; have hnc49 := NB276_282.out; have hcz50_0 : w48.cell? ⟨gb282, 0, none⟩ = some (.int .i8 0) := (blk_cell BK282.out 0).trans rfl; have hcz50_1 : w48.cell? ⟨gb282, 1, none⟩ = some (.int .i8 0) := (blk_cell BK282.out 1).trans rfl; have hcz50_2 : w48.cell? ⟨gb282, 2, none⟩ = some (.int .i8 0) := (blk_cell BK282.out 2).trans rfl; have hfz50_0 := blk_frozen BK282.out 0; have hfz50_1 := blk_frozen BK282.out 1; have hfz50_2 := blk_frozen BK282.out 2))
             have n0_ : Aside0 ((((w48.setCell ⟨gb282, 0, none⟩ (.int .i8 ((rd_T116 l0_3 x33_2).f0.f0))).setCell ⟨gb282, 1, none⟩ (.int .i8 ((rd_T116 l0_3 x33_2).f0.f1))).setCell ⟨gb282, 2, none⟩ (.int .i8 ((rd_T116 l0_3 x33_2).f1))).heap[gb276]? = some (.cells #[.int .i8 a0_0, .int .i8 a0_1, .slice A0_2 l0_2.length c0_2, .slice (some ad281) l0_3.length c0_3, .slice A0_4 l0_4.length c0_4] 41 (0, 0))) := ⟨by (with_reducible repeat (first | refine zE ?_ _ | refine zF ?_ | refine zG ?_ _)); refine blk_far ?_ NB276_282.out _; (with_reducible repeat (first | refine zE ?_ _ | refine zF ?_ | refine zG ?_ _)); refine blk_far ?_ NB276_282.out _; (with_reducible repeat (first | refine zE ?_ _ | refine zF ?_ | refine zG ?_ _)); refine blk_far ?_ NB276_282.out _; (with_reducible repeat (first | refine zE ?_ _ | refine zF ?_ | refine zG ?_ _)); exact BK276.out⟩
             have n1_ : Aside0 ((((w48.setCell ⟨gb282, 0, none⟩ (.int .i8 ((rd_T116 l0_3 x33_2).f0.f0))).setCell ⟨gb282, 1, none⟩ (.int .i8 ((rd_T116 l0_3 x33_2).f0.f1))).setCell ⟨gb282, 2, none⟩ (.int .i8 ((rd_T116 l0_3 x33_2).f1))).heap[gb282]? = some (.cells #[.int .i8 ((rd_T116 l0_3 x33_2).f0.f0), .int .i8 ((rd_T116 l0_3 x33_2).f0.f1), .int .i8 ((rd_T116 l0_3 x33_2).f1)] 116 (0, 0))) := ⟨by (with_reducible repeat (first | refine zE ?_ _ | refine zF ?_ | refine zG ?_ _)); refine blk_put (cs := #[.int .i8 ((rd_T116 l0_3 x33_2).f0.f0), .int .i8 ((rd_T116 l0_3 x33_2).f0.f1), .int .i8 0]) ?_ 2 _ rfl; (with_reducible repeat (first | refine zE ?_ _ | refine zF ?_ | refine zG ?_ _)); refine blk_put (cs := #[.int .i8 ((rd_T116 l0_3 x33_2).f0.f0), .int .i8 0, .int .i8 0]) ?_ 1 _ rfl; (with_reducible repeat (first | refine zE ?_ _ | refine zF ?_ | refine zG ?_ _)); refine blk_put (cs := #[.int .i8 0, .int .i8 0, .int .i8 0]) ?_ 0 _ rfl; (with_reducible repeat (first | refine zE ?_ _ | refine zF ?_ | refine zG ?_ _)); exact BK282.out⟩
             have n2_ : Aside0 (Below w.heap.size w (((w48.setCell ⟨gb282, 0, none⟩ (.int .i8 ((rd_T116 l0_3 x33_2).f0.f0))).setCell ⟨gb282, 1, none⟩ (.int .i8 ((rd_T116 l0_3 x33_2).f0.f1))).setCell ⟨gb282, 2, none⟩ (.int .i8 ((rd_T116 l0_3 x33_2).f1)))) := ⟨by repeat (first | (with_reducible first | exact HB.out | apply zA | apply zB | apply zC | refine zD ?_ GE276.out | refine zD ?_ GE282.out) | exact HB.out)⟩
             (try clear BK276)
             (try clear BK282)
             (try clear HB)
             generalize (((w48.setCell ⟨gb282, 0, none⟩ (.int .i8 ((rd_T116 l0_3 x33_2).f0.f0))).setCell ⟨gb282, 1, none⟩ (.int .i8 ((rd_T116 l0_3 x33_2).f0.f1))).setCell ⟨gb282, 2, none⟩ (.int .i8 ((rd_T116 l0_3 x33_2).f1))) = w51 at n0_ n1_ n2_ ⊢
             have BK276 := n0_
             have BK282 := n1_
             have HB := n2_
             clear n0_ n1_ n2_
             have n0_ := zN (zF BK276.out)
             have n1_ := zN (zF BK282.out)
             have n2_ := zN (zC HB.out)
             clear BK276
             clear BK282
             clear HB
             have BK276 := n0_
             have BK282 := n1_
             have HB := n2_
             clear n0_ n1_ n2_
             refine start_ (n := 20) (S := fun w' => w'.cell? ⟨gb282, 0, none⟩ = some (.int .i8 ((rd_T116 l0_3 x33_2).f0.f0)) ∧ w'.cell? ⟨gb282, 1, none⟩ = some (.int .i8 ((rd_T116 l0_3 x33_2).f0.f1)) ∧ w'.cell? ⟨gb282, 2, none⟩ = some (.int .i8 ((rd_T116 l0_3 x33_2).f1)) ∧ w'.cell? ⟨gb276, 0, none⟩ = some (.int .i8 a0_0) ∧ w'.cell? ⟨gb276, 1, none⟩ = some (.int .i8 a0_1) ∧ w'.cell? ⟨gb276, 2, none⟩ = some (.slice A0_2 l0_2.length c0_2) ∧ w'.cell? ⟨gb276, 3, none⟩ = some (.slice (some ad281) l0_3.length c0_3) ∧ w'.cell? ⟨gb276, 4, none⟩ = some (.slice A0_4 l0_4.length c0_4)) (ds := []) #[false, false, false, false, false, false, false, false, false, false, false, false, false, false, false, false, false, false, false, false] (by kernel_rfl) rfl rfl ⟨(blk_cell BK282.out 0).trans rfl, (blk_cell BK282.out 1).trans rfl, (blk_cell BK282.out 2).trans rfl, (blk_cell BK276.out 0).trans rfl, (blk_cell BK276.out 1).trans rfl, (blk_cell BK276.out 2).trans rfl, (blk_cell BK276.out 3).trans rfl, (blk_cell BK276.out 4).trans rfl⟩ (fun hHeld => ?_); refine with_tabW impl_ValidMachine.tab6 impl_ValidMachine.bits6 (fun HT_ HW_ => ?_)
             generalize w51.drew = w52 at BK276 BK282 HB hHeld ⊢
             refine pure_ (i := 0) (N := some 38) (v := ?_) (a' := ?_) #[true, false, false, false, false, false, false, false, false, false, false, false, false, false, false, false, false, false, false, false] rfl rfl (any_of HT_.out (by kernel_rfl)) (fun _ _ _ h => h) (Or.inl ⟨by rfl, ?_⟩) ?_ ?_
             rotate_left
             ·intro w'
              go_simp
              with_reducible rfl
             rotate_left
             ·simp only [Act.put, List.setIfInBounds_toArray, List.set_cons_zero, List.set_cons_succ, i64_w, i32_w]
              rfl
             refine take_ (i := 1) (N := some 39) (v := ?_) (a' := ?_) #[true, true, false, false, false, false, false, false, false, false, false, false, false, false, false, false, false, false, false, false] rfl rfl (take_ofW HT_.out HW_.out (by kernel_rfl)) (fun _ _ _ h => h) (Or.inl ⟨by rfl, ?_⟩) hHeld ?_ ?_
             rotate_left
             ·rintro w' ⟨s0, s1, s2, s3, s4, s5, s6, s7⟩
              go_simp
              with_reducible rfl
             rotate_left
             ·simp only [Act.put, List.setIfInBounds_toArray, List.set_cons_zero, List.set_cons_succ, i64_w, i32_w]
              rfl
             refine pure_ (i := 2) (N := some 40) (v := ?_) (a' := ?_) #[true, true, true, false, false, false, false, false, false, false, false, false, false, false, false, false, false, false, false, false] rfl rfl (any_of HT_.out (by kernel_rfl)) (fun _ _ _ h => h) (Or.inl ⟨by rfl, ?_⟩) ?_ ?_
             rotate_left
             ·intro w'
              go_simp
              with_reducible rfl
             rotate_left
             ·simp only [Act.put, List.setIfInBounds_toArray, List.set_cons_zero, List.set_cons_succ, i64_w, i32_w]
              rfl
             refine one_ (i := 3) (N := some 41) #[true, true, true, true, false, false, false, false, false, false, false, false, false, false, false, false, false, false, false, false] rfl rfl (one_of HT_.out (by kernel_rfl)) (by decide) (fun K hK => ?_)
             refine goes_ Try.func146 (by kernel_rfl) rfl #[.int .i64 (wrap64 ((rd_T116 l0_3 x33_2).f1))] (by rfl) rfl rfl (by (try simp only [List.map_toArray, List.map_cons, List.map_nil]); first | done | rfl | (simp only [List.length_drop, List.length_take]; rfl)) ?_
             with_reducible refine (impl_isSide.calls (wrap64 ((rd_T116 l0_3 x33_2).f1)) true _ A26.out).mono ?_
             rintro e w' ⟨rfl, ⟨nd, rfl⟩⟩
             refine ⟨_, rfl, ?_⟩
             refine hK.out _ _ ⟨(blk_cell BK282.out 0).trans rfl, (blk_cell BK282.out 1).trans rfl, (blk_cell BK282.out 2).trans rfl, (blk_cell BK276.out 0).trans rfl, (blk_cell BK276.out 1).trans rfl, (blk_cell BK276.out 2).trans rfl, (blk_cell BK276.out 3).trans rfl, (blk_cell BK276.out 4).trans rfl⟩ (fun hHeld => ?_)
             clear hK K
             refine norm_ (a' := ?_) ?_ ?_
             rotate_left
             ·show Act.put _ (some 41) _ = _
              simp only [Act.put, List.setIfInBounds_toArray, List.set_cons_zero, List.set_cons_succ, i64_w, i32_w]
              rfl
             refine pure_ (i := 4) (N := some 42) (v := ?_) (a' := ?_) #[true, true, true, true, true, false, false, false, false, false, false, false, false, false, false, false, false, false, false, false] rfl rfl (any_of HT_.out (by kernel_rfl)) (fun _ _ _ h => h) (Or.inl ⟨by rfl, ?_⟩) ?_ ?_
             rotate_left
             ·intro w'
              go_simp
              with_reducible rfl
             rotate_left
             ·simp only [Act.put, List.setIfInBounds_toArray, List.set_cons_zero, List.set_cons_succ, i64_w, i32_w]
              rfl
             refine pure_ (i := 5) (N := some 43) (v := ?_) (a' := ?_) #[true, true, true, true, true, true, false, false, false, false, false, false, false, false, false, false, false, false, false, false] rfl rfl (any_of HT_.out (by kernel_rfl)) (fun _ _ _ h => h) (Or.inl ⟨by rfl, ?_⟩) ?_ ?_
             rotate_left
             ·intro w'
              go_simp
              with_reducible rfl
             rotate_left
             ·simp only [Act.put, List.setIfInBounds_toArray, List.set_cons_zero, List.set_cons_succ, i64_w, i32_w]
              rfl
             refine pure_ (i := 6) (N := some 44) (v := ?_) (a' := ?_) #[true, true, true, true, true, true, true, false, false, false, false, false, false, false, false, false, false, false, false, false] rfl rfl (any_of HT_.out (by kernel_rfl)) (fun _ _ _ h => h) (Or.inl ⟨by rfl, ?_⟩) ?_ ?_
             rotate_left
             ·intro w'
              go_simp
              with_reducible rfl
             rotate_left
             ·simp only [Act.put, List.setIfInBounds_toArray, List.set_cons_zero, List.set_cons_succ, i64_w, i32_w]
              rfl
             refine pure_ (i := 7) (N := some 45) (v := ?_) (a' := ?_) #[true, true, true, true, true, true, true, true, false, false, false, false, false, false, false, false, false, false, false, false] rfl rfl (any_of HT_.out (by kernel_rfl)) (fun _ _ _ h => h) (Or.inl ⟨by rfl, ?_⟩) ?_ ?_
             rotate_left
             ·intro w'
              go_simp
              with_reducible rfl
             rotate_left
             ·simp only [Act.put, List.setIfInBounds_toArray, List.set_cons_zero, List.set_cons_succ, i64_w, i32_w]
              rfl
             refine take_ (i := 8) (N := some 46) (v := ?_) (a' := ?_) #[true, true, true, true, true, true, true, true, true, false, false, false, false, false, false, false, false, false, false, false] rfl rfl (take_ofW HT_.out HW_.out (by kernel_rfl)) (fun _ _ _ h => h) (Or.inl ⟨by rfl, ?_⟩) hHeld ?_ ?_
             rotate_left
             ·rintro w' ⟨s0, s1, s2, s3, s4, s5, s6, s7⟩
              go_simp
              with_reducible rfl
             rotate_left
             ·simp only [Act.put, List.setIfInBounds_toArray, List.set_cons_zero, List.set_cons_succ, i64_w, i32_w]
              rfl
             refine one_ (i := 9) (N := some 47) #[true, true, true, true, true, true, true, true, true, true, false, false, false, false, false, false, false, false, false, false] rfl rfl (one_of HT_.out (by kernel_rfl)) (by decide) (fun K hK => ?_)
             refine goes_ Try.func119 (by kernel_rfl) rfl #[.pointer (some ⟨gb276, 0, none⟩), .agg #[.int .i8 ((rd_T116 l0_3 x33_2).f0.f0), .int .i8 ((rd_T116 l0_3 x33_2).f0.f1)]] (by rfl) rfl rfl (by (try simp only [List.map_toArray, List.map_cons, List.map_nil]); first | done | rfl | (simp only [List.length_drop, List.length_take]; rfl)) ?_
             with_reducible refine (impl_Board_at.calls k2 _ [(⟨a0_0, a0_1, l0_2⟩ : S37)] ((rd_T116 l0_3 x33_2).f0.f0) ((rd_T116 l0_3 x33_2).f0.f1) t284 _ ?side1 A28.out).mono ?_
             (case side1 => refine ro_of_part (T := 41) (cs := #[.int .i8 a0_0, .int .i8 a0_1, .slice A0_2 l0_2.length c0_2, .slice (some ad281) l0_3.length c0_3, .slice A0_4 l0_4.length c0_4]) (o := 0) (n := 3) (by (with_reducible repeat (first | refine zE ?_ _ | refine zF ?_ | refine zG ?_ _)); exact BK276.out) ?_; exact k37_mk _ (⟨a0_0, a0_1, l0_2⟩ : S37) (by exact HC0_2.out) (by repeat (first | exact (Kd.C_below HR0_2.out (by repeat (first | (with_reducible first | exact HB.out | apply zA | apply zB | apply zC | refine zD ?_ GE276.out | refine zD ?_ GE282.out) | exact HB.out))) | (with_reducible refine Kd.C_alloc ?_ _) | (with_reducible refine Kd.C_drewN ?_ _) | (with_reducible refine Kd.C_drew ?_))))
             rintro e w53 ⟨rfl, hb⟩
             refine ⟨_, rfl, ?_⟩
             have n0_ := zN (blk_below (g := gb276) (o := .cells #[.int .i8 a0_0, .int .i8 a0_1, .slice A0_2 l0_2.length c0_2, .slice (some ad281) l0_3.length c0_3, .slice A0_4 l0_4.length c0_4] 41 (0, 0)) (by (with_reducible repeat (first | refine zE ?_ _ | refine zF ?_ | refine zG ?_ _)); exact BK276.out) hb)
             have n1_ := zN (blk_below (g := gb282) (o := .cells #[.int .i8 ((rd_T116 l0_3 x33_2).f0.f0), .int .i8 ((rd_T116 l0_3 x33_2).f0.f1), .int .i8 ((rd_T116 l0_3 x33_2).f1)] 116 (0, 0)) (by (with_reducible repeat (first | refine zE ?_ _ | refine zF ?_ | refine zG ?_ _)); exact BK282.out) hb)
             have n2_ := zN (below_step (by repeat (first | (with_reducible first | exact HB.out | apply zA | apply zB | apply zC | refine zD ?_ GE276.out | refine zD ?_ GE282.out) | exact HB.out)) hb)
             clear BK276
             clear BK282
             clear HB
             have BK276 := n0_
             have BK282 := n1_
             have HB := n2_
             clear n0_ n1_ n2_
             (try clear hb)
             (try clear hb2)
             (try clear hk)
             (try clear hi)
             have q54 : (x33_2 : Int) ≤ ((l0_3.length : Int) : Int) := zJ (by first | (with_reducible assumption) | assumption)
             obtain ⟨i054, hi054, _, hsz54, _⟩ := info_parts info116
             have hroom54 : l0_3.length ≤ c0_3 := HC0_3.out
             have hC54 : Kd.C k116 _ (some ad281) l0_3.length l0_3 := HR0_3.out
             have hcut54 := cut_to (P := Try.prog) 38 116 .i64 Try.underlying38 hi054 (some ad281) l0_3.length c0_3 x33_2 (zJ (by first | (with_reducible assumption) | assumption)) q54 hroom54
             have hr54 := Kd.C_take (m := (x33_2 : Int).toNat) hC54 (by omega)
             have hy54 : y285.length = (x33_2 : Int).toNat := (by rw [Ny285.out, List.length_take]; omega)
             rw [← Ny285.out] at hr54
             rw [← hy54] at hcut54
             have HR288 := zN hr54
             have HC288 := zN (show y285.length ≤ c0_3 from by omega)
             clear hr54 hC54 hroom54 hi054 hsz54
             have KY54 := zN hy54
             clear hy54
             replace q54 := eq_true q54
             refine hK.out _ _ ⟨(blk_cell BK282.out 0).trans rfl, (blk_cell BK282.out 1).trans rfl, (blk_cell BK282.out 2).trans rfl, (blk_cell BK276.out 0).trans rfl, (blk_cell BK276.out 1).trans rfl, (blk_cell BK276.out 2).trans rfl, (blk_cell BK276.out 3).trans rfl, (blk_cell BK276.out 4).trans rfl⟩ (fun hHeld => ?_)
             clear hK K
             refine norm_ (a' := ?_) ?_ ?_
             rotate_left
             ·show Act.put _ (some 47) _ = _
              simp only [Act.put, List.setIfInBounds_toArray, List.set_cons_zero, List.set_cons_succ, i64_w, i32_w]
              rfl
             refine pure_ (i := 10) (N := some 48) (v := ?_) (a' := ?_) #[true, true, true, true, true, true, true, true, true, true, true, false, false, false, false, false, false, false, false, false] rfl rfl (any_of HT_.out (by kernel_rfl)) (fun _ _ _ h => h) (Or.inl ⟨by rfl, ?_⟩) ?_ ?_
             rotate_left
             ·intro w'
              go_simp
              with_reducible rfl
             rotate_left
             ·simp only [Act.put, List.setIfInBounds_toArray, List.set_cons_zero, List.set_cons_succ, i64_w, i32_w]
              rfl
             refine pure_ (i := 11) (N := some 49) (v := ?_) (a' := ?_) #[true, true, true, true, true, true, true, true, true, true, true, true, false, false, false, false, false, false, false, false] rfl rfl (any_of HT_.out (by kernel_rfl)) (fun _ _ _ h => h) (Or.inl ⟨by rfl, ?_⟩) ?_ ?_
             rotate_left
             ·intro w'
              go_simp
              with_reducible rfl
             rotate_left
             ·simp only [Act.put, List.setIfInBounds_toArray, List.set_cons_zero, List.set_cons_succ, i64_w, i32_w]
              rfl
             refine pure_ (i := 12) (N := some 50) (v := ?_) (a' := ?_) #[true, true, true, true, true, true, true, true, true, true, true, true, true, false, false, false, false, false, false, false] rfl rfl (any_of HT_.out (by kernel_rfl)) (fun _ _ _ h => h) (Or.inl ⟨by rfl, ?_⟩) ?_ ?_
             rotate_left
             ·intro w'
              go_simp
              with_reducible rfl
             rotate_left
             ·simp only [Act.put, List.setIfInBounds_toArray, List.set_cons_zero, List.set_cons_succ, i64_w, i32_w]
              rfl
             refine pure_ (i := 13) (N := some 51) (v := ?_) (a' := ?_) #[true, true, true, true, true, true, true, true, true, true, true, true, true, true, false, false, false, false, false, false] rfl rfl (any_of HT_.out (by kernel_rfl)) (fun _ _ _ h => h) (Or.inl ⟨by rfl, ?_⟩) ?_ ?_
             rotate_left
             ·intro w'
              go_simp
              with_reducible rfl
             rotate_left
             ·simp only [Act.put, List.setIfInBounds_toArray, List.set_cons_zero, List.set_cons_succ, i64_w, i32_w]
              rfl
             refine pure_ (i := 15) (N := some 53) (v := ?_) (a' := ?_) #[true, true, true, true, true, true, true, true, true, true, true, true, true, true, false, true, false, false, false, false] rfl rfl (any_of HT_.out (by kernel_rfl)) (fun _ _ _ h => h) (Or.inl ⟨by rfl, ?_⟩) ?_ ?_
             rotate_left
             ·intro w'
              go_simp
              with_reducible rfl
             rotate_left
             ·simp only [Act.put, List.setIfInBounds_toArray, List.set_cons_zero, List.set_cons_succ, i64_w, i32_w]
              rfl
             refine take_ (i := 14) (N := some 52) (v := ?_) (a' := ?_) #[true, true, true, true, true, true, true, true, true, true, true, true, true, true, true, true, false, false, false, false] rfl rfl (take_ofW HT_.out HW_.out (by kernel_rfl)) (fun _ _ _ h => h) (Or.inl ⟨by rfl, ?_⟩) hHeld ?_ ?_
             rotate_left
             ·rintro w' ⟨s0, s1, s2, s3, s4, s5, s6, s7⟩
              go_simp
              with_reducible rfl
             rotate_left
             ·simp only [Act.put, List.setIfInBounds_toArray, List.set_cons_zero, List.set_cons_succ, i64_w, i32_w]
              rfl
             refine pure_ (i := 16) (N := some 54) (v := ?_) (a' := ?_) #[true, true, true, true, true, true, true, true, true, true, true, true, true, true, true, true, true, false, false, false] rfl rfl (any_of HT_.out (by kernel_rfl)) (fun _ _ _ h => h) (Or.inl ⟨by rfl, ?_⟩) ?_ ?_
             rotate_left
             ·intro w'
              go_simp
              with_reducible rfl
             rotate_left
             ·simp only [Act.put, List.setIfInBounds_toArray, List.set_cons_zero, List.set_cons_succ, i64_w, i32_w]
              rfl
             refine take_ (i := 17) (N := some 55) (v := ?_) (a' := ?_) #[true, true, true, true, true, true, true, true, true, true, true, true, true, true, true, true, true, true, false, false] rfl rfl (take_ofW HT_.out HW_.out (by kernel_rfl)) (fun _ _ _ h => h) (Or.inl ⟨by rfl, ?_⟩) hHeld ?_ ?_
             rotate_left
             ·rintro w' ⟨s0, s1, s2, s3, s4, s5, s6, s7⟩
              go_simp
              with_reducible rfl
             rotate_left
             ·simp only [Act.put, List.setIfInBounds_toArray, List.set_cons_zero, List.set_cons_succ, i64_w, i32_w]
              rfl
             refine one_ (i := 18) (N := some 56) #[true, true, true, true, true, true, true, true, true, true, true, true, true, true, true, true, true, true, true, false] rfl rfl (one_of HT_.out (by kernel_rfl)) (by decide) (fun K hK => ?_)
             refine goes_ Try.func147 (by kernel_rfl) rfl #[.slice (some ad281) y285.length c0_3, .agg #[.int .i8 ((rd_T116 l0_3 x33_2).f0.f0), .int .i8 ((rd_T116 l0_3 x33_2).f0.f1), .int .i8 ((rd_T116 l0_3 x33_2).f1)]] (by rfl) rfl rfl (by (try simp only [List.map_toArray, List.map_cons, List.map_nil]); first | done | rfl | (simp only [List.length_drop, List.length_take]; rfl)) ?_
             with_reducible refine (impl_Port_147.calls k2 _ _ y285 ((rd_T116 l0_3 x33_2).f0.f0) ((rd_T116 l0_3 x33_2).f0.f1) ((rd_T116 l0_3 x33_2).f1) false _ ?side1 ?side2 A38.out).mono ?_
             (case side1 => repeat (first | exact (Kd.C_below HR288.out HB.out) | (with_reducible refine Kd.C_alloc ?_ _) | (with_reducible refine Kd.C_drewN ?_ _) | (with_reducible refine Kd.C_drew ?_)))
             (case side2 => exact HC288.out)
             rintro e w55 ⟨rfl, hb⟩
             refine ⟨_, rfl, ?_⟩
             have n0_ := zN (blk_below (g := gb276) (o := .cells #[.int .i8 a0_0, .int .i8 a0_1, .slice A0_2 l0_2.length c0_2, .slice (some ad281) l0_3.length c0_3, .slice A0_4 l0_4.length c0_4] 41 (0, 0)) (by (with_reducible repeat (first | refine zE ?_ _ | refine zF ?_ | refine zG ?_ _)); exact BK276.out) hb)
             have n1_ := zN (blk_below (g := gb282) (o := .cells #[.int .i8 ((rd_T116 l0_3 x33_2).f0.f0), .int .i8 ((rd_T116 l0_3 x33_2).f0.f1), .int .i8 ((rd_T116 l0_3 x33_2).f1)] 116 (0, 0)) (by (with_reducible repeat (first | refine zE ?_ _ | refine zF ?_ | refine zG ?_ _)); exact BK282.out) hb)
             have n2_ := zN (below_step (by repeat (first | (with_reducible first | exact HB.out | apply zA | apply zB | apply zC | refine zD ?_ GE276.out | refine zD ?_ GE282.out) | exact HB.out)) hb)
             clear BK276
             clear BK282
             clear HB
             have BK276 := n0_
             have BK282 := n1_
             have HB := n2_
             clear n0_ n1_ n2_
             (try clear hb)
             (try clear hb2)
             (try clear hk)
             (try clear hi)
             refine hK.out _ _ ⟨(blk_cell BK282.out 0).trans rfl, (blk_cell BK282.out 1).trans rfl, (blk_cell BK282.out 2).trans rfl, (blk_cell BK276.out 0).trans rfl, (blk_cell BK276.out 1).trans rfl, (blk_cell BK276.out 2).trans rfl, (blk_cell BK276.out 3).trans rfl, (blk_cell BK276.out 4).trans rfl⟩ (fun hHeld => ?_)
             clear hK K
             refine norm_ (a' := ?_) ?_ ?_
             rotate_left
             ·show Act.put _ (some 56) _ = _
              simp only [Act.put, List.setIfInBounds_toArray, List.set_cons_zero, List.set_cons_succ, i64_w, i32_w]
              rfl
             refine pure_ (i := 19) (N := some 57) (v := ?_) (a' := ?_) #[true, true, true, true, true, true, true, true, true, true, true, true, true, true, true, true, true, true, true, true] rfl rfl (any_of HT_.out (by kernel_rfl)) (fun _ _ _ h => h) (Or.inl ⟨by rfl, ?_⟩) ?_ ?_
             rotate_left
             ·intro w'
              go_simp
              with_reducible rfl
             rotate_left
             ·simp only [Act.put, List.setIfInBounds_toArray, List.set_cons_zero, List.set_cons_succ, i64_w, i32_w]
              rfl
             refine done_ (done_of HT_.out (by kernel_rfl)) ?_
             try go_wp2
             go_roundg k2
             case measure => have := HJ1.out; have := HK2.out; omega
             case rel => exact ⟨(wrap64 (x33_2 + 1)), (by first | rfl | (simp; done) | (simp [*]; done) | (exact congrArg (Value.int .i64) (wrap_eq (by omega)))), H', ⟨by have := HJ1.out; have := HK2.out; omega⟩, ⟨by (with_reducible repeat (first | refine zE ?_ _ | refine zF ?_ | refine zG ?_ _)); exact BK276.out⟩, ⟨by repeat (first | (with_reducible first | exact HB.out | apply zA | apply zB | apply zC | refine zD ?_ GE276.out | refine zD ?_ GE282.out) | exact HB.out)⟩⟩
           ·rw [if_neg c37] at H
            exact absurd H (by simp)
         ·replace c27 := Bool.eq_false_iff.mpr c27
          subst c27
          have H1 : (some false) = some r := by rw [if_neg (show ¬ (false = true) by decide)] at H; exact H
          clear H
          have H := H1
          clear H1
          obtain rfl := Option.some.inj H
          have p281 : 0 ≤ (x33_2 : Int) := zJ (by first | (with_reducible assumption) | assumption)
          have q281 : x33_2 < (l0_3.length : Int) := zJ (by first | (with_reducible assumption) | assumption)
          obtain ⟨ad281, e281, hx281_0, hx281_1, hx281_2⟩ := at_T116 HR0_3.out x33_2 p281 q281
          cases e281
          replace hx281_0 := (HB.out.cell (zH w _ hx281_0)).trans hx281_0
          replace hx281_1 := (HB.out.cell (zH w _ hx281_1)).trans hx281_1
          replace hx281_2 := (HB.out.cell (zH w _ hx281_2)).trans hx281_2
          replace p281 := eq_true p281
          replace q281 := eq_true q281
          try go_wp2_with (first | ((with_reducible refine gate_dst (N := 4) rfl ?_); (try (refine gate_guard (by rfl) ?_; dsimp only)); refine box_event ?hg (N := 4) ?hd (cs := #[.int .i8 0, .int .i8 0, .int .i8 0]) (t := 116) ?hr ?_; (case hd => rfl); (case hg => rfl); (case hr => first | (go_simp; done) | (go_simp; rfl)); intro gb282 hg w56 hbox hb; have n0_ := zN (blk_below (g := gb276) (o := .cells #[.int .i8 a0_0, .int .i8 a0_1, .slice A0_2 l0_2.length c0_2, .slice (some ad281) l0_3.length c0_3, .slice A0_4 l0_4.length c0_4] 41 (0, 0)) (by (with_reducible repeat (first | refine zE ?_ _ | refine zF ?_ | refine zG ?_ _)); exact BK276.out) hb); have n1_ := zN (below_step (by repeat (first | (with_reducible first | exact HB.out | apply zA | apply zB | apply zC | refine zD ?_ GE276.out) | exact HB.out)) hb); have n2_ := zN (hbox); have n3_ := zN ((by rw [hg]; exact (below_size (by repeat (first | (with_reducible first | exact HB.out | apply zA | apply zB | apply zC | refine zD ?_ GE276.out) | exact HB.out))) : w.heap.size ≤ gb282)); have n4_ := zN ((by rw [hg]; exact (below_size (by repeat (first | (with_reducible first | exact HB.out | apply zA | apply zB | apply zC | refine zD ?_ GE276.out) | exact HB.out))) : w.heap.size ≤ gb282)); have n5_ := zN ((by rw [hg]; exact Nat.ne_of_lt (blk_lt (g := gb276) (o := .cells #[.int .i8 a0_0, .int .i8 a0_1, .slice A0_2 l0_2.length c0_2, .slice (some ad281) l0_3.length c0_3, .slice A0_4 l0_4.length c0_4] 41 (0, 0)) (by (with_reducible repeat (first | refine zE ?_ _ | refine zF ?_ | refine zG ?_ _)); exact BK276.out)) : gb276 ≠ gb282)); have n6_ := zN ((by rw [hg]; exact Nat.ne_of_gt (blk_lt (g := gb276) (o := .cells #[.int .i8 a0_0, .int .i8 a0_1, .slice A0_2 l0_2.length c0_2, .slice (some ad281) l0_3.length c0_3, .slice A0_4 l0_4.length c0_4] 41 (0, 0)) (by (with_reducible repeat (first | refine zE ?_ _ | refine zF ?_ | refine zG ?_ _)); exact BK276.out)) : gb282 ≠ gb276)); clear BK276; clear HB; have BK276 := n0_; have HB := n1_; have BK282 := n2_; have GW282 := n3_; have GE282 := n4_; have NB276_282 := n5_; have NB282_276 := n6_; clear n0_ n1_ n2_ n3_ n4_ n5_ n6_; clear hb hbox hg; have hnb57 := NB282_276.out; have hnc57 := NB276_282.out; have hcz58_0 : w56.cell? ⟨gb282, 0, none⟩ = some (.int .i8 0) := (blk_cell BK282.out 0).trans rfl; have hcz58_1 : w56.cell? ⟨gb282, 1, none⟩ = some (.int .i8 0) := (blk_cell BK282.out 1).trans rfl; have hcz58_2 : w56.cell? ⟨gb282, 2, none⟩ = some (.int .i8 0) := (blk_cell BK282.out 2).trans rfl; have hfz58_0 := blk_frozen BK282.out 0; have hfz58_1 := blk_frozen BK282.out 1; have hfz58_2 := blk_frozen BK282.out 2))
          have n0_ : Aside0 ((((w56.setCell ⟨gb282, 0, none⟩ (.int .i8 ((rd_T116 l0_3 x33_2).f0.f0))).setCell ⟨gb282, 1, none⟩ (.int .i8 ((rd_T116 l0_3 x33_2).f0.f1))).setCell ⟨gb282, 2, none⟩ (.int .i8 ((rd_T116 l0_3 x33_2).f1))).heap[gb276]? = some (.cells #[.int .i8 a0_0, .int .i8 a0_1, .slice A0_2 l0_2.length c0_2, .slice (some ad281) l0_3.length c0_3, .slice A0_4 l0_4.length c0_4] 41 (0, 0))) := ⟨by (with_reducible repeat (first | refine zE ?_ _ | refine zF ?_ | refine zG ?_ _)); refine blk_far ?_ NB276_282.out _; (with_reducible repeat (first | refine zE ?_ _ | refine zF ?_ | refine zG ?_ _)); refine blk_far ?_ NB276_282.out _; (with_reducible repeat (first | refine zE ?_ _ | refine zF ?_ | refine zG ?_ _)); refine blk_far ?_ NB276_282.out _; (with_reducible repeat (first | refine zE ?_ _ | refine zF ?_ | refine zG ?_ _)); exact BK276.out⟩
          have n1_ : Aside0 ((((w56.setCell ⟨gb282, 0, none⟩ (.int .i8 ((rd_T116 l0_3 x33_2).f0.f0))).setCell ⟨gb282, 1, none⟩ (.int .i8 ((rd_T116 l0_3 x33_2).f0.f1))).setCell ⟨gb282, 2, none⟩ (.int .i8 ((rd_T116 l0_3 x33_2).f1))).heap[gb282]? = some (.cells #[.int .i8 ((rd_T116 l0_3 x33_2).f0.f0), .int .i8 ((rd_T116 l0_3 x33_2).f0.f1), .int .i8 ((rd_T116 l0_3 x33_2).f1)] 116 (0, 0))) := ⟨by (with_reducible repeat (first | refine zE ?_ _ | refine zF ?_ | refine zG ?_ _)); refine blk_put (cs := #[.int .i8 ((rd_T116 l0_3 x33_2).f0.f0), .int .i8 ((rd_T116 l0_3 x33_2).f0.f1), .int .i8 0]) ?_ 2 _ rfl; (with_reducible repeat (first | refine zE ?_ _ | refine zF ?_ | refine zG ?_ _)); refine blk_put (cs := #[.int .i8 ((rd_T116 l0_3 x33_2).f0.f0), .int .i8 0, .int .i8 0]) ?_ 1 _ rfl; (with_reducible repeat (first | refine zE ?_ _ | refine zF ?_ | refine zG ?_ _)); refine blk_put (cs := #[.int .i8 0, .int .i8 0, .int .i8 0]) ?_ 0 _ rfl; (with_reducible repeat (first | refine zE ?_ _ | refine zF ?_ | refine zG ?_ _)); exact BK282.out⟩
          have n2_ : Aside0 (Below w.heap.size w (((w56.setCell ⟨gb282, 0, none⟩ (.int .i8 ((rd_T116 l0_3 x33_2).f0.f0))).setCell ⟨gb282, 1, none⟩ (.int .i8 ((rd_T116 l0_3 x33_2).f0.f1))).setCell ⟨gb282, 2, none⟩ (.int .i8 ((rd_T116 l0_3 x33_2).f1)))) := ⟨by repeat (first | (with_reducible first | exact HB.out | apply zA | apply zB | apply zC | refine zD ?_ GE276.out | refine zD ?_ GE282.out) | exact HB.out)⟩
          (try clear BK276)
          (try clear BK282)
          (try clear HB)
          generalize (((w56.setCell ⟨gb282, 0, none⟩ (.int .i8 ((rd_T116 l0_3 x33_2).f0.f0))).setCell ⟨gb282, 1, none⟩ (.int .i8 ((rd_T116 l0_3 x33_2).f0.f1))).setCell ⟨gb282, 2, none⟩ (.int .i8 ((rd_T116 l0_3 x33_2).f1))) = w59 at n0_ n1_ n2_ ⊢
          have BK276 := n0_
          have BK282 := n1_
          have HB := n2_
          clear n0_ n1_ n2_
          have n0_ := zN (zF BK276.out)
          have n1_ := zN (zF BK282.out)
          have n2_ := zN (zC HB.out)
          clear BK276
          clear BK282
          clear HB
          have BK276 := n0_
          have BK282 := n1_
          have HB := n2_
          clear n0_ n1_ n2_
          refine start_ (n := 20) (S := fun w' => w'.cell? ⟨gb282, 0, none⟩ = some (.int .i8 ((rd_T116 l0_3 x33_2).f0.f0)) ∧ w'.cell? ⟨gb282, 1, none⟩ = some (.int .i8 ((rd_T116 l0_3 x33_2).f0.f1)) ∧ w'.cell? ⟨gb282, 2, none⟩ = some (.int .i8 ((rd_T116 l0_3 x33_2).f1))) (ds := []) #[false, false, false, false, false, false, false, false, false, false, false, false, false, false, false, false, false, false, false, false] (by kernel_rfl) rfl rfl ⟨(blk_cell BK282.out 0).trans rfl, (blk_cell BK282.out 1).trans rfl, (blk_cell BK282.out 2).trans rfl⟩ (fun hHeld => ?_); refine with_tabW impl_ValidMachine.tab6 impl_ValidMachine.bits6 (fun HT_ HW_ => ?_)
          generalize w59.drew = w60 at BK276 BK282 HB hHeld ⊢
          refine pure_ (i := 0) (N := some 38) (v := ?_) (a' := ?_) #[true, false, false, false, false, false, false, false, false, false, false, false, false, false, false, false, false, false, false, false] rfl rfl (any_of HT_.out (by kernel_rfl)) (fun _ _ _ h => h) (Or.inl ⟨by rfl, ?_⟩) ?_ ?_
          rotate_left
          ·intro w'
           go_simp
           with_reducible rfl
          rotate_left
          ·simp only [Act.put, List.setIfInBounds_toArray, List.set_cons_zero, List.set_cons_succ, i64_w, i32_w]
           rfl
          refine take_ (i := 1) (N := some 39) (v := ?_) (a' := ?_) #[true, true, false, false, false, false, false, false, false, false, false, false, false, false, false, false, false, false, false, false] rfl rfl (take_ofW HT_.out HW_.out (by kernel_rfl)) (fun _ _ _ h => h) (Or.inl ⟨by rfl, ?_⟩) hHeld ?_ ?_
          rotate_left
          ·rintro w' ⟨s0, s1, s2⟩
           go_simp
           with_reducible rfl
          rotate_left
          ·simp only [Act.put, List.setIfInBounds_toArray, List.set_cons_zero, List.set_cons_succ, i64_w, i32_w]
           rfl
          refine pure_ (i := 2) (N := some 40) (v := ?_) (a' := ?_) #[true, true, true, false, false, false, false, false, false, false, false, false, false, false, false, false, false, false, false, false] rfl rfl (any_of HT_.out (by kernel_rfl)) (fun _ _ _ h => h) (Or.inl ⟨by rfl, ?_⟩) ?_ ?_
          rotate_left
          ·intro w'
           go_simp
           with_reducible rfl
          rotate_left
          ·simp only [Act.put, List.setIfInBounds_toArray, List.set_cons_zero, List.set_cons_succ, i64_w, i32_w]
           rfl
          refine one_ (i := 3) (N := some 41) #[true, true, true, true, false, false, false, false, false, false, false, false, false, false, false, false, false, false, false, false] rfl rfl (one_of HT_.out (by kernel_rfl)) (by decide) (fun K hK => ?_)
          refine goes_ Try.func146 (by kernel_rfl) rfl #[.int .i64 (wrap64 ((rd_T116 l0_3 x33_2).f1))] (by rfl) rfl rfl (by (try simp only [List.map_toArray, List.map_cons, List.map_nil]); first | done | rfl | (simp only [List.length_drop, List.length_take]; rfl)) ?_
          with_reducible refine (impl_isSide.calls (wrap64 ((rd_T116 l0_3 x33_2).f1)) false _ A26.out).mono ?_
          rintro e w' ⟨rfl, ⟨nd, rfl⟩⟩
          refine ⟨_, rfl, ?_⟩
          refine hK.out _ _ ⟨(blk_cell BK282.out 0).trans rfl, (blk_cell BK282.out 1).trans rfl, (blk_cell BK282.out 2).trans rfl⟩ (fun hHeld => ?_)
          clear hK K
          refine norm_ (a' := ?_) ?_ ?_
          rotate_left
          ·show Act.put _ (some 41) _ = _
           simp only [Act.put, List.setIfInBounds_toArray, List.set_cons_zero, List.set_cons_succ, i64_w, i32_w]
           rfl
          refine pure_ (i := 4) (N := some 42) (v := ?_) (a' := ?_) #[true, true, true, true, true, false, false, false, false, false, false, false, false, false, false, false, false, false, false, false] rfl rfl (any_of HT_.out (by kernel_rfl)) (fun _ _ _ h => h) (Or.inl ⟨by rfl, ?_⟩) ?_ ?_
          rotate_left
          ·intro w'
           go_simp
           with_reducible rfl
          rotate_left
          ·simp only [Act.put, List.setIfInBounds_toArray, List.set_cons_zero, List.set_cons_succ, i64_w, i32_w]
           rfl
          refine pure_ (i := 5) (N := some 43) (v := ?_) (a' := ?_) #[true, true, true, true, true, true, false, false, false, false, false, false, false, false, false, false, false, false, false, false] rfl rfl (any_of HT_.out (by kernel_rfl)) (fun _ _ _ h => h) (Or.inl ⟨by rfl, ?_⟩) ?_ ?_
          rotate_left
          ·intro w'
           go_simp
           with_reducible rfl
          rotate_left
          ·simp only [Act.put, List.setIfInBounds_toArray, List.set_cons_zero, List.set_cons_succ, i64_w, i32_w]
           rfl
          refine pure_ (i := 6) (N := some 44) (v := undef) (a' := ?_) #[true, true, true, true, true, true, true, false, false, false, false, false, false, false, false, false, false, false, false, false] rfl rfl (any_of HT_.out (by kernel_rfl)) (fun _ _ _ h => h) (Or.inr ⟨by rfl, rfl⟩) ?_ ?_
          rotate_left
          ·simp only [Act.put, List.setIfInBounds_toArray, List.set_cons_zero, List.set_cons_succ, i64_w, i32_w]
           rfl
          refine pure_ (i := 7) (N := some 45) (v := undef) (a' := ?_) #[true, true, true, true, true, true, true, true, false, false, false, false, false, false, false, false, false, false, false, false] rfl rfl (any_of HT_.out (by kernel_rfl)) (fun _ _ _ h => h) (Or.inr ⟨by rfl, rfl⟩) ?_ ?_
          rotate_left
          ·simp only [Act.put, List.setIfInBounds_toArray, List.set_cons_zero, List.set_cons_succ, i64_w, i32_w]
           rfl
          refine pure_ (i := 8) (N := some 46) (v := undef) (a' := ?_) #[true, true, true, true, true, true, true, true, true, false, false, false, false, false, false, false, false, false, false, false] rfl rfl (any_of HT_.out (by kernel_rfl)) (fun _ _ _ h => h) (Or.inr ⟨by rfl, rfl⟩) ?_ ?_
          rotate_left
          ·simp only [Act.put, List.setIfInBounds_toArray, List.set_cons_zero, List.set_cons_succ, i64_w, i32_w]
           rfl
          refine pure_ (i := 9) (N := some 47) (v := undef) (a' := ?_) #[true, true, true, true, true, true, true, true, true, true, false, false, false, false, false, false, false, false, false, false] rfl rfl (any_of HT_.out (by kernel_rfl)) (fun _ _ _ h => h) (Or.inr ⟨by rfl, rfl⟩) ?_ ?_
          rotate_left
          ·simp only [Act.put, List.setIfInBounds_toArray, List.set_cons_zero, List.set_cons_succ, i64_w, i32_w]
           rfl
          refine pure_ (i := 10) (N := some 48) (v := undef) (a' := ?_) #[true, true, true, true, true, true, true, true, true, true, true, false, false, false, false, false, false, false, false, false] rfl rfl (any_of HT_.out (by kernel_rfl)) (fun _ _ _ h => h) (Or.inr ⟨by rfl, rfl⟩) ?_ ?_
          rotate_left
          ·simp only [Act.put, List.setIfInBounds_toArray, List.set_cons_zero, List.set_cons_succ, i64_w, i32_w]
           rfl
          refine pure_ (i := 11) (N := some 49) (v := ?_) (a' := ?_) #[true, true, true, true, true, true, true, true, true, true, true, true, false, false, false, false, false, false, false, false] rfl rfl (any_of HT_.out (by kernel_rfl)) (fun _ _ _ h => h) (Or.inl ⟨by rfl, ?_⟩) ?_ ?_
          rotate_left
          ·intro w'
           go_simp
           with_reducible rfl
          rotate_left
          ·simp only [Act.put, List.setIfInBounds_toArray, List.set_cons_zero, List.set_cons_succ, i64_w, i32_w]
           rfl
          refine pure_ (i := 12) (N := some 50) (v := ?_) (a' := ?_) #[true, true, true, true, true, true, true, true, true, true, true, true, true, false, false, false, false, false, false, false] rfl rfl (any_of HT_.out (by kernel_rfl)) (fun _ _ _ h => h) (Or.inl ⟨by rfl, ?_⟩) ?_ ?_
          rotate_left
          ·intro w'
           go_simp
           with_reducible rfl
          rotate_left
          ·simp only [Act.put, List.setIfInBounds_toArray, List.set_cons_zero, List.set_cons_succ, i64_w, i32_w]
           rfl
          refine pure_ (i := 13) (N := some 51) (v := undef) (a' := ?_) #[true, true, true, true, true, true, true, true, true, true, true, true, true, true, false, false, false, false, false, false] rfl rfl (any_of HT_.out (by kernel_rfl)) (fun _ _ _ h => h) (Or.inr ⟨by rfl, rfl⟩) ?_ ?_
          rotate_left
          ·simp only [Act.put, List.setIfInBounds_toArray, List.set_cons_zero, List.set_cons_succ, i64_w, i32_w]
           rfl
          refine pure_ (i := 14) (N := some 52) (v := undef) (a' := ?_) #[true, true, true, true, true, true, true, true, true, true, true, true, true, true, true, false, false, false, false, false] rfl rfl (any_of HT_.out (by kernel_rfl)) (fun _ _ _ h => h) (Or.inr ⟨by rfl, rfl⟩) ?_ ?_
          rotate_left
          ·simp only [Act.put, List.setIfInBounds_toArray, List.set_cons_zero, List.set_cons_succ, i64_w, i32_w]
           rfl
          refine pure_ (i := 15) (N := some 53) (v := undef) (a' := ?_) #[true, true, true, true, true, true, true, true, true, true, true, true, true, true, true, true, false, false, false, false] rfl rfl (any_of HT_.out (by kernel_rfl)) (fun _ _ _ h => h) (Or.inr ⟨by rfl, rfl⟩) ?_ ?_
          rotate_left
          ·simp only [Act.put, List.setIfInBounds_toArray, List.set_cons_zero, List.set_cons_succ, i64_w, i32_w]
           rfl
          refine pure_ (i := 16) (N := some 54) (v := undef) (a' := ?_) #[true, true, true, true, true, true, true, true, true, true, true, true, true, true, true, true, true, false, false, false] rfl rfl (any_of HT_.out (by kernel_rfl)) (fun _ _ _ h => h) (Or.inr ⟨by rfl, rfl⟩) ?_ ?_
          rotate_left
          ·simp only [Act.put, List.setIfInBounds_toArray, List.set_cons_zero, List.set_cons_succ, i64_w, i32_w]
           rfl
          refine pure_ (i := 17) (N := some 55) (v := undef) (a' := ?_) #[true, true, true, true, true, true, true, true, true, true, true, true, true, true, true, true, true, true, false, false] rfl rfl (any_of HT_.out (by kernel_rfl)) (fun _ _ _ h => h) (Or.inr ⟨by rfl, rfl⟩) ?_ ?_
          rotate_left
          ·simp only [Act.put, List.setIfInBounds_toArray, List.set_cons_zero, List.set_cons_succ, i64_w, i32_w]
           rfl
          refine pure_ (i := 18) (N := some 56) (v := undef) (a' := ?_) #[true, true, true, true, true, true, true, true, true, true, true, true, true, true, true, true, true, true, true, false] rfl rfl (any_of HT_.out (by kernel_rfl)) (fun _ _ _ h => h) (Or.inr ⟨by rfl, rfl⟩) ?_ ?_
          rotate_left
          ·simp only [Act.put, List.setIfInBounds_toArray, List.set_cons_zero, List.set_cons_succ, i64_w, i32_w]
           rfl
          refine pure_ (i := 19) (N := some 57) (v := ?_) (a' := ?_) #[true, true, true, true, true, true, true, true, true, true, true, true, true, true, true, true, true, true, true, true] rfl rfl (any_of HT_.out (by kernel_rfl)) (fun _ _ _ h => h) (Or.inl ⟨by rfl, ?_⟩) ?_ ?_
          rotate_left
          ·intro w'
           go_simp
           with_reducible rfl
          rotate_left
          ·simp only [Act.put, List.setIfInBounds_toArray, List.set_cons_zero, List.set_cons_succ, i64_w, i32_w]
           rfl
          refine done_ (done_of HT_.out (by kernel_rfl)) ?_
          try go_wp2
          go_ret
          exact ⟨by first | rfl | (simp [errW_none, errW_some] <;> rfl) | (simp [*, errW_none, errW_some] <;> rfl), by repeat (first | (with_reducible first | exact HB.out | apply zA | apply zB | apply zC | refine zD ?_ GE276.out | refine zD ?_ GE282.out) | exact HB.out)⟩
        ·rw [if_neg c25] at H
         exact absurd H (by simp)
       ·rw [if_neg c24] at H
        exact absurd H (by simp)
      ·rw [if_neg c23] at H
       have c23b0 : decide (x33_2 < (l0_3.length : Int)) = false := decide_eq_false c23
       clear c23
       replace H := Option.bind_eq_some_iff.mp H
       obtain ⟨t280, A610, H⟩ := H
       replace H : (some (!t280)) = some r := H
       have A61 := zN A610
       clear A610
       obtain rfl := Option.some.inj H
       have hcz62_0 : wr.cell? ⟨gb276, 0, none⟩ = some (.int .i8 a0_0) := (blk_cell BK276.out 0).trans rfl
       have hcz62_1 : wr.cell? ⟨gb276, 1, none⟩ = some (.int .i8 a0_1) := (blk_cell BK276.out 1).trans rfl
       have hcz62_2 : wr.cell? ⟨gb276, 2, none⟩ = some (.slice A0_2 l0_2.length c0_2) := (blk_cell BK276.out 2).trans rfl
       have hcz62_3 : wr.cell? ⟨gb276, 3, none⟩ = some (.slice A0_3 l0_3.length c0_3) := (blk_cell BK276.out 3).trans rfl
       have hcz62_4 : wr.cell? ⟨gb276, 4, none⟩ = some (.slice A0_4 l0_4.length c0_4) := (blk_cell BK276.out 4).trans rfl
       have hfz62_0 := blk_frozen BK276.out 0
       have hfz62_1 := blk_frozen BK276.out 1
       have hfz62_2 := blk_frozen BK276.out 2
       have hfz62_3 := blk_frozen BK276.out 3
       have hfz62_4 := blk_frozen BK276.out 4
       go_wp2_with (first | ((with_reducible refine gate_callee (f := 148) rfl ?_); refine goesL_ (some 62) rfl rfl Try.func148 (by kernel_rfl) rfl #[.slice A0_4 l0_4.length c0_4, .func (.func 149) #[] #[.pointer (some ⟨gb276, 0, none⟩)]] rfl (by (try simp only [List.map_toArray, List.map_cons, List.map_nil]); first | done | rfl | (simp only [List.length_drop, List.length_take]; rfl)) ?_; (with_reducible refine (slices_ContainsFunc__impl_ValidMachine_1.calls k2 _ _ l0_4 _ [(⟨(⟨a0_0, a0_1, l0_2⟩ : S37), l0_3, l0_4⟩ : S41)] t280 _ ?side1 ?side2 ?side3 A61.out).mono ?_); (case side1 => repeat (first | exact (Kd.C_below HR0_4.out HB.out) | (with_reducible refine Kd.C_alloc ?_ _) | (with_reducible refine Kd.C_drewN ?_ _) | (with_reducible refine Kd.C_drew ?_))); (case side2 => exact HC0_4.out); (case side3 => refine ro_of_blk (T := 41) (cs := #[.int .i8 a0_0, .int .i8 a0_1, .slice A0_2 l0_2.length c0_2, .slice A0_3 l0_3.length c0_3, .slice A0_4 l0_4.length c0_4]) (by (with_reducible repeat (first | refine zE ?_ _ | refine zF ?_ | refine zG ?_ _)); exact BK276.out) ?_; exact k41_mk _ (⟨(⟨a0_0, a0_1, l0_2⟩ : S37), l0_3, l0_4⟩ : S41) (by exact HC0_2.out) (by repeat (first | exact (Kd.C_below HR0_2.out HB.out) | (with_reducible refine Kd.C_alloc ?_ _) | (with_reducible refine Kd.C_drewN ?_ _) | (with_reducible refine Kd.C_drew ?_))) (by exact HC0_3.out) (by repeat (first | exact (Kd.C_below HR0_3.out HB.out) | (with_reducible refine Kd.C_alloc ?_ _) | (with_reducible refine Kd.C_drewN ?_ _) | (with_reducible refine Kd.C_drew ?_))) (by exact HC0_4.out) (by repeat (first | exact (Kd.C_below HR0_4.out HB.out) | (with_reducible refine Kd.C_alloc ?_ _) | (with_reducible refine Kd.C_drewN ?_ _) | (with_reducible refine Kd.C_drew ?_)))); rintro e w63 ⟨rfl, hb⟩; refine ⟨_, rfl, ?_⟩; have n0_ := zN (blk_below (g := gb276) (o := .cells #[.int .i8 a0_0, .int .i8 a0_1, .slice A0_2 l0_2.length c0_2, .slice A0_3 l0_3.length c0_3, .slice A0_4 l0_4.length c0_4] 41 (0, 0)) (by (with_reducible repeat (first | refine zE ?_ _ | refine zF ?_ | refine zG ?_ _)); exact BK276.out) hb); have n1_ := zN (below_step (by repeat (first | (with_reducible first | exact HB.out | apply zA | apply zB | apply zC | refine zD ?_ GE276.out) | exact HB.out)) hb); clear BK276; clear HB; have BK276 := n0_; have HB := n1_; clear n0_ n1_; (try clear hb); (try clear hb2); (try clear hk); (try clear hi)))
       go_ret
       exact ⟨by first | rfl | (simp [errW_none, errW_some] <;> rfl) | (simp [*, errW_none, errW_some] <;> rfl), by repeat (first | (with_reducible first | exact HB.out | apply zA | apply zB | apply zC | refine zD ?_ GE276.out) | exact HB.out)⟩

end Go.Proofs.Ytffnfpnajkgnaaa.PFnExactValidMachine
