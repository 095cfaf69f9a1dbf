-- short
-- WRITTEN by xprint.py, a program of this session's. Not trusted: Lean checks it.
import Derived.Test.YtffnfpnajkgnaaaPFnExactValidMachinex0
import Derived.Test.YtffnfpnajkgnaaaPFnExactValidMachinex2
import Derived.Test.YtffnfpnajkgnaaaPFnExactValidMachinex10
namespace Go.Proofs.Ytffnfpnajkgnaaa.PFnExactValidMachine
open Go.RowKit Go.Proofs.YtffnfpnajkgnaaaW.PrintWords Go.Proofs.YtffnfpnajkgnaaaW.PrintLast Go.Proofs.YtffnfpnajkgnaaaW.PrintMore Go.Proofs.YtffnfpnajkgnaaaX
attribute [local go_sem] max2_int min2_int max_two min_two max_three min_three max_four min_four   -- for this text's walks alone
set_option linter.unusedVariables false
set_option linter.unusedSimpArgs false

attribute [local go_sem high] eqA116
/-! ### impl_Port_180: function 180 -/
def impl_Port_180.l0 : Nat → List (S116) → Int → Int → Int → Int → Int → Option (Int)
 | 0, _, _, _, _, _, _ => none
 | k + 1, x0, x7, x8, x267000, x267001, x267002 => if x8 < x7 then (if 0 ≤ x8 then (if x8 < (x0.length : Int) then (if ((x267000 == ((rd_T116 x0 x8).f0.f0) && (x267001 == ((rd_T116 x0 x8).f0.f1))) && (x267002 == ((rd_T116 x0 x8).f1))) = true then (some x8) else (impl_Port_180.l0 k x0 x7 (wrap64 (x8 + 1)) x267000 x267001 x267002)) else (none)) else (none)) else (some (-1))
def impl_Port_180.f (k : Nat) (l0 : List (S116)) (a1_0 : Int) (a1_1 : Int) (a1_2 : Int) : Option (Int) := impl_Port_180.l0 k l0 (l0.length : Int) 0 a1_0 a1_1 a1_2
theorem impl_Port_180.mono_l : ∀ k, (∀ y0 y1 y2 y3 y4 y5, LeO (impl_Port_180.l0 k y0 y1 y2 y3 y4 y5) (impl_Port_180.l0 (k + 1) y0 y1 y2 y3 y4 y5))
 | 0 => fun _ _ _ _ _ _ r h => by simp [impl_Port_180.l0] at h
 | k + 1 => by
  have ih0 := impl_Port_180.mono_l k
  ·intro y0 y1 y2 y3 y4 y5
   unfold impl_Port_180.l0
   repeat' first
   | (with_reducible exact ih0 _ _ _ _ _ _)
   | (with_reducible exact LeO.refl _)
   | (with_reducible exact LeO.none _)
   | (with_reducible refine LeO.ite ?_ ?_)
   | (with_reducible refine LeO.bind ?_ (fun _ => ?_))
   | exact ih0 _ _ _ _ _ _
   | exact LeO.none _
   | refine LeO.ite ?_ ?_
   | refine LeO.bind ?_ (fun _ => ?_)
theorem impl_Port_180.mono : ∀ a0 a1 a2 a3 k, LeO (impl_Port_180.f k a0 a1 a2 a3) (impl_Port_180.f (k + 1) a0 a1 a2 a3) := by
 intro a0 a1 a2 a3 k
 have ih0 := impl_Port_180.mono_l k
 unfold impl_Port_180.f
 repeat' first
   | (with_reducible exact ih0 _ _ _ _ _ _)
   | (with_reducible exact LeO.refl _)
   | (with_reducible exact LeO.none _)
   | (with_reducible refine LeO.ite ?_ ?_)
   | (with_reducible refine LeO.bind ?_ (fun _ => ?_))
   | exact ih0 _ _ _ _ _ _
   | exact LeO.none _
   | refine LeO.ite ?_ ?_
   | refine LeO.bind ?_ (fun _ => ?_)
set_option maxHeartbeats 8000000 in
set_option maxRecDepth 100000 in
theorem impl_Port_180.calls (k : Nat) (A0 : Option Addr) (c0 : Nat) (l0 : List (S116)) (a1_0 : Int) (a1_1 : Int) (a1_2 : Int) (r : Int) (w : World) (hr0 : Kd.C k116 w A0 l0.length l0) (hc0 : l0.length ≤ c0) (h : impl_Port_180.f k l0 a1_0 a1_1 a1_2 = some r) :
  Calls Try.prog 180 #[.slice A0 l0.length c0, .agg #[.int .i8 a1_0, .int .i8 a1_1, .int .i8 a1_2]] w fun e w' => e = .returned (.int .i64 r) ∧ Below w.heap.size w w' := by
 have hu116 := Try.underlying116
 have HR0 := zN hr0
 have HC0 := zN hc0
 clear hr0 hc0
 have HB := zN (Below.refl w.heap.size w)
 have H : (impl_Port_180.l0 k l0 (l0.length : Int) 0 a1_0 a1_1 a1_2) = some r := h
 clear h
 have H' := zN H
 clear H
 go_enter Try.func180, Try.ntmps180
 go_wp2_with (first | ((with_reducible refine gate_dst (N := 3) rfl ?_); refine box_event ?hg (N := 3) ?hd (cs := #[.int .i8 a1_0, .int .i8 a1_1, .int .i8 a1_2]) (t := 116) ?hr ?_; (case hd => rfl); (case hg => rfl); (case hr => first | (go_simp; done) | (go_simp; rfl)); intro gb266 hg w3 hbox hb; have n0_ := zN (below_step (by repeat (first | (with_reducible first | exact HB.out | apply zA | apply zB | apply zC) | exact HB.out)) hb); have n1_ := zN (hbox); have n2_ := zN ((by rw [hg]; exact (below_size (by repeat (first | (with_reducible first | exact HB.out | apply zA | apply zB | apply zC) | exact HB.out))) : w.heap.size ≤ gb266)); have n3_ := zN ((by rw [hg]; exact (below_size (by repeat (first | (with_reducible first | exact HB.out | apply zA | apply zB | apply zC) | exact HB.out))) : w.heap.size ≤ gb266)); clear HB; have HB := n0_; have BK266 := n1_; have GW266 := n2_; have GE266 := n3_; clear n0_ n1_ n2_ n3_; clear hb hbox hg))
 repeat (go_quiet (first | ((with_reducible refine gate_dst (N := 3) rfl ?_); refine box_event ?hg (N := 3) ?hd (cs := #[.int .i8 a1_0, .int .i8 a1_1, .int .i8 a1_2]) (t := 116) ?hr ?_; (case hd => rfl); (case hg => rfl); (case hr => first | (go_simp; done) | (go_simp; rfl)); intro gb266 hg w3 hbox hb; have n0_ := zN (below_step (by repeat (first | (with_reducible first | exact HB.out | apply zA | apply zB | apply zC) | exact HB.out)) hb); have n1_ := zN (hbox); have n2_ := zN ((by rw [hg]; exact (below_size (by repeat (first | (with_reducible first | exact HB.out | apply zA | apply zB | apply zC) | exact HB.out))) : w.heap.size ≤ gb266)); have n3_ := zN ((by rw [hg]; exact (below_size (by repeat (first | (with_reducible first | exact HB.out | apply zA | apply zB | apply zC) | exact HB.out))) : w.heap.size ≤ gb266)); clear HB; have HB := n0_; have BK266 := n1_; have GW266 := n2_; have GE266 := n3_; clear n0_ n1_ n2_ n3_; clear hb hbox hg)); try go_wp2_with (first | ((with_reducible refine gate_dst (N := 3) rfl ?_); refine box_event ?hg (N := 3) ?hd (cs := #[.int .i8 a1_0, .int .i8 a1_1, .int .i8 a1_2]) (t := 116) ?hr ?_; (case hd => rfl); (case hg => rfl); (case hr => first | (go_simp; done) | (go_simp; rfl)); intro gb266 hg w3 hbox hb; have n0_ := zN (below_step (by repeat (first | (with_reducible first | exact HB.out | apply zA | apply zB | apply zC) | exact HB.out)) hb); have n1_ := zN (hbox); have n2_ := zN ((by rw [hg]; exact (below_size (by repeat (first | (with_reducible first | exact HB.out | apply zA | apply zB | apply zC) | exact HB.out))) : w.heap.size ≤ gb266)); have n3_ := zN ((by rw [hg]; exact (below_size (by repeat (first | (with_reducible first | exact HB.out | apply zA | apply zB | apply zC) | exact HB.out))) : w.heap.size ≤ gb266)); clear HB; have HB := n0_; have BK266 := n1_; have GW266 := n2_; have GE266 := n3_; clear n0_ n1_ n2_ n3_; clear hb hbox hg)))
 go_loopg [8] k (fun kq v8 w' => ∃ (x8_1 : Int), v8 = .int .i64 x8_1 ∧ Aside0 (impl_Port_180.l0 kq l0 (l0.length : Int) x8_1 a1_0 a1_1 a1_2 = some r) ∧ Aside0 (kq ≤ k) ∧ Aside0 (w'.heap[gb266]? = some (.cells #[.int .i8 a1_0, .int .i8 a1_1, .int .i8 a1_2] 116 (0, 0))) ∧ Aside0 (Below w.heap.size w w'))
 case atStart => exact ⟨(0), (by first | rfl | (simp; done) | (simp [*]; done) | (exact congrArg (Value.int .i64) (wrap_eq (by omega)))), H', ⟨Nat.le_refl _⟩, ⟨by (with_reducible repeat (first | refine zE ?_ _ | refine zF ?_ | refine zG ?_ _)); exact BK266.out⟩, ⟨by repeat (first | (with_reducible first | exact HB.out | apply zA | apply zB | apply zC | refine zD ?_ GE266.out) | exact HB.out)⟩⟩
 case round =>
  clear H'
  try clear c1
  try clear p2
  obtain ⟨x8_1, rfl, HA, HK1, BK266, HB⟩ := hrel
  cases gk with
  | zero => exact absurd HA.out (by simp [impl_Port_180.l0])
  | succ k1 =>
   have H := HA.out
   clear HA
   simp only [impl_Port_180.l0] at H
   by_cases c4 : x8_1 < (l0.length : Int)
   ·rw [if_pos c4] at H
    have c4b0 : decide (x8_1 < (l0.length : Int)) = true := decide_eq_true c4
    clear c4
    by_cases c5 : 0 ≤ x8_1
    ·rw [if_pos c5] at H
     have c5b0 : decide (0 ≤ x8_1) = true := decide_eq_true c5
     clear c5
     by_cases c6 : x8_1 < (l0.length : Int)
     ·rw [if_pos c6] at H
      have c6b0 : decide (x8_1 < (l0.length : Int)) = true := decide_eq_true c6
      clear c6
      by_cases c7 : ((a1_0 == ((rd_T116 l0 x8_1).f0.f0) && (a1_1 == ((rd_T116 l0 x8_1).f0.f1))) && (a1_2 == ((rd_T116 l0 x8_1).f1))) = true
      ·rw [if_pos c7] at H
       have c7b0 : ((a1_0 == ((rd_T116 l0 x8_1).f0.f0) && (a1_1 == ((rd_T116 l0 x8_1).f0.f1))) && (a1_2 == ((rd_T116 l0 x8_1).f1))) = true := c7
       clear c7
       obtain rfl := Option.some.inj H
       have hcz8_0 : wr.cell? ⟨gb266, 0, none⟩ = some (.int .i8 a1_0) := (blk_cell BK266.out 0).trans rfl
       have hcz8_1 : wr.cell? ⟨gb266, 1, none⟩ = some (.int .i8 a1_1) := (blk_cell BK266.out 1).trans rfl
       have hcz8_2 : wr.cell? ⟨gb266, 2, none⟩ = some (.int .i8 a1_2) := (blk_cell BK266.out 2).trans rfl
       have hfz8_0 := blk_frozen BK266.out 0
       have hfz8_1 := blk_frozen BK266.out 1
       have hfz8_2 := blk_frozen BK266.out 2
       have p267 : 0 ≤ (x8_1 : Int) := zJ (by first | (with_reducible assumption) | assumption)
       have q267 : x8_1 < (l0.length : Int) := zJ (by first | (with_reducible assumption) | assumption)
       obtain ⟨ad267, e267, hx267_0, hx267_1, hx267_2⟩ := at_T116 HR0.out x8_1 p267 q267
       cases e267
       replace hx267_0 := (HB.out.cell (zH w _ hx267_0)).trans hx267_0
       replace hx267_1 := (HB.out.cell (zH w _ hx267_1)).trans hx267_1
       replace hx267_2 := (HB.out.cell (zH w _ hx267_2)).trans hx267_2
       replace p267 := eq_true p267
       replace q267 := eq_true q267
       go_wp2
       repeat (go_quiet (fail); try go_wp2)
       go_ret
       exact ⟨by first | rfl | (simp [errW_none, errW_some] <;> rfl) | (simp [*, errW_none, errW_some] <;> rfl), by repeat (first | (with_reducible first | exact HB.out | apply zA | apply zB | apply zC | refine zD ?_ GE266.out) | exact HB.out)⟩
      ·rw [if_neg c7] at H
       have c7b0 : ((a1_0 == ((rd_T116 l0 x8_1).f0.f0) && (a1_1 == ((rd_T116 l0 x8_1).f0.f1))) && (a1_2 == ((rd_T116 l0 x8_1).f1))) = false := by simpa using c7
       clear c7
       have H' := zN H
       clear H
       have hcz9_0 : wr.cell? ⟨gb266, 0, none⟩ = some (.int .i8 a1_0) := (blk_cell BK266.out 0).trans rfl
       have hcz9_1 : wr.cell? ⟨gb266, 1, none⟩ = some (.int .i8 a1_1) := (blk_cell BK266.out 1).trans rfl
       have hcz9_2 : wr.cell? ⟨gb266, 2, none⟩ = some (.int .i8 a1_2) := (blk_cell BK266.out 2).trans rfl
       have hfz9_0 := blk_frozen BK266.out 0
       have hfz9_1 := blk_frozen BK266.out 1
       have hfz9_2 := blk_frozen BK266.out 2
       have p267 : 0 ≤ (x8_1 : Int) := zJ (by first | (with_reducible assumption) | assumption)
       have q267 : x8_1 < (l0.length : Int) := zJ (by first | (with_reducible assumption) | assumption)
       obtain ⟨ad267, e267, hx267_0, hx267_1, hx267_2⟩ := at_T116 HR0.out x8_1 p267 q267
       cases e267
       replace hx267_0 := (HB.out.cell (zH w _ hx267_0)).trans hx267_0
       replace hx267_1 := (HB.out.cell (zH w _ hx267_1)).trans hx267_1
       replace hx267_2 := (HB.out.cell (zH w _ hx267_2)).trans hx267_2
       replace p267 := eq_true p267
       replace q267 := eq_true q267
       go_wp2
       repeat (go_quiet (fail); try go_wp2)
       go_roundg k1
       case measure => have := HK1.out; omega
       case rel => exact ⟨(wrap64 (x8_1 + 1)), (by first | rfl | (simp; done) | (simp [*]; done) | (exact congrArg (Value.int .i64) (wrap_eq (by omega)))), H', ⟨by have := HK1.out; omega⟩, ⟨by (with_reducible repeat (first | refine zE ?_ _ | refine zF ?_ | refine zG ?_ _)); exact BK266.out⟩, ⟨by repeat (first | (with_reducible first | exact HB.out | apply zA | apply zB | apply zC | refine zD ?_ GE266.out) | exact HB.out)⟩⟩
     ·rw [if_neg c6] at H
      exact absurd H (by simp)
    ·rw [if_neg c5] at H
     exact absurd H (by simp)
   ·rw [if_neg c4] at H
    have c4b0 : decide (x8_1 < (l0.length : Int)) = false := decide_eq_false c4
    clear c4
    obtain rfl := Option.some.inj H
    go_wp2
    repeat (go_quiet (fail); try go_wp2)
    go_ret
    exact ⟨by first | rfl | (simp [errW_none, errW_some] <;> rfl) | (simp [*, errW_none, errW_some] <;> rfl), by repeat (first | (with_reducible first | exact HB.out | apply zA | apply zB | apply zC | refine zD ?_ GE266.out) | exact HB.out)⟩

/-! ### impl_Port_147: function 147 -/
def impl_Port_147.f (k : Nat) (l0 : List (S116)) (a1_0 : Int) (a1_1 : Int) (a1_2 : Int) : Option (Bool) := (impl_Port_180.f k l0 a1_0 a1_1 a1_2).bind fun t269 => (some (decide (t269 ≥ 0)))
theorem impl_Port_147.mono : ∀ a0 a1 a2 a3 k, LeO (impl_Port_147.f k a0 a1 a2 a3) (impl_Port_147.f (k + 1) a0 a1 a2 a3) := by
 intro a0 a1 a2 a3 k
 unfold impl_Port_147.f
 repeat' first
   | (with_reducible exact impl_Port_180.mono _ _ _ _ _)
   | (with_reducible exact LeO.refl _)
   | (with_reducible exact LeO.none _)
   | (with_reducible refine LeO.ite ?_ ?_)
   | (with_reducible refine LeO.bind ?_ (fun _ => ?_))
   | exact impl_Port_180.mono _ _ _ _ _
   | exact LeO.none _
   | refine LeO.ite ?_ ?_
   | refine LeO.bind ?_ (fun _ => ?_)
set_option maxHeartbeats 8000000 in
set_option maxRecDepth 100000 in
theorem impl_Port_147.calls (k : Nat) (A0 : Option Addr) (c0 : Nat) (l0 : List (S116)) (a1_0 : Int) (a1_1 : Int) (a1_2 : Int) (r : Bool) (w : World) (hr0 : Kd.C k116 w A0 l0.length l0) (hc0 : l0.length ≤ c0) (h : impl_Port_147.f k l0 a1_0 a1_1 a1_2 = some r) :
  Calls Try.prog 147 #[.slice A0 l0.length c0, .agg #[.int .i8 a1_0, .int .i8 a1_1, .int .i8 a1_2]] w fun e w' => e = .returned (.bool r) ∧ Below w.heap.size w w' := by
 have hu116 := Try.underlying116
 have HR0 := zN hr0
 have HC0 := zN hc0
 clear hr0 hc0
 have HB := zN (Below.refl w.heap.size w)
 have H : ((impl_Port_180.f k l0 a1_0 a1_1 a1_2).bind fun t269 => (some (decide (t269 ≥ 0)))) = some r := h
 clear h
 replace H := Option.bind_eq_some_iff.mp H
 obtain ⟨t269, A30, H⟩ := H
 replace H : (some (decide (t269 ≥ 0))) = some r := H
 have A3 := zN A30
 clear A30
 obtain rfl := Option.some.inj H
 go_enter Try.func147, Try.ntmps147
 go_wp2_with (first | ((with_reducible refine gate_dst (N := 3) rfl ?_); refine box_event ?hg (N := 3) ?hd (cs := #[.int .i8 a1_0, .int .i8 a1_1, .int .i8 a1_2]) (t := 116) ?hr ?_; (case hd => rfl); (case hg => rfl); (case hr => first | (go_simp; done) | (go_simp; rfl)); intro gb268 hg w4 hbox hb; have n0_ := zN (below_step (by repeat (first | (with_reducible first | exact HB.out | apply zA | apply zB | apply zC) | exact HB.out)) hb); have n1_ := zN (hbox); have n2_ := zN ((by rw [hg]; exact (below_size (by repeat (first | (with_reducible first | exact HB.out | apply zA | apply zB | apply zC) | exact HB.out))) : w.heap.size ≤ gb268)); have n3_ := zN ((by rw [hg]; exact (below_size (by repeat (first | (with_reducible first | exact HB.out | apply zA | apply zB | apply zC) | exact HB.out))) : w.heap.size ≤ gb268)); clear HB; have HB := n0_; have BK268 := n1_; have GW268 := n2_; have GE268 := n3_; clear n0_ n1_ n2_ n3_; clear hb hbox hg; have hcz5_0 : w4.cell? ⟨gb268, 0, none⟩ = some (.int .i8 a1_0) := (blk_cell BK268.out 0).trans rfl; have hcz5_1 : w4.cell? ⟨gb268, 1, none⟩ = some (.int .i8 a1_1) := (blk_cell BK268.out 1).trans rfl; have hcz5_2 : w4.cell? ⟨gb268, 2, none⟩ = some (.int .i8 a1_2) := (blk_cell BK268.out 2).trans rfl; have hfz5_0 := blk_frozen BK268.out 0; have hfz5_1 := blk_frozen BK268.out 1; have hfz5_2 := blk_frozen BK268.out 2) | ((with_reducible refine gate_callee (f := 180) rfl ?_); refine goesL_ (some 7) rfl rfl Try.func180 (by kernel_rfl) rfl #[.slice A0 l0.length c0, .agg #[.int .i8 a1_0, .int .i8 a1_1, .int .i8 a1_2]] rfl (by (try simp only [List.map_toArray, List.map_cons, List.map_nil]); first | done | rfl | (simp only [List.length_drop, List.length_take]; rfl)) ?_; (with_reducible refine (impl_Port_180.calls k _ _ l0 a1_0 a1_1 a1_2 t269 _ ?side1 ?side2 A3.out).mono ?_); (case side1 => repeat (first | exact (Kd.C_below HR0.out HB.out) | (with_reducible refine Kd.C_alloc ?_ _) | (with_reducible refine Kd.C_drewN ?_ _) | (with_reducible refine Kd.C_drew ?_))); (case side2 => exact HC0.out); rintro e w6 ⟨rfl, hb⟩; refine ⟨_, rfl, ?_⟩; have n0_ := zN (blk_below (g := gb268) (o := .cells #[.int .i8 a1_0, .int .i8 a1_1, .int .i8 a1_2] 116 (0, 0)) (by (with_reducible repeat (first | refine zE ?_ _ | refine zF ?_ | refine zG ?_ _)); exact BK268.out) hb); have n1_ := zN (below_step (by repeat (first | (with_reducible first | exact HB.out | apply zA | apply zB | apply zC | refine zD ?_ GE268.out) | exact HB.out)) hb); clear BK268; clear HB; have BK268 := n0_; have HB := n1_; clear n0_ n1_; (try clear hb); (try clear hb2); (try clear hk); (try clear hi)))
 go_ret
 exact ⟨by first | rfl | (simp [errW_none, errW_some] <;> rfl) | (simp [*, errW_none, errW_some] <;> rfl), by repeat (first | (with_reducible first | exact HB.out | apply zA | apply zB | apply zC | refine zD ?_ GE268.out) | exact HB.out)⟩

-- NOT PRINTED: function 181 (impl_Cell_181)

-- NOT PRINTED: function 148 (impl_Cell_148)

/-! ### impl_ValidMachine_1: function 149 -/
def impl_ValidMachine_1.f (k : Nat) (a0_0 : Int) (a0_1 : Int) (l1 : List (S41)) : Option (Bool) := if 0 < (l1.length : Int) then ((impl_Board_at.f k [(⟨(rd_T41 l1 0).f0.f0, (rd_T41 l1 0).f0.f1, (rd_T41 l1 0).f0.f2⟩ : S37)] a0_0 a0_1).bind fun t272 => (some (decide (t272 < 0)))) else (none)
theorem impl_ValidMachine_1.mono : ∀ a0 a1 a2 k, LeO (impl_ValidMachine_1.f k a0 a1 a2) (impl_ValidMachine_1.f (k + 1) a0 a1 a2) := by
 intro a0 a1 a2 k
 unfold impl_ValidMachine_1.f
 repeat' first
   | (with_reducible exact impl_Board_at.mono _ _ _ _)
   | (with_reducible exact LeO.refl _)
   | (with_reducible exact LeO.none _)
   | (with_reducible refine LeO.ite ?_ ?_)
   | (with_reducible refine LeO.bind ?_ (fun _ => ?_))
   | exact impl_Board_at.mono _ _ _ _
   | exact LeO.none _
   | refine LeO.ite ?_ ?_
   | refine LeO.bind ?_ (fun _ => ?_)
set_option maxHeartbeats 8000000 in
set_option maxRecDepth 100000 in
theorem impl_ValidMachine_1.calls (k : Nat) (a0_0 : Int) (a0_1 : Int) (adp1 : Addr) (l1 : List (S41)) (r : Bool) (w : World) (hr1 : Kd.C k41 w (some adp1) l1.length l1) (h : impl_ValidMachine_1.f k a0_0 a0_1 l1 = some r) :
  Calls Try.prog 149 #[.agg #[.int .i8 a0_0, .int .i8 a0_1], .pointer (some adp1)] w fun e w' => e = .returned (.bool r) ∧ Below w.heap.size w w' := by
 have hu74 := Try.underlying74
 have HR1 := zN hr1
 clear hr1
 have HB := zN (Below.refl w.heap.size w)
 have H : (if 0 < (l1.length : Int) then ((impl_Board_at.f k [(⟨(rd_T41 l1 0).f0.f0, (rd_T41 l1 0).f0.f1, (rd_T41 l1 0).f0.f2⟩ : S37)] a0_0 a0_1).bind fun t272 => (some (decide (t272 < 0)))) else (none)) = some r := h
 clear h
 by_cases c3 : 0 < (l1.length : Int)
 ·rw [if_pos c3] at H
  have c3b0 : decide (0 < (l1.length : Int)) = true := decide_eq_true c3
  have c3b1 : decide (0 < l1.length) = true := decide_eq_true (by omega)
  clear c3
  replace H := Option.bind_eq_some_iff.mp H
  obtain ⟨t272, A40, H⟩ := H
  replace H : (some (decide (t272 < 0))) = some r := H
  have A4 := zN A40
  clear A40
  obtain rfl := Option.some.inj H
  go_enter Try.func149, Try.ntmps149
  go_wp2_with (first | ((with_reducible refine gate_dst (N := 2) rfl ?_); refine box_event ?hg (N := 2) ?hd (cs := #[.int .i8 a0_0, .int .i8 a0_1]) (t := 74) ?hr ?_; (case hd => rfl); (case hg => rfl); (case hr => first | (go_simp; done) | (go_simp; rfl)); intro gb270 hg w5 hbox hb; have n0_ := zN (below_step (by repeat (first | (with_reducible first | exact HB.out | apply zA | apply zB | apply zC) | exact HB.out)) hb); have n1_ := zN (hbox); have n2_ := zN ((by rw [hg]; exact (below_size (by repeat (first | (with_reducible first | exact HB.out | apply zA | apply zB | apply zC) | exact HB.out))) : w.heap.size ≤ gb270)); have n3_ := zN ((by rw [hg]; exact (below_size (by repeat (first | (with_reducible first | exact HB.out | apply zA | apply zB | apply zC) | exact HB.out))) : w.heap.size ≤ gb270)); clear HB; have HB := n0_; have BK270 := n1_; have GW270 := n2_; have GE270 := n3_; clear n0_ n1_ n2_ n3_; clear hb hbox hg; have p271 : 0 ≤ (0 : Int) := (by omega); have q271 : 0 < (l1.length : Int) := zJ (by first | (with_reducible assumption) | assumption); obtain ⟨ad271, A271_2, c271_2, A271_3, c271_3, A271_4, c271_4, e271, hx271_0, hx271_1, hx271_2, hx271_3, hx271_4, hl271_2, hi271_2, hl271_3, hi271_3, hl271_4, hi271_4⟩ := at_T41 HR1.out 0 p271 q271; obtain rfl : adp1 = ad271 := (by injection e271); have qi271 : (0 < l1.length) = True := eq_true (by omega); (try rw [zI] at hx271_0); (try rw [Nat.zero_mul] at hx271_0); (try rw [Addr.add_zero'] at hx271_0); (try rw [zI] at hx271_1); (try rw [Nat.zero_mul] at hx271_1); (try rw [Addr.add_zero'] at hx271_1); (try rw [zI] at hx271_2); (try rw [Nat.zero_mul] at hx271_2); (try rw [Addr.add_zero'] at hx271_2); (try rw [zI] at hx271_3); (try rw [Nat.zero_mul] at hx271_3); (try rw [Addr.add_zero'] at hx271_3); (try rw [zI] at hx271_4); (try rw [Nat.zero_mul] at hx271_4); (try rw [Addr.add_zero'] at hx271_4); replace hx271_0 := (HB.out.cell (zH w _ hx271_0)).trans hx271_0; replace hx271_1 := (HB.out.cell (zH w _ hx271_1)).trans hx271_1; replace hx271_2 := (HB.out.cell (zH w _ hx271_2)).trans hx271_2; replace hx271_3 := (HB.out.cell (zH w _ hx271_3)).trans hx271_3; replace hx271_4 := (HB.out.cell (zH w _ hx271_4)).trans hx271_4; have HR271_2 := zN hi271_2; have HC271_2 := zN hl271_2; clear hi271_2 hl271_2; have HR271_3 := zN hi271_3; have HC271_3 := zN hl271_3; clear hi271_3 hl271_3; have HR271_4 := zN hi271_4; have HC271_4 := zN hl271_4; clear hi271_4 hl271_4; replace p271 := eq_true p271; replace q271 := eq_true q271; have hcz6_0 : w5.cell? ⟨gb270, 0, none⟩ = some (.int .i8 a0_0) := (blk_cell BK270.out 0).trans rfl; have hcz6_1 : w5.cell? ⟨gb270, 1, none⟩ = some (.int .i8 a0_1) := (blk_cell BK270.out 1).trans rfl; have hfz6_0 := blk_frozen BK270.out 0; have hfz6_1 := blk_frozen BK270.out 1) | ((with_reducible refine gate_callee (f := 119) rfl ?_); refine goesL_ (some 6) rfl rfl Try.func119 (by kernel_rfl) rfl #[.pointer (some adp1), .agg #[.int .i8 a0_0, .int .i8 a0_1]] rfl (by (try simp only [List.map_toArray, List.map_cons, List.map_nil]); first | done | rfl | (simp only [List.length_drop, List.length_take]; rfl)) ?_; (with_reducible refine (impl_Board_at.calls k _ [(⟨(rd_T41 l1 0).f0.f0, (rd_T41 l1 0).f0.f1, (rd_T41 l1 0).f0.f2⟩ : S37)] a0_0 a0_1 t272 _ ?side1 A4.out).mono ?_); (case side1 => refine ro_first (d := k41) (d1 := k37) (f := fun x : S41 => (x.f0, x.f1, x.f2)) (l := l1) rfl z41 ?_ (by first | (have h_ := of_eq_true q271; omega) | (have h_ : 0 < (l1.length : Int) := zJ (by assumption); omega) | omega) rfl; repeat (first | exact (Kd.C_below HR1.out HB.out) | (with_reducible refine Kd.C_alloc ?_ _) | (with_reducible refine Kd.C_drewN ?_ _) | (with_reducible refine Kd.C_drew ?_))); rintro e w7 ⟨rfl, hb⟩; refine ⟨_, rfl, ?_⟩; have n0_ := zN (blk_below (g := gb270) (o := .cells #[.int .i8 a0_0, .int .i8 a0_1] 74 (0, 0)) (by (with_reducible repeat (first | refine zE ?_ _ | refine zF ?_ | refine zG ?_ _)); exact BK270.out) hb); have n1_ := zN (below_step (by repeat (first | (with_reducible first | exact HB.out | apply zA | apply zB | apply zC | refine zD ?_ GE270.out) | exact HB.out)) hb); clear BK270; clear HB; have BK270 := n0_; have HB := n1_; clear n0_ n1_; (try clear hb); (try clear hb2); (try clear hk); (try clear hi)))
  go_ret
  exact ⟨by first | rfl | (simp [errW_none, errW_some] <;> rfl) | (simp [*, errW_none, errW_some] <;> rfl), by repeat (first | (with_reducible first | exact HB.out | apply zA | apply zB | apply zC | refine zD ?_ GE270.out) | exact HB.out)⟩
 ·rw [if_neg c3] at H
  exact absurd H (by simp)

/-! ### slices_IndexFunc__impl_ValidMachine_1: function 235 -/
def slices_IndexFunc__impl_ValidMachine_1.l0 : Nat → List (S74) → Int → Int → List (S41) → Option (Int)
 | 0, _, _, _, _ => none
 | k + 1, x0, x7, x8, x2000 => if x8 < x7 then (if 0 ≤ x8 then (if x8 < (x0.length : Int) then ((impl_ValidMachine_1.f k ((rd_T74 x0 x8).f0) ((rd_T74 x0 x8).f1) x2000).bind fun t274 => (if t274 = true then (some x8) else (slices_IndexFunc__impl_ValidMachine_1.l0 k x0 x7 (wrap64 (x8 + 1)) x2000))) else (none)) else (none)) else (some (-1))
def slices_IndexFunc__impl_ValidMachine_1.f (k : Nat) (l0 : List (S74)) (l1_0 : List (S41)) : Option (Int) := slices_IndexFunc__impl_ValidMachine_1.l0 k l0 (l0.length : Int) 0 l1_0
theorem slices_IndexFunc__impl_ValidMachine_1.mono_l : ∀ k, (∀ y0 y1 y2 y3, LeO (slices_IndexFunc__impl_ValidMachine_1.l0 k y0 y1 y2 y3) (slices_IndexFunc__impl_ValidMachine_1.l0 (k + 1) y0 y1 y2 y3))
 | 0 => fun _ _ _ _ r h => by simp [slices_IndexFunc__impl_ValidMachine_1.l0] at h
 | k + 1 => by
  have ih0 := slices_IndexFunc__impl_ValidMachine_1.mono_l k
  ·intro y0 y1 y2 y3
   unfold slices_IndexFunc__impl_ValidMachine_1.l0
   repeat' first
   | (with_reducible exact ih0 _ _ _ _)
   | (with_reducible exact impl_ValidMachine_1.mono _ _ _ _)
   | (with_reducible exact LeO.refl _)
   | (with_reducible exact LeO.none _)
   | (with_reducible refine LeO.ite ?_ ?_)
   | (with_reducible refine LeO.bind ?_ (fun _ => ?_))
   | exact ih0 _ _ _ _
   | exact impl_ValidMachine_1.mono _ _ _ _
   | exact LeO.none _
   | refine LeO.ite ?_ ?_
   | refine LeO.bind ?_ (fun _ => ?_)
theorem slices_IndexFunc__impl_ValidMachine_1.mono : ∀ a0 a1 k, LeO (slices_IndexFunc__impl_ValidMachine_1.f k a0 a1) (slices_IndexFunc__impl_ValidMachine_1.f (k + 1) a0 a1) := by
 intro a0 a1 k
 have ih0 := slices_IndexFunc__impl_ValidMachine_1.mono_l k
 unfold slices_IndexFunc__impl_ValidMachine_1.f
 repeat' first
   | (with_reducible exact ih0 _ _ _ _)
   | (with_reducible exact impl_ValidMachine_1.mono _ _ _ _)
   | (with_reducible exact LeO.refl _)
   | (with_reducible exact LeO.none _)
   | (with_reducible refine LeO.ite ?_ ?_)
   | (with_reducible refine LeO.bind ?_ (fun _ => ?_))
   | exact ih0 _ _ _ _
   | exact impl_ValidMachine_1.mono _ _ _ _
   | exact LeO.none _
   | refine LeO.ite ?_ ?_
   | refine LeO.bind ?_ (fun _ => ?_)
set_option maxHeartbeats 8000000 in
set_option maxRecDepth 100000 in
theorem slices_IndexFunc__impl_ValidMachine_1.calls (k : Nat) (A0 : Option Addr) (c0 : Nat) (l0 : List (S74)) (adp1_0 : Addr) (l1_0 : List (S41)) (r : Int) (w : World) (hr0 : Kd.C k74 w A0 l0.length l0) (hc0 : l0.length ≤ c0) (hr1_0 : Kd.C k41 w (some adp1_0) l1_0.length l1_0) (h : slices_IndexFunc__impl_ValidMachine_1.f k l0 l1_0 = some r) :
  Calls Try.prog 181 #[.slice A0 l0.length c0, .func (.func 149) #[] #[.pointer (some adp1_0)]] w fun e w' => e = .returned (.int .i64 r) ∧ Below w.heap.size w w' := by
 have hu74 := Try.underlying74
 have HR0 := zN hr0
 have HC0 := zN hc0
 clear hr0 hc0
 have HR1_0 := zN hr1_0
 clear hr1_0
 have HB := zN (Below.refl w.heap.size w)
 have H : (slices_IndexFunc__impl_ValidMachine_1.l0 k l0 (l0.length : Int) 0 l1_0) = some r := h
 clear h
 have H' := zN H
 clear H
 go_enter Try.func181, Try.ntmps181
 go_wp2
 go_loopg [8] k (fun kq v8 w' => ∃ (x8_1 : Int), v8 = .int .i64 x8_1 ∧ Aside0 (slices_IndexFunc__impl_ValidMachine_1.l0 kq l0 (l0.length : Int) x8_1 l1_0 = some r) ∧ Aside0 (kq ≤ k) ∧ Aside0 (Below w.heap.size w w'))
 case atStart => exact ⟨(0), (by first | rfl | (simp; done) | (simp [*]; done) | (exact congrArg (Value.int .i64) (wrap_eq (by omega)))), H', ⟨Nat.le_refl _⟩, ⟨by repeat (first | (with_reducible first | exact HB.out | apply zA | apply zB | apply zC) | exact HB.out)⟩⟩
 case round =>
  clear H'
  try clear c2
  try clear p2
  obtain ⟨x8_1, rfl, HA, HK1, HB⟩ := hrel
  cases gk with
  | zero => exact absurd HA.out (by simp [slices_IndexFunc__impl_ValidMachine_1.l0])
  | succ k1 =>
   have H := HA.out
   clear HA
   simp only [slices_IndexFunc__impl_ValidMachine_1.l0] at H
   by_cases c3 : x8_1 < (l0.length : Int)
   ·rw [if_pos c3] at H
    have c3b0 : decide (x8_1 < (l0.length : Int)) = true := decide_eq_true c3
    clear c3
    by_cases c4 : 0 ≤ x8_1
    ·rw [if_pos c4] at H
     have c4b0 : decide (0 ≤ x8_1) = true := decide_eq_true c4
     clear c4
     by_cases c5 : x8_1 < (l0.length : Int)
     ·rw [if_pos c5] at H
      have c5b0 : decide (x8_1 < (l0.length : Int)) = true := decide_eq_true c5
      clear c5
      replace H := Option.bind_eq_some_iff.mp H
      obtain ⟨t274, A60, H⟩ := H
      replace H : (if t274 = true then (some x8_1) else (slices_IndexFunc__impl_ValidMachine_1.l0 k1 l0 (l0.length : Int) (wrap64 (x8_1 + 1)) l1_0)) = some r := H
      have A6 := zN A60
      clear A60
      by_cases c7 : t274 = true
      ·subst c7
       have H1 : (some x8_1) = some r := by rw [if_pos rfl] at H; exact H
       clear H
       have H := H1
       clear H1
       obtain rfl := Option.some.inj H
       have p273 : 0 ≤ (x8_1 : Int) := zJ (by first | (with_reducible assumption) | assumption)
       have q273 : x8_1 < (l0.length : Int) := zJ (by first | (with_reducible assumption) | assumption)
       obtain ⟨ad273, e273, hx273_0, hx273_1⟩ := at_T74 HR0.out x8_1 p273 q273
       cases e273
       replace hx273_0 := (HB.out.cell (zH w _ hx273_0)).trans hx273_0
       replace hx273_1 := (HB.out.cell (zH w _ hx273_1)).trans hx273_1
       replace p273 := eq_true p273
       replace q273 := eq_true q273
       go_wp2_with (first | (go_at_call 149; (with_reducible refine (impl_ValidMachine_1.calls k1 ((rd_T74 l0 x8_1).f0) ((rd_T74 l0 x8_1).f1) _ l1_0 true _ ?side1 A6.out).mono ?_); (case side1 => repeat (first | exact (Kd.C_below HR1_0.out HB.out) | (with_reducible refine Kd.C_alloc ?_ _) | (with_reducible refine Kd.C_drewN ?_ _) | (with_reducible refine Kd.C_drew ?_))); rintro e w8 ⟨rfl, hb⟩; have n0_ := zN (below_step (by repeat (first | (with_reducible first | exact HB.out | apply zA | apply zB | apply zC) | exact HB.out)) hb); clear HB; have HB := n0_; clear n0_; (try clear hb); (try clear hb2); (try clear hk); (try clear hi)))
       go_ret
       exact ⟨by first | rfl | (simp [errW_none, errW_some] <;> rfl) | (simp [*, errW_none, errW_some] <;> rfl), by repeat (first | (with_reducible first | exact HB.out | apply zA | apply zB | apply zC) | exact HB.out)⟩
      ·replace c7 := Bool.eq_false_iff.mpr c7
       subst c7
       have H1 : (slices_IndexFunc__impl_ValidMachine_1.l0 k1 l0 (l0.length : Int) (wrap64 (x8_1 + 1)) l1_0) = some r := by rw [if_neg (show ¬ (false = true) by decide)] at H; exact H
       clear H
       have H := H1
       clear H1
       have H' := zN H
       clear H
       have p273 : 0 ≤ (x8_1 : Int) := zJ (by first | (with_reducible assumption) | assumption)
       have q273 : x8_1 < (l0.length : Int) := zJ (by first | (with_reducible assumption) | assumption)
       obtain ⟨ad273, e273, hx273_0, hx273_1⟩ := at_T74 HR0.out x8_1 p273 q273
       cases e273
       replace hx273_0 := (HB.out.cell (zH w _ hx273_0)).trans hx273_0
       replace hx273_1 := (HB.out.cell (zH w _ hx273_1)).trans hx273_1
       replace p273 := eq_true p273
       replace q273 := eq_true q273
       go_wp2_with (first | (go_at_call 149; (with_reducible refine (impl_ValidMachine_1.calls k1 ((rd_T74 l0 x8_1).f0) ((rd_T74 l0 x8_1).f1) _ l1_0 false _ ?side1 A6.out).mono ?_); (case side1 => repeat (first | exact (Kd.C_below HR1_0.out HB.out) | (with_reducible refine Kd.C_alloc ?_ _) | (with_reducible refine Kd.C_drewN ?_ _) | (with_reducible refine Kd.C_drew ?_))); rintro e w9 ⟨rfl, hb⟩; have n0_ := zN (below_step (by repeat (first | (with_reducible first | exact HB.out | apply zA | apply zB | apply zC) | exact HB.out)) hb); clear HB; have HB := n0_; clear n0_; (try clear hb); (try clear hb2); (try clear hk); (try clear hi)))
       go_roundg k1
       case measure => have := HK1.out; omega
       case rel => exact ⟨(wrap64 (x8_1 + 1)), (by first | rfl | (simp; done) | (simp [*]; done) | (exact congrArg (Value.int .i64) (wrap_eq (by omega)))), H', ⟨by have := HK1.out; omega⟩, ⟨by repeat (first | (with_reducible first | exact HB.out | apply zA | apply zB | apply zC) | exact HB.out)⟩⟩
     ·rw [if_neg c5] at H
      exact absurd H (by simp)
    ·rw [if_neg c4] at H
     exact absurd H (by simp)
   ·rw [if_neg c3] at H
    have c3b0 : decide (x8_1 < (l0.length : Int)) = false := decide_eq_false c3
    clear c3
    obtain rfl := Option.some.inj H
    go_wp2
    go_ret
    exact ⟨by first | rfl | (simp [errW_none, errW_some] <;> rfl) | (simp [*, errW_none, errW_some] <;> rfl), by repeat (first | (with_reducible first | exact HB.out | apply zA | apply zB | apply zC) | exact HB.out)⟩

/-! ### slices_ContainsFunc__impl_ValidMachine_1: function 234 -/
def slices_ContainsFunc__impl_ValidMachine_1.f (k : Nat) (l0 : List (S74)) (l1_0 : List (S41)) : Option (Bool) := (slices_IndexFunc__impl_ValidMachine_1.f k l0 l1_0).bind fun t275 => (some (decide (t275 ≥ 0)))
theorem slices_ContainsFunc__impl_ValidMachine_1.mono : ∀ a0 a1 k, LeO (slices_ContainsFunc__impl_ValidMachine_1.f k a0 a1) (slices_ContainsFunc__impl_ValidMachine_1.f (k + 1) a0 a1) := by
 intro a0 a1 k
 unfold slices_ContainsFunc__impl_ValidMachine_1.f
 repeat' first
   | (with_reducible exact slices_IndexFunc__impl_ValidMachine_1.mono _ _ _)
   | (with_reducible exact LeO.refl _)
   | (with_reducible exact LeO.none _)
   | (with_reducible refine LeO.ite ?_ ?_)
   | (with_reducible refine LeO.bind ?_ (fun _ => ?_))
   | exact slices_IndexFunc__impl_ValidMachine_1.mono _ _ _
   | exact LeO.none _
   | refine LeO.ite ?_ ?_
   | refine LeO.bind ?_ (fun _ => ?_)
set_option maxHeartbeats 8000000 in
set_option maxRecDepth 100000 in
theorem slices_ContainsFunc__impl_ValidMachine_1.calls (k : Nat) (A0 : Option Addr) (c0 : Nat) (l0 : List (S74)) (adp1_0 : Addr) (l1_0 : List (S41)) (r : Bool) (w : World) (hr0 : Kd.C k74 w A0 l0.length l0) (hc0 : l0.length ≤ c0) (hr1_0 : Kd.C k41 w (some adp1_0) l1_0.length l1_0) (h : slices_ContainsFunc__impl_ValidMachine_1.f k l0 l1_0 = some r) :
  Calls Try.prog 148 #[.slice A0 l0.length c0, .func (.func 149) #[] #[.pointer (some adp1_0)]] w fun e w' => e = .returned (.bool r) ∧ Below w.heap.size w w' := by
 have HR0 := zN hr0
 have HC0 := zN hc0
 clear hr0 hc0
 have HR1_0 := zN hr1_0
 clear hr1_0
 have HB := zN (Below.refl w.heap.size w)
 have H : ((slices_IndexFunc__impl_ValidMachine_1.f k l0 l1_0).bind fun t275 => (some (decide (t275 ≥ 0)))) = some r := h
 clear h
 replace H := Option.bind_eq_some_iff.mp H
 obtain ⟨t275, A30, H⟩ := H
 replace H : (some (decide (t275 ≥ 0))) = some r := H
 have A3 := zN A30
 clear A30
 obtain rfl := Option.some.inj H
 go_enter Try.func148, Try.ntmps148
 go_wp2_with (first | ((with_reducible refine gate_callee (f := 181) rfl ?_); refine goesL_ (some 7) rfl rfl Try.func181 (by kernel_rfl) rfl #[.slice A0 l0.length c0, .func (.func 149) #[] #[.pointer (some adp1_0)]] rfl (by (try simp only [List.map_toArray, List.map_cons, List.map_nil]); first | done | rfl | (simp only [List.length_drop, List.length_take]; rfl)) ?_; (with_reducible refine (slices_IndexFunc__impl_ValidMachine_1.calls k _ _ l0 _ l1_0 t275 _ ?side1 ?side2 ?side3 A3.out).mono ?_); (case side1 => repeat (first | exact HR0.out | (with_reducible refine Kd.C_alloc ?_ _) | (with_reducible refine Kd.C_drewN ?_ _) | (with_reducible refine Kd.C_drew ?_))); (case side2 => exact HC0.out); (case side3 => repeat (first | exact HR1_0.out | (with_reducible refine Kd.C_alloc ?_ _) | (with_reducible refine Kd.C_drewN ?_ _) | (with_reducible refine Kd.C_drew ?_))); rintro e w4 ⟨rfl, hb⟩; refine ⟨_, rfl, ?_⟩; have n0_ := zN (below_step (by repeat (first | (with_reducible first | exact HB.out | apply zA | apply zB | apply zC) | exact HB.out)) hb); clear HB; have HB := n0_; clear n0_; (try clear hb); (try clear hb2); (try clear hk); (try clear hi)))
 go_ret
 exact ⟨by first | rfl | (simp [errW_none, errW_some] <;> rfl) | (simp [*, errW_none, errW_some] <;> rfl), by repeat (first | (with_reducible first | exact HB.out | apply zA | apply zB | apply zC) | exact HB.out)⟩

end Go.Proofs.Ytffnfpnajkgnaaa.PFnExactValidMachine
