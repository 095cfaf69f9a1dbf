-- short
-- WRITTEN by xprint.py, a program of this session's. Not trusted: Lean checks it.
import Derived.Test.YtffnfpnajkgnaaaPFnExactValidMachinex0
import Derived.Test.YtffnfpnajkgnaaaPFnExactValidMachinex1
import Derived.Test.YtffnfpnajkgnaaaPFnExactValidMachinex9
namespace Go.Proofs.Ytffnfpnajkgnaaa.PFnExactValidMachine
open Go.RowKit Go.Proofs.YtffnfpnajkgnaaaW.PrintWords Go.Proofs.YtffnfpnajkgnaaaW.PrintLast Go.Proofs.YtffnfpnajkgnaaaW.PrintMore Go.Proofs.YtffnfpnajkgnaaaX
attribute [local go_sem] max2_int min2_int max_two min_two max_three min_three max_four min_four   -- for this text's walks alone
set_option linter.unusedVariables false
set_option linter.unusedSimpArgs false

attribute [local go_sem high] eqA74
/-! ### spec_ValidMachine: function 78 -/
def spec_ValidMachine.f (k : Nat) (a0_0 : Int) (a0_1 : Int) (l0_2 : List (S91)) (l0_3 : List (S116)) (l0_4 : List (S74)) : Option (Bool) := (spec_l03Ok.f k [(⟨(⟨a0_0, a0_1, l0_2⟩ : S37), l0_3, l0_4⟩ : S41)]).bind fun t246 => (some t246)
theorem spec_ValidMachine.mono : ∀ a0 a1 a2 a3 a4 k, LeO (spec_ValidMachine.f k a0 a1 a2 a3 a4) (spec_ValidMachine.f (k + 1) a0 a1 a2 a3 a4) := by
 intro a0 a1 a2 a3 a4 k
 unfold spec_ValidMachine.f
 repeat' first
   | (with_reducible exact spec_l03Ok.mono _ _)
   | (with_reducible exact LeO.refl _)
   | (with_reducible exact LeO.none _)
   | (with_reducible refine LeO.ite ?_ ?_)
   | (with_reducible refine LeO.bind ?_ (fun _ => ?_))
   | exact spec_l03Ok.mono _ _
   | exact LeO.none _
   | refine LeO.ite ?_ ?_
   | refine LeO.bind ?_ (fun _ => ?_)
set_option maxHeartbeats 8000000 in
set_option maxRecDepth 100000 in
theorem spec_ValidMachine.calls (k : Nat) (a0_0 : Int) (a0_1 : Int) (A0_2 : Option Addr) (c0_2 : Nat) (l0_2 : List (S91)) (A0_3 : Option Addr) (c0_3 : Nat) (l0_3 : List (S116)) (A0_4 : Option Addr) (c0_4 : Nat) (l0_4 : List (S74)) (r : Bool) (w : World) (hr0_2 : Kd.C k91 w A0_2 l0_2.length l0_2) (hc0_2 : l0_2.length ≤ c0_2) (hr0_3 : Kd.C k116 w A0_3 l0_3.length l0_3) (hc0_3 : l0_3.length ≤ c0_3) (hr0_4 : Kd.C k74 w A0_4 l0_4.length l0_4) (hc0_4 : l0_4.length ≤ c0_4) (h : spec_ValidMachine.f k a0_0 a0_1 l0_2 l0_3 l0_4 = some r) :
  Calls Try.prog 78 #[.agg #[.int .i8 a0_0, .int .i8 a0_1, .slice A0_2 l0_2.length c0_2, .slice A0_3 l0_3.length c0_3, .slice A0_4 l0_4.length c0_4]] w fun e w' => e = .returned (.bool r) ∧ Below w.heap.size w w' := by
 have hu41 := Try.underlying41
 have HR0_2 := zN hr0_2
 have HC0_2 := zN hc0_2
 clear hr0_2 hc0_2
 have HR0_3 := zN hr0_3
 have HC0_3 := zN hc0_3
 clear hr0_3 hc0_3
 have HR0_4 := zN hr0_4
 have HC0_4 := zN hc0_4
 clear hr0_4 hc0_4
 have HB := zN (Below.refl w.heap.size w)
 have H : ((spec_l03Ok.f k [(⟨(⟨a0_0, a0_1, l0_2⟩ : S37), l0_3, l0_4⟩ : S41)]).bind fun t246 => (some t246)) = some r := h
 clear h
 replace H := Option.bind_eq_some_iff.mp H
 obtain ⟨t246, A20, H⟩ := H
 replace H : (some t246) = some r := H
 have A2 := zN A20
 clear A20
 obtain rfl := Option.some.inj H
 go_enter Try.func78, Try.ntmps78
 go_wp2_with (first | ((with_reducible refine gate_dst (N := 1) rfl ?_); refine box_event ?hg (N := 1) ?hd (cs := #[.int .i8 a0_0, .int .i8 a0_1, .slice A0_2 l0_2.length c0_2, .slice A0_3 l0_3.length c0_3, .slice A0_4 l0_4.length c0_4]) (t := 41) ?hr ?_; (case hd => rfl); (case hg => rfl); (case hr => first | (go_simp; done) | (go_simp; rfl)); intro gb245 hg w3 hbox hb; have n0_ := zN (below_step (by repeat (first | (with_reducible first | exact HB.out | apply zA | apply zB | apply zC) | exact HB.out)) hb); have n1_ := zN (hbox); have n2_ := zN ((by rw [hg]; exact (below_size (by repeat (first | (with_reducible first | exact HB.out | apply zA | apply zB | apply zC) | exact HB.out))) : w.heap.size ≤ gb245)); have n3_ := zN ((by rw [hg]; exact (below_size (by repeat (first | (with_reducible first | exact HB.out | apply zA | apply zB | apply zC) | exact HB.out))) : w.heap.size ≤ gb245)); clear HB; have HB := n0_; have BK245 := n1_; have GW245 := n2_; have GE245 := n3_; clear n0_ n1_ n2_ n3_; clear hb hbox hg) | ((with_reducible refine gate_callee (f := 99) rfl ?_); refine goesL_ (some 3) rfl rfl Try.func99 (by kernel_rfl) rfl #[.pointer (some ⟨gb245, 0, none⟩)] rfl (by (try simp only [List.map_toArray, List.map_cons, List.map_nil]); first | done | rfl | (simp only [List.length_drop, List.length_take]; rfl)) ?_; (with_reducible refine (spec_l03Ok.calls k _ [(⟨(⟨a0_0, a0_1, l0_2⟩ : S37), l0_3, l0_4⟩ : S41)] t246 _ ?side1 A2.out).mono ?_); (case side1 => refine ro_of_blk (T := 41) (cs := #[.int .i8 a0_0, .int .i8 a0_1, .slice A0_2 l0_2.length c0_2, .slice A0_3 l0_3.length c0_3, .slice A0_4 l0_4.length c0_4]) (by (with_reducible repeat (first | refine zE ?_ _ | refine zF ?_ | refine zG ?_ _)); exact BK245.out) ?_; exact k41_mk _ (⟨(⟨a0_0, a0_1, l0_2⟩ : S37), l0_3, l0_4⟩ : S41) (by exact HC0_2.out) (by repeat (first | exact (Kd.C_below HR0_2.out HB.out) | (with_reducible refine Kd.C_alloc ?_ _) | (with_reducible refine Kd.C_drewN ?_ _) | (with_reducible refine Kd.C_drew ?_))) (by exact HC0_3.out) (by repeat (first | exact (Kd.C_below HR0_3.out HB.out) | (with_reducible refine Kd.C_alloc ?_ _) | (with_reducible refine Kd.C_drewN ?_ _) | (with_reducible refine Kd.C_drew ?_))) (by exact HC0_4.out) (by repeat (first | exact (Kd.C_below HR0_4.out HB.out) | (with_reducible refine Kd.C_alloc ?_ _) | (with_reducible refine Kd.C_drewN ?_ _) | (with_reducible refine Kd.C_drew ?_)))); rintro e w4 ⟨rfl, hb⟩; refine ⟨_, rfl, ?_⟩; have n0_ := zN (blk_below (g := gb245) (o := .cells #[.int .i8 a0_0, .int .i8 a0_1, .slice A0_2 l0_2.length c0_2, .slice A0_3 l0_3.length c0_3, .slice A0_4 l0_4.length c0_4] 41 (0, 0)) (by (with_reducible repeat (first | refine zE ?_ _ | refine zF ?_ | refine zG ?_ _)); exact BK245.out) hb); have n1_ := zN (below_step (by repeat (first | (with_reducible first | exact HB.out | apply zA | apply zB | apply zC | refine zD ?_ GE245.out) | exact HB.out)) hb); clear BK245; clear HB; have BK245 := n0_; have HB := n1_; clear n0_ n1_; (try clear hb); (try clear hb2); (try clear hk); (try clear hi)))
 go_ret
 exact ⟨by first | rfl | (simp [errW_none, errW_some] <;> rfl) | (simp [*, errW_none, errW_some] <;> rfl), by repeat (first | (with_reducible first | exact HB.out | apply zA | apply zB | apply zC | refine zD ?_ GE245.out) | exact HB.out)⟩

/-! ### impl_in: function 98 -/
def impl_in.f (a0 : Int) (a1 : Int) (a2 : Int) : Option (Bool) := if a0 ≥ a1 then (some (decide (a0 ≤ a2))) else (some false)
set_option maxHeartbeats 8000000 in
set_option maxRecDepth 100000 in
theorem impl_in.calls (a0 : Int) (a1 : Int) (a2 : Int) (r : Bool) (w : World) (h : impl_in.f a0 a1 a2 = some r) :
  Calls Try.prog 98 #[.int .i64 a0, .int .i64 a1, .int .i64 a2] w fun e w' => e = .returned (.bool r) ∧ Drawn0 w w' := by
 have H : (if a0 ≥ a1 then (some (decide (a0 ≤ a2))) else (some false)) = some r := h
 clear h
 by_cases c4 : a0 ≥ a1
 ·rw [if_pos c4] at H
  have c4b0 : decide (a1 ≤ a0) = true := decide_eq_true c4
  clear c4
  obtain rfl := Option.some.inj H
  go_enter Try.func98, Try.ntmps98
  go_wp2
  go_ret
  exact ⟨by first | rfl | (simp; done) | (simp [*]; done) | (exact congrArg (Value.int .i64) (wrap_eq (by omega))), by repeat (first | exact Drawn0.refl _ | apply Drawn0.step)⟩
 ·rw [if_neg c4] at H
  have c4b0 : decide (a1 ≤ a0) = false := decide_eq_false c4
  clear c4
  obtain rfl := Option.some.inj H
  go_enter Try.func98, Try.ntmps98
  go_wp2
  go_ret
  exact ⟨by first | rfl | (simp; done) | (simp [*]; done) | (exact congrArg (Value.int .i64) (wrap_eq (by omega))), by repeat (first | exact Drawn0.refl _ | apply Drawn0.step)⟩

/-! ### impl_Cell_placed: function 164 -/
def impl_Cell_placed.f (a0_0 : Int) (a0_1 : Int) : Option (Bool) := (impl_in.f (wrap64 (a0_0)) 0 23).bind fun t248 => (if t248 = true then ((impl_in.f (wrap64 (a0_1)) 0 23).bind fun t249 => (some t249)) else (some false))
set_option maxHeartbeats 8000000 in
set_option maxRecDepth 100000 in
theorem impl_Cell_placed.calls (a0_0 : Int) (a0_1 : Int) (r : Bool) (w : World) (h : impl_Cell_placed.f a0_0 a0_1 = some r) :
  Calls Try.prog 164 #[.agg #[.int .i8 a0_0, .int .i8 a0_1]] w fun e w' => e = .returned (.bool r) ∧ Below w.heap.size w w' := by
 have hu74 := Try.underlying74
 have HB := zN (Below.refl w.heap.size w)
 have H : ((impl_in.f (wrap64 (a0_0)) 0 23).bind fun t248 => (if t248 = true then ((impl_in.f (wrap64 (a0_1)) 0 23).bind fun t249 => (some t249)) else (some false))) = some r := h
 clear h
 replace H := Option.bind_eq_some_iff.mp H
 obtain ⟨t248, A20, H⟩ := H
 replace H : (if t248 = true then ((impl_in.f (wrap64 (a0_1)) 0 23).bind fun t249 => (some t249)) else (some false)) = some r := H
 have A2 := zN A20
 clear A20
 by_cases c3 : t248 = true
 ·subst c3
  have H1 : ((impl_in.f (wrap64 (a0_1)) 0 23).bind fun t249 => (some t249)) = some r := by rw [if_pos rfl] at H; exact H
  clear H
  have H := H1
  clear H1
  replace H := Option.bind_eq_some_iff.mp H
  obtain ⟨t249, A40, H⟩ := H
  replace H : (some t249) = some r := H
  have A4 := zN A40
  clear A40
  obtain rfl := Option.some.inj H
  go_enter Try.func164, Try.ntmps164
  go_wp2_with (first | ((with_reducible refine gate_dst (N := 1) rfl ?_); refine box_event ?hg (N := 1) ?hd (cs := #[.int .i8 a0_0, .int .i8 a0_1]) (t := 74) ?hr ?_; (case hd => rfl); (case hg => rfl); (case hr => first | (go_simp; done) | (go_simp; rfl)); intro gb247 hg w5 hbox hb; have n0_ := zN (below_step (by repeat (first | (with_reducible first | exact HB.out | apply zA | apply zB | apply zC) | exact HB.out)) hb); have n1_ := zN (hbox); have n2_ := zN ((by rw [hg]; exact (below_size (by repeat (first | (with_reducible first | exact HB.out | apply zA | apply zB | apply zC) | exact HB.out))) : w.heap.size ≤ gb247)); have n3_ := zN ((by rw [hg]; exact (below_size (by repeat (first | (with_reducible first | exact HB.out | apply zA | apply zB | apply zC) | exact HB.out))) : w.heap.size ≤ gb247)); clear HB; have HB := n0_; have BK247 := n1_; have GW247 := n2_; have GE247 := n3_; clear n0_ n1_ n2_ n3_; clear hb hbox hg; have hcz6_0 : w5.cell? ⟨gb247, 0, none⟩ = some (.int .i8 a0_0) := (blk_cell BK247.out 0).trans rfl; have hcz6_1 : w5.cell? ⟨gb247, 1, none⟩ = some (.int .i8 a0_1) := (blk_cell BK247.out 1).trans rfl; have hfz6_0 := blk_frozen BK247.out 0; have hfz6_1 := blk_frozen BK247.out 1) | ((with_reducible refine gate_callee (f := 98) rfl ?_); refine goesL_ (some 6) rfl rfl Try.func98 (by kernel_rfl) rfl #[.int .i64 (wrap64 (a0_0)), .int .i64 0, .int .i64 23] rfl (by (try simp only [List.map_toArray, List.map_cons, List.map_nil]); first | done | rfl | (simp only [List.length_drop, List.length_take]; rfl)) ?_; (with_reducible refine (impl_in.calls (wrap64 (a0_0)) 0 23 true _ A2.out).mono ?_); rintro e w' ⟨rfl, ⟨nd, rfl⟩⟩; refine ⟨_, rfl, ?_⟩) | (go_at_call 98; (with_reducible refine (impl_in.calls (wrap64 (a0_1)) 0 23 t249 _ A4.out).mono ?_); rintro e w' ⟨rfl, ⟨nd, rfl⟩⟩))
  go_ret
  exact ⟨by first | rfl | (simp [errW_none, errW_some] <;> rfl) | (simp [*, errW_none, errW_some] <;> rfl), by repeat (first | (with_reducible first | exact HB.out | apply zA | apply zB | apply zC | refine zD ?_ GE247.out) | exact HB.out)⟩
 ·replace c3 := Bool.eq_false_iff.mpr c3
  subst c3
  have H1 : (some false) = some r := by rw [if_neg (show ¬ (false = true) by decide)] at H; exact H
  clear H
  have H := H1
  clear H1
  obtain rfl := Option.some.inj H
  go_enter Try.func164, Try.ntmps164
  go_wp2_with (first | ((with_reducible refine gate_dst (N := 1) rfl ?_); refine box_event ?hg (N := 1) ?hd (cs := #[.int .i8 a0_0, .int .i8 a0_1]) (t := 74) ?hr ?_; (case hd => rfl); (case hg => rfl); (case hr => first | (go_simp; done) | (go_simp; rfl)); intro gb247 hg w7 hbox hb; have n0_ := zN (below_step (by repeat (first | (with_reducible first | exact HB.out | apply zA | apply zB | apply zC) | exact HB.out)) hb); have n1_ := zN (hbox); have n2_ := zN ((by rw [hg]; exact (below_size (by repeat (first | (with_reducible first | exact HB.out | apply zA | apply zB | apply zC) | exact HB.out))) : w.heap.size ≤ gb247)); have n3_ := zN ((by rw [hg]; exact (below_size (by repeat (first | (with_reducible first | exact HB.out | apply zA | apply zB | apply zC) | exact HB.out))) : w.heap.size ≤ gb247)); clear HB; have HB := n0_; have BK247 := n1_; have GW247 := n2_; have GE247 := n3_; clear n0_ n1_ n2_ n3_; clear hb hbox hg; have hcz8_0 : w7.cell? ⟨gb247, 0, none⟩ = some (.int .i8 a0_0) := (blk_cell BK247.out 0).trans rfl; have hcz8_1 : w7.cell? ⟨gb247, 1, none⟩ = some (.int .i8 a0_1) := (blk_cell BK247.out 1).trans rfl; have hfz8_0 := blk_frozen BK247.out 0; have hfz8_1 := blk_frozen BK247.out 1) | ((with_reducible refine gate_callee (f := 98) rfl ?_); refine goesL_ (some 6) rfl rfl Try.func98 (by kernel_rfl) rfl #[.int .i64 (wrap64 (a0_0)), .int .i64 0, .int .i64 23] rfl (by (try simp only [List.map_toArray, List.map_cons, List.map_nil]); first | done | rfl | (simp only [List.length_drop, List.length_take]; rfl)) ?_; (with_reducible refine (impl_in.calls (wrap64 (a0_0)) 0 23 false _ A2.out).mono ?_); rintro e w' ⟨rfl, ⟨nd, rfl⟩⟩; refine ⟨_, rfl, ?_⟩))
  go_ret
  exact ⟨by first | rfl | (simp [errW_none, errW_some] <;> rfl) | (simp [*, errW_none, errW_some] <;> rfl), by repeat (first | (with_reducible first | exact HB.out | apply zA | apply zB | apply zC | refine zD ?_ GE247.out) | exact HB.out)⟩

/-! ### impl_ValidPiece: function 108 -/
def impl_ValidPiece.f (a0_0 : Int) (a0_1 : Int) (a0_2 : Int) (a0_3 : Int) (a0_4 : Int) : Option (Bool) := (impl_in.f (wrap64 (a0_2)) 0 5).bind fun t251 => (if t251 = true then ((impl_in.f (wrap64 (a0_3)) 0 3).bind fun t252 => (if t252 = true then ((impl_in.f (wrap64 (a0_4)) 1 9).bind fun t253 => (if t253 = true then ((impl_Cell_placed.f a0_0 a0_1).bind fun t254 => (some t254)) else (some false))) else (some false))) else (some false))
set_option maxHeartbeats 8000000 in
set_option maxRecDepth 100000 in
theorem impl_ValidPiece.calls (a0_0 : Int) (a0_1 : Int) (a0_2 : Int) (a0_3 : Int) (a0_4 : Int) (r : Bool) (w : World) (h : impl_ValidPiece.f a0_0 a0_1 a0_2 a0_3 a0_4 = some r) :
  Calls Try.prog 108 #[.agg #[.int .i8 a0_0, .int .i8 a0_1, .int .i8 a0_2, .int .i8 a0_3, .int .i8 a0_4]] w fun e w' => e = .returned (.bool r) ∧ Below w.heap.size w w' := by
 have hu91 := Try.underlying91
 have hu74 := Try.underlying74
 have HB := zN (Below.refl w.heap.size w)
 have H : ((impl_in.f (wrap64 (a0_2)) 0 5).bind fun t251 => (if t251 = true then ((impl_in.f (wrap64 (a0_3)) 0 3).bind fun t252 => (if t252 = true then ((impl_in.f (wrap64 (a0_4)) 1 9).bind fun t253 => (if t253 = true then ((impl_Cell_placed.f a0_0 a0_1).bind fun t254 => (some t254)) else (some false))) else (some false))) else (some false))) = some r := h
 clear h
 replace H := Option.bind_eq_some_iff.mp H
 obtain ⟨t251, A20, H⟩ := H
 replace H : (if t251 = true then ((impl_in.f (wrap64 (a0_3)) 0 3).bind fun t252 => (if t252 = true then ((impl_in.f (wrap64 (a0_4)) 1 9).bind fun t253 => (if t253 = true then ((impl_Cell_placed.f a0_0 a0_1).bind fun t254 => (some t254)) else (some false))) else (some false))) else (some false)) = some r := H
 have A2 := zN A20
 clear A20
 by_cases c3 : t251 = true
 ·subst c3
  have H1 : ((impl_in.f (wrap64 (a0_3)) 0 3).bind fun t252 => (if t252 = true then ((impl_in.f (wrap64 (a0_4)) 1 9).bind fun t253 => (if t253 = true then ((impl_Cell_placed.f a0_0 a0_1).bind fun t254 => (some t254)) else (some false))) else (some false))) = some r := by rw [if_pos rfl] at H; exact H
  clear H
  have H := H1
  clear H1
  replace H := Option.bind_eq_some_iff.mp H
  obtain ⟨t252, A40, H⟩ := H
  replace H : (if t252 = true then ((impl_in.f (wrap64 (a0_4)) 1 9).bind fun t253 => (if t253 = true then ((impl_Cell_placed.f a0_0 a0_1).bind fun t254 => (some t254)) else (some false))) else (some false)) = some r := H
  have A4 := zN A40
  clear A40
  by_cases c5 : t252 = true
  ·subst c5
   have H1 : ((impl_in.f (wrap64 (a0_4)) 1 9).bind fun t253 => (if t253 = true then ((impl_Cell_placed.f a0_0 a0_1).bind fun t254 => (some t254)) else (some false))) = some r := by rw [if_pos rfl] at H; exact H
   clear H
   have H := H1
   clear H1
   replace H := Option.bind_eq_some_iff.mp H
   obtain ⟨t253, A60, H⟩ := H
   replace H : (if t253 = true then ((impl_Cell_placed.f a0_0 a0_1).bind fun t254 => (some t254)) else (some false)) = some r := H
   have A6 := zN A60
   clear A60
   by_cases c7 : t253 = true
   ·subst c7
    have H1 : ((impl_Cell_placed.f a0_0 a0_1).bind fun t254 => (some t254)) = some r := by rw [if_pos rfl] at H; exact H
    clear H
    have H := H1
    clear H1
    replace H := Option.bind_eq_some_iff.mp H
    obtain ⟨t254, A80, H⟩ := H
    replace H : (some t254) = some r := H
    have A8 := zN A80
    clear A80
    obtain rfl := Option.some.inj H
    go_enter Try.func108, Try.ntmps108
    go_wp2_with (first | ((with_reducible refine gate_dst (N := 1) rfl ?_); refine box_event ?hg (N := 1) ?hd (cs := #[.int .i8 a0_0, .int .i8 a0_1, .int .i8 a0_2, .int .i8 a0_3, .int .i8 a0_4]) (t := 91) ?hr ?_; (case hd => rfl); (case hg => rfl); (case hr => first | (go_simp; done) | (go_simp; rfl)); intro gb250 hg w9 hbox hb; have n0_ := zN (below_step (by repeat (first | (with_reducible first | exact HB.out | apply zA | apply zB | apply zC) | exact HB.out)) hb); have n1_ := zN (hbox); have n2_ := zN ((by rw [hg]; exact (below_size (by repeat (first | (with_reducible first | exact HB.out | apply zA | apply zB | apply zC) | exact HB.out))) : w.heap.size ≤ gb250)); have n3_ := zN ((by rw [hg]; exact (below_size (by repeat (first | (with_reducible first | exact HB.out | apply zA | apply zB | apply zC) | exact HB.out))) : w.heap.size ≤ gb250)); clear HB; have HB := n0_; have BK250 := n1_; have GW250 := n2_; have GE250 := n3_; clear n0_ n1_ n2_ n3_; clear hb hbox hg; have hcz10_0 : w9.cell? ⟨gb250, 0, none⟩ = some (.int .i8 a0_0) := (blk_cell BK250.out 0).trans rfl; have hcz10_1 : w9.cell? ⟨gb250, 1, none⟩ = some (.int .i8 a0_1) := (blk_cell BK250.out 1).trans rfl; have hcz10_2 : w9.cell? ⟨gb250, 2, none⟩ = some (.int .i8 a0_2) := (blk_cell BK250.out 2).trans rfl; have hcz10_3 : w9.cell? ⟨gb250, 3, none⟩ = some (.int .i8 a0_3) := (blk_cell BK250.out 3).trans rfl; have hcz10_4 : w9.cell? ⟨gb250, 4, none⟩ = some (.int .i8 a0_4) := (blk_cell BK250.out 4).trans rfl; have hfz10_0 := blk_frozen BK250.out 0; have hfz10_1 := blk_frozen BK250.out 1; have hfz10_2 := blk_frozen BK250.out 2; have hfz10_3 := blk_frozen BK250.out 3; have hfz10_4 := blk_frozen BK250.out 4) | ((with_reducible refine gate_callee (f := 98) rfl ?_); refine goesL_ (some 6) rfl rfl Try.func98 (by kernel_rfl) rfl #[.int .i64 (wrap64 (a0_2)), .int .i64 0, .int .i64 5] rfl (by (try simp only [List.map_toArray, List.map_cons, List.map_nil]); first | done | rfl | (simp only [List.length_drop, List.length_take]; rfl)) ?_; (with_reducible refine (impl_in.calls (wrap64 (a0_2)) 0 5 true _ A2.out).mono ?_); rintro e w' ⟨rfl, ⟨nd, rfl⟩⟩; refine ⟨_, rfl, ?_⟩) | (go_at_call 98; (with_reducible refine (impl_in.calls (wrap64 (a0_3)) 0 3 true _ A4.out).mono ?_); rintro e w' ⟨rfl, ⟨nd, rfl⟩⟩) | (go_at_call 98; (with_reducible refine (impl_in.calls (wrap64 (a0_4)) 1 9 true _ A6.out).mono ?_); rintro e w' ⟨rfl, ⟨nd, rfl⟩⟩) | (go_at_call 164; (with_reducible refine (impl_Cell_placed.calls a0_0 a0_1 t254 _ A8.out).mono ?_); rintro e w11 ⟨rfl, hb⟩; have n0_ := zN (blk_below (g := gb250) (o := .cells #[.int .i8 a0_0, .int .i8 a0_1, .int .i8 a0_2, .int .i8 a0_3, .int .i8 a0_4] 91 (0, 0)) (by (with_reducible repeat (first | refine zE ?_ _ | refine zF ?_ | refine zG ?_ _)); exact BK250.out) hb); have n1_ := zN (below_step (by repeat (first | (with_reducible first | exact HB.out | apply zA | apply zB | apply zC | refine zD ?_ GE250.out) | exact HB.out)) hb); clear BK250; clear HB; have BK250 := n0_; have HB := n1_; clear n0_ n1_; (try clear hb); (try clear hb2); (try clear hk); (try clear hi)))
    go_ret
    exact ⟨by first | rfl | (simp [errW_none, errW_some] <;> rfl) | (simp [*, errW_none, errW_some] <;> rfl), by repeat (first | (with_reducible first | exact HB.out | apply zA | apply zB | apply zC | refine zD ?_ GE250.out) | exact HB.out)⟩
   ·replace c7 := Bool.eq_false_iff.mpr c7
    subst c7
    have H1 : (some false) = some r := by rw [if_neg (show ¬ (false = true) by decide)] at H; exact H
    clear H
    have H := H1
    clear H1
    obtain rfl := Option.some.inj H
    go_enter Try.func108, Try.ntmps108
    go_wp2_with (first | ((with_reducible refine gate_dst (N := 1) rfl ?_); refine box_event ?hg (N := 1) ?hd (cs := #[.int .i8 a0_0, .int .i8 a0_1, .int .i8 a0_2, .int .i8 a0_3, .int .i8 a0_4]) (t := 91) ?hr ?_; (case hd => rfl); (case hg => rfl); (case hr => first | (go_simp; done) | (go_simp; rfl)); intro gb250 hg w12 hbox hb; have n0_ := zN (below_step (by repeat (first | (with_reducible first | exact HB.out | apply zA | apply zB | apply zC) | exact HB.out)) hb); have n1_ := zN (hbox); have n2_ := zN ((by rw [hg]; exact (below_size (by repeat (first | (with_reducible first | exact HB.out | apply zA | apply zB | apply zC) | exact HB.out))) : w.heap.size ≤ gb250)); have n3_ := zN ((by rw [hg]; exact (below_size (by repeat (first | (with_reducible first | exact HB.out | apply zA | apply zB | apply zC) | exact HB.out))) : w.heap.size ≤ gb250)); clear HB; have HB := n0_; have BK250 := n1_; have GW250 := n2_; have GE250 := n3_; clear n0_ n1_ n2_ n3_; clear hb hbox hg; have hcz13_0 : w12.cell? ⟨gb250, 0, none⟩ = some (.int .i8 a0_0) := (blk_cell BK250.out 0).trans rfl; have hcz13_1 : w12.cell? ⟨gb250, 1, none⟩ = some (.int .i8 a0_1) := (blk_cell BK250.out 1).trans rfl; have hcz13_2 : w12.cell? ⟨gb250, 2, none⟩ = some (.int .i8 a0_2) := (blk_cell BK250.out 2).trans rfl; have hcz13_3 : w12.cell? ⟨gb250, 3, none⟩ = some (.int .i8 a0_3) := (blk_cell BK250.out 3).trans rfl; have hcz13_4 : w12.cell? ⟨gb250, 4, none⟩ = some (.int .i8 a0_4) := (blk_cell BK250.out 4).trans rfl; have hfz13_0 := blk_frozen BK250.out 0; have hfz13_1 := blk_frozen BK250.out 1; have hfz13_2 := blk_frozen BK250.out 2; have hfz13_3 := blk_frozen BK250.out 3; have hfz13_4 := blk_frozen BK250.out 4) | ((with_reducible refine gate_callee (f := 98) rfl ?_); refine goesL_ (some 6) rfl rfl Try.func98 (by kernel_rfl) rfl #[.int .i64 (wrap64 (a0_2)), .int .i64 0, .int .i64 5] rfl (by (try simp only [List.map_toArray, List.map_cons, List.map_nil]); first | done | rfl | (simp only [List.length_drop, List.length_take]; rfl)) ?_; (with_reducible refine (impl_in.calls (wrap64 (a0_2)) 0 5 true _ A2.out).mono ?_); rintro e w' ⟨rfl, ⟨nd, rfl⟩⟩; refine ⟨_, rfl, ?_⟩) | (go_at_call 98; (with_reducible refine (impl_in.calls (wrap64 (a0_3)) 0 3 true _ A4.out).mono ?_); rintro e w' ⟨rfl, ⟨nd, rfl⟩⟩) | (go_at_call 98; (with_reducible refine (impl_in.calls (wrap64 (a0_4)) 1 9 false _ A6.out).mono ?_); rintro e w' ⟨rfl, ⟨nd, rfl⟩⟩))
    go_ret
    exact ⟨by first | rfl | (simp [errW_none, errW_some] <;> rfl) | (simp [*, errW_none, errW_some] <;> rfl), by repeat (first | (with_reducible first | exact HB.out | apply zA | apply zB | apply zC | refine zD ?_ GE250.out) | exact HB.out)⟩
  ·replace c5 := Bool.eq_false_iff.mpr c5
   subst c5
   have H1 : (some false) = some r := by rw [if_neg (show ¬ (false = true) by decide)] at H; exact H
   clear H
   have H := H1
   clear H1
   obtain rfl := Option.some.inj H
   go_enter Try.func108, Try.ntmps108
   go_wp2_with (first | ((with_reducible refine gate_dst (N := 1) rfl ?_); refine box_event ?hg (N := 1) ?hd (cs := #[.int .i8 a0_0, .int .i8 a0_1, .int .i8 a0_2, .int .i8 a0_3, .int .i8 a0_4]) (t := 91) ?hr ?_; (case hd => rfl); (case hg => rfl); (case hr => first | (go_simp; done) | (go_simp; rfl)); intro gb250 hg w14 hbox hb; have n0_ := zN (below_step (by repeat (first | (with_reducible first | exact HB.out | apply zA | apply zB | apply zC) | exact HB.out)) hb); have n1_ := zN (hbox); have n2_ := zN ((by rw [hg]; exact (below_size (by repeat (first | (with_reducible first | exact HB.out | apply zA | apply zB | apply zC) | exact HB.out))) : w.heap.size ≤ gb250)); have n3_ := zN ((by rw [hg]; exact (below_size (by repeat (first | (with_reducible first | exact HB.out | apply zA | apply zB | apply zC) | exact HB.out))) : w.heap.size ≤ gb250)); clear HB; have HB := n0_; have BK250 := n1_; have GW250 := n2_; have GE250 := n3_; clear n0_ n1_ n2_ n3_; clear hb hbox hg; have hcz15_0 : w14.cell? ⟨gb250, 0, none⟩ = some (.int .i8 a0_0) := (blk_cell BK250.out 0).trans rfl; have hcz15_1 : w14.cell? ⟨gb250, 1, none⟩ = some (.int .i8 a0_1) := (blk_cell BK250.out 1).trans rfl; have hcz15_2 : w14.cell? ⟨gb250, 2, none⟩ = some (.int .i8 a0_2) := (blk_cell BK250.out 2).trans rfl; have hcz15_3 : w14.cell? ⟨gb250, 3, none⟩ = some (.int .i8 a0_3) := (blk_cell BK250.out 3).trans rfl; have hcz15_4 : w14.cell? ⟨gb250, 4, none⟩ = some (.int .i8 a0_4) := (blk_cell BK250.out 4).trans rfl; have hfz15_0 := blk_frozen BK250.out 0; have hfz15_1 := blk_frozen BK250.out 1; have hfz15_2 := blk_frozen BK250.out 2; have hfz15_3 := blk_frozen BK250.out 3; have hfz15_4 := blk_frozen BK250.out 4) | ((with_reducible refine gate_callee (f := 98) rfl ?_); refine goesL_ (some 6) rfl rfl Try.func98 (by kernel_rfl) rfl #[.int .i64 (wrap64 (a0_2)), .int .i64 0, .int .i64 5] rfl (by (try simp only [List.map_toArray, List.map_cons, List.map_nil]); first | done | rfl | (simp only [List.length_drop, List.length_take]; rfl)) ?_; (with_reducible refine (impl_in.calls (wrap64 (a0_2)) 0 5 true _ A2.out).mono ?_); rintro e w' ⟨rfl, ⟨nd, rfl⟩⟩; refine ⟨_, rfl, ?_⟩) | (go_at_call 98; (with_reducible refine (impl_in.calls (wrap64 (a0_3)) 0 3 false _ A4.out).mono ?_); rintro e w' ⟨rfl, ⟨nd, rfl⟩⟩))
   go_ret
   exact ⟨by first | rfl | (simp [errW_none, errW_some] <;> rfl) | (simp [*, errW_none, errW_some] <;> rfl), by repeat (first | (with_reducible first | exact HB.out | apply zA | apply zB | apply zC | refine zD ?_ GE250.out) | exact HB.out)⟩
 ·replace c3 := Bool.eq_false_iff.mpr c3
  subst c3
  have H1 : (some false) = some r := by rw [if_neg (show ¬ (false = true) by decide)] at H; exact H
  clear H
  have H := H1
  clear H1
  obtain rfl := Option.some.inj H
  go_enter Try.func108, Try.ntmps108
  go_wp2_with (first | ((with_reducible refine gate_dst (N := 1) rfl ?_); refine box_event ?hg (N := 1) ?hd (cs := #[.int .i8 a0_0, .int .i8 a0_1, .int .i8 a0_2, .int .i8 a0_3, .int .i8 a0_4]) (t := 91) ?hr ?_; (case hd => rfl); (case hg => rfl); (case hr => first | (go_simp; done) | (go_simp; rfl)); intro gb250 hg w16 hbox hb; have n0_ := zN (below_step (by repeat (first | (with_reducible first | exact HB.out | apply zA | apply zB | apply zC) | exact HB.out)) hb); have n1_ := zN (hbox); have n2_ := zN ((by rw [hg]; exact (below_size (by repeat (first | (with_reducible first | exact HB.out | apply zA | apply zB | apply zC) | exact HB.out))) : w.heap.size ≤ gb250)); have n3_ := zN ((by rw [hg]; exact (below_size (by repeat (first | (with_reducible first | exact HB.out | apply zA | apply zB | apply zC) | exact HB.out))) : w.heap.size ≤ gb250)); clear HB; have HB := n0_; have BK250 := n1_; have GW250 := n2_; have GE250 := n3_; clear n0_ n1_ n2_ n3_; clear hb hbox hg; have hcz17_0 : w16.cell? ⟨gb250, 0, none⟩ = some (.int .i8 a0_0) := (blk_cell BK250.out 0).trans rfl; have hcz17_1 : w16.cell? ⟨gb250, 1, none⟩ = some (.int .i8 a0_1) := (blk_cell BK250.out 1).trans rfl; have hcz17_2 : w16.cell? ⟨gb250, 2, none⟩ = some (.int .i8 a0_2) := (blk_cell BK250.out 2).trans rfl; have hcz17_3 : w16.cell? ⟨gb250, 3, none⟩ = some (.int .i8 a0_3) := (blk_cell BK250.out 3).trans rfl; have hcz17_4 : w16.cell? ⟨gb250, 4, none⟩ = some (.int .i8 a0_4) := (blk_cell BK250.out 4).trans rfl; have hfz17_0 := blk_frozen BK250.out 0; have hfz17_1 := blk_frozen BK250.out 1; have hfz17_2 := blk_frozen BK250.out 2; have hfz17_3 := blk_frozen BK250.out 3; have hfz17_4 := blk_frozen BK250.out 4) | ((with_reducible refine gate_callee (f := 98) rfl ?_); refine goesL_ (some 6) rfl rfl Try.func98 (by kernel_rfl) rfl #[.int .i64 (wrap64 (a0_2)), .int .i64 0, .int .i64 5] rfl (by (try simp only [List.map_toArray, List.map_cons, List.map_nil]); first | done | rfl | (simp only [List.length_drop, List.length_take]; rfl)) ?_; (with_reducible refine (impl_in.calls (wrap64 (a0_2)) 0 5 false _ A2.out).mono ?_); rintro e w' ⟨rfl, ⟨nd, rfl⟩⟩; refine ⟨_, rfl, ?_⟩))
  go_ret
  exact ⟨by first | rfl | (simp [errW_none, errW_some] <;> rfl) | (simp [*, errW_none, errW_some] <;> rfl), by repeat (first | (with_reducible first | exact HB.out | apply zA | apply zB | apply zC | refine zD ?_ GE250.out) | exact HB.out)⟩

/-! ### impl_Board_has: function 109 -/
def impl_Board_has.f (l0 : List (S37)) (a1_0 : Int) (a1_1 : Int) : Option (Bool) := if a1_0 ≥ 0 then (if 0 < (l0.length : Int) then (if a1_0 < ((rd_T37 l0 0).f0) then (if a1_1 ≥ 0 then (some (decide (a1_1 < ((rd_T37 l0 0).f1)))) else (some false)) else (some false)) else (none)) else (some false)
set_option maxHeartbeats 8000000 in
set_option maxRecDepth 100000 in
theorem impl_Board_has.calls (adp0 : Addr) (l0 : List (S37)) (a1_0 : Int) (a1_1 : Int) (r : Bool) (w : World) (hr0 : Kd.C k37 w (some adp0) l0.length l0) (h : impl_Board_has.f l0 a1_0 a1_1 = some r) :
  Calls Try.prog 109 #[.pointer (some adp0), .agg #[.int .i8 a1_0, .int .i8 a1_1]] w fun e w' => e = .returned (.bool r) ∧ Below w.heap.size w w' := by
 have hu74 := Try.underlying74
 have HR0 := zN hr0
 clear hr0
 have HB := zN (Below.refl w.heap.size w)
 have H : (if a1_0 ≥ 0 then (if 0 < (l0.length : Int) then (if a1_0 < ((rd_T37 l0 0).f0) then (if a1_1 ≥ 0 then (some (decide (a1_1 < ((rd_T37 l0 0).f1)))) else (some false)) else (some false)) else (none)) else (some false)) = some r := h
 clear h
 by_cases c3 : a1_0 ≥ 0
 ·rw [if_pos c3] at H
  have c3b0 : decide (0 ≤ a1_0) = true := decide_eq_true c3
  clear c3
  by_cases c4 : 0 < (l0.length : Int)
  ·rw [if_pos c4] at H
   have c4b0 : decide (0 < (l0.length : Int)) = true := decide_eq_true c4
   have c4b1 : decide (0 < l0.length) = true := decide_eq_true (by omega)
   clear c4
   by_cases c5 : a1_0 < ((rd_T37 l0 0).f0)
   ·rw [if_pos c5] at H
    have c5b0 : decide (a1_0 < ((rd_T37 l0 0).f0)) = true := decide_eq_true c5
    clear c5
    by_cases c6 : a1_1 ≥ 0
    ·rw [if_pos c6] at H
     have c6b0 : decide (0 ≤ a1_1) = true := decide_eq_true c6
     clear c6
     obtain rfl := Option.some.inj H
     go_enter Try.func109, Try.ntmps109
     go_wp2_with (first | ((with_reducible refine gate_dst (N := 3) rfl ?_); refine box_event ?hg (N := 3) ?hd (cs := #[.int .i8 a1_0, .int .i8 a1_1]) (t := 74) ?hr ?_; (case hd => rfl); (case hg => rfl); (case hr => first | (go_simp; done) | (go_simp; rfl)); intro gb255 hg w7 hbox hb; have n0_ := zN (below_step (by repeat (first | (with_reducible first | exact HB.out | apply zA | apply zB | apply zC) | exact HB.out)) hb); have n1_ := zN (hbox); have n2_ := zN ((by rw [hg]; exact (below_size (by repeat (first | (with_reducible first | exact HB.out | apply zA | apply zB | apply zC) | exact HB.out))) : w.heap.size ≤ gb255)); have n3_ := zN ((by rw [hg]; exact (below_size (by repeat (first | (with_reducible first | exact HB.out | apply zA | apply zB | apply zC) | exact HB.out))) : w.heap.size ≤ gb255)); clear HB; have HB := n0_; have BK255 := n1_; have GW255 := n2_; have GE255 := n3_; clear n0_ n1_ n2_ n3_; clear hb hbox hg; have hcz8_0 : w7.cell? ⟨gb255, 0, none⟩ = some (.int .i8 a1_0) := (blk_cell BK255.out 0).trans rfl; have hcz8_1 : w7.cell? ⟨gb255, 1, none⟩ = some (.int .i8 a1_1) := (blk_cell BK255.out 1).trans rfl; have hfz8_0 := blk_frozen BK255.out 0; have hfz8_1 := blk_frozen BK255.out 1; have p256 : 0 ≤ (0 : Int) := (by omega); have q256 : 0 < (l0.length : Int) := zJ (by first | (with_reducible assumption) | assumption); obtain ⟨ad256, A256_2, c256_2, e256, hx256_0, hx256_1, hx256_2, hl256_2, hi256_2⟩ := at_T37 HR0.out 0 p256 q256; obtain rfl : adp0 = ad256 := (by injection e256); have qi256 : (0 < l0.length) = True := eq_true (by omega); (try rw [zI] at hx256_0); (try rw [Nat.zero_mul] at hx256_0); (try rw [Addr.add_zero'] at hx256_0); (try rw [zI] at hx256_1); (try rw [Nat.zero_mul] at hx256_1); (try rw [Addr.add_zero'] at hx256_1); (try rw [zI] at hx256_2); (try rw [Nat.zero_mul] at hx256_2); (try rw [Addr.add_zero'] at hx256_2); replace hx256_0 := (HB.out.cell (zH w _ hx256_0)).trans hx256_0; replace hx256_1 := (HB.out.cell (zH w _ hx256_1)).trans hx256_1; replace hx256_2 := (HB.out.cell (zH w _ hx256_2)).trans hx256_2; have HR256_2 := zN hi256_2; have HC256_2 := zN hl256_2; clear hi256_2 hl256_2; replace p256 := eq_true p256; replace q256 := eq_true q256; have p257 : 0 ≤ (0 : Int) := (by omega); have q257 : 0 < (l0.length : Int) := zJ (by first | (with_reducible assumption) | assumption); obtain ⟨ad257, A257_2, c257_2, e257, hx257_0, hx257_1, hx257_2, hl257_2, hi257_2⟩ := at_T37 HR0.out 0 p257 q257; obtain rfl : adp0 = ad257 := (by injection e257); have qi257 : (0 < l0.length) = True := eq_true (by omega); (try rw [zI] at hx257_0); (try rw [Nat.zero_mul] at hx257_0); (try rw [Addr.add_zero'] at hx257_0); (try rw [zI] at hx257_1); (try rw [Nat.zero_mul] at hx257_1); (try rw [Addr.add_zero'] at hx257_1); (try rw [zI] at hx257_2); (try rw [Nat.zero_mul] at hx257_2); (try rw [Addr.add_zero'] at hx257_2); replace hx257_0 := (HB.out.cell (zH w _ hx257_0)).trans hx257_0; replace hx257_1 := (HB.out.cell (zH w _ hx257_1)).trans hx257_1; replace hx257_2 := (HB.out.cell (zH w _ hx257_2)).trans hx257_2; have HR257_2 := zN hi257_2; have HC257_2 := zN hl257_2; clear hi257_2 hl257_2; replace p257 := eq_true p257; replace q257 := eq_true q257; have ea_ := Option.some.inj (hx256_2.symm.trans hx257_2); injection ea_ with ea_ en_ ec_; subst ea_; subst ec_; clear en_))
     repeat (go_quiet (first | ((with_reducible refine gate_dst (N := 3) rfl ?_); refine box_event ?hg (N := 3) ?hd (cs := #[.int .i8 a1_0, .int .i8 a1_1]) (t := 74) ?hr ?_; (case hd => rfl); (case hg => rfl); (case hr => first | (go_simp; done) | (go_simp; rfl)); intro gb255 hg w7 hbox hb; have n0_ := zN (below_step (by repeat (first | (with_reducible first | exact HB.out | apply zA | apply zB | apply zC) | exact HB.out)) hb); have n1_ := zN (hbox); have n2_ := zN ((by rw [hg]; exact (below_size (by repeat (first | (with_reducible first | exact HB.out | apply zA | apply zB | apply zC) | exact HB.out))) : w.heap.size ≤ gb255)); have n3_ := zN ((by rw [hg]; exact (below_size (by repeat (first | (with_reducible first | exact HB.out | apply zA | apply zB | apply zC) | exact HB.out))) : w.heap.size ≤ gb255)); clear HB; have HB := n0_; have BK255 := n1_; have GW255 := n2_; have GE255 := n3_; clear n0_ n1_ n2_ n3_; clear hb hbox hg; have hcz8_0 : w7.cell? ⟨gb255, 0, none⟩ = some (.int .i8 a1_0) := (blk_cell BK255.out 0).trans rfl; have hcz8_1 : w7.cell? ⟨gb255, 1, none⟩ = some (.int .i8 a1_1) := (blk_cell BK255.out 1).trans rfl; have hfz8_0 := blk_frozen BK255.out 0; have hfz8_1 := blk_frozen BK255.out 1; have p256 : 0 ≤ (0 : Int) := (by omega); have q256 : 0 < (l0.length : Int) := zJ (by first | (with_reducible assumption) | assumption); obtain ⟨ad256, A256_2, c256_2, e256, hx256_0, hx256_1, hx256_2, hl256_2, hi256_2⟩ := at_T37 HR0.out 0 p256 q256; obtain rfl : adp0 = ad256 := (by injection e256); have qi256 : (0 < l0.length) = True := eq_true (by omega); (try rw [zI] at hx256_0); (try rw [Nat.zero_mul] at hx256_0); (try rw [Addr.add_zero'] at hx256_0); (try rw [zI] at hx256_1); (try rw [Nat.zero_mul] at hx256_1); (try rw [Addr.add_zero'] at hx256_1); (try rw [zI] at hx256_2); (try rw [Nat.zero_mul] at hx256_2); (try rw [Addr.add_zero'] at hx256_2); replace hx256_0 := (HB.out.cell (zH w _ hx256_0)).trans hx256_0; replace hx256_1 := (HB.out.cell (zH w _ hx256_1)).trans hx256_1; replace hx256_2 := (HB.out.cell (zH w _ hx256_2)).trans hx256_2; have HR256_2 := zN hi256_2; have HC256_2 := zN hl256_2; clear hi256_2 hl256_2; replace p256 := eq_true p256; replace q256 := eq_true q256; have p257 : 0 ≤ (0 : Int) := (by omega); have q257 : 0 < (l0.length : Int) := zJ (by first | (with_reducible assumption) | assumption); obtain ⟨ad257, A257_2, c257_2, e257, hx257_0, hx257_1, hx257_2, hl257_2, hi257_2⟩ := at_T37 HR0.out 0 p257 q257; obtain rfl : adp0 = ad257 := (by injection e257); have qi257 : (0 < l0.length) = True := eq_true (by omega); (try rw [zI] at hx257_0); (try rw [Nat.zero_mul] at hx257_0); (try rw [Addr.add_zero'] at hx257_0); (try rw [zI] at hx257_1); (try rw [Nat.zero_mul] at hx257_1); (try rw [Addr.add_zero'] at hx257_1); (try rw [zI] at hx257_2); (try rw [Nat.zero_mul] at hx257_2); (try rw [Addr.add_zero'] at hx257_2); replace hx257_0 := (HB.out.cell (zH w _ hx257_0)).trans hx257_0; replace hx257_1 := (HB.out.cell (zH w _ hx257_1)).trans hx257_1; replace hx257_2 := (HB.out.cell (zH w _ hx257_2)).trans hx257_2; have HR257_2 := zN hi257_2; have HC257_2 := zN hl257_2; clear hi257_2 hl257_2; replace p257 := eq_true p257; replace q257 := eq_true q257; have ea_ := Option.some.inj (hx256_2.symm.trans hx257_2); injection ea_ with ea_ en_ ec_; subst ea_; subst ec_; clear en_)); try go_wp2_with (first | ((with_reducible refine gate_dst (N := 3) rfl ?_); refine box_event ?hg (N := 3) ?hd (cs := #[.int .i8 a1_0, .int .i8 a1_1]) (t := 74) ?hr ?_; (case hd => rfl); (case hg => rfl); (case hr => first | (go_simp; done) | (go_simp; rfl)); intro gb255 hg w7 hbox hb; have n0_ := zN (below_step (by repeat (first | (with_reducible first | exact HB.out | apply zA | apply zB | apply zC) | exact HB.out)) hb); have n1_ := zN (hbox); have n2_ := zN ((by rw [hg]; exact (below_size (by repeat (first | (with_reducible first | exact HB.out | apply zA | apply zB | apply zC) | exact HB.out))) : w.heap.size ≤ gb255)); have n3_ := zN ((by rw [hg]; exact (below_size (by repeat (first | (with_reducible first | exact HB.out | apply zA | apply zB | apply zC) | exact HB.out))) : w.heap.size ≤ gb255)); clear HB; have HB := n0_; have BK255 := n1_; have GW255 := n2_; have GE255 := n3_; clear n0_ n1_ n2_ n3_; clear hb hbox hg; have hcz8_0 : w7.cell? ⟨gb255, 0, none⟩ = some (.int .i8 a1_0) := (blk_cell BK255.out 0).trans rfl; have hcz8_1 : w7.cell? ⟨gb255, 1, none⟩ = some (.int .i8 a1_1) := (blk_cell BK255.out 1).trans rfl; have hfz8_0 := blk_frozen BK255.out 0; have hfz8_1 := blk_frozen BK255.out 1; have p256 : 0 ≤ (0 : Int) := (by omega); have q256 : 0 < (l0.length : Int) := zJ (by first | (with_reducible assumption) | assumption); obtain ⟨ad256, A256_2, c256_2, e256, hx256_0, hx256_1, hx256_2, hl256_2, hi256_2⟩ := at_T37 HR0.out 0 p256 q256; obtain rfl : adp0 = ad256 := (by injection e256); have qi256 : (0 < l0.length) = True := eq_true (by omega); (try rw [zI] at hx256_0); (try rw [Nat.zero_mul] at hx256_0); (try rw [Addr.add_zero'] at hx256_0); (try rw [zI] at hx256_1); (try rw [Nat.zero_mul] at hx256_1); (try rw [Addr.add_zero'] at hx256_1); (try rw [zI] at hx256_2); (try rw [Nat.zero_mul] at hx256_2); (try rw [Addr.add_zero'] at hx256_2); replace hx256_0 := (HB.out.cell (zH w _ hx256_0)).trans hx256_0; replace hx256_1 := (HB.out.cell (zH w _ hx256_1)).trans hx256_1; replace hx256_2 := (HB.out.cell (zH w _ hx256_2)).trans hx256_2; have HR256_2 := zN hi256_2; have HC256_2 := zN hl256_2; clear hi256_2 hl256_2; replace p256 := eq_true p256; replace q256 := eq_true q256; have p257 : 0 ≤ (0 : Int) := (by omega); have q257 : 0 < (l0.length : Int) := zJ (by first | (with_reducible assumption) | assumption); obtain ⟨ad257, A257_2, c257_2, e257, hx257_0, hx257_1, hx257_2, hl257_2, hi257_2⟩ := at_T37 HR0.out 0 p257 q257; obtain rfl : adp0 = ad257 := (by injection e257); have qi257 : (0 < l0.length) = True := eq_true (by omega); (try rw [zI] at hx257_0); (try rw [Nat.zero_mul] at hx257_0); (try rw [Addr.add_zero'] at hx257_0); (try rw [zI] at hx257_1); (try rw [Nat.zero_mul] at hx257_1); (try rw [Addr.add_zero'] at hx257_1); (try rw [zI] at hx257_2); (try rw [Nat.zero_mul] at hx257_2); (try rw [Addr.add_zero'] at hx257_2); replace hx257_0 := (HB.out.cell (zH w _ hx257_0)).trans hx257_0; replace hx257_1 := (HB.out.cell (zH w _ hx257_1)).trans hx257_1; replace hx257_2 := (HB.out.cell (zH w _ hx257_2)).trans hx257_2; have HR257_2 := zN hi257_2; have HC257_2 := zN hl257_2; clear hi257_2 hl257_2; replace p257 := eq_true p257; replace q257 := eq_true q257; have ea_ := Option.some.inj (hx256_2.symm.trans hx257_2); injection ea_ with ea_ en_ ec_; subst ea_; subst ec_; clear en_)))
     go_ret
     exact ⟨by first | rfl | (simp [errW_none, errW_some] <;> rfl) | (simp [*, errW_none, errW_some] <;> rfl), by repeat (first | (with_reducible first | exact HB.out | apply zA | apply zB | apply zC | refine zD ?_ GE255.out) | exact HB.out)⟩
    ·rw [if_neg c6] at H
     have c6b0 : decide (0 ≤ a1_1) = false := decide_eq_false c6
     clear c6
     obtain rfl := Option.some.inj H
     go_enter Try.func109, Try.ntmps109
     go_wp2_with (first | ((with_reducible refine gate_dst (N := 3) rfl ?_); refine box_event ?hg (N := 3) ?hd (cs := #[.int .i8 a1_0, .int .i8 a1_1]) (t := 74) ?hr ?_; (case hd => rfl); (case hg => rfl); (case hr => first | (go_simp; done) | (go_simp; rfl)); intro gb255 hg w9 hbox hb; have n0_ := zN (below_step (by repeat (first | (with_reducible first | exact HB.out | apply zA | apply zB | apply zC) | exact HB.out)) hb); have n1_ := zN (hbox); have n2_ := zN ((by rw [hg]; exact (below_size (by repeat (first | (with_reducible first | exact HB.out | apply zA | apply zB | apply zC) | exact HB.out))) : w.heap.size ≤ gb255)); have n3_ := zN ((by rw [hg]; exact (below_size (by repeat (first | (with_reducible first | exact HB.out | apply zA | apply zB | apply zC) | exact HB.out))) : w.heap.size ≤ gb255)); clear HB; have HB := n0_; have BK255 := n1_; have GW255 := n2_; have GE255 := n3_; clear n0_ n1_ n2_ n3_; clear hb hbox hg; have hcz10_0 : w9.cell? ⟨gb255, 0, none⟩ = some (.int .i8 a1_0) := (blk_cell BK255.out 0).trans rfl; have hcz10_1 : w9.cell? ⟨gb255, 1, none⟩ = some (.int .i8 a1_1) := (blk_cell BK255.out 1).trans rfl; have hfz10_0 := blk_frozen BK255.out 0; have hfz10_1 := blk_frozen BK255.out 1; have p256 : 0 ≤ (0 : Int) := (by omega); have q256 : 0 < (l0.length : Int) := zJ (by first | (with_reducible assumption) | assumption); obtain ⟨ad256, A256_2, c256_2, e256, hx256_0, hx256_1, hx256_2, hl256_2, hi256_2⟩ := at_T37 HR0.out 0 p256 q256; obtain rfl : adp0 = ad256 := (by injection e256); have qi256 : (0 < l0.length) = True := eq_true (by omega); (try rw [zI] at hx256_0); (try rw [Nat.zero_mul] at hx256_0); (try rw [Addr.add_zero'] at hx256_0); (try rw [zI] at hx256_1); (try rw [Nat.zero_mul] at hx256_1); (try rw [Addr.add_zero'] at hx256_1); (try rw [zI] at hx256_2); (try rw [Nat.zero_mul] at hx256_2); (try rw [Addr.add_zero'] at hx256_2); replace hx256_0 := (HB.out.cell (zH w _ hx256_0)).trans hx256_0; replace hx256_1 := (HB.out.cell (zH w _ hx256_1)).trans hx256_1; replace hx256_2 := (HB.out.cell (zH w _ hx256_2)).trans hx256_2; have HR256_2 := zN hi256_2; have HC256_2 := zN hl256_2; clear hi256_2 hl256_2; replace p256 := eq_true p256; replace q256 := eq_true q256))
     repeat (go_quiet (first | ((with_reducible refine gate_dst (N := 3) rfl ?_); refine box_event ?hg (N := 3) ?hd (cs := #[.int .i8 a1_0, .int .i8 a1_1]) (t := 74) ?hr ?_; (case hd => rfl); (case hg => rfl); (case hr => first | (go_simp; done) | (go_simp; rfl)); intro gb255 hg w9 hbox hb; have n0_ := zN (below_step (by repeat (first | (with_reducible first | exact HB.out | apply zA | apply zB | apply zC) | exact HB.out)) hb); have n1_ := zN (hbox); have n2_ := zN ((by rw [hg]; exact (below_size (by repeat (first | (with_reducible first | exact HB.out | apply zA | apply zB | apply zC) | exact HB.out))) : w.heap.size ≤ gb255)); have n3_ := zN ((by rw [hg]; exact (below_size (by repeat (first | (with_reducible first | exact HB.out | apply zA | apply zB | apply zC) | exact HB.out))) : w.heap.size ≤ gb255)); clear HB; have HB := n0_; have BK255 := n1_; have GW255 := n2_; have GE255 := n3_; clear n0_ n1_ n2_ n3_; clear hb hbox hg; have hcz10_0 : w9.cell? ⟨gb255, 0, none⟩ = some (.int .i8 a1_0) := (blk_cell BK255.out 0).trans rfl; have hcz10_1 : w9.cell? ⟨gb255, 1, none⟩ = some (.int .i8 a1_1) := (blk_cell BK255.out 1).trans rfl; have hfz10_0 := blk_frozen BK255.out 0; have hfz10_1 := blk_frozen BK255.out 1; have p256 : 0 ≤ (0 : Int) := (by omega); have q256 : 0 < (l0.length : Int) := zJ (by first | (with_reducible assumption) | assumption); obtain ⟨ad256, A256_2, c256_2, e256, hx256_0, hx256_1, hx256_2, hl256_2, hi256_2⟩ := at_T37 HR0.out 0 p256 q256; obtain rfl : adp0 = ad256 := (by injection e256); have qi256 : (0 < l0.length) = True := eq_true (by omega); (try rw [zI] at hx256_0); (try rw [Nat.zero_mul] at hx256_0); (try rw [Addr.add_zero'] at hx256_0); (try rw [zI] at hx256_1); (try rw [Nat.zero_mul] at hx256_1); (try rw [Addr.add_zero'] at hx256_1); (try rw [zI] at hx256_2); (try rw [Nat.zero_mul] at hx256_2); (try rw [Addr.add_zero'] at hx256_2); replace hx256_0 := (HB.out.cell (zH w _ hx256_0)).trans hx256_0; replace hx256_1 := (HB.out.cell (zH w _ hx256_1)).trans hx256_1; replace hx256_2 := (HB.out.cell (zH w _ hx256_2)).trans hx256_2; have HR256_2 := zN hi256_2; have HC256_2 := zN hl256_2; clear hi256_2 hl256_2; replace p256 := eq_true p256; replace q256 := eq_true q256)); try go_wp2_with (first | ((with_reducible refine gate_dst (N := 3) rfl ?_); refine box_event ?hg (N := 3) ?hd (cs := #[.int .i8 a1_0, .int .i8 a1_1]) (t := 74) ?hr ?_; (case hd => rfl); (case hg => rfl); (case hr => first | (go_simp; done) | (go_simp; rfl)); intro gb255 hg w9 hbox hb; have n0_ := zN (below_step (by repeat (first | (with_reducible first | exact HB.out | apply zA | apply zB | apply zC) | exact HB.out)) hb); have n1_ := zN (hbox); have n2_ := zN ((by rw [hg]; exact (below_size (by repeat (first | (with_reducible first | exact HB.out | apply zA | apply zB | apply zC) | exact HB.out))) : w.heap.size ≤ gb255)); have n3_ := zN ((by rw [hg]; exact (below_size (by repeat (first | (with_reducible first | exact HB.out | apply zA | apply zB | apply zC) | exact HB.out))) : w.heap.size ≤ gb255)); clear HB; have HB := n0_; have BK255 := n1_; have GW255 := n2_; have GE255 := n3_; clear n0_ n1_ n2_ n3_; clear hb hbox hg; have hcz10_0 : w9.cell? ⟨gb255, 0, none⟩ = some (.int .i8 a1_0) := (blk_cell BK255.out 0).trans rfl; have hcz10_1 : w9.cell? ⟨gb255, 1, none⟩ = some (.int .i8 a1_1) := (blk_cell BK255.out 1).trans rfl; have hfz10_0 := blk_frozen BK255.out 0; have hfz10_1 := blk_frozen BK255.out 1; have p256 : 0 ≤ (0 : Int) := (by omega); have q256 : 0 < (l0.length : Int) := zJ (by first | (with_reducible assumption) | assumption); obtain ⟨ad256, A256_2, c256_2, e256, hx256_0, hx256_1, hx256_2, hl256_2, hi256_2⟩ := at_T37 HR0.out 0 p256 q256; obtain rfl : adp0 = ad256 := (by injection e256); have qi256 : (0 < l0.length) = True := eq_true (by omega); (try rw [zI] at hx256_0); (try rw [Nat.zero_mul] at hx256_0); (try rw [Addr.add_zero'] at hx256_0); (try rw [zI] at hx256_1); (try rw [Nat.zero_mul] at hx256_1); (try rw [Addr.add_zero'] at hx256_1); (try rw [zI] at hx256_2); (try rw [Nat.zero_mul] at hx256_2); (try rw [Addr.add_zero'] at hx256_2); replace hx256_0 := (HB.out.cell (zH w _ hx256_0)).trans hx256_0; replace hx256_1 := (HB.out.cell (zH w _ hx256_1)).trans hx256_1; replace hx256_2 := (HB.out.cell (zH w _ hx256_2)).trans hx256_2; have HR256_2 := zN hi256_2; have HC256_2 := zN hl256_2; clear hi256_2 hl256_2; replace p256 := eq_true p256; replace q256 := eq_true q256)))
     go_ret
     exact ⟨by first | rfl | (simp [errW_none, errW_some] <;> rfl) | (simp [*, errW_none, errW_some] <;> rfl), by repeat (first | (with_reducible first | exact HB.out | apply zA | apply zB | apply zC | refine zD ?_ GE255.out) | exact HB.out)⟩
   ·rw [if_neg c5] at H
    have c5b0 : decide (a1_0 < ((rd_T37 l0 0).f0)) = false := decide_eq_false c5
    clear c5
    obtain rfl := Option.some.inj H
    go_enter Try.func109, Try.ntmps109
    go_wp2_with (first | ((with_reducible refine gate_dst (N := 3) rfl ?_); refine box_event ?hg (N := 3) ?hd (cs := #[.int .i8 a1_0, .int .i8 a1_1]) (t := 74) ?hr ?_; (case hd => rfl); (case hg => rfl); (case hr => first | (go_simp; done) | (go_simp; rfl)); intro gb255 hg w11 hbox hb; have n0_ := zN (below_step (by repeat (first | (with_reducible first | exact HB.out | apply zA | apply zB | apply zC) | exact HB.out)) hb); have n1_ := zN (hbox); have n2_ := zN ((by rw [hg]; exact (below_size (by repeat (first | (with_reducible first | exact HB.out | apply zA | apply zB | apply zC) | exact HB.out))) : w.heap.size ≤ gb255)); have n3_ := zN ((by rw [hg]; exact (below_size (by repeat (first | (with_reducible first | exact HB.out | apply zA | apply zB | apply zC) | exact HB.out))) : w.heap.size ≤ gb255)); clear HB; have HB := n0_; have BK255 := n1_; have GW255 := n2_; have GE255 := n3_; clear n0_ n1_ n2_ n3_; clear hb hbox hg; have hcz12_0 : w11.cell? ⟨gb255, 0, none⟩ = some (.int .i8 a1_0) := (blk_cell BK255.out 0).trans rfl; have hcz12_1 : w11.cell? ⟨gb255, 1, none⟩ = some (.int .i8 a1_1) := (blk_cell BK255.out 1).trans rfl; have hfz12_0 := blk_frozen BK255.out 0; have hfz12_1 := blk_frozen BK255.out 1; have p256 : 0 ≤ (0 : Int) := (by omega); have q256 : 0 < (l0.length : Int) := zJ (by first | (with_reducible assumption) | assumption); obtain ⟨ad256, A256_2, c256_2, e256, hx256_0, hx256_1, hx256_2, hl256_2, hi256_2⟩ := at_T37 HR0.out 0 p256 q256; obtain rfl : adp0 = ad256 := (by injection e256); have qi256 : (0 < l0.length) = True := eq_true (by omega); (try rw [zI] at hx256_0); (try rw [Nat.zero_mul] at hx256_0); (try rw [Addr.add_zero'] at hx256_0); (try rw [zI] at hx256_1); (try rw [Nat.zero_mul] at hx256_1); (try rw [Addr.add_zero'] at hx256_1); (try rw [zI] at hx256_2); (try rw [Nat.zero_mul] at hx256_2); (try rw [Addr.add_zero'] at hx256_2); replace hx256_0 := (HB.out.cell (zH w _ hx256_0)).trans hx256_0; replace hx256_1 := (HB.out.cell (zH w _ hx256_1)).trans hx256_1; replace hx256_2 := (HB.out.cell (zH w _ hx256_2)).trans hx256_2; have HR256_2 := zN hi256_2; have HC256_2 := zN hl256_2; clear hi256_2 hl256_2; replace p256 := eq_true p256; replace q256 := eq_true q256))
    repeat (go_quiet (first | ((with_reducible refine gate_dst (N := 3) rfl ?_); refine box_event ?hg (N := 3) ?hd (cs := #[.int .i8 a1_0, .int .i8 a1_1]) (t := 74) ?hr ?_; (case hd => rfl); (case hg => rfl); (case hr => first | (go_simp; done) | (go_simp; rfl)); intro gb255 hg w11 hbox hb; have n0_ := zN (below_step (by repeat (first | (with_reducible first | exact HB.out | apply zA | apply zB | apply zC) | exact HB.out)) hb); have n1_ := zN (hbox); have n2_ := zN ((by rw [hg]; exact (below_size (by repeat (first | (with_reducible first | exact HB.out | apply zA | apply zB | apply zC) | exact HB.out))) : w.heap.size ≤ gb255)); have n3_ := zN ((by rw [hg]; exact (below_size (by repeat (first | (with_reducible first | exact HB.out | apply zA | apply zB | apply zC) | exact HB.out))) : w.heap.size ≤ gb255)); clear HB; have HB := n0_; have BK255 := n1_; have GW255 := n2_; have GE255 := n3_; clear n0_ n1_ n2_ n3_; clear hb hbox hg; have hcz12_0 : w11.cell? ⟨gb255, 0, none⟩ = some (.int .i8 a1_0) := (blk_cell BK255.out 0).trans rfl; have hcz12_1 : w11.cell? ⟨gb255, 1, none⟩ = some (.int .i8 a1_1) := (blk_cell BK255.out 1).trans rfl; have hfz12_0 := blk_frozen BK255.out 0; have hfz12_1 := blk_frozen BK255.out 1; have p256 : 0 ≤ (0 : Int) := (by omega); have q256 : 0 < (l0.length : Int) := zJ (by first | (with_reducible assumption) | assumption); obtain ⟨ad256, A256_2, c256_2, e256, hx256_0, hx256_1, hx256_2, hl256_2, hi256_2⟩ := at_T37 HR0.out 0 p256 q256; obtain rfl : adp0 = ad256 := (by injection e256); have qi256 : (0 < l0.length) = True := eq_true (by omega); (try rw [zI] at hx256_0); (try rw [Nat.zero_mul] at hx256_0); (try rw [Addr.add_zero'] at hx256_0); (try rw [zI] at hx256_1); (try rw [Nat.zero_mul] at hx256_1); (try rw [Addr.add_zero'] at hx256_1); (try rw [zI] at hx256_2); (try rw [Nat.zero_mul] at hx256_2); (try rw [Addr.add_zero'] at hx256_2); replace hx256_0 := (HB.out.cell (zH w _ hx256_0)).trans hx256_0; replace hx256_1 := (HB.out.cell (zH w _ hx256_1)).trans hx256_1; replace hx256_2 := (HB.out.cell (zH w _ hx256_2)).trans hx256_2; have HR256_2 := zN hi256_2; have HC256_2 := zN hl256_2; clear hi256_2 hl256_2; replace p256 := eq_true p256; replace q256 := eq_true q256)); try go_wp2_with (first | ((with_reducible refine gate_dst (N := 3) rfl ?_); refine box_event ?hg (N := 3) ?hd (cs := #[.int .i8 a1_0, .int .i8 a1_1]) (t := 74) ?hr ?_; (case hd => rfl); (case hg => rfl); (case hr => first | (go_simp; done) | (go_simp; rfl)); intro gb255 hg w11 hbox hb; have n0_ := zN (below_step (by repeat (first | (with_reducible first | exact HB.out | apply zA | apply zB | apply zC) | exact HB.out)) hb); have n1_ := zN (hbox); have n2_ := zN ((by rw [hg]; exact (below_size (by repeat (first | (with_reducible first | exact HB.out | apply zA | apply zB | apply zC) | exact HB.out))) : w.heap.size ≤ gb255)); have n3_ := zN ((by rw [hg]; exact (below_size (by repeat (first | (with_reducible first | exact HB.out | apply zA | apply zB | apply zC) | exact HB.out))) : w.heap.size ≤ gb255)); clear HB; have HB := n0_; have BK255 := n1_; have GW255 := n2_; have GE255 := n3_; clear n0_ n1_ n2_ n3_; clear hb hbox hg; have hcz12_0 : w11.cell? ⟨gb255, 0, none⟩ = some (.int .i8 a1_0) := (blk_cell BK255.out 0).trans rfl; have hcz12_1 : w11.cell? ⟨gb255, 1, none⟩ = some (.int .i8 a1_1) := (blk_cell BK255.out 1).trans rfl; have hfz12_0 := blk_frozen BK255.out 0; have hfz12_1 := blk_frozen BK255.out 1; have p256 : 0 ≤ (0 : Int) := (by omega); have q256 : 0 < (l0.length : Int) := zJ (by first | (with_reducible assumption) | assumption); obtain ⟨ad256, A256_2, c256_2, e256, hx256_0, hx256_1, hx256_2, hl256_2, hi256_2⟩ := at_T37 HR0.out 0 p256 q256; obtain rfl : adp0 = ad256 := (by injection e256); have qi256 : (0 < l0.length) = True := eq_true (by omega); (try rw [zI] at hx256_0); (try rw [Nat.zero_mul] at hx256_0); (try rw [Addr.add_zero'] at hx256_0); (try rw [zI] at hx256_1); (try rw [Nat.zero_mul] at hx256_1); (try rw [Addr.add_zero'] at hx256_1); (try rw [zI] at hx256_2); (try rw [Nat.zero_mul] at hx256_2); (try rw [Addr.add_zero'] at hx256_2); replace hx256_0 := (HB.out.cell (zH w _ hx256_0)).trans hx256_0; replace hx256_1 := (HB.out.cell (zH w _ hx256_1)).trans hx256_1; replace hx256_2 := (HB.out.cell (zH w _ hx256_2)).trans hx256_2; have HR256_2 := zN hi256_2; have HC256_2 := zN hl256_2; clear hi256_2 hl256_2; replace p256 := eq_true p256; replace q256 := eq_true q256)))
    go_ret
    exact ⟨by first | rfl | (simp [errW_none, errW_some] <;> rfl) | (simp [*, errW_none, errW_some] <;> rfl), by repeat (first | (with_reducible first | exact HB.out | apply zA | apply zB | apply zC | refine zD ?_ GE255.out) | exact HB.out)⟩
  ·rw [if_neg c4] at H
   exact absurd H (by simp)
 ·rw [if_neg c3] at H
  have c3b0 : decide (0 ≤ a1_0) = false := decide_eq_false c3
  clear c3
  obtain rfl := Option.some.inj H
  go_enter Try.func109, Try.ntmps109
  go_wp2_with (first | ((with_reducible refine gate_dst (N := 3) rfl ?_); refine box_event ?hg (N := 3) ?hd (cs := #[.int .i8 a1_0, .int .i8 a1_1]) (t := 74) ?hr ?_; (case hd => rfl); (case hg => rfl); (case hr => first | (go_simp; done) | (go_simp; rfl)); intro gb255 hg w13 hbox hb; have n0_ := zN (below_step (by repeat (first | (with_reducible first | exact HB.out | apply zA | apply zB | apply zC) | exact HB.out)) hb); have n1_ := zN (hbox); have n2_ := zN ((by rw [hg]; exact (below_size (by repeat (first | (with_reducible first | exact HB.out | apply zA | apply zB | apply zC) | exact HB.out))) : w.heap.size ≤ gb255)); have n3_ := zN ((by rw [hg]; exact (below_size (by repeat (first | (with_reducible first | exact HB.out | apply zA | apply zB | apply zC) | exact HB.out))) : w.heap.size ≤ gb255)); clear HB; have HB := n0_; have BK255 := n1_; have GW255 := n2_; have GE255 := n3_; clear n0_ n1_ n2_ n3_; clear hb hbox hg; have hcz14_0 : w13.cell? ⟨gb255, 0, none⟩ = some (.int .i8 a1_0) := (blk_cell BK255.out 0).trans rfl; have hcz14_1 : w13.cell? ⟨gb255, 1, none⟩ = some (.int .i8 a1_1) := (blk_cell BK255.out 1).trans rfl; have hfz14_0 := blk_frozen BK255.out 0; have hfz14_1 := blk_frozen BK255.out 1))
  repeat (go_quiet (first | ((with_reducible refine gate_dst (N := 3) rfl ?_); refine box_event ?hg (N := 3) ?hd (cs := #[.int .i8 a1_0, .int .i8 a1_1]) (t := 74) ?hr ?_; (case hd => rfl); (case hg => rfl); (case hr => first | (go_simp; done) | (go_simp; rfl)); intro gb255 hg w13 hbox hb; have n0_ := zN (below_step (by repeat (first | (with_reducible first | exact HB.out | apply zA | apply zB | apply zC) | exact HB.out)) hb); have n1_ := zN (hbox); have n2_ := zN ((by rw [hg]; exact (below_size (by repeat (first | (with_reducible first | exact HB.out | apply zA | apply zB | apply zC) | exact HB.out))) : w.heap.size ≤ gb255)); have n3_ := zN ((by rw [hg]; exact (below_size (by repeat (first | (with_reducible first | exact HB.out | apply zA | apply zB | apply zC) | exact HB.out))) : w.heap.size ≤ gb255)); clear HB; have HB := n0_; have BK255 := n1_; have GW255 := n2_; have GE255 := n3_; clear n0_ n1_ n2_ n3_; clear hb hbox hg; have hcz14_0 : w13.cell? ⟨gb255, 0, none⟩ = some (.int .i8 a1_0) := (blk_cell BK255.out 0).trans rfl; have hcz14_1 : w13.cell? ⟨gb255, 1, none⟩ = some (.int .i8 a1_1) := (blk_cell BK255.out 1).trans rfl; have hfz14_0 := blk_frozen BK255.out 0; have hfz14_1 := blk_frozen BK255.out 1)); try go_wp2_with (first | ((with_reducible refine gate_dst (N := 3) rfl ?_); refine box_event ?hg (N := 3) ?hd (cs := #[.int .i8 a1_0, .int .i8 a1_1]) (t := 74) ?hr ?_; (case hd => rfl); (case hg => rfl); (case hr => first | (go_simp; done) | (go_simp; rfl)); intro gb255 hg w13 hbox hb; have n0_ := zN (below_step (by repeat (first | (with_reducible first | exact HB.out | apply zA | apply zB | apply zC) | exact HB.out)) hb); have n1_ := zN (hbox); have n2_ := zN ((by rw [hg]; exact (below_size (by repeat (first | (with_reducible first | exact HB.out | apply zA | apply zB | apply zC) | exact HB.out))) : w.heap.size ≤ gb255)); have n3_ := zN ((by rw [hg]; exact (below_size (by repeat (first | (with_reducible first | exact HB.out | apply zA | apply zB | apply zC) | exact HB.out))) : w.heap.size ≤ gb255)); clear HB; have HB := n0_; have BK255 := n1_; have GW255 := n2_; have GE255 := n3_; clear n0_ n1_ n2_ n3_; clear hb hbox hg; have hcz14_0 : w13.cell? ⟨gb255, 0, none⟩ = some (.int .i8 a1_0) := (blk_cell BK255.out 0).trans rfl; have hcz14_1 : w13.cell? ⟨gb255, 1, none⟩ = some (.int .i8 a1_1) := (blk_cell BK255.out 1).trans rfl; have hfz14_0 := blk_frozen BK255.out 0; have hfz14_1 := blk_frozen BK255.out 1)))
  go_ret
  exact ⟨by first | rfl | (simp [errW_none, errW_some] <;> rfl) | (simp [*, errW_none, errW_some] <;> rfl), by repeat (first | (with_reducible first | exact HB.out | apply zA | apply zB | apply zC | refine zD ?_ GE255.out) | exact HB.out)⟩

/-! ### impl_ValidBoard: function 43 -/
theorem cellKey : CellKey Try.prog 74 22 := ⟨Try.underlying74, Try.underlying22, by kernel_rfl⟩
theorem zeroBool (w : World) : (zeroValue 4).run Try.prog w = .ok (.bool false) w := by kernel_rfl
mutual
def impl_ValidBoard.j0 : Nat → Bool → Int → Int → List (S91) → Option (Bool)
 | 0, _, _, _, _ => none
 | k + 1, x23, x171000, x171001, x171002 => if x23 = true then (some false) else (impl_ValidBoard.l0 k x171002 (x171002.length : Int) 0 x171000 x171001 x171002 [])
def impl_ValidBoard.l0 : Nat → List (S91) → Int → Int → Int → Int → List (S91) → List ((Int × Int) × Unit) → Option (Bool)
 | 0, _, _, _, _, _, _, _ => none
 | k + 1, x26, x27, x28, x171000, x171001, x171002, x900 => if x28 < x27 then (if 0 ≤ x28 then (if x28 < (x26.length : Int) then ((impl_ValidPiece.f ((rd_T91 x26 x28).f0.f0) ((rd_T91 x26 x28).f0.f1) ((rd_T91 x26 x28).f1) ((rd_T91 x26 x28).f2) ((rd_T91 x26 x28).f3)).bind fun t175 => (if t175 = true then ((impl_Board_has.f [(⟨x171000, x171001, x171002⟩ : S37)] ((rd_T91 x26 x28).f0.f0) ((rd_T91 x26 x28).f0.f1)).bind fun t176 => (if t176 = true then (if (mfind x900 ((rd_T91 x26 x28).f0.f0) ((rd_T91 x26 x28).f0.f1)).isSome = true then (some false) else (impl_ValidBoard.l0 k x26 x27 (wrap64 (x28 + 1)) x171000 x171001 x171002 (x900 ++ [((((rd_T91 x26 x28).f0.f0), ((rd_T91 x26 x28).f0.f1)), ())]))) else (some false))) else (some false))) else (none)) else (none)) else (some true)
end
def impl_ValidBoard.f (k : Nat) (a0_0 : Int) (a0_1 : Int) (l0_2 : List (S91)) : Option (Bool) := (impl_in.f (wrap64 (a0_0)) 1 24).bind fun t171 => (if t171 = true then ((impl_in.f (wrap64 (a0_1)) 1 24).bind fun t172 => (if t172 = true then (impl_ValidBoard.j0 k (decide ((l0_2.length : Int) > 200)) a0_0 a0_1 l0_2) else (impl_ValidBoard.j0 k true a0_0 a0_1 l0_2))) else (impl_ValidBoard.j0 k true a0_0 a0_1 l0_2))
theorem impl_ValidBoard.mono_l : ∀ k, (∀ y0 y1 y2 y3, LeO (impl_ValidBoard.j0 k y0 y1 y2 y3) (impl_ValidBoard.j0 (k + 1) y0 y1 y2 y3)) ∧ (∀ y0 y1 y2 y3 y4 y5 y6, LeO (impl_ValidBoard.l0 k y0 y1 y2 y3 y4 y5 y6) (impl_ValidBoard.l0 (k + 1) y0 y1 y2 y3 y4 y5 y6))
 | 0 => ⟨fun _ _ _ _ r h => by simp [impl_ValidBoard.j0] at h, fun _ _ _ _ _ _ _ r h => by simp [impl_ValidBoard.l0] at h⟩
 | k + 1 => by
  obtain ⟨ih0, ih1⟩ := impl_ValidBoard.mono_l k
  refine ⟨?_, ?_⟩
  ·intro y0 y1 y2 y3
   unfold impl_ValidBoard.j0
   repeat' first
   | (with_reducible exact ih0 _ _ _ _)
   | (with_reducible exact ih1 _ _ _ _ _ _ _)
   | (with_reducible exact LeO.refl _)
   | (with_reducible exact LeO.none _)
   | (with_reducible refine LeO.ite ?_ ?_)
   | (with_reducible refine LeO.bind ?_ (fun _ => ?_))
   | exact ih0 _ _ _ _
   | exact ih1 _ _ _ _ _ _ _
   | exact LeO.none _
   | refine LeO.ite ?_ ?_
   | refine LeO.bind ?_ (fun _ => ?_)
  ·intro y0 y1 y2 y3 y4 y5 y6
   unfold impl_ValidBoard.l0
   repeat' first
   | (with_reducible exact ih0 _ _ _ _)
   | (with_reducible exact ih1 _ _ _ _ _ _ _)
   | (with_reducible exact LeO.refl _)
   | (with_reducible exact LeO.none _)
   | (with_reducible refine LeO.ite ?_ ?_)
   | (with_reducible refine LeO.bind ?_ (fun _ => ?_))
   | exact ih0 _ _ _ _
   | exact ih1 _ _ _ _ _ _ _
   | exact LeO.none _
   | refine LeO.ite ?_ ?_
   | refine LeO.bind ?_ (fun _ => ?_)
theorem impl_ValidBoard.mono : ∀ a0 a1 a2 k, LeO (impl_ValidBoard.f k a0 a1 a2) (impl_ValidBoard.f (k + 1) a0 a1 a2) := by
 intro a0 a1 a2 k
 obtain ⟨ih0, ih1⟩ := impl_ValidBoard.mono_l k
 unfold impl_ValidBoard.f
 repeat' first
   | (with_reducible exact ih0 _ _ _ _)
   | (with_reducible exact ih1 _ _ _ _ _ _ _)
   | (with_reducible exact LeO.refl _)
   | (with_reducible exact LeO.none _)
   | (with_reducible refine LeO.ite ?_ ?_)
   | (with_reducible refine LeO.bind ?_ (fun _ => ?_))
   | exact ih0 _ _ _ _
   | exact ih1 _ _ _ _ _ _ _
   | exact LeO.none _
   | refine LeO.ite ?_ ?_
   | refine LeO.bind ?_ (fun _ => ?_)
set_option maxHeartbeats 8000000 in
set_option maxRecDepth 100000 in
theorem impl_ValidBoard.calls (k : Nat) (a0_0 : Int) (a0_1 : Int) (A0_2 : Option Addr) (c0_2 : Nat) (l0_2 : List (S91)) (r : Bool) (w : World) (hr0_2 : Kd.C k91 w A0_2 l0_2.length l0_2) (hc0_2 : l0_2.length ≤ c0_2) (h : impl_ValidBoard.f k a0_0 a0_1 l0_2 = some r) :
  Calls Try.prog 43 #[.agg #[.int .i8 a0_0, .int .i8 a0_1, .slice A0_2 l0_2.length c0_2]] w fun e w' => e = .returned (.bool r) ∧ Below w.heap.size w w' := by
 have hu37 := Try.underlying37
 have hu91 := Try.underlying91
 have hu74 := Try.underlying74
 have HR0_2 := zN hr0_2
 have HC0_2 := zN hc0_2
 clear hr0_2 hc0_2
 have HB := zN (Below.refl w.heap.size w)
 have H : ((impl_in.f (wrap64 (a0_0)) 1 24).bind fun t171 => (if t171 = true then ((impl_in.f (wrap64 (a0_1)) 1 24).bind fun t172 => (if t172 = true then (impl_ValidBoard.j0 k (decide ((l0_2.length : Int) > 200)) a0_0 a0_1 l0_2) else (impl_ValidBoard.j0 k true a0_0 a0_1 l0_2))) else (impl_ValidBoard.j0 k true a0_0 a0_1 l0_2))) = some r := h
 clear h
 have HC2 := zN H
 clear H
 go_enter Try.func43, Try.ntmps43
 go_upto_region 1 with (first | ((with_reducible refine gate_dst (N := 1) rfl ?_); (try (refine gate_guard (by rfl) ?_; dsimp only)); refine box_event ?hg (N := 1) ?hd (cs := #[.int .i8 a0_0, .int .i8 a0_1, .slice A0_2 l0_2.length c0_2]) (t := 37) ?hr ?_; (case hd => rfl); (case hg => rfl); (case hr => first | (go_simp; done) | (go_simp; rfl)); intro gb170 hg w3 hbox hb; have n0_ := zN (below_step (by repeat (first | (with_reducible first | exact HB.out | apply zA | apply zB | apply zC) | exact HB.out)) hb); have n1_ := zN (hbox); have n2_ := zN ((by rw [hg]; exact (below_size (by repeat (first | (with_reducible first | exact HB.out | apply zA | apply zB | apply zC) | exact HB.out))) : w.heap.size ≤ gb170)); have n3_ := zN ((by rw [hg]; exact (below_size (by repeat (first | (with_reducible first | exact HB.out | apply zA | apply zB | apply zC) | exact HB.out))) : w.heap.size ≤ gb170)); clear HB; have HB := n0_; have BK170 := n1_; have GW170 := n2_; have GE170 := n3_; clear n0_ n1_ n2_ n3_; clear hb hbox hg))
 (try simp only [Act.put, List.setIfInBounds_toArray, List.set_cons_zero, List.set_cons_succ])
 go_cut [23] (fun v23 wc => ∃ (kq : Nat) (x23_1 : Bool), v23 = .bool x23_1 ∧ Aside0 (impl_ValidBoard.j0 kq x23_1 a0_0 a0_1 l0_2 = some r) ∧ Aside0 (kq ≤ k) ∧ Aside0 (wc.heap[gb170]? = some (.cells #[.int .i8 a0_0, .int .i8 a0_1, (.slice A0_2 l0_2.length c0_2)] 37 (0, 0))) ∧ Aside0 (Below w.heap.size w wc))
 case first =>
  have H := HC2.out
  clear HC2
  replace H := Option.bind_eq_some_iff.mp H
  obtain ⟨t171, A40, H⟩ := H
  replace H : (if t171 = true then ((impl_in.f (wrap64 (a0_1)) 1 24).bind fun t172 => (if t172 = true then (impl_ValidBoard.j0 k (decide ((l0_2.length : Int) > 200)) a0_0 a0_1 l0_2) else (impl_ValidBoard.j0 k true a0_0 a0_1 l0_2))) else (impl_ValidBoard.j0 k true a0_0 a0_1 l0_2)) = some r := H
  have A4 := zN A40
  clear A40
  by_cases c5 : t171 = true
  ·subst c5
   have H1 : ((impl_in.f (wrap64 (a0_1)) 1 24).bind fun t172 => (if t172 = true then (impl_ValidBoard.j0 k (decide ((l0_2.length : Int) > 200)) a0_0 a0_1 l0_2) else (impl_ValidBoard.j0 k true a0_0 a0_1 l0_2))) = some r := by rw [if_pos rfl] at H; exact H
   clear H
   have H := H1
   clear H1
   replace H := Option.bind_eq_some_iff.mp H
   obtain ⟨t172, A60, H⟩ := H
   replace H : (if t172 = true then (impl_ValidBoard.j0 k (decide ((l0_2.length : Int) > 200)) a0_0 a0_1 l0_2) else (impl_ValidBoard.j0 k true a0_0 a0_1 l0_2)) = some r := H
   have A6 := zN A60
   clear A60
   by_cases c7 : t172 = true
   ·subst c7
    have H1 : (impl_ValidBoard.j0 k (decide ((l0_2.length : Int) > 200)) a0_0 a0_1 l0_2) = some r := by rw [if_pos rfl] at H; exact H
    clear H
    have H := H1
    clear H1
    have H' := zN H
    clear H
    have hcz8_0 : w3.cell? ⟨gb170, 0, none⟩ = some (.int .i8 a0_0) := (blk_cell BK170.out 0).trans rfl
    have hcz8_1 : w3.cell? ⟨gb170, 1, none⟩ = some (.int .i8 a0_1) := (blk_cell BK170.out 1).trans rfl
    have hcz8_2 : w3.cell? ⟨gb170, 2, none⟩ = some (.slice A0_2 l0_2.length c0_2) := (blk_cell BK170.out 2).trans rfl
    have hfz8_0 := blk_frozen BK170.out 0
    have hfz8_1 := blk_frozen BK170.out 1
    have hfz8_2 := blk_frozen BK170.out 2
    go_wp2_with (first | ((with_reducible refine gate_callee (f := 98) rfl ?_); refine goesL_ (some 9) rfl rfl Try.func98 (by kernel_rfl) rfl #[.int .i64 (wrap64 (a0_0)), .int .i64 1, .int .i64 24] rfl (by (try simp only [List.map_toArray, List.map_cons, List.map_nil]); first | done | rfl | (simp only [List.length_drop, List.length_take]; rfl)) ?_; (with_reducible refine (impl_in.calls (wrap64 (a0_0)) 1 24 true _ A4.out).mono ?_); rintro e w' ⟨rfl, ⟨nd, rfl⟩⟩; refine ⟨_, rfl, ?_⟩) | (go_at_call 98; (with_reducible refine (impl_in.calls (wrap64 (a0_1)) 1 24 true _ A6.out).mono ?_); rintro e w' ⟨rfl, ⟨nd, rfl⟩⟩))
    go_meet
    case rel => exact ⟨_, (decide ((l0_2.length : Int) > 200)), (by first | rfl | (simp; done) | (simp [*]; done) | (exact congrArg (Value.int .i64) (wrap_eq (by omega)))), H', ⟨by first | omega | exact Nat.le_refl _⟩, ⟨by (with_reducible repeat (first | refine zE ?_ _ | refine zF ?_ | refine zG ?_ _)); exact BK170.out⟩, ⟨by repeat (first | (with_reducible first | exact HB.out | apply zA | apply zB | apply zC | refine zD ?_ GE170.out) | exact HB.out)⟩⟩
   ·replace c7 := Bool.eq_false_iff.mpr c7
    subst c7
    have H1 : (impl_ValidBoard.j0 k true a0_0 a0_1 l0_2) = some r := by rw [if_neg (show ¬ (false = true) by decide)] at H; exact H
    clear H
    have H := H1
    clear H1
    have H' := zN H
    clear H
    have hcz9_0 : w3.cell? ⟨gb170, 0, none⟩ = some (.int .i8 a0_0) := (blk_cell BK170.out 0).trans rfl
    have hcz9_1 : w3.cell? ⟨gb170, 1, none⟩ = some (.int .i8 a0_1) := (blk_cell BK170.out 1).trans rfl
    have hcz9_2 : w3.cell? ⟨gb170, 2, none⟩ = some (.slice A0_2 l0_2.length c0_2) := (blk_cell BK170.out 2).trans rfl
    have hfz9_0 := blk_frozen BK170.out 0
    have hfz9_1 := blk_frozen BK170.out 1
    have hfz9_2 := blk_frozen BK170.out 2
    go_wp2_with (first | ((with_reducible refine gate_callee (f := 98) rfl ?_); refine goesL_ (some 9) rfl rfl Try.func98 (by kernel_rfl) rfl #[.int .i64 (wrap64 (a0_0)), .int .i64 1, .int .i64 24] rfl (by (try simp only [List.map_toArray, List.map_cons, List.map_nil]); first | done | rfl | (simp only [List.length_drop, List.length_take]; rfl)) ?_; (with_reducible refine (impl_in.calls (wrap64 (a0_0)) 1 24 true _ A4.out).mono ?_); rintro e w' ⟨rfl, ⟨nd, rfl⟩⟩; refine ⟨_, rfl, ?_⟩) | (go_at_call 98; (with_reducible refine (impl_in.calls (wrap64 (a0_1)) 1 24 false _ A6.out).mono ?_); rintro e w' ⟨rfl, ⟨nd, rfl⟩⟩))
    go_meet
    case rel => exact ⟨_, (true), (by first | rfl | (simp; done) | (simp [*]; done) | (exact congrArg (Value.int .i64) (wrap_eq (by omega)))), H', ⟨by first | omega | exact Nat.le_refl _⟩, ⟨by (with_reducible repeat (first | refine zE ?_ _ | refine zF ?_ | refine zG ?_ _)); exact BK170.out⟩, ⟨by repeat (first | (with_reducible first | exact HB.out | apply zA | apply zB | apply zC | refine zD ?_ GE170.out) | exact HB.out)⟩⟩
  ·replace c5 := Bool.eq_false_iff.mpr c5
   subst c5
   have H1 : (impl_ValidBoard.j0 k true a0_0 a0_1 l0_2) = some r := by rw [if_neg (show ¬ (false = true) by decide)] at H; exact H
   clear H
   have H := H1
   clear H1
   have H' := zN H
   clear H
   have hcz10_0 : w3.cell? ⟨gb170, 0, none⟩ = some (.int .i8 a0_0) := (blk_cell BK170.out 0).trans rfl
   have hcz10_1 : w3.cell? ⟨gb170, 1, none⟩ = some (.int .i8 a0_1) := (blk_cell BK170.out 1).trans rfl
   have hcz10_2 : w3.cell? ⟨gb170, 2, none⟩ = some (.slice A0_2 l0_2.length c0_2) := (blk_cell BK170.out 2).trans rfl
   have hfz10_0 := blk_frozen BK170.out 0
   have hfz10_1 := blk_frozen BK170.out 1
   have hfz10_2 := blk_frozen BK170.out 2
   go_wp2_with (first | ((with_reducible refine gate_callee (f := 98) rfl ?_); refine goesL_ (some 9) rfl rfl Try.func98 (by kernel_rfl) rfl #[.int .i64 (wrap64 (a0_0)), .int .i64 1, .int .i64 24] rfl (by (try simp only [List.map_toArray, List.map_cons, List.map_nil]); first | done | rfl | (simp only [List.length_drop, List.length_take]; rfl)) ?_; (with_reducible refine (impl_in.calls (wrap64 (a0_0)) 1 24 false _ A4.out).mono ?_); rintro e w' ⟨rfl, ⟨nd, rfl⟩⟩; refine ⟨_, rfl, ?_⟩))
   go_meet
   case rel => exact ⟨_, (true), (by first | rfl | (simp; done) | (simp [*]; done) | (exact congrArg (Value.int .i64) (wrap_eq (by omega)))), H', ⟨by first | omega | exact Nat.le_refl _⟩, ⟨by (with_reducible repeat (first | refine zE ?_ _ | refine zF ?_ | refine zG ?_ _)); exact BK170.out⟩, ⟨by repeat (first | (with_reducible first | exact HB.out | apply zA | apply zB | apply zC | refine zD ?_ GE170.out) | exact HB.out)⟩⟩
 case rest =>
  clear HC2
  try clear p2
  try clear c4
  try clear c5
  try clear p6
  try clear c7
  try clear c9
  try clear hcz10_0
  try clear hcz10_1
  try clear hcz10_2
  try clear hcz8_0
  try clear hcz8_1
  try clear hcz8_2
  try clear hcz9_0
  try clear hcz9_1
  try clear hcz9_2
  try clear hfz10_0
  try clear hfz10_1
  try clear hfz10_2
  try clear hfz8_0
  try clear hfz8_1
  try clear hfz8_2
  try clear hfz9_0
  try clear hfz9_1
  try clear hfz9_2
  obtain ⟨kq, x23_1, rfl, HA, HJ1, BK170, HB⟩ := hcut
  cases kq with
  | zero => exact absurd HA.out (by simp [impl_ValidBoard.j0])
  | succ kj1 =>
   have H := HA.out
   clear HA
   simp only [impl_ValidBoard.j0] at H
   by_cases c11 : x23_1 = true
   ·subst c11
    have H1 : (some false) = some r := by rw [if_pos rfl] at H; exact H
    clear H
    have H := H1
    clear H1
    obtain rfl := Option.some.inj H
    go_wp2
    go_ret
    exact ⟨by first | rfl | (simp [errW_none, errW_some] <;> rfl) | (simp [*, errW_none, errW_some] <;> rfl), by repeat (first | (with_reducible first | exact HB.out | apply zA | apply zB | apply zC | refine zD ?_ GE170.out) | exact HB.out)⟩
   ·replace c11 := Bool.eq_false_iff.mpr c11
    subst c11
    have H1 : (impl_ValidBoard.l0 kj1 l0_2 (l0_2.length : Int) 0 a0_0 a0_1 l0_2 []) = some r := by rw [if_neg (show ¬ (false = true) by decide)] at H; exact H
    clear H
    have H := H1
    clear H1
    have H' := zN H
    clear H
    have hcz12_0 : wc.cell? ⟨gb170, 0, none⟩ = some (.int .i8 a0_0) := (blk_cell BK170.out 0).trans rfl
    have hcz12_1 : wc.cell? ⟨gb170, 1, none⟩ = some (.int .i8 a0_1) := (blk_cell BK170.out 1).trans rfl
    have hcz12_2 : wc.cell? ⟨gb170, 2, none⟩ = some (.slice A0_2 l0_2.length c0_2) := (blk_cell BK170.out 2).trans rfl
    have hfz12_0 := blk_frozen BK170.out 0
    have hfz12_1 := blk_frozen BK170.out 1
    have hfz12_2 := blk_frozen BK170.out 2
    go_wp2_with (first | ((with_reducible refine gate_dst (N := 24) rfl ?_); (try (refine gate_guard (by rfl) ?_; dsimp only)); refine map_event rfl 138 rfl ?_; intro gm hg w40 hmap hb; have n0_ := zN (blk_below (g := gb170) (o := .cells #[.int .i8 a0_0, .int .i8 a0_1, .slice A0_2 l0_2.length c0_2] 37 (0, 0)) (by (with_reducible repeat (first | refine zE ?_ _ | refine zF ?_ | refine zG ?_ _)); exact BK170.out) hb); have n1_ := zN (below_step (by repeat (first | (with_reducible first | exact HB.out | apply zA | apply zB | apply zC | refine zD ?_ GE170.out) | exact HB.out)) hb); have n2_ := zN hmap; have n3_ := zN ((by rw [hg]; exact (below_size (by repeat (first | (with_reducible first | exact HB.out | apply zA | apply zB | apply zC | refine zD ?_ GE170.out) | exact HB.out)))) : w.heap.size ≤ gm); clear BK170; clear HB; have BK170 := n0_; have HB := n1_; have MM := n2_; have GEM := n3_; clear n0_ n1_ n2_ n3_; clear hb hmap hg; have hcz40_0 : w40.cell? ⟨gb170, 0, none⟩ = some (.int .i8 a0_0) := (blk_cell BK170.out 0).trans rfl; have hcz40_1 : w40.cell? ⟨gb170, 1, none⟩ = some (.int .i8 a0_1) := (blk_cell BK170.out 1).trans rfl; have hcz40_2 : w40.cell? ⟨gb170, 2, none⟩ = some (.slice A0_2 l0_2.length c0_2) := (blk_cell BK170.out 2).trans rfl; have hfz40_0 := blk_frozen BK170.out 0; have hfz40_1 := blk_frozen BK170.out 1; have hfz40_2 := blk_frozen BK170.out 2))
    go_loopg [28] kj1 (fun kq v28 w' => ∃ (x28_2 : Int) (x900 : List ((Int × Int) × Unit)) (es : Array MapEntry) (ck : Nat), v28 = .int .i64 x28_2 ∧ Aside0 (impl_ValidBoard.l0 kq l0_2 (l0_2.length : Int) x28_2 a0_0 a0_1 l0_2 x900 = some r) ∧ Aside0 (kq ≤ kj1) ∧ Aside0 (w'.heap[gb170]? = some (.cells #[.int .i8 a0_0, .int .i8 a0_1, (.slice A0_2 l0_2.length c0_2)] 37 (0, 0))) ∧ Aside0 (w'.heap[gm]? = some (.map es ck)) ∧ Aside0 (ER (fun _ : Unit => Value.bool true) es x900) ∧ Aside0 (Below w.heap.size w w'))
    case atStart => exact ⟨(0), [], #[], 0, (by first | rfl | (simp; done) | (simp [*]; done) | (exact congrArg (Value.int .i64) (wrap_eq (by omega)))), H', ⟨Nat.le_refl _⟩, ⟨by (with_reducible repeat (first | refine zE ?_ _ | refine zF ?_ | refine zG ?_ _)); exact BK170.out⟩, ⟨by (with_reducible repeat (first | refine zE ?_ _ | refine zF ?_ | refine zG ?_ _)); exact MM.out⟩, ⟨rfl⟩, ⟨by repeat (first | (with_reducible first | exact HB.out | apply zA | apply zB | apply zC | refine zD ?_ GE170.out) | exact HB.out)⟩⟩
    case round =>
     clear H'
     try clear c1
     try clear p2
     try clear c4
     try clear c5
     try clear p6
     try clear c7
     try clear c9
     try clear c11
     try clear hcz10_0
     try clear hcz10_1
     try clear hcz10_2
     try clear hcz12_0
     try clear hcz12_1
     try clear hcz12_2
     try clear hcz8_0
     try clear hcz8_1
     try clear hcz8_2
     try clear hcz9_0
     try clear hcz9_1
     try clear hcz9_2
     try clear hfz10_0
     try clear hfz10_1
     try clear hfz10_2
     try clear hfz12_0
     try clear hfz12_1
     try clear hfz12_2
     try clear hfz8_0
     try clear hfz8_1
     try clear hfz8_2
     try clear hfz9_0
     try clear hfz9_1
     try clear hfz9_2
     try clear p2
     try clear p6
     obtain ⟨x28_2, x900, es, ck, rfl, HA, HK2, BK170, MM, MER, HB⟩ := hrel
     have GMB : Aside0 (gb170 ≠ gm) := ⟨by rintro rfl; have h1 := BK170.out; rw [MM.out] at h1; cases h1⟩
     try clear hcz40_0
     try clear hcz40_1
     try clear hcz40_2
     try clear hfz40_0
     try clear hfz40_1
     try clear hfz40_2
     cases gk with
     | zero => exact absurd HA.out (by simp [impl_ValidBoard.l0])
     | succ k2 =>
      have H := HA.out
      clear HA
      simp only [impl_ValidBoard.l0] at H
      by_cases c13 : x28_2 < (l0_2.length : Int)
      ·rw [if_pos c13] at H
       have c13b0 : decide (x28_2 < (l0_2.length : Int)) = true := decide_eq_true c13
       clear c13
       by_cases c14 : 0 ≤ x28_2
       ·rw [if_pos c14] at H
        have c14b0 : decide (0 ≤ x28_2) = true := decide_eq_true c14
        clear c14
        by_cases c15 : x28_2 < (l0_2.length : Int)
        ·rw [if_pos c15] at H
         have c15b0 : decide (x28_2 < (l0_2.length : Int)) = true := decide_eq_true c15
         clear c15
         replace H := Option.bind_eq_some_iff.mp H
         obtain ⟨t175, A160, H⟩ := H
         replace H : (if t175 = true then ((impl_Board_has.f [(⟨a0_0, a0_1, l0_2⟩ : S37)] ((rd_T91 l0_2 x28_2).f0.f0) ((rd_T91 l0_2 x28_2).f0.f1)).bind fun t176 => (if t176 = true then (if (mfind x900 ((rd_T91 l0_2 x28_2).f0.f0) ((rd_T91 l0_2 x28_2).f0.f1)).isSome = true then (some false) else (impl_ValidBoard.l0 k2 l0_2 (l0_2.length : Int) (wrap64 (x28_2 + 1)) a0_0 a0_1 l0_2 (x900 ++ [((((rd_T91 l0_2 x28_2).f0.f0), ((rd_T91 l0_2 x28_2).f0.f1)), ())]))) else (some false))) else (some false)) = some r := H
         have A16 := zN A160
         clear A160
         by_cases c17 : t175 = true
         ·subst c17
          have H1 : ((impl_Board_has.f [(⟨a0_0, a0_1, l0_2⟩ : S37)] ((rd_T91 l0_2 x28_2).f0.f0) ((rd_T91 l0_2 x28_2).f0.f1)).bind fun t176 => (if t176 = true then (if (mfind x900 ((rd_T91 l0_2 x28_2).f0.f0) ((rd_T91 l0_2 x28_2).f0.f1)).isSome = true then (some false) else (impl_ValidBoard.l0 k2 l0_2 (l0_2.length : Int) (wrap64 (x28_2 + 1)) a0_0 a0_1 l0_2 (x900 ++ [((((rd_T91 l0_2 x28_2).f0.f0), ((rd_T91 l0_2 x28_2).f0.f1)), ())]))) else (some false))) = some r := by rw [if_pos rfl] at H; exact H
          clear H
          have H := H1
          clear H1
          replace H := Option.bind_eq_some_iff.mp H
          obtain ⟨t176, A180, H⟩ := H
          replace H : (if t176 = true then (if (mfind x900 ((rd_T91 l0_2 x28_2).f0.f0) ((rd_T91 l0_2 x28_2).f0.f1)).isSome = true then (some false) else (impl_ValidBoard.l0 k2 l0_2 (l0_2.length : Int) (wrap64 (x28_2 + 1)) a0_0 a0_1 l0_2 (x900 ++ [((((rd_T91 l0_2 x28_2).f0.f0), ((rd_T91 l0_2 x28_2).f0.f1)), ())]))) else (some false)) = some r := H
          have A18 := zN A180
          clear A180
          by_cases c19 : t176 = true
          ·subst c19
           have H1 : (if (mfind x900 ((rd_T91 l0_2 x28_2).f0.f0) ((rd_T91 l0_2 x28_2).f0.f1)).isSome = true then (some false) else (impl_ValidBoard.l0 k2 l0_2 (l0_2.length : Int) (wrap64 (x28_2 + 1)) a0_0 a0_1 l0_2 (x900 ++ [((((rd_T91 l0_2 x28_2).f0.f0), ((rd_T91 l0_2 x28_2).f0.f1)), ())]))) = some r := by rw [if_pos rfl] at H; exact H
           clear H
           have H := H1
           clear H1
           by_cases c21 : (mfind x900 ((rd_T91 l0_2 x28_2).f0.f0) ((rd_T91 l0_2 x28_2).f0.f1)).isSome = true
           ·rw [if_pos c21] at H
            obtain rfl := Option.some.inj H
            have p173 : 0 ≤ (x28_2 : Int) := zJ (by first | (with_reducible assumption) | assumption)
            have q173 : x28_2 < (l0_2.length : Int) := zJ (by first | (with_reducible assumption) | assumption)
            obtain ⟨ad173, e173, hx173_0, hx173_1, hx173_2, hx173_3, hx173_4⟩ := at_T91 HR0_2.out x28_2 p173 q173
            cases e173
            replace hx173_0 := (HB.out.cell (zH w _ hx173_0)).trans hx173_0
            replace hx173_1 := (HB.out.cell (zH w _ hx173_1)).trans hx173_1
            replace hx173_2 := (HB.out.cell (zH w _ hx173_2)).trans hx173_2
            replace hx173_3 := (HB.out.cell (zH w _ hx173_3)).trans hx173_3
            replace hx173_4 := (HB.out.cell (zH w _ hx173_4)).trans hx173_4
            replace p173 := eq_true p173
            replace q173 := eq_true q173
            have ml : ∀ W : World, W.heap[gm]? = some (.map es ck) → (Instr.lookup 138 (.map (some gm)) (.agg #[.int .i8 ((rd_T91 l0_2 x28_2).f0.f0), .int .i8 ((rd_T91 l0_2 x28_2).f0.f1)]) false).run Try.prog W = .ok (.bool true) W := by
             intro W hW
             refine (run_mlook (V := 4) cellKey Try.underlying138 (zeroBool W) hW MER.out _ _ false).trans ?_
             simp only [Bool.false_eq_true, if_false]; obtain ⟨v_, hv_⟩ := Option.isSome_iff_exists.mp c21; rw [hv_]; rfl
            go_wp2_with (first | ((with_reducible refine gate_dst (N := 5) rfl ?_); (try (refine gate_guard (by rfl) ?_; dsimp only)); refine box_event ?hg (N := 5) ?hd (cs := #[.int .i8 0, .int .i8 0, .int .i8 0, .int .i8 0, .int .i8 0]) (t := 91) ?hr ?_; (case hd => rfl); (case hg => rfl); (case hr => first | (go_simp; done) | (go_simp; rfl)); intro gb174 hg w20 hbox hb; have NM174 := zN ((by rw [hg]; exact Nat.ne_of_lt (blk_lt (g := gm) (o := .map es ck) (by (with_reducible repeat (first | refine zE ?_ _ | refine zF ?_ | refine zG ?_ _)); exact MM.out))) : gm ≠ gb174); have m0_ := zN (blk_below (g := gm) (o := .map es ck) (by (with_reducible repeat (first | refine zE ?_ _ | refine zF ?_ | refine zG ?_ _)); exact MM.out) hb); clear MM; have MM := m0_; clear m0_; have n0_ := zN (blk_below (g := gb170) (o := .cells #[.int .i8 a0_0, .int .i8 a0_1, .slice (some ad173) l0_2.length c0_2] 37 (0, 0)) (by (with_reducible repeat (first | refine zE ?_ _ | refine zF ?_ | refine zG ?_ _)); exact BK170.out) hb); have n1_ := zN (below_step (by repeat (first | (with_reducible first | exact HB.out | apply zA | apply zB | apply zC | refine zD ?_ GE170.out) | exact HB.out)) hb); have n2_ := zN (hbox); have n3_ := zN ((by rw [hg]; exact (below_size (by repeat (first | (with_reducible first | exact HB.out | apply zA | apply zB | apply zC | refine zD ?_ GE170.out) | exact HB.out))) : w.heap.size ≤ gb174)); have n4_ := zN ((by rw [hg]; exact (below_size (by repeat (first | (with_reducible first | exact HB.out | apply zA | apply zB | apply zC | refine zD ?_ GE170.out) | exact HB.out))) : w.heap.size ≤ gb174)); have n5_ := zN ((by rw [hg]; exact Nat.ne_of_lt (blk_lt (g := gb170) (o := .cells #[.int .i8 a0_0, .int .i8 a0_1, .slice (some ad173) l0_2.length c0_2] 37 (0, 0)) (by (with_reducible repeat (first | refine zE ?_ _ | refine zF ?_ | refine zG ?_ _)); exact BK170.out)) : gb170 ≠ gb174)); have n6_ := zN ((by rw [hg]; exact Nat.ne_of_gt (blk_lt (g := gb170) (o := .cells #[.int .i8 a0_0, .int .i8 a0_1, .slice (some ad173) l0_2.length c0_2] 37 (0, 0)) (by (with_reducible repeat (first | refine zE ?_ _ | refine zF ?_ | refine zG ?_ _)); exact BK170.out)) : gb174 ≠ gb170)); clear BK170; clear HB; have BK170 := n0_; have HB := n1_; have BK174 := n2_; have GW174 := n3_; have GE174 := n4_; have NB170_174 := n5_; have NB174_170 := n6_; clear n0_ n1_ n2_ n3_ n4_ n5_ n6_; clear hb hbox hg; have hnb21 := NB174_170.out; have hnc21 := NB170_174.out; have hcz22_0 : w20.cell? ⟨gb174, 0, none⟩ = some (.int .i8 0) := (blk_cell BK174.out 0).trans rfl; have hcz22_1 : w20.cell? ⟨gb174, 1, none⟩ = some (.int .i8 0) := (blk_cell BK174.out 1).trans rfl; have hcz22_2 : w20.cell? ⟨gb174, 2, none⟩ = some (.int .i8 0) := (blk_cell BK174.out 2).trans rfl; have hcz22_3 : w20.cell? ⟨gb174, 3, none⟩ = some (.int .i8 0) := (blk_cell BK174.out 3).trans rfl; have hcz22_4 : w20.cell? ⟨gb174, 4, none⟩ = some (.int .i8 0) := (blk_cell BK174.out 4).trans rfl; have hfz22_0 := blk_frozen BK174.out 0; have hfz22_1 := blk_frozen BK174.out 1; have hfz22_2 := blk_frozen BK174.out 2; have hfz22_3 := blk_frozen BK174.out 3; have hfz22_4 := blk_frozen BK174.out 4) | ((with_reducible refine gate_callee (f := 108) rfl ?_); refine goesL_ (some 33) rfl rfl Try.func108 (by kernel_rfl) rfl #[.agg #[.int .i8 ((rd_T91 l0_2 x28_2).f0.f0), .int .i8 ((rd_T91 l0_2 x28_2).f0.f1), .int .i8 ((rd_T91 l0_2 x28_2).f1), .int .i8 ((rd_T91 l0_2 x28_2).f2), .int .i8 ((rd_T91 l0_2 x28_2).f3)]] rfl (by (try simp only [List.map_toArray, List.map_cons, List.map_nil]); first | done | rfl | (simp only [List.length_drop, List.length_take]; rfl)) ?_; (with_reducible refine (impl_ValidPiece.calls ((rd_T91 l0_2 x28_2).f0.f0) ((rd_T91 l0_2 x28_2).f0.f1) ((rd_T91 l0_2 x28_2).f1) ((rd_T91 l0_2 x28_2).f2) ((rd_T91 l0_2 x28_2).f3) true _ A16.out).mono ?_); rintro e w23 ⟨rfl, hb⟩; refine ⟨_, rfl, ?_⟩; have m0_ := zN (blk_below (g := gm) (o := .map es ck) (by (repeat (first | (with_reducible refine zE ?_ _) | (with_reducible refine zF ?_) | (with_reducible refine zG ?_ _) | (refine mblk_far ?_ NM174.out _))); exact MM.out) hb); clear MM; have MM := m0_; clear m0_; have n0_ := zN (blk_below (g := gb170) (o := .cells #[.int .i8 a0_0, .int .i8 a0_1, .slice (some ad173) l0_2.length c0_2] 37 (0, 0)) (by (with_reducible repeat (first | refine zE ?_ _ | refine zF ?_ | refine zG ?_ _)); refine blk_far ?_ NB170_174.out _; (with_reducible repeat (first | refine zE ?_ _ | refine zF ?_ | refine zG ?_ _)); refine blk_far ?_ NB170_174.out _; (with_reducible repeat (first | refine zE ?_ _ | refine zF ?_ | refine zG ?_ _)); refine blk_far ?_ NB170_174.out _; (with_reducible repeat (first | refine zE ?_ _ | refine zF ?_ | refine zG ?_ _)); refine blk_far ?_ NB170_174.out _; (with_reducible repeat (first | refine zE ?_ _ | refine zF ?_ | refine zG ?_ _)); refine blk_far ?_ NB170_174.out _; (with_reducible repeat (first | refine zE ?_ _ | refine zF ?_ | refine zG ?_ _)); exact BK170.out) hb); have n1_ := zN (blk_below (g := gb174) (o := .cells #[.int .i8 ((rd_T91 l0_2 x28_2).f0.f0), .int .i8 ((rd_T91 l0_2 x28_2).f0.f1), .int .i8 ((rd_T91 l0_2 x28_2).f1), .int .i8 ((rd_T91 l0_2 x28_2).f2), .int .i8 ((rd_T91 l0_2 x28_2).f3)] 91 (0, 0)) (by (with_reducible repeat (first | refine zE ?_ _ | refine zF ?_ | refine zG ?_ _)); refine blk_put (cs := #[.int .i8 ((rd_T91 l0_2 x28_2).f0.f0), .int .i8 ((rd_T91 l0_2 x28_2).f0.f1), .int .i8 ((rd_T91 l0_2 x28_2).f1), .int .i8 ((rd_T91 l0_2 x28_2).f2), .int .i8 0]) ?_ 4 _ rfl; (with_reducible repeat (first | refine zE ?_ _ | refine zF ?_ | refine zG ?_ _)); refine blk_put (cs := #[.int .i8 ((rd_T91 l0_2 x28_2).f0.f0), .int .i8 ((rd_T91 l0_2 x28_2).f0.f1), .int .i8 ((rd_T91 l0_2 x28_2).f1), .int .i8 0, .int .i8 0]) ?_ 3 _ rfl; (with_reducible repeat (first | refine zE ?_ _ | refine zF ?_ | refine zG ?_ _)); refine blk_put (cs := #[.int .i8 ((rd_T91 l0_2 x28_2).f0.f0), .int .i8 ((rd_T91 l0_2 x28_2).f0.f1), .int .i8 0, .int .i8 0, .int .i8 0]) ?_ 2 _ rfl; (with_reducible repeat (first | refine zE ?_ _ | refine zF ?_ | refine zG ?_ _)); refine blk_put (cs := #[.int .i8 ((rd_T91 l0_2 x28_2).f0.f0), .int .i8 0, .int .i8 0, .int .i8 0, .int .i8 0]) ?_ 1 _ rfl; (with_reducible repeat (first | refine zE ?_ _ | refine zF ?_ | refine zG ?_ _)); refine blk_put (cs := #[.int .i8 0, .int .i8 0, .int .i8 0, .int .i8 0, .int .i8 0]) ?_ 0 _ rfl; (with_reducible repeat (first | refine zE ?_ _ | refine zF ?_ | refine zG ?_ _)); exact BK174.out) hb); have n2_ := zN (below_step (by repeat (first | (with_reducible first | exact HB.out | apply zA | apply zB | apply zC | refine zD ?_ GE170.out | refine zD ?_ GE174.out) | exact HB.out)) hb); clear BK170; clear BK174; clear HB; have BK170 := n0_; have BK174 := n1_; have HB := n2_; clear n0_ n1_ n2_; (try clear hb); (try clear hb2); (try clear hk); (try clear hi); have hcz24_0 : w23.cell? ⟨gb174, 0, none⟩ = some (.int .i8 ((rd_T91 l0_2 x28_2).f0.f0)) := (blk_cell BK174.out 0).trans rfl; have hcz24_1 : w23.cell? ⟨gb174, 1, none⟩ = some (.int .i8 ((rd_T91 l0_2 x28_2).f0.f1)) := (blk_cell BK174.out 1).trans rfl; have hcz24_2 : w23.cell? ⟨gb174, 2, none⟩ = some (.int .i8 ((rd_T91 l0_2 x28_2).f1)) := (blk_cell BK174.out 2).trans rfl; have hcz24_3 : w23.cell? ⟨gb174, 3, none⟩ = some (.int .i8 ((rd_T91 l0_2 x28_2).f2)) := (blk_cell BK174.out 3).trans rfl; have hcz24_4 : w23.cell? ⟨gb174, 4, none⟩ = some (.int .i8 ((rd_T91 l0_2 x28_2).f3)) := (blk_cell BK174.out 4).trans rfl; have hfz24_0 := blk_frozen BK174.out 0; have hfz24_1 := blk_frozen BK174.out 1; have hfz24_2 := blk_frozen BK174.out 2; have hfz24_3 := blk_frozen BK174.out 3; have hfz24_4 := blk_frozen BK174.out 4) | (go_at_call 109; (with_reducible refine (impl_Board_has.calls _ [(⟨a0_0, a0_1, l0_2⟩ : S37)] ((rd_T91 l0_2 x28_2).f0.f0) ((rd_T91 l0_2 x28_2).f0.f1) true _ ?side1 A18.out).mono ?_); (case side1 => refine ro_of_blk (T := 37) (cs := #[.int .i8 a0_0, .int .i8 a0_1, .slice (some ad173) l0_2.length c0_2]) (by (with_reducible repeat (first | refine zE ?_ _ | refine zF ?_ | refine zG ?_ _)); exact BK170.out) ?_; exact k37_mk _ (⟨a0_0, a0_1, l0_2⟩ : S37) (by exact HC0_2.out) (by repeat (first | exact (Kd.C_below HR0_2.out HB.out) | (with_reducible refine Kd.C_alloc ?_ _) | (with_reducible refine Kd.C_drewN ?_ _) | (with_reducible refine Kd.C_drew ?_)))); rintro e w25 ⟨rfl, hb⟩; have m0_ := zN (blk_below (g := gm) (o := .map es ck) (by (with_reducible repeat (first | refine zE ?_ _ | refine zF ?_ | refine zG ?_ _)); exact MM.out) hb); clear MM; have MM := m0_; clear m0_; have n0_ := zN (blk_below (g := gb170) (o := .cells #[.int .i8 a0_0, .int .i8 a0_1, .slice (some ad173) l0_2.length c0_2] 37 (0, 0)) (by (with_reducible repeat (first | refine zE ?_ _ | refine zF ?_ | refine zG ?_ _)); exact BK170.out) hb); have n1_ := zN (blk_below (g := gb174) (o := .cells #[.int .i8 ((rd_T91 l0_2 x28_2).f0.f0), .int .i8 ((rd_T91 l0_2 x28_2).f0.f1), .int .i8 ((rd_T91 l0_2 x28_2).f1), .int .i8 ((rd_T91 l0_2 x28_2).f2), .int .i8 ((rd_T91 l0_2 x28_2).f3)] 91 (0, 0)) (by (with_reducible repeat (first | refine zE ?_ _ | refine zF ?_ | refine zG ?_ _)); exact BK174.out) hb); have n2_ := zN (below_step (by repeat (first | (with_reducible first | exact HB.out | apply zA | apply zB | apply zC | refine zD ?_ GE170.out | refine zD ?_ GE174.out) | exact HB.out)) hb); clear BK170; clear BK174; clear HB; have BK170 := n0_; have BK174 := n1_; have HB := n2_; clear n0_ n1_ n2_; (try clear hb); (try clear hb2); (try clear hk); (try clear hi); have hcz26_0 : w25.cell? ⟨gb174, 0, none⟩ = some (.int .i8 ((rd_T91 l0_2 x28_2).f0.f0)) := (blk_cell BK174.out 0).trans rfl; have hcz26_1 : w25.cell? ⟨gb174, 1, none⟩ = some (.int .i8 ((rd_T91 l0_2 x28_2).f0.f1)) := (blk_cell BK174.out 1).trans rfl; have hcz26_2 : w25.cell? ⟨gb174, 2, none⟩ = some (.int .i8 ((rd_T91 l0_2 x28_2).f1)) := (blk_cell BK174.out 2).trans rfl; have hcz26_3 : w25.cell? ⟨gb174, 3, none⟩ = some (.int .i8 ((rd_T91 l0_2 x28_2).f2)) := (blk_cell BK174.out 3).trans rfl; have hcz26_4 : w25.cell? ⟨gb174, 4, none⟩ = some (.int .i8 ((rd_T91 l0_2 x28_2).f3)) := (blk_cell BK174.out 4).trans rfl; have hfz26_0 := blk_frozen BK174.out 0; have hfz26_1 := blk_frozen BK174.out 1; have hfz26_2 := blk_frozen BK174.out 2; have hfz26_3 := blk_frozen BK174.out 3; have hfz26_4 := blk_frozen BK174.out 4) | ((with_reducible refine gate_dst (N := 45) rfl ?_); (try (refine gate_guard (by rfl) ?_; dsimp only)); refine look_event rfl rfl rfl rfl (ml _ (by (with_reducible repeat (first | refine zE ?_ _ | refine zF ?_ | refine zG ?_ _)); exact MM.out)) ?_))
            go_ret
            exact ⟨by first | rfl | (simp [errW_none, errW_some] <;> rfl) | (simp [*, errW_none, errW_some] <;> rfl), by repeat (first | (with_reducible first | exact HB.out | apply zA | apply zB | apply zC | refine zD ?_ GE170.out | refine zD ?_ GE174.out) | exact HB.out)⟩
           ·rw [if_neg c21] at H
            have H' := zN H
            clear H
            have p173 : 0 ≤ (x28_2 : Int) := zJ (by first | (with_reducible assumption) | assumption)
            have q173 : x28_2 < (l0_2.length : Int) := zJ (by first | (with_reducible assumption) | assumption)
            obtain ⟨ad173, e173, hx173_0, hx173_1, hx173_2, hx173_3, hx173_4⟩ := at_T91 HR0_2.out x28_2 p173 q173
            cases e173
            replace hx173_0 := (HB.out.cell (zH w _ hx173_0)).trans hx173_0
            replace hx173_1 := (HB.out.cell (zH w _ hx173_1)).trans hx173_1
            replace hx173_2 := (HB.out.cell (zH w _ hx173_2)).trans hx173_2
            replace hx173_3 := (HB.out.cell (zH w _ hx173_3)).trans hx173_3
            replace hx173_4 := (HB.out.cell (zH w _ hx173_4)).trans hx173_4
            replace p173 := eq_true p173
            replace q173 := eq_true q173
            have ml : ∀ W : World, W.heap[gm]? = some (.map es ck) → (Instr.lookup 138 (.map (some gm)) (.agg #[.int .i8 ((rd_T91 l0_2 x28_2).f0.f0), .int .i8 ((rd_T91 l0_2 x28_2).f0.f1)]) false).run Try.prog W = .ok (.bool false) W := by
             intro W hW
             refine (run_mlook (V := 4) cellKey Try.underlying138 (zeroBool W) hW MER.out _ _ false).trans ?_
             simp only [Bool.false_eq_true, if_false]; rw [show mfind x900 ((rd_T91 l0_2 x28_2).f0.f0) ((rd_T91 l0_2 x28_2).f0.f1) = none by simpa using c21]; rfl
            have mp : ∀ W : World, W.heap[gm]? = some (.map es ck) → (Instr.mapUpdate 138 (.map (some gm)) (.agg #[.int .i8 ((rd_T91 l0_2 x28_2).f0.f0), .int .i8 ((rd_T91 l0_2 x28_2).f0.f1)]) (.bool true)).run Try.prog W = .ok () (ChangeMaps.setBlock W gm (.map (es.push ⟨ckey ((rd_T91 l0_2 x28_2).f0.f0) ((rd_T91 l0_2 x28_2).f0.f1), .bool true, ck⟩) (ck + 1))) := fun W hW => run_mput (V := 4) (vv := fun _ : Unit => Value.bool true) cellKey Try.underlying138 hW MER.out _ _ (by simpa using c21) ()
            go_wp2_with (first | ((with_reducible refine gate_dst (N := 5) rfl ?_); (try (refine gate_guard (by rfl) ?_; dsimp only)); refine box_event ?hg (N := 5) ?hd (cs := #[.int .i8 0, .int .i8 0, .int .i8 0, .int .i8 0, .int .i8 0]) (t := 91) ?hr ?_; (case hd => rfl); (case hg => rfl); (case hr => first | (go_simp; done) | (go_simp; rfl)); intro gb174 hg w20 hbox hb; have NM174 := zN ((by rw [hg]; exact Nat.ne_of_lt (blk_lt (g := gm) (o := .map es ck) (by (with_reducible repeat (first | refine zE ?_ _ | refine zF ?_ | refine zG ?_ _)); exact MM.out))) : gm ≠ gb174); have m0_ := zN (blk_below (g := gm) (o := .map es ck) (by (with_reducible repeat (first | refine zE ?_ _ | refine zF ?_ | refine zG ?_ _)); exact MM.out) hb); clear MM; have MM := m0_; clear m0_; have n0_ := zN (blk_below (g := gb170) (o := .cells #[.int .i8 a0_0, .int .i8 a0_1, .slice (some ad173) l0_2.length c0_2] 37 (0, 0)) (by (with_reducible repeat (first | refine zE ?_ _ | refine zF ?_ | refine zG ?_ _)); exact BK170.out) hb); have n1_ := zN (below_step (by repeat (first | (with_reducible first | exact HB.out | apply zA | apply zB | apply zC | refine zD ?_ GE170.out) | exact HB.out)) hb); have n2_ := zN (hbox); have n3_ := zN ((by rw [hg]; exact (below_size (by repeat (first | (with_reducible first | exact HB.out | apply zA | apply zB | apply zC | refine zD ?_ GE170.out) | exact HB.out))) : w.heap.size ≤ gb174)); have n4_ := zN ((by rw [hg]; exact (below_size (by repeat (first | (with_reducible first | exact HB.out | apply zA | apply zB | apply zC | refine zD ?_ GE170.out) | exact HB.out))) : w.heap.size ≤ gb174)); have n5_ := zN ((by rw [hg]; exact Nat.ne_of_lt (blk_lt (g := gb170) (o := .cells #[.int .i8 a0_0, .int .i8 a0_1, .slice (some ad173) l0_2.length c0_2] 37 (0, 0)) (by (with_reducible repeat (first | refine zE ?_ _ | refine zF ?_ | refine zG ?_ _)); exact BK170.out)) : gb170 ≠ gb174)); have n6_ := zN ((by rw [hg]; exact Nat.ne_of_gt (blk_lt (g := gb170) (o := .cells #[.int .i8 a0_0, .int .i8 a0_1, .slice (some ad173) l0_2.length c0_2] 37 (0, 0)) (by (with_reducible repeat (first | refine zE ?_ _ | refine zF ?_ | refine zG ?_ _)); exact BK170.out)) : gb174 ≠ gb170)); clear BK170; clear HB; have BK170 := n0_; have HB := n1_; have BK174 := n2_; have GW174 := n3_; have GE174 := n4_; have NB170_174 := n5_; have NB174_170 := n6_; clear n0_ n1_ n2_ n3_ n4_ n5_ n6_; clear hb hbox hg; have hnb21 := NB174_170.out; have hnc21 := NB170_174.out; have hcz22_0 : w20.cell? ⟨gb174, 0, none⟩ = some (.int .i8 0) := (blk_cell BK174.out 0).trans rfl; have hcz22_1 : w20.cell? ⟨gb174, 1, none⟩ = some (.int .i8 0) := (blk_cell BK174.out 1).trans rfl; have hcz22_2 : w20.cell? ⟨gb174, 2, none⟩ = some (.int .i8 0) := (blk_cell BK174.out 2).trans rfl; have hcz22_3 : w20.cell? ⟨gb174, 3, none⟩ = some (.int .i8 0) := (blk_cell BK174.out 3).trans rfl; have hcz22_4 : w20.cell? ⟨gb174, 4, none⟩ = some (.int .i8 0) := (blk_cell BK174.out 4).trans rfl; have hfz22_0 := blk_frozen BK174.out 0; have hfz22_1 := blk_frozen BK174.out 1; have hfz22_2 := blk_frozen BK174.out 2; have hfz22_3 := blk_frozen BK174.out 3; have hfz22_4 := blk_frozen BK174.out 4) | ((with_reducible refine gate_callee (f := 108) rfl ?_); refine goesL_ (some 33) rfl rfl Try.func108 (by kernel_rfl) rfl #[.agg #[.int .i8 ((rd_T91 l0_2 x28_2).f0.f0), .int .i8 ((rd_T91 l0_2 x28_2).f0.f1), .int .i8 ((rd_T91 l0_2 x28_2).f1), .int .i8 ((rd_T91 l0_2 x28_2).f2), .int .i8 ((rd_T91 l0_2 x28_2).f3)]] rfl (by (try simp only [List.map_toArray, List.map_cons, List.map_nil]); first | done | rfl | (simp only [List.length_drop, List.length_take]; rfl)) ?_; (with_reducible refine (impl_ValidPiece.calls ((rd_T91 l0_2 x28_2).f0.f0) ((rd_T91 l0_2 x28_2).f0.f1) ((rd_T91 l0_2 x28_2).f1) ((rd_T91 l0_2 x28_2).f2) ((rd_T91 l0_2 x28_2).f3) true _ A16.out).mono ?_); rintro e w23 ⟨rfl, hb⟩; refine ⟨_, rfl, ?_⟩; have m0_ := zN (blk_below (g := gm) (o := .map es ck) (by (repeat (first | (with_reducible refine zE ?_ _) | (with_reducible refine zF ?_) | (with_reducible refine zG ?_ _) | (refine mblk_far ?_ NM174.out _))); exact MM.out) hb); clear MM; have MM := m0_; clear m0_; have n0_ := zN (blk_below (g := gb170) (o := .cells #[.int .i8 a0_0, .int .i8 a0_1, .slice (some ad173) l0_2.length c0_2] 37 (0, 0)) (by (with_reducible repeat (first | refine zE ?_ _ | refine zF ?_ | refine zG ?_ _)); refine blk_far ?_ NB170_174.out _; (with_reducible repeat (first | refine zE ?_ _ | refine zF ?_ | refine zG ?_ _)); refine blk_far ?_ NB170_174.out _; (with_reducible repeat (first | refine zE ?_ _ | refine zF ?_ | refine zG ?_ _)); refine blk_far ?_ NB170_174.out _; (with_reducible repeat (first | refine zE ?_ _ | refine zF ?_ | refine zG ?_ _)); refine blk_far ?_ NB170_174.out _; (with_reducible repeat (first | refine zE ?_ _ | refine zF ?_ | refine zG ?_ _)); refine blk_far ?_ NB170_174.out _; (with_reducible repeat (first | refine zE ?_ _ | refine zF ?_ | refine zG ?_ _)); exact BK170.out) hb); have n1_ := zN (blk_below (g := gb174) (o := .cells #[.int .i8 ((rd_T91 l0_2 x28_2).f0.f0), .int .i8 ((rd_T91 l0_2 x28_2).f0.f1), .int .i8 ((rd_T91 l0_2 x28_2).f1), .int .i8 ((rd_T91 l0_2 x28_2).f2), .int .i8 ((rd_T91 l0_2 x28_2).f3)] 91 (0, 0)) (by (with_reducible repeat (first | refine zE ?_ _ | refine zF ?_ | refine zG ?_ _)); refine blk_put (cs := #[.int .i8 ((rd_T91 l0_2 x28_2).f0.f0), .int .i8 ((rd_T91 l0_2 x28_2).f0.f1), .int .i8 ((rd_T91 l0_2 x28_2).f1), .int .i8 ((rd_T91 l0_2 x28_2).f2), .int .i8 0]) ?_ 4 _ rfl; (with_reducible repeat (first | refine zE ?_ _ | refine zF ?_ | refine zG ?_ _)); refine blk_put (cs := #[.int .i8 ((rd_T91 l0_2 x28_2).f0.f0), .int .i8 ((rd_T91 l0_2 x28_2).f0.f1), .int .i8 ((rd_T91 l0_2 x28_2).f1), .int .i8 0, .int .i8 0]) ?_ 3 _ rfl; (with_reducible repeat (first | refine zE ?_ _ | refine zF ?_ | refine zG ?_ _)); refine blk_put (cs := #[.int .i8 ((rd_T91 l0_2 x28_2).f0.f0), .int .i8 ((rd_T91 l0_2 x28_2).f0.f1), .int .i8 0, .int .i8 0, .int .i8 0]) ?_ 2 _ rfl; (with_reducible repeat (first | refine zE ?_ _ | refine zF ?_ | refine zG ?_ _)); refine blk_put (cs := #[.int .i8 ((rd_T91 l0_2 x28_2).f0.f0), .int .i8 0, .int .i8 0, .int .i8 0, .int .i8 0]) ?_ 1 _ rfl; (with_reducible repeat (first | refine zE ?_ _ | refine zF ?_ | refine zG ?_ _)); refine blk_put (cs := #[.int .i8 0, .int .i8 0, .int .i8 0, .int .i8 0, .int .i8 0]) ?_ 0 _ rfl; (with_reducible repeat (first | refine zE ?_ _ | refine zF ?_ | refine zG ?_ _)); exact BK174.out) hb); have n2_ := zN (below_step (by repeat (first | (with_reducible first | exact HB.out | apply zA | apply zB | apply zC | refine zD ?_ GE170.out | refine zD ?_ GE174.out) | exact HB.out)) hb); clear BK170; clear BK174; clear HB; have BK170 := n0_; have BK174 := n1_; have HB := n2_; clear n0_ n1_ n2_; (try clear hb); (try clear hb2); (try clear hk); (try clear hi); have hcz24_0 : w23.cell? ⟨gb174, 0, none⟩ = some (.int .i8 ((rd_T91 l0_2 x28_2).f0.f0)) := (blk_cell BK174.out 0).trans rfl; have hcz24_1 : w23.cell? ⟨gb174, 1, none⟩ = some (.int .i8 ((rd_T91 l0_2 x28_2).f0.f1)) := (blk_cell BK174.out 1).trans rfl; have hcz24_2 : w23.cell? ⟨gb174, 2, none⟩ = some (.int .i8 ((rd_T91 l0_2 x28_2).f1)) := (blk_cell BK174.out 2).trans rfl; have hcz24_3 : w23.cell? ⟨gb174, 3, none⟩ = some (.int .i8 ((rd_T91 l0_2 x28_2).f2)) := (blk_cell BK174.out 3).trans rfl; have hcz24_4 : w23.cell? ⟨gb174, 4, none⟩ = some (.int .i8 ((rd_T91 l0_2 x28_2).f3)) := (blk_cell BK174.out 4).trans rfl; have hfz24_0 := blk_frozen BK174.out 0; have hfz24_1 := blk_frozen BK174.out 1; have hfz24_2 := blk_frozen BK174.out 2; have hfz24_3 := blk_frozen BK174.out 3; have hfz24_4 := blk_frozen BK174.out 4) | (go_at_call 109; (with_reducible refine (impl_Board_has.calls _ [(⟨a0_0, a0_1, l0_2⟩ : S37)] ((rd_T91 l0_2 x28_2).f0.f0) ((rd_T91 l0_2 x28_2).f0.f1) true _ ?side1 A18.out).mono ?_); (case side1 => refine ro_of_blk (T := 37) (cs := #[.int .i8 a0_0, .int .i8 a0_1, .slice (some ad173) l0_2.length c0_2]) (by (with_reducible repeat (first | refine zE ?_ _ | refine zF ?_ | refine zG ?_ _)); exact BK170.out) ?_; exact k37_mk _ (⟨a0_0, a0_1, l0_2⟩ : S37) (by exact HC0_2.out) (by repeat (first | exact (Kd.C_below HR0_2.out HB.out) | (with_reducible refine Kd.C_alloc ?_ _) | (with_reducible refine Kd.C_drewN ?_ _) | (with_reducible refine Kd.C_drew ?_)))); rintro e w25 ⟨rfl, hb⟩; have m0_ := zN (blk_below (g := gm) (o := .map es ck) (by (with_reducible repeat (first | refine zE ?_ _ | refine zF ?_ | refine zG ?_ _)); exact MM.out) hb); clear MM; have MM := m0_; clear m0_; have n0_ := zN (blk_below (g := gb170) (o := .cells #[.int .i8 a0_0, .int .i8 a0_1, .slice (some ad173) l0_2.length c0_2] 37 (0, 0)) (by (with_reducible repeat (first | refine zE ?_ _ | refine zF ?_ | refine zG ?_ _)); exact BK170.out) hb); have n1_ := zN (blk_below (g := gb174) (o := .cells #[.int .i8 ((rd_T91 l0_2 x28_2).f0.f0), .int .i8 ((rd_T91 l0_2 x28_2).f0.f1), .int .i8 ((rd_T91 l0_2 x28_2).f1), .int .i8 ((rd_T91 l0_2 x28_2).f2), .int .i8 ((rd_T91 l0_2 x28_2).f3)] 91 (0, 0)) (by (with_reducible repeat (first | refine zE ?_ _ | refine zF ?_ | refine zG ?_ _)); exact BK174.out) hb); have n2_ := zN (below_step (by repeat (first | (with_reducible first | exact HB.out | apply zA | apply zB | apply zC | refine zD ?_ GE170.out | refine zD ?_ GE174.out) | exact HB.out)) hb); clear BK170; clear BK174; clear HB; have BK170 := n0_; have BK174 := n1_; have HB := n2_; clear n0_ n1_ n2_; (try clear hb); (try clear hb2); (try clear hk); (try clear hi); have hcz26_0 : w25.cell? ⟨gb174, 0, none⟩ = some (.int .i8 ((rd_T91 l0_2 x28_2).f0.f0)) := (blk_cell BK174.out 0).trans rfl; have hcz26_1 : w25.cell? ⟨gb174, 1, none⟩ = some (.int .i8 ((rd_T91 l0_2 x28_2).f0.f1)) := (blk_cell BK174.out 1).trans rfl; have hcz26_2 : w25.cell? ⟨gb174, 2, none⟩ = some (.int .i8 ((rd_T91 l0_2 x28_2).f1)) := (blk_cell BK174.out 2).trans rfl; have hcz26_3 : w25.cell? ⟨gb174, 3, none⟩ = some (.int .i8 ((rd_T91 l0_2 x28_2).f2)) := (blk_cell BK174.out 3).trans rfl; have hcz26_4 : w25.cell? ⟨gb174, 4, none⟩ = some (.int .i8 ((rd_T91 l0_2 x28_2).f3)) := (blk_cell BK174.out 4).trans rfl; have hfz26_0 := blk_frozen BK174.out 0; have hfz26_1 := blk_frozen BK174.out 1; have hfz26_2 := blk_frozen BK174.out 2; have hfz26_3 := blk_frozen BK174.out 3; have hfz26_4 := blk_frozen BK174.out 4) | ((with_reducible refine gate_dst (N := 45) rfl ?_); (try (refine gate_guard (by rfl) ?_; dsimp only)); refine look_event rfl rfl rfl rfl (ml _ (by (with_reducible repeat (first | refine zE ?_ _ | refine zF ?_ | refine zG ?_ _)); exact MM.out)) ?_) | (at_mapUpdate; refine put_event rfl rfl rfl rfl rfl (mp _ (by (with_reducible repeat (first | refine zE ?_ _ | refine zF ?_ | refine zG ?_ _)); exact MM.out)) (by (with_reducible repeat (first | refine zE ?_ _ | refine zF ?_ | refine zG ?_ _)); exact MM.out) ?_; intro w60 hm1 hm2 hm3; have n0_ := zN ((hm2 gb170 GMB.out).trans (by (with_reducible repeat (first | refine zE ?_ _ | refine zF ?_ | refine zG ?_ _)); exact BK170.out)); have n1_ := zN (hm3 w (by repeat (first | (with_reducible first | exact HB.out | apply zA | apply zB | apply zC | refine zD ?_ GE170.out | refine zD ?_ GE174.out) | exact HB.out)) GEM.out); clear BK170; clear BK174; clear HB; clear MM; have BK170 := n0_; have HB := n1_; have MM := zN hm1; clear n0_ n1_ hm1 hm2 hm3))
            go_roundg k2
            case measure => have := HJ1.out; have := HK2.out; omega
            case rel => exact ⟨(wrap64 (x28_2 + 1)), (x900 ++ [((((rd_T91 l0_2 x28_2).f0.f0), ((rd_T91 l0_2 x28_2).f0.f1)), ())]), _, _, (by first | rfl | (simp; done) | (simp [*]; done) | (exact congrArg (Value.int .i64) (wrap_eq (by omega)))), H', ⟨by have := HJ1.out; have := HK2.out; omega⟩, ⟨by (with_reducible repeat (first | refine zE ?_ _ | refine zF ?_ | refine zG ?_ _)); exact BK170.out⟩, ⟨by (with_reducible repeat (first | refine zE ?_ _ | refine zF ?_ | refine zG ?_ _)); exact MM.out⟩, ⟨ER_push MER.out _ _ _ _⟩, ⟨by repeat (first | (with_reducible first | exact HB.out | apply zA | apply zB | apply zC | refine zD ?_ GE170.out | refine zD ?_ GE174.out) | exact HB.out)⟩⟩
          ·replace c19 := Bool.eq_false_iff.mpr c19
           subst c19
           have H1 : (some false) = some r := by rw [if_neg (show ¬ (false = true) by decide)] at H; exact H
           clear H
           have H := H1
           clear H1
           obtain rfl := Option.some.inj H
           have p173 : 0 ≤ (x28_2 : Int) := zJ (by first | (with_reducible assumption) | assumption)
           have q173 : x28_2 < (l0_2.length : Int) := zJ (by first | (with_reducible assumption) | assumption)
           obtain ⟨ad173, e173, hx173_0, hx173_1, hx173_2, hx173_3, hx173_4⟩ := at_T91 HR0_2.out x28_2 p173 q173
           cases e173
           replace hx173_0 := (HB.out.cell (zH w _ hx173_0)).trans hx173_0
           replace hx173_1 := (HB.out.cell (zH w _ hx173_1)).trans hx173_1
           replace hx173_2 := (HB.out.cell (zH w _ hx173_2)).trans hx173_2
           replace hx173_3 := (HB.out.cell (zH w _ hx173_3)).trans hx173_3
           replace hx173_4 := (HB.out.cell (zH w _ hx173_4)).trans hx173_4
           replace p173 := eq_true p173
           replace q173 := eq_true q173
           go_wp2_with (first | ((with_reducible refine gate_dst (N := 5) rfl ?_); (try (refine gate_guard (by rfl) ?_; dsimp only)); refine box_event ?hg (N := 5) ?hd (cs := #[.int .i8 0, .int .i8 0, .int .i8 0, .int .i8 0, .int .i8 0]) (t := 91) ?hr ?_; (case hd => rfl); (case hg => rfl); (case hr => first | (go_simp; done) | (go_simp; rfl)); intro gb174 hg w27 hbox hb; have NM174 := zN ((by rw [hg]; exact Nat.ne_of_lt (blk_lt (g := gm) (o := .map es ck) (by (with_reducible repeat (first | refine zE ?_ _ | refine zF ?_ | refine zG ?_ _)); exact MM.out))) : gm ≠ gb174); have m0_ := zN (blk_below (g := gm) (o := .map es ck) (by (with_reducible repeat (first | refine zE ?_ _ | refine zF ?_ | refine zG ?_ _)); exact MM.out) hb); clear MM; have MM := m0_; clear m0_; have n0_ := zN (blk_below (g := gb170) (o := .cells #[.int .i8 a0_0, .int .i8 a0_1, .slice (some ad173) l0_2.length c0_2] 37 (0, 0)) (by (with_reducible repeat (first | refine zE ?_ _ | refine zF ?_ | refine zG ?_ _)); exact BK170.out) hb); have n1_ := zN (below_step (by repeat (first | (with_reducible first | exact HB.out | apply zA | apply zB | apply zC | refine zD ?_ GE170.out) | exact HB.out)) hb); have n2_ := zN (hbox); have n3_ := zN ((by rw [hg]; exact (below_size (by repeat (first | (with_reducible first | exact HB.out | apply zA | apply zB | apply zC | refine zD ?_ GE170.out) | exact HB.out))) : w.heap.size ≤ gb174)); have n4_ := zN ((by rw [hg]; exact (below_size (by repeat (first | (with_reducible first | exact HB.out | apply zA | apply zB | apply zC | refine zD ?_ GE170.out) | exact HB.out))) : w.heap.size ≤ gb174)); have n5_ := zN ((by rw [hg]; exact Nat.ne_of_lt (blk_lt (g := gb170) (o := .cells #[.int .i8 a0_0, .int .i8 a0_1, .slice (some ad173) l0_2.length c0_2] 37 (0, 0)) (by (with_reducible repeat (first | refine zE ?_ _ | refine zF ?_ | refine zG ?_ _)); exact BK170.out)) : gb170 ≠ gb174)); have n6_ := zN ((by rw [hg]; exact Nat.ne_of_gt (blk_lt (g := gb170) (o := .cells #[.int .i8 a0_0, .int .i8 a0_1, .slice (some ad173) l0_2.length c0_2] 37 (0, 0)) (by (with_reducible repeat (first | refine zE ?_ _ | refine zF ?_ | refine zG ?_ _)); exact BK170.out)) : gb174 ≠ gb170)); clear BK170; clear HB; have BK170 := n0_; have HB := n1_; have BK174 := n2_; have GW174 := n3_; have GE174 := n4_; have NB170_174 := n5_; have NB174_170 := n6_; clear n0_ n1_ n2_ n3_ n4_ n5_ n6_; clear hb hbox hg; have hnb28 := NB174_170.out; have hnc28 := NB170_174.out; have hcz29_0 : w27.cell? ⟨gb174, 0, none⟩ = some (.int .i8 0) := (blk_cell BK174.out 0).trans rfl; have hcz29_1 : w27.cell? ⟨gb174, 1, none⟩ = some (.int .i8 0) := (blk_cell BK174.out 1).trans rfl; have hcz29_2 : w27.cell? ⟨gb174, 2, none⟩ = some (.int .i8 0) := (blk_cell BK174.out 2).trans rfl; have hcz29_3 : w27.cell? ⟨gb174, 3, none⟩ = some (.int .i8 0) := (blk_cell BK174.out 3).trans rfl; have hcz29_4 : w27.cell? ⟨gb174, 4, none⟩ = some (.int .i8 0) := (blk_cell BK174.out 4).trans rfl; have hfz29_0 := blk_frozen BK174.out 0; have hfz29_1 := blk_frozen BK174.out 1; have hfz29_2 := blk_frozen BK174.out 2; have hfz29_3 := blk_frozen BK174.out 3; have hfz29_4 := blk_frozen BK174.out 4) | ((with_reducible refine gate_callee (f := 108) rfl ?_); refine goesL_ (some 33) rfl rfl Try.func108 (by kernel_rfl) rfl #[.agg #[.int .i8 ((rd_T91 l0_2 x28_2).f0.f0), .int .i8 ((rd_T91 l0_2 x28_2).f0.f1), .int .i8 ((rd_T91 l0_2 x28_2).f1), .int .i8 ((rd_T91 l0_2 x28_2).f2), .int .i8 ((rd_T91 l0_2 x28_2).f3)]] rfl (by (try simp only [List.map_toArray, List.map_cons, List.map_nil]); first | done | rfl | (simp only [List.length_drop, List.length_take]; rfl)) ?_; (with_reducible refine (impl_ValidPiece.calls ((rd_T91 l0_2 x28_2).f0.f0) ((rd_T91 l0_2 x28_2).f0.f1) ((rd_T91 l0_2 x28_2).f1) ((rd_T91 l0_2 x28_2).f2) ((rd_T91 l0_2 x28_2).f3) true _ A16.out).mono ?_); rintro e w30 ⟨rfl, hb⟩; refine ⟨_, rfl, ?_⟩; have m0_ := zN (blk_below (g := gm) (o := .map es ck) (by (repeat (first | (with_reducible refine zE ?_ _) | (with_reducible refine zF ?_) | (with_reducible refine zG ?_ _) | (refine mblk_far ?_ NM174.out _))); exact MM.out) hb); clear MM; have MM := m0_; clear m0_; have n0_ := zN (blk_below (g := gb170) (o := .cells #[.int .i8 a0_0, .int .i8 a0_1, .slice (some ad173) l0_2.length c0_2] 37 (0, 0)) (by (with_reducible repeat (first | refine zE ?_ _ | refine zF ?_ | refine zG ?_ _)); refine blk_far ?_ NB170_174.out _; (with_reducible repeat (first | refine zE ?_ _ | refine zF ?_ | refine zG ?_ _)); refine blk_far ?_ NB170_174.out _; (with_reducible repeat (first | refine zE ?_ _ | refine zF ?_ | refine zG ?_ _)); refine blk_far ?_ NB170_174.out _; (with_reducible repeat (first | refine zE ?_ _ | refine zF ?_ | refine zG ?_ _)); refine blk_far ?_ NB170_174.out _; (with_reducible repeat (first | refine zE ?_ _ | refine zF ?_ | refine zG ?_ _)); refine blk_far ?_ NB170_174.out _; (with_reducible repeat (first | refine zE ?_ _ | refine zF ?_ | refine zG ?_ _)); exact BK170.out) hb); have n1_ := zN (blk_below (g := gb174) (o := .cells #[.int .i8 ((rd_T91 l0_2 x28_2).f0.f0), .int .i8 ((rd_T91 l0_2 x28_2).f0.f1), .int .i8 ((rd_T91 l0_2 x28_2).f1), .int .i8 ((rd_T91 l0_2 x28_2).f2), .int .i8 ((rd_T91 l0_2 x28_2).f3)] 91 (0, 0)) (by (with_reducible repeat (first | refine zE ?_ _ | refine zF ?_ | refine zG ?_ _)); refine blk_put (cs := #[.int .i8 ((rd_T91 l0_2 x28_2).f0.f0), .int .i8 ((rd_T91 l0_2 x28_2).f0.f1), .int .i8 ((rd_T91 l0_2 x28_2).f1), .int .i8 ((rd_T91 l0_2 x28_2).f2), .int .i8 0]) ?_ 4 _ rfl; (with_reducible repeat (first | refine zE ?_ _ | refine zF ?_ | refine zG ?_ _)); refine blk_put (cs := #[.int .i8 ((rd_T91 l0_2 x28_2).f0.f0), .int .i8 ((rd_T91 l0_2 x28_2).f0.f1), .int .i8 ((rd_T91 l0_2 x28_2).f1), .int .i8 0, .int .i8 0]) ?_ 3 _ rfl; (with_reducible repeat (first | refine zE ?_ _ | refine zF ?_ | refine zG ?_ _)); refine blk_put (cs := #[.int .i8 ((rd_T91 l0_2 x28_2).f0.f0), .int .i8 ((rd_T91 l0_2 x28_2).f0.f1), .int .i8 0, .int .i8 0, .int .i8 0]) ?_ 2 _ rfl; (with_reducible repeat (first | refine zE ?_ _ | refine zF ?_ | refine zG ?_ _)); refine blk_put (cs := #[.int .i8 ((rd_T91 l0_2 x28_2).f0.f0), .int .i8 0, .int .i8 0, .int .i8 0, .int .i8 0]) ?_ 1 _ rfl; (with_reducible repeat (first | refine zE ?_ _ | refine zF ?_ | refine zG ?_ _)); refine blk_put (cs := #[.int .i8 0, .int .i8 0, .int .i8 0, .int .i8 0, .int .i8 0]) ?_ 0 _ rfl; (with_reducible repeat (first | refine zE ?_ _ | refine zF ?_ | refine zG ?_ _)); exact BK174.out) hb); have n2_ := zN (below_step (by repeat (first | (with_reducible first | exact HB.out | apply zA | apply zB | apply zC | refine zD ?_ GE170.out | refine zD ?_ GE174.out) | exact HB.out)) hb); clear BK170; clear BK174; clear HB; have BK170 := n0_; have BK174 := n1_; have HB := n2_; clear n0_ n1_ n2_; (try clear hb); (try clear hb2); (try clear hk); (try clear hi); have hcz31_0 : w30.cell? ⟨gb174, 0, none⟩ = some (.int .i8 ((rd_T91 l0_2 x28_2).f0.f0)) := (blk_cell BK174.out 0).trans rfl; have hcz31_1 : w30.cell? ⟨gb174, 1, none⟩ = some (.int .i8 ((rd_T91 l0_2 x28_2).f0.f1)) := (blk_cell BK174.out 1).trans rfl; have hcz31_2 : w30.cell? ⟨gb174, 2, none⟩ = some (.int .i8 ((rd_T91 l0_2 x28_2).f1)) := (blk_cell BK174.out 2).trans rfl; have hcz31_3 : w30.cell? ⟨gb174, 3, none⟩ = some (.int .i8 ((rd_T91 l0_2 x28_2).f2)) := (blk_cell BK174.out 3).trans rfl; have hcz31_4 : w30.cell? ⟨gb174, 4, none⟩ = some (.int .i8 ((rd_T91 l0_2 x28_2).f3)) := (blk_cell BK174.out 4).trans rfl; have hfz31_0 := blk_frozen BK174.out 0; have hfz31_1 := blk_frozen BK174.out 1; have hfz31_2 := blk_frozen BK174.out 2; have hfz31_3 := blk_frozen BK174.out 3; have hfz31_4 := blk_frozen BK174.out 4) | (go_at_call 109; (with_reducible refine (impl_Board_has.calls _ [(⟨a0_0, a0_1, l0_2⟩ : S37)] ((rd_T91 l0_2 x28_2).f0.f0) ((rd_T91 l0_2 x28_2).f0.f1) false _ ?side1 A18.out).mono ?_); (case side1 => refine ro_of_blk (T := 37) (cs := #[.int .i8 a0_0, .int .i8 a0_1, .slice (some ad173) l0_2.length c0_2]) (by (with_reducible repeat (first | refine zE ?_ _ | refine zF ?_ | refine zG ?_ _)); exact BK170.out) ?_; exact k37_mk _ (⟨a0_0, a0_1, l0_2⟩ : S37) (by exact HC0_2.out) (by repeat (first | exact (Kd.C_below HR0_2.out HB.out) | (with_reducible refine Kd.C_alloc ?_ _) | (with_reducible refine Kd.C_drewN ?_ _) | (with_reducible refine Kd.C_drew ?_)))); rintro e w32 ⟨rfl, hb⟩; have m0_ := zN (blk_below (g := gm) (o := .map es ck) (by (with_reducible repeat (first | refine zE ?_ _ | refine zF ?_ | refine zG ?_ _)); exact MM.out) hb); clear MM; have MM := m0_; clear m0_; have n0_ := zN (blk_below (g := gb170) (o := .cells #[.int .i8 a0_0, .int .i8 a0_1, .slice (some ad173) l0_2.length c0_2] 37 (0, 0)) (by (with_reducible repeat (first | refine zE ?_ _ | refine zF ?_ | refine zG ?_ _)); exact BK170.out) hb); have n1_ := zN (blk_below (g := gb174) (o := .cells #[.int .i8 ((rd_T91 l0_2 x28_2).f0.f0), .int .i8 ((rd_T91 l0_2 x28_2).f0.f1), .int .i8 ((rd_T91 l0_2 x28_2).f1), .int .i8 ((rd_T91 l0_2 x28_2).f2), .int .i8 ((rd_T91 l0_2 x28_2).f3)] 91 (0, 0)) (by (with_reducible repeat (first | refine zE ?_ _ | refine zF ?_ | refine zG ?_ _)); exact BK174.out) hb); have n2_ := zN (below_step (by repeat (first | (with_reducible first | exact HB.out | apply zA | apply zB | apply zC | refine zD ?_ GE170.out | refine zD ?_ GE174.out) | exact HB.out)) hb); clear BK170; clear BK174; clear HB; have BK170 := n0_; have BK174 := n1_; have HB := n2_; clear n0_ n1_ n2_; (try clear hb); (try clear hb2); (try clear hk); (try clear hi)))
           go_ret
           exact ⟨by first | rfl | (simp [errW_none, errW_some] <;> rfl) | (simp [*, errW_none, errW_some] <;> rfl), by repeat (first | (with_reducible first | exact HB.out | apply zA | apply zB | apply zC | refine zD ?_ GE170.out | refine zD ?_ GE174.out) | exact HB.out)⟩
         ·replace c17 := Bool.eq_false_iff.mpr c17
          subst c17
          have H1 : (some false) = some r := by rw [if_neg (show ¬ (false = true) by decide)] at H; exact H
          clear H
          have H := H1
          clear H1
          obtain rfl := Option.some.inj H
          have p173 : 0 ≤ (x28_2 : Int) := zJ (by first | (with_reducible assumption) | assumption)
          have q173 : x28_2 < (l0_2.length : Int) := zJ (by first | (with_reducible assumption) | assumption)
          obtain ⟨ad173, e173, hx173_0, hx173_1, hx173_2, hx173_3, hx173_4⟩ := at_T91 HR0_2.out x28_2 p173 q173
          cases e173
          replace hx173_0 := (HB.out.cell (zH w _ hx173_0)).trans hx173_0
          replace hx173_1 := (HB.out.cell (zH w _ hx173_1)).trans hx173_1
          replace hx173_2 := (HB.out.cell (zH w _ hx173_2)).trans hx173_2
          replace hx173_3 := (HB.out.cell (zH w _ hx173_3)).trans hx173_3
          replace hx173_4 := (HB.out.cell (zH w _ hx173_4)).trans hx173_4
          replace p173 := eq_true p173
          replace q173 := eq_true q173
          go_wp2_with (first | ((with_reducible refine gate_dst (N := 5) rfl ?_); (try (refine gate_guard (by rfl) ?_; dsimp only)); refine box_event ?hg (N := 5) ?hd (cs := #[.int .i8 0, .int .i8 0, .int .i8 0, .int .i8 0, .int .i8 0]) (t := 91) ?hr ?_; (case hd => rfl); (case hg => rfl); (case hr => first | (go_simp; done) | (go_simp; rfl)); intro gb174 hg w33 hbox hb; have NM174 := zN ((by rw [hg]; exact Nat.ne_of_lt (blk_lt (g := gm) (o := .map es ck) (by (with_reducible repeat (first | refine zE ?_ _ | refine zF ?_ | refine zG ?_ _)); exact MM.out))) : gm ≠ gb174); have m0_ := zN (blk_below (g := gm) (o := .map es ck) (by (with_reducible repeat (first | refine zE ?_ _ | refine zF ?_ | refine zG ?_ _)); exact MM.out) hb); clear MM; have MM := m0_; clear m0_; have n0_ := zN (blk_below (g := gb170) (o := .cells #[.int .i8 a0_0, .int .i8 a0_1, .slice (some ad173) l0_2.length c0_2] 37 (0, 0)) (by (with_reducible repeat (first | refine zE ?_ _ | refine zF ?_ | refine zG ?_ _)); exact BK170.out) hb); have n1_ := zN (below_step (by repeat (first | (with_reducible first | exact HB.out | apply zA | apply zB | apply zC | refine zD ?_ GE170.out) | exact HB.out)) hb); have n2_ := zN (hbox); have n3_ := zN ((by rw [hg]; exact (below_size (by repeat (first | (with_reducible first | exact HB.out | apply zA | apply zB | apply zC | refine zD ?_ GE170.out) | exact HB.out))) : w.heap.size ≤ gb174)); have n4_ := zN ((by rw [hg]; exact (below_size (by repeat (first | (with_reducible first | exact HB.out | apply zA | apply zB | apply zC | refine zD ?_ GE170.out) | exact HB.out))) : w.heap.size ≤ gb174)); have n5_ := zN ((by rw [hg]; exact Nat.ne_of_lt (blk_lt (g := gb170) (o := .cells #[.int .i8 a0_0, .int .i8 a0_1, .slice (some ad173) l0_2.length c0_2] 37 (0, 0)) (by (with_reducible repeat (first | refine zE ?_ _ | refine zF ?_ | refine zG ?_ _)); exact BK170.out)) : gb170 ≠ gb174)); have n6_ := zN ((by rw [hg]; exact Nat.ne_of_gt (blk_lt (g := gb170) (o := .cells #[.int .i8 a0_0, .int .i8 a0_1, .slice (some ad173) l0_2.length c0_2] 37 (0, 0)) (by (with_reducible repeat (first | refine zE ?_ _ | refine zF ?_ | refine zG ?_ _)); exact BK170.out)) : gb174 ≠ gb170)); clear BK170; clear HB; have BK170 := n0_; have HB := n1_; have BK174 := n2_; have GW174 := n3_; have GE174 := n4_; have NB170_174 := n5_; have NB174_170 := n6_; clear n0_ n1_ n2_ n3_ n4_ n5_ n6_; clear hb hbox hg; have hnb34 := NB174_170.out; have hnc34 := NB170_174.out; have hcz35_0 : w33.cell? ⟨gb174, 0, none⟩ = some (.int .i8 0) := (blk_cell BK174.out 0).trans rfl; have hcz35_1 : w33.cell? ⟨gb174, 1, none⟩ = some (.int .i8 0) := (blk_cell BK174.out 1).trans rfl; have hcz35_2 : w33.cell? ⟨gb174, 2, none⟩ = some (.int .i8 0) := (blk_cell BK174.out 2).trans rfl; have hcz35_3 : w33.cell? ⟨gb174, 3, none⟩ = some (.int .i8 0) := (blk_cell BK174.out 3).trans rfl; have hcz35_4 : w33.cell? ⟨gb174, 4, none⟩ = some (.int .i8 0) := (blk_cell BK174.out 4).trans rfl; have hfz35_0 := blk_frozen BK174.out 0; have hfz35_1 := blk_frozen BK174.out 1; have hfz35_2 := blk_frozen BK174.out 2; have hfz35_3 := blk_frozen BK174.out 3; have hfz35_4 := blk_frozen BK174.out 4) | ((with_reducible refine gate_callee (f := 108) rfl ?_); refine goesL_ (some 33) rfl rfl Try.func108 (by kernel_rfl) rfl #[.agg #[.int .i8 ((rd_T91 l0_2 x28_2).f0.f0), .int .i8 ((rd_T91 l0_2 x28_2).f0.f1), .int .i8 ((rd_T91 l0_2 x28_2).f1), .int .i8 ((rd_T91 l0_2 x28_2).f2), .int .i8 ((rd_T91 l0_2 x28_2).f3)]] rfl (by (try simp only [List.map_toArray, List.map_cons, List.map_nil]); first | done | rfl | (simp only [List.length_drop, List.length_take]; rfl)) ?_; (with_reducible refine (impl_ValidPiece.calls ((rd_T91 l0_2 x28_2).f0.f0) ((rd_T91 l0_2 x28_2).f0.f1) ((rd_T91 l0_2 x28_2).f1) ((rd_T91 l0_2 x28_2).f2) ((rd_T91 l0_2 x28_2).f3) false _ A16.out).mono ?_); rintro e w36 ⟨rfl, hb⟩; refine ⟨_, rfl, ?_⟩; have m0_ := zN (blk_below (g := gm) (o := .map es ck) (by (repeat (first | (with_reducible refine zE ?_ _) | (with_reducible refine zF ?_) | (with_reducible refine zG ?_ _) | (refine mblk_far ?_ NM174.out _))); exact MM.out) hb); clear MM; have MM := m0_; clear m0_; have n0_ := zN (blk_below (g := gb170) (o := .cells #[.int .i8 a0_0, .int .i8 a0_1, .slice (some ad173) l0_2.length c0_2] 37 (0, 0)) (by (with_reducible repeat (first | refine zE ?_ _ | refine zF ?_ | refine zG ?_ _)); refine blk_far ?_ NB170_174.out _; (with_reducible repeat (first | refine zE ?_ _ | refine zF ?_ | refine zG ?_ _)); refine blk_far ?_ NB170_174.out _; (with_reducible repeat (first | refine zE ?_ _ | refine zF ?_ | refine zG ?_ _)); refine blk_far ?_ NB170_174.out _; (with_reducible repeat (first | refine zE ?_ _ | refine zF ?_ | refine zG ?_ _)); refine blk_far ?_ NB170_174.out _; (with_reducible repeat (first | refine zE ?_ _ | refine zF ?_ | refine zG ?_ _)); refine blk_far ?_ NB170_174.out _; (with_reducible repeat (first | refine zE ?_ _ | refine zF ?_ | refine zG ?_ _)); exact BK170.out) hb); have n1_ := zN (blk_below (g := gb174) (o := .cells #[.int .i8 ((rd_T91 l0_2 x28_2).f0.f0), .int .i8 ((rd_T91 l0_2 x28_2).f0.f1), .int .i8 ((rd_T91 l0_2 x28_2).f1), .int .i8 ((rd_T91 l0_2 x28_2).f2), .int .i8 ((rd_T91 l0_2 x28_2).f3)] 91 (0, 0)) (by (with_reducible repeat (first | refine zE ?_ _ | refine zF ?_ | refine zG ?_ _)); refine blk_put (cs := #[.int .i8 ((rd_T91 l0_2 x28_2).f0.f0), .int .i8 ((rd_T91 l0_2 x28_2).f0.f1), .int .i8 ((rd_T91 l0_2 x28_2).f1), .int .i8 ((rd_T91 l0_2 x28_2).f2), .int .i8 0]) ?_ 4 _ rfl; (with_reducible repeat (first | refine zE ?_ _ | refine zF ?_ | refine zG ?_ _)); refine blk_put (cs := #[.int .i8 ((rd_T91 l0_2 x28_2).f0.f0), .int .i8 ((rd_T91 l0_2 x28_2).f0.f1), .int .i8 ((rd_T91 l0_2 x28_2).f1), .int .i8 0, .int .i8 0]) ?_ 3 _ rfl; (with_reducible repeat (first | refine zE ?_ _ | refine zF ?_ | refine zG ?_ _)); refine blk_put (cs := #[.int .i8 ((rd_T91 l0_2 x28_2).f0.f0), .int .i8 ((rd_T91 l0_2 x28_2).f0.f1), .int .i8 0, .int .i8 0, .int .i8 0]) ?_ 2 _ rfl; (with_reducible repeat (first | refine zE ?_ _ | refine zF ?_ | refine zG ?_ _)); refine blk_put (cs := #[.int .i8 ((rd_T91 l0_2 x28_2).f0.f0), .int .i8 0, .int .i8 0, .int .i8 0, .int .i8 0]) ?_ 1 _ rfl; (with_reducible repeat (first | refine zE ?_ _ | refine zF ?_ | refine zG ?_ _)); refine blk_put (cs := #[.int .i8 0, .int .i8 0, .int .i8 0, .int .i8 0, .int .i8 0]) ?_ 0 _ rfl; (with_reducible repeat (first | refine zE ?_ _ | refine zF ?_ | refine zG ?_ _)); exact BK174.out) hb); have n2_ := zN (below_step (by repeat (first | (with_reducible first | exact HB.out | apply zA | apply zB | apply zC | refine zD ?_ GE170.out | refine zD ?_ GE174.out) | exact HB.out)) hb); clear BK170; clear BK174; clear HB; have BK170 := n0_; have BK174 := n1_; have HB := n2_; clear n0_ n1_ n2_; (try clear hb); (try clear hb2); (try clear hk); (try clear hi)))
          go_ret
          exact ⟨by first | rfl | (simp [errW_none, errW_some] <;> rfl) | (simp [*, errW_none, errW_some] <;> rfl), by repeat (first | (with_reducible first | exact HB.out | apply zA | apply zB | apply zC | refine zD ?_ GE170.out | refine zD ?_ GE174.out) | exact HB.out)⟩
        ·rw [if_neg c15] at H
         exact absurd H (by simp)
       ·rw [if_neg c14] at H
        exact absurd H (by simp)
      ·rw [if_neg c13] at H
       have c13b0 : decide (x28_2 < (l0_2.length : Int)) = false := decide_eq_false c13
       clear c13
       obtain rfl := Option.some.inj H
       go_wp2
       go_ret
       exact ⟨by first | rfl | (simp [errW_none, errW_some] <;> rfl) | (simp [*, errW_none, errW_some] <;> rfl), by repeat (first | (with_reducible first | exact HB.out | apply zA | apply zB | apply zC | refine zD ?_ GE170.out) | exact HB.out)⟩



-- NOT PRINTED: function 170 (impl_Piece)

/-! ### impl_Board_at_1: function 171 -/
def impl_Board_at_1.f (a0_0 : Int) (a0_1 : Int) (a0_2 : Int) (a0_3 : Int) (a0_4 : Int) (l1 : List (S74)) : Option (Bool) := if 0 < (l1.length : Int) then (some (a0_0 == ((rd_T74 l1 0).f0) && (a0_1 == ((rd_T74 l1 0).f1)))) else (none)
set_option maxHeartbeats 8000000 in
set_option maxRecDepth 100000 in
theorem impl_Board_at_1.calls (a0_0 : Int) (a0_1 : Int) (a0_2 : Int) (a0_3 : Int) (a0_4 : Int) (adp1 : Addr) (l1 : List (S74)) (r : Bool) (w : World) (hr1 : Kd.C k74 w (some adp1) l1.length l1) (h : impl_Board_at_1.f a0_0 a0_1 a0_2 a0_3 a0_4 l1 = some r) :
  Calls Try.prog 171 #[.agg #[.int .i8 a0_0, .int .i8 a0_1, .int .i8 a0_2, .int .i8 a0_3, .int .i8 a0_4], .pointer (some adp1)] w fun e w' => e = .returned (.bool r) ∧ Below w.heap.size w w' := by
 have hu91 := Try.underlying91
 have hu74 := Try.underlying74
 have HR1 := zN hr1
 clear hr1
 have HB := zN (Below.refl w.heap.size w)
 have H : (if 0 < (l1.length : Int) then (some (a0_0 == ((rd_T74 l1 0).f0) && (a0_1 == ((rd_T74 l1 0).f1)))) else (none)) = some r := h
 clear h
 by_cases c3 : 0 < (l1.length : Int)
 ·rw [if_pos c3] at H
  have c3b0 : decide (0 < (l1.length : Int)) = true := decide_eq_true c3
  have c3b1 : decide (0 < l1.length) = true := decide_eq_true (by omega)
  clear c3
  obtain rfl := Option.some.inj H
  go_enter Try.func171, Try.ntmps171
  go_wp2_with (first | ((with_reducible refine gate_dst (N := 2) rfl ?_); refine box_event ?hg (N := 2) ?hd (cs := #[.int .i8 a0_0, .int .i8 a0_1, .int .i8 a0_2, .int .i8 a0_3, .int .i8 a0_4]) (t := 91) ?hr ?_; (case hd => rfl); (case hg => rfl); (case hr => first | (go_simp; done) | (go_simp; rfl)); intro gb258 hg w4 hbox hb; have n0_ := zN (below_step (by repeat (first | (with_reducible first | exact HB.out | apply zA | apply zB | apply zC) | exact HB.out)) hb); have n1_ := zN (hbox); have n2_ := zN ((by rw [hg]; exact (below_size (by repeat (first | (with_reducible first | exact HB.out | apply zA | apply zB | apply zC) | exact HB.out))) : w.heap.size ≤ gb258)); have n3_ := zN ((by rw [hg]; exact (below_size (by repeat (first | (with_reducible first | exact HB.out | apply zA | apply zB | apply zC) | exact HB.out))) : w.heap.size ≤ gb258)); clear HB; have HB := n0_; have BK258 := n1_; have GW258 := n2_; have GE258 := n3_; clear n0_ n1_ n2_ n3_; clear hb hbox hg; have hcz5_0 : w4.cell? ⟨gb258, 0, none⟩ = some (.int .i8 a0_0) := (blk_cell BK258.out 0).trans rfl; have hcz5_1 : w4.cell? ⟨gb258, 1, none⟩ = some (.int .i8 a0_1) := (blk_cell BK258.out 1).trans rfl; have hcz5_2 : w4.cell? ⟨gb258, 2, none⟩ = some (.int .i8 a0_2) := (blk_cell BK258.out 2).trans rfl; have hcz5_3 : w4.cell? ⟨gb258, 3, none⟩ = some (.int .i8 a0_3) := (blk_cell BK258.out 3).trans rfl; have hcz5_4 : w4.cell? ⟨gb258, 4, none⟩ = some (.int .i8 a0_4) := (blk_cell BK258.out 4).trans rfl; have hfz5_0 := blk_frozen BK258.out 0; have hfz5_1 := blk_frozen BK258.out 1; have hfz5_2 := blk_frozen BK258.out 2; have hfz5_3 := blk_frozen BK258.out 3; have hfz5_4 := blk_frozen BK258.out 4; have p259 : 0 ≤ (0 : Int) := (by omega); have q259 : 0 < (l1.length : Int) := zJ (by first | (with_reducible assumption) | assumption); obtain ⟨ad259, e259, hx259_0, hx259_1⟩ := at_T74 HR1.out 0 p259 q259; obtain rfl : adp1 = ad259 := (by injection e259); have qi259 : (0 < l1.length) = True := eq_true (by omega); (try rw [zI] at hx259_0); (try rw [Nat.zero_mul] at hx259_0); (try rw [Addr.add_zero'] at hx259_0); (try rw [zI] at hx259_1); (try rw [Nat.zero_mul] at hx259_1); (try rw [Addr.add_zero'] at hx259_1); replace hx259_0 := (HB.out.cell (zH w _ hx259_0)).trans hx259_0; replace hx259_1 := (HB.out.cell (zH w _ hx259_1)).trans hx259_1; replace p259 := eq_true p259; replace q259 := eq_true q259))
  go_ret
  exact ⟨by first | rfl | (simp [errW_none, errW_some] <;> rfl) | (simp [*, errW_none, errW_some] <;> rfl), by repeat (first | (with_reducible first | exact HB.out | apply zA | apply zB | apply zC | refine zD ?_ GE258.out) | exact HB.out)⟩
 ·rw [if_neg c3] at H
  exact absurd H (by simp)

/-! ### slices_IndexFunc__impl_Board_at_1: function 233 -/
def slices_IndexFunc__impl_Board_at_1.l0 : Nat → List (S91) → Int → Int → List (S74) → Option (Int)
 | 0, _, _, _, _ => none
 | k + 1, x0, x7, x8, x2000 => if x8 < x7 then (if 0 ≤ x8 then (if x8 < (x0.length : Int) then ((impl_Board_at_1.f ((rd_T91 x0 x8).f0.f0) ((rd_T91 x0 x8).f0.f1) ((rd_T91 x0 x8).f1) ((rd_T91 x0 x8).f2) ((rd_T91 x0 x8).f3) x2000).bind fun t261 => (if t261 = true then (some x8) else (slices_IndexFunc__impl_Board_at_1.l0 k x0 x7 (wrap64 (x8 + 1)) x2000))) else (none)) else (none)) else (some (-1))
def slices_IndexFunc__impl_Board_at_1.f (k : Nat) (l0 : List (S91)) (l1_0 : List (S74)) : Option (Int) := slices_IndexFunc__impl_Board_at_1.l0 k l0 (l0.length : Int) 0 l1_0
theorem slices_IndexFunc__impl_Board_at_1.mono_l : ∀ k, (∀ y0 y1 y2 y3, LeO (slices_IndexFunc__impl_Board_at_1.l0 k y0 y1 y2 y3) (slices_IndexFunc__impl_Board_at_1.l0 (k + 1) y0 y1 y2 y3))
 | 0 => fun _ _ _ _ r h => by simp [slices_IndexFunc__impl_Board_at_1.l0] at h
 | k + 1 => by
  have ih0 := slices_IndexFunc__impl_Board_at_1.mono_l k
  ·intro y0 y1 y2 y3
   unfold slices_IndexFunc__impl_Board_at_1.l0
   repeat' first
   | (with_reducible exact ih0 _ _ _ _)
   | (with_reducible exact LeO.refl _)
   | (with_reducible exact LeO.none _)
   | (with_reducible refine LeO.ite ?_ ?_)
   | (with_reducible refine LeO.bind ?_ (fun _ => ?_))
   | exact ih0 _ _ _ _
   | exact LeO.none _
   | refine LeO.ite ?_ ?_
   | refine LeO.bind ?_ (fun _ => ?_)
theorem slices_IndexFunc__impl_Board_at_1.mono : ∀ a0 a1 k, LeO (slices_IndexFunc__impl_Board_at_1.f k a0 a1) (slices_IndexFunc__impl_Board_at_1.f (k + 1) a0 a1) := by
 intro a0 a1 k
 have ih0 := slices_IndexFunc__impl_Board_at_1.mono_l k
 unfold slices_IndexFunc__impl_Board_at_1.f
 repeat' first
   | (with_reducible exact ih0 _ _ _ _)
   | (with_reducible exact LeO.refl _)
   | (with_reducible exact LeO.none _)
   | (with_reducible refine LeO.ite ?_ ?_)
   | (with_reducible refine LeO.bind ?_ (fun _ => ?_))
   | exact ih0 _ _ _ _
   | exact LeO.none _
   | refine LeO.ite ?_ ?_
   | refine LeO.bind ?_ (fun _ => ?_)
set_option maxHeartbeats 8000000 in
set_option maxRecDepth 100000 in
theorem slices_IndexFunc__impl_Board_at_1.calls (k : Nat) (A0 : Option Addr) (c0 : Nat) (l0 : List (S91)) (adp1_0 : Addr) (l1_0 : List (S74)) (r : Int) (w : World) (hr0 : Kd.C k91 w A0 l0.length l0) (hc0 : l0.length ≤ c0) (hr1_0 : Kd.C k74 w (some adp1_0) l1_0.length l1_0) (h : slices_IndexFunc__impl_Board_at_1.f k l0 l1_0 = some r) :
  Calls Try.prog 170 #[.slice A0 l0.length c0, .func (.func 171) #[] #[.pointer (some adp1_0)]] w fun e w' => e = .returned (.int .i64 r) ∧ Below w.heap.size w w' := by
 have hu91 := Try.underlying91
 have HR0 := zN hr0
 have HC0 := zN hc0
 clear hr0 hc0
 have HR1_0 := zN hr1_0
 clear hr1_0
 have HB := zN (Below.refl w.heap.size w)
 have H : (slices_IndexFunc__impl_Board_at_1.l0 k l0 (l0.length : Int) 0 l1_0) = some r := h
 clear h
 have H' := zN H
 clear H
 go_enter Try.func170, Try.ntmps170
 go_wp2
 go_loopg [8] k (fun kq v8 w' => ∃ (x8_1 : Int), v8 = .int .i64 x8_1 ∧ Aside0 (slices_IndexFunc__impl_Board_at_1.l0 kq l0 (l0.length : Int) x8_1 l1_0 = some r) ∧ Aside0 (kq ≤ k) ∧ Aside0 (Below w.heap.size w w'))
 case atStart => exact ⟨(0), (by first | rfl | (simp; done) | (simp [*]; done) | (exact congrArg (Value.int .i64) (wrap_eq (by omega)))), H', ⟨Nat.le_refl _⟩, ⟨by repeat (first | (with_reducible first | exact HB.out | apply zA | apply zB | apply zC) | exact HB.out)⟩⟩
 case round =>
  clear H'
  try clear c2
  try clear p2
  obtain ⟨x8_1, rfl, HA, HK1, HB⟩ := hrel
  cases gk with
  | zero => exact absurd HA.out (by simp [slices_IndexFunc__impl_Board_at_1.l0])
  | succ k1 =>
   have H := HA.out
   clear HA
   simp only [slices_IndexFunc__impl_Board_at_1.l0] at H
   by_cases c3 : x8_1 < (l0.length : Int)
   ·rw [if_pos c3] at H
    have c3b0 : decide (x8_1 < (l0.length : Int)) = true := decide_eq_true c3
    clear c3
    by_cases c4 : 0 ≤ x8_1
    ·rw [if_pos c4] at H
     have c4b0 : decide (0 ≤ x8_1) = true := decide_eq_true c4
     clear c4
     by_cases c5 : x8_1 < (l0.length : Int)
     ·rw [if_pos c5] at H
      have c5b0 : decide (x8_1 < (l0.length : Int)) = true := decide_eq_true c5
      clear c5
      replace H := Option.bind_eq_some_iff.mp H
      obtain ⟨t261, A60, H⟩ := H
      replace H : (if t261 = true then (some x8_1) else (slices_IndexFunc__impl_Board_at_1.l0 k1 l0 (l0.length : Int) (wrap64 (x8_1 + 1)) l1_0)) = some r := H
      have A6 := zN A60
      clear A60
      by_cases c7 : t261 = true
      ·subst c7
       have H1 : (some x8_1) = some r := by rw [if_pos rfl] at H; exact H
       clear H
       have H := H1
       clear H1
       obtain rfl := Option.some.inj H
       have p260 : 0 ≤ (x8_1 : Int) := zJ (by first | (with_reducible assumption) | assumption)
       have q260 : x8_1 < (l0.length : Int) := zJ (by first | (with_reducible assumption) | assumption)
       obtain ⟨ad260, e260, hx260_0, hx260_1, hx260_2, hx260_3, hx260_4⟩ := at_T91 HR0.out x8_1 p260 q260
       cases e260
       replace hx260_0 := (HB.out.cell (zH w _ hx260_0)).trans hx260_0
       replace hx260_1 := (HB.out.cell (zH w _ hx260_1)).trans hx260_1
       replace hx260_2 := (HB.out.cell (zH w _ hx260_2)).trans hx260_2
       replace hx260_3 := (HB.out.cell (zH w _ hx260_3)).trans hx260_3
       replace hx260_4 := (HB.out.cell (zH w _ hx260_4)).trans hx260_4
       replace p260 := eq_true p260
       replace q260 := eq_true q260
       go_wp2_with (first | (go_at_call 171; (with_reducible refine (impl_Board_at_1.calls ((rd_T91 l0 x8_1).f0.f0) ((rd_T91 l0 x8_1).f0.f1) ((rd_T91 l0 x8_1).f1) ((rd_T91 l0 x8_1).f2) ((rd_T91 l0 x8_1).f3) _ l1_0 true _ ?side1 A6.out).mono ?_); (case side1 => repeat (first | exact (Kd.C_below HR1_0.out HB.out) | (with_reducible refine Kd.C_alloc ?_ _) | (with_reducible refine Kd.C_drewN ?_ _) | (with_reducible refine Kd.C_drew ?_))); rintro e w8 ⟨rfl, hb⟩; have n0_ := zN (below_step (by repeat (first | (with_reducible first | exact HB.out | apply zA | apply zB | apply zC) | exact HB.out)) hb); clear HB; have HB := n0_; clear n0_; (try clear hb); (try clear hb2); (try clear hk); (try clear hi)))
       go_ret
       exact ⟨by first | rfl | (simp [errW_none, errW_some] <;> rfl) | (simp [*, errW_none, errW_some] <;> rfl), by repeat (first | (with_reducible first | exact HB.out | apply zA | apply zB | apply zC) | exact HB.out)⟩
      ·replace c7 := Bool.eq_false_iff.mpr c7
       subst c7
       have H1 : (slices_IndexFunc__impl_Board_at_1.l0 k1 l0 (l0.length : Int) (wrap64 (x8_1 + 1)) l1_0) = some r := by rw [if_neg (show ¬ (false = true) by decide)] at H; exact H
       clear H
       have H := H1
       clear H1
       have H' := zN H
       clear H
       have p260 : 0 ≤ (x8_1 : Int) := zJ (by first | (with_reducible assumption) | assumption)
       have q260 : x8_1 < (l0.length : Int) := zJ (by first | (with_reducible assumption) | assumption)
       obtain ⟨ad260, e260, hx260_0, hx260_1, hx260_2, hx260_3, hx260_4⟩ := at_T91 HR0.out x8_1 p260 q260
       cases e260
       replace hx260_0 := (HB.out.cell (zH w _ hx260_0)).trans hx260_0
       replace hx260_1 := (HB.out.cell (zH w _ hx260_1)).trans hx260_1
       replace hx260_2 := (HB.out.cell (zH w _ hx260_2)).trans hx260_2
       replace hx260_3 := (HB.out.cell (zH w _ hx260_3)).trans hx260_3
       replace hx260_4 := (HB.out.cell (zH w _ hx260_4)).trans hx260_4
       replace p260 := eq_true p260
       replace q260 := eq_true q260
       go_wp2_with (first | (go_at_call 171; (with_reducible refine (impl_Board_at_1.calls ((rd_T91 l0 x8_1).f0.f0) ((rd_T91 l0 x8_1).f0.f1) ((rd_T91 l0 x8_1).f1) ((rd_T91 l0 x8_1).f2) ((rd_T91 l0 x8_1).f3) _ l1_0 false _ ?side1 A6.out).mono ?_); (case side1 => repeat (first | exact (Kd.C_below HR1_0.out HB.out) | (with_reducible refine Kd.C_alloc ?_ _) | (with_reducible refine Kd.C_drewN ?_ _) | (with_reducible refine Kd.C_drew ?_))); rintro e w9 ⟨rfl, hb⟩; have n0_ := zN (below_step (by repeat (first | (with_reducible first | exact HB.out | apply zA | apply zB | apply zC) | exact HB.out)) hb); clear HB; have HB := n0_; clear n0_; (try clear hb); (try clear hb2); (try clear hk); (try clear hi)))
       go_roundg k1
       case measure => have := HK1.out; omega
       case rel => exact ⟨(wrap64 (x8_1 + 1)), (by first | rfl | (simp; done) | (simp [*]; done) | (exact congrArg (Value.int .i64) (wrap_eq (by omega)))), H', ⟨by have := HK1.out; omega⟩, ⟨by repeat (first | (with_reducible first | exact HB.out | apply zA | apply zB | apply zC) | exact HB.out)⟩⟩
     ·rw [if_neg c5] at H
      exact absurd H (by simp)
    ·rw [if_neg c4] at H
     exact absurd H (by simp)
   ·rw [if_neg c3] at H
    have c3b0 : decide (x8_1 < (l0.length : Int)) = false := decide_eq_false c3
    clear c3
    obtain rfl := Option.some.inj H
    go_wp2
    go_ret
    exact ⟨by first | rfl | (simp [errW_none, errW_some] <;> rfl) | (simp [*, errW_none, errW_some] <;> rfl), by repeat (first | (with_reducible first | exact HB.out | apply zA | apply zB | apply zC) | exact HB.out)⟩

/-! ### impl_Board_at: function 119 -/
def impl_Board_at.f (k : Nat) (l0 : List (S37)) (a1_0 : Int) (a1_1 : Int) : Option (Int) := if 0 < (l0.length : Int) then ((slices_IndexFunc__impl_Board_at_1.f k ((rd_T37 l0 0).f2) [(⟨a1_0, a1_1⟩ : S74)]).bind fun t264 => (some t264)) else (none)
theorem impl_Board_at.mono : ∀ a0 a1 a2 k, LeO (impl_Board_at.f k a0 a1 a2) (impl_Board_at.f (k + 1) a0 a1 a2) := by
 intro a0 a1 a2 k
 unfold impl_Board_at.f
 repeat' first
   | (with_reducible exact slices_IndexFunc__impl_Board_at_1.mono _ _ _)
   | (with_reducible exact LeO.refl _)
   | (with_reducible exact LeO.none _)
   | (with_reducible refine LeO.ite ?_ ?_)
   | (with_reducible refine LeO.bind ?_ (fun _ => ?_))
   | exact slices_IndexFunc__impl_Board_at_1.mono _ _ _
   | exact LeO.none _
   | refine LeO.ite ?_ ?_
   | refine LeO.bind ?_ (fun _ => ?_)
set_option maxHeartbeats 8000000 in
set_option maxRecDepth 100000 in
theorem impl_Board_at.calls (k : Nat) (adp0 : Addr) (l0 : List (S37)) (a1_0 : Int) (a1_1 : Int) (r : Int) (w : World) (hr0 : Kd.C k37 w (some adp0) l0.length l0) (h : impl_Board_at.f k l0 a1_0 a1_1 = some r) :
  Calls Try.prog 119 #[.pointer (some adp0), .agg #[.int .i8 a1_0, .int .i8 a1_1]] w fun e w' => e = .returned (.int .i64 r) ∧ Below w.heap.size w w' := by
 have hu74 := Try.underlying74
 have HR0 := zN hr0
 clear hr0
 have HB := zN (Below.refl w.heap.size w)
 have H : (if 0 < (l0.length : Int) then ((slices_IndexFunc__impl_Board_at_1.f k ((rd_T37 l0 0).f2) [(⟨a1_0, a1_1⟩ : S74)]).bind fun t264 => (some t264)) else (none)) = some r := h
 clear h
 by_cases c3 : 0 < (l0.length : Int)
 ·rw [if_pos c3] at H
  have c3b0 : decide (0 < (l0.length : Int)) = true := decide_eq_true c3
  have c3b1 : decide (0 < l0.length) = true := decide_eq_true (by omega)
  clear c3
  replace H := Option.bind_eq_some_iff.mp H
  obtain ⟨t264, A40, H⟩ := H
  replace H : (some t264) = some r := H
  have A4 := zN A40
  clear A40
  obtain rfl := Option.some.inj H
  go_enter Try.func119, Try.ntmps119
  go_wp2_with (first | ((with_reducible refine gate_dst (N := 3) rfl ?_); refine box_event ?hg (N := 3) ?hd (cs := #[.int .i8 a1_0, .int .i8 a1_1]) (t := 74) ?hr ?_; (case hd => rfl); (case hg => rfl); (case hr => first | (go_simp; done) | (go_simp; rfl)); intro gb262 hg w5 hbox hb; have n0_ := zN (below_step (by repeat (first | (with_reducible first | exact HB.out | apply zA | apply zB | apply zC) | exact HB.out)) hb); have n1_ := zN (hbox); have n2_ := zN ((by rw [hg]; exact (below_size (by repeat (first | (with_reducible first | exact HB.out | apply zA | apply zB | apply zC) | exact HB.out))) : w.heap.size ≤ gb262)); have n3_ := zN ((by rw [hg]; exact (below_size (by repeat (first | (with_reducible first | exact HB.out | apply zA | apply zB | apply zC) | exact HB.out))) : w.heap.size ≤ gb262)); clear HB; have HB := n0_; have BK262 := n1_; have GW262 := n2_; have GE262 := n3_; clear n0_ n1_ n2_ n3_; clear hb hbox hg; have p263 : 0 ≤ (0 : Int) := (by omega); have q263 : 0 < (l0.length : Int) := zJ (by first | (with_reducible assumption) | assumption); obtain ⟨ad263, A263_2, c263_2, e263, hx263_0, hx263_1, hx263_2, hl263_2, hi263_2⟩ := at_T37 HR0.out 0 p263 q263; obtain rfl : adp0 = ad263 := (by injection e263); have qi263 : (0 < l0.length) = True := eq_true (by omega); (try rw [zI] at hx263_0); (try rw [Nat.zero_mul] at hx263_0); (try rw [Addr.add_zero'] at hx263_0); (try rw [zI] at hx263_1); (try rw [Nat.zero_mul] at hx263_1); (try rw [Addr.add_zero'] at hx263_1); (try rw [zI] at hx263_2); (try rw [Nat.zero_mul] at hx263_2); (try rw [Addr.add_zero'] at hx263_2); replace hx263_0 := (HB.out.cell (zH w _ hx263_0)).trans hx263_0; replace hx263_1 := (HB.out.cell (zH w _ hx263_1)).trans hx263_1; replace hx263_2 := (HB.out.cell (zH w _ hx263_2)).trans hx263_2; have HR263_2 := zN hi263_2; have HC263_2 := zN hl263_2; clear hi263_2 hl263_2; replace p263 := eq_true p263; replace q263 := eq_true q263) | ((with_reducible refine gate_callee (f := 170) rfl ?_); refine goesL_ (some 10) rfl rfl Try.func170 (by kernel_rfl) rfl #[.slice A263_2 ((rd_T37 l0 0).f2).length c263_2, .func (.func 171) #[] #[.pointer (some ⟨gb262, 0, none⟩)]] rfl (by (try simp only [List.map_toArray, List.map_cons, List.map_nil]); first | done | rfl | (simp only [List.length_drop, List.length_take]; rfl)) ?_; (with_reducible refine (slices_IndexFunc__impl_Board_at_1.calls k _ _ ((rd_T37 l0 0).f2) _ [(⟨a1_0, a1_1⟩ : S74)] t264 _ ?side1 ?side2 ?side3 A4.out).mono ?_); (case side1 => repeat (first | exact (Kd.C_below HR263_2.out HB.out) | (with_reducible refine Kd.C_alloc ?_ _) | (with_reducible refine Kd.C_drewN ?_ _) | (with_reducible refine Kd.C_drew ?_))); (case side2 => exact HC263_2.out); (case side3 => refine ro_of_blk (T := 74) (cs := #[.int .i8 a1_0, .int .i8 a1_1]) (by (with_reducible repeat (first | refine zE ?_ _ | refine zF ?_ | refine zG ?_ _)); exact BK262.out) ?_; exact k74_mk _ (⟨a1_0, a1_1⟩ : S74) ); rintro e w6 ⟨rfl, hb⟩; refine ⟨_, rfl, ?_⟩; have n0_ := zN (blk_below (g := gb262) (o := .cells #[.int .i8 a1_0, .int .i8 a1_1] 74 (0, 0)) (by (with_reducible repeat (first | refine zE ?_ _ | refine zF ?_ | refine zG ?_ _)); exact BK262.out) hb); have n1_ := zN (below_step (by repeat (first | (with_reducible first | exact HB.out | apply zA | apply zB | apply zC | refine zD ?_ GE262.out) | exact HB.out)) hb); clear BK262; clear HB; have BK262 := n0_; have HB := n1_; clear n0_ n1_; (try clear hb); (try clear hb2); (try clear hk); (try clear hi)))
  go_ret
  exact ⟨by first | rfl | (simp [errW_none, errW_some] <;> rfl) | (simp [*, errW_none, errW_some] <;> rfl), by repeat (first | (with_reducible first | exact HB.out | apply zA | apply zB | apply zC | refine zD ?_ GE262.out) | exact HB.out)⟩
 ·rw [if_neg c3] at H
  exact absurd H (by simp)

/-! ### impl_isSide: function 146 -/
def impl_isSide.f (a0 : Int) : Option (Bool) := (impl_in.f a0 0 3).bind fun t265 => (some t265)
set_option maxHeartbeats 8000000 in
set_option maxRecDepth 100000 in
theorem impl_isSide.calls (a0 : Int) (r : Bool) (w : World) (h : impl_isSide.f a0 = some r) :
  Calls Try.prog 146 #[.int .i64 a0] w fun e w' => e = .returned (.bool r) ∧ Drawn0 w w' := by
 have H : ((impl_in.f a0 0 3).bind fun t265 => (some t265)) = some r := h
 clear h
 replace H := Option.bind_eq_some_iff.mp H
 obtain ⟨t265, A20, H⟩ := H
 replace H : (some t265) = some r := H
 have A2 := zN A20
 clear A20
 obtain rfl := Option.some.inj H
 go_enter Try.func146, Try.ntmps146
 go_wp2_with (first | ((with_reducible refine gate_callee (f := 98) rfl ?_); refine goesL_ (some 4) rfl rfl Try.func98 (by kernel_rfl) rfl #[.int .i64 a0, .int .i64 0, .int .i64 3] rfl (by (try simp only [List.map_toArray, List.map_cons, List.map_nil]); first | done | rfl | (simp only [List.length_drop, List.length_take]; rfl)) ?_; (with_reducible refine (impl_in.calls a0 0 3 t265 _ A2.out).mono ?_); rintro e w' ⟨rfl, ⟨nd, rfl⟩⟩; refine ⟨_, rfl, ?_⟩))
 go_ret
 exact ⟨by first | rfl | (simp; done) | (simp [*]; done) | (exact congrArg (Value.int .i64) (wrap_eq (by omega))), by repeat (first | exact Drawn0.refl _ | apply Drawn0.step)⟩

end Go.Proofs.Ytffnfpnajkgnaaa.PFnExactValidMachine
