-- squeezed
-- WRITTEN by xprint.py, a program of this session's. Not trusted: Lean checks it.
import Derived.Test.YtffnfpnajkgnaaaPFnExactSameMachinex0
import Derived.Test.YtffnfpnajkgnaaaPFnExactSameMachinex2
namespace Go.Proofs.Ytffnfpnajkgnaaa.PFnExactSameMachine
open Go.RowKit Go.Proofs.YtffnfpnajkgnaaaW.PrintWords Go.Proofs.YtffnfpnajkgnaaaW.PrintLast Go.Proofs.YtffnfpnajkgnaaaW.PrintMore Go.Proofs.YtffnfpnajkgnaaaX
attribute [local go_sem] max2_int min2_int max_two min_two max_three min_three max_four min_four   -- for this text's walks alone
set_option linter.unusedVariables false
set_option linter.unusedSimpArgs false

attribute [local go_sem high] eqA91
/-! ### spec_l01Same: function 127 -/
mutual
def spec_l01Same.j0 : Nat → List (S37) → List (S37) → Bool → Option (Bool)
 | 0, _, _, _ => none
 | k + 1, x0, x1, x38 => if x38 = true then (some false) else (spec_l01Same.l0 k x0 x1 0)
def spec_l01Same.l0 : Nat → List (S37) → List (S37) → Int → Option (Bool)
 | 0, _, _, _ => none
 | k + 1, x0, x1, x5 => if 0 < (x0.length : Int) then (if x5 < (((rd_T37 x0 0).f2).length : Int) then (if 0 ≤ x5 then (if 0 < (x1.length : Int) then (if x5 < (((rd_T37 x1 0).f2).length : Int) then (if ((!(((rd_T91 ((rd_T37 x0 0).f2) x5).f0.f0) == ((rd_T91 ((rd_T37 x1 0).f2) x5).f0.f0)) || (!(((rd_T91 ((rd_T37 x0 0).f2) x5).f0.f1) == ((rd_T91 ((rd_T37 x1 0).f2) x5).f0.f1)))) || (!(((rd_T91 ((rd_T37 x0 0).f2) x5).f1) == ((rd_T91 ((rd_T37 x1 0).f2) x5).f1)) || (!(((rd_T91 ((rd_T37 x0 0).f2) x5).f2) == ((rd_T91 ((rd_T37 x1 0).f2) x5).f2)) || (!(((rd_T91 ((rd_T37 x0 0).f2) x5).f3) == ((rd_T91 ((rd_T37 x1 0).f2) x5).f3)))))) = true then (some false) else (spec_l01Same.l0 k x0 x1 (wrap64 (x5 + 1)))) else (none)) else (none)) else (none)) else (some true)) else (none)
end
def spec_l01Same.f (k : Nat) (l0 : List (S37)) (l1 : List (S37)) : Option (Bool) := if 0 < (l0.length : Int) then (if 0 < (l1.length : Int) then (if ((rd_T37 l0 0).f0) = ((rd_T37 l1 0).f0) then (if ((rd_T37 l0 0).f1) = ((rd_T37 l1 0).f1) then (spec_l01Same.j0 k l0 l1 ((((rd_T37 l0 0).f2).length : Int) != (((rd_T37 l1 0).f2).length : Int))) else (spec_l01Same.j0 k l0 l1 true)) else (spec_l01Same.j0 k l0 l1 true)) else (none)) else (none)
theorem spec_l01Same.mono_l : ∀ k, (∀ y0 y1 y2, LeO (spec_l01Same.j0 k y0 y1 y2) (spec_l01Same.j0 (k + 1) y0 y1 y2)) ∧ (∀ y0 y1 y2, LeO (spec_l01Same.l0 k y0 y1 y2) (spec_l01Same.l0 (k + 1) y0 y1 y2))
 | 0 => ⟨fun _ _ _ r h => by simp [spec_l01Same.j0] at h, fun _ _ _ r h => by simp [spec_l01Same.l0] at h⟩
 | k + 1 => by
  obtain ⟨ih0, ih1⟩ := spec_l01Same.mono_l k
  refine ⟨?_, ?_⟩
  ·intro y0 y1 y2
   unfold spec_l01Same.j0
   repeat' first
   | (with_reducible exact ih0 _ _ _)
   | (with_reducible exact ih1 _ _ _)
   | (with_reducible exact LeO.refl _)
   | (with_reducible exact LeO.none _)
   | (with_reducible refine LeO.ite ?_ ?_)
   | (with_reducible refine LeO.bind ?_ (fun _ => ?_))
   | exact ih0 _ _ _
   | exact ih1 _ _ _
   | exact LeO.none _
   | refine LeO.ite ?_ ?_
   | refine LeO.bind ?_ (fun _ => ?_)
  ·intro y0 y1 y2
   unfold spec_l01Same.l0
   repeat' first
   | (with_reducible exact ih0 _ _ _)
   | (with_reducible exact ih1 _ _ _)
   | (with_reducible exact LeO.refl _)
   | (with_reducible exact LeO.none _)
   | (with_reducible refine LeO.ite ?_ ?_)
   | (with_reducible refine LeO.bind ?_ (fun _ => ?_))
   | exact ih0 _ _ _
   | exact ih1 _ _ _
   | exact LeO.none _
   | refine LeO.ite ?_ ?_
   | refine LeO.bind ?_ (fun _ => ?_)
theorem spec_l01Same.mono : ∀ a0 a1 k, LeO (spec_l01Same.f k a0 a1) (spec_l01Same.f (k + 1) a0 a1) := by
 intro a0 a1 k
 obtain ⟨ih0, ih1⟩ := spec_l01Same.mono_l k
 unfold spec_l01Same.f
 repeat' first
   | (with_reducible exact ih0 _ _ _)
   | (with_reducible exact ih1 _ _ _)
   | (with_reducible exact LeO.refl _)
   | (with_reducible exact LeO.none _)
   | (with_reducible refine LeO.ite ?_ ?_)
   | (with_reducible refine LeO.bind ?_ (fun _ => ?_))
   | exact ih0 _ _ _
   | exact ih1 _ _ _
   | exact LeO.none _
   | refine LeO.ite ?_ ?_
   | refine LeO.bind ?_ (fun _ => ?_)
set_option maxHeartbeats 8000000 in
set_option maxRecDepth 100000 in
theorem spec_l01Same.calls (k : Nat) (adp0 : Addr) (l0 : List (S37)) (adp1 : Addr) (l1 : List (S37)) (r : Bool) (w : World) (hr0 : Kd.C k37 w (some adp0) l0.length l0) (hr1 : Kd.C k37 w (some adp1) l1.length l1) (h : spec_l01Same.f k l0 l1 = some r) :
  Calls Try.prog 127 #[.pointer (some adp0), .pointer (some adp1)] w fun e w' => e = .returned (.bool r) ∧ Drawn0 w w' := by
 have hu91 := Try.underlying91
 have HR0 := Aside0.mk hr0
 clear hr0
 have HR1 := Aside0.mk hr1
 clear hr1
 have H : (if 0 < (l0.length : Int) then (if 0 < (l1.length : Int) then (if ((rd_T37 l0 0).f0) = ((rd_T37 l1 0).f0) then (if ((rd_T37 l0 0).f1) = ((rd_T37 l1 0).f1) then (spec_l01Same.j0 k l0 l1 ((((rd_T37 l0 0).f2).length : Int) != (((rd_T37 l1 0).f2).length : Int))) else (spec_l01Same.j0 k l0 l1 true)) else (spec_l01Same.j0 k l0 l1 true)) else (none)) else (none)) = some r := h
 clear h
 have HC3 := Aside0.mk H
 clear H
 go_enter Try.func127, Try.ntmps127
 go_upto_region 1 with (fail)
 repeat (go_quiet (fail); go_upto_region 1 with (fail))
 go_cut [38] (fun v38 wc => ∃ (kq : Nat) (x38_2 : Bool), v38 = .bool x38_2 ∧ Aside0 (spec_l01Same.j0 kq l0 l1 x38_2 = some r) ∧ Aside0 (kq ≤ k) ∧ Drawn0 w wc)
 case first =>
  have H := HC3.out
  clear HC3
  by_cases c4 : 0 < (l0.length : Int)
  ·rw [if_pos c4] at H
   have c4b0 : decide (0 < (l0.length : Int)) = true := decide_eq_true c4
   have c4b1 : decide (0 < l0.length) = true := decide_eq_true (by omega)
   clear c4
   (first | rw [c4b0] | (simp only [i64_w, i32_w]; rw [c4b0]) | (have h_ := c4b0; simp only [bne] at h_; rw [h_]) | skip)
   by_cases c5 : 0 < (l1.length : Int)
   ·rw [if_pos c5] at H
    have c5b0 : decide (0 < (l1.length : Int)) = true := decide_eq_true c5
    have c5b1 : decide (0 < l1.length) = true := decide_eq_true (by omega)
    clear c5
    by_cases c6 : ((rd_T37 l0 0).f0) = ((rd_T37 l1 0).f0)
    ·rw [if_pos c6] at H
     have c6b0 : (((rd_T37 l0 0).f0) == ((rd_T37 l1 0).f0)) = true := beq_iff_eq.mpr c6
     have c6b1 : (((rd_T37 l0 0).f0) != ((rd_T37 l1 0).f0)) = false := bne_eq_false_iff_eq.mpr c6
     clear c6
     by_cases c7 : ((rd_T37 l0 0).f1) = ((rd_T37 l1 0).f1)
     ·rw [if_pos c7] at H
      have c7b0 : (((rd_T37 l0 0).f1) == ((rd_T37 l1 0).f1)) = true := beq_iff_eq.mpr c7
      have c7b1 : (((rd_T37 l0 0).f1) != ((rd_T37 l1 0).f1)) = false := bne_eq_false_iff_eq.mpr c7
      clear c7
      have H' := Aside0.mk H
      clear H
      have p190 : 0 ≤ (0 : Int) := (by omega)
      have q190 : 0 < (l0.length : Int) := of_decide_eq_true (by first | (with_reducible assumption) | assumption)
      obtain ⟨ad190, A190_2, c190_2, e190, hx190_0, hx190_1, hx190_2, hl190_2, hi190_2⟩ := at_T37 HR0.out 0 p190 q190
      obtain rfl : adp0 = ad190 := (by injection e190)
      have qi190 : (0 < l0.length) = True := eq_true (by omega)
      (try rw [show ((0 : Int)).toNat = 0 from rfl] at hx190_0)
      (try rw [show 0 * 3 = 0 from rfl] at hx190_0)
      (try rw [Addr.add_zero'] at hx190_0)
      (try rw [show ((0 : Int)).toNat = 0 from rfl] at hx190_1)
      (try rw [show 0 * 3 = 0 from rfl] at hx190_1)
      (try rw [Addr.add_zero'] at hx190_1)
      (try rw [show ((0 : Int)).toNat = 0 from rfl] at hx190_2)
      (try rw [show 0 * 3 = 0 from rfl] at hx190_2)
      (try rw [Addr.add_zero'] at hx190_2)
      have HR190_2 := Aside0.mk hi190_2
      have HC190_2 := Aside0.mk hl190_2
      clear hi190_2 hl190_2
      replace p190 := eq_true p190
      replace q190 := eq_true q190
      have p191 : 0 ≤ (0 : Int) := (by omega)
      have q191 : 0 < (l1.length : Int) := of_decide_eq_true (by first | (with_reducible assumption) | assumption)
      obtain ⟨ad191, A191_2, c191_2, e191, hx191_0, hx191_1, hx191_2, hl191_2, hi191_2⟩ := at_T37 HR1.out 0 p191 q191
      obtain rfl : adp1 = ad191 := (by injection e191)
      have qi191 : (0 < l1.length) = True := eq_true (by omega)
      (try rw [show ((0 : Int)).toNat = 0 from rfl] at hx191_0)
      (try rw [show 0 * 3 = 0 from rfl] at hx191_0)
      (try rw [Addr.add_zero'] at hx191_0)
      (try rw [show ((0 : Int)).toNat = 0 from rfl] at hx191_1)
      (try rw [show 0 * 3 = 0 from rfl] at hx191_1)
      (try rw [Addr.add_zero'] at hx191_1)
      (try rw [show ((0 : Int)).toNat = 0 from rfl] at hx191_2)
      (try rw [show 0 * 3 = 0 from rfl] at hx191_2)
      (try rw [Addr.add_zero'] at hx191_2)
      have HR191_2 := Aside0.mk hi191_2
      have HC191_2 := Aside0.mk hl191_2
      clear hi191_2 hl191_2
      replace p191 := eq_true p191
      replace q191 := eq_true q191
      have p192 : 0 ≤ (0 : Int) := (by omega)
      have q192 : 0 < (l0.length : Int) := of_decide_eq_true (by first | (with_reducible assumption) | assumption)
      obtain ⟨ad192, A192_2, c192_2, e192, hx192_0, hx192_1, hx192_2, hl192_2, hi192_2⟩ := at_T37 HR0.out 0 p192 q192
      obtain rfl : adp0 = ad192 := (by injection e192)
      have qi192 : (0 < l0.length) = True := eq_true (by omega)
      (try rw [show ((0 : Int)).toNat = 0 from rfl] at hx192_0)
      (try rw [show 0 * 3 = 0 from rfl] at hx192_0)
      (try rw [Addr.add_zero'] at hx192_0)
      (try rw [show ((0 : Int)).toNat = 0 from rfl] at hx192_1)
      (try rw [show 0 * 3 = 0 from rfl] at hx192_1)
      (try rw [Addr.add_zero'] at hx192_1)
      (try rw [show ((0 : Int)).toNat = 0 from rfl] at hx192_2)
      (try rw [show 0 * 3 = 0 from rfl] at hx192_2)
      (try rw [Addr.add_zero'] at hx192_2)
      have HR192_2 := Aside0.mk hi192_2
      have HC192_2 := Aside0.mk hl192_2
      clear hi192_2 hl192_2
      replace p192 := eq_true p192
      replace q192 := eq_true q192
      have ea_ := Option.some.inj (hx190_2.symm.trans hx192_2)
      injection ea_ with ea_ en_ ec_
      subst ea_
      subst ec_
      clear en_
      have p193 : 0 ≤ (0 : Int) := (by omega)
      have q193 : 0 < (l1.length : Int) := of_decide_eq_true (by first | (with_reducible assumption) | assumption)
      obtain ⟨ad193, A193_2, c193_2, e193, hx193_0, hx193_1, hx193_2, hl193_2, hi193_2⟩ := at_T37 HR1.out 0 p193 q193
      obtain rfl : adp1 = ad193 := (by injection e193)
      have qi193 : (0 < l1.length) = True := eq_true (by omega)
      (try rw [show ((0 : Int)).toNat = 0 from rfl] at hx193_0)
      (try rw [show 0 * 3 = 0 from rfl] at hx193_0)
      (try rw [Addr.add_zero'] at hx193_0)
      (try rw [show ((0 : Int)).toNat = 0 from rfl] at hx193_1)
      (try rw [show 0 * 3 = 0 from rfl] at hx193_1)
      (try rw [Addr.add_zero'] at hx193_1)
      (try rw [show ((0 : Int)).toNat = 0 from rfl] at hx193_2)
      (try rw [show 0 * 3 = 0 from rfl] at hx193_2)
      (try rw [Addr.add_zero'] at hx193_2)
      have HR193_2 := Aside0.mk hi193_2
      have HC193_2 := Aside0.mk hl193_2
      clear hi193_2 hl193_2
      replace p193 := eq_true p193
      replace q193 := eq_true q193
      have ea_ := Option.some.inj (hx191_2.symm.trans hx193_2)
      injection ea_ with ea_ en_ ec_
      subst ea_
      subst ec_
      clear en_
      have p194 : 0 ≤ (0 : Int) := (by omega)
      have q194 : 0 < (l0.length : Int) := of_decide_eq_true (by first | (with_reducible assumption) | assumption)
      obtain ⟨ad194, A194_2, c194_2, e194, hx194_0, hx194_1, hx194_2, hl194_2, hi194_2⟩ := at_T37 HR0.out 0 p194 q194
      obtain rfl : adp0 = ad194 := (by injection e194)
      have qi194 : (0 < l0.length) = True := eq_true (by omega)
      (try rw [show ((0 : Int)).toNat = 0 from rfl] at hx194_0)
      (try rw [show 0 * 3 = 0 from rfl] at hx194_0)
      (try rw [Addr.add_zero'] at hx194_0)
      (try rw [show ((0 : Int)).toNat = 0 from rfl] at hx194_1)
      (try rw [show 0 * 3 = 0 from rfl] at hx194_1)
      (try rw [Addr.add_zero'] at hx194_1)
      (try rw [show ((0 : Int)).toNat = 0 from rfl] at hx194_2)
      (try rw [show 0 * 3 = 0 from rfl] at hx194_2)
      (try rw [Addr.add_zero'] at hx194_2)
      have HR194_2 := Aside0.mk hi194_2
      have HC194_2 := Aside0.mk hl194_2
      clear hi194_2 hl194_2
      replace p194 := eq_true p194
      replace q194 := eq_true q194
      have ea_ := Option.some.inj (hx190_2.symm.trans hx194_2)
      injection ea_ with ea_ en_ ec_
      subst ea_
      subst ec_
      clear en_
      have p195 : 0 ≤ (0 : Int) := (by omega)
      have q195 : 0 < (l1.length : Int) := of_decide_eq_true (by first | (with_reducible assumption) | assumption)
      obtain ⟨ad195, A195_2, c195_2, e195, hx195_0, hx195_1, hx195_2, hl195_2, hi195_2⟩ := at_T37 HR1.out 0 p195 q195
      obtain rfl : adp1 = ad195 := (by injection e195)
      have qi195 : (0 < l1.length) = True := eq_true (by omega)
      (try rw [show ((0 : Int)).toNat = 0 from rfl] at hx195_0)
      (try rw [show 0 * 3 = 0 from rfl] at hx195_0)
      (try rw [Addr.add_zero'] at hx195_0)
      (try rw [show ((0 : Int)).toNat = 0 from rfl] at hx195_1)
      (try rw [show 0 * 3 = 0 from rfl] at hx195_1)
      (try rw [Addr.add_zero'] at hx195_1)
      (try rw [show ((0 : Int)).toNat = 0 from rfl] at hx195_2)
      (try rw [show 0 * 3 = 0 from rfl] at hx195_2)
      (try rw [Addr.add_zero'] at hx195_2)
      have HR195_2 := Aside0.mk hi195_2
      have HC195_2 := Aside0.mk hl195_2
      clear hi195_2 hl195_2
      replace p195 := eq_true p195
      replace q195 := eq_true q195
      have ea_ := Option.some.inj (hx191_2.symm.trans hx195_2)
      injection ea_ with ea_ en_ ec_
      subst ea_
      subst ec_
      clear en_
      go_wp2
      repeat (go_quiet (fail); try go_wp2)
      go_meet
      case rel => exact ⟨_, (((((rd_T37 l0 0).f2).length : Int) != (((rd_T37 l1 0).f2).length : Int))), (by first | rfl | (simp; done) | (simp [*]; done) | (exact congrArg (Value.int .i64) (wrap_eq (by omega)))), H', ⟨by first | omega | exact Nat.le_refl _⟩, by repeat (first | exact Drawn0.refl _ | apply Drawn0.step)⟩
     ·rw [if_neg c7] at H
      have c7b0 : (((rd_T37 l0 0).f1) == ((rd_T37 l1 0).f1)) = false := beq_eq_false_iff_ne.mpr c7
      have c7b1 : (((rd_T37 l0 0).f1) != ((rd_T37 l1 0).f1)) = true := bne_iff_ne.mpr c7
      have H' := Aside0.mk H
      clear H
      have p190 : 0 ≤ (0 : Int) := (by omega)
      have q190 : 0 < (l0.length : Int) := of_decide_eq_true (by first | (with_reducible assumption) | assumption)
      obtain ⟨ad190, A190_2, c190_2, e190, hx190_0, hx190_1, hx190_2, hl190_2, hi190_2⟩ := at_T37 HR0.out 0 p190 q190
      obtain rfl : adp0 = ad190 := (by injection e190)
      have qi190 : (0 < l0.length) = True := eq_true (by omega)
      (try rw [show ((0 : Int)).toNat = 0 from rfl] at hx190_0)
      (try rw [show 0 * 3 = 0 from rfl] at hx190_0)
      (try rw [Addr.add_zero'] at hx190_0)
      (try rw [show ((0 : Int)).toNat = 0 from rfl] at hx190_1)
      (try rw [show 0 * 3 = 0 from rfl] at hx190_1)
      (try rw [Addr.add_zero'] at hx190_1)
      (try rw [show ((0 : Int)).toNat = 0 from rfl] at hx190_2)
      (try rw [show 0 * 3 = 0 from rfl] at hx190_2)
      (try rw [Addr.add_zero'] at hx190_2)
      have HR190_2 := Aside0.mk hi190_2
      have HC190_2 := Aside0.mk hl190_2
      clear hi190_2 hl190_2
      replace p190 := eq_true p190
      replace q190 := eq_true q190
      have p191 : 0 ≤ (0 : Int) := (by omega)
      have q191 : 0 < (l1.length : Int) := of_decide_eq_true (by first | (with_reducible assumption) | assumption)
      obtain ⟨ad191, A191_2, c191_2, e191, hx191_0, hx191_1, hx191_2, hl191_2, hi191_2⟩ := at_T37 HR1.out 0 p191 q191
      obtain rfl : adp1 = ad191 := (by injection e191)
      have qi191 : (0 < l1.length) = True := eq_true (by omega)
      (try rw [show ((0 : Int)).toNat = 0 from rfl] at hx191_0)
      (try rw [show 0 * 3 = 0 from rfl] at hx191_0)
      (try rw [Addr.add_zero'] at hx191_0)
      (try rw [show ((0 : Int)).toNat = 0 from rfl] at hx191_1)
      (try rw [show 0 * 3 = 0 from rfl] at hx191_1)
      (try rw [Addr.add_zero'] at hx191_1)
      (try rw [show ((0 : Int)).toNat = 0 from rfl] at hx191_2)
      (try rw [show 0 * 3 = 0 from rfl] at hx191_2)
      (try rw [Addr.add_zero'] at hx191_2)
      have HR191_2 := Aside0.mk hi191_2
      have HC191_2 := Aside0.mk hl191_2
      clear hi191_2 hl191_2
      replace p191 := eq_true p191
      replace q191 := eq_true q191
      have p192 : 0 ≤ (0 : Int) := (by omega)
      have q192 : 0 < (l0.length : Int) := of_decide_eq_true (by first | (with_reducible assumption) | assumption)
      obtain ⟨ad192, A192_2, c192_2, e192, hx192_0, hx192_1, hx192_2, hl192_2, hi192_2⟩ := at_T37 HR0.out 0 p192 q192
      obtain rfl : adp0 = ad192 := (by injection e192)
      have qi192 : (0 < l0.length) = True := eq_true (by omega)
      (try rw [show ((0 : Int)).toNat = 0 from rfl] at hx192_0)
      (try rw [show 0 * 3 = 0 from rfl] at hx192_0)
      (try rw [Addr.add_zero'] at hx192_0)
      (try rw [show ((0 : Int)).toNat = 0 from rfl] at hx192_1)
      (try rw [show 0 * 3 = 0 from rfl] at hx192_1)
      (try rw [Addr.add_zero'] at hx192_1)
      (try rw [show ((0 : Int)).toNat = 0 from rfl] at hx192_2)
      (try rw [show 0 * 3 = 0 from rfl] at hx192_2)
      (try rw [Addr.add_zero'] at hx192_2)
      have HR192_2 := Aside0.mk hi192_2
      have HC192_2 := Aside0.mk hl192_2
      clear hi192_2 hl192_2
      replace p192 := eq_true p192
      replace q192 := eq_true q192
      have ea_ := Option.some.inj (hx190_2.symm.trans hx192_2)
      injection ea_ with ea_ en_ ec_
      subst ea_
      subst ec_
      clear en_
      have p193 : 0 ≤ (0 : Int) := (by omega)
      have q193 : 0 < (l1.length : Int) := of_decide_eq_true (by first | (with_reducible assumption) | assumption)
      obtain ⟨ad193, A193_2, c193_2, e193, hx193_0, hx193_1, hx193_2, hl193_2, hi193_2⟩ := at_T37 HR1.out 0 p193 q193
      obtain rfl : adp1 = ad193 := (by injection e193)
      have qi193 : (0 < l1.length) = True := eq_true (by omega)
      (try rw [show ((0 : Int)).toNat = 0 from rfl] at hx193_0)
      (try rw [show 0 * 3 = 0 from rfl] at hx193_0)
      (try rw [Addr.add_zero'] at hx193_0)
      (try rw [show ((0 : Int)).toNat = 0 from rfl] at hx193_1)
      (try rw [show 0 * 3 = 0 from rfl] at hx193_1)
      (try rw [Addr.add_zero'] at hx193_1)
      (try rw [show ((0 : Int)).toNat = 0 from rfl] at hx193_2)
      (try rw [show 0 * 3 = 0 from rfl] at hx193_2)
      (try rw [Addr.add_zero'] at hx193_2)
      have HR193_2 := Aside0.mk hi193_2
      have HC193_2 := Aside0.mk hl193_2
      clear hi193_2 hl193_2
      replace p193 := eq_true p193
      replace q193 := eq_true q193
      have ea_ := Option.some.inj (hx191_2.symm.trans hx193_2)
      injection ea_ with ea_ en_ ec_
      subst ea_
      subst ec_
      clear en_
      go_wp2
      repeat (go_quiet (fail); try go_wp2)
      go_meet
      case rel => exact ⟨_, (true), (by first | rfl | (simp; done) | (simp [*]; done) | (exact congrArg (Value.int .i64) (wrap_eq (by omega)))), H', ⟨by first | omega | exact Nat.le_refl _⟩, by repeat (first | exact Drawn0.refl _ | apply Drawn0.step)⟩
    ·rw [if_neg c6] at H
     have c6b0 : (((rd_T37 l0 0).f0) == ((rd_T37 l1 0).f0)) = false := beq_eq_false_iff_ne.mpr c6
     have c6b1 : (((rd_T37 l0 0).f0) != ((rd_T37 l1 0).f0)) = true := bne_iff_ne.mpr c6
     have H' := Aside0.mk H
     clear H
     have p190 : 0 ≤ (0 : Int) := (by omega)
     have q190 : 0 < (l0.length : Int) := of_decide_eq_true (by first | (with_reducible assumption) | assumption)
     obtain ⟨ad190, A190_2, c190_2, e190, hx190_0, hx190_1, hx190_2, hl190_2, hi190_2⟩ := at_T37 HR0.out 0 p190 q190
     obtain rfl : adp0 = ad190 := (by injection e190)
     have qi190 : (0 < l0.length) = True := eq_true (by omega)
     (try rw [show ((0 : Int)).toNat = 0 from rfl] at hx190_0)
     (try rw [show 0 * 3 = 0 from rfl] at hx190_0)
     (try rw [Addr.add_zero'] at hx190_0)
     (try rw [show ((0 : Int)).toNat = 0 from rfl] at hx190_1)
     (try rw [show 0 * 3 = 0 from rfl] at hx190_1)
     (try rw [Addr.add_zero'] at hx190_1)
     (try rw [show ((0 : Int)).toNat = 0 from rfl] at hx190_2)
     (try rw [show 0 * 3 = 0 from rfl] at hx190_2)
     (try rw [Addr.add_zero'] at hx190_2)
     have HR190_2 := Aside0.mk hi190_2
     have HC190_2 := Aside0.mk hl190_2
     clear hi190_2 hl190_2
     replace p190 := eq_true p190
     replace q190 := eq_true q190
     have p191 : 0 ≤ (0 : Int) := (by omega)
     have q191 : 0 < (l1.length : Int) := of_decide_eq_true (by first | (with_reducible assumption) | assumption)
     obtain ⟨ad191, A191_2, c191_2, e191, hx191_0, hx191_1, hx191_2, hl191_2, hi191_2⟩ := at_T37 HR1.out 0 p191 q191
     obtain rfl : adp1 = ad191 := (by injection e191)
     have qi191 : (0 < l1.length) = True := eq_true (by omega)
     (try rw [show ((0 : Int)).toNat = 0 from rfl] at hx191_0)
     (try rw [show 0 * 3 = 0 from rfl] at hx191_0)
     (try rw [Addr.add_zero'] at hx191_0)
     (try rw [show ((0 : Int)).toNat = 0 from rfl] at hx191_1)
     (try rw [show 0 * 3 = 0 from rfl] at hx191_1)
     (try rw [Addr.add_zero'] at hx191_1)
     (try rw [show ((0 : Int)).toNat = 0 from rfl] at hx191_2)
     (try rw [show 0 * 3 = 0 from rfl] at hx191_2)
     (try rw [Addr.add_zero'] at hx191_2)
     have HR191_2 := Aside0.mk hi191_2
     have HC191_2 := Aside0.mk hl191_2
     clear hi191_2 hl191_2
     replace p191 := eq_true p191
     replace q191 := eq_true q191
     go_wp2
     repeat (go_quiet (fail); try go_wp2)
     go_meet
     case rel => exact ⟨_, (true), (by first | rfl | (simp; done) | (simp [*]; done) | (exact congrArg (Value.int .i64) (wrap_eq (by omega)))), H', ⟨by first | omega | exact Nat.le_refl _⟩, by repeat (first | exact Drawn0.refl _ | apply Drawn0.step)⟩
   ·rw [if_neg c5] at H
    exact absurd H (by simp)
  ·rw [if_neg c4] at H
   exact absurd H (by simp)
 case rest =>
  clear HC3
  try clear c1
  try clear p1
  try clear q1
  try clear hx1
  try clear qi1
  try clear p2
  try clear c4
  try clear c4b0
  try clear c4b1
  try clear c5
  try clear c5b0
  try clear c5b1
  try clear c6
  try clear c6b0
  try clear c6b1
  try clear c7
  try clear c7b0
  try clear c7b1
  try clear hx190_0
  try clear hx190_1
  try clear hx190_2
  try clear hx191_0
  try clear hx191_1
  try clear hx191_2
  try clear hx192_0
  try clear hx192_1
  try clear hx192_2
  try clear hx193_0
  try clear hx193_1
  try clear hx193_2
  try clear hx194_0
  try clear hx194_1
  try clear hx194_2
  try clear hx195_0
  try clear hx195_1
  try clear hx195_2
  try clear p190
  try clear p191
  try clear p192
  try clear p193
  try clear p194
  try clear p195
  try clear q190
  try clear q191
  try clear q192
  try clear q193
  try clear q194
  try clear q195
  obtain ⟨kq, x38_2, rfl, HA, HJ2, ⟨mc2, rfl⟩⟩ := hcut
  cases kq with
  | zero => exact absurd HA.out (by simp [spec_l01Same.j0])
  | succ kj2 =>
   have H := HA.out
   clear HA
   simp only [spec_l01Same.j0] at H
   by_cases c8 : x38_2 = true
   ·subst c8
    have H1 : (some false) = some r := by rw [if_pos rfl] at H; exact H
    clear H
    have H := H1
    clear H1
    obtain rfl := Option.some.inj H
    go_wp2
    repeat (go_quiet (fail); try go_wp2)
    go_ret
    exact ⟨by first | rfl | (simp; done) | (simp [*]; done) | (exact congrArg (Value.int .i64) (wrap_eq (by omega))), by repeat (first | exact Drawn0.refl _ | apply Drawn0.step)⟩
   ·replace c8 := Bool.eq_false_iff.mpr c8
    subst c8
    have H1 : (spec_l01Same.l0 kj2 l0 l1 0) = some r := by rw [if_neg (show ¬ (false = true) by decide)] at H; exact H
    clear H
    have H := H1
    clear H1
    have H' := Aside0.mk H
    clear H
    go_wp2
    repeat (go_quiet (fail); try go_wp2)
    go_loopg [5] kj2 (fun kq v5 w' => ∃ (x5_2 : Int), v5 = .int .i64 x5_2 ∧ Aside0 (spec_l01Same.l0 kq l0 l1 x5_2 = some r) ∧ Aside0 (kq ≤ kj2) ∧ Drawn0 w w')
    case atStart => exact ⟨(0), (by first | rfl | (simp; done) | (simp [*]; done) | (exact congrArg (Value.int .i64) (wrap_eq (by omega)))), H', ⟨Nat.le_refl _⟩, by repeat (first | exact Drawn0.refl _ | apply Drawn0.step)⟩
    case round =>
     clear H'
     try clear c1
     try clear p1
     try clear q1
     try clear hx1
     try clear qi1
     try clear c2
     try clear p2
     try clear c4
     try clear c4b0
     try clear c4b1
     try clear c5
     try clear c5b0
     try clear c5b1
     try clear c6
     try clear c6b0
     try clear c6b1
     try clear c7
     try clear c7b0
     try clear c7b1
     try clear c8
     try clear hx190_0
     try clear hx190_1
     try clear hx190_2
     try clear hx191_0
     try clear hx191_1
     try clear hx191_2
     try clear hx192_0
     try clear hx192_1
     try clear hx192_2
     try clear hx193_0
     try clear hx193_1
     try clear hx193_2
     try clear hx194_0
     try clear hx194_1
     try clear hx194_2
     try clear hx195_0
     try clear hx195_1
     try clear hx195_2
     try clear p1
     try clear p190
     try clear p191
     try clear p192
     try clear p193
     try clear p194
     try clear p195
     try clear p2
     try clear q1
     try clear q190
     try clear q191
     try clear q192
     try clear q193
     try clear q194
     try clear q195
     obtain ⟨x5_2, rfl, HA, HK2, ⟨m2, rfl⟩⟩ := hrel
     cases gk with
     | zero => exact absurd HA.out (by simp [spec_l01Same.l0])
     | succ k2 =>
      have H := HA.out
      clear HA
      simp only [spec_l01Same.l0] at H
      by_cases c9 : 0 < (l0.length : Int)
      ·rw [if_pos c9] at H
       have c9b0 : decide (0 < (l0.length : Int)) = true := decide_eq_true c9
       have c9b1 : decide (0 < l0.length) = true := decide_eq_true (by omega)
       clear c9
       by_cases c10 : x5_2 < (((rd_T37 l0 0).f2).length : Int)
       ·rw [if_pos c10] at H
        have c10b0 : decide (x5_2 < (((rd_T37 l0 0).f2).length : Int)) = true := decide_eq_true c10
        clear c10
        by_cases c11 : 0 ≤ x5_2
        ·rw [if_pos c11] at H
         have c11b0 : decide (0 ≤ x5_2) = true := decide_eq_true c11
         clear c11
         by_cases c12 : 0 < (l1.length : Int)
         ·rw [if_pos c12] at H
          have c12b0 : decide (0 < (l1.length : Int)) = true := decide_eq_true c12
          have c12b1 : decide (0 < l1.length) = true := decide_eq_true (by omega)
          clear c12
          by_cases c13 : x5_2 < (((rd_T37 l1 0).f2).length : Int)
          ·rw [if_pos c13] at H
           have c13b0 : decide (x5_2 < (((rd_T37 l1 0).f2).length : Int)) = true := decide_eq_true c13
           clear c13
           by_cases c14 : ((!(((rd_T91 ((rd_T37 l0 0).f2) x5_2).f0.f0) == ((rd_T91 ((rd_T37 l1 0).f2) x5_2).f0.f0)) || (!(((rd_T91 ((rd_T37 l0 0).f2) x5_2).f0.f1) == ((rd_T91 ((rd_T37 l1 0).f2) x5_2).f0.f1)))) || (!(((rd_T91 ((rd_T37 l0 0).f2) x5_2).f1) == ((rd_T91 ((rd_T37 l1 0).f2) x5_2).f1)) || (!(((rd_T91 ((rd_T37 l0 0).f2) x5_2).f2) == ((rd_T91 ((rd_T37 l1 0).f2) x5_2).f2)) || (!(((rd_T91 ((rd_T37 l0 0).f2) x5_2).f3) == ((rd_T91 ((rd_T37 l1 0).f2) x5_2).f3)))))) = true
           ·rw [if_pos c14] at H
            have c14b0 : ((!(((rd_T91 ((rd_T37 l0 0).f2) x5_2).f0.f0) == ((rd_T91 ((rd_T37 l1 0).f2) x5_2).f0.f0)) || (!(((rd_T91 ((rd_T37 l0 0).f2) x5_2).f0.f1) == ((rd_T91 ((rd_T37 l1 0).f2) x5_2).f0.f1)))) || (!(((rd_T91 ((rd_T37 l0 0).f2) x5_2).f1) == ((rd_T91 ((rd_T37 l1 0).f2) x5_2).f1)) || (!(((rd_T91 ((rd_T37 l0 0).f2) x5_2).f2) == ((rd_T91 ((rd_T37 l1 0).f2) x5_2).f2)) || (!(((rd_T91 ((rd_T37 l0 0).f2) x5_2).f3) == ((rd_T91 ((rd_T37 l1 0).f2) x5_2).f3)))))) = true := c14
            clear c14
            obtain rfl := Option.some.inj H
            have p196 : 0 ≤ (0 : Int) := (by omega)
            have q196 : 0 < (l0.length : Int) := of_decide_eq_true (by first | (with_reducible assumption) | assumption)
            obtain ⟨ad196, A196_2, c196_2, e196, hx196_0, hx196_1, hx196_2, hl196_2, hi196_2⟩ := at_T37 HR0.out 0 p196 q196
            obtain rfl : adp0 = ad196 := (by injection e196)
            have qi196 : (0 < l0.length) = True := eq_true (by omega)
            (try rw [show ((0 : Int)).toNat = 0 from rfl] at hx196_0)
            (try rw [show 0 * 3 = 0 from rfl] at hx196_0)
            (try rw [Addr.add_zero'] at hx196_0)
            (try rw [show ((0 : Int)).toNat = 0 from rfl] at hx196_1)
            (try rw [show 0 * 3 = 0 from rfl] at hx196_1)
            (try rw [Addr.add_zero'] at hx196_1)
            (try rw [show ((0 : Int)).toNat = 0 from rfl] at hx196_2)
            (try rw [show 0 * 3 = 0 from rfl] at hx196_2)
            (try rw [Addr.add_zero'] at hx196_2)
            have HR196_2 := Aside0.mk hi196_2
            have HC196_2 := Aside0.mk hl196_2
            clear hi196_2 hl196_2
            replace p196 := eq_true p196
            replace q196 := eq_true q196
            have p197 : 0 ≤ (0 : Int) := (by omega)
            have q197 : 0 < (l0.length : Int) := of_decide_eq_true (by first | (with_reducible assumption) | assumption)
            obtain ⟨ad197, A197_2, c197_2, e197, hx197_0, hx197_1, hx197_2, hl197_2, hi197_2⟩ := at_T37 HR0.out 0 p197 q197
            obtain rfl : adp0 = ad197 := (by injection e197)
            have qi197 : (0 < l0.length) = True := eq_true (by omega)
            (try rw [show ((0 : Int)).toNat = 0 from rfl] at hx197_0)
            (try rw [show 0 * 3 = 0 from rfl] at hx197_0)
            (try rw [Addr.add_zero'] at hx197_0)
            (try rw [show ((0 : Int)).toNat = 0 from rfl] at hx197_1)
            (try rw [show 0 * 3 = 0 from rfl] at hx197_1)
            (try rw [Addr.add_zero'] at hx197_1)
            (try rw [show ((0 : Int)).toNat = 0 from rfl] at hx197_2)
            (try rw [show 0 * 3 = 0 from rfl] at hx197_2)
            (try rw [Addr.add_zero'] at hx197_2)
            have HR197_2 := Aside0.mk hi197_2
            have HC197_2 := Aside0.mk hl197_2
            clear hi197_2 hl197_2
            replace p197 := eq_true p197
            replace q197 := eq_true q197
            have ea_ := Option.some.inj (hx196_2.symm.trans hx197_2)
            injection ea_ with ea_ en_ ec_
            subst ea_
            subst ec_
            clear en_
            have p198 : 0 ≤ (x5_2 : Int) := of_decide_eq_true (by first | (with_reducible assumption) | assumption)
            have q198 : x5_2 < (((rd_T37 l0 0).f2).length : Int) := of_decide_eq_true (by first | (with_reducible assumption) | assumption)
            obtain ⟨ad198, e198, hx198_0, hx198_1, hx198_2, hx198_3, hx198_4⟩ := at_T91 HR197_2.out x5_2 p198 q198
            cases e198
            replace p198 := eq_true p198
            replace q198 := eq_true q198
            have p199 : 0 ≤ (0 : Int) := (by omega)
            have q199 : 0 < (l1.length : Int) := of_decide_eq_true (by first | (with_reducible assumption) | assumption)
            obtain ⟨ad199, A199_2, c199_2, e199, hx199_0, hx199_1, hx199_2, hl199_2, hi199_2⟩ := at_T37 HR1.out 0 p199 q199
            obtain rfl : adp1 = ad199 := (by injection e199)
            have qi199 : (0 < l1.length) = True := eq_true (by omega)
            (try rw [show ((0 : Int)).toNat = 0 from rfl] at hx199_0)
            (try rw [show 0 * 3 = 0 from rfl] at hx199_0)
            (try rw [Addr.add_zero'] at hx199_0)
            (try rw [show ((0 : Int)).toNat = 0 from rfl] at hx199_1)
            (try rw [show 0 * 3 = 0 from rfl] at hx199_1)
            (try rw [Addr.add_zero'] at hx199_1)
            (try rw [show ((0 : Int)).toNat = 0 from rfl] at hx199_2)
            (try rw [show 0 * 3 = 0 from rfl] at hx199_2)
            (try rw [Addr.add_zero'] at hx199_2)
            have HR199_2 := Aside0.mk hi199_2
            have HC199_2 := Aside0.mk hl199_2
            clear hi199_2 hl199_2
            replace p199 := eq_true p199
            replace q199 := eq_true q199
            have p200 : 0 ≤ (x5_2 : Int) := of_decide_eq_true (by first | (with_reducible assumption) | assumption)
            have q200 : x5_2 < (((rd_T37 l1 0).f2).length : Int) := of_decide_eq_true (by first | (with_reducible assumption) | assumption)
            obtain ⟨ad200, e200, hx200_0, hx200_1, hx200_2, hx200_3, hx200_4⟩ := at_T91 HR199_2.out x5_2 p200 q200
            cases e200
            replace p200 := eq_true p200
            replace q200 := eq_true q200
            go_wp2
            repeat (go_quiet (fail); try go_wp2)
            go_ret
            exact ⟨by first | rfl | (simp; done) | (simp [*]; done) | (exact congrArg (Value.int .i64) (wrap_eq (by omega))), by repeat (first | exact Drawn0.refl _ | apply Drawn0.step)⟩
           ·rw [if_neg c14] at H
            have c14b0 : ((!(((rd_T91 ((rd_T37 l0 0).f2) x5_2).f0.f0) == ((rd_T91 ((rd_T37 l1 0).f2) x5_2).f0.f0)) || (!(((rd_T91 ((rd_T37 l0 0).f2) x5_2).f0.f1) == ((rd_T91 ((rd_T37 l1 0).f2) x5_2).f0.f1)))) || (!(((rd_T91 ((rd_T37 l0 0).f2) x5_2).f1) == ((rd_T91 ((rd_T37 l1 0).f2) x5_2).f1)) || (!(((rd_T91 ((rd_T37 l0 0).f2) x5_2).f2) == ((rd_T91 ((rd_T37 l1 0).f2) x5_2).f2)) || (!(((rd_T91 ((rd_T37 l0 0).f2) x5_2).f3) == ((rd_T91 ((rd_T37 l1 0).f2) x5_2).f3)))))) = false := by simpa using c14
            clear c14
            have H' := Aside0.mk H
            clear H
            have p196 : 0 ≤ (0 : Int) := (by omega)
            have q196 : 0 < (l0.length : Int) := of_decide_eq_true (by first | (with_reducible assumption) | assumption)
            obtain ⟨ad196, A196_2, c196_2, e196, hx196_0, hx196_1, hx196_2, hl196_2, hi196_2⟩ := at_T37 HR0.out 0 p196 q196
            obtain rfl : adp0 = ad196 := (by injection e196)
            have qi196 : (0 < l0.length) = True := eq_true (by omega)
            (try rw [show ((0 : Int)).toNat = 0 from rfl] at hx196_0)
            (try rw [show 0 * 3 = 0 from rfl] at hx196_0)
            (try rw [Addr.add_zero'] at hx196_0)
            (try rw [show ((0 : Int)).toNat = 0 from rfl] at hx196_1)
            (try rw [show 0 * 3 = 0 from rfl] at hx196_1)
            (try rw [Addr.add_zero'] at hx196_1)
            (try rw [show ((0 : Int)).toNat = 0 from rfl] at hx196_2)
            (try rw [show 0 * 3 = 0 from rfl] at hx196_2)
            (try rw [Addr.add_zero'] at hx196_2)
            have HR196_2 := Aside0.mk hi196_2
            have HC196_2 := Aside0.mk hl196_2
            clear hi196_2 hl196_2
            replace p196 := eq_true p196
            replace q196 := eq_true q196
            have p197 : 0 ≤ (0 : Int) := (by omega)
            have q197 : 0 < (l0.length : Int) := of_decide_eq_true (by first | (with_reducible assumption) | assumption)
            obtain ⟨ad197, A197_2, c197_2, e197, hx197_0, hx197_1, hx197_2, hl197_2, hi197_2⟩ := at_T37 HR0.out 0 p197 q197
            obtain rfl : adp0 = ad197 := (by injection e197)
            have qi197 : (0 < l0.length) = True := eq_true (by omega)
            (try rw [show ((0 : Int)).toNat = 0 from rfl] at hx197_0)
            (try rw [show 0 * 3 = 0 from rfl] at hx197_0)
            (try rw [Addr.add_zero'] at hx197_0)
            (try rw [show ((0 : Int)).toNat = 0 from rfl] at hx197_1)
            (try rw [show 0 * 3 = 0 from rfl] at hx197_1)
            (try rw [Addr.add_zero'] at hx197_1)
            (try rw [show ((0 : Int)).toNat = 0 from rfl] at hx197_2)
            (try rw [show 0 * 3 = 0 from rfl] at hx197_2)
            (try rw [Addr.add_zero'] at hx197_2)
            have HR197_2 := Aside0.mk hi197_2
            have HC197_2 := Aside0.mk hl197_2
            clear hi197_2 hl197_2
            replace p197 := eq_true p197
            replace q197 := eq_true q197
            have ea_ := Option.some.inj (hx196_2.symm.trans hx197_2)
            injection ea_ with ea_ en_ ec_
            subst ea_
            subst ec_
            clear en_
            have p198 : 0 ≤ (x5_2 : Int) := of_decide_eq_true (by first | (with_reducible assumption) | assumption)
            have q198 : x5_2 < (((rd_T37 l0 0).f2).length : Int) := of_decide_eq_true (by first | (with_reducible assumption) | assumption)
            obtain ⟨ad198, e198, hx198_0, hx198_1, hx198_2, hx198_3, hx198_4⟩ := at_T91 HR197_2.out x5_2 p198 q198
            cases e198
            replace p198 := eq_true p198
            replace q198 := eq_true q198
            have p199 : 0 ≤ (0 : Int) := (by omega)
            have q199 : 0 < (l1.length : Int) := of_decide_eq_true (by first | (with_reducible assumption) | assumption)
            obtain ⟨ad199, A199_2, c199_2, e199, hx199_0, hx199_1, hx199_2, hl199_2, hi199_2⟩ := at_T37 HR1.out 0 p199 q199
            obtain rfl : adp1 = ad199 := (by injection e199)
            have qi199 : (0 < l1.length) = True := eq_true (by omega)
            (try rw [show ((0 : Int)).toNat = 0 from rfl] at hx199_0)
            (try rw [show 0 * 3 = 0 from rfl] at hx199_0)
            (try rw [Addr.add_zero'] at hx199_0)
            (try rw [show ((0 : Int)).toNat = 0 from rfl] at hx199_1)
            (try rw [show 0 * 3 = 0 from rfl] at hx199_1)
            (try rw [Addr.add_zero'] at hx199_1)
            (try rw [show ((0 : Int)).toNat = 0 from rfl] at hx199_2)
            (try rw [show 0 * 3 = 0 from rfl] at hx199_2)
            (try rw [Addr.add_zero'] at hx199_2)
            have HR199_2 := Aside0.mk hi199_2
            have HC199_2 := Aside0.mk hl199_2
            clear hi199_2 hl199_2
            replace p199 := eq_true p199
            replace q199 := eq_true q199
            have p200 : 0 ≤ (x5_2 : Int) := of_decide_eq_true (by first | (with_reducible assumption) | assumption)
            have q200 : x5_2 < (((rd_T37 l1 0).f2).length : Int) := of_decide_eq_true (by first | (with_reducible assumption) | assumption)
            obtain ⟨ad200, e200, hx200_0, hx200_1, hx200_2, hx200_3, hx200_4⟩ := at_T91 HR199_2.out x5_2 p200 q200
            cases e200
            replace p200 := eq_true p200
            replace q200 := eq_true q200
            go_wp2
            repeat (go_quiet (fail); try go_wp2)
            go_roundg k2
            case measure => have := HJ2.out; have := HK2.out; omega
            case rel => exact ⟨(wrap64 (x5_2 + 1)), (by first | rfl | (simp; done) | (simp [*]; done) | (exact congrArg (Value.int .i64) (wrap_eq (by omega)))), H', ⟨by have := HJ2.out; have := HK2.out; omega⟩, by repeat (first | exact Drawn0.refl _ | apply Drawn0.step)⟩
          ·rw [if_neg c13] at H
           exact absurd H (by simp)
         ·rw [if_neg c12] at H
          exact absurd H (by simp)
        ·rw [if_neg c11] at H
         exact absurd H (by simp)
       ·rw [if_neg c10] at H
        have c10b0 : decide (x5_2 < (((rd_T37 l0 0).f2).length : Int)) = false := decide_eq_false c10
        clear c10
        obtain rfl := Option.some.inj H
        have p196 : 0 ≤ (0 : Int) := (by omega)
        have q196 : 0 < (l0.length : Int) := of_decide_eq_true (by first | (with_reducible assumption) | assumption)
        obtain ⟨ad196, A196_2, c196_2, e196, hx196_0, hx196_1, hx196_2, hl196_2, hi196_2⟩ := at_T37 HR0.out 0 p196 q196
        obtain rfl : adp0 = ad196 := (by injection e196)
        have qi196 : (0 < l0.length) = True := eq_true (by omega)
        (try rw [show ((0 : Int)).toNat = 0 from rfl] at hx196_0)
        (try rw [show 0 * 3 = 0 from rfl] at hx196_0)
        (try rw [Addr.add_zero'] at hx196_0)
        (try rw [show ((0 : Int)).toNat = 0 from rfl] at hx196_1)
        (try rw [show 0 * 3 = 0 from rfl] at hx196_1)
        (try rw [Addr.add_zero'] at hx196_1)
        (try rw [show ((0 : Int)).toNat = 0 from rfl] at hx196_2)
        (try rw [show 0 * 3 = 0 from rfl] at hx196_2)
        (try rw [Addr.add_zero'] at hx196_2)
        have HR196_2 := Aside0.mk hi196_2
        have HC196_2 := Aside0.mk hl196_2
        clear hi196_2 hl196_2
        replace p196 := eq_true p196
        replace q196 := eq_true q196
        go_wp2
        repeat (go_quiet (fail); try go_wp2)
        go_ret
        exact ⟨by first | rfl | (simp; done) | (simp [*]; done) | (exact congrArg (Value.int .i64) (wrap_eq (by omega))), by repeat (first | exact Drawn0.refl _ | apply Drawn0.step)⟩
      ·rw [if_neg c9] at H
       exact absurd H (by simp)

end Go.Proofs.Ytffnfpnajkgnaaa.PFnExactSameMachine
