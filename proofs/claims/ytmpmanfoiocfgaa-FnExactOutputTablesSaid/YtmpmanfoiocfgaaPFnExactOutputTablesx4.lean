-- WRITTEN by xprint.py, a program of this session's. Not trusted: Lean checks it.
import Derived.Test.YtmpmanfoiocfgaaPFnExactOutputTablesx0
import Derived.Test.YtmpmanfoiocfgaaPFnExactOutputTablesx3
namespace Go.Proofs.Ytmpmanfoiocfgaa.PFnExactOutputTables
open Go.RowKit Go.Proofs.YtmpmanfoiocfgaaW.PrintWords Go.Proofs.YtmpmanfoiocfgaaW.PrintLast Go.Proofs.YtmpmanfoiocfgaaW.PrintMore Go.Proofs.YtmpmanfoiocfgaaX
attribute [local go_sem] max2_int min2_int max_two min_two max_three min_three max_four min_four   -- for this text's walks alone
set_option linter.unusedVariables false
set_option linter.unusedSimpArgs false

/-! ### spec_l04Ok: function 81 -/
mutual
def spec_l04Ok.j0 : Nat → List (S31) → Bool → Option (Bool)
  | 0, _, _ => none
  | k + 1, x0, x29 => if x29 = true then (some false) else (spec_l04Ok.l0 k x0 0)
def spec_l04Ok.l0 : Nat → List (S31) → Int → Option (Bool)
  | 0, _, _ => none
  | k + 1, x0, x3 => if 0 < (x0.length : Int) then (if x3 < (((rd_T31 x0 0).f1).length : Int) then ((spec_l04Node.f x0 x3).bind fun t164 => (if t164 = true then (spec_l04Ok.l0 k x0 (wrap64 (x3 + 1))) else (some false))) else (spec_l04Ok.l1 k x0 0)) else (none)
def spec_l04Ok.l1 : Nat → List (S31) → Int → Option (Bool)
  | 0, _, _ => none
  | k + 1, x0, x4 => if 0 < (x0.length : Int) then (if x4 < (((rd_T31 x0 0).f2).length : Int) then (if 0 ≤ x4 then (if (rd ((rd_T31 x0 0).f2) x4) < 0 then (some false) else (if (wrap64 (rd ((rd_T31 x0 0).f2) x4)) ≥ (((rd_T31 x0 0).f1).length : Int) then (some false) else (spec_l04Ok.l1 k x0 (wrap64 (x4 + 1))))) else (none)) else (some true)) else (none)
end
def spec_l04Ok.f (k : Nat) (l0 : List (S31)) : Option (Bool) := if 0 < (l0.length : Int) then ((spec_l00In.f (wrap64 ((rd_T31 l0 0).f0)) 1 6).bind fun t158 => (if t158 = true then ((spec_l00In.f (((rd_T31 l0 0).f1).length : Int) 1 80).bind fun t160 => (if t160 = true then ((spec_l00In.f (((rd_T31 l0 0).f2).length : Int) 1 8).bind fun t162 => (spec_l04Ok.j0 k l0 (!t162))) else (spec_l04Ok.j0 k l0 true))) else (spec_l04Ok.j0 k l0 true))) else (none)
theorem spec_l04Ok.mono_l : ∀ k, (∀ y0 y1, LeO (spec_l04Ok.j0 k y0 y1) (spec_l04Ok.j0 (k + 1) y0 y1)) ∧ (∀ y0 y1, LeO (spec_l04Ok.l0 k y0 y1) (spec_l04Ok.l0 (k + 1) y0 y1)) ∧ (∀ y0 y1, LeO (spec_l04Ok.l1 k y0 y1) (spec_l04Ok.l1 (k + 1) y0 y1))
  | 0 => ⟨fun _ _ r h => by simp [spec_l04Ok.j0] at h, fun _ _ r h => by simp [spec_l04Ok.l0] at h, fun _ _ r h => by simp [spec_l04Ok.l1] at h⟩
  | k + 1 => by
    obtain ⟨ih0, ih1, ih2⟩ := spec_l04Ok.mono_l k
    refine ⟨?_, ?_, ?_⟩
    · intro y0 y1
      unfold spec_l04Ok.j0
      repeat' first
      | (with_reducible exact ih0 _ _)
      | (with_reducible exact ih1 _ _)
      | (with_reducible exact ih2 _ _)
      | (with_reducible exact LeO.refl _)
      | (with_reducible exact LeO.none _)
      | (with_reducible refine LeO.ite ?_ ?_)
      | (with_reducible refine LeO.bind ?_ (fun _ => ?_))
      | exact ih0 _ _
      | exact ih1 _ _
      | exact ih2 _ _
      | exact LeO.none _
      | refine LeO.ite ?_ ?_
      | refine LeO.bind ?_ (fun _ => ?_)
    · intro y0 y1
      unfold spec_l04Ok.l0
      repeat' first
      | (with_reducible exact ih0 _ _)
      | (with_reducible exact ih1 _ _)
      | (with_reducible exact ih2 _ _)
      | (with_reducible exact LeO.refl _)
      | (with_reducible exact LeO.none _)
      | (with_reducible refine LeO.ite ?_ ?_)
      | (with_reducible refine LeO.bind ?_ (fun _ => ?_))
      | exact ih0 _ _
      | exact ih1 _ _
      | exact ih2 _ _
      | exact LeO.none _
      | refine LeO.ite ?_ ?_
      | refine LeO.bind ?_ (fun _ => ?_)
    · intro y0 y1
      unfold spec_l04Ok.l1
      repeat' first
      | (with_reducible exact ih0 _ _)
      | (with_reducible exact ih1 _ _)
      | (with_reducible exact ih2 _ _)
      | (with_reducible exact LeO.refl _)
      | (with_reducible exact LeO.none _)
      | (with_reducible refine LeO.ite ?_ ?_)
      | (with_reducible refine LeO.bind ?_ (fun _ => ?_))
      | exact ih0 _ _
      | exact ih1 _ _
      | exact ih2 _ _
      | exact LeO.none _
      | refine LeO.ite ?_ ?_
      | refine LeO.bind ?_ (fun _ => ?_)
theorem spec_l04Ok.mono : ∀ a0 k, LeO (spec_l04Ok.f k a0) (spec_l04Ok.f (k + 1) a0) := by
  intro a0 k
  obtain ⟨ih0, ih1, ih2⟩ := spec_l04Ok.mono_l k
  unfold spec_l04Ok.f
  repeat' first
      | (with_reducible exact ih0 _ _)
      | (with_reducible exact ih1 _ _)
      | (with_reducible exact ih2 _ _)
      | (with_reducible exact LeO.refl _)
      | (with_reducible exact LeO.none _)
      | (with_reducible refine LeO.ite ?_ ?_)
      | (with_reducible refine LeO.bind ?_ (fun _ => ?_))
      | exact ih0 _ _
      | exact ih1 _ _
      | exact ih2 _ _
      | exact LeO.none _
      | refine LeO.ite ?_ ?_
      | refine LeO.bind ?_ (fun _ => ?_)
set_option maxHeartbeats 8000000 in
set_option maxRecDepth 100000 in
theorem spec_l04Ok.calls (k : Nat) (adp0 : Addr) (l0 : List (S31)) (r : Bool) (w : World) (hr0 : Kd.C k31 w (some adp0) l0.length l0) (h : spec_l04Ok.f k l0 = some r) :
    Calls Try.prog 81 #[.pointer (some adp0)] w fun e w' => e = .returned (.bool r) ∧ Below w.heap.size w w' := by
  have HR0 := Aside0.mk hr0
  clear hr0
  have HB := Aside0.mk (Below.refl w.heap.size w)
  have H : (if 0 < (l0.length : Int) then ((spec_l00In.f (wrap64 ((rd_T31 l0 0).f0)) 1 6).bind fun t158 => (if t158 = true then ((spec_l00In.f (((rd_T31 l0 0).f1).length : Int) 1 80).bind fun t160 => (if t160 = true then ((spec_l00In.f (((rd_T31 l0 0).f2).length : Int) 1 8).bind fun t162 => (spec_l04Ok.j0 k l0 (!t162))) else (spec_l04Ok.j0 k l0 true))) else (spec_l04Ok.j0 k l0 true))) else (none)) = some r := h
  clear h
  have HC2 := Aside0.mk H
  clear H
  go_enter Try.func81, Try.ntmps81
  go_upto_region 1 with (fail)
  repeat (go_quiet (fail); go_upto_region 1 with (fail))
  go_cut [29] (fun v29 wc => ∃ (kq : Nat) (x29_1 : Bool), v29 = .bool x29_1 ∧ Aside0 (spec_l04Ok.j0 kq l0 x29_1 = some r) ∧ Aside0 (kq ≤ k) ∧ Aside0 (Below w.heap.size w wc))
  case first =>
    have H := HC2.out
    clear HC2
    by_cases c3 : 0 < (l0.length : Int)
    · rw [if_pos c3] at H
      have c3b0 : decide (0 < (l0.length : Int)) = true := decide_eq_true c3
      have c3b1 : decide (0 < l0.length) = true := decide_eq_true (by omega)
      clear c3
      (first | rw [c3b0] | (simp only [i64_w, i32_w]; rw [c3b0]) | (have h_ := c3b0; simp only [bne] at h_; rw [h_]) | skip)
      replace H := Option.bind_eq_some_iff.mp H
      obtain ⟨t158, A40, H⟩ := H
      replace H : (if t158 = true then ((spec_l00In.f (((rd_T31 l0 0).f1).length : Int) 1 80).bind fun t160 => (if t160 = true then ((spec_l00In.f (((rd_T31 l0 0).f2).length : Int) 1 8).bind fun t162 => (spec_l04Ok.j0 k l0 (!t162))) else (spec_l04Ok.j0 k l0 true))) else (spec_l04Ok.j0 k l0 true)) = some r := H
      have A4 := Aside0.mk A40
      clear A40
      by_cases c5 : t158 = true
      · subst c5
        have H1 : ((spec_l00In.f (((rd_T31 l0 0).f1).length : Int) 1 80).bind fun t160 => (if t160 = true then ((spec_l00In.f (((rd_T31 l0 0).f2).length : Int) 1 8).bind fun t162 => (spec_l04Ok.j0 k l0 (!t162))) else (spec_l04Ok.j0 k l0 true))) = some r := by rw [if_pos rfl] at H; exact H
        clear H
        have H := H1
        clear H1
        replace H := Option.bind_eq_some_iff.mp H
        obtain ⟨t160, A60, H⟩ := H
        replace H : (if t160 = true then ((spec_l00In.f (((rd_T31 l0 0).f2).length : Int) 1 8).bind fun t162 => (spec_l04Ok.j0 k l0 (!t162))) else (spec_l04Ok.j0 k l0 true)) = some r := H
        have A6 := Aside0.mk A60
        clear A60
        by_cases c7 : t160 = true
        · subst c7
          have H1 : ((spec_l00In.f (((rd_T31 l0 0).f2).length : Int) 1 8).bind fun t162 => (spec_l04Ok.j0 k l0 (!t162))) = some r := by rw [if_pos rfl] at H; exact H
          clear H
          have H := H1
          clear H1
          replace H := Option.bind_eq_some_iff.mp H
          obtain ⟨t162, A80, H⟩ := H
          replace H : (spec_l04Ok.j0 k l0 (!t162)) = some r := H
          have A8 := Aside0.mk A80
          clear A80
          have H' := Aside0.mk H
          clear H
          have p157 : 0 ≤ (0 : Int) := (by omega)
          have q157 : 0 < (l0.length : Int) := of_decide_eq_true (by first | (with_reducible assumption) | assumption)
          obtain ⟨ad157, A157_1, c157_1, A157_2, c157_2, e157, hx157_0, hx157_1, hx157_2, hl157_1, hi157_1, hl157_2, hi157_2⟩ := at_T31 HR0.out 0 p157 q157
          obtain rfl : adp0 = ad157 := (by injection e157)
          have qi157 : (0 < l0.length) = True := eq_true (by omega)
          (try rw [show ((0 : Int)).toNat = 0 from rfl] at hx157_0)
          (try rw [show 0 * 3 = 0 from rfl] at hx157_0)
          (try rw [Addr.add_zero'] at hx157_0)
          (try rw [show ((0 : Int)).toNat = 0 from rfl] at hx157_1)
          (try rw [show 0 * 3 = 0 from rfl] at hx157_1)
          (try rw [Addr.add_zero'] at hx157_1)
          (try rw [show ((0 : Int)).toNat = 0 from rfl] at hx157_2)
          (try rw [show 0 * 3 = 0 from rfl] at hx157_2)
          (try rw [Addr.add_zero'] at hx157_2)
          replace hx157_0 := (HB.out.cell (World.block_lt_of_cell? w _ hx157_0)).trans hx157_0
          replace hx157_1 := (HB.out.cell (World.block_lt_of_cell? w _ hx157_1)).trans hx157_1
          replace hx157_2 := (HB.out.cell (World.block_lt_of_cell? w _ hx157_2)).trans hx157_2
          have HR157_1 := Aside0.mk hi157_1
          have HC157_1 := Aside0.mk hl157_1
          clear hi157_1 hl157_1
          have HR157_2 := Aside0.mk hi157_2
          have HC157_2 := Aside0.mk hl157_2
          clear hi157_2 hl157_2
          replace p157 := eq_true p157
          replace q157 := eq_true q157
          go_wp2_with (first | (go_at_call 87; (with_reducible refine (spec_l00In.calls (wrap64 ((rd_T31 l0 0).f0)) 1 6 true _ A4.out).mono ?_); rintro e w' ⟨rfl, ⟨nd, rfl⟩⟩; (try first | exact ⟨rfl, _, World.drewN_drewN _ _ _⟩ | exact ⟨rfl, _, Eq.trans (World.drewN_drewN _ _ _) (congrArg (World.drewN _) (Nat.add_assoc _ _ _))⟩); have p159 : 0 ≤ (0 : Int) := (by omega); have q159 : 0 < (l0.length : Int) := of_decide_eq_true (by first | (with_reducible assumption) | assumption); obtain ⟨ad159, A159_1, c159_1, A159_2, c159_2, e159, hx159_0, hx159_1, hx159_2, hl159_1, hi159_1, hl159_2, hi159_2⟩ := at_T31 HR0.out 0 p159 q159; obtain rfl : adp0 = ad159 := (by injection e159); have qi159 : (0 < l0.length) = True := eq_true (by omega); (try rw [show ((0 : Int)).toNat = 0 from rfl] at hx159_0); (try rw [show 0 * 3 = 0 from rfl] at hx159_0); (try rw [Addr.add_zero'] at hx159_0); (try rw [show ((0 : Int)).toNat = 0 from rfl] at hx159_1); (try rw [show 0 * 3 = 0 from rfl] at hx159_1); (try rw [Addr.add_zero'] at hx159_1); (try rw [show ((0 : Int)).toNat = 0 from rfl] at hx159_2); (try rw [show 0 * 3 = 0 from rfl] at hx159_2); (try rw [Addr.add_zero'] at hx159_2); replace hx159_0 := (HB.out.cell (World.block_lt_of_cell? w _ hx159_0)).trans hx159_0; replace hx159_1 := (HB.out.cell (World.block_lt_of_cell? w _ hx159_1)).trans hx159_1; replace hx159_2 := (HB.out.cell (World.block_lt_of_cell? w _ hx159_2)).trans hx159_2; have HR159_1 := Aside0.mk hi159_1; have HC159_1 := Aside0.mk hl159_1; clear hi159_1 hl159_1; have HR159_2 := Aside0.mk hi159_2; have HC159_2 := Aside0.mk hl159_2; clear hi159_2 hl159_2; replace p159 := eq_true p159; replace q159 := eq_true q159; have ea_ := Option.some.inj (hx157_1.symm.trans hx159_1); injection ea_ with ea_ en_ ec_; subst ea_; subst ec_; clear en_; have ea_ := Option.some.inj (hx157_2.symm.trans hx159_2); injection ea_ with ea_ en_ ec_; subst ea_; subst ec_; clear en_) | (go_at_call 87; (with_reducible refine (spec_l00In.calls (((rd_T31 l0 0).f1).length : Int) 1 80 true _ A6.out).mono ?_); rintro e w' ⟨rfl, ⟨nd, rfl⟩⟩; (try first | exact ⟨rfl, _, World.drewN_drewN _ _ _⟩ | exact ⟨rfl, _, Eq.trans (World.drewN_drewN _ _ _) (congrArg (World.drewN _) (Nat.add_assoc _ _ _))⟩); have p161 : 0 ≤ (0 : Int) := (by omega); have q161 : 0 < (l0.length : Int) := of_decide_eq_true (by first | (with_reducible assumption) | assumption); obtain ⟨ad161, A161_1, c161_1, A161_2, c161_2, e161, hx161_0, hx161_1, hx161_2, hl161_1, hi161_1, hl161_2, hi161_2⟩ := at_T31 HR0.out 0 p161 q161; obtain rfl : adp0 = ad161 := (by injection e161); have qi161 : (0 < l0.length) = True := eq_true (by omega); (try rw [show ((0 : Int)).toNat = 0 from rfl] at hx161_0); (try rw [show 0 * 3 = 0 from rfl] at hx161_0); (try rw [Addr.add_zero'] at hx161_0); (try rw [show ((0 : Int)).toNat = 0 from rfl] at hx161_1); (try rw [show 0 * 3 = 0 from rfl] at hx161_1); (try rw [Addr.add_zero'] at hx161_1); (try rw [show ((0 : Int)).toNat = 0 from rfl] at hx161_2); (try rw [show 0 * 3 = 0 from rfl] at hx161_2); (try rw [Addr.add_zero'] at hx161_2); replace hx161_0 := (HB.out.cell (World.block_lt_of_cell? w _ hx161_0)).trans hx161_0; replace hx161_1 := (HB.out.cell (World.block_lt_of_cell? w _ hx161_1)).trans hx161_1; replace hx161_2 := (HB.out.cell (World.block_lt_of_cell? w _ hx161_2)).trans hx161_2; have HR161_1 := Aside0.mk hi161_1; have HC161_1 := Aside0.mk hl161_1; clear hi161_1 hl161_1; have HR161_2 := Aside0.mk hi161_2; have HC161_2 := Aside0.mk hl161_2; clear hi161_2 hl161_2; replace p161 := eq_true p161; replace q161 := eq_true q161; have ea_ := Option.some.inj (hx157_1.symm.trans hx161_1); injection ea_ with ea_ en_ ec_; subst ea_; subst ec_; clear en_; have ea_ := Option.some.inj (hx157_2.symm.trans hx161_2); injection ea_ with ea_ en_ ec_; subst ea_; subst ec_; clear en_) | (go_at_call 87; (with_reducible refine (spec_l00In.calls (((rd_T31 l0 0).f2).length : Int) 1 8 t162 _ A8.out).mono ?_); rintro e w' ⟨rfl, ⟨nd, rfl⟩⟩; (try first | exact ⟨rfl, _, World.drewN_drewN _ _ _⟩ | exact ⟨rfl, _, Eq.trans (World.drewN_drewN _ _ _) (congrArg (World.drewN _) (Nat.add_assoc _ _ _))⟩)))
          repeat (go_quiet (first | (go_at_call 87; (with_reducible refine (spec_l00In.calls (wrap64 ((rd_T31 l0 0).f0)) 1 6 true _ A4.out).mono ?_); rintro e w' ⟨rfl, ⟨nd, rfl⟩⟩; (try first | exact ⟨rfl, _, World.drewN_drewN _ _ _⟩ | exact ⟨rfl, _, Eq.trans (World.drewN_drewN _ _ _) (congrArg (World.drewN _) (Nat.add_assoc _ _ _))⟩); have p159 : 0 ≤ (0 : Int) := (by omega); have q159 : 0 < (l0.length : Int) := of_decide_eq_true (by first | (with_reducible assumption) | assumption); obtain ⟨ad159, A159_1, c159_1, A159_2, c159_2, e159, hx159_0, hx159_1, hx159_2, hl159_1, hi159_1, hl159_2, hi159_2⟩ := at_T31 HR0.out 0 p159 q159; obtain rfl : adp0 = ad159 := (by injection e159); have qi159 : (0 < l0.length) = True := eq_true (by omega); (try rw [show ((0 : Int)).toNat = 0 from rfl] at hx159_0); (try rw [show 0 * 3 = 0 from rfl] at hx159_0); (try rw [Addr.add_zero'] at hx159_0); (try rw [show ((0 : Int)).toNat = 0 from rfl] at hx159_1); (try rw [show 0 * 3 = 0 from rfl] at hx159_1); (try rw [Addr.add_zero'] at hx159_1); (try rw [show ((0 : Int)).toNat = 0 from rfl] at hx159_2); (try rw [show 0 * 3 = 0 from rfl] at hx159_2); (try rw [Addr.add_zero'] at hx159_2); replace hx159_0 := (HB.out.cell (World.block_lt_of_cell? w _ hx159_0)).trans hx159_0; replace hx159_1 := (HB.out.cell (World.block_lt_of_cell? w _ hx159_1)).trans hx159_1; replace hx159_2 := (HB.out.cell (World.block_lt_of_cell? w _ hx159_2)).trans hx159_2; have HR159_1 := Aside0.mk hi159_1; have HC159_1 := Aside0.mk hl159_1; clear hi159_1 hl159_1; have HR159_2 := Aside0.mk hi159_2; have HC159_2 := Aside0.mk hl159_2; clear hi159_2 hl159_2; replace p159 := eq_true p159; replace q159 := eq_true q159; have ea_ := Option.some.inj (hx157_1.symm.trans hx159_1); injection ea_ with ea_ en_ ec_; subst ea_; subst ec_; clear en_; have ea_ := Option.some.inj (hx157_2.symm.trans hx159_2); injection ea_ with ea_ en_ ec_; subst ea_; subst ec_; clear en_) | (go_at_call 87; (with_reducible refine (spec_l00In.calls (((rd_T31 l0 0).f1).length : Int) 1 80 true _ A6.out).mono ?_); rintro e w' ⟨rfl, ⟨nd, rfl⟩⟩; (try first | exact ⟨rfl, _, World.drewN_drewN _ _ _⟩ | exact ⟨rfl, _, Eq.trans (World.drewN_drewN _ _ _) (congrArg (World.drewN _) (Nat.add_assoc _ _ _))⟩); have p161 : 0 ≤ (0 : Int) := (by omega); have q161 : 0 < (l0.length : Int) := of_decide_eq_true (by first | (with_reducible assumption) | assumption); obtain ⟨ad161, A161_1, c161_1, A161_2, c161_2, e161, hx161_0, hx161_1, hx161_2, hl161_1, hi161_1, hl161_2, hi161_2⟩ := at_T31 HR0.out 0 p161 q161; obtain rfl : adp0 = ad161 := (by injection e161); have qi161 : (0 < l0.length) = True := eq_true (by omega); (try rw [show ((0 : Int)).toNat = 0 from rfl] at hx161_0); (try rw [show 0 * 3 = 0 from rfl] at hx161_0); (try rw [Addr.add_zero'] at hx161_0); (try rw [show ((0 : Int)).toNat = 0 from rfl] at hx161_1); (try rw [show 0 * 3 = 0 from rfl] at hx161_1); (try rw [Addr.add_zero'] at hx161_1); (try rw [show ((0 : Int)).toNat = 0 from rfl] at hx161_2); (try rw [show 0 * 3 = 0 from rfl] at hx161_2); (try rw [Addr.add_zero'] at hx161_2); replace hx161_0 := (HB.out.cell (World.block_lt_of_cell? w _ hx161_0)).trans hx161_0; replace hx161_1 := (HB.out.cell (World.block_lt_of_cell? w _ hx161_1)).trans hx161_1; replace hx161_2 := (HB.out.cell (World.block_lt_of_cell? w _ hx161_2)).trans hx161_2; have HR161_1 := Aside0.mk hi161_1; have HC161_1 := Aside0.mk hl161_1; clear hi161_1 hl161_1; have HR161_2 := Aside0.mk hi161_2; have HC161_2 := Aside0.mk hl161_2; clear hi161_2 hl161_2; replace p161 := eq_true p161; replace q161 := eq_true q161; have ea_ := Option.some.inj (hx157_1.symm.trans hx161_1); injection ea_ with ea_ en_ ec_; subst ea_; subst ec_; clear en_; have ea_ := Option.some.inj (hx157_2.symm.trans hx161_2); injection ea_ with ea_ en_ ec_; subst ea_; subst ec_; clear en_) | (go_at_call 87; (with_reducible refine (spec_l00In.calls (((rd_T31 l0 0).f2).length : Int) 1 8 t162 _ A8.out).mono ?_); rintro e w' ⟨rfl, ⟨nd, rfl⟩⟩; (try first | exact ⟨rfl, _, World.drewN_drewN _ _ _⟩ | exact ⟨rfl, _, Eq.trans (World.drewN_drewN _ _ _) (congrArg (World.drewN _) (Nat.add_assoc _ _ _))⟩))); try go_wp2_with (first | (go_at_call 87; (with_reducible refine (spec_l00In.calls (wrap64 ((rd_T31 l0 0).f0)) 1 6 true _ A4.out).mono ?_); rintro e w' ⟨rfl, ⟨nd, rfl⟩⟩; (try first | exact ⟨rfl, _, World.drewN_drewN _ _ _⟩ | exact ⟨rfl, _, Eq.trans (World.drewN_drewN _ _ _) (congrArg (World.drewN _) (Nat.add_assoc _ _ _))⟩); have p159 : 0 ≤ (0 : Int) := (by omega); have q159 : 0 < (l0.length : Int) := of_decide_eq_true (by first | (with_reducible assumption) | assumption); obtain ⟨ad159, A159_1, c159_1, A159_2, c159_2, e159, hx159_0, hx159_1, hx159_2, hl159_1, hi159_1, hl159_2, hi159_2⟩ := at_T31 HR0.out 0 p159 q159; obtain rfl : adp0 = ad159 := (by injection e159); have qi159 : (0 < l0.length) = True := eq_true (by omega); (try rw [show ((0 : Int)).toNat = 0 from rfl] at hx159_0); (try rw [show 0 * 3 = 0 from rfl] at hx159_0); (try rw [Addr.add_zero'] at hx159_0); (try rw [show ((0 : Int)).toNat = 0 from rfl] at hx159_1); (try rw [show 0 * 3 = 0 from rfl] at hx159_1); (try rw [Addr.add_zero'] at hx159_1); (try rw [show ((0 : Int)).toNat = 0 from rfl] at hx159_2); (try rw [show 0 * 3 = 0 from rfl] at hx159_2); (try rw [Addr.add_zero'] at hx159_2); replace hx159_0 := (HB.out.cell (World.block_lt_of_cell? w _ hx159_0)).trans hx159_0; replace hx159_1 := (HB.out.cell (World.block_lt_of_cell? w _ hx159_1)).trans hx159_1; replace hx159_2 := (HB.out.cell (World.block_lt_of_cell? w _ hx159_2)).trans hx159_2; have HR159_1 := Aside0.mk hi159_1; have HC159_1 := Aside0.mk hl159_1; clear hi159_1 hl159_1; have HR159_2 := Aside0.mk hi159_2; have HC159_2 := Aside0.mk hl159_2; clear hi159_2 hl159_2; replace p159 := eq_true p159; replace q159 := eq_true q159; have ea_ := Option.some.inj (hx157_1.symm.trans hx159_1); injection ea_ with ea_ en_ ec_; subst ea_; subst ec_; clear en_; have ea_ := Option.some.inj (hx157_2.symm.trans hx159_2); injection ea_ with ea_ en_ ec_; subst ea_; subst ec_; clear en_) | (go_at_call 87; (with_reducible refine (spec_l00In.calls (((rd_T31 l0 0).f1).length : Int) 1 80 true _ A6.out).mono ?_); rintro e w' ⟨rfl, ⟨nd, rfl⟩⟩; (try first | exact ⟨rfl, _, World.drewN_drewN _ _ _⟩ | exact ⟨rfl, _, Eq.trans (World.drewN_drewN _ _ _) (congrArg (World.drewN _) (Nat.add_assoc _ _ _))⟩); have p161 : 0 ≤ (0 : Int) := (by omega); have q161 : 0 < (l0.length : Int) := of_decide_eq_true (by first | (with_reducible assumption) | assumption); obtain ⟨ad161, A161_1, c161_1, A161_2, c161_2, e161, hx161_0, hx161_1, hx161_2, hl161_1, hi161_1, hl161_2, hi161_2⟩ := at_T31 HR0.out 0 p161 q161; obtain rfl : adp0 = ad161 := (by injection e161); have qi161 : (0 < l0.length) = True := eq_true (by omega); (try rw [show ((0 : Int)).toNat = 0 from rfl] at hx161_0); (try rw [show 0 * 3 = 0 from rfl] at hx161_0); (try rw [Addr.add_zero'] at hx161_0); (try rw [show ((0 : Int)).toNat = 0 from rfl] at hx161_1); (try rw [show 0 * 3 = 0 from rfl] at hx161_1); (try rw [Addr.add_zero'] at hx161_1); (try rw [show ((0 : Int)).toNat = 0 from rfl] at hx161_2); (try rw [show 0 * 3 = 0 from rfl] at hx161_2); (try rw [Addr.add_zero'] at hx161_2); replace hx161_0 := (HB.out.cell (World.block_lt_of_cell? w _ hx161_0)).trans hx161_0; replace hx161_1 := (HB.out.cell (World.block_lt_of_cell? w _ hx161_1)).trans hx161_1; replace hx161_2 := (HB.out.cell (World.block_lt_of_cell? w _ hx161_2)).trans hx161_2; have HR161_1 := Aside0.mk hi161_1; have HC161_1 := Aside0.mk hl161_1; clear hi161_1 hl161_1; have HR161_2 := Aside0.mk hi161_2; have HC161_2 := Aside0.mk hl161_2; clear hi161_2 hl161_2; replace p161 := eq_true p161; replace q161 := eq_true q161; have ea_ := Option.some.inj (hx157_1.symm.trans hx161_1); injection ea_ with ea_ en_ ec_; subst ea_; subst ec_; clear en_; have ea_ := Option.some.inj (hx157_2.symm.trans hx161_2); injection ea_ with ea_ en_ ec_; subst ea_; subst ec_; clear en_) | (go_at_call 87; (with_reducible refine (spec_l00In.calls (((rd_T31 l0 0).f2).length : Int) 1 8 t162 _ A8.out).mono ?_); rintro e w' ⟨rfl, ⟨nd, rfl⟩⟩; (try first | exact ⟨rfl, _, World.drewN_drewN _ _ _⟩ | exact ⟨rfl, _, Eq.trans (World.drewN_drewN _ _ _) (congrArg (World.drewN _) (Nat.add_assoc _ _ _))⟩))))
          go_meet
          case rel => exact ⟨_, (!t162), (by first | rfl | (simp; done) | (simp [*]; done) | (exact congrArg (Value.int .i64) (wrap_eq (by omega)))), H', ⟨by first | omega | exact Nat.le_refl _⟩, ⟨by repeat (first | (with_reducible first | exact HB.out | apply below_alloc | apply pw_below_drewN | apply below_drew1) | exact HB.out)⟩⟩
        · replace c7 := Bool.eq_false_iff.mpr c7
          subst c7
          have H1 : (spec_l04Ok.j0 k l0 true) = some r := by rw [if_neg (show ¬ (false = true) by decide)] at H; exact H
          clear H
          have H := H1
          clear H1
          have H' := Aside0.mk H
          clear H
          have p157 : 0 ≤ (0 : Int) := (by omega)
          have q157 : 0 < (l0.length : Int) := of_decide_eq_true (by first | (with_reducible assumption) | assumption)
          obtain ⟨ad157, A157_1, c157_1, A157_2, c157_2, e157, hx157_0, hx157_1, hx157_2, hl157_1, hi157_1, hl157_2, hi157_2⟩ := at_T31 HR0.out 0 p157 q157
          obtain rfl : adp0 = ad157 := (by injection e157)
          have qi157 : (0 < l0.length) = True := eq_true (by omega)
          (try rw [show ((0 : Int)).toNat = 0 from rfl] at hx157_0)
          (try rw [show 0 * 3 = 0 from rfl] at hx157_0)
          (try rw [Addr.add_zero'] at hx157_0)
          (try rw [show ((0 : Int)).toNat = 0 from rfl] at hx157_1)
          (try rw [show 0 * 3 = 0 from rfl] at hx157_1)
          (try rw [Addr.add_zero'] at hx157_1)
          (try rw [show ((0 : Int)).toNat = 0 from rfl] at hx157_2)
          (try rw [show 0 * 3 = 0 from rfl] at hx157_2)
          (try rw [Addr.add_zero'] at hx157_2)
          replace hx157_0 := (HB.out.cell (World.block_lt_of_cell? w _ hx157_0)).trans hx157_0
          replace hx157_1 := (HB.out.cell (World.block_lt_of_cell? w _ hx157_1)).trans hx157_1
          replace hx157_2 := (HB.out.cell (World.block_lt_of_cell? w _ hx157_2)).trans hx157_2
          have HR157_1 := Aside0.mk hi157_1
          have HC157_1 := Aside0.mk hl157_1
          clear hi157_1 hl157_1
          have HR157_2 := Aside0.mk hi157_2
          have HC157_2 := Aside0.mk hl157_2
          clear hi157_2 hl157_2
          replace p157 := eq_true p157
          replace q157 := eq_true q157
          go_wp2_with (first | (go_at_call 87; (with_reducible refine (spec_l00In.calls (wrap64 ((rd_T31 l0 0).f0)) 1 6 true _ A4.out).mono ?_); rintro e w' ⟨rfl, ⟨nd, rfl⟩⟩; (try first | exact ⟨rfl, _, World.drewN_drewN _ _ _⟩ | exact ⟨rfl, _, Eq.trans (World.drewN_drewN _ _ _) (congrArg (World.drewN _) (Nat.add_assoc _ _ _))⟩); have p159 : 0 ≤ (0 : Int) := (by omega); have q159 : 0 < (l0.length : Int) := of_decide_eq_true (by first | (with_reducible assumption) | assumption); obtain ⟨ad159, A159_1, c159_1, A159_2, c159_2, e159, hx159_0, hx159_1, hx159_2, hl159_1, hi159_1, hl159_2, hi159_2⟩ := at_T31 HR0.out 0 p159 q159; obtain rfl : adp0 = ad159 := (by injection e159); have qi159 : (0 < l0.length) = True := eq_true (by omega); (try rw [show ((0 : Int)).toNat = 0 from rfl] at hx159_0); (try rw [show 0 * 3 = 0 from rfl] at hx159_0); (try rw [Addr.add_zero'] at hx159_0); (try rw [show ((0 : Int)).toNat = 0 from rfl] at hx159_1); (try rw [show 0 * 3 = 0 from rfl] at hx159_1); (try rw [Addr.add_zero'] at hx159_1); (try rw [show ((0 : Int)).toNat = 0 from rfl] at hx159_2); (try rw [show 0 * 3 = 0 from rfl] at hx159_2); (try rw [Addr.add_zero'] at hx159_2); replace hx159_0 := (HB.out.cell (World.block_lt_of_cell? w _ hx159_0)).trans hx159_0; replace hx159_1 := (HB.out.cell (World.block_lt_of_cell? w _ hx159_1)).trans hx159_1; replace hx159_2 := (HB.out.cell (World.block_lt_of_cell? w _ hx159_2)).trans hx159_2; have HR159_1 := Aside0.mk hi159_1; have HC159_1 := Aside0.mk hl159_1; clear hi159_1 hl159_1; have HR159_2 := Aside0.mk hi159_2; have HC159_2 := Aside0.mk hl159_2; clear hi159_2 hl159_2; replace p159 := eq_true p159; replace q159 := eq_true q159; have ea_ := Option.some.inj (hx157_1.symm.trans hx159_1); injection ea_ with ea_ en_ ec_; subst ea_; subst ec_; clear en_; have ea_ := Option.some.inj (hx157_2.symm.trans hx159_2); injection ea_ with ea_ en_ ec_; subst ea_; subst ec_; clear en_) | (go_at_call 87; (with_reducible refine (spec_l00In.calls (((rd_T31 l0 0).f1).length : Int) 1 80 false _ A6.out).mono ?_); rintro e w' ⟨rfl, ⟨nd, rfl⟩⟩; (try first | exact ⟨rfl, _, World.drewN_drewN _ _ _⟩ | exact ⟨rfl, _, Eq.trans (World.drewN_drewN _ _ _) (congrArg (World.drewN _) (Nat.add_assoc _ _ _))⟩)))
          repeat (go_quiet (first | (go_at_call 87; (with_reducible refine (spec_l00In.calls (wrap64 ((rd_T31 l0 0).f0)) 1 6 true _ A4.out).mono ?_); rintro e w' ⟨rfl, ⟨nd, rfl⟩⟩; (try first | exact ⟨rfl, _, World.drewN_drewN _ _ _⟩ | exact ⟨rfl, _, Eq.trans (World.drewN_drewN _ _ _) (congrArg (World.drewN _) (Nat.add_assoc _ _ _))⟩); have p159 : 0 ≤ (0 : Int) := (by omega); have q159 : 0 < (l0.length : Int) := of_decide_eq_true (by first | (with_reducible assumption) | assumption); obtain ⟨ad159, A159_1, c159_1, A159_2, c159_2, e159, hx159_0, hx159_1, hx159_2, hl159_1, hi159_1, hl159_2, hi159_2⟩ := at_T31 HR0.out 0 p159 q159; obtain rfl : adp0 = ad159 := (by injection e159); have qi159 : (0 < l0.length) = True := eq_true (by omega); (try rw [show ((0 : Int)).toNat = 0 from rfl] at hx159_0); (try rw [show 0 * 3 = 0 from rfl] at hx159_0); (try rw [Addr.add_zero'] at hx159_0); (try rw [show ((0 : Int)).toNat = 0 from rfl] at hx159_1); (try rw [show 0 * 3 = 0 from rfl] at hx159_1); (try rw [Addr.add_zero'] at hx159_1); (try rw [show ((0 : Int)).toNat = 0 from rfl] at hx159_2); (try rw [show 0 * 3 = 0 from rfl] at hx159_2); (try rw [Addr.add_zero'] at hx159_2); replace hx159_0 := (HB.out.cell (World.block_lt_of_cell? w _ hx159_0)).trans hx159_0; replace hx159_1 := (HB.out.cell (World.block_lt_of_cell? w _ hx159_1)).trans hx159_1; replace hx159_2 := (HB.out.cell (World.block_lt_of_cell? w _ hx159_2)).trans hx159_2; have HR159_1 := Aside0.mk hi159_1; have HC159_1 := Aside0.mk hl159_1; clear hi159_1 hl159_1; have HR159_2 := Aside0.mk hi159_2; have HC159_2 := Aside0.mk hl159_2; clear hi159_2 hl159_2; replace p159 := eq_true p159; replace q159 := eq_true q159; have ea_ := Option.some.inj (hx157_1.symm.trans hx159_1); injection ea_ with ea_ en_ ec_; subst ea_; subst ec_; clear en_; have ea_ := Option.some.inj (hx157_2.symm.trans hx159_2); injection ea_ with ea_ en_ ec_; subst ea_; subst ec_; clear en_) | (go_at_call 87; (with_reducible refine (spec_l00In.calls (((rd_T31 l0 0).f1).length : Int) 1 80 false _ A6.out).mono ?_); rintro e w' ⟨rfl, ⟨nd, rfl⟩⟩; (try first | exact ⟨rfl, _, World.drewN_drewN _ _ _⟩ | exact ⟨rfl, _, Eq.trans (World.drewN_drewN _ _ _) (congrArg (World.drewN _) (Nat.add_assoc _ _ _))⟩))); try go_wp2_with (first | (go_at_call 87; (with_reducible refine (spec_l00In.calls (wrap64 ((rd_T31 l0 0).f0)) 1 6 true _ A4.out).mono ?_); rintro e w' ⟨rfl, ⟨nd, rfl⟩⟩; (try first | exact ⟨rfl, _, World.drewN_drewN _ _ _⟩ | exact ⟨rfl, _, Eq.trans (World.drewN_drewN _ _ _) (congrArg (World.drewN _) (Nat.add_assoc _ _ _))⟩); have p159 : 0 ≤ (0 : Int) := (by omega); have q159 : 0 < (l0.length : Int) := of_decide_eq_true (by first | (with_reducible assumption) | assumption); obtain ⟨ad159, A159_1, c159_1, A159_2, c159_2, e159, hx159_0, hx159_1, hx159_2, hl159_1, hi159_1, hl159_2, hi159_2⟩ := at_T31 HR0.out 0 p159 q159; obtain rfl : adp0 = ad159 := (by injection e159); have qi159 : (0 < l0.length) = True := eq_true (by omega); (try rw [show ((0 : Int)).toNat = 0 from rfl] at hx159_0); (try rw [show 0 * 3 = 0 from rfl] at hx159_0); (try rw [Addr.add_zero'] at hx159_0); (try rw [show ((0 : Int)).toNat = 0 from rfl] at hx159_1); (try rw [show 0 * 3 = 0 from rfl] at hx159_1); (try rw [Addr.add_zero'] at hx159_1); (try rw [show ((0 : Int)).toNat = 0 from rfl] at hx159_2); (try rw [show 0 * 3 = 0 from rfl] at hx159_2); (try rw [Addr.add_zero'] at hx159_2); replace hx159_0 := (HB.out.cell (World.block_lt_of_cell? w _ hx159_0)).trans hx159_0; replace hx159_1 := (HB.out.cell (World.block_lt_of_cell? w _ hx159_1)).trans hx159_1; replace hx159_2 := (HB.out.cell (World.block_lt_of_cell? w _ hx159_2)).trans hx159_2; have HR159_1 := Aside0.mk hi159_1; have HC159_1 := Aside0.mk hl159_1; clear hi159_1 hl159_1; have HR159_2 := Aside0.mk hi159_2; have HC159_2 := Aside0.mk hl159_2; clear hi159_2 hl159_2; replace p159 := eq_true p159; replace q159 := eq_true q159; have ea_ := Option.some.inj (hx157_1.symm.trans hx159_1); injection ea_ with ea_ en_ ec_; subst ea_; subst ec_; clear en_; have ea_ := Option.some.inj (hx157_2.symm.trans hx159_2); injection ea_ with ea_ en_ ec_; subst ea_; subst ec_; clear en_) | (go_at_call 87; (with_reducible refine (spec_l00In.calls (((rd_T31 l0 0).f1).length : Int) 1 80 false _ A6.out).mono ?_); rintro e w' ⟨rfl, ⟨nd, rfl⟩⟩; (try first | exact ⟨rfl, _, World.drewN_drewN _ _ _⟩ | exact ⟨rfl, _, Eq.trans (World.drewN_drewN _ _ _) (congrArg (World.drewN _) (Nat.add_assoc _ _ _))⟩))))
          go_meet
          case rel => exact ⟨_, (true), (by first | rfl | (simp; done) | (simp [*]; done) | (exact congrArg (Value.int .i64) (wrap_eq (by omega)))), H', ⟨by first | omega | exact Nat.le_refl _⟩, ⟨by repeat (first | (with_reducible first | exact HB.out | apply below_alloc | apply pw_below_drewN | apply below_drew1) | exact HB.out)⟩⟩
      · replace c5 := Bool.eq_false_iff.mpr c5
        subst c5
        have H1 : (spec_l04Ok.j0 k l0 true) = some r := by rw [if_neg (show ¬ (false = true) by decide)] at H; exact H
        clear H
        have H := H1
        clear H1
        have H' := Aside0.mk H
        clear H
        have p157 : 0 ≤ (0 : Int) := (by omega)
        have q157 : 0 < (l0.length : Int) := of_decide_eq_true (by first | (with_reducible assumption) | assumption)
        obtain ⟨ad157, A157_1, c157_1, A157_2, c157_2, e157, hx157_0, hx157_1, hx157_2, hl157_1, hi157_1, hl157_2, hi157_2⟩ := at_T31 HR0.out 0 p157 q157
        obtain rfl : adp0 = ad157 := (by injection e157)
        have qi157 : (0 < l0.length) = True := eq_true (by omega)
        (try rw [show ((0 : Int)).toNat = 0 from rfl] at hx157_0)
        (try rw [show 0 * 3 = 0 from rfl] at hx157_0)
        (try rw [Addr.add_zero'] at hx157_0)
        (try rw [show ((0 : Int)).toNat = 0 from rfl] at hx157_1)
        (try rw [show 0 * 3 = 0 from rfl] at hx157_1)
        (try rw [Addr.add_zero'] at hx157_1)
        (try rw [show ((0 : Int)).toNat = 0 from rfl] at hx157_2)
        (try rw [show 0 * 3 = 0 from rfl] at hx157_2)
        (try rw [Addr.add_zero'] at hx157_2)
        replace hx157_0 := (HB.out.cell (World.block_lt_of_cell? w _ hx157_0)).trans hx157_0
        replace hx157_1 := (HB.out.cell (World.block_lt_of_cell? w _ hx157_1)).trans hx157_1
        replace hx157_2 := (HB.out.cell (World.block_lt_of_cell? w _ hx157_2)).trans hx157_2
        have HR157_1 := Aside0.mk hi157_1
        have HC157_1 := Aside0.mk hl157_1
        clear hi157_1 hl157_1
        have HR157_2 := Aside0.mk hi157_2
        have HC157_2 := Aside0.mk hl157_2
        clear hi157_2 hl157_2
        replace p157 := eq_true p157
        replace q157 := eq_true q157
        go_wp2_with (first | (go_at_call 87; (with_reducible refine (spec_l00In.calls (wrap64 ((rd_T31 l0 0).f0)) 1 6 false _ A4.out).mono ?_); rintro e w' ⟨rfl, ⟨nd, rfl⟩⟩; (try first | exact ⟨rfl, _, World.drewN_drewN _ _ _⟩ | exact ⟨rfl, _, Eq.trans (World.drewN_drewN _ _ _) (congrArg (World.drewN _) (Nat.add_assoc _ _ _))⟩)))
        repeat (go_quiet (first | (go_at_call 87; (with_reducible refine (spec_l00In.calls (wrap64 ((rd_T31 l0 0).f0)) 1 6 false _ A4.out).mono ?_); rintro e w' ⟨rfl, ⟨nd, rfl⟩⟩; (try first | exact ⟨rfl, _, World.drewN_drewN _ _ _⟩ | exact ⟨rfl, _, Eq.trans (World.drewN_drewN _ _ _) (congrArg (World.drewN _) (Nat.add_assoc _ _ _))⟩))); try go_wp2_with (first | (go_at_call 87; (with_reducible refine (spec_l00In.calls (wrap64 ((rd_T31 l0 0).f0)) 1 6 false _ A4.out).mono ?_); rintro e w' ⟨rfl, ⟨nd, rfl⟩⟩; (try first | exact ⟨rfl, _, World.drewN_drewN _ _ _⟩ | exact ⟨rfl, _, Eq.trans (World.drewN_drewN _ _ _) (congrArg (World.drewN _) (Nat.add_assoc _ _ _))⟩))))
        go_meet
        case rel => exact ⟨_, (true), (by first | rfl | (simp; done) | (simp [*]; done) | (exact congrArg (Value.int .i64) (wrap_eq (by omega)))), H', ⟨by first | omega | exact Nat.le_refl _⟩, ⟨by repeat (first | (with_reducible first | exact HB.out | apply below_alloc | apply pw_below_drewN | apply below_drew1) | exact HB.out)⟩⟩
    · rw [if_neg c3] at H
      exact absurd H (by simp)
  case rest =>
    clear HC2
    try clear c1
    try clear p1
    try clear q1
    try clear hx1
    try clear qi1
    try clear p2
    try clear c3
    try clear c3b0
    try clear c3b1
    try clear c5
    try clear p6
    try clear c7
    try clear c8
    try clear hx157_0
    try clear hx157_1
    try clear hx157_2
    try clear hx159_0
    try clear hx159_1
    try clear hx159_2
    try clear hx161_0
    try clear hx161_1
    try clear hx161_2
    try clear p157
    try clear p159
    try clear p161
    try clear q157
    try clear q159
    try clear q161
    obtain ⟨kq, x29_1, rfl, HA, HJ1, HB⟩ := hcut
    cases kq with
    | zero => exact absurd HA.out (by simp [spec_l04Ok.j0])
    | succ kj1 =>
      have H := HA.out
      clear HA
      simp only [spec_l04Ok.j0] at H
      by_cases c9 : x29_1 = true
      · subst c9
        have H1 : (some false) = some r := by rw [if_pos rfl] at H; exact H
        clear H
        have H := H1
        clear H1
        obtain rfl := Option.some.inj H
        go_wp2
        repeat (go_quiet (fail); try go_wp2)
        go_ret
        exact ⟨by first | rfl | (simp [errW_none, errW_some] <;> rfl) | (simp [*, errW_none, errW_some] <;> rfl), by repeat (first | (with_reducible first | exact HB.out | apply below_alloc | apply pw_below_drewN | apply below_drew1) | exact HB.out)⟩
      · replace c9 := Bool.eq_false_iff.mpr c9
        subst c9
        have H1 : (spec_l04Ok.l0 kj1 l0 0) = some r := by rw [if_neg (show ¬ (false = true) by decide)] at H; exact H
        clear H
        have H := H1
        clear H1
        have H' := Aside0.mk H
        clear H
        go_wp2
        repeat (go_quiet (fail); try go_wp2)
        go_loopg [3] kj1 (fun kq v3 w' => ∃ (x3_2 : Int), v3 = .int .i64 x3_2 ∧ Aside0 (spec_l04Ok.l0 kq l0 x3_2 = some r) ∧ Aside0 (kq ≤ kj1) ∧ Aside0 (Below w.heap.size w w'))
        case atStart => exact ⟨(0), (by first | rfl | (simp; done) | (simp [*]; done) | (exact congrArg (Value.int .i64) (wrap_eq (by omega)))), H', ⟨Nat.le_refl _⟩, ⟨by repeat (first | (with_reducible first | exact HB.out | apply below_alloc | apply pw_below_drewN | apply below_drew1) | exact HB.out)⟩⟩
        case round =>
          clear H'
          try clear c1
          try clear p1
          try clear q1
          try clear hx1
          try clear qi1
          try clear p2
          try clear c3
          try clear c3b0
          try clear c3b1
          try clear c5
          try clear p6
          try clear c7
          try clear c8
          try clear c9
          try clear hx157_0
          try clear hx157_1
          try clear hx157_2
          try clear hx159_0
          try clear hx159_1
          try clear hx159_2
          try clear hx161_0
          try clear hx161_1
          try clear hx161_2
          try clear p1
          try clear p157
          try clear p159
          try clear p161
          try clear p2
          try clear p6
          try clear q1
          try clear q157
          try clear q159
          try clear q161
          obtain ⟨x3_2, rfl, HA, HK2, HB⟩ := hrel
          cases gk with
          | zero => exact absurd HA.out (by simp [spec_l04Ok.l0])
          | succ k2 =>
            have H := HA.out
            clear HA
            simp only [spec_l04Ok.l0] at H
            by_cases c10 : 0 < (l0.length : Int)
            · rw [if_pos c10] at H
              have c10b0 : decide (0 < (l0.length : Int)) = true := decide_eq_true c10
              have c10b1 : decide (0 < l0.length) = true := decide_eq_true (by omega)
              clear c10
              by_cases c11 : x3_2 < (((rd_T31 l0 0).f1).length : Int)
              · rw [if_pos c11] at H
                have c11b0 : decide (x3_2 < (((rd_T31 l0 0).f1).length : Int)) = true := decide_eq_true c11
                clear c11
                replace H := Option.bind_eq_some_iff.mp H
                obtain ⟨t164, A120, H⟩ := H
                replace H : (if t164 = true then (spec_l04Ok.l0 k2 l0 (wrap64 (x3_2 + 1))) else (some false)) = some r := H
                have A12 := Aside0.mk A120
                clear A120
                by_cases c13 : t164 = true
                · subst c13
                  have H1 : (spec_l04Ok.l0 k2 l0 (wrap64 (x3_2 + 1))) = some r := by rw [if_pos rfl] at H; exact H
                  clear H
                  have H := H1
                  clear H1
                  have H' := Aside0.mk H
                  clear H
                  have p163 : 0 ≤ (0 : Int) := (by omega)
                  have q163 : 0 < (l0.length : Int) := of_decide_eq_true (by first | (with_reducible assumption) | assumption)
                  obtain ⟨ad163, A163_1, c163_1, A163_2, c163_2, e163, hx163_0, hx163_1, hx163_2, hl163_1, hi163_1, hl163_2, hi163_2⟩ := at_T31 HR0.out 0 p163 q163
                  obtain rfl : adp0 = ad163 := (by injection e163)
                  have qi163 : (0 < l0.length) = True := eq_true (by omega)
                  (try rw [show ((0 : Int)).toNat = 0 from rfl] at hx163_0)
                  (try rw [show 0 * 3 = 0 from rfl] at hx163_0)
                  (try rw [Addr.add_zero'] at hx163_0)
                  (try rw [show ((0 : Int)).toNat = 0 from rfl] at hx163_1)
                  (try rw [show 0 * 3 = 0 from rfl] at hx163_1)
                  (try rw [Addr.add_zero'] at hx163_1)
                  (try rw [show ((0 : Int)).toNat = 0 from rfl] at hx163_2)
                  (try rw [show 0 * 3 = 0 from rfl] at hx163_2)
                  (try rw [Addr.add_zero'] at hx163_2)
                  replace hx163_0 := (HB.out.cell (World.block_lt_of_cell? w _ hx163_0)).trans hx163_0
                  replace hx163_1 := (HB.out.cell (World.block_lt_of_cell? w _ hx163_1)).trans hx163_1
                  replace hx163_2 := (HB.out.cell (World.block_lt_of_cell? w _ hx163_2)).trans hx163_2
                  have HR163_1 := Aside0.mk hi163_1
                  have HC163_1 := Aside0.mk hl163_1
                  clear hi163_1 hl163_1
                  have HR163_2 := Aside0.mk hi163_2
                  have HC163_2 := Aside0.mk hl163_2
                  clear hi163_2 hl163_2
                  replace p163 := eq_true p163
                  replace q163 := eq_true q163
                  go_wp2_with (first | (go_at_call 125; (with_reducible refine (spec_l04Node.calls _ l0 x3_2 true _ ?side1 A12.out).mono ?_); (case side1 => repeat (first | exact (Kd.C_below HR0.out HB.out) | (with_reducible refine Kd.C_alloc ?_ _) | (with_reducible refine Kd.C_drewN ?_ _) | (with_reducible refine Kd.C_drew ?_))); rintro e w14 ⟨rfl, hb⟩; have n0_ := Aside0.mk (below_step (by repeat (first | (with_reducible first | exact HB.out | apply below_alloc | apply pw_below_drewN | apply below_drew1) | exact HB.out)) hb); clear HB; have HB := n0_; clear n0_; (try clear hb); (try clear hb2); (try clear hk); (try clear hi)))
                  repeat (go_quiet (first | (go_at_call 125; (with_reducible refine (spec_l04Node.calls _ l0 x3_2 true _ ?side1 A12.out).mono ?_); (case side1 => repeat (first | exact (Kd.C_below HR0.out HB.out) | (with_reducible refine Kd.C_alloc ?_ _) | (with_reducible refine Kd.C_drewN ?_ _) | (with_reducible refine Kd.C_drew ?_))); rintro e w14 ⟨rfl, hb⟩; have n0_ := Aside0.mk (below_step (by repeat (first | (with_reducible first | exact HB.out | apply below_alloc | apply pw_below_drewN | apply below_drew1) | exact HB.out)) hb); clear HB; have HB := n0_; clear n0_; (try clear hb); (try clear hb2); (try clear hk); (try clear hi))); try go_wp2_with (first | (go_at_call 125; (with_reducible refine (spec_l04Node.calls _ l0 x3_2 true _ ?side1 A12.out).mono ?_); (case side1 => repeat (first | exact (Kd.C_below HR0.out HB.out) | (with_reducible refine Kd.C_alloc ?_ _) | (with_reducible refine Kd.C_drewN ?_ _) | (with_reducible refine Kd.C_drew ?_))); rintro e w14 ⟨rfl, hb⟩; have n0_ := Aside0.mk (below_step (by repeat (first | (with_reducible first | exact HB.out | apply below_alloc | apply pw_below_drewN | apply below_drew1) | exact HB.out)) hb); clear HB; have HB := n0_; clear n0_; (try clear hb); (try clear hb2); (try clear hk); (try clear hi))))
                  go_roundg k2
                  case measure => have := HJ1.out; have := HK2.out; omega
                  case rel => exact ⟨(wrap64 (x3_2 + 1)), (by first | rfl | (simp; done) | (simp [*]; done) | (exact congrArg (Value.int .i64) (wrap_eq (by omega)))), H', ⟨by have := HJ1.out; have := HK2.out; omega⟩, ⟨by repeat (first | (with_reducible first | exact HB.out | apply below_alloc | apply pw_below_drewN | apply below_drew1) | exact HB.out)⟩⟩
                · replace c13 := Bool.eq_false_iff.mpr c13
                  subst c13
                  have H1 : (some false) = some r := by rw [if_neg (show ¬ (false = true) by decide)] at H; exact H
                  clear H
                  have H := H1
                  clear H1
                  obtain rfl := Option.some.inj H
                  have p163 : 0 ≤ (0 : Int) := (by omega)
                  have q163 : 0 < (l0.length : Int) := of_decide_eq_true (by first | (with_reducible assumption) | assumption)
                  obtain ⟨ad163, A163_1, c163_1, A163_2, c163_2, e163, hx163_0, hx163_1, hx163_2, hl163_1, hi163_1, hl163_2, hi163_2⟩ := at_T31 HR0.out 0 p163 q163
                  obtain rfl : adp0 = ad163 := (by injection e163)
                  have qi163 : (0 < l0.length) = True := eq_true (by omega)
                  (try rw [show ((0 : Int)).toNat = 0 from rfl] at hx163_0)
                  (try rw [show 0 * 3 = 0 from rfl] at hx163_0)
                  (try rw [Addr.add_zero'] at hx163_0)
                  (try rw [show ((0 : Int)).toNat = 0 from rfl] at hx163_1)
                  (try rw [show 0 * 3 = 0 from rfl] at hx163_1)
                  (try rw [Addr.add_zero'] at hx163_1)
                  (try rw [show ((0 : Int)).toNat = 0 from rfl] at hx163_2)
                  (try rw [show 0 * 3 = 0 from rfl] at hx163_2)
                  (try rw [Addr.add_zero'] at hx163_2)
                  replace hx163_0 := (HB.out.cell (World.block_lt_of_cell? w _ hx163_0)).trans hx163_0
                  replace hx163_1 := (HB.out.cell (World.block_lt_of_cell? w _ hx163_1)).trans hx163_1
                  replace hx163_2 := (HB.out.cell (World.block_lt_of_cell? w _ hx163_2)).trans hx163_2
                  have HR163_1 := Aside0.mk hi163_1
                  have HC163_1 := Aside0.mk hl163_1
                  clear hi163_1 hl163_1
                  have HR163_2 := Aside0.mk hi163_2
                  have HC163_2 := Aside0.mk hl163_2
                  clear hi163_2 hl163_2
                  replace p163 := eq_true p163
                  replace q163 := eq_true q163
                  go_wp2_with (first | (go_at_call 125; (with_reducible refine (spec_l04Node.calls _ l0 x3_2 false _ ?side1 A12.out).mono ?_); (case side1 => repeat (first | exact (Kd.C_below HR0.out HB.out) | (with_reducible refine Kd.C_alloc ?_ _) | (with_reducible refine Kd.C_drewN ?_ _) | (with_reducible refine Kd.C_drew ?_))); rintro e w15 ⟨rfl, hb⟩; have n0_ := Aside0.mk (below_step (by repeat (first | (with_reducible first | exact HB.out | apply below_alloc | apply pw_below_drewN | apply below_drew1) | exact HB.out)) hb); clear HB; have HB := n0_; clear n0_; (try clear hb); (try clear hb2); (try clear hk); (try clear hi)))
                  repeat (go_quiet (first | (go_at_call 125; (with_reducible refine (spec_l04Node.calls _ l0 x3_2 false _ ?side1 A12.out).mono ?_); (case side1 => repeat (first | exact (Kd.C_below HR0.out HB.out) | (with_reducible refine Kd.C_alloc ?_ _) | (with_reducible refine Kd.C_drewN ?_ _) | (with_reducible refine Kd.C_drew ?_))); rintro e w15 ⟨rfl, hb⟩; have n0_ := Aside0.mk (below_step (by repeat (first | (with_reducible first | exact HB.out | apply below_alloc | apply pw_below_drewN | apply below_drew1) | exact HB.out)) hb); clear HB; have HB := n0_; clear n0_; (try clear hb); (try clear hb2); (try clear hk); (try clear hi))); try go_wp2_with (first | (go_at_call 125; (with_reducible refine (spec_l04Node.calls _ l0 x3_2 false _ ?side1 A12.out).mono ?_); (case side1 => repeat (first | exact (Kd.C_below HR0.out HB.out) | (with_reducible refine Kd.C_alloc ?_ _) | (with_reducible refine Kd.C_drewN ?_ _) | (with_reducible refine Kd.C_drew ?_))); rintro e w15 ⟨rfl, hb⟩; have n0_ := Aside0.mk (below_step (by repeat (first | (with_reducible first | exact HB.out | apply below_alloc | apply pw_below_drewN | apply below_drew1) | exact HB.out)) hb); clear HB; have HB := n0_; clear n0_; (try clear hb); (try clear hb2); (try clear hk); (try clear hi))))
                  go_ret
                  exact ⟨by first | rfl | (simp [errW_none, errW_some] <;> rfl) | (simp [*, errW_none, errW_some] <;> rfl), by repeat (first | (with_reducible first | exact HB.out | apply below_alloc | apply pw_below_drewN | apply below_drew1) | exact HB.out)⟩
              · rw [if_neg c11] at H
                have c11b0 : decide (x3_2 < (((rd_T31 l0 0).f1).length : Int)) = false := decide_eq_false c11
                clear c11
                have H' := Aside0.mk H
                clear H
                have p163 : 0 ≤ (0 : Int) := (by omega)
                have q163 : 0 < (l0.length : Int) := of_decide_eq_true (by first | (with_reducible assumption) | assumption)
                obtain ⟨ad163, A163_1, c163_1, A163_2, c163_2, e163, hx163_0, hx163_1, hx163_2, hl163_1, hi163_1, hl163_2, hi163_2⟩ := at_T31 HR0.out 0 p163 q163
                obtain rfl : adp0 = ad163 := (by injection e163)
                have qi163 : (0 < l0.length) = True := eq_true (by omega)
                (try rw [show ((0 : Int)).toNat = 0 from rfl] at hx163_0)
                (try rw [show 0 * 3 = 0 from rfl] at hx163_0)
                (try rw [Addr.add_zero'] at hx163_0)
                (try rw [show ((0 : Int)).toNat = 0 from rfl] at hx163_1)
                (try rw [show 0 * 3 = 0 from rfl] at hx163_1)
                (try rw [Addr.add_zero'] at hx163_1)
                (try rw [show ((0 : Int)).toNat = 0 from rfl] at hx163_2)
                (try rw [show 0 * 3 = 0 from rfl] at hx163_2)
                (try rw [Addr.add_zero'] at hx163_2)
                replace hx163_0 := (HB.out.cell (World.block_lt_of_cell? w _ hx163_0)).trans hx163_0
                replace hx163_1 := (HB.out.cell (World.block_lt_of_cell? w _ hx163_1)).trans hx163_1
                replace hx163_2 := (HB.out.cell (World.block_lt_of_cell? w _ hx163_2)).trans hx163_2
                have HR163_1 := Aside0.mk hi163_1
                have HC163_1 := Aside0.mk hl163_1
                clear hi163_1 hl163_1
                have HR163_2 := Aside0.mk hi163_2
                have HC163_2 := Aside0.mk hl163_2
                clear hi163_2 hl163_2
                replace p163 := eq_true p163
                replace q163 := eq_true q163
                go_wp2
                repeat (go_quiet (fail); try go_wp2)
                go_loopg [4] k2 (fun kq v4 w' => ∃ (x4_3 : Int), v4 = .int .i64 x4_3 ∧ Aside0 (spec_l04Ok.l1 kq l0 x4_3 = some r) ∧ Aside0 (kq ≤ k2) ∧ Aside0 (Below w.heap.size w w'))
                case atStart => exact ⟨(0), (by first | rfl | (simp; done) | (simp [*]; done) | (exact congrArg (Value.int .i64) (wrap_eq (by omega)))), H', ⟨Nat.le_refl _⟩, ⟨by repeat (first | (with_reducible first | exact HB.out | apply below_alloc | apply pw_below_drewN | apply below_drew1) | exact HB.out)⟩⟩
                case round =>
                  clear H'
                  try clear c1
                  try clear p1
                  try clear q1
                  try clear hx1
                  try clear qi1
                  try clear p2
                  try clear c3
                  try clear c3b0
                  try clear c3b1
                  try clear c5
                  try clear p6
                  try clear c7
                  try clear c8
                  try clear c9
                  try clear c10
                  try clear c10b0
                  try clear c10b1
                  try clear c11
                  try clear c11b0
                  try clear c13
                  try clear c15
                  try clear p15
                  try clear q15
                  try clear hx15
                  try clear qi15
                  try clear hx157_0
                  try clear hx157_1
                  try clear hx157_2
                  try clear hx159_0
                  try clear hx159_1
                  try clear hx159_2
                  try clear hx161_0
                  try clear hx161_1
                  try clear hx161_2
                  try clear hx163_0
                  try clear hx163_1
                  try clear hx163_2
                  try clear p1
                  try clear p157
                  try clear p159
                  try clear p161
                  try clear p163
                  try clear p2
                  try clear p6
                  try clear q1
                  try clear q157
                  try clear q159
                  try clear q161
                  try clear q163
                  obtain ⟨x4_3, rfl, HA, HK3, HB⟩ := hrel
                  cases gk with
                  | zero => exact absurd HA.out (by simp [spec_l04Ok.l1])
                  | succ k3 =>
                    have H := HA.out
                    clear HA
                    simp only [spec_l04Ok.l1] at H
                    by_cases c16 : 0 < (l0.length : Int)
                    · rw [if_pos c16] at H
                      have c16b0 : decide (0 < (l0.length : Int)) = true := decide_eq_true c16
                      have c16b1 : decide (0 < l0.length) = true := decide_eq_true (by omega)
                      clear c16
                      by_cases c17 : x4_3 < (((rd_T31 l0 0).f2).length : Int)
                      · rw [if_pos c17] at H
                        have c17b0 : decide (x4_3 < (((rd_T31 l0 0).f2).length : Int)) = true := decide_eq_true c17
                        clear c17
                        by_cases c18 : 0 ≤ x4_3
                        · rw [if_pos c18] at H
                          have c18b0 : decide (0 ≤ x4_3) = true := decide_eq_true c18
                          clear c18
                          by_cases c19 : (rd ((rd_T31 l0 0).f2) x4_3) < 0
                          · rw [if_pos c19] at H
                            have c19b0 : decide ((rd ((rd_T31 l0 0).f2) x4_3) < 0) = true := decide_eq_true c19
                            clear c19
                            obtain rfl := Option.some.inj H
                            have p165 : 0 ≤ (0 : Int) := (by omega)
                            have q165 : 0 < (l0.length : Int) := of_decide_eq_true (by first | (with_reducible assumption) | assumption)
                            obtain ⟨ad165, A165_1, c165_1, A165_2, c165_2, e165, hx165_0, hx165_1, hx165_2, hl165_1, hi165_1, hl165_2, hi165_2⟩ := at_T31 HR0.out 0 p165 q165
                            obtain rfl : adp0 = ad165 := (by injection e165)
                            have qi165 : (0 < l0.length) = True := eq_true (by omega)
                            (try rw [show ((0 : Int)).toNat = 0 from rfl] at hx165_0)
                            (try rw [show 0 * 3 = 0 from rfl] at hx165_0)
                            (try rw [Addr.add_zero'] at hx165_0)
                            (try rw [show ((0 : Int)).toNat = 0 from rfl] at hx165_1)
                            (try rw [show 0 * 3 = 0 from rfl] at hx165_1)
                            (try rw [Addr.add_zero'] at hx165_1)
                            (try rw [show ((0 : Int)).toNat = 0 from rfl] at hx165_2)
                            (try rw [show 0 * 3 = 0 from rfl] at hx165_2)
                            (try rw [Addr.add_zero'] at hx165_2)
                            replace hx165_0 := (HB.out.cell (World.block_lt_of_cell? w _ hx165_0)).trans hx165_0
                            replace hx165_1 := (HB.out.cell (World.block_lt_of_cell? w _ hx165_1)).trans hx165_1
                            replace hx165_2 := (HB.out.cell (World.block_lt_of_cell? w _ hx165_2)).trans hx165_2
                            have HR165_1 := Aside0.mk hi165_1
                            have HC165_1 := Aside0.mk hl165_1
                            clear hi165_1 hl165_1
                            have HR165_2 := Aside0.mk hi165_2
                            have HC165_2 := Aside0.mk hl165_2
                            clear hi165_2 hl165_2
                            replace p165 := eq_true p165
                            replace q165 := eq_true q165
                            have p166 : 0 ≤ (0 : Int) := (by omega)
                            have q166 : 0 < (l0.length : Int) := of_decide_eq_true (by first | (with_reducible assumption) | assumption)
                            obtain ⟨ad166, A166_1, c166_1, A166_2, c166_2, e166, hx166_0, hx166_1, hx166_2, hl166_1, hi166_1, hl166_2, hi166_2⟩ := at_T31 HR0.out 0 p166 q166
                            obtain rfl : adp0 = ad166 := (by injection e166)
                            have qi166 : (0 < l0.length) = True := eq_true (by omega)
                            (try rw [show ((0 : Int)).toNat = 0 from rfl] at hx166_0)
                            (try rw [show 0 * 3 = 0 from rfl] at hx166_0)
                            (try rw [Addr.add_zero'] at hx166_0)
                            (try rw [show ((0 : Int)).toNat = 0 from rfl] at hx166_1)
                            (try rw [show 0 * 3 = 0 from rfl] at hx166_1)
                            (try rw [Addr.add_zero'] at hx166_1)
                            (try rw [show ((0 : Int)).toNat = 0 from rfl] at hx166_2)
                            (try rw [show 0 * 3 = 0 from rfl] at hx166_2)
                            (try rw [Addr.add_zero'] at hx166_2)
                            replace hx166_0 := (HB.out.cell (World.block_lt_of_cell? w _ hx166_0)).trans hx166_0
                            replace hx166_1 := (HB.out.cell (World.block_lt_of_cell? w _ hx166_1)).trans hx166_1
                            replace hx166_2 := (HB.out.cell (World.block_lt_of_cell? w _ hx166_2)).trans hx166_2
                            have HR166_1 := Aside0.mk hi166_1
                            have HC166_1 := Aside0.mk hl166_1
                            clear hi166_1 hl166_1
                            have HR166_2 := Aside0.mk hi166_2
                            have HC166_2 := Aside0.mk hl166_2
                            clear hi166_2 hl166_2
                            replace p166 := eq_true p166
                            replace q166 := eq_true q166
                            have ea_ := Option.some.inj (hx165_1.symm.trans hx166_1)
                            injection ea_ with ea_ en_ ec_
                            subst ea_
                            subst ec_
                            clear en_
                            have ea_ := Option.some.inj (hx165_2.symm.trans hx166_2)
                            injection ea_ with ea_ en_ ec_
                            subst ea_
                            subst ec_
                            clear en_
                            have p167 : 0 ≤ (x4_3 : Int) := of_decide_eq_true (by first | (with_reducible assumption) | assumption)
                            have q167 : x4_3 < (((rd_T31 l0 0).f2).length : Int) := of_decide_eq_true (by first | (with_reducible assumption) | assumption)
                            obtain ⟨ad167, e167, hx167_0⟩ := Kd.at_int HR166_2.out x4_3 p167 q167
                            cases e167
                            replace hx167_0 := (HB.out.cell (World.block_lt_of_cell? w _ hx167_0)).trans hx167_0
                            replace p167 := eq_true p167
                            replace q167 := eq_true q167
                            go_wp2
                            repeat (go_quiet (fail); try go_wp2)
                            go_ret
                            exact ⟨by first | rfl | (simp [errW_none, errW_some] <;> rfl) | (simp [*, errW_none, errW_some] <;> rfl), by repeat (first | (with_reducible first | exact HB.out | apply below_alloc | apply pw_below_drewN | apply below_drew1) | exact HB.out)⟩
                          · rw [if_neg c19] at H
                            have c19b0 : decide ((rd ((rd_T31 l0 0).f2) x4_3) < 0) = false := decide_eq_false c19
                            clear c19
                            by_cases c20 : (wrap64 (rd ((rd_T31 l0 0).f2) x4_3)) ≥ (((rd_T31 l0 0).f1).length : Int)
                            · rw [if_pos c20] at H
                              have c20b0 : decide ((((rd_T31 l0 0).f1).length : Int) ≤ (wrap64 (rd ((rd_T31 l0 0).f2) x4_3))) = true := decide_eq_true c20
                              clear c20
                              obtain rfl := Option.some.inj H
                              have p165 : 0 ≤ (0 : Int) := (by omega)
                              have q165 : 0 < (l0.length : Int) := of_decide_eq_true (by first | (with_reducible assumption) | assumption)
                              obtain ⟨ad165, A165_1, c165_1, A165_2, c165_2, e165, hx165_0, hx165_1, hx165_2, hl165_1, hi165_1, hl165_2, hi165_2⟩ := at_T31 HR0.out 0 p165 q165
                              obtain rfl : adp0 = ad165 := (by injection e165)
                              have qi165 : (0 < l0.length) = True := eq_true (by omega)
                              (try rw [show ((0 : Int)).toNat = 0 from rfl] at hx165_0)
                              (try rw [show 0 * 3 = 0 from rfl] at hx165_0)
                              (try rw [Addr.add_zero'] at hx165_0)
                              (try rw [show ((0 : Int)).toNat = 0 from rfl] at hx165_1)
                              (try rw [show 0 * 3 = 0 from rfl] at hx165_1)
                              (try rw [Addr.add_zero'] at hx165_1)
                              (try rw [show ((0 : Int)).toNat = 0 from rfl] at hx165_2)
                              (try rw [show 0 * 3 = 0 from rfl] at hx165_2)
                              (try rw [Addr.add_zero'] at hx165_2)
                              replace hx165_0 := (HB.out.cell (World.block_lt_of_cell? w _ hx165_0)).trans hx165_0
                              replace hx165_1 := (HB.out.cell (World.block_lt_of_cell? w _ hx165_1)).trans hx165_1
                              replace hx165_2 := (HB.out.cell (World.block_lt_of_cell? w _ hx165_2)).trans hx165_2
                              have HR165_1 := Aside0.mk hi165_1
                              have HC165_1 := Aside0.mk hl165_1
                              clear hi165_1 hl165_1
                              have HR165_2 := Aside0.mk hi165_2
                              have HC165_2 := Aside0.mk hl165_2
                              clear hi165_2 hl165_2
                              replace p165 := eq_true p165
                              replace q165 := eq_true q165
                              have p166 : 0 ≤ (0 : Int) := (by omega)
                              have q166 : 0 < (l0.length : Int) := of_decide_eq_true (by first | (with_reducible assumption) | assumption)
                              obtain ⟨ad166, A166_1, c166_1, A166_2, c166_2, e166, hx166_0, hx166_1, hx166_2, hl166_1, hi166_1, hl166_2, hi166_2⟩ := at_T31 HR0.out 0 p166 q166
                              obtain rfl : adp0 = ad166 := (by injection e166)
                              have qi166 : (0 < l0.length) = True := eq_true (by omega)
                              (try rw [show ((0 : Int)).toNat = 0 from rfl] at hx166_0)
                              (try rw [show 0 * 3 = 0 from rfl] at hx166_0)
                              (try rw [Addr.add_zero'] at hx166_0)
                              (try rw [show ((0 : Int)).toNat = 0 from rfl] at hx166_1)
                              (try rw [show 0 * 3 = 0 from rfl] at hx166_1)
                              (try rw [Addr.add_zero'] at hx166_1)
                              (try rw [show ((0 : Int)).toNat = 0 from rfl] at hx166_2)
                              (try rw [show 0 * 3 = 0 from rfl] at hx166_2)
                              (try rw [Addr.add_zero'] at hx166_2)
                              replace hx166_0 := (HB.out.cell (World.block_lt_of_cell? w _ hx166_0)).trans hx166_0
                              replace hx166_1 := (HB.out.cell (World.block_lt_of_cell? w _ hx166_1)).trans hx166_1
                              replace hx166_2 := (HB.out.cell (World.block_lt_of_cell? w _ hx166_2)).trans hx166_2
                              have HR166_1 := Aside0.mk hi166_1
                              have HC166_1 := Aside0.mk hl166_1
                              clear hi166_1 hl166_1
                              have HR166_2 := Aside0.mk hi166_2
                              have HC166_2 := Aside0.mk hl166_2
                              clear hi166_2 hl166_2
                              replace p166 := eq_true p166
                              replace q166 := eq_true q166
                              have ea_ := Option.some.inj (hx165_1.symm.trans hx166_1)
                              injection ea_ with ea_ en_ ec_
                              subst ea_
                              subst ec_
                              clear en_
                              have ea_ := Option.some.inj (hx165_2.symm.trans hx166_2)
                              injection ea_ with ea_ en_ ec_
                              subst ea_
                              subst ec_
                              clear en_
                              have p167 : 0 ≤ (x4_3 : Int) := of_decide_eq_true (by first | (with_reducible assumption) | assumption)
                              have q167 : x4_3 < (((rd_T31 l0 0).f2).length : Int) := of_decide_eq_true (by first | (with_reducible assumption) | assumption)
                              obtain ⟨ad167, e167, hx167_0⟩ := Kd.at_int HR166_2.out x4_3 p167 q167
                              cases e167
                              replace hx167_0 := (HB.out.cell (World.block_lt_of_cell? w _ hx167_0)).trans hx167_0
                              replace p167 := eq_true p167
                              replace q167 := eq_true q167
                              have p168 : 0 ≤ (0 : Int) := (by omega)
                              have q168 : 0 < (l0.length : Int) := of_decide_eq_true (by first | (with_reducible assumption) | assumption)
                              obtain ⟨ad168, A168_1, c168_1, A168_2, c168_2, e168, hx168_0, hx168_1, hx168_2, hl168_1, hi168_1, hl168_2, hi168_2⟩ := at_T31 HR0.out 0 p168 q168
                              obtain rfl : adp0 = ad168 := (by injection e168)
                              have qi168 : (0 < l0.length) = True := eq_true (by omega)
                              (try rw [show ((0 : Int)).toNat = 0 from rfl] at hx168_0)
                              (try rw [show 0 * 3 = 0 from rfl] at hx168_0)
                              (try rw [Addr.add_zero'] at hx168_0)
                              (try rw [show ((0 : Int)).toNat = 0 from rfl] at hx168_1)
                              (try rw [show 0 * 3 = 0 from rfl] at hx168_1)
                              (try rw [Addr.add_zero'] at hx168_1)
                              (try rw [show ((0 : Int)).toNat = 0 from rfl] at hx168_2)
                              (try rw [show 0 * 3 = 0 from rfl] at hx168_2)
                              (try rw [Addr.add_zero'] at hx168_2)
                              replace hx168_0 := (HB.out.cell (World.block_lt_of_cell? w _ hx168_0)).trans hx168_0
                              replace hx168_1 := (HB.out.cell (World.block_lt_of_cell? w _ hx168_1)).trans hx168_1
                              replace hx168_2 := (HB.out.cell (World.block_lt_of_cell? w _ hx168_2)).trans hx168_2
                              have HR168_1 := Aside0.mk hi168_1
                              have HC168_1 := Aside0.mk hl168_1
                              clear hi168_1 hl168_1
                              have HR168_2 := Aside0.mk hi168_2
                              have HC168_2 := Aside0.mk hl168_2
                              clear hi168_2 hl168_2
                              replace p168 := eq_true p168
                              replace q168 := eq_true q168
                              have ea_ := Option.some.inj (hx165_1.symm.trans hx168_1)
                              injection ea_ with ea_ en_ ec_
                              subst ea_
                              subst ec_
                              clear en_
                              have ea_ := Option.some.inj (hx165_2.symm.trans hx168_2)
                              injection ea_ with ea_ en_ ec_
                              subst ea_
                              subst ec_
                              clear en_
                              have p169 : 0 ≤ (x4_3 : Int) := of_decide_eq_true (by first | (with_reducible assumption) | assumption)
                              have q169 : x4_3 < (((rd_T31 l0 0).f2).length : Int) := of_decide_eq_true (by first | (with_reducible assumption) | assumption)
                              obtain ⟨ad169, e169, hx169_0⟩ := Kd.at_int HR168_2.out x4_3 p169 q169
                              cases e169
                              replace hx169_0 := (HB.out.cell (World.block_lt_of_cell? w _ hx169_0)).trans hx169_0
                              replace p169 := eq_true p169
                              replace q169 := eq_true q169
                              have p170 : 0 ≤ (0 : Int) := (by omega)
                              have q170 : 0 < (l0.length : Int) := of_decide_eq_true (by first | (with_reducible assumption) | assumption)
                              obtain ⟨ad170, A170_1, c170_1, A170_2, c170_2, e170, hx170_0, hx170_1, hx170_2, hl170_1, hi170_1, hl170_2, hi170_2⟩ := at_T31 HR0.out 0 p170 q170
                              obtain rfl : adp0 = ad170 := (by injection e170)
                              have qi170 : (0 < l0.length) = True := eq_true (by omega)
                              (try rw [show ((0 : Int)).toNat = 0 from rfl] at hx170_0)
                              (try rw [show 0 * 3 = 0 from rfl] at hx170_0)
                              (try rw [Addr.add_zero'] at hx170_0)
                              (try rw [show ((0 : Int)).toNat = 0 from rfl] at hx170_1)
                              (try rw [show 0 * 3 = 0 from rfl] at hx170_1)
                              (try rw [Addr.add_zero'] at hx170_1)
                              (try rw [show ((0 : Int)).toNat = 0 from rfl] at hx170_2)
                              (try rw [show 0 * 3 = 0 from rfl] at hx170_2)
                              (try rw [Addr.add_zero'] at hx170_2)
                              replace hx170_0 := (HB.out.cell (World.block_lt_of_cell? w _ hx170_0)).trans hx170_0
                              replace hx170_1 := (HB.out.cell (World.block_lt_of_cell? w _ hx170_1)).trans hx170_1
                              replace hx170_2 := (HB.out.cell (World.block_lt_of_cell? w _ hx170_2)).trans hx170_2
                              have HR170_1 := Aside0.mk hi170_1
                              have HC170_1 := Aside0.mk hl170_1
                              clear hi170_1 hl170_1
                              have HR170_2 := Aside0.mk hi170_2
                              have HC170_2 := Aside0.mk hl170_2
                              clear hi170_2 hl170_2
                              replace p170 := eq_true p170
                              replace q170 := eq_true q170
                              have ea_ := Option.some.inj (hx165_1.symm.trans hx170_1)
                              injection ea_ with ea_ en_ ec_
                              subst ea_
                              subst ec_
                              clear en_
                              have ea_ := Option.some.inj (hx165_2.symm.trans hx170_2)
                              injection ea_ with ea_ en_ ec_
                              subst ea_
                              subst ec_
                              clear en_
                              go_wp2
                              repeat (go_quiet (fail); try go_wp2)
                              go_ret
                              exact ⟨by first | rfl | (simp [errW_none, errW_some] <;> rfl) | (simp [*, errW_none, errW_some] <;> rfl), by repeat (first | (with_reducible first | exact HB.out | apply below_alloc | apply pw_below_drewN | apply below_drew1) | exact HB.out)⟩
                            · rw [if_neg c20] at H
                              have c20b0 : decide ((((rd_T31 l0 0).f1).length : Int) ≤ (wrap64 (rd ((rd_T31 l0 0).f2) x4_3))) = false := decide_eq_false c20
                              clear c20
                              have H' := Aside0.mk H
                              clear H
                              have p165 : 0 ≤ (0 : Int) := (by omega)
                              have q165 : 0 < (l0.length : Int) := of_decide_eq_true (by first | (with_reducible assumption) | assumption)
                              obtain ⟨ad165, A165_1, c165_1, A165_2, c165_2, e165, hx165_0, hx165_1, hx165_2, hl165_1, hi165_1, hl165_2, hi165_2⟩ := at_T31 HR0.out 0 p165 q165
                              obtain rfl : adp0 = ad165 := (by injection e165)
                              have qi165 : (0 < l0.length) = True := eq_true (by omega)
                              (try rw [show ((0 : Int)).toNat = 0 from rfl] at hx165_0)
                              (try rw [show 0 * 3 = 0 from rfl] at hx165_0)
                              (try rw [Addr.add_zero'] at hx165_0)
                              (try rw [show ((0 : Int)).toNat = 0 from rfl] at hx165_1)
                              (try rw [show 0 * 3 = 0 from rfl] at hx165_1)
                              (try rw [Addr.add_zero'] at hx165_1)
                              (try rw [show ((0 : Int)).toNat = 0 from rfl] at hx165_2)
                              (try rw [show 0 * 3 = 0 from rfl] at hx165_2)
                              (try rw [Addr.add_zero'] at hx165_2)
                              replace hx165_0 := (HB.out.cell (World.block_lt_of_cell? w _ hx165_0)).trans hx165_0
                              replace hx165_1 := (HB.out.cell (World.block_lt_of_cell? w _ hx165_1)).trans hx165_1
                              replace hx165_2 := (HB.out.cell (World.block_lt_of_cell? w _ hx165_2)).trans hx165_2
                              have HR165_1 := Aside0.mk hi165_1
                              have HC165_1 := Aside0.mk hl165_1
                              clear hi165_1 hl165_1
                              have HR165_2 := Aside0.mk hi165_2
                              have HC165_2 := Aside0.mk hl165_2
                              clear hi165_2 hl165_2
                              replace p165 := eq_true p165
                              replace q165 := eq_true q165
                              have p166 : 0 ≤ (0 : Int) := (by omega)
                              have q166 : 0 < (l0.length : Int) := of_decide_eq_true (by first | (with_reducible assumption) | assumption)
                              obtain ⟨ad166, A166_1, c166_1, A166_2, c166_2, e166, hx166_0, hx166_1, hx166_2, hl166_1, hi166_1, hl166_2, hi166_2⟩ := at_T31 HR0.out 0 p166 q166
                              obtain rfl : adp0 = ad166 := (by injection e166)
                              have qi166 : (0 < l0.length) = True := eq_true (by omega)
                              (try rw [show ((0 : Int)).toNat = 0 from rfl] at hx166_0)
                              (try rw [show 0 * 3 = 0 from rfl] at hx166_0)
                              (try rw [Addr.add_zero'] at hx166_0)
                              (try rw [show ((0 : Int)).toNat = 0 from rfl] at hx166_1)
                              (try rw [show 0 * 3 = 0 from rfl] at hx166_1)
                              (try rw [Addr.add_zero'] at hx166_1)
                              (try rw [show ((0 : Int)).toNat = 0 from rfl] at hx166_2)
                              (try rw [show 0 * 3 = 0 from rfl] at hx166_2)
                              (try rw [Addr.add_zero'] at hx166_2)
                              replace hx166_0 := (HB.out.cell (World.block_lt_of_cell? w _ hx166_0)).trans hx166_0
                              replace hx166_1 := (HB.out.cell (World.block_lt_of_cell? w _ hx166_1)).trans hx166_1
                              replace hx166_2 := (HB.out.cell (World.block_lt_of_cell? w _ hx166_2)).trans hx166_2
                              have HR166_1 := Aside0.mk hi166_1
                              have HC166_1 := Aside0.mk hl166_1
                              clear hi166_1 hl166_1
                              have HR166_2 := Aside0.mk hi166_2
                              have HC166_2 := Aside0.mk hl166_2
                              clear hi166_2 hl166_2
                              replace p166 := eq_true p166
                              replace q166 := eq_true q166
                              have ea_ := Option.some.inj (hx165_1.symm.trans hx166_1)
                              injection ea_ with ea_ en_ ec_
                              subst ea_
                              subst ec_
                              clear en_
                              have ea_ := Option.some.inj (hx165_2.symm.trans hx166_2)
                              injection ea_ with ea_ en_ ec_
                              subst ea_
                              subst ec_
                              clear en_
                              have p167 : 0 ≤ (x4_3 : Int) := of_decide_eq_true (by first | (with_reducible assumption) | assumption)
                              have q167 : x4_3 < (((rd_T31 l0 0).f2).length : Int) := of_decide_eq_true (by first | (with_reducible assumption) | assumption)
                              obtain ⟨ad167, e167, hx167_0⟩ := Kd.at_int HR166_2.out x4_3 p167 q167
                              cases e167
                              replace hx167_0 := (HB.out.cell (World.block_lt_of_cell? w _ hx167_0)).trans hx167_0
                              replace p167 := eq_true p167
                              replace q167 := eq_true q167
                              have p168 : 0 ≤ (0 : Int) := (by omega)
                              have q168 : 0 < (l0.length : Int) := of_decide_eq_true (by first | (with_reducible assumption) | assumption)
                              obtain ⟨ad168, A168_1, c168_1, A168_2, c168_2, e168, hx168_0, hx168_1, hx168_2, hl168_1, hi168_1, hl168_2, hi168_2⟩ := at_T31 HR0.out 0 p168 q168
                              obtain rfl : adp0 = ad168 := (by injection e168)
                              have qi168 : (0 < l0.length) = True := eq_true (by omega)
                              (try rw [show ((0 : Int)).toNat = 0 from rfl] at hx168_0)
                              (try rw [show 0 * 3 = 0 from rfl] at hx168_0)
                              (try rw [Addr.add_zero'] at hx168_0)
                              (try rw [show ((0 : Int)).toNat = 0 from rfl] at hx168_1)
                              (try rw [show 0 * 3 = 0 from rfl] at hx168_1)
                              (try rw [Addr.add_zero'] at hx168_1)
                              (try rw [show ((0 : Int)).toNat = 0 from rfl] at hx168_2)
                              (try rw [show 0 * 3 = 0 from rfl] at hx168_2)
                              (try rw [Addr.add_zero'] at hx168_2)
                              replace hx168_0 := (HB.out.cell (World.block_lt_of_cell? w _ hx168_0)).trans hx168_0
                              replace hx168_1 := (HB.out.cell (World.block_lt_of_cell? w _ hx168_1)).trans hx168_1
                              replace hx168_2 := (HB.out.cell (World.block_lt_of_cell? w _ hx168_2)).trans hx168_2
                              have HR168_1 := Aside0.mk hi168_1
                              have HC168_1 := Aside0.mk hl168_1
                              clear hi168_1 hl168_1
                              have HR168_2 := Aside0.mk hi168_2
                              have HC168_2 := Aside0.mk hl168_2
                              clear hi168_2 hl168_2
                              replace p168 := eq_true p168
                              replace q168 := eq_true q168
                              have ea_ := Option.some.inj (hx165_1.symm.trans hx168_1)
                              injection ea_ with ea_ en_ ec_
                              subst ea_
                              subst ec_
                              clear en_
                              have ea_ := Option.some.inj (hx165_2.symm.trans hx168_2)
                              injection ea_ with ea_ en_ ec_
                              subst ea_
                              subst ec_
                              clear en_
                              have p169 : 0 ≤ (x4_3 : Int) := of_decide_eq_true (by first | (with_reducible assumption) | assumption)
                              have q169 : x4_3 < (((rd_T31 l0 0).f2).length : Int) := of_decide_eq_true (by first | (with_reducible assumption) | assumption)
                              obtain ⟨ad169, e169, hx169_0⟩ := Kd.at_int HR168_2.out x4_3 p169 q169
                              cases e169
                              replace hx169_0 := (HB.out.cell (World.block_lt_of_cell? w _ hx169_0)).trans hx169_0
                              replace p169 := eq_true p169
                              replace q169 := eq_true q169
                              have p170 : 0 ≤ (0 : Int) := (by omega)
                              have q170 : 0 < (l0.length : Int) := of_decide_eq_true (by first | (with_reducible assumption) | assumption)
                              obtain ⟨ad170, A170_1, c170_1, A170_2, c170_2, e170, hx170_0, hx170_1, hx170_2, hl170_1, hi170_1, hl170_2, hi170_2⟩ := at_T31 HR0.out 0 p170 q170
                              obtain rfl : adp0 = ad170 := (by injection e170)
                              have qi170 : (0 < l0.length) = True := eq_true (by omega)
                              (try rw [show ((0 : Int)).toNat = 0 from rfl] at hx170_0)
                              (try rw [show 0 * 3 = 0 from rfl] at hx170_0)
                              (try rw [Addr.add_zero'] at hx170_0)
                              (try rw [show ((0 : Int)).toNat = 0 from rfl] at hx170_1)
                              (try rw [show 0 * 3 = 0 from rfl] at hx170_1)
                              (try rw [Addr.add_zero'] at hx170_1)
                              (try rw [show ((0 : Int)).toNat = 0 from rfl] at hx170_2)
                              (try rw [show 0 * 3 = 0 from rfl] at hx170_2)
                              (try rw [Addr.add_zero'] at hx170_2)
                              replace hx170_0 := (HB.out.cell (World.block_lt_of_cell? w _ hx170_0)).trans hx170_0
                              replace hx170_1 := (HB.out.cell (World.block_lt_of_cell? w _ hx170_1)).trans hx170_1
                              replace hx170_2 := (HB.out.cell (World.block_lt_of_cell? w _ hx170_2)).trans hx170_2
                              have HR170_1 := Aside0.mk hi170_1
                              have HC170_1 := Aside0.mk hl170_1
                              clear hi170_1 hl170_1
                              have HR170_2 := Aside0.mk hi170_2
                              have HC170_2 := Aside0.mk hl170_2
                              clear hi170_2 hl170_2
                              replace p170 := eq_true p170
                              replace q170 := eq_true q170
                              have ea_ := Option.some.inj (hx165_1.symm.trans hx170_1)
                              injection ea_ with ea_ en_ ec_
                              subst ea_
                              subst ec_
                              clear en_
                              have ea_ := Option.some.inj (hx165_2.symm.trans hx170_2)
                              injection ea_ with ea_ en_ ec_
                              subst ea_
                              subst ec_
                              clear en_
                              go_wp2
                              repeat (go_quiet (fail); try go_wp2)
                              go_roundg k3
                              case measure => have := HJ1.out; have := HK2.out; have := HK3.out; omega
                              case rel => exact ⟨(wrap64 (x4_3 + 1)), (by first | rfl | (simp; done) | (simp [*]; done) | (exact congrArg (Value.int .i64) (wrap_eq (by omega)))), H', ⟨by have := HJ1.out; have := HK2.out; have := HK3.out; omega⟩, ⟨by repeat (first | (with_reducible first | exact HB.out | apply below_alloc | apply pw_below_drewN | apply below_drew1) | exact HB.out)⟩⟩
                        · rw [if_neg c18] at H
                          exact absurd H (by simp)
                      · rw [if_neg c17] at H
                        have c17b0 : decide (x4_3 < (((rd_T31 l0 0).f2).length : Int)) = false := decide_eq_false c17
                        clear c17
                        obtain rfl := Option.some.inj H
                        have p165 : 0 ≤ (0 : Int) := (by omega)
                        have q165 : 0 < (l0.length : Int) := of_decide_eq_true (by first | (with_reducible assumption) | assumption)
                        obtain ⟨ad165, A165_1, c165_1, A165_2, c165_2, e165, hx165_0, hx165_1, hx165_2, hl165_1, hi165_1, hl165_2, hi165_2⟩ := at_T31 HR0.out 0 p165 q165
                        obtain rfl : adp0 = ad165 := (by injection e165)
                        have qi165 : (0 < l0.length) = True := eq_true (by omega)
                        (try rw [show ((0 : Int)).toNat = 0 from rfl] at hx165_0)
                        (try rw [show 0 * 3 = 0 from rfl] at hx165_0)
                        (try rw [Addr.add_zero'] at hx165_0)
                        (try rw [show ((0 : Int)).toNat = 0 from rfl] at hx165_1)
                        (try rw [show 0 * 3 = 0 from rfl] at hx165_1)
                        (try rw [Addr.add_zero'] at hx165_1)
                        (try rw [show ((0 : Int)).toNat = 0 from rfl] at hx165_2)
                        (try rw [show 0 * 3 = 0 from rfl] at hx165_2)
                        (try rw [Addr.add_zero'] at hx165_2)
                        replace hx165_0 := (HB.out.cell (World.block_lt_of_cell? w _ hx165_0)).trans hx165_0
                        replace hx165_1 := (HB.out.cell (World.block_lt_of_cell? w _ hx165_1)).trans hx165_1
                        replace hx165_2 := (HB.out.cell (World.block_lt_of_cell? w _ hx165_2)).trans hx165_2
                        have HR165_1 := Aside0.mk hi165_1
                        have HC165_1 := Aside0.mk hl165_1
                        clear hi165_1 hl165_1
                        have HR165_2 := Aside0.mk hi165_2
                        have HC165_2 := Aside0.mk hl165_2
                        clear hi165_2 hl165_2
                        replace p165 := eq_true p165
                        replace q165 := eq_true q165
                        go_wp2
                        repeat (go_quiet (fail); try go_wp2)
                        go_ret
                        exact ⟨by first | rfl | (simp [errW_none, errW_some] <;> rfl) | (simp [*, errW_none, errW_some] <;> rfl), by repeat (first | (with_reducible first | exact HB.out | apply below_alloc | apply pw_below_drewN | apply below_drew1) | exact HB.out)⟩
                    · rw [if_neg c16] at H
                      exact absurd H (by simp)
            · rw [if_neg c10] at H
              exact absurd H (by simp)

end Go.Proofs.Ytmpmanfoiocfgaa.PFnExactOutputTables
