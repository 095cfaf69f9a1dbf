-- WRITTEN by xprint.py, a program of this session's. Not trusted: Lean checks it.
-- packed by pack.py
import Derived.Test.YtdjhcnepndflmaaPFnExactTakePiecex0
import Derived.Test.YtdjhcnepndflmaaPFnExactTakePiecex7
import Derived.Test.YtdjhcnepndflmaaTFnExactTakePiecea
namespace Go.Proofs.Ytdjhcnepndflmaa.PFnExactTakePiece
open Go.RowKit Go.Proofs.YtdjhcnepndflmaaW.PrintWords Go.Proofs.YtdjhcnepndflmaaW.PrintLast Go.Proofs.YtdjhcnepndflmaaW.PrintMore Go.Proofs.YtdjhcnepndflmaaX
attribute [local go_sem] max2_int min2_int max_two min_two max_three min_three max_four min_four   -- for this text's walks alone
set_option maxHeartbeats 8000000
set_option maxRecDepth 100000
set_option linter.unusedVariables false
set_option linter.unusedSimpArgs false

def laws_markBoard.f (k : Nat) (a0_0 : Int) (a0_1 : Int) (l0_2 : List (S62)) (a1 : Int) : Option (Int × (List (S62))) := (laws_markPieceS.f k l0_2 a1).bind fun bt212 => (some (bt212.1, bt212.2))
theorem laws_markBoard.mono : ∀ a0 a1 a2 a3 k, LeO (laws_markBoard.f k a0 a1 a2 a3) (laws_markBoard.f (k + 1) a0 a1 a2 a3) := by
 intro a0 a1 a2 a3 k
 unfold laws_markBoard.f
 repeat' first | (with_reducible first | apply laws_markPieceS.mono | exact LeO.refl _ | exact LeO.none _ | refine LeO.ite ?_ ?_ | refine LeO.bind ?_ (fun _ => ?_)) | apply laws_markPieceS.mono | exact LeO.none _ | refine LeO.ite ?_ ?_ | refine LeO.bind ?_ (fun _ => ?_)
theorem laws_markBoard.calls (k : Nat) (a0_0 : Int) (a0_1 : Int) (P0_2_ : Nat → Prop) (u9000_ : Value) (l0_2 : List (S62)) (a1 : Int) (r1 : Int) (r2 : List (S62)) (w0 w : World) (hB : Below w0.heap.size w0 w) (ho0_2 : Kd.R k62 62 w w0.heap.size P0_2_ u9000_ l0_2) (h : laws_markBoard.f k a0_0 a0_1 l0_2 a1 = some (r1, r2)) :
    Calls Try.prog 12 #[.agg #[.int .i8 a0_0, .int .i8 a0_1, u9000_], .int .i64 a1] w fun e w' => e = .returned (.int .i64 r1) ∧ Kd.R k62 62 w' w0.heap.size (fun k_ => (P0_2_ k_ ∨ w.heap.size ≤ k_)) u9000_ r2 ∧ Below w0.heap.size w0 w' ∧ Kept w w' (fun k_ => P0_2_ k_) := by
 have hu30 := Try.underlying30
 have HO0_2 := Aside0.mk (show Kd.R k62 62 w w0.heap.size (fun k_ => (P0_2_ k_ ∨ w.heap.size ≤ k_)) u9000_ l0_2 from Kd.R_mono ho0_2 (fun k_ hk => (.inl hk)))
 have HK := Aside0.mk (Kept.refl w (fun k_ => P0_2_ k_))
 have HW0 := Aside0.mk hB.size
 have HB := Aside0.mk hB
 clear hB
 have H : ((laws_markPieceS.f k l0_2 a1).bind fun bt212 => (some (bt212.1, bt212.2))) = some (r1, r2) := h
 clear h
 replace H := zob H
 obtain ⟨⟨t212, t213⟩, A30, H⟩ := H
 replace H : (some (t212, t213)) = some (r1, r2) := H
 have A3 := Aside0.mk A30
 clear A30
 simp only [Option.some.injEq, Prod.mk.injEq] at H
 obtain ⟨rfl, rfl⟩ := H
 obtain ⟨Ao4, co4, eo4⟩ := Kd.R_slice HO0_2.out
 subst eo4
 go_enter Try.func12, Try.ntmps12
 go_wp2_with (first | ((with_reducible refine gate_dst (N := 2) rfl ?_); refine zbx 2 #[.int .i8 a0_0, .int .i8 a0_1, .slice Ao4 l0_2.length co4] 30 ?_; intro gb211 hg w5 hbox hb; have n_ : _ ∧ _ ∧ _ ∧ _ ∧ _ ∧ _ := ⟨zr HO0_2 hb, Aside0.mk (Kept.below (S := (fun k_ => P0_2_ k_)) (by repeat (first | (with_reducible first | exact HK.out | apply Kept.alloc | apply Kept.drewN | apply Kept.drew) | exact HK.out)) hb), zb HB hb, Aside0.mk (hbox), Aside0.mk ((by rw [hg]; exact (by first | exact HK.out.1 | exact (show Kept w _ (fun k_ => P0_2_ k_) from by repeat (first | (with_reducible first | exact HK.out | apply Kept.alloc | apply Kept.drewN | apply Kept.drew) | exact HK.out)).1) : w.heap.size ≤ gb211)), Aside0.mk ((by rw [hg]; exact (zz HB) : w0.heap.size ≤ gb211))⟩; clear HO0_2 HK HB; obtain ⟨HO0_2, HK, HB, BK211, GW211, GE211⟩ := n_; clear hb hbox hg; obtain ⟨z6_0, z6_1, z6_2, y6_0, y6_1, y6_2⟩ := zB3 BK211) | ((with_reducible refine gate_callee (f := 33) rfl ?_); refine goesL_ (some 8) rfl rfl Try.func33 (by kernel_rfl) rfl #[.slice Ao4 l0_2.length co4, .int .i64 a1] rfl zm ?_; (with_reducible refine (laws_markPieceS.calls k (fun k_ => some k_ = (.slice Ao4 l0_2.length co4 : Value).ownBlock) (.slice Ao4 l0_2.length co4) l0_2 a1 t212 t213 w0 _ ?side1 ?side2 A3.out).mono ?_); (case side1 => exact zbo); (case side2 => exact Kd.R_tight rfl HO0_2.out); rintro e w7 ⟨rfl, hy0, hb, hkp⟩; refine ⟨_, rfl, ?_⟩; have n_ : _ ∧ _ ∧ _ ∧ _ := ⟨Aside0.mk (Kd.R_reok rfl hy0 (fun k_ e_ => HO0_2.out.1 k_ e_)), zkr BK211 hkp (fun hs_ => (fun e_ => (Kd.R_ne HO0_2.out BK211.out (by decide)) e_) hs_), Aside0.mk (Kept.then_ (S := (fun k_ => P0_2_ k_)) (by repeat (first | (with_reducible first | exact HK.out | apply Kept.alloc | apply Kept.drewN | apply Kept.drew | refine Kept.setCell ?_ (.inr GW211.out) _) | exact HK.out)) hkp (fun k_ hs_ => (fun e_ => (HO0_2.out.1 k_ e_.symm)) hs_)), Aside0.mk (hb)⟩; clear HO0_2 BK211 HK HB; obtain ⟨HO0_2, BK211, HK, HB⟩ := n_; (try clear hb); (try clear hkp); (try clear hy0)))
 go_ret
 exact ⟨zv, by (with_reducible repeat (first | apply Kd.R_alloc | apply Kd.R_drewN | apply Kd.R_drew)); exact HO0_2.out, zbo, by repeat (first | (with_reducible first | exact HK.out | apply Kept.alloc | apply Kept.drewN | apply Kept.drew | refine Kept.setCell ?_ (.inr GW211.out) _) | exact HK.out)⟩
mutual
def laws_heldPieceS.l0 : Nat → List (S62) → Int → Int → Option (Int)
  | 0, _, _, _ => none
  | k + 1, x0, x1, x5 => if x5 < (x0.length : Int) then (laws_heldPieceS.l1 k x0 x1 x5 0) else (some x1)
def laws_heldPieceS.l1 : Nat → List (S62) → Int → Int → Int → Option (Int)
  | 0, _, _, _, _ => none
  | k + 1, x0, x1, x5, x6 => if x6 < 2 then (if 0 ≤ x5 then (if x5 < (x0.length : Int) then (if x6 = 0 then (if ((rd_T62 x0 x5).f0.f0) = (IntKind.i8.wrap (x1)) then (laws_heldPieceS.l1 k x0 (wrap64 (x1 + 1)) x5 (wrap64 (x6 + 1))) else (some (-1))) else (if x6 = 1 then (if ((rd_T62 x0 x5).f0.f1) = (IntKind.i8.wrap (x1)) then (laws_heldPieceS.l1 k x0 (wrap64 (x1 + 1)) x5 (wrap64 (x6 + 1))) else (some (-1))) else (none))) else (none)) else (none)) else (if 0 ≤ x5 then (if x5 < (x0.length : Int) then (if ((rd_T62 x0 x5).f1) = (IntKind.i8.wrap (x1)) then (if ((rd_T62 x0 x5).f2) = (IntKind.i8.wrap (wrap64 (x1 + 1))) then (if ((rd_T62 x0 x5).f3) = (IntKind.i8.wrap (wrap64 ((wrap64 (x1 + 1)) + 1))) then (laws_heldPieceS.l0 k x0 (wrap64 ((wrap64 ((wrap64 (x1 + 1)) + 1)) + 1)) (wrap64 (x5 + 1))) else (some (-1))) else (some (-1))) else (some (-1))) else (none)) else (none))
end
def laws_heldPieceS.f (k : Nat) (l0 : List (S62)) (a1 : Int) : Option (Int) := laws_heldPieceS.l0 k l0 a1 0
theorem laws_heldPieceS.mono_l : ∀ k, (∀ y0 y1 y2, LeO (laws_heldPieceS.l0 k y0 y1 y2) (laws_heldPieceS.l0 (k + 1) y0 y1 y2)) ∧ (∀ y0 y1 y2 y3, LeO (laws_heldPieceS.l1 k y0 y1 y2 y3) (laws_heldPieceS.l1 (k + 1) y0 y1 y2 y3))
  | 0 => ⟨fun _ _ _ r h => by simp [laws_heldPieceS.l0] at h, fun _ _ _ _ r h => by simp [laws_heldPieceS.l1] at h⟩
  | k + 1 => by
    obtain ⟨ih0, ih1⟩ := laws_heldPieceS.mono_l k
    refine ⟨?_, ?_⟩
    · intro y0 y1 y2
      unfold laws_heldPieceS.l0
      repeat' first | (with_reducible first | apply ih0 | apply ih1 | exact LeO.refl _ | exact LeO.none _ | refine LeO.ite ?_ ?_ | refine LeO.bind ?_ (fun _ => ?_)) | apply ih0 | apply ih1 | exact LeO.none _ | refine LeO.ite ?_ ?_ | refine LeO.bind ?_ (fun _ => ?_)
    · intro y0 y1 y2 y3
      unfold laws_heldPieceS.l1
      repeat' first | (with_reducible first | apply ih0 | apply ih1 | exact LeO.refl _ | exact LeO.none _ | refine LeO.ite ?_ ?_ | refine LeO.bind ?_ (fun _ => ?_)) | apply ih0 | apply ih1 | exact LeO.none _ | refine LeO.ite ?_ ?_ | refine LeO.bind ?_ (fun _ => ?_)
theorem laws_heldPieceS.mono : ∀ a0 a1 k, LeO (laws_heldPieceS.f k a0 a1) (laws_heldPieceS.f (k + 1) a0 a1) := by
 intro a0 a1 k
 obtain ⟨ih0, ih1⟩ := laws_heldPieceS.mono_l k
 unfold laws_heldPieceS.f
 repeat' first | (with_reducible first | apply ih0 | apply ih1 | exact LeO.refl _ | exact LeO.none _ | refine LeO.ite ?_ ?_ | refine LeO.bind ?_ (fun _ => ?_)) | apply ih0 | apply ih1 | exact LeO.none _ | refine LeO.ite ?_ ?_ | refine LeO.bind ?_ (fun _ => ?_)
theorem laws_heldPieceS.calls (k : Nat) (A0 : Option Addr) (c0 : Nat) (l0 : List (S62)) (a1 : Int) (r : Int) (w : World) (hr0 : Kd.C k62 w A0 l0.length l0) (hc0 : l0.length ≤ c0) (h : laws_heldPieceS.f k l0 a1 = some r) :
    Calls Try.prog 34 #[.slice A0 l0.length c0, .int .i64 a1] w fun e w' => e = .returned (.int .i64 r) ∧ Drawn0 w w' := by
 have HR0 := Aside0.mk hr0
 have HC0 := Aside0.mk hc0
 clear hr0 hc0
 have H : (laws_heldPieceS.l0 k l0 a1 0) = some r := h
 clear h
 have H' := Aside0.mk H
 clear H
 go_enter Try.func34, Try.ntmps34
 go_wp2
 go_loopg [1, 5] k (fun kq v1 v5 w' => ∃ (x1_1 : Int) (x5_1 : Int), v1 = .int .i64 x1_1 ∧ v5 = .int .i64 x5_1 ∧ Aside0 (laws_heldPieceS.l0 kq l0 x1_1 x5_1 = some r) ∧ Aside0 (kq ≤ k) ∧ Drawn0 w w')
 case atStart => exact ⟨(a1), (0), zi, zi, H', ⟨Nat.le_refl _⟩, zdr⟩
 clear H'
 try clear p2
 obtain ⟨x1_1, x5_1, rfl, rfl, HA, HK1, ⟨m1, rfl⟩⟩ := hrel
 cases gk with
 | zero => exact absurd HA.out (by simp [laws_heldPieceS.l0])
 | succ k1 => ?_
 have H := HA.out
 clear HA
 simp only [laws_heldPieceS.l0] at H
 by_cases c3 : x5_1 < (l0.length : Int)
 rotate_left
 ·rw [if_neg c3] at H
  have c3b0 : decide (x5_1 < (l0.length : Int)) = false := decide_eq_false c3
  clear c3
  obtain rfl := Option.some.inj H
  go_wp2
  go_ret
  exact ⟨zi, zdr⟩
 rw [if_pos c3] at H
 have c3b0 : decide (x5_1 < (l0.length : Int)) = true := decide_eq_true c3
 clear c3
 have H' := Aside0.mk H
 clear H
 go_wp2
 go_loopg [1, 6] k1 (fun kq v1 v6 w' => ∃ (x1_2 : Int) (x6_2 : Int), v1 = .int .i64 x1_2 ∧ v6 = .int .i64 x6_2 ∧ Aside0 (laws_heldPieceS.l1 kq l0 x1_2 x5_1 x6_2 = some r) ∧ Aside0 (kq ≤ k1) ∧ Drawn0 w w')
 case atStart => exact ⟨(x1_1), (0), zi, zi, H', ⟨Nat.le_refl _⟩, zdr⟩
 clear H'
 try clear p2
 try clear c3
 try clear c3b0
 try clear p2
 obtain ⟨x1_2, x6_2, rfl, rfl, HA, HK2, ⟨m2, rfl⟩⟩ := hrel
 cases gk with
 | zero => exact absurd HA.out (by simp [laws_heldPieceS.l1])
 | succ k2 => ?_
 have H := HA.out
 clear HA
 simp only [laws_heldPieceS.l1] at H
 by_cases c4 : x6_2 < 2
 ·rw [if_pos c4] at H
  have c4b0 : decide (x6_2 < 2) = true := decide_eq_true c4
  clear c4
  by_cases c5 : 0 ≤ x5_1
  rotate_left
  ·rw [if_neg c5] at H
   exact absurd H (by simp)
  rw [if_pos c5] at H
  have c5b0 : decide (0 ≤ x5_1) = true := decide_eq_true c5
  clear c5
  by_cases c6 : x5_1 < (l0.length : Int)
  rotate_left
  ·rw [if_neg c6] at H
   exact absurd H (by simp)
  rw [if_pos c6] at H
  have c6b0 : decide (x5_1 < (l0.length : Int)) = true := decide_eq_true c6
  clear c6
  by_cases c7 : x6_2 = 0
  ·rw [if_pos c7] at H
   have Ac7 : Aside0 (x6_2 = 0) := ⟨c7⟩
   clear c7
   have ar8e : x6_2 = 0 := by first | exact (show Aside0 (x6_2 = 0) by assumption).out | exact beq_iff_eq.mp (by assumption) | omega
   have ar8n : (x6_2).toNat = 0 := by rw [ar8e]; rfl
   have ar8l : decide (0 ≤ x6_2) = true := decide_eq_true (by omega)
   have ar8L := eq_true (of_decide_eq_true ar8l)
   have ar8h : decide (x6_2 < 2) = true := decide_eq_true (by omega)
   have ar8H := eq_true (of_decide_eq_true ar8h)
   clear ar8e
   by_cases c9 : ((rd_T62 l0 x5_1).f0.f0) = (IntKind.i8.wrap (x1_2))
   rotate_left
   ·rw [if_neg c9] at H
    have c9b0 : (((rd_T62 l0 x5_1).f0.f0) == (IntKind.i8.wrap (x1_2))) = false := beq_eq_false_iff_ne.mpr c9
    have c9b1 : (((rd_T62 l0 x5_1).f0.f0) != (IntKind.i8.wrap (x1_2))) = true := bne_iff_ne.mpr c9
    obtain rfl := Option.some.inj H
    have p214 : 0 ≤ (x5_1 : Int) := of_decide_eq_true zA
    have q214 : x5_1 < (l0.length : Int) := of_decide_eq_true zA
    obtain ⟨ad214, e214, hx214_0, hx214_1, hx214_2, hx214_3, hx214_4⟩ := at_T62 HR0.out x5_1 p214 q214
    cases e214
    replace p214 := eq_true p214
    replace q214 := eq_true q214
    go_wp2
    go_ret
    exact ⟨zi, zdr⟩
   rw [if_pos c9] at H
   have c9b0 : (((rd_T62 l0 x5_1).f0.f0) == (IntKind.i8.wrap (x1_2))) = true := beq_iff_eq.mpr c9
   have c9b1 : (((rd_T62 l0 x5_1).f0.f0) != (IntKind.i8.wrap (x1_2))) = false := bne_eq_false_iff_eq.mpr c9
   clear c9
   have H' := Aside0.mk H
   clear H
   have p214 : 0 ≤ (x5_1 : Int) := of_decide_eq_true zA
   have q214 : x5_1 < (l0.length : Int) := of_decide_eq_true zA
   obtain ⟨ad214, e214, hx214_0, hx214_1, hx214_2, hx214_3, hx214_4⟩ := at_T62 HR0.out x5_1 p214 q214
   cases e214
   replace p214 := eq_true p214
   replace q214 := eq_true q214
   go_wp2
   go_roundg k2
   case measure => have := HK1.out; have := HK2.out; omega
   case rel => exact ⟨(wrap64 (x1_2 + 1)), (wrap64 (x6_2 + 1)), zi, zi, H', ⟨by have := HK1.out; have := HK2.out; omega⟩, zdr⟩
  rw [if_neg c7] at H
  clear c7
  by_cases c10 : x6_2 = 1
  rotate_left
  ·rw [if_neg c10] at H
   exact absurd H (by simp)
  rw [if_pos c10] at H
  have Ac10 : Aside0 (x6_2 = 1) := ⟨c10⟩
  clear c10
  have ar11e : x6_2 = 1 := by first | exact (show Aside0 (x6_2 = 1) by assumption).out | exact beq_iff_eq.mp (by assumption) | omega
  have ar11n : (x6_2).toNat = 1 := by rw [ar11e]; rfl
  have ar11l : decide (0 ≤ x6_2) = true := decide_eq_true (by omega)
  have ar11L := eq_true (of_decide_eq_true ar11l)
  have ar11h : decide (x6_2 < 2) = true := decide_eq_true (by omega)
  have ar11H := eq_true (of_decide_eq_true ar11h)
  clear ar11e
  by_cases c12 : ((rd_T62 l0 x5_1).f0.f1) = (IntKind.i8.wrap (x1_2))
  rotate_left
  ·rw [if_neg c12] at H
   have c12b0 : (((rd_T62 l0 x5_1).f0.f1) == (IntKind.i8.wrap (x1_2))) = false := beq_eq_false_iff_ne.mpr c12
   have c12b1 : (((rd_T62 l0 x5_1).f0.f1) != (IntKind.i8.wrap (x1_2))) = true := bne_iff_ne.mpr c12
   obtain rfl := Option.some.inj H
   have p214 : 0 ≤ (x5_1 : Int) := of_decide_eq_true zA
   have q214 : x5_1 < (l0.length : Int) := of_decide_eq_true zA
   obtain ⟨ad214, e214, hx214_0, hx214_1, hx214_2, hx214_3, hx214_4⟩ := at_T62 HR0.out x5_1 p214 q214
   cases e214
   replace p214 := eq_true p214
   replace q214 := eq_true q214
   go_wp2
   go_ret
   exact ⟨zi, zdr⟩
  rw [if_pos c12] at H
  have c12b0 : (((rd_T62 l0 x5_1).f0.f1) == (IntKind.i8.wrap (x1_2))) = true := beq_iff_eq.mpr c12
  have c12b1 : (((rd_T62 l0 x5_1).f0.f1) != (IntKind.i8.wrap (x1_2))) = false := bne_eq_false_iff_eq.mpr c12
  clear c12
  have H' := Aside0.mk H
  clear H
  have p214 : 0 ≤ (x5_1 : Int) := of_decide_eq_true zA
  have q214 : x5_1 < (l0.length : Int) := of_decide_eq_true zA
  obtain ⟨ad214, e214, hx214_0, hx214_1, hx214_2, hx214_3, hx214_4⟩ := at_T62 HR0.out x5_1 p214 q214
  cases e214
  replace p214 := eq_true p214
  replace q214 := eq_true q214
  go_wp2
  go_roundg k2
  case measure => have := HK1.out; have := HK2.out; omega
  case rel => exact ⟨(wrap64 (x1_2 + 1)), (wrap64 (x6_2 + 1)), zi, zi, H', ⟨by have := HK1.out; have := HK2.out; omega⟩, zdr⟩
 rw [if_neg c4] at H
 have c4b0 : decide (x6_2 < 2) = false := decide_eq_false c4
 clear c4
 by_cases c13 : 0 ≤ x5_1
 rotate_left
 ·rw [if_neg c13] at H
  exact absurd H (by simp)
 rw [if_pos c13] at H
 have c13b0 : decide (0 ≤ x5_1) = true := decide_eq_true c13
 clear c13
 by_cases c14 : x5_1 < (l0.length : Int)
 rotate_left
 ·rw [if_neg c14] at H
  exact absurd H (by simp)
 rw [if_pos c14] at H
 have c14b0 : decide (x5_1 < (l0.length : Int)) = true := decide_eq_true c14
 clear c14
 by_cases c15 : ((rd_T62 l0 x5_1).f1) = (IntKind.i8.wrap (x1_2))
 rotate_left
 ·rw [if_neg c15] at H
  have c15b0 : (((rd_T62 l0 x5_1).f1) == (IntKind.i8.wrap (x1_2))) = false := beq_eq_false_iff_ne.mpr c15
  have c15b1 : (((rd_T62 l0 x5_1).f1) != (IntKind.i8.wrap (x1_2))) = true := bne_iff_ne.mpr c15
  obtain rfl := Option.some.inj H
  have p215 : 0 ≤ (x5_1 : Int) := of_decide_eq_true zA
  have q215 : x5_1 < (l0.length : Int) := of_decide_eq_true zA
  obtain ⟨ad215, e215, hx215_0, hx215_1, hx215_2, hx215_3, hx215_4⟩ := at_T62 HR0.out x5_1 p215 q215
  cases e215
  replace p215 := eq_true p215
  replace q215 := eq_true q215
  go_wp2
  go_ret
  exact ⟨zi, zdr⟩
 rw [if_pos c15] at H
 have c15b0 : (((rd_T62 l0 x5_1).f1) == (IntKind.i8.wrap (x1_2))) = true := beq_iff_eq.mpr c15
 have c15b1 : (((rd_T62 l0 x5_1).f1) != (IntKind.i8.wrap (x1_2))) = false := bne_eq_false_iff_eq.mpr c15
 clear c15
 by_cases c16 : ((rd_T62 l0 x5_1).f2) = (IntKind.i8.wrap (wrap64 (x1_2 + 1)))
 rotate_left
 ·rw [if_neg c16] at H
  have c16b0 : (((rd_T62 l0 x5_1).f2) == (IntKind.i8.wrap (wrap64 (x1_2 + 1)))) = false := beq_eq_false_iff_ne.mpr c16
  have c16b1 : (((rd_T62 l0 x5_1).f2) != (IntKind.i8.wrap (wrap64 (x1_2 + 1)))) = true := bne_iff_ne.mpr c16
  obtain rfl := Option.some.inj H
  have p215 : 0 ≤ (x5_1 : Int) := of_decide_eq_true zA
  have q215 : x5_1 < (l0.length : Int) := of_decide_eq_true zA
  obtain ⟨ad215, e215, hx215_0, hx215_1, hx215_2, hx215_3, hx215_4⟩ := at_T62 HR0.out x5_1 p215 q215
  cases e215
  replace p215 := eq_true p215
  replace q215 := eq_true q215
  have p216 : 0 ≤ (x5_1 : Int) := of_decide_eq_true zA
  have q216 : x5_1 < (l0.length : Int) := of_decide_eq_true zA
  obtain ⟨ad216, e216, hx216_0, hx216_1, hx216_2, hx216_3, hx216_4⟩ := at_T62 HR0.out x5_1 p216 q216
  obtain rfl : ad215 = ad216 := (by injection e216)
  replace p216 := eq_true p216
  replace q216 := eq_true q216
  go_wp2
  go_ret
  exact ⟨zi, zdr⟩
 rw [if_pos c16] at H
 have c16b0 : (((rd_T62 l0 x5_1).f2) == (IntKind.i8.wrap (wrap64 (x1_2 + 1)))) = true := beq_iff_eq.mpr c16
 have c16b1 : (((rd_T62 l0 x5_1).f2) != (IntKind.i8.wrap (wrap64 (x1_2 + 1)))) = false := bne_eq_false_iff_eq.mpr c16
 clear c16
 by_cases c17 : ((rd_T62 l0 x5_1).f3) = (IntKind.i8.wrap (wrap64 ((wrap64 (x1_2 + 1)) + 1)))
 rotate_left
 ·rw [if_neg c17] at H
  have c17b0 : (((rd_T62 l0 x5_1).f3) == (IntKind.i8.wrap (wrap64 ((wrap64 (x1_2 + 1)) + 1)))) = false := beq_eq_false_iff_ne.mpr c17
  have c17b1 : (((rd_T62 l0 x5_1).f3) != (IntKind.i8.wrap (wrap64 ((wrap64 (x1_2 + 1)) + 1)))) = true := bne_iff_ne.mpr c17
  obtain rfl := Option.some.inj H
  have p215 : 0 ≤ (x5_1 : Int) := of_decide_eq_true zA
  have q215 : x5_1 < (l0.length : Int) := of_decide_eq_true zA
  obtain ⟨ad215, e215, hx215_0, hx215_1, hx215_2, hx215_3, hx215_4⟩ := at_T62 HR0.out x5_1 p215 q215
  cases e215
  replace p215 := eq_true p215
  replace q215 := eq_true q215
  have p216 : 0 ≤ (x5_1 : Int) := of_decide_eq_true zA
  have q216 : x5_1 < (l0.length : Int) := of_decide_eq_true zA
  obtain ⟨ad216, e216, hx216_0, hx216_1, hx216_2, hx216_3, hx216_4⟩ := at_T62 HR0.out x5_1 p216 q216
  obtain rfl : ad215 = ad216 := (by injection e216)
  replace p216 := eq_true p216
  replace q216 := eq_true q216
  have p217 : 0 ≤ (x5_1 : Int) := of_decide_eq_true zA
  have q217 : x5_1 < (l0.length : Int) := of_decide_eq_true zA
  obtain ⟨ad217, e217, hx217_0, hx217_1, hx217_2, hx217_3, hx217_4⟩ := at_T62 HR0.out x5_1 p217 q217
  obtain rfl : ad215 = ad217 := (by injection e217)
  replace p217 := eq_true p217
  replace q217 := eq_true q217
  go_wp2
  go_ret
  exact ⟨zi, zdr⟩
 rw [if_pos c17] at H
 have c17b0 : (((rd_T62 l0 x5_1).f3) == (IntKind.i8.wrap (wrap64 ((wrap64 (x1_2 + 1)) + 1)))) = true := beq_iff_eq.mpr c17
 have c17b1 : (((rd_T62 l0 x5_1).f3) != (IntKind.i8.wrap (wrap64 ((wrap64 (x1_2 + 1)) + 1)))) = false := bne_eq_false_iff_eq.mpr c17
 clear c17
 have H' := Aside0.mk H
 clear H
 have p215 : 0 ≤ (x5_1 : Int) := of_decide_eq_true zA
 have q215 : x5_1 < (l0.length : Int) := of_decide_eq_true zA
 obtain ⟨ad215, e215, hx215_0, hx215_1, hx215_2, hx215_3, hx215_4⟩ := at_T62 HR0.out x5_1 p215 q215
 cases e215
 replace p215 := eq_true p215
 replace q215 := eq_true q215
 have p216 : 0 ≤ (x5_1 : Int) := of_decide_eq_true zA
 have q216 : x5_1 < (l0.length : Int) := of_decide_eq_true zA
 obtain ⟨ad216, e216, hx216_0, hx216_1, hx216_2, hx216_3, hx216_4⟩ := at_T62 HR0.out x5_1 p216 q216
 obtain rfl : ad215 = ad216 := (by injection e216)
 replace p216 := eq_true p216
 replace q216 := eq_true q216
 have p217 : 0 ≤ (x5_1 : Int) := of_decide_eq_true zA
 have q217 : x5_1 < (l0.length : Int) := of_decide_eq_true zA
 obtain ⟨ad217, e217, hx217_0, hx217_1, hx217_2, hx217_3, hx217_4⟩ := at_T62 HR0.out x5_1 p217 q217
 obtain rfl : ad215 = ad217 := (by injection e217)
 replace p217 := eq_true p217
 replace q217 := eq_true q217
 go_wp2
 go_roundg k2
 case measure => have := HK1.out; have := HK2.out; omega
 case rel => exact ⟨(wrap64 ((wrap64 ((wrap64 (x1_2 + 1)) + 1)) + 1)), (wrap64 (x5_1 + 1)), zi, zi, H', ⟨by have := HK1.out; have := HK2.out; omega⟩, zdr⟩
def laws_heldBoard.f (k : Nat) (a0_0 : Int) (a0_1 : Int) (l0_2 : List (S62)) (a1 : Int) : Option (Int) := (laws_heldPieceS.f k l0_2 a1).bind fun t219 => (if t219 < 0 then (some (-1)) else (some t219))
theorem laws_heldBoard.mono : ∀ a0 a1 a2 a3 k, LeO (laws_heldBoard.f k a0 a1 a2 a3) (laws_heldBoard.f (k + 1) a0 a1 a2 a3) := by
 intro a0 a1 a2 a3 k
 unfold laws_heldBoard.f
 repeat' first | (with_reducible first | apply laws_heldPieceS.mono | exact LeO.refl _ | exact LeO.none _ | refine LeO.ite ?_ ?_ | refine LeO.bind ?_ (fun _ => ?_)) | apply laws_heldPieceS.mono | exact LeO.none _ | refine LeO.ite ?_ ?_ | refine LeO.bind ?_ (fun _ => ?_)
theorem laws_heldBoard.calls (k : Nat) (a0_0 : Int) (a0_1 : Int) (A0_2 : Option Addr) (c0_2 : Nat) (l0_2 : List (S62)) (a1 : Int) (r : Int) (w : World) (hr0_2 : Kd.C k62 w A0_2 l0_2.length l0_2) (hc0_2 : l0_2.length ≤ c0_2) (h : laws_heldBoard.f k a0_0 a0_1 l0_2 a1 = some r) :
    Calls Try.prog 13 #[.agg #[.int .i8 a0_0, .int .i8 a0_1, .slice A0_2 l0_2.length c0_2], .int .i64 a1] w fun e w' => e = .returned (.int .i64 r) ∧ Below w.heap.size w w' := by
 have hu30 := Try.underlying30
 have HR0_2 := Aside0.mk hr0_2
 have HC0_2 := Aside0.mk hc0_2
 clear hr0_2 hc0_2
 have HB := Aside0.mk (Below.refl w.heap.size w)
 have H : ((laws_heldPieceS.f k l0_2 a1).bind fun t219 => (if t219 < 0 then (some (-1)) else (some t219))) = some r := h
 clear h
 replace H := zob H
 obtain ⟨t219, A30, H⟩ := H
 replace H : (if t219 < 0 then (some (-1)) else (some t219)) = some r := H
 have A3 := Aside0.mk A30
 clear A30
 by_cases c4 : t219 < 0
 ·rw [if_pos c4] at H
  have c4b0 : decide (t219 < 0) = true := decide_eq_true c4
  clear c4
  obtain rfl := Option.some.inj H
  go_enter Try.func13, Try.ntmps13
  go_wp2_with (first | ((with_reducible refine gate_dst (N := 2) rfl ?_); refine zbx 2 #[.int .i8 a0_0, .int .i8 a0_1, .slice A0_2 l0_2.length c0_2] 30 ?_; intro gb218 hg w5 hbox hb; have n_ : _ ∧ _ ∧ _ ∧ _ := ⟨zb HB hb, Aside0.mk (hbox), zg HB hg, zg HB hg⟩; clear HB; obtain ⟨HB, BK218, GW218, GE218⟩ := n_; clear hb hbox hg; obtain ⟨z6_0, z6_1, z6_2, y6_0, y6_1, y6_2⟩ := zB3 BK218) | ((with_reducible refine gate_callee (f := 34) rfl ?_); refine goesL_ (some 8) rfl rfl Try.func34 (by kernel_rfl) rfl #[.slice A0_2 l0_2.length c0_2, .int .i64 a1] rfl zm ?_; (with_reducible refine (laws_heldPieceS.calls k _ _ l0_2 a1 t219 _ ?side1 ?side2 A3.out).mono ?_); (case side1 => exact zcc HB HR0_2.out); (case side2 => exact HC0_2.out); rintro e w' ⟨rfl, ⟨nd, rfl⟩⟩; refine ⟨_, rfl, ?_⟩))
  go_ret
  exact ⟨zv, zbo⟩
 rw [if_neg c4] at H
 have c4b0 : decide (t219 < 0) = false := decide_eq_false c4
 clear c4
 obtain rfl := Option.some.inj H
 go_enter Try.func13, Try.ntmps13
 go_wp2_with (first | ((with_reducible refine gate_dst (N := 2) rfl ?_); refine zbx 2 #[.int .i8 a0_0, .int .i8 a0_1, .slice A0_2 l0_2.length c0_2] 30 ?_; intro gb218 hg w7 hbox hb; have n_ : _ ∧ _ ∧ _ ∧ _ := ⟨zb HB hb, Aside0.mk (hbox), zg HB hg, zg HB hg⟩; clear HB; obtain ⟨HB, BK218, GW218, GE218⟩ := n_; clear hb hbox hg; obtain ⟨z8_0, z8_1, z8_2, y8_0, y8_1, y8_2⟩ := zB3 BK218) | ((with_reducible refine gate_callee (f := 34) rfl ?_); refine goesL_ (some 8) rfl rfl Try.func34 (by kernel_rfl) rfl #[.slice A0_2 l0_2.length c0_2, .int .i64 a1] rfl zm ?_; (with_reducible refine (laws_heldPieceS.calls k _ _ l0_2 a1 t219 _ ?side1 ?side2 A3.out).mono ?_); (case side1 => exact zcc HB HR0_2.out); (case side2 => exact HC0_2.out); rintro e w' ⟨rfl, ⟨nd, rfl⟩⟩; refine ⟨_, rfl, ?_⟩))
 go_ret
 exact ⟨zv, zbo⟩
end Go.Proofs.Ytdjhcnepndflmaa.PFnExactTakePiece
