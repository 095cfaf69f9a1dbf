-- WRITTEN by xprint.py, a program of this session's. Not trusted: Lean checks it.
-- packed by pack.py
import Derived.Test.YtmpmanfoiocfgaaPFnExactMergeOfx0
import Derived.Test.YtmpmanfoiocfgaaPFnExactMergeOfx1
import Derived.Test.YtmpmanfoiocfgaaPFnExactMergeOfx2
import Derived.Test.YtmpmanfoiocfgaaPFnExactMergeOfx3
import Derived.Test.YtmpmanfoiocfgaaPFnExactMergeOfx7
import Derived.Test.YtmpmanfoiocfgaaPFnExactMergeOfx11
import Derived.Test.YtmpmanfoiocfgaaTFnExactMergeOfa
namespace Go.Proofs.Ytmpmanfoiocfgaa.PFnExactMergeOf
open Go.RowKit Go.Proofs.YtmpmanfoiocfgaaW.PrintWords Go.Proofs.YtmpmanfoiocfgaaW.PrintLast Go.Proofs.YtmpmanfoiocfgaaW.PrintMore Go.Proofs.YtmpmanfoiocfgaaX
attribute [local go_sem] max2_int min2_int max_two min_two max_three min_three max_four min_four   -- for this text's walks alone
set_option linter.unusedVariables false
set_option linter.unusedSimpArgs false

/-! ### laws_markInt64S: function 69 -/
def laws_markInt64S.l0 : Nat → List Int → Int → Int → Option (Int × List Int)
  | 0, _, _, _ => none
  | k + 1, x0, x1, x5 => if x5 < (x0.length : Int) then (if 0 ≤ x5 then (laws_markInt64S.l0 k (x0.set (x5 : Int).toNat x1) (wrap64 (x1 + 1)) (wrap64 (x5 + 1))) else (none)) else (some (x1, x0))
def laws_markInt64S.f (k : Nat) (l0 : List Int) (a1 : Int) : Option (Int × List Int) := laws_markInt64S.l0 k l0 a1 0
theorem laws_markInt64S.mono_l : ∀ k, (∀ y0 y1 y2, LeO (laws_markInt64S.l0 k y0 y1 y2) (laws_markInt64S.l0 (k + 1) y0 y1 y2))
  | 0 => fun _ _ _ r h => by simp [laws_markInt64S.l0] at h
  | k + 1 => by
    have ih0 := laws_markInt64S.mono_l k
    · intro y0 y1 y2
      unfold laws_markInt64S.l0
      repeat' first | (with_reducible first | apply ih0 | exact LeO.refl _ | exact LeO.none _ | refine LeO.ite ?_ ?_ | refine LeO.bind ?_ (fun _ => ?_)) | apply ih0 | exact LeO.none _ | refine LeO.ite ?_ ?_ | refine LeO.bind ?_ (fun _ => ?_)
theorem laws_markInt64S.mono : ∀ a0 a1 k, LeO (laws_markInt64S.f k a0 a1) (laws_markInt64S.f (k + 1) a0 a1) := by
 intro a0 a1 k
 have ih0 := laws_markInt64S.mono_l k
 unfold laws_markInt64S.f
 repeat' first | (with_reducible first | apply ih0 | exact LeO.refl _ | exact LeO.none _ | refine LeO.ite ?_ ?_ | refine LeO.bind ?_ (fun _ => ?_)) | apply ih0 | exact LeO.none _ | refine LeO.ite ?_ ?_ | refine LeO.bind ?_ (fun _ => ?_)
set_option maxHeartbeats 8000000 in
set_option maxRecDepth 100000 in
theorem laws_markInt64S.calls (k : Nat) (P0_ : Nat → Prop) (u9000_ : Value) (l0 : List Int) (a1 : Int) (r1 : Int) (r2 : List Int) (w0 w : World) (hB : Below w0.heap.size w0 w) (ho0 : Kd.R (Kd.int .i64) 2 w w0.heap.size P0_ u9000_ l0) (h : laws_markInt64S.f k l0 a1 = some (r1, r2)) :
    Calls Try.prog 69 #[u9000_, .int .i64 a1] w fun e w' => e = .returned (.int .i64 r1) ∧ Kd.R (Kd.int .i64) 2 w' w0.heap.size (fun k_ => (P0_ k_ ∨ w.heap.size ≤ k_)) u9000_ r2 ∧ Below w0.heap.size w0 w' ∧ Kept w w' (fun k_ => P0_ k_) := by
 have HO0 := Aside0.mk (show Kd.R (Kd.int .i64) 2 w w0.heap.size (fun k_ => (P0_ k_ ∨ w.heap.size ≤ k_)) u9000_ l0 from Kd.R_mono ho0 (fun k_ hk => (.inl hk)))
 have HK := Aside0.mk (Kept.refl w (fun k_ => P0_ k_))
 have HW0 := Aside0.mk hB.size
 have HB := Aside0.mk hB
 clear hB
 have H : (laws_markInt64S.l0 k l0 a1 0) = some (r1, r2) := h
 clear h
 have H' := Aside0.mk H
 clear H
 go_enter Try.func69, Try.ntmps69
 go_wp2
 go_loopg [1, 5] k (fun kq v1 v5 w' => ∃ (x0_1 : List Int) (x1_1 : Int) (x5_1 : Int), v1 = .int .i64 x1_1 ∧ v5 = .int .i64 x5_1 ∧ Aside0 (laws_markInt64S.l0 kq x0_1 x1_1 x5_1 = some (r1, r2)) ∧ Aside0 (kq ≤ k) ∧ Aside0 (Kd.R (Kd.int .i64) 2 w' w0.heap.size (fun k_ => (P0_ k_ ∨ w.heap.size ≤ k_)) u9000_ x0_1) ∧ Aside0 (Kept w w' (fun k_ => P0_ k_)) ∧ Aside0 (Below w0.heap.size w0 w'))
 case atStart => exact ⟨(l0), (a1), (0), (by first | rfl | (simp; done) | (simp [*]; done) | (exact congrArg (Value.int .i64) (wrap_eq (by omega)))), (by first | rfl | (simp; done) | (simp [*]; done) | (exact congrArg (Value.int .i64) (wrap_eq (by omega)))), H', ⟨Nat.le_refl _⟩, ze HO0, ⟨by repeat (first | (with_reducible first | exact HK.out | apply Kept.alloc | apply Kept.drewN | apply Kept.drew) | exact HK.out)⟩, zl HB⟩
 clear H'
 try clear p2
 obtain ⟨x0_1, x1_1, x5_1, rfl, rfl, HA, HK1, HO_0, HK, HB⟩ := hrel
 cases gk with
 | zero => exact absurd HA.out (by simp [laws_markInt64S.l0])
 | succ k1 => ?_
 have H := HA.out
 clear HA
 simp only [laws_markInt64S.l0] at H
 by_cases c3 : x5_1 < (x0_1.length : Int)
 rotate_left
 ·rw [if_neg c3] at H
  have c3b0 : decide (x5_1 < (x0_1.length : Int)) = false := decide_eq_false c3
  clear c3
  simp only [Option.some.injEq, Prod.mk.injEq] at H
  obtain ⟨rfl, rfl⟩ := H
  obtain ⟨Ao9, co9, eo9⟩ := Kd.R_slice HO_0.out
  subst eo9
  go_wp2
  go_ret
  exact ⟨by first | rfl | (simp [errW_none, errW_some] <;> rfl) | (simp [*, errW_none, errW_some] <;> rfl), by (with_reducible repeat (first | apply Kd.R_alloc | apply Kd.R_drewN | apply Kd.R_drew)); exact HO_0.out, by repeat (first | (with_reducible first | exact HB.out | apply below_alloc | apply pw_below_drewN | apply below_drew1) | exact HB.out), by repeat (first | (with_reducible first | exact HK.out | apply Kept.alloc | apply Kept.drewN | apply Kept.drew) | exact HK.out)⟩
 rw [if_pos c3] at H
 have c3b0 : decide (x5_1 < (x0_1.length : Int)) = true := decide_eq_true c3
 clear c3
 by_cases c4 : 0 ≤ x5_1
 rotate_left
 ·rw [if_neg c4] at H
  exact absurd H (by simp)
 rw [if_pos c4] at H
 have c4b0 : decide (0 ≤ x5_1) = true := decide_eq_true c4
 clear c4
 obtain ⟨y384, hy384⟩ : ∃ y_ : List Int, y_ = (x0_1.set (x5_1 : Int).toNat x1_1) := ⟨_, rfl⟩
 replace H : (laws_markInt64S.l0 k1 y384 (wrap64 (x1_1 + 1)) (wrap64 (x5_1 + 1))) = some (r1, r2) := by first | (rw [hy384]; with_reducible exact H) | (have H2_ := (Option.bind_some _ _).symm.trans H; rw [hy384]; with_reducible exact H2_) | (have H2_ := (Option.bind_some _ _).symm.trans H; with_reducible exact H2_) | with_reducible exact H | (rw [hy384]; exact H) | exact H
 have Ny384 := Aside0.mk hy384
 clear hy384
 have H' := Aside0.mk H
 clear H
 obtain ⟨Ao6, co6, eo6⟩ := Kd.R_slice HO_0.out
 subst eo6
 have p5 : 0 ≤ (x5_1 : Int) := of_decide_eq_true (by first | (with_reducible assumption) | assumption)
 have q5 : (x5_1 : Int) < ((x0_1.length : Int) : Int) := of_decide_eq_true (by first | (with_reducible assumption) | assumption)
 obtain ⟨go5, co5, eo5, gb5, gl5, cl5, HG5⟩ := Kd.R_form HO_0.out (by omega)
 (first | cases eo5 | (injection eo5 with ea_ en_ ec_; (first | subst ea_ | (injection ea_ with ea_; subst ea_)); subst ec_; clear en_))
 have GB5 := Aside0.mk gb5
 have GG5 := Aside0.mk HG5
 clear gb5 gl5 HG5
 have HMgo5 := Aside0.mk (show (P0_ go5 ∨ w.heap.size ≤ go5) from (HO_0.out.1 _ rfl))
 obtain ⟨hx5_0, hf5_0⟩ := Kd.R_celln 0 HO_0.out (x5_1 : Int) p5 q5
 replace p5 := eq_true p5
 replace q5 := eq_true q5
 have HP7 := Kd.R_putg HO_0.out (x5_1 : Int) x1_1
 go_wp2_with (first | ((with_reducible refine gate_store (t := 2) (p := 15) rfl ?_); refine store_event (t := 2) (p := 15) (v := ?vo_w8) (w1 := (wr.setCell ⟨go5, (x5_1 : Int).toNat, none⟩ (.int .i64 x1_1))) ?hg ?ho ?hn ?hr ?_; (case ho => rfl); (case hg => rfl); (case hn => rfl); (case hr => first | (go_simp; done) | (go_simp; rfl)); intro w8 hw; have hg : wr.grownBy w8 (some go5) := (by rw [hw]; exact HP7.2); have hp_ : Kd.R (Kd.int .i64) 2 w8 w0.heap.size (fun k_ => (P0_ k_ ∨ w.heap.size ≤ k_)) (.slice (some ⟨go5, 0, none⟩) x0_1.length co6) y384 := (by rw [hw, Ny384.out]; exact HP7.1); clear HP7; have n_ : _ ∧ _ ∧ _ := ⟨Aside0.mk (hp_), Aside0.mk ((by rw [hw]; exact below_set (HB.out) GB5.out : Below w0.heap.size w0 w8)), Aside0.mk (Kept.of_grown (S := (fun k_ => P0_ k_)) hg (by repeat (first | (with_reducible first | exact HK.out | apply Kept.alloc | apply Kept.drewN | apply Kept.drew) | exact HK.out)) (fun k_ e_ => (HO_0.out.1 k_ e_)))⟩; clear HO_0 HB HK; obtain ⟨HO_0, HB, HK⟩ := n_; clear hg hw hp_))
 go_roundg k1
 case measure => have := HK1.out; omega
 case rel => exact ⟨(y384), (wrap64 (x1_1 + 1)), (wrap64 (x5_1 + 1)), (by first | rfl | (simp; done) | (simp [*]; done) | (exact congrArg (Value.int .i64) (wrap_eq (by omega)))), (by first | rfl | (simp; done) | (simp [*]; done) | (exact congrArg (Value.int .i64) (wrap_eq (by omega)))), H', ⟨by have := HK1.out; omega⟩, ze HO_0, ⟨by repeat (first | (with_reducible first | exact HK.out | apply Kept.alloc | apply Kept.drewN | apply Kept.drew) | exact HK.out)⟩, zl HB⟩
/-! ### laws_heldInt64S: function 70 -/
def laws_heldInt64S.l0 : Nat → List Int → Int → Int → Option (Int)
  | 0, _, _, _ => none
  | k + 1, x0, x1, x5 => if x5 < (x0.length : Int) then (if 0 ≤ x5 then (if (rd x0 x5) = x1 then (laws_heldInt64S.l0 k x0 (wrap64 (x1 + 1)) (wrap64 (x5 + 1))) else (some (-1))) else (none)) else (some x1)
def laws_heldInt64S.f (k : Nat) (l0 : List Int) (a1 : Int) : Option (Int) := laws_heldInt64S.l0 k l0 a1 0
theorem laws_heldInt64S.mono_l : ∀ k, (∀ y0 y1 y2, LeO (laws_heldInt64S.l0 k y0 y1 y2) (laws_heldInt64S.l0 (k + 1) y0 y1 y2))
  | 0 => fun _ _ _ r h => by simp [laws_heldInt64S.l0] at h
  | k + 1 => by
    have ih0 := laws_heldInt64S.mono_l k
    · intro y0 y1 y2
      unfold laws_heldInt64S.l0
      repeat' first | (with_reducible first | apply ih0 | exact LeO.refl _ | exact LeO.none _ | refine LeO.ite ?_ ?_ | refine LeO.bind ?_ (fun _ => ?_)) | apply ih0 | exact LeO.none _ | refine LeO.ite ?_ ?_ | refine LeO.bind ?_ (fun _ => ?_)
theorem laws_heldInt64S.mono : ∀ a0 a1 k, LeO (laws_heldInt64S.f k a0 a1) (laws_heldInt64S.f (k + 1) a0 a1) := by
 intro a0 a1 k
 have ih0 := laws_heldInt64S.mono_l k
 unfold laws_heldInt64S.f
 repeat' first | (with_reducible first | apply ih0 | exact LeO.refl _ | exact LeO.none _ | refine LeO.ite ?_ ?_ | refine LeO.bind ?_ (fun _ => ?_)) | apply ih0 | exact LeO.none _ | refine LeO.ite ?_ ?_ | refine LeO.bind ?_ (fun _ => ?_)
set_option maxHeartbeats 8000000 in
set_option maxRecDepth 100000 in
theorem laws_heldInt64S.calls (k : Nat) (A0 : Option Addr) (c0 : Nat) (l0 : List Int) (a1 : Int) (r : Int) (w : World) (hr0 : Kd.C (Kd.int .i64) w A0 l0.length l0) (hc0 : l0.length ≤ c0) (h : laws_heldInt64S.f k l0 a1 = some r) :
    Calls Try.prog 70 #[.slice A0 l0.length c0, .int .i64 a1] w fun e w' => e = .returned (.int .i64 r) ∧ Drawn0 w w' := by
 have HR0 := Aside0.mk hr0
 have HC0 := Aside0.mk hc0
 clear hr0 hc0
 have H : (laws_heldInt64S.l0 k l0 a1 0) = some r := h
 clear h
 have H' := Aside0.mk H
 clear H
 go_enter Try.func70, Try.ntmps70
 go_wp2
 go_loopg [1, 5] k (fun kq v1 v5 w' => ∃ (x1_1 : Int) (x5_1 : Int), v1 = .int .i64 x1_1 ∧ v5 = .int .i64 x5_1 ∧ Aside0 (laws_heldInt64S.l0 kq l0 x1_1 x5_1 = some r) ∧ Aside0 (kq ≤ k) ∧ Drawn0 w w')
 case atStart => exact ⟨(a1), (0), (by first | rfl | (simp; done) | (simp [*]; done) | (exact congrArg (Value.int .i64) (wrap_eq (by omega)))), (by first | rfl | (simp; done) | (simp [*]; done) | (exact congrArg (Value.int .i64) (wrap_eq (by omega)))), H', ⟨Nat.le_refl _⟩, by repeat (first | exact Drawn0.refl _ | apply Drawn0.step)⟩
 clear H'
 try clear p2
 obtain ⟨x1_1, x5_1, rfl, rfl, HA, HK1, ⟨m1, rfl⟩⟩ := hrel
 cases gk with
 | zero => exact absurd HA.out (by simp [laws_heldInt64S.l0])
 | succ k1 => ?_
 have H := HA.out
 clear HA
 simp only [laws_heldInt64S.l0] at H
 by_cases c3 : x5_1 < (l0.length : Int)
 rotate_left
 ·rw [if_neg c3] at H
  have c3b0 : decide (x5_1 < (l0.length : Int)) = false := decide_eq_false c3
  clear c3
  obtain rfl := Option.some.inj H
  go_wp2
  go_ret
  exact ⟨by first | rfl | (simp; done) | (simp [*]; done) | (exact congrArg (Value.int .i64) (wrap_eq (by omega))), by repeat (first | exact Drawn0.refl _ | apply Drawn0.step)⟩
 rw [if_pos c3] at H
 have c3b0 : decide (x5_1 < (l0.length : Int)) = true := decide_eq_true c3
 clear c3
 by_cases c4 : 0 ≤ x5_1
 rotate_left
 ·rw [if_neg c4] at H
  exact absurd H (by simp)
 rw [if_pos c4] at H
 have c4b0 : decide (0 ≤ x5_1) = true := decide_eq_true c4
 clear c4
 by_cases c5 : (rd l0 x5_1) = x1_1
 rotate_left
 ·rw [if_neg c5] at H
  have c5b0 : ((rd l0 x5_1) == x1_1) = false := beq_eq_false_iff_ne.mpr c5
  have c5b1 : ((rd l0 x5_1) != x1_1) = true := bne_iff_ne.mpr c5
  obtain rfl := Option.some.inj H
  have p385 : 0 ≤ (x5_1 : Int) := of_decide_eq_true (by first | (with_reducible assumption) | assumption)
  have q385 : x5_1 < (l0.length : Int) := of_decide_eq_true (by first | (with_reducible assumption) | assumption)
  obtain ⟨ad385, e385, hx385_0⟩ := Kd.at_int HR0.out x5_1 p385 q385
  cases e385
  replace p385 := eq_true p385
  replace q385 := eq_true q385
  go_wp2
  go_ret
  exact ⟨by first | rfl | (simp; done) | (simp [*]; done) | (exact congrArg (Value.int .i64) (wrap_eq (by omega))), by repeat (first | exact Drawn0.refl _ | apply Drawn0.step)⟩
 rw [if_pos c5] at H
 have c5b0 : ((rd l0 x5_1) == x1_1) = true := beq_iff_eq.mpr c5
 have c5b1 : ((rd l0 x5_1) != x1_1) = false := bne_eq_false_iff_eq.mpr c5
 clear c5
 have H' := Aside0.mk H
 clear H
 have p385 : 0 ≤ (x5_1 : Int) := of_decide_eq_true (by first | (with_reducible assumption) | assumption)
 have q385 : x5_1 < (l0.length : Int) := of_decide_eq_true (by first | (with_reducible assumption) | assumption)
 obtain ⟨ad385, e385, hx385_0⟩ := Kd.at_int HR0.out x5_1 p385 q385
 cases e385
 replace p385 := eq_true p385
 replace q385 := eq_true q385
 go_wp2
 go_roundg k1
 case measure => have := HK1.out; omega
 case rel => exact ⟨(wrap64 (x1_1 + 1)), (wrap64 (x5_1 + 1)), (by first | rfl | (simp; done) | (simp [*]; done) | (exact congrArg (Value.int .i64) (wrap_eq (by omega)))), (by first | rfl | (simp; done) | (simp [*]; done) | (exact congrArg (Value.int .i64) (wrap_eq (by omega)))), H', ⟨by have := HK1.out; omega⟩, by repeat (first | exact Drawn0.refl _ | apply Drawn0.step)⟩
/-! ### laws_FnExactMergeOf: function 18 -/
def laws_FnExactMergeOf.f (k : Nat) (a0_0 : Int) (l0_1 : List (S131)) (l0_2 : List Int) : Option (Bool) := (laws_szNetwork.f a0_0 l0_1 l0_2 1048576).bind fun t387 => (if t387 < 0 then (some true) else ((laws_toNetwork.f k a0_0 l0_1 l0_2).bind fun bt388 => ((spec_MergeOf.f k bt388.1 bt388.2.1 bt388.2.2).bind fun bt395 => ((laws_toNetwork.f k a0_0 l0_1 l0_2).bind fun bt407 => ((impl_MergeOf.f k bt407.1 bt407.2.1 bt407.2.2).bind fun bt415 => ((laws_eqNetwork.f k bt415.1 bt415.2.1 bt415.2.2.1 bt395.1 bt395.2.1 bt395.2.2.1).bind fun t427 => (if t427 = true then ((laws_eqInt64S.f k bt415.2.2.2.1 bt395.2.2.2.1).bind fun t428 => (if t428 = true then (if bt415.2.2.2.2 = bt395.2.2.2.2 then ((laws_toNetwork.f k a0_0 l0_1 l0_2).bind fun bt429 => ((laws_eqNetwork.f k bt407.1 bt407.2.1 bt407.2.2 bt429.1 bt429.2.1 bt429.2.2).bind fun t436 => (if t436 = true then ((laws_markNetwork.f k bt407.1 bt407.2.1 bt407.2.2 1).bind fun bt437 => (if bt437.1 < 0 then (none) else ((laws_eqNetwork.f k bt415.1 bt415.2.1 bt415.2.2.1 bt395.1 bt395.2.1 bt395.2.2.1).bind fun t440 => (if t440 = true then ((laws_eqInt64S.f k bt415.2.2.2.1 bt395.2.2.2.1).bind fun t441 => (if t441 = true then ((laws_markNetwork.f k bt415.1 bt415.2.1 bt415.2.2.1 1).bind fun bt442 => ((laws_markInt64S.f k bt415.2.2.2.1 bt442.1).bind fun bt445 => ((laws_heldNetwork.f k bt415.1 bt442.2.1 bt442.2.2 1).bind fun t447 => (if t447 < 0 then (none) else ((laws_heldInt64S.f k bt445.2 t447).bind fun t448 => (if t448 < 0 then (none) else (if t448 = bt445.1 then ((laws_toNetwork.f k a0_0 l0_1 l0_2).bind fun bt449 => ((impl_MergeOf.f k bt449.1 bt449.2.1 bt449.2.2).bind fun bt456 => ((laws_eqNetwork.f k bt456.1 bt456.2.1 bt456.2.2.1 bt395.1 bt395.2.1 bt395.2.2.1).bind fun t468 => (if t468 = true then ((laws_eqInt64S.f k bt456.2.2.2.1 bt395.2.2.2.1).bind fun t469 => (if t469 = true then (if bt456.2.2.2.2 = bt395.2.2.2.2 then ((laws_heldNetwork.f k bt415.1 bt442.2.1 bt442.2.2 1).bind fun t470 => (if t470 < 0 then (none) else ((laws_heldInt64S.f k bt445.2 t470).bind fun t471 => (if t471 < 0 then (none) else (if t471 = bt445.1 then (some true) else (none)))))) else (none)) else (none))) else (none))))) else (none)))))))) else (none))) else (none))))) else (none)))) else (none)) else (none))) else (none))))))))
theorem laws_FnExactMergeOf.mono : ∀ a0 a1 a2 k, LeO (laws_FnExactMergeOf.f k a0 a1 a2) (laws_FnExactMergeOf.f (k + 1) a0 a1 a2) := by
 intro a0 a1 a2 k
 unfold laws_FnExactMergeOf.f
 repeat' first | (with_reducible first | apply impl_MergeOf.mono | apply laws_eqInt64S.mono | apply laws_eqNetwork.mono | apply laws_heldInt64S.mono | apply laws_heldNetwork.mono | apply laws_markInt64S.mono | apply laws_markNetwork.mono | apply laws_toNetwork.mono | apply spec_MergeOf.mono | exact LeO.refl _ | exact LeO.none _ | refine LeO.ite ?_ ?_ | refine LeO.bind ?_ (fun _ => ?_)) | apply impl_MergeOf.mono | apply laws_eqInt64S.mono | apply laws_eqNetwork.mono | apply laws_heldInt64S.mono | apply laws_heldNetwork.mono | apply laws_markInt64S.mono | apply laws_markNetwork.mono | apply laws_toNetwork.mono | apply spec_MergeOf.mono | exact LeO.none _ | refine LeO.ite ?_ ?_ | refine LeO.bind ?_ (fun _ => ?_)
set_option maxHeartbeats 8000000 in
set_option maxRecDepth 100000 in
theorem laws_FnExactMergeOf.calls (k : Nat) (a0_0 : Int) (A0_1 : Option Addr) (c0_1 : Nat) (l0_1 : List (S131)) (A0_2 : Option Addr) (c0_2 : Nat) (l0_2 : List Int) (r : Bool) (w : World) (hr0_1 : Kd.C k131 w A0_1 l0_1.length l0_1) (hc0_1 : l0_1.length ≤ c0_1) (hr0_2 : Kd.C (Kd.int .i16) w A0_2 l0_2.length l0_2) (hc0_2 : l0_2.length ≤ c0_2) (h : laws_FnExactMergeOf.f k a0_0 l0_1 l0_2 = some r) :
    Calls Try.prog 18 #[.agg #[.int .i8 a0_0, .slice A0_1 l0_1.length c0_1, .slice A0_2 l0_2.length c0_2]] w fun e w' => e = .returned (.bool r) ∧ Below w.heap.size w w' := by
 have hu26 := Try.underlying26
 have hu31 := Try.underlying31
 have HR0_1 := Aside0.mk hr0_1
 have HC0_1 := Aside0.mk hc0_1
 clear hr0_1 hc0_1
 have HR0_2 := Aside0.mk hr0_2
 have HC0_2 := Aside0.mk hc0_2
 clear hr0_2 hc0_2
 have HB := Aside0.mk (Below.refl w.heap.size w)
 have H : ((laws_szNetwork.f a0_0 l0_1 l0_2 1048576).bind fun t387 => (if t387 < 0 then (some true) else ((laws_toNetwork.f k a0_0 l0_1 l0_2).bind fun bt388 => ((spec_MergeOf.f k bt388.1 bt388.2.1 bt388.2.2).bind fun bt395 => ((laws_toNetwork.f k a0_0 l0_1 l0_2).bind fun bt407 => ((impl_MergeOf.f k bt407.1 bt407.2.1 bt407.2.2).bind fun bt415 => ((laws_eqNetwork.f k bt415.1 bt415.2.1 bt415.2.2.1 bt395.1 bt395.2.1 bt395.2.2.1).bind fun t427 => (if t427 = true then ((laws_eqInt64S.f k bt415.2.2.2.1 bt395.2.2.2.1).bind fun t428 => (if t428 = true then (if bt415.2.2.2.2 = bt395.2.2.2.2 then ((laws_toNetwork.f k a0_0 l0_1 l0_2).bind fun bt429 => ((laws_eqNetwork.f k bt407.1 bt407.2.1 bt407.2.2 bt429.1 bt429.2.1 bt429.2.2).bind fun t436 => (if t436 = true then ((laws_markNetwork.f k bt407.1 bt407.2.1 bt407.2.2 1).bind fun bt437 => (if bt437.1 < 0 then (none) else ((laws_eqNetwork.f k bt415.1 bt415.2.1 bt415.2.2.1 bt395.1 bt395.2.1 bt395.2.2.1).bind fun t440 => (if t440 = true then ((laws_eqInt64S.f k bt415.2.2.2.1 bt395.2.2.2.1).bind fun t441 => (if t441 = true then ((laws_markNetwork.f k bt415.1 bt415.2.1 bt415.2.2.1 1).bind fun bt442 => ((laws_markInt64S.f k bt415.2.2.2.1 bt442.1).bind fun bt445 => ((laws_heldNetwork.f k bt415.1 bt442.2.1 bt442.2.2 1).bind fun t447 => (if t447 < 0 then (none) else ((laws_heldInt64S.f k bt445.2 t447).bind fun t448 => (if t448 < 0 then (none) else (if t448 = bt445.1 then ((laws_toNetwork.f k a0_0 l0_1 l0_2).bind fun bt449 => ((impl_MergeOf.f k bt449.1 bt449.2.1 bt449.2.2).bind fun bt456 => ((laws_eqNetwork.f k bt456.1 bt456.2.1 bt456.2.2.1 bt395.1 bt395.2.1 bt395.2.2.1).bind fun t468 => (if t468 = true then ((laws_eqInt64S.f k bt456.2.2.2.1 bt395.2.2.2.1).bind fun t469 => (if t469 = true then (if bt456.2.2.2.2 = bt395.2.2.2.2 then ((laws_heldNetwork.f k bt415.1 bt442.2.1 bt442.2.2 1).bind fun t470 => (if t470 < 0 then (none) else ((laws_heldInt64S.f k bt445.2 t470).bind fun t471 => (if t471 < 0 then (none) else (if t471 = bt445.1 then (some true) else (none)))))) else (none)) else (none))) else (none))))) else (none)))))))) else (none))) else (none))))) else (none)))) else (none)) else (none))) else (none))))))))) = some r := h
 clear h
 replace H := Option.bind_eq_some_iff.mp H
 obtain ⟨t387, A20, H⟩ := H
 replace H : (if t387 < 0 then (some true) else ((laws_toNetwork.f k a0_0 l0_1 l0_2).bind fun bt388 => ((spec_MergeOf.f k bt388.1 bt388.2.1 bt388.2.2).bind fun bt395 => ((laws_toNetwork.f k a0_0 l0_1 l0_2).bind fun bt407 => ((impl_MergeOf.f k bt407.1 bt407.2.1 bt407.2.2).bind fun bt415 => ((laws_eqNetwork.f k bt415.1 bt415.2.1 bt415.2.2.1 bt395.1 bt395.2.1 bt395.2.2.1).bind fun t427 => (if t427 = true then ((laws_eqInt64S.f k bt415.2.2.2.1 bt395.2.2.2.1).bind fun t428 => (if t428 = true then (if bt415.2.2.2.2 = bt395.2.2.2.2 then ((laws_toNetwork.f k a0_0 l0_1 l0_2).bind fun bt429 => ((laws_eqNetwork.f k bt407.1 bt407.2.1 bt407.2.2 bt429.1 bt429.2.1 bt429.2.2).bind fun t436 => (if t436 = true then ((laws_markNetwork.f k bt407.1 bt407.2.1 bt407.2.2 1).bind fun bt437 => (if bt437.1 < 0 then (none) else ((laws_eqNetwork.f k bt415.1 bt415.2.1 bt415.2.2.1 bt395.1 bt395.2.1 bt395.2.2.1).bind fun t440 => (if t440 = true then ((laws_eqInt64S.f k bt415.2.2.2.1 bt395.2.2.2.1).bind fun t441 => (if t441 = true then ((laws_markNetwork.f k bt415.1 bt415.2.1 bt415.2.2.1 1).bind fun bt442 => ((laws_markInt64S.f k bt415.2.2.2.1 bt442.1).bind fun bt445 => ((laws_heldNetwork.f k bt415.1 bt442.2.1 bt442.2.2 1).bind fun t447 => (if t447 < 0 then (none) else ((laws_heldInt64S.f k bt445.2 t447).bind fun t448 => (if t448 < 0 then (none) else (if t448 = bt445.1 then ((laws_toNetwork.f k a0_0 l0_1 l0_2).bind fun bt449 => ((impl_MergeOf.f k bt449.1 bt449.2.1 bt449.2.2).bind fun bt456 => ((laws_eqNetwork.f k bt456.1 bt456.2.1 bt456.2.2.1 bt395.1 bt395.2.1 bt395.2.2.1).bind fun t468 => (if t468 = true then ((laws_eqInt64S.f k bt456.2.2.2.1 bt395.2.2.2.1).bind fun t469 => (if t469 = true then (if bt456.2.2.2.2 = bt395.2.2.2.2 then ((laws_heldNetwork.f k bt415.1 bt442.2.1 bt442.2.2 1).bind fun t470 => (if t470 < 0 then (none) else ((laws_heldInt64S.f k bt445.2 t470).bind fun t471 => (if t471 < 0 then (none) else (if t471 = bt445.1 then (some true) else (none)))))) else (none)) else (none))) else (none))))) else (none)))))))) else (none))) else (none))))) else (none)))) else (none)) else (none))) else (none)))))))) = some r := H
 have A2 := Aside0.mk A20
 clear A20
 by_cases c3 : t387 < 0
 ·rw [if_pos c3] at H
  have c3b0 : decide (t387 < 0) = true := decide_eq_true c3
  clear c3
  obtain rfl := Option.some.inj H
  go_enter Try.func18, Try.ntmps18
  go_wp2_with (first | ((with_reducible refine gate_dst (N := 1) rfl ?_); refine box_event ?hg (N := 1) ?hd (cs := #[.int .i8 a0_0, .slice A0_1 l0_1.length c0_1, .slice A0_2 l0_2.length c0_2]) (t := 26) ?hr ?_; (case hd => rfl); (case hg => rfl); (case hr => first | (go_simp; done) | (go_simp; rfl)); intro gb386 hg w4 hbox hb; have n_ : _ ∧ _ ∧ _ ∧ _ := ⟨zb HB hb, Aside0.mk (hbox), zg HB hg, zg HB hg⟩; clear HB; obtain ⟨HB, BK386, GW386, GE386⟩ := n_; clear hb hbox hg; obtain ⟨z5_0, z5_1, z5_2, y5_0, y5_1, y5_2⟩ := zB3 BK386) | ((with_reducible refine gate_callee (f := 21) rfl ?_); refine goesL_ (some 19) rfl rfl Try.func21 (by kernel_rfl) rfl #[.agg #[.int .i8 a0_0, .slice A0_1 l0_1.length c0_1, .slice A0_2 l0_2.length c0_2], .int .i64 1048576] rfl (by (try simp only [List.map_toArray, List.map_cons, List.map_nil]); first | done | rfl | (simp only [List.length_drop, List.length_take]; rfl)) ?_; (with_reducible refine (laws_szNetwork.calls a0_0 _ _ l0_1 _ _ l0_2 1048576 t387 _ ?side1 ?side2 ?side3 ?side4 A2.out).mono ?_); (case side1 => exact zcc HB HR0_1.out); (case side2 => exact HC0_1.out); (case side3 => exact zcc HB HR0_2.out); (case side4 => exact HC0_2.out); rintro e w6 ⟨rfl, hb⟩; refine ⟨_, rfl, ?_⟩; have n_ : _ ∧ _ := ⟨zk BK386 hb, zbs hb⟩; clear BK386 HB; obtain ⟨BK386, HB⟩ := n_; (try clear hb); (try clear hb2); (try clear hk); (try clear hi)))
  go_ret
  exact ⟨by first | rfl | (simp [errW_none, errW_some] <;> rfl) | (simp [*, errW_none, errW_some] <;> rfl), by repeat (first | (with_reducible first | exact HB.out | apply below_alloc | apply pw_below_drewN | apply below_drew1 | refine below_set ?_ GE386.out) | exact HB.out)⟩
 rw [if_neg c3] at H
 have c3b0 : decide (t387 < 0) = false := decide_eq_false c3
 clear c3
 replace H := Option.bind_eq_some_iff.mp H
 obtain ⟨⟨t388, t389, t392⟩, A70, H⟩ := H
 replace H : ((spec_MergeOf.f k t388 t389 t392).bind fun bt395 => ((laws_toNetwork.f k a0_0 l0_1 l0_2).bind fun bt407 => ((impl_MergeOf.f k bt407.1 bt407.2.1 bt407.2.2).bind fun bt415 => ((laws_eqNetwork.f k bt415.1 bt415.2.1 bt415.2.2.1 bt395.1 bt395.2.1 bt395.2.2.1).bind fun t427 => (if t427 = true then ((laws_eqInt64S.f k bt415.2.2.2.1 bt395.2.2.2.1).bind fun t428 => (if t428 = true then (if bt415.2.2.2.2 = bt395.2.2.2.2 then ((laws_toNetwork.f k a0_0 l0_1 l0_2).bind fun bt429 => ((laws_eqNetwork.f k bt407.1 bt407.2.1 bt407.2.2 bt429.1 bt429.2.1 bt429.2.2).bind fun t436 => (if t436 = true then ((laws_markNetwork.f k bt407.1 bt407.2.1 bt407.2.2 1).bind fun bt437 => (if bt437.1 < 0 then (none) else ((laws_eqNetwork.f k bt415.1 bt415.2.1 bt415.2.2.1 bt395.1 bt395.2.1 bt395.2.2.1).bind fun t440 => (if t440 = true then ((laws_eqInt64S.f k bt415.2.2.2.1 bt395.2.2.2.1).bind fun t441 => (if t441 = true then ((laws_markNetwork.f k bt415.1 bt415.2.1 bt415.2.2.1 1).bind fun bt442 => ((laws_markInt64S.f k bt415.2.2.2.1 bt442.1).bind fun bt445 => ((laws_heldNetwork.f k bt415.1 bt442.2.1 bt442.2.2 1).bind fun t447 => (if t447 < 0 then (none) else ((laws_heldInt64S.f k bt445.2 t447).bind fun t448 => (if t448 < 0 then (none) else (if t448 = bt445.1 then ((laws_toNetwork.f k a0_0 l0_1 l0_2).bind fun bt449 => ((impl_MergeOf.f k bt449.1 bt449.2.1 bt449.2.2).bind fun bt456 => ((laws_eqNetwork.f k bt456.1 bt456.2.1 bt456.2.2.1 bt395.1 bt395.2.1 bt395.2.2.1).bind fun t468 => (if t468 = true then ((laws_eqInt64S.f k bt456.2.2.2.1 bt395.2.2.2.1).bind fun t469 => (if t469 = true then (if bt456.2.2.2.2 = bt395.2.2.2.2 then ((laws_heldNetwork.f k bt415.1 bt442.2.1 bt442.2.2 1).bind fun t470 => (if t470 < 0 then (none) else ((laws_heldInt64S.f k bt445.2 t470).bind fun t471 => (if t471 < 0 then (none) else (if t471 = bt445.1 then (some true) else (none)))))) else (none)) else (none))) else (none))))) else (none)))))))) else (none))) else (none))))) else (none)))) else (none)) else (none))) else (none)))))) = some r := H
 have A7 := Aside0.mk A70
 clear A70
 replace H := Option.bind_eq_some_iff.mp H
 obtain ⟨⟨t395, t396, t399, t402, t405⟩, A80, H⟩ := H
 replace H : ((laws_toNetwork.f k a0_0 l0_1 l0_2).bind fun bt407 => ((impl_MergeOf.f k bt407.1 bt407.2.1 bt407.2.2).bind fun bt415 => ((laws_eqNetwork.f k bt415.1 bt415.2.1 bt415.2.2.1 t395 t396 t399).bind fun t427 => (if t427 = true then ((laws_eqInt64S.f k bt415.2.2.2.1 t402).bind fun t428 => (if t428 = true then (if bt415.2.2.2.2 = t405 then ((laws_toNetwork.f k a0_0 l0_1 l0_2).bind fun bt429 => ((laws_eqNetwork.f k bt407.1 bt407.2.1 bt407.2.2 bt429.1 bt429.2.1 bt429.2.2).bind fun t436 => (if t436 = true then ((laws_markNetwork.f k bt407.1 bt407.2.1 bt407.2.2 1).bind fun bt437 => (if bt437.1 < 0 then (none) else ((laws_eqNetwork.f k bt415.1 bt415.2.1 bt415.2.2.1 t395 t396 t399).bind fun t440 => (if t440 = true then ((laws_eqInt64S.f k bt415.2.2.2.1 t402).bind fun t441 => (if t441 = true then ((laws_markNetwork.f k bt415.1 bt415.2.1 bt415.2.2.1 1).bind fun bt442 => ((laws_markInt64S.f k bt415.2.2.2.1 bt442.1).bind fun bt445 => ((laws_heldNetwork.f k bt415.1 bt442.2.1 bt442.2.2 1).bind fun t447 => (if t447 < 0 then (none) else ((laws_heldInt64S.f k bt445.2 t447).bind fun t448 => (if t448 < 0 then (none) else (if t448 = bt445.1 then ((laws_toNetwork.f k a0_0 l0_1 l0_2).bind fun bt449 => ((impl_MergeOf.f k bt449.1 bt449.2.1 bt449.2.2).bind fun bt456 => ((laws_eqNetwork.f k bt456.1 bt456.2.1 bt456.2.2.1 t395 t396 t399).bind fun t468 => (if t468 = true then ((laws_eqInt64S.f k bt456.2.2.2.1 t402).bind fun t469 => (if t469 = true then (if bt456.2.2.2.2 = t405 then ((laws_heldNetwork.f k bt415.1 bt442.2.1 bt442.2.2 1).bind fun t470 => (if t470 < 0 then (none) else ((laws_heldInt64S.f k bt445.2 t470).bind fun t471 => (if t471 < 0 then (none) else (if t471 = bt445.1 then (some true) else (none)))))) else (none)) else (none))) else (none))))) else (none)))))))) else (none))) else (none))))) else (none)))) else (none)) else (none))) else (none))))) = some r := H
 have A8 := Aside0.mk A80
 clear A80
 replace H := Option.bind_eq_some_iff.mp H
 obtain ⟨⟨t407, t408, t411⟩, A90, H⟩ := H
 replace H : ((impl_MergeOf.f k t407 t408 t411).bind fun bt415 => ((laws_eqNetwork.f k bt415.1 bt415.2.1 bt415.2.2.1 t395 t396 t399).bind fun t427 => (if t427 = true then ((laws_eqInt64S.f k bt415.2.2.2.1 t402).bind fun t428 => (if t428 = true then (if bt415.2.2.2.2 = t405 then ((laws_toNetwork.f k a0_0 l0_1 l0_2).bind fun bt429 => ((laws_eqNetwork.f k t407 t408 t411 bt429.1 bt429.2.1 bt429.2.2).bind fun t436 => (if t436 = true then ((laws_markNetwork.f k t407 t408 t411 1).bind fun bt437 => (if bt437.1 < 0 then (none) else ((laws_eqNetwork.f k bt415.1 bt415.2.1 bt415.2.2.1 t395 t396 t399).bind fun t440 => (if t440 = true then ((laws_eqInt64S.f k bt415.2.2.2.1 t402).bind fun t441 => (if t441 = true then ((laws_markNetwork.f k bt415.1 bt415.2.1 bt415.2.2.1 1).bind fun bt442 => ((laws_markInt64S.f k bt415.2.2.2.1 bt442.1).bind fun bt445 => ((laws_heldNetwork.f k bt415.1 bt442.2.1 bt442.2.2 1).bind fun t447 => (if t447 < 0 then (none) else ((laws_heldInt64S.f k bt445.2 t447).bind fun t448 => (if t448 < 0 then (none) else (if t448 = bt445.1 then ((laws_toNetwork.f k a0_0 l0_1 l0_2).bind fun bt449 => ((impl_MergeOf.f k bt449.1 bt449.2.1 bt449.2.2).bind fun bt456 => ((laws_eqNetwork.f k bt456.1 bt456.2.1 bt456.2.2.1 t395 t396 t399).bind fun t468 => (if t468 = true then ((laws_eqInt64S.f k bt456.2.2.2.1 t402).bind fun t469 => (if t469 = true then (if bt456.2.2.2.2 = t405 then ((laws_heldNetwork.f k bt415.1 bt442.2.1 bt442.2.2 1).bind fun t470 => (if t470 < 0 then (none) else ((laws_heldInt64S.f k bt445.2 t470).bind fun t471 => (if t471 < 0 then (none) else (if t471 = bt445.1 then (some true) else (none)))))) else (none)) else (none))) else (none))))) else (none)))))))) else (none))) else (none))))) else (none)))) else (none)) else (none))) else (none)))) = some r := H
 have A9 := Aside0.mk A90
 clear A90
 replace H := Option.bind_eq_some_iff.mp H
 obtain ⟨⟨t415, t416, t419, t422, t425⟩, A100, H⟩ := H
 replace H : ((laws_eqNetwork.f k t415 t416 t419 t395 t396 t399).bind fun t427 => (if t427 = true then ((laws_eqInt64S.f k t422 t402).bind fun t428 => (if t428 = true then (if t425 = t405 then ((laws_toNetwork.f k a0_0 l0_1 l0_2).bind fun bt429 => ((laws_eqNetwork.f k t407 t408 t411 bt429.1 bt429.2.1 bt429.2.2).bind fun t436 => (if t436 = true then ((laws_markNetwork.f k t407 t408 t411 1).bind fun bt437 => (if bt437.1 < 0 then (none) else ((laws_eqNetwork.f k t415 t416 t419 t395 t396 t399).bind fun t440 => (if t440 = true then ((laws_eqInt64S.f k t422 t402).bind fun t441 => (if t441 = true then ((laws_markNetwork.f k t415 t416 t419 1).bind fun bt442 => ((laws_markInt64S.f k t422 bt442.1).bind fun bt445 => ((laws_heldNetwork.f k t415 bt442.2.1 bt442.2.2 1).bind fun t447 => (if t447 < 0 then (none) else ((laws_heldInt64S.f k bt445.2 t447).bind fun t448 => (if t448 < 0 then (none) else (if t448 = bt445.1 then ((laws_toNetwork.f k a0_0 l0_1 l0_2).bind fun bt449 => ((impl_MergeOf.f k bt449.1 bt449.2.1 bt449.2.2).bind fun bt456 => ((laws_eqNetwork.f k bt456.1 bt456.2.1 bt456.2.2.1 t395 t396 t399).bind fun t468 => (if t468 = true then ((laws_eqInt64S.f k bt456.2.2.2.1 t402).bind fun t469 => (if t469 = true then (if bt456.2.2.2.2 = t405 then ((laws_heldNetwork.f k t415 bt442.2.1 bt442.2.2 1).bind fun t470 => (if t470 < 0 then (none) else ((laws_heldInt64S.f k bt445.2 t470).bind fun t471 => (if t471 < 0 then (none) else (if t471 = bt445.1 then (some true) else (none)))))) else (none)) else (none))) else (none))))) else (none)))))))) else (none))) else (none))))) else (none)))) else (none)) else (none))) else (none))) = some r := H
 have A10 := Aside0.mk A100
 clear A100
 replace H := Option.bind_eq_some_iff.mp H
 obtain ⟨t427, A110, H⟩ := H
 replace H : (if t427 = true then ((laws_eqInt64S.f k t422 t402).bind fun t428 => (if t428 = true then (if t425 = t405 then ((laws_toNetwork.f k a0_0 l0_1 l0_2).bind fun bt429 => ((laws_eqNetwork.f k t407 t408 t411 bt429.1 bt429.2.1 bt429.2.2).bind fun t436 => (if t436 = true then ((laws_markNetwork.f k t407 t408 t411 1).bind fun bt437 => (if bt437.1 < 0 then (none) else ((laws_eqNetwork.f k t415 t416 t419 t395 t396 t399).bind fun t440 => (if t440 = true then ((laws_eqInt64S.f k t422 t402).bind fun t441 => (if t441 = true then ((laws_markNetwork.f k t415 t416 t419 1).bind fun bt442 => ((laws_markInt64S.f k t422 bt442.1).bind fun bt445 => ((laws_heldNetwork.f k t415 bt442.2.1 bt442.2.2 1).bind fun t447 => (if t447 < 0 then (none) else ((laws_heldInt64S.f k bt445.2 t447).bind fun t448 => (if t448 < 0 then (none) else (if t448 = bt445.1 then ((laws_toNetwork.f k a0_0 l0_1 l0_2).bind fun bt449 => ((impl_MergeOf.f k bt449.1 bt449.2.1 bt449.2.2).bind fun bt456 => ((laws_eqNetwork.f k bt456.1 bt456.2.1 bt456.2.2.1 t395 t396 t399).bind fun t468 => (if t468 = true then ((laws_eqInt64S.f k bt456.2.2.2.1 t402).bind fun t469 => (if t469 = true then (if bt456.2.2.2.2 = t405 then ((laws_heldNetwork.f k t415 bt442.2.1 bt442.2.2 1).bind fun t470 => (if t470 < 0 then (none) else ((laws_heldInt64S.f k bt445.2 t470).bind fun t471 => (if t471 < 0 then (none) else (if t471 = bt445.1 then (some true) else (none)))))) else (none)) else (none))) else (none))))) else (none)))))))) else (none))) else (none))))) else (none)))) else (none)) else (none))) else (none)) = some r := H
 have A11 := Aside0.mk A110
 clear A110
 by_cases c12 : t427 = true
 rotate_left
 ·replace c12 := Bool.eq_false_iff.mpr c12
  subst c12
  have H1 : (none) = some r := by rw [if_neg (show ¬ (false = true) by decide)] at H; exact H
  clear H
  have H := H1
  clear H1
  exact absurd H (by simp)
 subst c12
 have H1 : ((laws_eqInt64S.f k t422 t402).bind fun t428 => (if t428 = true then (if t425 = t405 then ((laws_toNetwork.f k a0_0 l0_1 l0_2).bind fun bt429 => ((laws_eqNetwork.f k t407 t408 t411 bt429.1 bt429.2.1 bt429.2.2).bind fun t436 => (if t436 = true then ((laws_markNetwork.f k t407 t408 t411 1).bind fun bt437 => (if bt437.1 < 0 then (none) else ((laws_eqNetwork.f k t415 t416 t419 t395 t396 t399).bind fun t440 => (if t440 = true then ((laws_eqInt64S.f k t422 t402).bind fun t441 => (if t441 = true then ((laws_markNetwork.f k t415 t416 t419 1).bind fun bt442 => ((laws_markInt64S.f k t422 bt442.1).bind fun bt445 => ((laws_heldNetwork.f k t415 bt442.2.1 bt442.2.2 1).bind fun t447 => (if t447 < 0 then (none) else ((laws_heldInt64S.f k bt445.2 t447).bind fun t448 => (if t448 < 0 then (none) else (if t448 = bt445.1 then ((laws_toNetwork.f k a0_0 l0_1 l0_2).bind fun bt449 => ((impl_MergeOf.f k bt449.1 bt449.2.1 bt449.2.2).bind fun bt456 => ((laws_eqNetwork.f k bt456.1 bt456.2.1 bt456.2.2.1 t395 t396 t399).bind fun t468 => (if t468 = true then ((laws_eqInt64S.f k bt456.2.2.2.1 t402).bind fun t469 => (if t469 = true then (if bt456.2.2.2.2 = t405 then ((laws_heldNetwork.f k t415 bt442.2.1 bt442.2.2 1).bind fun t470 => (if t470 < 0 then (none) else ((laws_heldInt64S.f k bt445.2 t470).bind fun t471 => (if t471 < 0 then (none) else (if t471 = bt445.1 then (some true) else (none)))))) else (none)) else (none))) else (none))))) else (none)))))))) else (none))) else (none))))) else (none)))) else (none)) else (none))) = some r := by rw [if_pos rfl] at H; exact H
 clear H
 have H := H1
 clear H1
 replace H := Option.bind_eq_some_iff.mp H
 obtain ⟨t428, A130, H⟩ := H
 replace H : (if t428 = true then (if t425 = t405 then ((laws_toNetwork.f k a0_0 l0_1 l0_2).bind fun bt429 => ((laws_eqNetwork.f k t407 t408 t411 bt429.1 bt429.2.1 bt429.2.2).bind fun t436 => (if t436 = true then ((laws_markNetwork.f k t407 t408 t411 1).bind fun bt437 => (if bt437.1 < 0 then (none) else ((laws_eqNetwork.f k t415 t416 t419 t395 t396 t399).bind fun t440 => (if t440 = true then ((laws_eqInt64S.f k t422 t402).bind fun t441 => (if t441 = true then ((laws_markNetwork.f k t415 t416 t419 1).bind fun bt442 => ((laws_markInt64S.f k t422 bt442.1).bind fun bt445 => ((laws_heldNetwork.f k t415 bt442.2.1 bt442.2.2 1).bind fun t447 => (if t447 < 0 then (none) else ((laws_heldInt64S.f k bt445.2 t447).bind fun t448 => (if t448 < 0 then (none) else (if t448 = bt445.1 then ((laws_toNetwork.f k a0_0 l0_1 l0_2).bind fun bt449 => ((impl_MergeOf.f k bt449.1 bt449.2.1 bt449.2.2).bind fun bt456 => ((laws_eqNetwork.f k bt456.1 bt456.2.1 bt456.2.2.1 t395 t396 t399).bind fun t468 => (if t468 = true then ((laws_eqInt64S.f k bt456.2.2.2.1 t402).bind fun t469 => (if t469 = true then (if bt456.2.2.2.2 = t405 then ((laws_heldNetwork.f k t415 bt442.2.1 bt442.2.2 1).bind fun t470 => (if t470 < 0 then (none) else ((laws_heldInt64S.f k bt445.2 t470).bind fun t471 => (if t471 < 0 then (none) else (if t471 = bt445.1 then (some true) else (none)))))) else (none)) else (none))) else (none))))) else (none)))))))) else (none))) else (none))))) else (none)))) else (none)) else (none)) = some r := H
 have A13 := Aside0.mk A130
 clear A130
 by_cases c14 : t428 = true
 rotate_left
 ·replace c14 := Bool.eq_false_iff.mpr c14
  subst c14
  have H1 : (none) = some r := by rw [if_neg (show ¬ (false = true) by decide)] at H; exact H
  clear H
  have H := H1
  clear H1
  exact absurd H (by simp)
 subst c14
 have H1 : (if t425 = t405 then ((laws_toNetwork.f k a0_0 l0_1 l0_2).bind fun bt429 => ((laws_eqNetwork.f k t407 t408 t411 bt429.1 bt429.2.1 bt429.2.2).bind fun t436 => (if t436 = true then ((laws_markNetwork.f k t407 t408 t411 1).bind fun bt437 => (if bt437.1 < 0 then (none) else ((laws_eqNetwork.f k t415 t416 t419 t395 t396 t399).bind fun t440 => (if t440 = true then ((laws_eqInt64S.f k t422 t402).bind fun t441 => (if t441 = true then ((laws_markNetwork.f k t415 t416 t419 1).bind fun bt442 => ((laws_markInt64S.f k t422 bt442.1).bind fun bt445 => ((laws_heldNetwork.f k t415 bt442.2.1 bt442.2.2 1).bind fun t447 => (if t447 < 0 then (none) else ((laws_heldInt64S.f k bt445.2 t447).bind fun t448 => (if t448 < 0 then (none) else (if t448 = bt445.1 then ((laws_toNetwork.f k a0_0 l0_1 l0_2).bind fun bt449 => ((impl_MergeOf.f k bt449.1 bt449.2.1 bt449.2.2).bind fun bt456 => ((laws_eqNetwork.f k bt456.1 bt456.2.1 bt456.2.2.1 t395 t396 t399).bind fun t468 => (if t468 = true then ((laws_eqInt64S.f k bt456.2.2.2.1 t402).bind fun t469 => (if t469 = true then (if bt456.2.2.2.2 = t405 then ((laws_heldNetwork.f k t415 bt442.2.1 bt442.2.2 1).bind fun t470 => (if t470 < 0 then (none) else ((laws_heldInt64S.f k bt445.2 t470).bind fun t471 => (if t471 < 0 then (none) else (if t471 = bt445.1 then (some true) else (none)))))) else (none)) else (none))) else (none))))) else (none)))))))) else (none))) else (none))))) else (none)))) else (none)) = some r := by rw [if_pos rfl] at H; exact H
 clear H
 have H := H1
 clear H1
 by_cases c15 : t425 = t405
 rotate_left
 ·rw [if_neg c15] at H
  exact absurd H (by simp)
 rw [if_pos c15] at H
 have c15b0 : (t425 == t405) = true := beq_iff_eq.mpr c15
 have c15b1 : (t425 != t405) = false := bne_eq_false_iff_eq.mpr c15
 clear c15
 replace H := Option.bind_eq_some_iff.mp H
 obtain ⟨⟨t429, t430, t433⟩, A160, H⟩ := H
 replace H : ((laws_eqNetwork.f k t407 t408 t411 t429 t430 t433).bind fun t436 => (if t436 = true then ((laws_markNetwork.f k t407 t408 t411 1).bind fun bt437 => (if bt437.1 < 0 then (none) else ((laws_eqNetwork.f k t415 t416 t419 t395 t396 t399).bind fun t440 => (if t440 = true then ((laws_eqInt64S.f k t422 t402).bind fun t441 => (if t441 = true then ((laws_markNetwork.f k t415 t416 t419 1).bind fun bt442 => ((laws_markInt64S.f k t422 bt442.1).bind fun bt445 => ((laws_heldNetwork.f k t415 bt442.2.1 bt442.2.2 1).bind fun t447 => (if t447 < 0 then (none) else ((laws_heldInt64S.f k bt445.2 t447).bind fun t448 => (if t448 < 0 then (none) else (if t448 = bt445.1 then ((laws_toNetwork.f k a0_0 l0_1 l0_2).bind fun bt449 => ((impl_MergeOf.f k bt449.1 bt449.2.1 bt449.2.2).bind fun bt456 => ((laws_eqNetwork.f k bt456.1 bt456.2.1 bt456.2.2.1 t395 t396 t399).bind fun t468 => (if t468 = true then ((laws_eqInt64S.f k bt456.2.2.2.1 t402).bind fun t469 => (if t469 = true then (if bt456.2.2.2.2 = t405 then ((laws_heldNetwork.f k t415 bt442.2.1 bt442.2.2 1).bind fun t470 => (if t470 < 0 then (none) else ((laws_heldInt64S.f k bt445.2 t470).bind fun t471 => (if t471 < 0 then (none) else (if t471 = bt445.1 then (some true) else (none)))))) else (none)) else (none))) else (none))))) else (none)))))))) else (none))) else (none))))) else (none))) = some r := H
 have A16 := Aside0.mk A160
 clear A160
 replace H := Option.bind_eq_some_iff.mp H
 obtain ⟨t436, A170, H⟩ := H
 replace H : (if t436 = true then ((laws_markNetwork.f k t407 t408 t411 1).bind fun bt437 => (if bt437.1 < 0 then (none) else ((laws_eqNetwork.f k t415 t416 t419 t395 t396 t399).bind fun t440 => (if t440 = true then ((laws_eqInt64S.f k t422 t402).bind fun t441 => (if t441 = true then ((laws_markNetwork.f k t415 t416 t419 1).bind fun bt442 => ((laws_markInt64S.f k t422 bt442.1).bind fun bt445 => ((laws_heldNetwork.f k t415 bt442.2.1 bt442.2.2 1).bind fun t447 => (if t447 < 0 then (none) else ((laws_heldInt64S.f k bt445.2 t447).bind fun t448 => (if t448 < 0 then (none) else (if t448 = bt445.1 then ((laws_toNetwork.f k a0_0 l0_1 l0_2).bind fun bt449 => ((impl_MergeOf.f k bt449.1 bt449.2.1 bt449.2.2).bind fun bt456 => ((laws_eqNetwork.f k bt456.1 bt456.2.1 bt456.2.2.1 t395 t396 t399).bind fun t468 => (if t468 = true then ((laws_eqInt64S.f k bt456.2.2.2.1 t402).bind fun t469 => (if t469 = true then (if bt456.2.2.2.2 = t405 then ((laws_heldNetwork.f k t415 bt442.2.1 bt442.2.2 1).bind fun t470 => (if t470 < 0 then (none) else ((laws_heldInt64S.f k bt445.2 t470).bind fun t471 => (if t471 < 0 then (none) else (if t471 = bt445.1 then (some true) else (none)))))) else (none)) else (none))) else (none))))) else (none)))))))) else (none))) else (none))))) else (none)) = some r := H
 have A17 := Aside0.mk A170
 clear A170
 by_cases c18 : t436 = true
 rotate_left
 ·replace c18 := Bool.eq_false_iff.mpr c18
  subst c18
  have H1 : (none) = some r := by rw [if_neg (show ¬ (false = true) by decide)] at H; exact H
  clear H
  have H := H1
  clear H1
  exact absurd H (by simp)
 subst c18
 have H1 : ((laws_markNetwork.f k t407 t408 t411 1).bind fun bt437 => (if bt437.1 < 0 then (none) else ((laws_eqNetwork.f k t415 t416 t419 t395 t396 t399).bind fun t440 => (if t440 = true then ((laws_eqInt64S.f k t422 t402).bind fun t441 => (if t441 = true then ((laws_markNetwork.f k t415 t416 t419 1).bind fun bt442 => ((laws_markInt64S.f k t422 bt442.1).bind fun bt445 => ((laws_heldNetwork.f k t415 bt442.2.1 bt442.2.2 1).bind fun t447 => (if t447 < 0 then (none) else ((laws_heldInt64S.f k bt445.2 t447).bind fun t448 => (if t448 < 0 then (none) else (if t448 = bt445.1 then ((laws_toNetwork.f k a0_0 l0_1 l0_2).bind fun bt449 => ((impl_MergeOf.f k bt449.1 bt449.2.1 bt449.2.2).bind fun bt456 => ((laws_eqNetwork.f k bt456.1 bt456.2.1 bt456.2.2.1 t395 t396 t399).bind fun t468 => (if t468 = true then ((laws_eqInt64S.f k bt456.2.2.2.1 t402).bind fun t469 => (if t469 = true then (if bt456.2.2.2.2 = t405 then ((laws_heldNetwork.f k t415 bt442.2.1 bt442.2.2 1).bind fun t470 => (if t470 < 0 then (none) else ((laws_heldInt64S.f k bt445.2 t470).bind fun t471 => (if t471 < 0 then (none) else (if t471 = bt445.1 then (some true) else (none)))))) else (none)) else (none))) else (none))))) else (none)))))))) else (none))) else (none))))) = some r := by rw [if_pos rfl] at H; exact H
 clear H
 have H := H1
 clear H1
 replace H := Option.bind_eq_some_iff.mp H
 obtain ⟨⟨t437, t438, t439⟩, A190, H⟩ := H
 replace H : (if t437 < 0 then (none) else ((laws_eqNetwork.f k t415 t416 t419 t395 t396 t399).bind fun t440 => (if t440 = true then ((laws_eqInt64S.f k t422 t402).bind fun t441 => (if t441 = true then ((laws_markNetwork.f k t415 t416 t419 1).bind fun bt442 => ((laws_markInt64S.f k t422 bt442.1).bind fun bt445 => ((laws_heldNetwork.f k t415 bt442.2.1 bt442.2.2 1).bind fun t447 => (if t447 < 0 then (none) else ((laws_heldInt64S.f k bt445.2 t447).bind fun t448 => (if t448 < 0 then (none) else (if t448 = bt445.1 then ((laws_toNetwork.f k a0_0 l0_1 l0_2).bind fun bt449 => ((impl_MergeOf.f k bt449.1 bt449.2.1 bt449.2.2).bind fun bt456 => ((laws_eqNetwork.f k bt456.1 bt456.2.1 bt456.2.2.1 t395 t396 t399).bind fun t468 => (if t468 = true then ((laws_eqInt64S.f k bt456.2.2.2.1 t402).bind fun t469 => (if t469 = true then (if bt456.2.2.2.2 = t405 then ((laws_heldNetwork.f k t415 bt442.2.1 bt442.2.2 1).bind fun t470 => (if t470 < 0 then (none) else ((laws_heldInt64S.f k bt445.2 t470).bind fun t471 => (if t471 < 0 then (none) else (if t471 = bt445.1 then (some true) else (none)))))) else (none)) else (none))) else (none))))) else (none)))))))) else (none))) else (none)))) = some r := H
 have A19 := Aside0.mk A190
 clear A190
 by_cases c20 : t437 < 0
 ·rw [if_pos c20] at H
  exact absurd H (by simp)
 rw [if_neg c20] at H
 have c20b0 : decide (t437 < 0) = false := decide_eq_false c20
 clear c20
 replace H := Option.bind_eq_some_iff.mp H
 obtain ⟨t440, A210, H⟩ := H
 replace H : (if t440 = true then ((laws_eqInt64S.f k t422 t402).bind fun t441 => (if t441 = true then ((laws_markNetwork.f k t415 t416 t419 1).bind fun bt442 => ((laws_markInt64S.f k t422 bt442.1).bind fun bt445 => ((laws_heldNetwork.f k t415 bt442.2.1 bt442.2.2 1).bind fun t447 => (if t447 < 0 then (none) else ((laws_heldInt64S.f k bt445.2 t447).bind fun t448 => (if t448 < 0 then (none) else (if t448 = bt445.1 then ((laws_toNetwork.f k a0_0 l0_1 l0_2).bind fun bt449 => ((impl_MergeOf.f k bt449.1 bt449.2.1 bt449.2.2).bind fun bt456 => ((laws_eqNetwork.f k bt456.1 bt456.2.1 bt456.2.2.1 t395 t396 t399).bind fun t468 => (if t468 = true then ((laws_eqInt64S.f k bt456.2.2.2.1 t402).bind fun t469 => (if t469 = true then (if bt456.2.2.2.2 = t405 then ((laws_heldNetwork.f k t415 bt442.2.1 bt442.2.2 1).bind fun t470 => (if t470 < 0 then (none) else ((laws_heldInt64S.f k bt445.2 t470).bind fun t471 => (if t471 < 0 then (none) else (if t471 = bt445.1 then (some true) else (none)))))) else (none)) else (none))) else (none))))) else (none)))))))) else (none))) else (none)) = some r := H
 have A21 := Aside0.mk A210
 clear A210
 by_cases c22 : t440 = true
 rotate_left
 ·replace c22 := Bool.eq_false_iff.mpr c22
  subst c22
  have H1 : (none) = some r := by rw [if_neg (show ¬ (false = true) by decide)] at H; exact H
  clear H
  have H := H1
  clear H1
  exact absurd H (by simp)
 subst c22
 have H1 : ((laws_eqInt64S.f k t422 t402).bind fun t441 => (if t441 = true then ((laws_markNetwork.f k t415 t416 t419 1).bind fun bt442 => ((laws_markInt64S.f k t422 bt442.1).bind fun bt445 => ((laws_heldNetwork.f k t415 bt442.2.1 bt442.2.2 1).bind fun t447 => (if t447 < 0 then (none) else ((laws_heldInt64S.f k bt445.2 t447).bind fun t448 => (if t448 < 0 then (none) else (if t448 = bt445.1 then ((laws_toNetwork.f k a0_0 l0_1 l0_2).bind fun bt449 => ((impl_MergeOf.f k bt449.1 bt449.2.1 bt449.2.2).bind fun bt456 => ((laws_eqNetwork.f k bt456.1 bt456.2.1 bt456.2.2.1 t395 t396 t399).bind fun t468 => (if t468 = true then ((laws_eqInt64S.f k bt456.2.2.2.1 t402).bind fun t469 => (if t469 = true then (if bt456.2.2.2.2 = t405 then ((laws_heldNetwork.f k t415 bt442.2.1 bt442.2.2 1).bind fun t470 => (if t470 < 0 then (none) else ((laws_heldInt64S.f k bt445.2 t470).bind fun t471 => (if t471 < 0 then (none) else (if t471 = bt445.1 then (some true) else (none)))))) else (none)) else (none))) else (none))))) else (none)))))))) else (none))) = some r := by rw [if_pos rfl] at H; exact H
 clear H
 have H := H1
 clear H1
 replace H := Option.bind_eq_some_iff.mp H
 obtain ⟨t441, A230, H⟩ := H
 replace H : (if t441 = true then ((laws_markNetwork.f k t415 t416 t419 1).bind fun bt442 => ((laws_markInt64S.f k t422 bt442.1).bind fun bt445 => ((laws_heldNetwork.f k t415 bt442.2.1 bt442.2.2 1).bind fun t447 => (if t447 < 0 then (none) else ((laws_heldInt64S.f k bt445.2 t447).bind fun t448 => (if t448 < 0 then (none) else (if t448 = bt445.1 then ((laws_toNetwork.f k a0_0 l0_1 l0_2).bind fun bt449 => ((impl_MergeOf.f k bt449.1 bt449.2.1 bt449.2.2).bind fun bt456 => ((laws_eqNetwork.f k bt456.1 bt456.2.1 bt456.2.2.1 t395 t396 t399).bind fun t468 => (if t468 = true then ((laws_eqInt64S.f k bt456.2.2.2.1 t402).bind fun t469 => (if t469 = true then (if bt456.2.2.2.2 = t405 then ((laws_heldNetwork.f k t415 bt442.2.1 bt442.2.2 1).bind fun t470 => (if t470 < 0 then (none) else ((laws_heldInt64S.f k bt445.2 t470).bind fun t471 => (if t471 < 0 then (none) else (if t471 = bt445.1 then (some true) else (none)))))) else (none)) else (none))) else (none))))) else (none)))))))) else (none)) = some r := H
 have A23 := Aside0.mk A230
 clear A230
 by_cases c24 : t441 = true
 rotate_left
 ·replace c24 := Bool.eq_false_iff.mpr c24
  subst c24
  have H1 : (none) = some r := by rw [if_neg (show ¬ (false = true) by decide)] at H; exact H
  clear H
  have H := H1
  clear H1
  exact absurd H (by simp)
 subst c24
 have H1 : ((laws_markNetwork.f k t415 t416 t419 1).bind fun bt442 => ((laws_markInt64S.f k t422 bt442.1).bind fun bt445 => ((laws_heldNetwork.f k t415 bt442.2.1 bt442.2.2 1).bind fun t447 => (if t447 < 0 then (none) else ((laws_heldInt64S.f k bt445.2 t447).bind fun t448 => (if t448 < 0 then (none) else (if t448 = bt445.1 then ((laws_toNetwork.f k a0_0 l0_1 l0_2).bind fun bt449 => ((impl_MergeOf.f k bt449.1 bt449.2.1 bt449.2.2).bind fun bt456 => ((laws_eqNetwork.f k bt456.1 bt456.2.1 bt456.2.2.1 t395 t396 t399).bind fun t468 => (if t468 = true then ((laws_eqInt64S.f k bt456.2.2.2.1 t402).bind fun t469 => (if t469 = true then (if bt456.2.2.2.2 = t405 then ((laws_heldNetwork.f k t415 bt442.2.1 bt442.2.2 1).bind fun t470 => (if t470 < 0 then (none) else ((laws_heldInt64S.f k bt445.2 t470).bind fun t471 => (if t471 < 0 then (none) else (if t471 = bt445.1 then (some true) else (none)))))) else (none)) else (none))) else (none))))) else (none)))))))) = some r := by rw [if_pos rfl] at H; exact H
 clear H
 have H := H1
 clear H1
 replace H := Option.bind_eq_some_iff.mp H
 obtain ⟨⟨t442, t443, t444⟩, A250, H⟩ := H
 replace H : ((laws_markInt64S.f k t422 t442).bind fun bt445 => ((laws_heldNetwork.f k t415 t443 t444 1).bind fun t447 => (if t447 < 0 then (none) else ((laws_heldInt64S.f k bt445.2 t447).bind fun t448 => (if t448 < 0 then (none) else (if t448 = bt445.1 then ((laws_toNetwork.f k a0_0 l0_1 l0_2).bind fun bt449 => ((impl_MergeOf.f k bt449.1 bt449.2.1 bt449.2.2).bind fun bt456 => ((laws_eqNetwork.f k bt456.1 bt456.2.1 bt456.2.2.1 t395 t396 t399).bind fun t468 => (if t468 = true then ((laws_eqInt64S.f k bt456.2.2.2.1 t402).bind fun t469 => (if t469 = true then (if bt456.2.2.2.2 = t405 then ((laws_heldNetwork.f k t415 t443 t444 1).bind fun t470 => (if t470 < 0 then (none) else ((laws_heldInt64S.f k bt445.2 t470).bind fun t471 => (if t471 < 0 then (none) else (if t471 = bt445.1 then (some true) else (none)))))) else (none)) else (none))) else (none))))) else (none))))))) = some r := H
 have A25 := Aside0.mk A250
 clear A250
 replace H := Option.bind_eq_some_iff.mp H
 obtain ⟨⟨t445, t446⟩, A260, H⟩ := H
 replace H : ((laws_heldNetwork.f k t415 t443 t444 1).bind fun t447 => (if t447 < 0 then (none) else ((laws_heldInt64S.f k t446 t447).bind fun t448 => (if t448 < 0 then (none) else (if t448 = t445 then ((laws_toNetwork.f k a0_0 l0_1 l0_2).bind fun bt449 => ((impl_MergeOf.f k bt449.1 bt449.2.1 bt449.2.2).bind fun bt456 => ((laws_eqNetwork.f k bt456.1 bt456.2.1 bt456.2.2.1 t395 t396 t399).bind fun t468 => (if t468 = true then ((laws_eqInt64S.f k bt456.2.2.2.1 t402).bind fun t469 => (if t469 = true then (if bt456.2.2.2.2 = t405 then ((laws_heldNetwork.f k t415 t443 t444 1).bind fun t470 => (if t470 < 0 then (none) else ((laws_heldInt64S.f k t446 t470).bind fun t471 => (if t471 < 0 then (none) else (if t471 = t445 then (some true) else (none)))))) else (none)) else (none))) else (none))))) else (none)))))) = some r := H
 have A26 := Aside0.mk A260
 clear A260
 replace H := Option.bind_eq_some_iff.mp H
 obtain ⟨t447, A270, H⟩ := H
 replace H : (if t447 < 0 then (none) else ((laws_heldInt64S.f k t446 t447).bind fun t448 => (if t448 < 0 then (none) else (if t448 = t445 then ((laws_toNetwork.f k a0_0 l0_1 l0_2).bind fun bt449 => ((impl_MergeOf.f k bt449.1 bt449.2.1 bt449.2.2).bind fun bt456 => ((laws_eqNetwork.f k bt456.1 bt456.2.1 bt456.2.2.1 t395 t396 t399).bind fun t468 => (if t468 = true then ((laws_eqInt64S.f k bt456.2.2.2.1 t402).bind fun t469 => (if t469 = true then (if bt456.2.2.2.2 = t405 then ((laws_heldNetwork.f k t415 t443 t444 1).bind fun t470 => (if t470 < 0 then (none) else ((laws_heldInt64S.f k t446 t470).bind fun t471 => (if t471 < 0 then (none) else (if t471 = t445 then (some true) else (none)))))) else (none)) else (none))) else (none))))) else (none))))) = some r := H
 have A27 := Aside0.mk A270
 clear A270
 by_cases c28 : t447 < 0
 ·rw [if_pos c28] at H
  exact absurd H (by simp)
 rw [if_neg c28] at H
 have c28b0 : decide (t447 < 0) = false := decide_eq_false c28
 clear c28
 replace H := Option.bind_eq_some_iff.mp H
 obtain ⟨t448, A290, H⟩ := H
 replace H : (if t448 < 0 then (none) else (if t448 = t445 then ((laws_toNetwork.f k a0_0 l0_1 l0_2).bind fun bt449 => ((impl_MergeOf.f k bt449.1 bt449.2.1 bt449.2.2).bind fun bt456 => ((laws_eqNetwork.f k bt456.1 bt456.2.1 bt456.2.2.1 t395 t396 t399).bind fun t468 => (if t468 = true then ((laws_eqInt64S.f k bt456.2.2.2.1 t402).bind fun t469 => (if t469 = true then (if bt456.2.2.2.2 = t405 then ((laws_heldNetwork.f k t415 t443 t444 1).bind fun t470 => (if t470 < 0 then (none) else ((laws_heldInt64S.f k t446 t470).bind fun t471 => (if t471 < 0 then (none) else (if t471 = t445 then (some true) else (none)))))) else (none)) else (none))) else (none))))) else (none))) = some r := H
 have A29 := Aside0.mk A290
 clear A290
 by_cases c30 : t448 < 0
 ·rw [if_pos c30] at H
  exact absurd H (by simp)
 rw [if_neg c30] at H
 have c30b0 : decide (t448 < 0) = false := decide_eq_false c30
 clear c30
 by_cases c31 : t448 = t445
 rotate_left
 ·rw [if_neg c31] at H
  exact absurd H (by simp)
 rw [if_pos c31] at H
 have c31b0 : (t448 == t445) = true := beq_iff_eq.mpr c31
 have c31b1 : (t448 != t445) = false := bne_eq_false_iff_eq.mpr c31
 clear c31
 replace H := Option.bind_eq_some_iff.mp H
 obtain ⟨⟨t449, t450, t453⟩, A320, H⟩ := H
 replace H : ((impl_MergeOf.f k t449 t450 t453).bind fun bt456 => ((laws_eqNetwork.f k bt456.1 bt456.2.1 bt456.2.2.1 t395 t396 t399).bind fun t468 => (if t468 = true then ((laws_eqInt64S.f k bt456.2.2.2.1 t402).bind fun t469 => (if t469 = true then (if bt456.2.2.2.2 = t405 then ((laws_heldNetwork.f k t415 t443 t444 1).bind fun t470 => (if t470 < 0 then (none) else ((laws_heldInt64S.f k t446 t470).bind fun t471 => (if t471 < 0 then (none) else (if t471 = t445 then (some true) else (none)))))) else (none)) else (none))) else (none)))) = some r := H
 have A32 := Aside0.mk A320
 clear A320
 replace H := Option.bind_eq_some_iff.mp H
 obtain ⟨⟨t456, t457, t460, t463, t466⟩, A330, H⟩ := H
 replace H : ((laws_eqNetwork.f k t456 t457 t460 t395 t396 t399).bind fun t468 => (if t468 = true then ((laws_eqInt64S.f k t463 t402).bind fun t469 => (if t469 = true then (if t466 = t405 then ((laws_heldNetwork.f k t415 t443 t444 1).bind fun t470 => (if t470 < 0 then (none) else ((laws_heldInt64S.f k t446 t470).bind fun t471 => (if t471 < 0 then (none) else (if t471 = t445 then (some true) else (none)))))) else (none)) else (none))) else (none))) = some r := H
 have A33 := Aside0.mk A330
 clear A330
 replace H := Option.bind_eq_some_iff.mp H
 obtain ⟨t468, A340, H⟩ := H
 replace H : (if t468 = true then ((laws_eqInt64S.f k t463 t402).bind fun t469 => (if t469 = true then (if t466 = t405 then ((laws_heldNetwork.f k t415 t443 t444 1).bind fun t470 => (if t470 < 0 then (none) else ((laws_heldInt64S.f k t446 t470).bind fun t471 => (if t471 < 0 then (none) else (if t471 = t445 then (some true) else (none)))))) else (none)) else (none))) else (none)) = some r := H
 have A34 := Aside0.mk A340
 clear A340
 by_cases c35 : t468 = true
 rotate_left
 ·replace c35 := Bool.eq_false_iff.mpr c35
  subst c35
  have H1 : (none) = some r := by rw [if_neg (show ¬ (false = true) by decide)] at H; exact H
  clear H
  have H := H1
  clear H1
  exact absurd H (by simp)
 subst c35
 have H1 : ((laws_eqInt64S.f k t463 t402).bind fun t469 => (if t469 = true then (if t466 = t405 then ((laws_heldNetwork.f k t415 t443 t444 1).bind fun t470 => (if t470 < 0 then (none) else ((laws_heldInt64S.f k t446 t470).bind fun t471 => (if t471 < 0 then (none) else (if t471 = t445 then (some true) else (none)))))) else (none)) else (none))) = some r := by rw [if_pos rfl] at H; exact H
 clear H
 have H := H1
 clear H1
 replace H := Option.bind_eq_some_iff.mp H
 obtain ⟨t469, A360, H⟩ := H
 replace H : (if t469 = true then (if t466 = t405 then ((laws_heldNetwork.f k t415 t443 t444 1).bind fun t470 => (if t470 < 0 then (none) else ((laws_heldInt64S.f k t446 t470).bind fun t471 => (if t471 < 0 then (none) else (if t471 = t445 then (some true) else (none)))))) else (none)) else (none)) = some r := H
 have A36 := Aside0.mk A360
 clear A360
 by_cases c37 : t469 = true
 rotate_left
 ·replace c37 := Bool.eq_false_iff.mpr c37
  subst c37
  have H1 : (none) = some r := by rw [if_neg (show ¬ (false = true) by decide)] at H; exact H
  clear H
  have H := H1
  clear H1
  exact absurd H (by simp)
 subst c37
 have H1 : (if t466 = t405 then ((laws_heldNetwork.f k t415 t443 t444 1).bind fun t470 => (if t470 < 0 then (none) else ((laws_heldInt64S.f k t446 t470).bind fun t471 => (if t471 < 0 then (none) else (if t471 = t445 then (some true) else (none)))))) else (none)) = some r := by rw [if_pos rfl] at H; exact H
 clear H
 have H := H1
 clear H1
 by_cases c38 : t466 = t405
 rotate_left
 ·rw [if_neg c38] at H
  exact absurd H (by simp)
 rw [if_pos c38] at H
 have c38b0 : (t466 == t405) = true := beq_iff_eq.mpr c38
 have c38b1 : (t466 != t405) = false := bne_eq_false_iff_eq.mpr c38
 clear c38
 replace H := Option.bind_eq_some_iff.mp H
 obtain ⟨t470, A390, H⟩ := H
 replace H : (if t470 < 0 then (none) else ((laws_heldInt64S.f k t446 t470).bind fun t471 => (if t471 < 0 then (none) else (if t471 = t445 then (some true) else (none))))) = some r := H
 have A39 := Aside0.mk A390
 clear A390
 by_cases c40 : t470 < 0
 ·rw [if_pos c40] at H
  exact absurd H (by simp)
 rw [if_neg c40] at H
 have c40b0 : decide (t470 < 0) = false := decide_eq_false c40
 clear c40
 replace H := Option.bind_eq_some_iff.mp H
 obtain ⟨t471, A410, H⟩ := H
 replace H : (if t471 < 0 then (none) else (if t471 = t445 then (some true) else (none))) = some r := H
 have A41 := Aside0.mk A410
 clear A410
 by_cases c42 : t471 < 0
 ·rw [if_pos c42] at H
  exact absurd H (by simp)
 rw [if_neg c42] at H
 have c42b0 : decide (t471 < 0) = false := decide_eq_false c42
 clear c42
 by_cases c43 : t471 = t445
 rotate_left
 ·rw [if_neg c43] at H
  exact absurd H (by simp)
 rw [if_pos c43] at H
 have c43b0 : (t471 == t445) = true := beq_iff_eq.mpr c43
 have c43b1 : (t471 != t445) = false := bne_eq_false_iff_eq.mpr c43
 clear c43
 obtain rfl := Option.some.inj H
 go_enter Try.func18, Try.ntmps18
 try go_wp2_with (first | ((with_reducible refine gate_dst (N := 1) rfl ?_); refine box_event ?hg (N := 1) ?hd (cs := #[.int .i8 a0_0, .slice A0_1 l0_1.length c0_1, .slice A0_2 l0_2.length c0_2]) (t := 26) ?hr ?_; (case hd => rfl); (case hg => rfl); (case hr => first | (go_simp; done) | (go_simp; rfl)); intro gb386 hg w44 hbox hb; have n_ : _ ∧ _ ∧ _ ∧ _ := ⟨zb HB hb, Aside0.mk (hbox), zg HB hg, zg HB hg⟩; clear HB; obtain ⟨HB, BK386, GW386, GE386⟩ := n_; clear hb hbox hg; obtain ⟨z45_0, z45_1, z45_2, y45_0, y45_1, y45_2⟩ := zB3 BK386) | ((with_reducible refine gate_callee (f := 21) rfl ?_); refine goesL_ (some 19) rfl rfl Try.func21 (by kernel_rfl) rfl #[.agg #[.int .i8 a0_0, .slice A0_1 l0_1.length c0_1, .slice A0_2 l0_2.length c0_2], .int .i64 1048576] rfl (by (try simp only [List.map_toArray, List.map_cons, List.map_nil]); first | done | rfl | (simp only [List.length_drop, List.length_take]; rfl)) ?_; (with_reducible refine (laws_szNetwork.calls a0_0 _ _ l0_1 _ _ l0_2 1048576 t387 _ ?side1 ?side2 ?side3 ?side4 A2.out).mono ?_); (case side1 => exact zcc HB HR0_1.out); (case side2 => exact HC0_1.out); (case side3 => exact zcc HB HR0_2.out); (case side4 => exact HC0_2.out); rintro e w46 ⟨rfl, hb⟩; refine ⟨_, rfl, ?_⟩; have n_ : _ ∧ _ := ⟨zk BK386 hb, zbs hb⟩; clear BK386 HB; obtain ⟨BK386, HB⟩ := n_; (try clear hb); (try clear hb2); (try clear hk); (try clear hi); obtain ⟨z47_0, z47_1, z47_2, y47_0, y47_1, y47_2⟩ := zB3 BK386) | ((with_reducible refine gate_callee (f := 23) rfl ?_); refine goesL_ (some 24) rfl rfl Try.func23 (by kernel_rfl) rfl #[.agg #[.int .i8 a0_0, .slice A0_1 l0_1.length c0_1, .slice A0_2 l0_2.length c0_2]] rfl (by (try simp only [List.map_toArray, List.map_cons, List.map_nil]); first | done | rfl | (simp only [List.length_drop, List.length_take]; rfl)) ?_; (with_reducible refine (laws_toNetwork.calls k a0_0 _ _ l0_1 _ _ l0_2 t388 t389 t392 _ ?side1 ?side2 ?side3 ?side4 A7.out).mono ?_); (case side1 => exact zcc HB HR0_1.out); (case side2 => exact HC0_1.out); (case side3 => exact zcc HB HR0_2.out); (case side4 => exact HC0_2.out); rintro e w48 ⟨v390, v393, rfl, ho0, ho1, hb⟩; refine ⟨_, rfl, ?_⟩; have n_ : _ ∧ _ ∧ _ ∧ _ := ⟨Aside0.mk (Kd.R_lower ho0 (zz HB)), Aside0.mk (Kd.R_lower ho1 (zz HB)), zk BK386 hb, zbs hb⟩; clear BK386 HB; obtain ⟨HO391, HO394, BK386, HB⟩ := n_; (try clear hb); (try clear hb2); (try clear hk); (try clear hi); (try clear ho0); (try clear ho1); obtain ⟨Ao49, co49, eo49⟩ := Kd.R_slice HO391.out; subst eo49; obtain ⟨Ao50, co50, eo50⟩ := Kd.R_slice HO394.out; subst eo50) | ((with_reducible refine gate_callee (f := 67) rfl ?_); refine goesL_ (some 25) rfl rfl Try.func67 (by kernel_rfl) rfl #[.agg #[.int .i8 t388, .slice Ao49 t389.length co49, .slice Ao50 t392.length co50]] rfl (by (try simp only [List.map_toArray, List.map_cons, List.map_nil]); first | done | rfl | (simp only [List.length_drop, List.length_take]; rfl)) ?_; (with_reducible refine (spec_MergeOf.calls k t388 _ _ t389 _ _ t392 t395 t396 t399 t402 t405 _ ?side1 ?side2 ?side3 ?side4 A8.out).mono ?_); (case side1 => exact zrc HO391); (case side2 => exact (Kd.R_reads' HO391.out).2.1); (case side3 => exact zrc HO394); (case side4 => exact (Kd.R_reads' HO394.out).2.1); rintro e w51 ⟨v397, v400, v403, rfl, ho0, ho1, ho2, hb⟩; refine ⟨_, rfl, ?_⟩; have n_ : _ ∧ _ ∧ _ ∧ _ ∧ _ ∧ _ ∧ _ := ⟨Aside0.mk (Kd.R_elder' (ze HO391).out (Kd.R_base ho0) hb), Aside0.mk (Kd.R_elder' (ze HO394).out (Kd.R_base ho1) hb), Aside0.mk (Kd.R_lower (Kd.R_new' ho0 (Kd.R_lt (ze HO391).out)) (zz HB)), Aside0.mk (Kd.R_lower (Kd.R_new' ho1 (Kd.R_lt (ze HO394).out)) (zz HB)), Aside0.mk (Kd.R_lower ho2 (zz HB)), zk BK386 hb, zbs hb⟩; clear HO391 HO394 BK386 HB; obtain ⟨HO391, HO394, HO398, HO401, HO404, BK386, HB⟩ := n_; (try clear hb); (try clear hb2); (try clear hk); (try clear hi); (try clear ho0); (try clear ho1); (try clear ho2)) | ((with_reducible refine gate_dst (N := 4) rfl ?_); refine box_event ?hg (N := 4) ?hd (cs := #[.int .i8 0, .slice none 0 0, .slice none 0 0]) (t := 31) ?hr ?_; (case hd => rfl); (case hg => rfl); (case hr => first | (go_simp; done) | (go_simp; rfl)); intro gb406 hg w52 hbox hb; have n_ : _ ∧ _ ∧ _ ∧ _ ∧ _ ∧ _ ∧ _ ∧ _ ∧ _ ∧ _ ∧ _ ∧ _ := ⟨zr HO391 hb, zr HO394 hb, zr HO398 hb, zr HO401 hb, zr HO404 hb, zk BK386 hb, zbs hb, Aside0.mk (hbox), zg HB hg, zg HB hg, zn1 BK386 hg, zn2 BK386 hg⟩; clear HO391 HO394 HO398 HO401 HO404 BK386 HB; obtain ⟨HO391, HO394, HO398, HO401, HO404, BK386, HB, BK406, GW406, GE406, NB386_406, NB406_386⟩ := n_; clear hb hbox hg; have hnb53 := NB406_386.out; have hnc53 := NB386_406.out; obtain ⟨z54_0, z54_1, z54_2, y54_0, y54_1, y54_2⟩ := zB3 BK406; obtain ⟨Ao55, co55, eo55⟩ := Kd.R_slice HO398.out; subst eo55; obtain ⟨Ao56, co56, eo56⟩ := Kd.R_slice HO401.out; subst eo56; obtain ⟨z57_0, z57_1, z57_2, y57_0, y57_1, y57_2⟩ := zB3 BK386) | ((with_reducible refine gate_callee (f := 23) rfl ?_); refine goesL_ (some 30) rfl rfl Try.func23 (by kernel_rfl) rfl #[.agg #[.int .i8 a0_0, .slice A0_1 l0_1.length c0_1, .slice A0_2 l0_2.length c0_2]] rfl (by (try simp only [List.map_toArray, List.map_cons, List.map_nil]); first | done | rfl | (simp only [List.length_drop, List.length_take]; rfl)) ?_; (with_reducible refine (laws_toNetwork.calls k a0_0 _ _ l0_1 _ _ l0_2 t407 t408 t411 _ ?side1 ?side2 ?side3 ?side4 A9.out).mono ?_); (case side1 => exact Kd.C_below HR0_1.out (by repeat (first | (with_reducible first | exact HB.out | apply below_alloc | apply pw_below_drewN | apply below_drew1 | refine below_set ?_ GE386.out | refine below_set ?_ GE406.out) | exact HB.out))); (case side2 => exact HC0_1.out); (case side3 => exact Kd.C_below HR0_2.out (by repeat (first | (with_reducible first | exact HB.out | apply below_alloc | apply pw_below_drewN | apply below_drew1 | refine below_set ?_ GE386.out | refine below_set ?_ GE406.out) | exact HB.out))); (case side4 => exact HC0_2.out); rintro e w58 ⟨v409, v412, rfl, ho0, ho1, hb⟩; refine ⟨_, rfl, ?_⟩; have n_ : _ ∧ _ ∧ _ ∧ _ ∧ _ ∧ _ ∧ _ ∧ _ ∧ _ ∧ _ := ⟨Aside0.mk (Kd.R_elder' (zs HO391 BK406).out (Kd.R_base ho0) hb), Aside0.mk (Kd.R_elder' (zs HO394 BK406).out (Kd.R_base ho1) hb), Aside0.mk (Kd.R_elder' (zs HO398 BK406).out (Kd.R_base ho0) hb), Aside0.mk (Kd.R_elder' (zs HO401 BK406).out (Kd.R_base ho1) hb), zsb HO404 BK406 hb, Aside0.mk (Kd.R_lower (Kd.R_new' (Kd.R_new' ho0 (Kd.R_lt (zs HO391 BK406).out)) (Kd.R_lt (zs HO398 BK406).out)) (zz HB)), Aside0.mk (Kd.R_lower (Kd.R_new' (Kd.R_new' ho1 (Kd.R_lt (zs HO394 BK406).out)) (Kd.R_lt (zs HO401 BK406).out)) (zz HB)), zfb BK386 NB386_406 hb, Aside0.mk (blk_below (g := gb406) (o := .cells #[.int .i8 t395, .slice Ao55 t396.length co55, .slice Ao56 t399.length co56] 31 (0, 0)) (by (with_reducible repeat (first | refine blk_drewN ?_ _ | refine blk_drew ?_ | refine blk_alloc ?_ _)); refine blk_put (cs := #[.int .i8 t395, .slice Ao55 t396.length co55, .slice none 0 0]) ?_ 2 _ rfl; (with_reducible repeat (first | refine blk_drewN ?_ _ | refine blk_drew ?_ | refine blk_alloc ?_ _)); refine blk_put (cs := #[.int .i8 t395, .slice none 0 0, .slice none 0 0]) ?_ 1 _ rfl; (with_reducible repeat (first | refine blk_drewN ?_ _ | refine blk_drew ?_ | refine blk_alloc ?_ _)); refine blk_put (cs := #[.int .i8 0, .slice none 0 0, .slice none 0 0]) ?_ 0 _ rfl; (with_reducible repeat (first | refine blk_drewN ?_ _ | refine blk_drew ?_ | refine blk_alloc ?_ _)); exact BK406.out) hb), zbs hb⟩; clear HO391 HO394 HO398 HO401 HO404 BK386 BK406 HB; obtain ⟨HO391, HO394, HO398, HO401, HO404, HO410, HO413, BK386, BK406, HB⟩ := n_; (try clear hb); (try clear hb2); (try clear hk); (try clear hi); (try clear ho0); (try clear ho1)) | ((with_reducible refine gate_dst (N := 7) rfl ?_); refine box_event ?hg (N := 7) ?hd (cs := #[.int .i8 0, .slice none 0 0, .slice none 0 0]) (t := 31) ?hr ?_; (case hd => rfl); (case hg => rfl); (case hr => first | (go_simp; done) | (go_simp; rfl)); intro gb414 hg w59 hbox hb; have n_ : _ ∧ _ ∧ _ ∧ _ ∧ _ ∧ _ ∧ _ ∧ _ ∧ _ ∧ _ ∧ _ ∧ _ ∧ _ ∧ _ ∧ _ ∧ _ ∧ _ := ⟨zr HO391 hb, zr HO394 hb, zr HO398 hb, zr HO401 hb, zr HO404 hb, zr HO410 hb, zr HO413 hb, zk BK386 hb, zk BK406 hb, zbs hb, Aside0.mk (hbox), zg HB hg, zg HB hg, zn1 BK386 hg, zn2 BK386 hg, zn1 BK406 hg, zn2 BK406 hg⟩; clear HO391 HO394 HO398 HO401 HO404 HO410 HO413 BK386 BK406 HB; obtain ⟨HO391, HO394, HO398, HO401, HO404, HO410, HO413, BK386, BK406, HB, BK414, GW414, GE414, NB386_414, NB414_386, NB406_414, NB414_406⟩ := n_; clear hb hbox hg; have hnb60 := NB414_386.out; have hnc60 := NB386_414.out; have hnb61 := NB414_406.out; have hnc61 := NB406_414.out; obtain ⟨z62_0, z62_1, z62_2, y62_0, y62_1, y62_2⟩ := zB3 BK414; obtain ⟨Ao63, co63, eo63⟩ := Kd.R_slice HO410.out; subst eo63; obtain ⟨Ao64, co64, eo64⟩ := Kd.R_slice HO413.out; subst eo64) | ((with_reducible refine gate_callee (f := 68) rfl ?_); refine goesL_ (some 33) rfl rfl Try.func68 (by kernel_rfl) rfl #[.agg #[.int .i8 t407, .slice Ao63 t408.length co63, .slice Ao64 t411.length co64]] rfl (by (try simp only [List.map_toArray, List.map_cons, List.map_nil]); first | done | rfl | (simp only [List.length_drop, List.length_take]; rfl)) ?_; (with_reducible refine (impl_MergeOf.calls k t407 _ _ t408 _ _ t411 t415 t416 t419 t422 t425 _ ?side1 ?side2 ?side3 ?side4 A10.out).mono ?_); (case side1 => exact (Kd.R_reads' (zs HO410 BK414).out).2.2); (case side2 => exact (Kd.R_reads' HO410.out).2.1); (case side3 => exact (Kd.R_reads' (zs HO413 BK414).out).2.2); (case side4 => exact (Kd.R_reads' HO413.out).2.1); rintro e w65 ⟨v417, v420, v423, rfl, ho0, ho1, ho2, hb⟩; refine ⟨_, rfl, ?_⟩; have n_ : _ ∧ _ ∧ _ ∧ _ ∧ _ ∧ _ ∧ _ ∧ _ ∧ _ ∧ _ ∧ _ ∧ _ ∧ _ ∧ _ := ⟨Aside0.mk (Kd.R_elder' (zs HO391 BK414).out (Kd.R_base ho0) hb), Aside0.mk (Kd.R_elder' (zs HO394 BK414).out (Kd.R_base ho1) hb), Aside0.mk (Kd.R_elder' (zs HO398 BK414).out (Kd.R_base ho0) hb), Aside0.mk (Kd.R_elder' (zs HO401 BK414).out (Kd.R_base ho1) hb), Aside0.mk (Kd.R_elder' (zs HO404 BK414).out (Kd.R_base ho2) hb), Aside0.mk (Kd.R_elder' (zs HO410 BK414).out (Kd.R_base ho0) hb), Aside0.mk (Kd.R_elder' (zs HO413 BK414).out (Kd.R_base ho1) hb), Aside0.mk (Kd.R_lower (Kd.R_new' (Kd.R_new' (Kd.R_new' ho0 (Kd.R_lt (zs HO391 BK414).out)) (Kd.R_lt (zs HO398 BK414).out)) (Kd.R_lt (zs HO410 BK414).out)) (zz HB)), Aside0.mk (Kd.R_lower (Kd.R_new' (Kd.R_new' (Kd.R_new' ho1 (Kd.R_lt (zs HO394 BK414).out)) (Kd.R_lt (zs HO401 BK414).out)) (Kd.R_lt (zs HO413 BK414).out)) (zz HB)), Aside0.mk (Kd.R_lower (Kd.R_new' ho2 (Kd.R_lt (zs HO404 BK414).out)) (zz HB)), zfb BK386 NB386_414 hb, zfb BK406 NB406_414 hb, Aside0.mk (blk_below (g := gb414) (o := .cells #[.int .i8 t407, .slice Ao63 t408.length co63, .slice Ao64 t411.length co64] 31 (0, 0)) (by (with_reducible repeat (first | refine blk_drewN ?_ _ | refine blk_drew ?_ | refine blk_alloc ?_ _)); refine blk_put (cs := #[.int .i8 t407, .slice Ao63 t408.length co63, .slice none 0 0]) ?_ 2 _ rfl; (with_reducible repeat (first | refine blk_drewN ?_ _ | refine blk_drew ?_ | refine blk_alloc ?_ _)); refine blk_put (cs := #[.int .i8 t407, .slice none 0 0, .slice none 0 0]) ?_ 1 _ rfl; (with_reducible repeat (first | refine blk_drewN ?_ _ | refine blk_drew ?_ | refine blk_alloc ?_ _)); refine blk_put (cs := #[.int .i8 0, .slice none 0 0, .slice none 0 0]) ?_ 0 _ rfl; (with_reducible repeat (first | refine blk_drewN ?_ _ | refine blk_drew ?_ | refine blk_alloc ?_ _)); exact BK414.out) hb), zbs hb⟩; clear HO391 HO394 HO398 HO401 HO404 HO410 HO413 BK386 BK406 BK414 HB; obtain ⟨HO391, HO394, HO398, HO401, HO404, HO410, HO413, HO418, HO421, HO424, BK386, BK406, BK414, HB⟩ := n_; (try clear hb); (try clear hb2); (try clear hk); (try clear hi); (try clear ho0); (try clear ho1); (try clear ho2)) | ((with_reducible refine gate_dst (N := 8) rfl ?_); refine box_event ?hg (N := 8) ?hd (cs := #[.int .i8 0, .slice none 0 0, .slice none 0 0]) (t := 31) ?hr ?_; (case hd => rfl); (case hg => rfl); (case hr => first | (go_simp; done) | (go_simp; rfl)); intro gb426 hg w66 hbox hb; have n_ : _ ∧ _ ∧ _ ∧ _ ∧ _ ∧ _ ∧ _ ∧ _ ∧ _ ∧ _ ∧ _ ∧ _ ∧ _ ∧ _ ∧ _ ∧ _ ∧ _ ∧ _ ∧ _ ∧ _ ∧ _ ∧ _ ∧ _ := ⟨zr HO391 hb, zr HO394 hb, zr HO398 hb, zr HO401 hb, zr HO404 hb, zr HO410 hb, zr HO413 hb, zr HO418 hb, zr HO421 hb, zr HO424 hb, zk BK386 hb, zk BK406 hb, zk BK414 hb, zbs hb, Aside0.mk (hbox), zg HB hg, zg HB hg, zn1 BK386 hg, zn2 BK386 hg, zn1 BK406 hg, zn2 BK406 hg, zn1 BK414 hg, zn2 BK414 hg⟩; clear HO391 HO394 HO398 HO401 HO404 HO410 HO413 HO418 HO421 HO424 BK386 BK406 BK414 HB; obtain ⟨HO391, HO394, HO398, HO401, HO404, HO410, HO413, HO418, HO421, HO424, BK386, BK406, BK414, HB, BK426, GW426, GE426, NB386_426, NB426_386, NB406_426, NB426_406, NB414_426, NB426_414⟩ := n_; clear hb hbox hg; have hnb67 := NB426_386.out; have hnc67 := NB386_426.out; have hnb68 := NB426_406.out; have hnc68 := NB406_426.out; have hnb69 := NB426_414.out; have hnc69 := NB414_426.out; obtain ⟨z70_0, z70_1, z70_2, y70_0, y70_1, y70_2⟩ := zB3 BK426; obtain ⟨Ao71, co71, eo71⟩ := Kd.R_slice HO418.out; subst eo71; obtain ⟨Ao72, co72, eo72⟩ := Kd.R_slice HO421.out; subst eo72; obtain ⟨z73_0, z73_1, z73_2, y73_0, y73_1, y73_2⟩ := zB3 BK406) | ((with_reducible refine gate_callee (f := 25) rfl ?_); refine goesL_ (some 39) rfl rfl Try.func25 (by kernel_rfl) rfl #[.agg #[.int .i8 t415, .slice Ao71 t416.length co71, .slice Ao72 t419.length co72], .agg #[.int .i8 t395, .slice Ao55 t396.length co55, .slice Ao56 t399.length co56]] rfl (by (try simp only [List.map_toArray, List.map_cons, List.map_nil]); first | done | rfl | (simp only [List.length_drop, List.length_take]; rfl)) ?_; (with_reducible refine (laws_eqNetwork.calls k t415 _ _ t416 _ _ t419 t395 _ _ t396 _ _ t399 true _ ?side1 ?side2 ?side3 ?side4 ?side5 ?side6 ?side7 ?side8 A11.out).mono ?_); (case side1 => exact (Kd.R_reads' (zs HO418 BK426).out).2.2); (case side2 => exact (Kd.R_reads' HO418.out).2.1); (case side3 => exact (Kd.R_reads' (zs HO421 BK426).out).2.2); (case side4 => exact (Kd.R_reads' HO421.out).2.1); (case side5 => exact (Kd.R_reads' (zs HO398 BK426).out).2.2); (case side6 => exact (Kd.R_reads' HO398.out).2.1); (case side7 => exact (Kd.R_reads' (zs HO401 BK426).out).2.2); (case side8 => exact (Kd.R_reads' HO401.out).2.1); rintro e w74 ⟨rfl, hb⟩; refine ⟨_, rfl, ?_⟩; have n_ : _ ∧ _ ∧ _ ∧ _ ∧ _ ∧ _ ∧ _ ∧ _ ∧ _ ∧ _ ∧ _ ∧ _ ∧ _ ∧ _ ∧ _ := ⟨zsb HO391 BK426 hb, zsb HO394 BK426 hb, zsb HO398 BK426 hb, zsb HO401 BK426 hb, zsb HO404 BK426 hb, zsb HO410 BK426 hb, zsb HO413 BK426 hb, zsb HO418 BK426 hb, zsb HO421 BK426 hb, zsb HO424 BK426 hb, zfb BK386 NB386_426 hb, zfb BK406 NB406_426 hb, zfb BK414 NB414_426 hb, Aside0.mk (blk_below (g := gb426) (o := .cells #[.int .i8 t415, .slice Ao71 t416.length co71, .slice Ao72 t419.length co72] 31 (0, 0)) (by (with_reducible repeat (first | refine blk_drewN ?_ _ | refine blk_drew ?_ | refine blk_alloc ?_ _)); refine blk_put (cs := #[.int .i8 t415, .slice Ao71 t416.length co71, .slice none 0 0]) ?_ 2 _ rfl; (with_reducible repeat (first | refine blk_drewN ?_ _ | refine blk_drew ?_ | refine blk_alloc ?_ _)); refine blk_put (cs := #[.int .i8 t415, .slice none 0 0, .slice none 0 0]) ?_ 1 _ rfl; (with_reducible repeat (first | refine blk_drewN ?_ _ | refine blk_drew ?_ | refine blk_alloc ?_ _)); refine blk_put (cs := #[.int .i8 0, .slice none 0 0, .slice none 0 0]) ?_ 0 _ rfl; (with_reducible repeat (first | refine blk_drewN ?_ _ | refine blk_drew ?_ | refine blk_alloc ?_ _)); exact BK426.out) hb), zbs hb⟩; clear HO391 HO394 HO398 HO401 HO404 HO410 HO413 HO418 HO421 HO424 BK386 BK406 BK414 BK426 HB; obtain ⟨HO391, HO394, HO398, HO401, HO404, HO410, HO413, HO418, HO421, HO424, BK386, BK406, BK414, BK426, HB⟩ := n_; (try clear hb); (try clear hb2); (try clear hk); (try clear hi); obtain ⟨Ao75, co75, eo75⟩ := Kd.R_slice HO424.out; subst eo75; obtain ⟨Ao76, co76, eo76⟩ := Kd.R_slice HO404.out; subst eo76) | (go_at_call 44; (with_reducible refine (laws_eqInt64S.calls k _ _ t422 _ _ t402 true _ ?side1 ?side2 ?side3 ?side4 A13.out).mono ?_); (case side1 => exact zrc HO424); (case side2 => exact (Kd.R_reads' HO424.out).2.1); (case side3 => exact zrc HO404); (case side4 => exact (Kd.R_reads' HO404.out).2.1); rintro e w' ⟨rfl, ⟨nd, rfl⟩⟩; (try (rw [drewN_self w74]; generalize hq_ : World.drewN w74 _ = w74; have n0_ : Aside0 (Kd.R k81 81 w74 w.heap.size (fun k_ => some k_ ≠ (.slice Ao55 t396.length co55 : Value).ownBlock ∧ some k_ ≠ (.slice Ao63 t408.length co63 : Value).ownBlock ∧ some k_ ≠ (.slice Ao71 t416.length co71 : Value).ownBlock) (.slice Ao49 t389.length co49) t389) := ⟨by rw [← hq_]; exact (by (with_reducible repeat (first | apply Kd.R_alloc | apply Kd.R_drewN | apply Kd.R_drew)); exact Kd.R_mono HO391.out (fun _ hk => ⟨hk.1.1.2, ⟨hk.1.2, hk.2⟩⟩))⟩; have n1_ : Aside0 (Kd.R (Kd.int .i16) 79 w74 w.heap.size (fun k_ => some k_ ≠ (.slice Ao56 t399.length co56 : Value).ownBlock ∧ some k_ ≠ (.slice Ao64 t411.length co64 : Value).ownBlock ∧ some k_ ≠ (.slice Ao72 t419.length co72 : Value).ownBlock) (.slice Ao50 t392.length co50) t392) := ⟨by rw [← hq_]; exact (by (with_reducible repeat (first | apply Kd.R_alloc | apply Kd.R_drewN | apply Kd.R_drew)); exact Kd.R_mono HO394.out (fun _ hk => ⟨hk.1.1.2, ⟨hk.1.2, hk.2⟩⟩))⟩; have n2_ : Aside0 (Kd.R k81 81 w74 w.heap.size (fun k_ => some k_ ≠ (.slice Ao49 t389.length co49 : Value).ownBlock ∧ some k_ ≠ (.slice Ao63 t408.length co63 : Value).ownBlock ∧ some k_ ≠ (.slice Ao71 t416.length co71 : Value).ownBlock) (.slice Ao55 t396.length co55) t396) := ⟨by rw [← hq_]; exact (by (with_reducible repeat (first | apply Kd.R_alloc | apply Kd.R_drewN | apply Kd.R_drew)); exact Kd.R_mono HO398.out (fun _ hk => ⟨hk.1.1.2, ⟨hk.1.2, hk.2⟩⟩))⟩; have n3_ : Aside0 (Kd.R (Kd.int .i16) 79 w74 w.heap.size (fun k_ => some k_ ≠ (.slice Ao50 t392.length co50 : Value).ownBlock ∧ some k_ ≠ (.slice Ao64 t411.length co64 : Value).ownBlock ∧ some k_ ≠ (.slice Ao72 t419.length co72 : Value).ownBlock) (.slice Ao56 t399.length co56) t399) := ⟨by rw [← hq_]; exact (by (with_reducible repeat (first | apply Kd.R_alloc | apply Kd.R_drewN | apply Kd.R_drew)); exact Kd.R_mono HO401.out (fun _ hk => ⟨hk.1.1.2, ⟨hk.1.2, hk.2⟩⟩))⟩; have n4_ : Aside0 (Kd.R (Kd.int .i64) 2 w74 w.heap.size (fun k_ => some k_ ≠ (.slice Ao75 t422.length co75 : Value).ownBlock) (.slice Ao76 t402.length co76) t402) := ⟨by rw [← hq_]; exact (by (with_reducible repeat (first | apply Kd.R_alloc | apply Kd.R_drewN | apply Kd.R_drew)); exact Kd.R_mono HO404.out (fun _ hk => hk.2))⟩; have n5_ : Aside0 (Kd.R k81 81 w74 w.heap.size (fun k_ => some k_ ≠ (.slice Ao49 t389.length co49 : Value).ownBlock ∧ some k_ ≠ (.slice Ao55 t396.length co55 : Value).ownBlock ∧ some k_ ≠ (.slice Ao71 t416.length co71 : Value).ownBlock) (.slice Ao63 t408.length co63) t408) := ⟨by rw [← hq_]; exact (by (with_reducible repeat (first | apply Kd.R_alloc | apply Kd.R_drewN | apply Kd.R_drew)); exact Kd.R_mono HO410.out (fun _ hk => ⟨hk.1.1.2, ⟨hk.1.2, hk.2⟩⟩))⟩; have n6_ : Aside0 (Kd.R (Kd.int .i16) 79 w74 w.heap.size (fun k_ => some k_ ≠ (.slice Ao50 t392.length co50 : Value).ownBlock ∧ some k_ ≠ (.slice Ao56 t399.length co56 : Value).ownBlock ∧ some k_ ≠ (.slice Ao72 t419.length co72 : Value).ownBlock) (.slice Ao64 t411.length co64) t411) := ⟨by rw [← hq_]; exact (by (with_reducible repeat (first | apply Kd.R_alloc | apply Kd.R_drewN | apply Kd.R_drew)); exact Kd.R_mono HO413.out (fun _ hk => ⟨hk.1.1.2, ⟨hk.1.2, hk.2⟩⟩))⟩; have n7_ : Aside0 (Kd.R k81 81 w74 w.heap.size (fun k_ => some k_ ≠ (.slice Ao49 t389.length co49 : Value).ownBlock ∧ some k_ ≠ (.slice Ao55 t396.length co55 : Value).ownBlock ∧ some k_ ≠ (.slice Ao63 t408.length co63 : Value).ownBlock) (.slice Ao71 t416.length co71) t416) := ⟨by rw [← hq_]; exact (by (with_reducible repeat (first | apply Kd.R_alloc | apply Kd.R_drewN | apply Kd.R_drew)); exact Kd.R_mono HO418.out (fun _ hk => ⟨hk.1.1.2, ⟨hk.1.2, hk.2⟩⟩))⟩; have n8_ : Aside0 (Kd.R (Kd.int .i16) 79 w74 w.heap.size (fun k_ => some k_ ≠ (.slice Ao50 t392.length co50 : Value).ownBlock ∧ some k_ ≠ (.slice Ao56 t399.length co56 : Value).ownBlock ∧ some k_ ≠ (.slice Ao64 t411.length co64 : Value).ownBlock) (.slice Ao72 t419.length co72) t419) := ⟨by rw [← hq_]; exact (by (with_reducible repeat (first | apply Kd.R_alloc | apply Kd.R_drewN | apply Kd.R_drew)); exact Kd.R_mono HO421.out (fun _ hk => ⟨hk.1.1.2, ⟨hk.1.2, hk.2⟩⟩))⟩; have n9_ : Aside0 (Kd.R (Kd.int .i64) 2 w74 w.heap.size (fun k_ => some k_ ≠ (.slice Ao76 t402.length co76 : Value).ownBlock) (.slice Ao75 t422.length co75) t422) := ⟨by rw [← hq_]; exact (by (with_reducible repeat (first | apply Kd.R_alloc | apply Kd.R_drewN | apply Kd.R_drew)); exact Kd.R_mono HO424.out (fun _ hk => hk.2))⟩; have n10_ : Aside0 (w74.heap[gb386]? = some (.cells #[.int .i8 a0_0, .slice A0_1 l0_1.length c0_1, .slice A0_2 l0_2.length c0_2] 26 (0, 0))) := ⟨by rw [← hq_]; exact (zh BK386).out⟩; have n11_ : Aside0 (w74.heap[gb406]? = some (.cells #[.int .i8 t395, .slice Ao55 t396.length co55, .slice Ao56 t399.length co56] 31 (0, 0))) := ⟨by rw [← hq_]; exact (zh BK406).out⟩; have n12_ : Aside0 (w74.heap[gb414]? = some (.cells #[.int .i8 t407, .slice Ao63 t408.length co63, .slice Ao64 t411.length co64] 31 (0, 0))) := ⟨by rw [← hq_]; exact (zh BK414).out⟩; have n13_ : Aside0 (w74.heap[gb426]? = some (.cells #[.int .i8 t415, .slice Ao71 t416.length co71, .slice Ao72 t419.length co72] 31 (0, 0))) := ⟨by rw [← hq_]; exact (zh BK426).out⟩; have n14_ : Aside0 (Below w.heap.size w w74) := ⟨by rw [← hq_]; exact (by repeat (first | (with_reducible first | exact HB.out | apply below_alloc | apply pw_below_drewN | apply below_drew1 | refine below_set ?_ GE386.out | refine below_set ?_ GE406.out | refine below_set ?_ GE414.out | refine below_set ?_ GE426.out) | exact HB.out))⟩; clear HO391 HO394 HO398 HO401 HO404 HO410 HO413 HO418 HO421 HO424 BK386 BK406 BK414 BK426 HB hq_; have HO391 := n0_; have HO394 := n1_; have HO398 := n2_; have HO401 := n3_; have HO404 := n4_; have HO410 := n5_; have HO413 := n6_; have HO418 := n7_; have HO421 := n8_; have HO424 := n9_; have BK386 := n10_; have BK406 := n11_; have BK414 := n12_; have BK426 := n13_; have HB := n14_; clear n0_ n1_ n2_ n3_ n4_ n5_ n6_ n7_ n8_ n9_ n10_ n11_ n12_ n13_ n14_))))
 have n0_ := Aside0.mk (Kd.R_drew HO391.out)
 have n1_ := Aside0.mk (Kd.R_drew HO394.out)
 have n2_ := Aside0.mk (Kd.R_drew HO398.out)
 have n3_ := Aside0.mk (Kd.R_drew HO401.out)
 have n4_ := Aside0.mk (Kd.R_drew HO404.out)
 have n5_ := Aside0.mk (Kd.R_drew HO410.out)
 have n6_ := Aside0.mk (Kd.R_drew HO413.out)
 have n7_ := Aside0.mk (Kd.R_drew HO418.out)
 have n8_ := Aside0.mk (Kd.R_drew HO421.out)
 have n9_ := Aside0.mk (Kd.R_drew HO424.out)
 have n10_ := Aside0.mk (blk_drew BK386.out)
 have n11_ := Aside0.mk (blk_drew BK406.out)
 have n12_ := Aside0.mk (blk_drew BK414.out)
 have n13_ := Aside0.mk (blk_drew BK426.out)
 have n14_ := Aside0.mk (below_drew1 HB.out)
 clear HO391
 clear HO394
 clear HO398
 clear HO401
 clear HO404
 clear HO410
 clear HO413
 clear HO418
 clear HO421
 clear HO424
 clear BK386
 clear BK406
 clear BK414
 clear BK426
 clear HB
 have HO391 := n0_
 have HO394 := n1_
 have HO398 := n2_
 have HO401 := n3_
 have HO404 := n4_
 have HO410 := n5_
 have HO413 := n6_
 have HO418 := n7_
 have HO421 := n8_
 have HO424 := n9_
 have BK386 := n10_
 have BK406 := n11_
 have BK414 := n12_
 have BK426 := n13_
 have HB := n14_
 clear n0_ n1_ n2_ n3_ n4_ n5_ n6_ n7_ n8_ n9_ n10_ n11_ n12_ n13_ n14_
 refine start_ (n := 5) (S := fun w' => w'.cell? ⟨gb414, 0, none⟩ = some (.int .i8 t407) ∧ w'.cell? ⟨gb414, 1, none⟩ = some (.slice Ao63 t408.length co63) ∧ w'.cell? ⟨gb414, 2, none⟩ = some (.slice Ao64 t411.length co64) ∧ w'.cell? ⟨gb386, 0, none⟩ = some (.int .i8 a0_0) ∧ w'.cell? ⟨gb386, 1, none⟩ = some (.slice A0_1 l0_1.length c0_1) ∧ w'.cell? ⟨gb386, 2, none⟩ = some (.slice A0_2 l0_2.length c0_2)) (ds := []) #[false, false, false, false, false] (by kernel_rfl) rfl rfl ⟨(blk_cell BK414.out 0).trans rfl, (blk_cell BK414.out 1).trans rfl, (blk_cell BK414.out 2).trans rfl, (blk_cell BK386.out 0).trans rfl, (blk_cell BK386.out 1).trans rfl, (blk_cell BK386.out 2).trans rfl⟩ (fun hHeld => ?_)
 generalize w74.drew = w77 at HO391 HO394 HO398 HO401 HO404 HO410 HO413 HO418 HO421 HO424 BK386 BK406 BK414 BK426 HB hHeld ⊢
 refine take_ (i := 0) (N := some 52) (v := ?_) (a' := ?_) #[true, false, false, false, false] rfl rfl (by kernel_rfl) (fun _ _ _ h => h) (Or.inl ⟨by rfl, ?_⟩) hHeld ?_ ?_
 rotate_left
 ·rintro w' ⟨s0, s1, s2, s3, s4, s5⟩
  go_simp
  with_reducible rfl
 rotate_left
 ·simp only [Act.put, List.setIfInBounds_toArray, List.set_cons_zero, List.set_cons_succ, i64_w, i32_w]
  rfl
 refine take_ (i := 1) (N := some 53) (v := ?_) (a' := ?_) #[true, true, false, false, false] rfl rfl (by kernel_rfl) (fun _ _ _ h => h) (Or.inl ⟨by rfl, ?_⟩) hHeld ?_ ?_
 rotate_left
 ·rintro w' ⟨s0, s1, s2, s3, s4, s5⟩
  go_simp
  with_reducible rfl
 rotate_left
 ·simp only [Act.put, List.setIfInBounds_toArray, List.set_cons_zero, List.set_cons_succ, i64_w, i32_w]
  rfl
 refine one_ (i := 2) (N := some 54) #[true, true, true, false, false] rfl rfl (by kernel_rfl) (by decide) (fun K hK => ?_)
 refine goes_ Try.func23 (by kernel_rfl) rfl #[.agg #[.int .i8 a0_0, .slice A0_1 l0_1.length c0_1, .slice A0_2 l0_2.length c0_2]] (by rfl) rfl rfl (by (try simp only [List.map_toArray, List.map_cons, List.map_nil]); first | done | rfl | (simp only [List.length_drop, List.length_take]; rfl)) ?_
 with_reducible refine (laws_toNetwork.calls k a0_0 _ _ l0_1 _ _ l0_2 t429 t430 t433 _ ?side1 ?side2 ?side3 ?side4 A16.out).mono ?_
 (case side1 => exact zcc HB HR0_1.out)
 (case side2 => exact HC0_1.out)
 (case side3 => exact zcc HB HR0_2.out)
 (case side4 => exact HC0_2.out)
 rintro e w78 ⟨v431, v434, rfl, ho0, ho1, hb⟩
 refine ⟨_, rfl, ?_⟩
 have n0_ := Aside0.mk (Kd.R_elder' (ze HO391).out (Kd.R_base ho0) hb)
 have n1_ := Aside0.mk (Kd.R_elder' (ze HO394).out (Kd.R_base ho1) hb)
 have n2_ := Aside0.mk (Kd.R_elder' (ze HO398).out (Kd.R_base ho0) hb)
 have n3_ := Aside0.mk (Kd.R_elder' (ze HO401).out (Kd.R_base ho1) hb)
 have n4_ := zr HO404 hb
 have n5_ := Aside0.mk (Kd.R_elder' (ze HO410).out (Kd.R_base ho0) hb)
 have n6_ := Aside0.mk (Kd.R_elder' (ze HO413).out (Kd.R_base ho1) hb)
 have n7_ := Aside0.mk (Kd.R_elder' (ze HO418).out (Kd.R_base ho0) hb)
 have n8_ := Aside0.mk (Kd.R_elder' (ze HO421).out (Kd.R_base ho1) hb)
 have n9_ := zr HO424 hb
 have n10_ := Aside0.mk (Kd.R_lower (Kd.R_new' (Kd.R_new' (Kd.R_new' (Kd.R_new' ho0 (Kd.R_lt (ze HO391).out)) (Kd.R_lt (ze HO398).out)) (Kd.R_lt (ze HO410).out)) (Kd.R_lt (ze HO418).out)) (zz HB))
 have n11_ := Aside0.mk (Kd.R_lower (Kd.R_new' (Kd.R_new' (Kd.R_new' (Kd.R_new' ho1 (Kd.R_lt (ze HO394).out)) (Kd.R_lt (ze HO401).out)) (Kd.R_lt (ze HO413).out)) (Kd.R_lt (ze HO421).out)) (zz HB))
 have n12_ := zk BK386 hb
 have n13_ := zk BK406 hb
 have n14_ := zk BK414 hb
 have n15_ := zk BK426 hb
 have n16_ := zbs hb
 clear HO391
 clear HO394
 clear HO398
 clear HO401
 clear HO404
 clear HO410
 clear HO413
 clear HO418
 clear HO421
 clear HO424
 clear BK386
 clear BK406
 clear BK414
 clear BK426
 clear HB
 have HO391 := n0_
 have HO394 := n1_
 have HO398 := n2_
 have HO401 := n3_
 have HO404 := n4_
 have HO410 := n5_
 have HO413 := n6_
 have HO418 := n7_
 have HO421 := n8_
 have HO424 := n9_
 have HO432 := n10_
 have HO435 := n11_
 have BK386 := n12_
 have BK406 := n13_
 have BK414 := n14_
 have BK426 := n15_
 have HB := n16_
 clear n0_ n1_ n2_ n3_ n4_ n5_ n6_ n7_ n8_ n9_ n10_ n11_ n12_ n13_ n14_ n15_ n16_
 (try clear hb)
 (try clear hb2)
 (try clear hk)
 (try clear hi)
 (try clear ho0)
 (try clear ho1)
 obtain ⟨Ao79, co79, eo79⟩ := Kd.R_slice HO432.out
 (first | subst eo79 | (injection eo79 with f1_ f2_ f3_; have f4_ := f1_.symm; have f5_ := f3_.symm; clear f1_ f2_ f3_; subst f4_; subst f5_))
 obtain ⟨Ao80, co80, eo80⟩ := Kd.R_slice HO435.out
 (first | subst eo80 | (injection eo80 with f1_ f2_ f3_; have f4_ := f1_.symm; have f5_ := f3_.symm; clear f1_ f2_ f3_; subst f4_; subst f5_))
 refine hK.out _ _ ⟨(blk_cell BK414.out 0).trans rfl, (blk_cell BK414.out 1).trans rfl, (blk_cell BK414.out 2).trans rfl, (blk_cell BK386.out 0).trans rfl, (blk_cell BK386.out 1).trans rfl, (blk_cell BK386.out 2).trans rfl⟩ (fun hHeld => ?_)
 clear hK K
 refine norm_ (a' := ?_) ?_ ?_
 rotate_left
 ·show Act.put _ (some 54) _ = _
  simp only [Act.put, List.setIfInBounds_toArray, List.set_cons_zero, List.set_cons_succ, i64_w, i32_w]
  rfl
 refine one_ (i := 3) (N := some 55) #[true, true, true, true, false] rfl rfl (by kernel_rfl) (by decide) (fun K hK => ?_)
 refine goes_ Try.func25 (by kernel_rfl) rfl #[.agg #[.int .i8 t407, .slice Ao63 t408.length co63, .slice Ao64 t411.length co64], .agg #[.int .i8 t429, .slice Ao79 t430.length co79, .slice Ao80 t433.length co80]] (by rfl) rfl rfl (by (try simp only [List.map_toArray, List.map_cons, List.map_nil]); first | done | rfl | (simp only [List.length_drop, List.length_take]; rfl)) ?_
 with_reducible refine (laws_eqNetwork.calls k t407 _ _ t408 _ _ t411 t429 _ _ t430 _ _ t433 true _ ?side1 ?side2 ?side3 ?side4 ?side5 ?side6 ?side7 ?side8 A17.out).mono ?_
 (case side1 => exact zrc HO410)
 (case side2 => exact (Kd.R_reads' HO410.out).2.1)
 (case side3 => exact zrc HO413)
 (case side4 => exact (Kd.R_reads' HO413.out).2.1)
 (case side5 => exact zrc HO432)
 (case side6 => exact (Kd.R_reads' HO432.out).2.1)
 (case side7 => exact zrc HO435)
 (case side8 => exact (Kd.R_reads' HO435.out).2.1)
 rintro e w81 ⟨rfl, hb⟩
 refine ⟨_, rfl, ?_⟩
 have n0_ := zr HO391 hb
 have n1_ := zr HO394 hb
 have n2_ := zr HO398 hb
 have n3_ := zr HO401 hb
 have n4_ := zr HO404 hb
 have n5_ := zr HO410 hb
 have n6_ := zr HO413 hb
 have n7_ := zr HO418 hb
 have n8_ := zr HO421 hb
 have n9_ := zr HO424 hb
 have n10_ := zr HO432 hb
 have n11_ := zr HO435 hb
 have n12_ := zk BK386 hb
 have n13_ := zk BK406 hb
 have n14_ := zk BK414 hb
 have n15_ := zk BK426 hb
 have n16_ := zbs hb
 clear HO391
 clear HO394
 clear HO398
 clear HO401
 clear HO404
 clear HO410
 clear HO413
 clear HO418
 clear HO421
 clear HO424
 clear HO432
 clear HO435
 clear BK386
 clear BK406
 clear BK414
 clear BK426
 clear HB
 have HO391 := n0_
 have HO394 := n1_
 have HO398 := n2_
 have HO401 := n3_
 have HO404 := n4_
 have HO410 := n5_
 have HO413 := n6_
 have HO418 := n7_
 have HO421 := n8_
 have HO424 := n9_
 have HO432 := n10_
 have HO435 := n11_
 have BK386 := n12_
 have BK406 := n13_
 have BK414 := n14_
 have BK426 := n15_
 have HB := n16_
 clear n0_ n1_ n2_ n3_ n4_ n5_ n6_ n7_ n8_ n9_ n10_ n11_ n12_ n13_ n14_ n15_ n16_
 (try clear hb)
 (try clear hb2)
 (try clear hk)
 (try clear hi)
 refine hK.out _ _ ⟨(blk_cell BK414.out 0).trans rfl, (blk_cell BK414.out 1).trans rfl, (blk_cell BK414.out 2).trans rfl, (blk_cell BK386.out 0).trans rfl, (blk_cell BK386.out 1).trans rfl, (blk_cell BK386.out 2).trans rfl⟩ (fun hHeld => ?_)
 clear hK K
 refine norm_ (a' := ?_) ?_ ?_
 rotate_left
 ·show Act.put _ (some 55) _ = _
  simp only [Act.put, List.setIfInBounds_toArray, List.set_cons_zero, List.set_cons_succ, i64_w, i32_w]
  rfl
 refine pure_ (i := 4) (N := some 56) (v := ?_) (a' := ?_) #[true, true, true, true, true] rfl rfl (by kernel_rfl) (fun _ _ _ h => h) (Or.inl ⟨by rfl, ?_⟩) ?_ ?_
 rotate_left
 ·intro w'
  go_simp
  with_reducible rfl
 rotate_left
 ·simp only [Act.put, List.setIfInBounds_toArray, List.set_cons_zero, List.set_cons_succ, i64_w, i32_w]
  rfl
 refine done_ (by kernel_rfl) ?_
 obtain ⟨z82_0, z82_1, z82_2, y82_0, y82_1, y82_2⟩ := zB3 BK414
 try go_wp2_with (first | ((with_reducible refine gate_callee (f := 48) rfl ?_); refine goesL_ (some 59) rfl rfl Try.func48 (by kernel_rfl) rfl #[.agg #[.int .i8 t407, .slice Ao63 t408.length co63, .slice Ao64 t411.length co64], .int .i64 1] rfl (by (try simp only [List.map_toArray, List.map_cons, List.map_nil]); first | done | rfl | (simp only [List.length_drop, List.length_take]; rfl)) ?_; (with_reducible refine (laws_markNetwork.calls k t407 (fun k_ => some k_ = (.slice Ao63 t408.length co63 : Value).ownBlock) (.slice Ao63 t408.length co63) t408 (fun k_ => some k_ = (.slice Ao64 t411.length co64 : Value).ownBlock) (.slice Ao64 t411.length co64) t411 1 t437 t438 t439 w _ ?side1 ?side2 ?side3 A19.out).mono ?_); (case side1 => exact zbo); (case side2 => exact Kd.R_tight rfl HO410.out); (case side3 => exact Kd.R_tight rfl HO413.out); rintro e w83 ⟨rfl, hy0, hy1, hb, hkp⟩; refine ⟨_, rfl, ?_⟩; have n_ : _ ∧ _ ∧ _ ∧ _ ∧ _ ∧ _ ∧ _ ∧ _ ∧ _ ∧ _ ∧ _ ∧ _ ∧ _ ∧ _ ∧ _ ∧ _ ∧ _ := ⟨zkr BK386 hkp (fun hs_ => Or.elim hs_ (fun e_ => (fun e_ => (Kd.R_ne HO410.out BK386.out (by decide)) e_) e_) (fun e_ => (fun e_ => (Kd.R_ne HO413.out BK386.out (by decide)) e_) e_)), Aside0.mk (Kd.R_mono (ok' := fun k_ => some k_ ≠ (.slice Ao55 t396.length co55 : Value).ownBlock ∧ some k_ ≠ (.slice Ao63 t408.length co63 : Value).ownBlock ∧ some k_ ≠ (.slice Ao71 t416.length co71 : Value).ownBlock ∧ some k_ ≠ (.slice Ao79 t430.length co79 : Value).ownBlock) (Kd.R_keptB ((Kd.R_apart' HO391.out (Kd.R_typed HO413.out) (by decide))) hkp (fun k_ hk_ hs_ => Or.elim hs_ (fun e_ => (hk_.1.1.2.1) e_) (fun e_ => (hk_.2) e_))) (fun k_ hk_ => ⟨hk_.1.1.1.1, hk_.1.1.1.2.1, hk_.1.1.1.2.2, hk_.1.1.2⟩)), Aside0.mk (Kd.R_mono (ok' := fun k_ => some k_ ≠ (.slice Ao56 t399.length co56 : Value).ownBlock ∧ some k_ ≠ (.slice Ao64 t411.length co64 : Value).ownBlock ∧ some k_ ≠ (.slice Ao72 t419.length co72 : Value).ownBlock ∧ some k_ ≠ (.slice Ao80 t433.length co80 : Value).ownBlock) (Kd.R_keptB ((Kd.R_apart' HO394.out (Kd.R_typed HO410.out) (by decide))) hkp (fun k_ hk_ hs_ => Or.elim hs_ (fun e_ => (hk_.2) e_) (fun e_ => (hk_.1.1.2.1) e_))) (fun k_ hk_ => ⟨hk_.1.1.1.1, hk_.1.1.1.2.1, hk_.1.1.1.2.2, hk_.1.1.2⟩)), Aside0.mk (Kd.R_mono (ok' := fun k_ => some k_ ≠ (.slice Ao49 t389.length co49 : Value).ownBlock ∧ some k_ ≠ (.slice Ao63 t408.length co63 : Value).ownBlock ∧ some k_ ≠ (.slice Ao71 t416.length co71 : Value).ownBlock ∧ some k_ ≠ (.slice Ao79 t430.length co79 : Value).ownBlock) (Kd.R_keptB ((Kd.R_apart' HO398.out (Kd.R_typed HO413.out) (by decide))) hkp (fun k_ hk_ hs_ => Or.elim hs_ (fun e_ => (hk_.1.1.2.1) e_) (fun e_ => (hk_.2) e_))) (fun k_ hk_ => ⟨hk_.1.1.1.1, hk_.1.1.1.2.1, hk_.1.1.1.2.2, hk_.1.1.2⟩)), Aside0.mk (Kd.R_mono (ok' := fun k_ => some k_ ≠ (.slice Ao50 t392.length co50 : Value).ownBlock ∧ some k_ ≠ (.slice Ao64 t411.length co64 : Value).ownBlock ∧ some k_ ≠ (.slice Ao72 t419.length co72 : Value).ownBlock ∧ some k_ ≠ (.slice Ao80 t433.length co80 : Value).ownBlock) (Kd.R_keptB ((Kd.R_apart' HO401.out (Kd.R_typed HO410.out) (by decide))) hkp (fun k_ hk_ hs_ => Or.elim hs_ (fun e_ => (hk_.2) e_) (fun e_ => (hk_.1.1.2.1) e_))) (fun k_ hk_ => ⟨hk_.1.1.1.1, hk_.1.1.1.2.1, hk_.1.1.1.2.2, hk_.1.1.2⟩)), Aside0.mk (Kd.R_mono (ok' := fun k_ => some k_ ≠ (.slice Ao75 t422.length co75 : Value).ownBlock) (Kd.R_keptB ((Kd.R_apart' (Kd.R_apart' HO404.out (Kd.R_typed HO410.out) (by decide)) (Kd.R_typed HO413.out) (by decide))) hkp (fun k_ hk_ hs_ => Or.elim hs_ (fun e_ => (hk_.1.2) e_) (fun e_ => (hk_.2) e_))) (fun k_ hk_ => hk_.1.1.1)), zkr BK406 hkp (fun hs_ => Or.elim hs_ (fun e_ => (fun e_ => (Kd.R_ne HO410.out BK406.out (by decide)) e_) e_) (fun e_ => (fun e_ => (Kd.R_ne HO413.out BK406.out (by decide)) e_) e_)), Aside0.mk (Kd.R_reok rfl hy0 (fun k_ e_ => HO410.out.1 k_ e_)), Aside0.mk (Kd.R_reok rfl hy1 (fun k_ e_ => HO413.out.1 k_ e_)), zkr BK414 hkp (fun hs_ => Or.elim hs_ (fun e_ => (fun e_ => (Kd.R_ne HO410.out BK414.out (by decide)) e_) e_) (fun e_ => (fun e_ => (Kd.R_ne HO413.out BK414.out (by decide)) e_) e_)), Aside0.mk (Kd.R_mono (ok' := fun k_ => some k_ ≠ (.slice Ao49 t389.length co49 : Value).ownBlock ∧ some k_ ≠ (.slice Ao55 t396.length co55 : Value).ownBlock ∧ some k_ ≠ (.slice Ao63 t408.length co63 : Value).ownBlock ∧ some k_ ≠ (.slice Ao79 t430.length co79 : Value).ownBlock) (Kd.R_keptB ((Kd.R_apart' HO418.out (Kd.R_typed HO413.out) (by decide))) hkp (fun k_ hk_ hs_ => Or.elim hs_ (fun e_ => (hk_.1.1.2.2) e_) (fun e_ => (hk_.2) e_))) (fun k_ hk_ => ⟨hk_.1.1.1.1, hk_.1.1.1.2.1, hk_.1.1.1.2.2, hk_.1.1.2⟩)), Aside0.mk (Kd.R_mono (ok' := fun k_ => some k_ ≠ (.slice Ao50 t392.length co50 : Value).ownBlock ∧ some k_ ≠ (.slice Ao56 t399.length co56 : Value).ownBlock ∧ some k_ ≠ (.slice Ao64 t411.length co64 : Value).ownBlock ∧ some k_ ≠ (.slice Ao80 t433.length co80 : Value).ownBlock) (Kd.R_keptB ((Kd.R_apart' HO421.out (Kd.R_typed HO410.out) (by decide))) hkp (fun k_ hk_ hs_ => Or.elim hs_ (fun e_ => (hk_.2) e_) (fun e_ => (hk_.1.1.2.2) e_))) (fun k_ hk_ => ⟨hk_.1.1.1.1, hk_.1.1.1.2.1, hk_.1.1.1.2.2, hk_.1.1.2⟩)), Aside0.mk (Kd.R_mono (ok' := fun k_ => some k_ ≠ (.slice Ao76 t402.length co76 : Value).ownBlock) (Kd.R_keptB ((Kd.R_apart' (Kd.R_apart' HO424.out (Kd.R_typed HO410.out) (by decide)) (Kd.R_typed HO413.out) (by decide))) hkp (fun k_ hk_ hs_ => Or.elim hs_ (fun e_ => (hk_.1.2) e_) (fun e_ => (hk_.2) e_))) (fun k_ hk_ => hk_.1.1.1)), zkr BK426 hkp (fun hs_ => Or.elim hs_ (fun e_ => (fun e_ => (Kd.R_ne HO410.out BK426.out (by decide)) e_) e_) (fun e_ => (fun e_ => (Kd.R_ne HO413.out BK426.out (by decide)) e_) e_)), Aside0.mk (Kd.R_mono (ok' := fun k_ => some k_ ≠ (.slice Ao49 t389.length co49 : Value).ownBlock ∧ some k_ ≠ (.slice Ao55 t396.length co55 : Value).ownBlock ∧ some k_ ≠ (.slice Ao63 t408.length co63 : Value).ownBlock ∧ some k_ ≠ (.slice Ao71 t416.length co71 : Value).ownBlock) (Kd.R_keptB ((Kd.R_apart' HO432.out (Kd.R_typed HO413.out) (by decide))) hkp (fun k_ hk_ hs_ => Or.elim hs_ (fun e_ => (hk_.1.1.2) e_) (fun e_ => (hk_.2) e_))) (fun k_ hk_ => ⟨hk_.1.1.1.1.1.2, hk_.1.1.1.1.2, hk_.1.1.1.2, hk_.1.1.2⟩)), Aside0.mk (Kd.R_mono (ok' := fun k_ => some k_ ≠ (.slice Ao50 t392.length co50 : Value).ownBlock ∧ some k_ ≠ (.slice Ao56 t399.length co56 : Value).ownBlock ∧ some k_ ≠ (.slice Ao64 t411.length co64 : Value).ownBlock ∧ some k_ ≠ (.slice Ao72 t419.length co72 : Value).ownBlock) (Kd.R_keptB ((Kd.R_apart' HO435.out (Kd.R_typed HO410.out) (by decide))) hkp (fun k_ hk_ hs_ => Or.elim hs_ (fun e_ => (hk_.2) e_) (fun e_ => (hk_.1.1.2) e_))) (fun k_ hk_ => ⟨hk_.1.1.1.1.1.2, hk_.1.1.1.1.2, hk_.1.1.1.2, hk_.1.1.2⟩)), Aside0.mk (hb)⟩; clear BK386 HO391 HO394 HO398 HO401 HO404 BK406 HO410 HO413 BK414 HO418 HO421 HO424 BK426 HO432 HO435 HB; obtain ⟨BK386, HO391, HO394, HO398, HO401, HO404, BK406, HO410, HO413, BK414, HO418, HO421, HO424, BK426, HO432, HO435, HB⟩ := n_; (try clear hb); (try clear hkp); (try clear hy0); (try clear hy1); obtain ⟨z84_0, z84_1, z84_2, y84_0, y84_1, y84_2⟩ := zB3 BK426; obtain ⟨z85_0, z85_1, z85_2, y85_0, y85_1, y85_2⟩ := zB3 BK406) | (go_at_call 25; (with_reducible refine (laws_eqNetwork.calls k t415 _ _ t416 _ _ t419 t395 _ _ t396 _ _ t399 true _ ?side1 ?side2 ?side3 ?side4 ?side5 ?side6 ?side7 ?side8 A21.out).mono ?_); (case side1 => exact zrc HO418); (case side2 => exact (Kd.R_reads' HO418.out).2.1); (case side3 => exact zrc HO421); (case side4 => exact (Kd.R_reads' HO421.out).2.1); (case side5 => exact zrc HO398); (case side6 => exact (Kd.R_reads' HO398.out).2.1); (case side7 => exact zrc HO401); (case side8 => exact (Kd.R_reads' HO401.out).2.1); rintro e w86 ⟨rfl, hb⟩; have n_ : _ ∧ _ ∧ _ ∧ _ ∧ _ ∧ _ ∧ _ ∧ _ ∧ _ ∧ _ ∧ _ ∧ _ ∧ _ ∧ _ ∧ _ ∧ _ ∧ _ := ⟨zr HO391 hb, zr HO394 hb, zr HO398 hb, zr HO401 hb, zr HO404 hb, zr HO410 hb, zr HO413 hb, zr HO418 hb, zr HO421 hb, zr HO424 hb, zr HO432 hb, zr HO435 hb, zk BK386 hb, zk BK406 hb, zk BK414 hb, zk BK426 hb, zbs hb⟩; clear HO391 HO394 HO398 HO401 HO404 HO410 HO413 HO418 HO421 HO424 HO432 HO435 BK386 BK406 BK414 BK426 HB; obtain ⟨HO391, HO394, HO398, HO401, HO404, HO410, HO413, HO418, HO421, HO424, HO432, HO435, BK386, BK406, BK414, BK426, HB⟩ := n_; (try clear hb); (try clear hb2); (try clear hk); (try clear hi)) | (go_at_call 44; (with_reducible refine (laws_eqInt64S.calls k _ _ t422 _ _ t402 true _ ?side1 ?side2 ?side3 ?side4 A23.out).mono ?_); (case side1 => exact zrc HO424); (case side2 => exact (Kd.R_reads' HO424.out).2.1); (case side3 => exact zrc HO404); (case side4 => exact (Kd.R_reads' HO404.out).2.1); rintro e w' ⟨rfl, ⟨nd, rfl⟩⟩; (try (rw [drewN_self w86]; generalize hq_ : World.drewN w86 _ = w86; have n0_ : Aside0 (Kd.R k81 81 w86 w.heap.size (fun k_ => some k_ ≠ (.slice Ao55 t396.length co55 : Value).ownBlock ∧ some k_ ≠ (.slice Ao63 t408.length co63 : Value).ownBlock ∧ some k_ ≠ (.slice Ao71 t416.length co71 : Value).ownBlock ∧ some k_ ≠ (.slice Ao79 t430.length co79 : Value).ownBlock) (.slice Ao49 t389.length co49) t389) := ⟨by rw [← hq_]; exact (ze HO391).out⟩; have n1_ : Aside0 (Kd.R (Kd.int .i16) 79 w86 w.heap.size (fun k_ => some k_ ≠ (.slice Ao56 t399.length co56 : Value).ownBlock ∧ some k_ ≠ (.slice Ao64 t411.length co64 : Value).ownBlock ∧ some k_ ≠ (.slice Ao72 t419.length co72 : Value).ownBlock ∧ some k_ ≠ (.slice Ao80 t433.length co80 : Value).ownBlock) (.slice Ao50 t392.length co50) t392) := ⟨by rw [← hq_]; exact (ze HO394).out⟩; have n2_ : Aside0 (Kd.R k81 81 w86 w.heap.size (fun k_ => some k_ ≠ (.slice Ao49 t389.length co49 : Value).ownBlock ∧ some k_ ≠ (.slice Ao63 t408.length co63 : Value).ownBlock ∧ some k_ ≠ (.slice Ao71 t416.length co71 : Value).ownBlock ∧ some k_ ≠ (.slice Ao79 t430.length co79 : Value).ownBlock) (.slice Ao55 t396.length co55) t396) := ⟨by rw [← hq_]; exact (ze HO398).out⟩; have n3_ : Aside0 (Kd.R (Kd.int .i16) 79 w86 w.heap.size (fun k_ => some k_ ≠ (.slice Ao50 t392.length co50 : Value).ownBlock ∧ some k_ ≠ (.slice Ao64 t411.length co64 : Value).ownBlock ∧ some k_ ≠ (.slice Ao72 t419.length co72 : Value).ownBlock ∧ some k_ ≠ (.slice Ao80 t433.length co80 : Value).ownBlock) (.slice Ao56 t399.length co56) t399) := ⟨by rw [← hq_]; exact (ze HO401).out⟩; have n4_ : Aside0 (Kd.R (Kd.int .i64) 2 w86 w.heap.size (fun k_ => some k_ ≠ (.slice Ao75 t422.length co75 : Value).ownBlock) (.slice Ao76 t402.length co76) t402) := ⟨by rw [← hq_]; exact (ze HO404).out⟩; have n5_ : Aside0 (Kd.R k81 81 w86 w.heap.size (fun k_ => some k_ ≠ (.slice Ao49 t389.length co49 : Value).ownBlock ∧ some k_ ≠ (.slice Ao55 t396.length co55 : Value).ownBlock ∧ some k_ ≠ (.slice Ao71 t416.length co71 : Value).ownBlock ∧ some k_ ≠ (.slice Ao79 t430.length co79 : Value).ownBlock) (.slice Ao63 t408.length co63) t438) := ⟨by rw [← hq_]; exact (by (with_reducible repeat (first | apply Kd.R_alloc | apply Kd.R_drewN | apply Kd.R_drew)); exact Kd.R_mono HO410.out (fun _ hk => ⟨hk.1.1, ⟨hk.1.2.1, ⟨hk.1.2.2, hk.2⟩⟩⟩))⟩; have n6_ : Aside0 (Kd.R (Kd.int .i16) 79 w86 w.heap.size (fun k_ => some k_ ≠ (.slice Ao50 t392.length co50 : Value).ownBlock ∧ some k_ ≠ (.slice Ao56 t399.length co56 : Value).ownBlock ∧ some k_ ≠ (.slice Ao72 t419.length co72 : Value).ownBlock ∧ some k_ ≠ (.slice Ao80 t433.length co80 : Value).ownBlock) (.slice Ao64 t411.length co64) t439) := ⟨by rw [← hq_]; exact (by (with_reducible repeat (first | apply Kd.R_alloc | apply Kd.R_drewN | apply Kd.R_drew)); exact Kd.R_mono HO413.out (fun _ hk => ⟨hk.1.1, ⟨hk.1.2.1, ⟨hk.1.2.2, hk.2⟩⟩⟩))⟩; have n7_ : Aside0 (Kd.R k81 81 w86 w.heap.size (fun k_ => some k_ ≠ (.slice Ao49 t389.length co49 : Value).ownBlock ∧ some k_ ≠ (.slice Ao55 t396.length co55 : Value).ownBlock ∧ some k_ ≠ (.slice Ao63 t408.length co63 : Value).ownBlock ∧ some k_ ≠ (.slice Ao79 t430.length co79 : Value).ownBlock) (.slice Ao71 t416.length co71) t416) := ⟨by rw [← hq_]; exact (ze HO418).out⟩; have n8_ : Aside0 (Kd.R (Kd.int .i16) 79 w86 w.heap.size (fun k_ => some k_ ≠ (.slice Ao50 t392.length co50 : Value).ownBlock ∧ some k_ ≠ (.slice Ao56 t399.length co56 : Value).ownBlock ∧ some k_ ≠ (.slice Ao64 t411.length co64 : Value).ownBlock ∧ some k_ ≠ (.slice Ao80 t433.length co80 : Value).ownBlock) (.slice Ao72 t419.length co72) t419) := ⟨by rw [← hq_]; exact (ze HO421).out⟩; have n9_ : Aside0 (Kd.R (Kd.int .i64) 2 w86 w.heap.size (fun k_ => some k_ ≠ (.slice Ao76 t402.length co76 : Value).ownBlock) (.slice Ao75 t422.length co75) t422) := ⟨by rw [← hq_]; exact (ze HO424).out⟩; have n10_ : Aside0 (Kd.R k81 81 w86 w.heap.size (fun k_ => some k_ ≠ (.slice Ao49 t389.length co49 : Value).ownBlock ∧ some k_ ≠ (.slice Ao55 t396.length co55 : Value).ownBlock ∧ some k_ ≠ (.slice Ao63 t408.length co63 : Value).ownBlock ∧ some k_ ≠ (.slice Ao71 t416.length co71 : Value).ownBlock) (.slice Ao79 t430.length co79) t430) := ⟨by rw [← hq_]; exact (ze HO432).out⟩; have n11_ : Aside0 (Kd.R (Kd.int .i16) 79 w86 w.heap.size (fun k_ => some k_ ≠ (.slice Ao50 t392.length co50 : Value).ownBlock ∧ some k_ ≠ (.slice Ao56 t399.length co56 : Value).ownBlock ∧ some k_ ≠ (.slice Ao64 t411.length co64 : Value).ownBlock ∧ some k_ ≠ (.slice Ao72 t419.length co72 : Value).ownBlock) (.slice Ao80 t433.length co80) t433) := ⟨by rw [← hq_]; exact (ze HO435).out⟩; have n12_ : Aside0 (w86.heap[gb386]? = some (.cells #[.int .i8 a0_0, .slice A0_1 l0_1.length c0_1, .slice A0_2 l0_2.length c0_2] 26 (0, 0))) := ⟨by rw [← hq_]; exact (zh BK386).out⟩; have n13_ : Aside0 (w86.heap[gb406]? = some (.cells #[.int .i8 t395, .slice Ao55 t396.length co55, .slice Ao56 t399.length co56] 31 (0, 0))) := ⟨by rw [← hq_]; exact (zh BK406).out⟩; have n14_ : Aside0 (w86.heap[gb414]? = some (.cells #[.int .i8 t407, .slice Ao63 t408.length co63, .slice Ao64 t411.length co64] 31 (0, 0))) := ⟨by rw [← hq_]; exact (zh BK414).out⟩; have n15_ : Aside0 (w86.heap[gb426]? = some (.cells #[.int .i8 t415, .slice Ao71 t416.length co71, .slice Ao72 t419.length co72] 31 (0, 0))) := ⟨by rw [← hq_]; exact (zh BK426).out⟩; have n16_ : Aside0 (Below w.heap.size w w86) := ⟨by rw [← hq_]; exact (by repeat (first | (with_reducible first | exact HB.out | apply below_alloc | apply pw_below_drewN | apply below_drew1 | refine below_set ?_ GE386.out | refine below_set ?_ GE406.out | refine below_set ?_ GE414.out | refine below_set ?_ GE426.out) | exact HB.out))⟩; clear HO391 HO394 HO398 HO401 HO404 HO410 HO413 HO418 HO421 HO424 HO432 HO435 BK386 BK406 BK414 BK426 HB hq_; have HO391 := n0_; have HO394 := n1_; have HO398 := n2_; have HO401 := n3_; have HO404 := n4_; have HO410 := n5_; have HO413 := n6_; have HO418 := n7_; have HO421 := n8_; have HO424 := n9_; have HO432 := n10_; have HO435 := n11_; have BK386 := n12_; have BK406 := n13_; have BK414 := n14_; have BK426 := n15_; have HB := n16_; clear n0_ n1_ n2_ n3_ n4_ n5_ n6_ n7_ n8_ n9_ n10_ n11_ n12_ n13_ n14_ n15_ n16_)); obtain ⟨z87_0, z87_1, z87_2, y87_0, y87_1, y87_2⟩ := zB3 BK426) | ((with_reducible refine gate_callee (f := 48) rfl ?_); refine goesL_ (some 81) rfl rfl Try.func48 (by kernel_rfl) rfl #[.agg #[.int .i8 t415, .slice Ao71 t416.length co71, .slice Ao72 t419.length co72], .int .i64 1] rfl (by (try simp only [List.map_toArray, List.map_cons, List.map_nil]); first | done | rfl | (simp only [List.length_drop, List.length_take]; rfl)) ?_; (with_reducible refine (laws_markNetwork.calls k t415 (fun k_ => some k_ = (.slice Ao71 t416.length co71 : Value).ownBlock) (.slice Ao71 t416.length co71) t416 (fun k_ => some k_ = (.slice Ao72 t419.length co72 : Value).ownBlock) (.slice Ao72 t419.length co72) t419 1 t442 t443 t444 w _ ?side1 ?side2 ?side3 A25.out).mono ?_); (case side1 => exact zbo); (case side2 => exact Kd.R_tight rfl HO418.out); (case side3 => exact Kd.R_tight rfl HO421.out); rintro e w88 ⟨rfl, hy0, hy1, hb, hkp⟩; refine ⟨_, rfl, ?_⟩; have n_ : _ ∧ _ ∧ _ ∧ _ ∧ _ ∧ _ ∧ _ ∧ _ ∧ _ ∧ _ ∧ _ ∧ _ ∧ _ ∧ _ ∧ _ ∧ _ ∧ _ := ⟨zkr BK386 hkp (fun hs_ => Or.elim hs_ (fun e_ => (fun e_ => (Kd.R_ne HO418.out BK386.out (by decide)) e_) e_) (fun e_ => (fun e_ => (Kd.R_ne HO421.out BK386.out (by decide)) e_) e_)), Aside0.mk (Kd.R_mono (ok' := fun k_ => some k_ ≠ (.slice Ao55 t396.length co55 : Value).ownBlock ∧ some k_ ≠ (.slice Ao63 t408.length co63 : Value).ownBlock ∧ some k_ ≠ (.slice Ao71 t416.length co71 : Value).ownBlock ∧ some k_ ≠ (.slice Ao79 t430.length co79 : Value).ownBlock) (Kd.R_keptB ((Kd.R_apart' HO391.out (Kd.R_typed HO421.out) (by decide))) hkp (fun k_ hk_ hs_ => Or.elim hs_ (fun e_ => (hk_.1.2.2.1) e_) (fun e_ => (hk_.2) e_))) (fun k_ hk_ => ⟨hk_.1.1.1, hk_.1.1.2.1, hk_.1.1.2.2.1, hk_.1.1.2.2.2⟩)), Aside0.mk (Kd.R_mono (ok' := fun k_ => some k_ ≠ (.slice Ao56 t399.length co56 : Value).ownBlock ∧ some k_ ≠ (.slice Ao64 t411.length co64 : Value).ownBlock ∧ some k_ ≠ (.slice Ao72 t419.length co72 : Value).ownBlock ∧ some k_ ≠ (.slice Ao80 t433.length co80 : Value).ownBlock) (Kd.R_keptB ((Kd.R_apart' HO394.out (Kd.R_typed HO418.out) (by decide))) hkp (fun k_ hk_ hs_ => Or.elim hs_ (fun e_ => (hk_.2) e_) (fun e_ => (hk_.1.2.2.1) e_))) (fun k_ hk_ => ⟨hk_.1.1.1, hk_.1.1.2.1, hk_.1.1.2.2.1, hk_.1.1.2.2.2⟩)), Aside0.mk (Kd.R_mono (ok' := fun k_ => some k_ ≠ (.slice Ao49 t389.length co49 : Value).ownBlock ∧ some k_ ≠ (.slice Ao63 t408.length co63 : Value).ownBlock ∧ some k_ ≠ (.slice Ao71 t416.length co71 : Value).ownBlock ∧ some k_ ≠ (.slice Ao79 t430.length co79 : Value).ownBlock) (Kd.R_keptB ((Kd.R_apart' HO398.out (Kd.R_typed HO421.out) (by decide))) hkp (fun k_ hk_ hs_ => Or.elim hs_ (fun e_ => (hk_.1.2.2.1) e_) (fun e_ => (hk_.2) e_))) (fun k_ hk_ => ⟨hk_.1.1.1, hk_.1.1.2.1, hk_.1.1.2.2.1, hk_.1.1.2.2.2⟩)), Aside0.mk (Kd.R_mono (ok' := fun k_ => some k_ ≠ (.slice Ao50 t392.length co50 : Value).ownBlock ∧ some k_ ≠ (.slice Ao64 t411.length co64 : Value).ownBlock ∧ some k_ ≠ (.slice Ao72 t419.length co72 : Value).ownBlock ∧ some k_ ≠ (.slice Ao80 t433.length co80 : Value).ownBlock) (Kd.R_keptB ((Kd.R_apart' HO401.out (Kd.R_typed HO418.out) (by decide))) hkp (fun k_ hk_ hs_ => Or.elim hs_ (fun e_ => (hk_.2) e_) (fun e_ => (hk_.1.2.2.1) e_))) (fun k_ hk_ => ⟨hk_.1.1.1, hk_.1.1.2.1, hk_.1.1.2.2.1, hk_.1.1.2.2.2⟩)), Aside0.mk (Kd.R_mono (ok' := fun k_ => some k_ ≠ (.slice Ao75 t422.length co75 : Value).ownBlock) (Kd.R_keptB ((Kd.R_apart' (Kd.R_apart' HO404.out (Kd.R_typed HO418.out) (by decide)) (Kd.R_typed HO421.out) (by decide))) hkp (fun k_ hk_ hs_ => Or.elim hs_ (fun e_ => (hk_.1.2) e_) (fun e_ => (hk_.2) e_))) (fun k_ hk_ => hk_.1.1.1)), zkr BK406 hkp (fun hs_ => Or.elim hs_ (fun e_ => (fun e_ => (Kd.R_ne HO418.out BK406.out (by decide)) e_) e_) (fun e_ => (fun e_ => (Kd.R_ne HO421.out BK406.out (by decide)) e_) e_)), Aside0.mk (Kd.R_mono (ok' := fun k_ => some k_ ≠ (.slice Ao49 t389.length co49 : Value).ownBlock ∧ some k_ ≠ (.slice Ao55 t396.length co55 : Value).ownBlock ∧ some k_ ≠ (.slice Ao71 t416.length co71 : Value).ownBlock ∧ some k_ ≠ (.slice Ao79 t430.length co79 : Value).ownBlock) (Kd.R_keptB ((Kd.R_apart' HO410.out (Kd.R_typed HO421.out) (by decide))) hkp (fun k_ hk_ hs_ => Or.elim hs_ (fun e_ => (hk_.1.2.2.1) e_) (fun e_ => (hk_.2) e_))) (fun k_ hk_ => ⟨hk_.1.1.1, hk_.1.1.2.1, hk_.1.1.2.2.1, hk_.1.1.2.2.2⟩)), Aside0.mk (Kd.R_mono (ok' := fun k_ => some k_ ≠ (.slice Ao50 t392.length co50 : Value).ownBlock ∧ some k_ ≠ (.slice Ao56 t399.length co56 : Value).ownBlock ∧ some k_ ≠ (.slice Ao72 t419.length co72 : Value).ownBlock ∧ some k_ ≠ (.slice Ao80 t433.length co80 : Value).ownBlock) (Kd.R_keptB ((Kd.R_apart' HO413.out (Kd.R_typed HO418.out) (by decide))) hkp (fun k_ hk_ hs_ => Or.elim hs_ (fun e_ => (hk_.2) e_) (fun e_ => (hk_.1.2.2.1) e_))) (fun k_ hk_ => ⟨hk_.1.1.1, hk_.1.1.2.1, hk_.1.1.2.2.1, hk_.1.1.2.2.2⟩)), zkr BK414 hkp (fun hs_ => Or.elim hs_ (fun e_ => (fun e_ => (Kd.R_ne HO418.out BK414.out (by decide)) e_) e_) (fun e_ => (fun e_ => (Kd.R_ne HO421.out BK414.out (by decide)) e_) e_)), Aside0.mk (Kd.R_reok rfl hy0 (fun k_ e_ => HO418.out.1 k_ e_)), Aside0.mk (Kd.R_reok rfl hy1 (fun k_ e_ => HO421.out.1 k_ e_)), Aside0.mk (Kd.R_mono (ok' := fun k_ => some k_ ≠ (.slice Ao76 t402.length co76 : Value).ownBlock) (Kd.R_keptB ((Kd.R_apart' (Kd.R_apart' HO424.out (Kd.R_typed HO418.out) (by decide)) (Kd.R_typed HO421.out) (by decide))) hkp (fun k_ hk_ hs_ => Or.elim hs_ (fun e_ => (hk_.1.2) e_) (fun e_ => (hk_.2) e_))) (fun k_ hk_ => hk_.1.1.1)), zkr BK426 hkp (fun hs_ => Or.elim hs_ (fun e_ => (fun e_ => (Kd.R_ne HO418.out BK426.out (by decide)) e_) e_) (fun e_ => (fun e_ => (Kd.R_ne HO421.out BK426.out (by decide)) e_) e_)), Aside0.mk (Kd.R_mono (ok' := fun k_ => some k_ ≠ (.slice Ao49 t389.length co49 : Value).ownBlock ∧ some k_ ≠ (.slice Ao55 t396.length co55 : Value).ownBlock ∧ some k_ ≠ (.slice Ao63 t408.length co63 : Value).ownBlock ∧ some k_ ≠ (.slice Ao71 t416.length co71 : Value).ownBlock) (Kd.R_keptB ((Kd.R_apart' HO432.out (Kd.R_typed HO421.out) (by decide))) hkp (fun k_ hk_ hs_ => Or.elim hs_ (fun e_ => (hk_.1.2.2.2) e_) (fun e_ => (hk_.2) e_))) (fun k_ hk_ => ⟨hk_.1.1.1, hk_.1.1.2.1, hk_.1.1.2.2.1, hk_.1.1.2.2.2⟩)), Aside0.mk (Kd.R_mono (ok' := fun k_ => some k_ ≠ (.slice Ao50 t392.length co50 : Value).ownBlock ∧ some k_ ≠ (.slice Ao56 t399.length co56 : Value).ownBlock ∧ some k_ ≠ (.slice Ao64 t411.length co64 : Value).ownBlock ∧ some k_ ≠ (.slice Ao72 t419.length co72 : Value).ownBlock) (Kd.R_keptB ((Kd.R_apart' HO435.out (Kd.R_typed HO418.out) (by decide))) hkp (fun k_ hk_ hs_ => Or.elim hs_ (fun e_ => (hk_.2) e_) (fun e_ => (hk_.1.2.2.2) e_))) (fun k_ hk_ => ⟨hk_.1.1.1, hk_.1.1.2.1, hk_.1.1.2.2.1, hk_.1.1.2.2.2⟩)), Aside0.mk (hb)⟩; clear BK386 HO391 HO394 HO398 HO401 HO404 BK406 HO410 HO413 BK414 HO418 HO421 HO424 BK426 HO432 HO435 HB; obtain ⟨BK386, HO391, HO394, HO398, HO401, HO404, BK406, HO410, HO413, BK414, HO418, HO421, HO424, BK426, HO432, HO435, HB⟩ := n_; (try clear hb); (try clear hkp); (try clear hy0); (try clear hy1)) | ((with_reducible refine gate_callee (f := 69) rfl ?_); refine goesL_ (some 84) rfl rfl Try.func69 (by kernel_rfl) rfl #[.slice Ao75 t422.length co75, .int .i64 t442] rfl (by (try simp only [List.map_toArray, List.map_cons, List.map_nil]); first | done | rfl | (simp only [List.length_drop, List.length_take]; rfl)) ?_; (with_reducible refine (laws_markInt64S.calls k (fun k_ => some k_ = (.slice Ao75 t422.length co75 : Value).ownBlock) (.slice Ao75 t422.length co75) t422 t442 t445 t446 w _ ?side1 ?side2 A26.out).mono ?_); (case side1 => exact zbo); (case side2 => exact Kd.R_tight rfl HO424.out); rintro e w89 ⟨rfl, hy0, hb, hkp⟩; refine ⟨_, rfl, ?_⟩; have n_ : _ ∧ _ ∧ _ ∧ _ ∧ _ ∧ _ ∧ _ ∧ _ ∧ _ ∧ _ ∧ _ ∧ _ ∧ _ ∧ _ ∧ _ ∧ _ ∧ _ := ⟨zkr BK386 hkp (fun hs_ => (fun e_ => (Kd.R_ne HO424.out BK386.out (by decide)) e_) hs_), Aside0.mk (Kd.R_mono (ok' := fun k_ => some k_ ≠ (.slice Ao55 t396.length co55 : Value).ownBlock ∧ some k_ ≠ (.slice Ao63 t408.length co63 : Value).ownBlock ∧ some k_ ≠ (.slice Ao71 t416.length co71 : Value).ownBlock ∧ some k_ ≠ (.slice Ao79 t430.length co79 : Value).ownBlock) (Kd.R_keptB ((Kd.R_apart' HO391.out (Kd.R_typed HO424.out) (by decide))) hkp (fun k_ hk_ hs_ => (hk_.2) hs_)) (fun k_ hk_ => ⟨hk_.1.1.1, hk_.1.1.2.1, hk_.1.1.2.2.1, hk_.1.1.2.2.2⟩)), Aside0.mk (Kd.R_mono (ok' := fun k_ => some k_ ≠ (.slice Ao56 t399.length co56 : Value).ownBlock ∧ some k_ ≠ (.slice Ao64 t411.length co64 : Value).ownBlock ∧ some k_ ≠ (.slice Ao72 t419.length co72 : Value).ownBlock ∧ some k_ ≠ (.slice Ao80 t433.length co80 : Value).ownBlock) (Kd.R_keptB ((Kd.R_apart' HO394.out (Kd.R_typed HO424.out) (by decide))) hkp (fun k_ hk_ hs_ => (hk_.2) hs_)) (fun k_ hk_ => ⟨hk_.1.1.1, hk_.1.1.2.1, hk_.1.1.2.2.1, hk_.1.1.2.2.2⟩)), Aside0.mk (Kd.R_mono (ok' := fun k_ => some k_ ≠ (.slice Ao49 t389.length co49 : Value).ownBlock ∧ some k_ ≠ (.slice Ao63 t408.length co63 : Value).ownBlock ∧ some k_ ≠ (.slice Ao71 t416.length co71 : Value).ownBlock ∧ some k_ ≠ (.slice Ao79 t430.length co79 : Value).ownBlock) (Kd.R_keptB ((Kd.R_apart' HO398.out (Kd.R_typed HO424.out) (by decide))) hkp (fun k_ hk_ hs_ => (hk_.2) hs_)) (fun k_ hk_ => ⟨hk_.1.1.1, hk_.1.1.2.1, hk_.1.1.2.2.1, hk_.1.1.2.2.2⟩)), Aside0.mk (Kd.R_mono (ok' := fun k_ => some k_ ≠ (.slice Ao50 t392.length co50 : Value).ownBlock ∧ some k_ ≠ (.slice Ao64 t411.length co64 : Value).ownBlock ∧ some k_ ≠ (.slice Ao72 t419.length co72 : Value).ownBlock ∧ some k_ ≠ (.slice Ao80 t433.length co80 : Value).ownBlock) (Kd.R_keptB ((Kd.R_apart' HO401.out (Kd.R_typed HO424.out) (by decide))) hkp (fun k_ hk_ hs_ => (hk_.2) hs_)) (fun k_ hk_ => ⟨hk_.1.1.1, hk_.1.1.2.1, hk_.1.1.2.2.1, hk_.1.1.2.2.2⟩)), Aside0.mk (Kd.R_mono (ok' := fun k_ => some k_ ≠ (.slice Ao75 t422.length co75 : Value).ownBlock) (Kd.R_keptB (HO404.out) hkp (fun k_ hk_ hs_ => (hk_) hs_)) (fun k_ hk_ => hk_.1)), zkr BK406 hkp (fun hs_ => (fun e_ => (Kd.R_ne HO424.out BK406.out (by decide)) e_) hs_), Aside0.mk (Kd.R_mono (ok' := fun k_ => some k_ ≠ (.slice Ao49 t389.length co49 : Value).ownBlock ∧ some k_ ≠ (.slice Ao55 t396.length co55 : Value).ownBlock ∧ some k_ ≠ (.slice Ao71 t416.length co71 : Value).ownBlock ∧ some k_ ≠ (.slice Ao79 t430.length co79 : Value).ownBlock) (Kd.R_keptB ((Kd.R_apart' HO410.out (Kd.R_typed HO424.out) (by decide))) hkp (fun k_ hk_ hs_ => (hk_.2) hs_)) (fun k_ hk_ => ⟨hk_.1.1.1, hk_.1.1.2.1, hk_.1.1.2.2.1, hk_.1.1.2.2.2⟩)), Aside0.mk (Kd.R_mono (ok' := fun k_ => some k_ ≠ (.slice Ao50 t392.length co50 : Value).ownBlock ∧ some k_ ≠ (.slice Ao56 t399.length co56 : Value).ownBlock ∧ some k_ ≠ (.slice Ao72 t419.length co72 : Value).ownBlock ∧ some k_ ≠ (.slice Ao80 t433.length co80 : Value).ownBlock) (Kd.R_keptB ((Kd.R_apart' HO413.out (Kd.R_typed HO424.out) (by decide))) hkp (fun k_ hk_ hs_ => (hk_.2) hs_)) (fun k_ hk_ => ⟨hk_.1.1.1, hk_.1.1.2.1, hk_.1.1.2.2.1, hk_.1.1.2.2.2⟩)), zkr BK414 hkp (fun hs_ => (fun e_ => (Kd.R_ne HO424.out BK414.out (by decide)) e_) hs_), Aside0.mk (Kd.R_mono (ok' := fun k_ => some k_ ≠ (.slice Ao49 t389.length co49 : Value).ownBlock ∧ some k_ ≠ (.slice Ao55 t396.length co55 : Value).ownBlock ∧ some k_ ≠ (.slice Ao63 t408.length co63 : Value).ownBlock ∧ some k_ ≠ (.slice Ao79 t430.length co79 : Value).ownBlock) (Kd.R_keptB ((Kd.R_apart' HO418.out (Kd.R_typed HO424.out) (by decide))) hkp (fun k_ hk_ hs_ => (hk_.2) hs_)) (fun k_ hk_ => ⟨hk_.1.1.1, hk_.1.1.2.1, hk_.1.1.2.2.1, hk_.1.1.2.2.2⟩)), Aside0.mk (Kd.R_mono (ok' := fun k_ => some k_ ≠ (.slice Ao50 t392.length co50 : Value).ownBlock ∧ some k_ ≠ (.slice Ao56 t399.length co56 : Value).ownBlock ∧ some k_ ≠ (.slice Ao64 t411.length co64 : Value).ownBlock ∧ some k_ ≠ (.slice Ao80 t433.length co80 : Value).ownBlock) (Kd.R_keptB ((Kd.R_apart' HO421.out (Kd.R_typed HO424.out) (by decide))) hkp (fun k_ hk_ hs_ => (hk_.2) hs_)) (fun k_ hk_ => ⟨hk_.1.1.1, hk_.1.1.2.1, hk_.1.1.2.2.1, hk_.1.1.2.2.2⟩)), Aside0.mk (Kd.R_reok rfl hy0 (fun k_ e_ => HO424.out.1 k_ e_)), zkr BK426 hkp (fun hs_ => (fun e_ => (Kd.R_ne HO424.out BK426.out (by decide)) e_) hs_), Aside0.mk (Kd.R_mono (ok' := fun k_ => some k_ ≠ (.slice Ao49 t389.length co49 : Value).ownBlock ∧ some k_ ≠ (.slice Ao55 t396.length co55 : Value).ownBlock ∧ some k_ ≠ (.slice Ao63 t408.length co63 : Value).ownBlock ∧ some k_ ≠ (.slice Ao71 t416.length co71 : Value).ownBlock) (Kd.R_keptB ((Kd.R_apart' HO432.out (Kd.R_typed HO424.out) (by decide))) hkp (fun k_ hk_ hs_ => (hk_.2) hs_)) (fun k_ hk_ => ⟨hk_.1.1.1, hk_.1.1.2.1, hk_.1.1.2.2.1, hk_.1.1.2.2.2⟩)), Aside0.mk (Kd.R_mono (ok' := fun k_ => some k_ ≠ (.slice Ao50 t392.length co50 : Value).ownBlock ∧ some k_ ≠ (.slice Ao56 t399.length co56 : Value).ownBlock ∧ some k_ ≠ (.slice Ao64 t411.length co64 : Value).ownBlock ∧ some k_ ≠ (.slice Ao72 t419.length co72 : Value).ownBlock) (Kd.R_keptB ((Kd.R_apart' HO435.out (Kd.R_typed HO424.out) (by decide))) hkp (fun k_ hk_ hs_ => (hk_.2) hs_)) (fun k_ hk_ => ⟨hk_.1.1.1, hk_.1.1.2.1, hk_.1.1.2.2.1, hk_.1.1.2.2.2⟩)), Aside0.mk (hb)⟩; clear BK386 HO391 HO394 HO398 HO401 HO404 BK406 HO410 HO413 BK414 HO418 HO421 HO424 BK426 HO432 HO435 HB; obtain ⟨BK386, HO391, HO394, HO398, HO401, HO404, BK406, HO410, HO413, BK414, HO418, HO421, HO424, BK426, HO432, HO435, HB⟩ := n_; (try clear hb); (try clear hkp); (try clear hy0); obtain ⟨z90_0, z90_1, z90_2, y90_0, y90_1, y90_2⟩ := zB3 BK426) | ((with_reducible refine gate_callee (f := 55) rfl ?_); refine goesL_ (some 87) rfl rfl Try.func55 (by kernel_rfl) rfl #[.agg #[.int .i8 t415, .slice Ao71 t443.length co71, .slice Ao72 t444.length co72], .int .i64 1] rfl (by (try simp only [List.map_toArray, List.map_cons, List.map_nil]); first | done | (rw [show t443.length = t416.length from (Kd.R_reads' HO418.out).1.symm, show t444.length = t419.length from (Kd.R_reads' HO421.out).1.symm] <;> rfl) | rfl | (simp only [List.length_drop, List.length_take]; rfl)) ?_; (with_reducible refine (laws_heldNetwork.calls k t415 _ _ t443 _ _ t444 1 t447 _ ?side1 ?side2 ?side3 ?side4 A27.out).mono ?_); (case side1 => exact zrc HO418); (case side2 => rw [show t443.length = t416.length from (Kd.R_reads' HO418.out).1.symm]; exact (Kd.R_reads' HO418.out).2.1); (case side3 => exact zrc HO421); (case side4 => rw [show t444.length = t419.length from (Kd.R_reads' HO421.out).1.symm]; exact (Kd.R_reads' HO421.out).2.1); rintro e w91 ⟨rfl, hb⟩; refine ⟨_, rfl, ?_⟩; have n_ : _ ∧ _ ∧ _ ∧ _ ∧ _ ∧ _ ∧ _ ∧ _ ∧ _ ∧ _ ∧ _ ∧ _ ∧ _ ∧ _ ∧ _ ∧ _ ∧ _ := ⟨zr HO391 hb, zr HO394 hb, zr HO398 hb, zr HO401 hb, zr HO404 hb, zr HO410 hb, zr HO413 hb, zr HO418 hb, zr HO421 hb, zr HO424 hb, zr HO432 hb, zr HO435 hb, zk BK386 hb, zk BK406 hb, zk BK414 hb, zk BK426 hb, zbs hb⟩; clear HO391 HO394 HO398 HO401 HO404 HO410 HO413 HO418 HO421 HO424 HO432 HO435 BK386 BK406 BK414 BK426 HB; obtain ⟨HO391, HO394, HO398, HO401, HO404, HO410, HO413, HO418, HO421, HO424, HO432, HO435, BK386, BK406, BK414, BK426, HB⟩ := n_; (try clear hb); (try clear hb2); (try clear hk); (try clear hi)) | ((with_reducible refine gate_callee (f := 70) rfl ?_); refine goesL_ (some 92) rfl rfl Try.func70 (by kernel_rfl) rfl #[.slice Ao75 t446.length co75, .int .i64 t447] rfl (by (try simp only [List.map_toArray, List.map_cons, List.map_nil]); first | done | (rw [show t446.length = t422.length from (Kd.R_reads' HO424.out).1.symm] <;> rfl) | rfl | (simp only [List.length_drop, List.length_take]; rfl)) ?_; (with_reducible refine (laws_heldInt64S.calls k _ _ t446 t447 t448 _ ?side1 ?side2 A29.out).mono ?_); (case side1 => exact zrc HO424); (case side2 => rw [show t446.length = t422.length from (Kd.R_reads' HO424.out).1.symm]; exact (Kd.R_reads' HO424.out).2.1); rintro e w' ⟨rfl, ⟨nd, rfl⟩⟩; refine ⟨_, rfl, ?_⟩; (try (rw [drewN_self w91]; generalize hq_ : World.drewN w91 _ = w91; have n0_ : Aside0 (Kd.R k81 81 w91 w.heap.size (fun k_ => some k_ ≠ (.slice Ao55 t396.length co55 : Value).ownBlock ∧ some k_ ≠ (.slice Ao63 t408.length co63 : Value).ownBlock ∧ some k_ ≠ (.slice Ao71 t416.length co71 : Value).ownBlock ∧ some k_ ≠ (.slice Ao79 t430.length co79 : Value).ownBlock) (.slice Ao49 t389.length co49) t389) := ⟨by rw [← hq_]; exact (ze HO391).out⟩; have n1_ : Aside0 (Kd.R (Kd.int .i16) 79 w91 w.heap.size (fun k_ => some k_ ≠ (.slice Ao56 t399.length co56 : Value).ownBlock ∧ some k_ ≠ (.slice Ao64 t411.length co64 : Value).ownBlock ∧ some k_ ≠ (.slice Ao72 t419.length co72 : Value).ownBlock ∧ some k_ ≠ (.slice Ao80 t433.length co80 : Value).ownBlock) (.slice Ao50 t392.length co50) t392) := ⟨by rw [← hq_]; exact (ze HO394).out⟩; have n2_ : Aside0 (Kd.R k81 81 w91 w.heap.size (fun k_ => some k_ ≠ (.slice Ao49 t389.length co49 : Value).ownBlock ∧ some k_ ≠ (.slice Ao63 t408.length co63 : Value).ownBlock ∧ some k_ ≠ (.slice Ao71 t416.length co71 : Value).ownBlock ∧ some k_ ≠ (.slice Ao79 t430.length co79 : Value).ownBlock) (.slice Ao55 t396.length co55) t396) := ⟨by rw [← hq_]; exact (ze HO398).out⟩; have n3_ : Aside0 (Kd.R (Kd.int .i16) 79 w91 w.heap.size (fun k_ => some k_ ≠ (.slice Ao50 t392.length co50 : Value).ownBlock ∧ some k_ ≠ (.slice Ao64 t411.length co64 : Value).ownBlock ∧ some k_ ≠ (.slice Ao72 t419.length co72 : Value).ownBlock ∧ some k_ ≠ (.slice Ao80 t433.length co80 : Value).ownBlock) (.slice Ao56 t399.length co56) t399) := ⟨by rw [← hq_]; exact (ze HO401).out⟩; have n4_ : Aside0 (Kd.R (Kd.int .i64) 2 w91 w.heap.size (fun k_ => some k_ ≠ (.slice Ao75 t422.length co75 : Value).ownBlock) (.slice Ao76 t402.length co76) t402) := ⟨by rw [← hq_]; exact (ze HO404).out⟩; have n5_ : Aside0 (Kd.R k81 81 w91 w.heap.size (fun k_ => some k_ ≠ (.slice Ao49 t389.length co49 : Value).ownBlock ∧ some k_ ≠ (.slice Ao55 t396.length co55 : Value).ownBlock ∧ some k_ ≠ (.slice Ao71 t416.length co71 : Value).ownBlock ∧ some k_ ≠ (.slice Ao79 t430.length co79 : Value).ownBlock) (.slice Ao63 t408.length co63) t438) := ⟨by rw [← hq_]; exact (ze HO410).out⟩; have n6_ : Aside0 (Kd.R (Kd.int .i16) 79 w91 w.heap.size (fun k_ => some k_ ≠ (.slice Ao50 t392.length co50 : Value).ownBlock ∧ some k_ ≠ (.slice Ao56 t399.length co56 : Value).ownBlock ∧ some k_ ≠ (.slice Ao72 t419.length co72 : Value).ownBlock ∧ some k_ ≠ (.slice Ao80 t433.length co80 : Value).ownBlock) (.slice Ao64 t411.length co64) t439) := ⟨by rw [← hq_]; exact (ze HO413).out⟩; have n7_ : Aside0 (Kd.R k81 81 w91 w.heap.size (fun k_ => some k_ ≠ (.slice Ao49 t389.length co49 : Value).ownBlock ∧ some k_ ≠ (.slice Ao55 t396.length co55 : Value).ownBlock ∧ some k_ ≠ (.slice Ao63 t408.length co63 : Value).ownBlock ∧ some k_ ≠ (.slice Ao79 t430.length co79 : Value).ownBlock) (.slice Ao71 t416.length co71) t443) := ⟨by rw [← hq_]; exact (ze HO418).out⟩; have n8_ : Aside0 (Kd.R (Kd.int .i16) 79 w91 w.heap.size (fun k_ => some k_ ≠ (.slice Ao50 t392.length co50 : Value).ownBlock ∧ some k_ ≠ (.slice Ao56 t399.length co56 : Value).ownBlock ∧ some k_ ≠ (.slice Ao64 t411.length co64 : Value).ownBlock ∧ some k_ ≠ (.slice Ao80 t433.length co80 : Value).ownBlock) (.slice Ao72 t419.length co72) t444) := ⟨by rw [← hq_]; exact (ze HO421).out⟩; have n9_ : Aside0 (Kd.R (Kd.int .i64) 2 w91 w.heap.size (fun k_ => some k_ ≠ (.slice Ao76 t402.length co76 : Value).ownBlock) (.slice Ao75 t422.length co75) t446) := ⟨by rw [← hq_]; exact (ze HO424).out⟩; have n10_ : Aside0 (Kd.R k81 81 w91 w.heap.size (fun k_ => some k_ ≠ (.slice Ao49 t389.length co49 : Value).ownBlock ∧ some k_ ≠ (.slice Ao55 t396.length co55 : Value).ownBlock ∧ some k_ ≠ (.slice Ao63 t408.length co63 : Value).ownBlock ∧ some k_ ≠ (.slice Ao71 t416.length co71 : Value).ownBlock) (.slice Ao79 t430.length co79) t430) := ⟨by rw [← hq_]; exact (ze HO432).out⟩; have n11_ : Aside0 (Kd.R (Kd.int .i16) 79 w91 w.heap.size (fun k_ => some k_ ≠ (.slice Ao50 t392.length co50 : Value).ownBlock ∧ some k_ ≠ (.slice Ao56 t399.length co56 : Value).ownBlock ∧ some k_ ≠ (.slice Ao64 t411.length co64 : Value).ownBlock ∧ some k_ ≠ (.slice Ao72 t419.length co72 : Value).ownBlock) (.slice Ao80 t433.length co80) t433) := ⟨by rw [← hq_]; exact (ze HO435).out⟩; have n12_ : Aside0 (w91.heap[gb386]? = some (.cells #[.int .i8 a0_0, .slice A0_1 l0_1.length c0_1, .slice A0_2 l0_2.length c0_2] 26 (0, 0))) := ⟨by rw [← hq_]; exact (zh BK386).out⟩; have n13_ : Aside0 (w91.heap[gb406]? = some (.cells #[.int .i8 t395, .slice Ao55 t396.length co55, .slice Ao56 t399.length co56] 31 (0, 0))) := ⟨by rw [← hq_]; exact (zh BK406).out⟩; have n14_ : Aside0 (w91.heap[gb414]? = some (.cells #[.int .i8 t407, .slice Ao63 t408.length co63, .slice Ao64 t411.length co64] 31 (0, 0))) := ⟨by rw [← hq_]; exact (zh BK414).out⟩; have n15_ : Aside0 (w91.heap[gb426]? = some (.cells #[.int .i8 t415, .slice Ao71 t416.length co71, .slice Ao72 t419.length co72] 31 (0, 0))) := ⟨by rw [← hq_]; exact (zh BK426).out⟩; have n16_ : Aside0 (Below w.heap.size w w91) := ⟨by rw [← hq_]; exact (by repeat (first | (with_reducible first | exact HB.out | apply below_alloc | apply pw_below_drewN | apply below_drew1 | refine below_set ?_ GE386.out | refine below_set ?_ GE406.out | refine below_set ?_ GE414.out | refine below_set ?_ GE426.out) | exact HB.out))⟩; clear HO391 HO394 HO398 HO401 HO404 HO410 HO413 HO418 HO421 HO424 HO432 HO435 BK386 BK406 BK414 BK426 HB hq_; have HO391 := n0_; have HO394 := n1_; have HO398 := n2_; have HO401 := n3_; have HO404 := n4_; have HO410 := n5_; have HO413 := n6_; have HO418 := n7_; have HO421 := n8_; have HO424 := n9_; have HO432 := n10_; have HO435 := n11_; have BK386 := n12_; have BK406 := n13_; have BK414 := n14_; have BK426 := n15_; have HB := n16_; clear n0_ n1_ n2_ n3_ n4_ n5_ n6_ n7_ n8_ n9_ n10_ n11_ n12_ n13_ n14_ n15_ n16_)); obtain ⟨z92_0, z92_1, z92_2, y92_0, y92_1, y92_2⟩ := zB3 BK386) | ((with_reducible refine gate_callee (f := 23) rfl ?_); refine goesL_ (some 100) rfl rfl Try.func23 (by kernel_rfl) rfl #[.agg #[.int .i8 a0_0, .slice A0_1 l0_1.length c0_1, .slice A0_2 l0_2.length c0_2]] rfl (by (try simp only [List.map_toArray, List.map_cons, List.map_nil]); first | done | rfl | (simp only [List.length_drop, List.length_take]; rfl)) ?_; (with_reducible refine (laws_toNetwork.calls k a0_0 _ _ l0_1 _ _ l0_2 t449 t450 t453 _ ?side1 ?side2 ?side3 ?side4 A32.out).mono ?_); (case side1 => exact zcc HB HR0_1.out); (case side2 => exact HC0_1.out); (case side3 => exact zcc HB HR0_2.out); (case side4 => exact HC0_2.out); rintro e w93 ⟨v451, v454, rfl, ho0, ho1, hb⟩; refine ⟨_, rfl, ?_⟩; have n_ : _ ∧ _ ∧ _ ∧ _ ∧ _ ∧ _ ∧ _ ∧ _ ∧ _ ∧ _ ∧ _ ∧ _ ∧ _ ∧ _ ∧ _ ∧ _ ∧ _ ∧ _ ∧ _ := ⟨Aside0.mk (Kd.R_elder' (ze HO391).out (Kd.R_base ho0) hb), Aside0.mk (Kd.R_elder' (ze HO394).out (Kd.R_base ho1) hb), Aside0.mk (Kd.R_elder' (ze HO398).out (Kd.R_base ho0) hb), Aside0.mk (Kd.R_elder' (ze HO401).out (Kd.R_base ho1) hb), zr HO404 hb, Aside0.mk (Kd.R_elder' (ze HO410).out (Kd.R_base ho0) hb), Aside0.mk (Kd.R_elder' (ze HO413).out (Kd.R_base ho1) hb), Aside0.mk (Kd.R_elder' (ze HO418).out (Kd.R_base ho0) hb), Aside0.mk (Kd.R_elder' (ze HO421).out (Kd.R_base ho1) hb), zr HO424 hb, Aside0.mk (Kd.R_elder' (ze HO432).out (Kd.R_base ho0) hb), Aside0.mk (Kd.R_elder' (ze HO435).out (Kd.R_base ho1) hb), Aside0.mk (Kd.R_lower (Kd.R_new' (Kd.R_new' (Kd.R_new' (Kd.R_new' (Kd.R_new' ho0 (Kd.R_lt (ze HO391).out)) (Kd.R_lt (ze HO398).out)) (Kd.R_lt (ze HO410).out)) (Kd.R_lt (ze HO418).out)) (Kd.R_lt (ze HO432).out)) (zz HB)), Aside0.mk (Kd.R_lower (Kd.R_new' (Kd.R_new' (Kd.R_new' (Kd.R_new' (Kd.R_new' ho1 (Kd.R_lt (ze HO394).out)) (Kd.R_lt (ze HO401).out)) (Kd.R_lt (ze HO413).out)) (Kd.R_lt (ze HO421).out)) (Kd.R_lt (ze HO435).out)) (zz HB)), zk BK386 hb, zk BK406 hb, zk BK414 hb, zk BK426 hb, zbs hb⟩; clear HO391 HO394 HO398 HO401 HO404 HO410 HO413 HO418 HO421 HO424 HO432 HO435 BK386 BK406 BK414 BK426 HB; obtain ⟨HO391, HO394, HO398, HO401, HO404, HO410, HO413, HO418, HO421, HO424, HO432, HO435, HO452, HO455, BK386, BK406, BK414, BK426, HB⟩ := n_; (try clear hb); (try clear hb2); (try clear hk); (try clear hi); (try clear ho0); (try clear ho1); obtain ⟨Ao94, co94, eo94⟩ := Kd.R_slice HO452.out; subst eo94; obtain ⟨Ao95, co95, eo95⟩ := Kd.R_slice HO455.out; subst eo95) | ((with_reducible refine gate_callee (f := 68) rfl ?_); refine goesL_ (some 101) rfl rfl Try.func68 (by kernel_rfl) rfl #[.agg #[.int .i8 t449, .slice Ao94 t450.length co94, .slice Ao95 t453.length co95]] rfl (by (try simp only [List.map_toArray, List.map_cons, List.map_nil]); first | done | rfl | (simp only [List.length_drop, List.length_take]; rfl)) ?_; (with_reducible refine (impl_MergeOf.calls k t449 _ _ t450 _ _ t453 t456 t457 t460 t463 t466 _ ?side1 ?side2 ?side3 ?side4 A33.out).mono ?_); (case side1 => exact zrc HO452); (case side2 => exact (Kd.R_reads' HO452.out).2.1); (case side3 => exact zrc HO455); (case side4 => exact (Kd.R_reads' HO455.out).2.1); rintro e w96 ⟨v458, v461, v464, rfl, ho0, ho1, ho2, hb⟩; refine ⟨_, rfl, ?_⟩; have n_ : _ ∧ _ ∧ _ ∧ _ ∧ _ ∧ _ ∧ _ ∧ _ ∧ _ ∧ _ ∧ _ ∧ _ ∧ _ ∧ _ ∧ _ ∧ _ ∧ _ ∧ _ ∧ _ ∧ _ ∧ _ ∧ _ := ⟨Aside0.mk (Kd.R_elder' (ze HO391).out (Kd.R_base ho0) hb), Aside0.mk (Kd.R_elder' (ze HO394).out (Kd.R_base ho1) hb), Aside0.mk (Kd.R_elder' (ze HO398).out (Kd.R_base ho0) hb), Aside0.mk (Kd.R_elder' (ze HO401).out (Kd.R_base ho1) hb), Aside0.mk (Kd.R_elder' (ze HO404).out (Kd.R_base ho2) hb), Aside0.mk (Kd.R_elder' (ze HO410).out (Kd.R_base ho0) hb), Aside0.mk (Kd.R_elder' (ze HO413).out (Kd.R_base ho1) hb), Aside0.mk (Kd.R_elder' (ze HO418).out (Kd.R_base ho0) hb), Aside0.mk (Kd.R_elder' (ze HO421).out (Kd.R_base ho1) hb), Aside0.mk (Kd.R_elder' (ze HO424).out (Kd.R_base ho2) hb), Aside0.mk (Kd.R_elder' (ze HO432).out (Kd.R_base ho0) hb), Aside0.mk (Kd.R_elder' (ze HO435).out (Kd.R_base ho1) hb), Aside0.mk (Kd.R_elder' (ze HO452).out (Kd.R_base ho0) hb), Aside0.mk (Kd.R_elder' (ze HO455).out (Kd.R_base ho1) hb), Aside0.mk (Kd.R_lower (Kd.R_new' (Kd.R_new' (Kd.R_new' (Kd.R_new' (Kd.R_new' (Kd.R_new' ho0 (Kd.R_lt (ze HO391).out)) (Kd.R_lt (ze HO398).out)) (Kd.R_lt (ze HO410).out)) (Kd.R_lt (ze HO418).out)) (Kd.R_lt (ze HO432).out)) (Kd.R_lt (ze HO452).out)) (zz HB)), Aside0.mk (Kd.R_lower (Kd.R_new' (Kd.R_new' (Kd.R_new' (Kd.R_new' (Kd.R_new' (Kd.R_new' ho1 (Kd.R_lt (ze HO394).out)) (Kd.R_lt (ze HO401).out)) (Kd.R_lt (ze HO413).out)) (Kd.R_lt (ze HO421).out)) (Kd.R_lt (ze HO435).out)) (Kd.R_lt (ze HO455).out)) (zz HB)), Aside0.mk (Kd.R_lower (Kd.R_new' (Kd.R_new' ho2 (Kd.R_lt (ze HO404).out)) (Kd.R_lt (ze HO424).out)) (zz HB)), zk BK386 hb, zk BK406 hb, zk BK414 hb, zk BK426 hb, zbs hb⟩; clear HO391 HO394 HO398 HO401 HO404 HO410 HO413 HO418 HO421 HO424 HO432 HO435 HO452 HO455 BK386 BK406 BK414 BK426 HB; obtain ⟨HO391, HO394, HO398, HO401, HO404, HO410, HO413, HO418, HO421, HO424, HO432, HO435, HO452, HO455, HO459, HO462, HO465, BK386, BK406, BK414, BK426, HB⟩ := n_; (try clear hb); (try clear hb2); (try clear hk); (try clear hi); (try clear ho0); (try clear ho1); (try clear ho2)) | ((with_reducible refine gate_dst (N := 14) rfl ?_); refine box_event ?hg (N := 14) ?hd (cs := #[.int .i8 0, .slice none 0 0, .slice none 0 0]) (t := 31) ?hr ?_; (case hd => rfl); (case hg => rfl); (case hr => first | (go_simp; done) | (go_simp; rfl)); intro gb467 hg w97 hbox hb; have n_ : _ ∧ _ ∧ _ ∧ _ ∧ _ ∧ _ ∧ _ ∧ _ ∧ _ ∧ _ ∧ _ ∧ _ ∧ _ ∧ _ ∧ _ ∧ _ ∧ _ ∧ _ ∧ _ ∧ _ ∧ _ ∧ _ ∧ _ ∧ _ ∧ _ ∧ _ ∧ _ ∧ _ ∧ _ ∧ _ ∧ _ ∧ _ ∧ _ := ⟨zr HO391 hb, zr HO394 hb, zr HO398 hb, zr HO401 hb, zr HO404 hb, zr HO410 hb, zr HO413 hb, zr HO418 hb, zr HO421 hb, zr HO424 hb, zr HO432 hb, zr HO435 hb, zr HO452 hb, zr HO455 hb, zr HO459 hb, zr HO462 hb, zr HO465 hb, zk BK386 hb, zk BK406 hb, zk BK414 hb, zk BK426 hb, zbs hb, Aside0.mk (hbox), zg HB hg, zg HB hg, zn1 BK386 hg, zn2 BK386 hg, zn1 BK406 hg, zn2 BK406 hg, zn1 BK414 hg, zn2 BK414 hg, zn1 BK426 hg, zn2 BK426 hg⟩; clear HO391 HO394 HO398 HO401 HO404 HO410 HO413 HO418 HO421 HO424 HO432 HO435 HO452 HO455 HO459 HO462 HO465 BK386 BK406 BK414 BK426 HB; obtain ⟨HO391, HO394, HO398, HO401, HO404, HO410, HO413, HO418, HO421, HO424, HO432, HO435, HO452, HO455, HO459, HO462, HO465, BK386, BK406, BK414, BK426, HB, BK467, GW467, GE467, NB386_467, NB467_386, NB406_467, NB467_406, NB414_467, NB467_414, NB426_467, NB467_426⟩ := n_; clear hb hbox hg; have hnb98 := NB467_386.out; have hnc98 := NB386_467.out; have hnb99 := NB467_406.out; have hnc99 := NB406_467.out; have hnb100 := NB467_414.out; have hnc100 := NB414_467.out; have hnb101 := NB467_426.out; have hnc101 := NB426_467.out; obtain ⟨z102_0, z102_1, z102_2, y102_0, y102_1, y102_2⟩ := zB3 BK467; obtain ⟨Ao103, co103, eo103⟩ := Kd.R_slice HO459.out; subst eo103; obtain ⟨Ao104, co104, eo104⟩ := Kd.R_slice HO462.out; subst eo104; obtain ⟨z105_0, z105_1, z105_2, y105_0, y105_1, y105_2⟩ := zB3 BK406) | ((with_reducible refine gate_callee (f := 25) rfl ?_); refine goesL_ (some 107) rfl rfl Try.func25 (by kernel_rfl) rfl #[.agg #[.int .i8 t456, .slice Ao103 t457.length co103, .slice Ao104 t460.length co104], .agg #[.int .i8 t395, .slice Ao55 t396.length co55, .slice Ao56 t399.length co56]] rfl (by (try simp only [List.map_toArray, List.map_cons, List.map_nil]); first | done | rfl | (simp only [List.length_drop, List.length_take]; rfl)) ?_; (with_reducible refine (laws_eqNetwork.calls k t456 _ _ t457 _ _ t460 t395 _ _ t396 _ _ t399 true _ ?side1 ?side2 ?side3 ?side4 ?side5 ?side6 ?side7 ?side8 A34.out).mono ?_); (case side1 => exact (Kd.R_reads' (zs HO459 BK467).out).2.2); (case side2 => exact (Kd.R_reads' HO459.out).2.1); (case side3 => exact (Kd.R_reads' (zs HO462 BK467).out).2.2); (case side4 => exact (Kd.R_reads' HO462.out).2.1); (case side5 => exact (Kd.R_reads' (zs HO398 BK467).out).2.2); (case side6 => exact (Kd.R_reads' HO398.out).2.1); (case side7 => exact (Kd.R_reads' (zs HO401 BK467).out).2.2); (case side8 => exact (Kd.R_reads' HO401.out).2.1); rintro e w106 ⟨rfl, hb⟩; refine ⟨_, rfl, ?_⟩; have n_ : _ ∧ _ ∧ _ ∧ _ ∧ _ ∧ _ ∧ _ ∧ _ ∧ _ ∧ _ ∧ _ ∧ _ ∧ _ ∧ _ ∧ _ ∧ _ ∧ _ ∧ _ ∧ _ ∧ _ ∧ _ ∧ _ ∧ _ := ⟨zsb HO391 BK467 hb, zsb HO394 BK467 hb, zsb HO398 BK467 hb, zsb HO401 BK467 hb, zsb HO404 BK467 hb, zsb HO410 BK467 hb, zsb HO413 BK467 hb, zsb HO418 BK467 hb, zsb HO421 BK467 hb, zsb HO424 BK467 hb, zsb HO432 BK467 hb, zsb HO435 BK467 hb, zsb HO452 BK467 hb, zsb HO455 BK467 hb, zsb HO459 BK467 hb, zsb HO462 BK467 hb, zsb HO465 BK467 hb, zfb BK386 NB386_467 hb, zfb BK406 NB406_467 hb, zfb BK414 NB414_467 hb, zfb BK426 NB426_467 hb, Aside0.mk (blk_below (g := gb467) (o := .cells #[.int .i8 t456, .slice Ao103 t457.length co103, .slice Ao104 t460.length co104] 31 (0, 0)) (by (with_reducible repeat (first | refine blk_drewN ?_ _ | refine blk_drew ?_ | refine blk_alloc ?_ _)); refine blk_put (cs := #[.int .i8 t456, .slice Ao103 t457.length co103, .slice none 0 0]) ?_ 2 _ rfl; (with_reducible repeat (first | refine blk_drewN ?_ _ | refine blk_drew ?_ | refine blk_alloc ?_ _)); refine blk_put (cs := #[.int .i8 t456, .slice none 0 0, .slice none 0 0]) ?_ 1 _ rfl; (with_reducible repeat (first | refine blk_drewN ?_ _ | refine blk_drew ?_ | refine blk_alloc ?_ _)); refine blk_put (cs := #[.int .i8 0, .slice none 0 0, .slice none 0 0]) ?_ 0 _ rfl; (with_reducible repeat (first | refine blk_drewN ?_ _ | refine blk_drew ?_ | refine blk_alloc ?_ _)); exact BK467.out) hb), zbs hb⟩; clear HO391 HO394 HO398 HO401 HO404 HO410 HO413 HO418 HO421 HO424 HO432 HO435 HO452 HO455 HO459 HO462 HO465 BK386 BK406 BK414 BK426 BK467 HB; obtain ⟨HO391, HO394, HO398, HO401, HO404, HO410, HO413, HO418, HO421, HO424, HO432, HO435, HO452, HO455, HO459, HO462, HO465, BK386, BK406, BK414, BK426, BK467, HB⟩ := n_; (try clear hb); (try clear hb2); (try clear hk); (try clear hi); obtain ⟨Ao107, co107, eo107⟩ := Kd.R_slice HO465.out; subst eo107) | (go_at_call 44; (with_reducible refine (laws_eqInt64S.calls k _ _ t463 _ _ t402 true _ ?side1 ?side2 ?side3 ?side4 A36.out).mono ?_); (case side1 => exact zrc HO465); (case side2 => exact (Kd.R_reads' HO465.out).2.1); (case side3 => exact zrc HO404); (case side4 => exact (Kd.R_reads' HO404.out).2.1); rintro e w' ⟨rfl, ⟨nd, rfl⟩⟩; obtain ⟨z108_0, z108_1, z108_2, y108_0, y108_1, y108_2⟩ := zB3 BK426) | ((with_reducible refine gate_callee (f := 55) rfl ?_); refine goesL_ (some 122) rfl rfl Try.func55 (by kernel_rfl) rfl #[.agg #[.int .i8 t415, .slice Ao71 t443.length co71, .slice Ao72 t444.length co72], .int .i64 1] rfl (by (try simp only [List.map_toArray, List.map_cons, List.map_nil]); first | done | (rw [show t443.length = t416.length from (Kd.R_reads' HO418.out).1.symm, show t444.length = t419.length from (Kd.R_reads' HO421.out).1.symm] <;> rfl) | rfl | (simp only [List.length_drop, List.length_take]; rfl)) ?_; (with_reducible refine (laws_heldNetwork.calls k t415 _ _ t443 _ _ t444 1 t470 _ ?side1 ?side2 ?side3 ?side4 A39.out).mono ?_); (case side1 => exact zrc HO418); (case side2 => rw [show t443.length = t416.length from (Kd.R_reads' HO418.out).1.symm]; exact (Kd.R_reads' HO418.out).2.1); (case side3 => exact zrc HO421); (case side4 => rw [show t444.length = t419.length from (Kd.R_reads' HO421.out).1.symm]; exact (Kd.R_reads' HO421.out).2.1); rintro e w109 ⟨rfl, hb⟩; refine ⟨_, rfl, ?_⟩; have n_ : _ ∧ _ ∧ _ ∧ _ ∧ _ ∧ _ ∧ _ ∧ _ ∧ _ ∧ _ ∧ _ ∧ _ ∧ _ ∧ _ ∧ _ ∧ _ ∧ _ ∧ _ ∧ _ ∧ _ ∧ _ ∧ _ ∧ _ := ⟨zr HO391 hb, zr HO394 hb, zr HO398 hb, zr HO401 hb, zr HO404 hb, zr HO410 hb, zr HO413 hb, zr HO418 hb, zr HO421 hb, zr HO424 hb, zr HO432 hb, zr HO435 hb, zr HO452 hb, zr HO455 hb, zr HO459 hb, zr HO462 hb, zr HO465 hb, zk BK386 hb, zk BK406 hb, zk BK414 hb, zk BK426 hb, zk BK467 hb, zbs hb⟩; clear HO391 HO394 HO398 HO401 HO404 HO410 HO413 HO418 HO421 HO424 HO432 HO435 HO452 HO455 HO459 HO462 HO465 BK386 BK406 BK414 BK426 BK467 HB; obtain ⟨HO391, HO394, HO398, HO401, HO404, HO410, HO413, HO418, HO421, HO424, HO432, HO435, HO452, HO455, HO459, HO462, HO465, BK386, BK406, BK414, BK426, BK467, HB⟩ := n_; (try clear hb); (try clear hb2); (try clear hk); (try clear hi)) | ((with_reducible refine gate_callee (f := 70) rfl ?_); refine goesL_ (some 127) rfl rfl Try.func70 (by kernel_rfl) rfl #[.slice Ao75 t446.length co75, .int .i64 t470] rfl (by (try simp only [List.map_toArray, List.map_cons, List.map_nil]); first | done | (rw [show t446.length = t422.length from (Kd.R_reads' HO424.out).1.symm] <;> rfl) | rfl | (simp only [List.length_drop, List.length_take]; rfl)) ?_; (with_reducible refine (laws_heldInt64S.calls k _ _ t446 t470 t471 _ ?side1 ?side2 A41.out).mono ?_); (case side1 => exact zrc HO424); (case side2 => rw [show t446.length = t422.length from (Kd.R_reads' HO424.out).1.symm]; exact (Kd.R_reads' HO424.out).2.1); rintro e w' ⟨rfl, ⟨nd, rfl⟩⟩; refine ⟨_, rfl, ?_⟩))
 go_ret
 exact ⟨by first | rfl | (simp [errW_none, errW_some] <;> rfl) | (simp [*, errW_none, errW_some] <;> rfl), by repeat (first | (with_reducible first | exact HB.out | apply below_alloc | apply pw_below_drewN | apply below_drew1 | refine below_set ?_ GE386.out | refine below_set ?_ GE406.out | refine below_set ?_ GE414.out | refine below_set ?_ GE426.out | refine below_set ?_ GE467.out) | exact HB.out)⟩
end Go.Proofs.Ytmpmanfoiocfgaa.PFnExactMergeOf
