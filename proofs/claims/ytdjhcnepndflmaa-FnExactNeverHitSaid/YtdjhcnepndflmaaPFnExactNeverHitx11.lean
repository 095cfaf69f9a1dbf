-- WRITTEN by xprint.py, a program of this session's. Not trusted: Lean checks it.
import Derived.Test.YtdjhcnepndflmaaPFnExactNeverHitx0
import Derived.Test.YtdjhcnepndflmaaPFnExactNeverHitx2
import Derived.Test.YtdjhcnepndflmaaPFnExactNeverHitx3
import Derived.Test.YtdjhcnepndflmaaPFnExactNeverHitx7
import Derived.Test.YtdjhcnepndflmaaPFnExactNeverHitx10
namespace Go.Proofs.Ytdjhcnepndflmaa.PFnExactNeverHit
open Go.RowKit Go.Proofs.YtdjhcnepndflmaaW.PrintWords Go.Proofs.YtdjhcnepndflmaaW.PrintLast Go.Proofs.YtdjhcnepndflmaaW.PrintMore Go.Proofs.YtdjhcnepndflmaaX
attribute [local go_sem] max2_int min2_int max_two min_two max_three min_three max_four min_four   -- for this text's walks alone
set_option linter.unusedVariables false
set_option linter.unusedSimpArgs false

/-! ### laws_eqInt64S: function 21 -/
def laws_eqInt64S.l0 : Nat → List Int → List Int → Int → Option (Bool)
  | 0, _, _, _ => none
  | k + 1, x0, x1, x5 => if x5 < (x0.length : Int) then (if 0 ≤ x5 then (if x5 < (x1.length : Int) then (if (rd x0 x5) = (rd x1 x5) then (laws_eqInt64S.l0 k x0 x1 (wrap64 (x5 + 1))) else (some false)) else (none)) else (none)) else (some true)
def laws_eqInt64S.f (k : Nat) (l0 : List Int) (l1 : List Int) : Option (Bool) := if (l0.length : Int) = (l1.length : Int) then (laws_eqInt64S.l0 k l0 l1 0) else (some false)
theorem laws_eqInt64S.mono_l : ∀ k, (∀ y0 y1 y2, LeO (laws_eqInt64S.l0 k y0 y1 y2) (laws_eqInt64S.l0 (k + 1) y0 y1 y2))
  | 0 => fun _ _ _ r h => by simp [laws_eqInt64S.l0] at h
  | k + 1 => by
    have ih0 := laws_eqInt64S.mono_l k
    · intro y0 y1 y2
      unfold laws_eqInt64S.l0
      repeat' first
      | (with_reducible exact ih0 _ _ _)
      | (with_reducible exact LeO.refl _)
      | (with_reducible exact LeO.none _)
      | (with_reducible refine LeO.ite ?_ ?_)
      | (with_reducible refine LeO.bind ?_ (fun _ => ?_))
      | exact ih0 _ _ _
      | exact LeO.none _
      | refine LeO.ite ?_ ?_
      | refine LeO.bind ?_ (fun _ => ?_)
theorem laws_eqInt64S.mono : ∀ a0 a1 k, LeO (laws_eqInt64S.f k a0 a1) (laws_eqInt64S.f (k + 1) a0 a1) := by
  intro a0 a1 k
  have ih0 := laws_eqInt64S.mono_l k
  unfold laws_eqInt64S.f
  repeat' first
      | (with_reducible exact ih0 _ _ _)
      | (with_reducible exact LeO.refl _)
      | (with_reducible exact LeO.none _)
      | (with_reducible refine LeO.ite ?_ ?_)
      | (with_reducible refine LeO.bind ?_ (fun _ => ?_))
      | exact ih0 _ _ _
      | exact LeO.none _
      | refine LeO.ite ?_ ?_
      | refine LeO.bind ?_ (fun _ => ?_)
set_option maxHeartbeats 8000000 in
set_option maxRecDepth 100000 in
theorem laws_eqInt64S.calls (k : Nat) (A0 : Option Addr) (c0 : Nat) (l0 : List Int) (A1 : Option Addr) (c1 : Nat) (l1 : List Int) (r : Bool) (w : World) (hr0 : Kd.C (Kd.int .i64) w A0 l0.length l0) (hc0 : l0.length ≤ c0) (hr1 : Kd.C (Kd.int .i64) w A1 l1.length l1) (hc1 : l1.length ≤ c1) (h : laws_eqInt64S.f k l0 l1 = some r) :
    Calls Try.prog 21 #[.slice A0 l0.length c0, .slice A1 l1.length c1] w fun e w' => e = .returned (.bool r) ∧ Drawn0 w w' := by
  have HR0 := Aside0.mk hr0
  have HC0 := Aside0.mk hc0
  clear hr0 hc0
  have HR1 := Aside0.mk hr1
  have HC1 := Aside0.mk hc1
  clear hr1 hc1
  have H : (if (l0.length : Int) = (l1.length : Int) then (laws_eqInt64S.l0 k l0 l1 0) else (some false)) = some r := h
  clear h
  by_cases c3 : (l0.length : Int) = (l1.length : Int)
  · rw [if_pos c3] at H
    have c3b0 : ((l0.length : Int) == (l1.length : Int)) = true := beq_iff_eq.mpr c3
    have c3b1 : ((l0.length : Int) != (l1.length : Int)) = false := bne_eq_false_iff_eq.mpr c3
    have c3b2 : (l0.length == l1.length) = true := by first | simpa using c3 | (simp at c3 ⊢; omega)
    clear c3
    have H' := Aside0.mk H
    clear H
    go_enter Try.func21, Try.ntmps21
    go_wp2
    repeat (go_quiet (fail); try go_wp2)
    go_loopg [5] k (fun kq v5 w' => ∃ (x5_1 : Int), v5 = .int .i64 x5_1 ∧ Aside0 (laws_eqInt64S.l0 kq l0 l1 x5_1 = some r) ∧ Aside0 (kq ≤ k) ∧ Drawn0 w w')
    case atStart => exact ⟨(0), (by first | rfl | (simp; done) | (simp [*]; done) | (exact congrArg (Value.int .i64) (wrap_eq (by omega)))), H', ⟨Nat.le_refl _⟩, by repeat (first | exact Drawn0.refl _ | apply Drawn0.step)⟩
    case round =>
      clear H'
      try clear c1
      try clear c2
      try clear p2
      try clear c3
      try clear c3b0
      try clear c3b1
      try clear c3b2
      obtain ⟨x5_1, rfl, HA, HK1, ⟨m1, rfl⟩⟩ := hrel
      cases gk with
      | zero => exact absurd HA.out (by simp [laws_eqInt64S.l0])
      | succ k1 =>
        have H := HA.out
        clear HA
        simp only [laws_eqInt64S.l0] at H
        by_cases c4 : x5_1 < (l0.length : Int)
        · rw [if_pos c4] at H
          have c4b0 : decide (x5_1 < (l0.length : Int)) = true := decide_eq_true c4
          clear c4
          by_cases c5 : 0 ≤ x5_1
          · rw [if_pos c5] at H
            have c5b0 : decide (0 ≤ x5_1) = true := decide_eq_true c5
            clear c5
            by_cases c6 : x5_1 < (l1.length : Int)
            · rw [if_pos c6] at H
              have c6b0 : decide (x5_1 < (l1.length : Int)) = true := decide_eq_true c6
              clear c6
              by_cases c7 : (rd l0 x5_1) = (rd l1 x5_1)
              · rw [if_pos c7] at H
                have c7b0 : ((rd l0 x5_1) == (rd l1 x5_1)) = true := beq_iff_eq.mpr c7
                have c7b1 : ((rd l0 x5_1) != (rd l1 x5_1)) = false := bne_eq_false_iff_eq.mpr c7
                clear c7
                have H' := Aside0.mk H
                clear H
                have p296 : 0 ≤ (x5_1 : Int) := of_decide_eq_true (by first | (with_reducible assumption) | assumption)
                have q296 : x5_1 < (l0.length : Int) := of_decide_eq_true (by first | (with_reducible assumption) | assumption)
                obtain ⟨ad296, e296, hx296_0⟩ := Kd.at_int HR0.out x5_1 p296 q296
                cases e296
                replace p296 := eq_true p296
                replace q296 := eq_true q296
                have p297 : 0 ≤ (x5_1 : Int) := of_decide_eq_true (by first | (with_reducible assumption) | assumption)
                have q297 : x5_1 < (l1.length : Int) := of_decide_eq_true (by first | (with_reducible assumption) | assumption)
                obtain ⟨ad297, e297, hx297_0⟩ := Kd.at_int HR1.out x5_1 p297 q297
                cases e297
                replace p297 := eq_true p297
                replace q297 := eq_true q297
                go_wp2
                repeat (go_quiet (fail); try go_wp2)
                go_roundg k1
                case measure => have := HK1.out; omega
                case rel => exact ⟨(wrap64 (x5_1 + 1)), (by first | rfl | (simp; done) | (simp [*]; done) | (exact congrArg (Value.int .i64) (wrap_eq (by omega)))), H', ⟨by have := HK1.out; omega⟩, by repeat (first | exact Drawn0.refl _ | apply Drawn0.step)⟩
              · rw [if_neg c7] at H
                have c7b0 : ((rd l0 x5_1) == (rd l1 x5_1)) = false := beq_eq_false_iff_ne.mpr c7
                have c7b1 : ((rd l0 x5_1) != (rd l1 x5_1)) = true := bne_iff_ne.mpr c7
                obtain rfl := Option.some.inj H
                have p296 : 0 ≤ (x5_1 : Int) := of_decide_eq_true (by first | (with_reducible assumption) | assumption)
                have q296 : x5_1 < (l0.length : Int) := of_decide_eq_true (by first | (with_reducible assumption) | assumption)
                obtain ⟨ad296, e296, hx296_0⟩ := Kd.at_int HR0.out x5_1 p296 q296
                cases e296
                replace p296 := eq_true p296
                replace q296 := eq_true q296
                have p297 : 0 ≤ (x5_1 : Int) := of_decide_eq_true (by first | (with_reducible assumption) | assumption)
                have q297 : x5_1 < (l1.length : Int) := of_decide_eq_true (by first | (with_reducible assumption) | assumption)
                obtain ⟨ad297, e297, hx297_0⟩ := Kd.at_int HR1.out x5_1 p297 q297
                cases e297
                replace p297 := eq_true p297
                replace q297 := eq_true q297
                go_wp2
                repeat (go_quiet (fail); try go_wp2)
                go_ret
                exact ⟨by first | rfl | (simp; done) | (simp [*]; done) | (exact congrArg (Value.int .i64) (wrap_eq (by omega))), by repeat (first | exact Drawn0.refl _ | apply Drawn0.step)⟩
            · rw [if_neg c6] at H
              exact absurd H (by simp)
          · rw [if_neg c5] at H
            exact absurd H (by simp)
        · rw [if_neg c4] at H
          have c4b0 : decide (x5_1 < (l0.length : Int)) = false := decide_eq_false c4
          clear c4
          obtain rfl := Option.some.inj H
          go_wp2
          repeat (go_quiet (fail); try go_wp2)
          go_ret
          exact ⟨by first | rfl | (simp; done) | (simp [*]; done) | (exact congrArg (Value.int .i64) (wrap_eq (by omega))), by repeat (first | exact Drawn0.refl _ | apply Drawn0.step)⟩
  · rw [if_neg c3] at H
    have c3b0 : ((l0.length : Int) == (l1.length : Int)) = false := beq_eq_false_iff_ne.mpr c3
    have c3b1 : ((l0.length : Int) != (l1.length : Int)) = true := bne_iff_ne.mpr c3
    have c3b2 : (l0.length == l1.length) = false := by first | simpa using c3 | (simp at c3 ⊢; omega)
    obtain rfl := Option.some.inj H
    go_enter Try.func21, Try.ntmps21
    go_wp2
    repeat (go_quiet (fail); try go_wp2)
    go_ret
    exact ⟨by first | rfl | (simp; done) | (simp [*]; done) | (exact congrArg (Value.int .i64) (wrap_eq (by omega))), by repeat (first | exact Drawn0.refl _ | apply Drawn0.step)⟩

/-! ### laws_markInt64S: function 22 -/
def laws_markInt64S.l0 : Nat → List Int → Int → Int → Option (Int × List Int)
  | 0, _, _, _ => none
  | k + 1, x0, x1, x5 => if x5 < (x0.length : Int) then (if 0 ≤ x5 then (laws_markInt64S.l0 k (x0.set (x5 : Int).toNat x1) (wrap64 (x1 + 1)) (wrap64 (x5 + 1))) else (none)) else (some (x1, x0))
def laws_markInt64S.f (k : Nat) (l0 : List Int) (a1 : Int) : Option (Int × List Int) := laws_markInt64S.l0 k l0 a1 0
theorem laws_markInt64S.mono_l : ∀ k, (∀ y0 y1 y2, LeO (laws_markInt64S.l0 k y0 y1 y2) (laws_markInt64S.l0 (k + 1) y0 y1 y2))
  | 0 => fun _ _ _ r h => by simp [laws_markInt64S.l0] at h
  | k + 1 => by
    have ih0 := laws_markInt64S.mono_l k
    · intro y0 y1 y2
      unfold laws_markInt64S.l0
      repeat' first
      | (with_reducible exact ih0 _ _ _)
      | (with_reducible exact LeO.refl _)
      | (with_reducible exact LeO.none _)
      | (with_reducible refine LeO.ite ?_ ?_)
      | (with_reducible refine LeO.bind ?_ (fun _ => ?_))
      | exact ih0 _ _ _
      | exact LeO.none _
      | refine LeO.ite ?_ ?_
      | refine LeO.bind ?_ (fun _ => ?_)
theorem laws_markInt64S.mono : ∀ a0 a1 k, LeO (laws_markInt64S.f k a0 a1) (laws_markInt64S.f (k + 1) a0 a1) := by
  intro a0 a1 k
  have ih0 := laws_markInt64S.mono_l k
  unfold laws_markInt64S.f
  repeat' first
      | (with_reducible exact ih0 _ _ _)
      | (with_reducible exact LeO.refl _)
      | (with_reducible exact LeO.none _)
      | (with_reducible refine LeO.ite ?_ ?_)
      | (with_reducible refine LeO.bind ?_ (fun _ => ?_))
      | exact ih0 _ _ _
      | exact LeO.none _
      | refine LeO.ite ?_ ?_
      | refine LeO.bind ?_ (fun _ => ?_)
set_option maxHeartbeats 8000000 in
set_option maxRecDepth 100000 in
theorem laws_markInt64S.calls (k : Nat) (P0_ : Nat → Prop) (u9000_ : Value) (l0 : List Int) (a1 : Int) (r1 : Int) (r2 : List Int) (w0 w : World) (hB : Below w0.heap.size w0 w) (ho0 : Kd.R (Kd.int .i64) 2 w w0.heap.size P0_ u9000_ l0) (h : laws_markInt64S.f k l0 a1 = some (r1, r2)) :
    Calls Try.prog 22 #[u9000_, .int .i64 a1] w fun e w' => e = .returned (.int .i64 r1) ∧ Kd.R (Kd.int .i64) 2 w' w0.heap.size (fun k_ => (P0_ k_ ∨ w.heap.size ≤ k_)) u9000_ r2 ∧ Below w0.heap.size w0 w' ∧ Kept w w' (fun k_ => P0_ k_) := by
  have HO0 := Aside0.mk (show Kd.R (Kd.int .i64) 2 w w0.heap.size (fun k_ => (P0_ k_ ∨ w.heap.size ≤ k_)) u9000_ l0 from Kd.R_mono ho0 (fun k_ hk => (.inl hk)))
  have HK := Aside0.mk (Kept.refl w (fun k_ => P0_ k_))
  have HW0 := Aside0.mk hB.size
  have HB := Aside0.mk hB
  clear hB
  have H : (laws_markInt64S.l0 k l0 a1 0) = some (r1, r2) := h
  clear h
  have H' := Aside0.mk H
  clear H
  go_enter Try.func22, Try.ntmps22
  go_wp2
  go_loopg [1, 5] k (fun kq v1 v5 w' => ∃ (x0_1 : List Int) (x1_1 : Int) (x5_1 : Int), v1 = .int .i64 x1_1 ∧ v5 = .int .i64 x5_1 ∧ Aside0 (laws_markInt64S.l0 kq x0_1 x1_1 x5_1 = some (r1, r2)) ∧ Aside0 (kq ≤ k) ∧ Aside0 (Kd.R (Kd.int .i64) 2 w' w0.heap.size (fun k_ => (P0_ k_ ∨ w.heap.size ≤ k_)) u9000_ x0_1) ∧ Aside0 (Kept w w' (fun k_ => P0_ k_)) ∧ Aside0 (Below w0.heap.size w0 w'))
  case atStart => exact ⟨(l0), (a1), (0), (by first | rfl | (simp; done) | (simp [*]; done) | (exact congrArg (Value.int .i64) (wrap_eq (by omega)))), (by first | rfl | (simp; done) | (simp [*]; done) | (exact congrArg (Value.int .i64) (wrap_eq (by omega)))), H', ⟨Nat.le_refl _⟩, ⟨by (with_reducible repeat (first | apply Kd.R_alloc | apply Kd.R_drewN | apply Kd.R_drew)); exact HO0.out⟩, ⟨by repeat (first | (with_reducible first | exact HK.out | apply Kept.alloc | apply Kept.drewN | apply Kept.drew) | exact HK.out)⟩, ⟨by repeat (first | (with_reducible first | exact HB.out | apply below_alloc | apply pw_below_drewN | apply below_drew1) | exact HB.out)⟩⟩
  case round =>
    clear H'
    try clear c2
    try clear p2
    obtain ⟨x0_1, x1_1, x5_1, rfl, rfl, HA, HK1, HO_0, HK, HB⟩ := hrel
    cases gk with
    | zero => exact absurd HA.out (by simp [laws_markInt64S.l0])
    | succ k1 =>
      have H := HA.out
      clear HA
      simp only [laws_markInt64S.l0] at H
      by_cases c3 : x5_1 < (x0_1.length : Int)
      · rw [if_pos c3] at H
        have c3b0 : decide (x5_1 < (x0_1.length : Int)) = true := decide_eq_true c3
        clear c3
        by_cases c4 : 0 ≤ x5_1
        · rw [if_pos c4] at H
          have c4b0 : decide (0 ≤ x5_1) = true := decide_eq_true c4
          clear c4
          obtain ⟨y298, hy298⟩ : ∃ y_ : List Int, y_ = (x0_1.set (x5_1 : Int).toNat x1_1) := ⟨_, rfl⟩
          replace H : (laws_markInt64S.l0 k1 y298 (wrap64 (x1_1 + 1)) (wrap64 (x5_1 + 1))) = some (r1, r2) := by first | (rw [hy298]; with_reducible exact H) | (have H2_ := (Option.bind_some _ _).symm.trans H; rw [hy298]; with_reducible exact H2_) | (have H2_ := (Option.bind_some _ _).symm.trans H; with_reducible exact H2_) | with_reducible exact H | (rw [hy298]; exact H) | exact H
          have Ny298 := Aside0.mk hy298
          clear hy298
          have H' := Aside0.mk H
          clear H
          obtain ⟨Ao6, co6, eo6⟩ := Kd.R_slice HO_0.out
          subst eo6
          have p5 : 0 ≤ (x5_1 : Int) := of_decide_eq_true (by first | (with_reducible assumption) | assumption)
          have q5 : (x5_1 : Int) < ((x0_1.length : Int) : Int) := of_decide_eq_true (by first | (with_reducible assumption) | assumption)
          obtain ⟨go5, co5, eo5, gb5, gl5, cl5, HG5⟩ := Kd.R_form HO_0.out (by omega)
          (first | cases eo5 | (injection eo5 with ea_ en_ ec_; (first | subst ea_ | (injection ea_ with ea_; subst ea_)); subst ec_; clear en_))
          have GB5 := Aside0.mk gb5
          have GG5 := Aside0.mk HG5
          clear gb5 gl5 HG5
          have HMgo5 := Aside0.mk (show (P0_ go5 ∨ w.heap.size ≤ go5) from (HO_0.out.1 _ rfl))
          obtain ⟨hx5_0, hf5_0⟩ := Kd.R_celln 0 HO_0.out (x5_1 : Int) p5 q5
          replace p5 := eq_true p5
          replace q5 := eq_true q5
          have HP7 := Kd.R_putg HO_0.out (x5_1 : Int) x1_1
          go_wp2_with (first | ((with_reducible refine gate_store (t := 2) (p := 15) rfl ?_); refine store_event (t := 2) (p := 15) (v := ?vo_w8) (w1 := (wr.setCell ⟨go5, (x5_1 : Int).toNat, none⟩ (.int .i64 x1_1))) ?hg ?ho ?hn ?hr ?_; (case ho => rfl); (case hg => rfl); (case hn => rfl); (case hr => first | (go_simp; done) | (go_simp; rfl)); intro w8 hw; have hg : wr.grownBy w8 (some go5) := (by rw [hw]; exact HP7.2); have hp_ : Kd.R (Kd.int .i64) 2 w8 w0.heap.size (fun k_ => (P0_ k_ ∨ w.heap.size ≤ k_)) (.slice (some ⟨go5, 0, none⟩) x0_1.length co6) y298 := (by rw [hw, Ny298.out]; exact HP7.1); clear HP7; have n0_ := Aside0.mk (hp_); have n1_ := Aside0.mk ((by rw [hw]; exact below_set (HB.out) GB5.out : Below w0.heap.size w0 w8)); have n2_ := Aside0.mk (Kept.of_grown (S := (fun k_ => P0_ k_)) hg (by repeat (first | (with_reducible first | exact HK.out | apply Kept.alloc | apply Kept.drewN | apply Kept.drew) | exact HK.out)) (fun k_ e_ => (HO_0.out.1 k_ e_))); clear HO_0; clear HB; clear HK; have HO_0 := n0_; have HB := n1_; have HK := n2_; clear n0_ n1_ n2_; clear hg hw hp_))
          go_roundg k1
          case measure => have := HK1.out; omega
          case rel => exact ⟨(y298), (wrap64 (x1_1 + 1)), (wrap64 (x5_1 + 1)), (by first | rfl | (simp; done) | (simp [*]; done) | (exact congrArg (Value.int .i64) (wrap_eq (by omega)))), (by first | rfl | (simp; done) | (simp [*]; done) | (exact congrArg (Value.int .i64) (wrap_eq (by omega)))), H', ⟨by have := HK1.out; omega⟩, ⟨by (with_reducible repeat (first | apply Kd.R_alloc | apply Kd.R_drewN | apply Kd.R_drew)); exact HO_0.out⟩, ⟨by repeat (first | (with_reducible first | exact HK.out | apply Kept.alloc | apply Kept.drewN | apply Kept.drew) | exact HK.out)⟩, ⟨by repeat (first | (with_reducible first | exact HB.out | apply below_alloc | apply pw_below_drewN | apply below_drew1) | exact HB.out)⟩⟩
        · rw [if_neg c4] at H
          exact absurd H (by simp)
      · rw [if_neg c3] at H
        have c3b0 : decide (x5_1 < (x0_1.length : Int)) = false := decide_eq_false c3
        clear c3
        simp only [Option.some.injEq, Prod.mk.injEq] at H
        obtain ⟨rfl, rfl⟩ := H
        obtain ⟨Ao9, co9, eo9⟩ := Kd.R_slice HO_0.out
        subst eo9
        go_wp2
        go_ret
        exact ⟨by first | rfl | (simp [errW_none, errW_some] <;> rfl) | (simp [*, errW_none, errW_some] <;> rfl), by (with_reducible repeat (first | apply Kd.R_alloc | apply Kd.R_drewN | apply Kd.R_drew)); exact HO_0.out, by repeat (first | (with_reducible first | exact HB.out | apply below_alloc | apply pw_below_drewN | apply below_drew1) | exact HB.out), by repeat (first | (with_reducible first | exact HK.out | apply Kept.alloc | apply Kept.drewN | apply Kept.drew) | exact HK.out)⟩

/-! ### laws_heldInt64S: function 23 -/
def laws_heldInt64S.l0 : Nat → List Int → Int → Int → Option (Int)
  | 0, _, _, _ => none
  | k + 1, x0, x1, x5 => if x5 < (x0.length : Int) then (if 0 ≤ x5 then (if (rd x0 x5) = x1 then (laws_heldInt64S.l0 k x0 (wrap64 (x1 + 1)) (wrap64 (x5 + 1))) else (some (-1))) else (none)) else (some x1)
def laws_heldInt64S.f (k : Nat) (l0 : List Int) (a1 : Int) : Option (Int) := laws_heldInt64S.l0 k l0 a1 0
theorem laws_heldInt64S.mono_l : ∀ k, (∀ y0 y1 y2, LeO (laws_heldInt64S.l0 k y0 y1 y2) (laws_heldInt64S.l0 (k + 1) y0 y1 y2))
  | 0 => fun _ _ _ r h => by simp [laws_heldInt64S.l0] at h
  | k + 1 => by
    have ih0 := laws_heldInt64S.mono_l k
    · intro y0 y1 y2
      unfold laws_heldInt64S.l0
      repeat' first
      | (with_reducible exact ih0 _ _ _)
      | (with_reducible exact LeO.refl _)
      | (with_reducible exact LeO.none _)
      | (with_reducible refine LeO.ite ?_ ?_)
      | (with_reducible refine LeO.bind ?_ (fun _ => ?_))
      | exact ih0 _ _ _
      | exact LeO.none _
      | refine LeO.ite ?_ ?_
      | refine LeO.bind ?_ (fun _ => ?_)
theorem laws_heldInt64S.mono : ∀ a0 a1 k, LeO (laws_heldInt64S.f k a0 a1) (laws_heldInt64S.f (k + 1) a0 a1) := by
  intro a0 a1 k
  have ih0 := laws_heldInt64S.mono_l k
  unfold laws_heldInt64S.f
  repeat' first
      | (with_reducible exact ih0 _ _ _)
      | (with_reducible exact LeO.refl _)
      | (with_reducible exact LeO.none _)
      | (with_reducible refine LeO.ite ?_ ?_)
      | (with_reducible refine LeO.bind ?_ (fun _ => ?_))
      | exact ih0 _ _ _
      | exact LeO.none _
      | refine LeO.ite ?_ ?_
      | refine LeO.bind ?_ (fun _ => ?_)
set_option maxHeartbeats 8000000 in
set_option maxRecDepth 100000 in
theorem laws_heldInt64S.calls (k : Nat) (A0 : Option Addr) (c0 : Nat) (l0 : List Int) (a1 : Int) (r : Int) (w : World) (hr0 : Kd.C (Kd.int .i64) w A0 l0.length l0) (hc0 : l0.length ≤ c0) (h : laws_heldInt64S.f k l0 a1 = some r) :
    Calls Try.prog 23 #[.slice A0 l0.length c0, .int .i64 a1] w fun e w' => e = .returned (.int .i64 r) ∧ Drawn0 w w' := by
  have HR0 := Aside0.mk hr0
  have HC0 := Aside0.mk hc0
  clear hr0 hc0
  have H : (laws_heldInt64S.l0 k l0 a1 0) = some r := h
  clear h
  have H' := Aside0.mk H
  clear H
  go_enter Try.func23, Try.ntmps23
  go_wp2
  go_loopg [1, 5] k (fun kq v1 v5 w' => ∃ (x1_1 : Int) (x5_1 : Int), v1 = .int .i64 x1_1 ∧ v5 = .int .i64 x5_1 ∧ Aside0 (laws_heldInt64S.l0 kq l0 x1_1 x5_1 = some r) ∧ Aside0 (kq ≤ k) ∧ Drawn0 w w')
  case atStart => exact ⟨(a1), (0), (by first | rfl | (simp; done) | (simp [*]; done) | (exact congrArg (Value.int .i64) (wrap_eq (by omega)))), (by first | rfl | (simp; done) | (simp [*]; done) | (exact congrArg (Value.int .i64) (wrap_eq (by omega)))), H', ⟨Nat.le_refl _⟩, by repeat (first | exact Drawn0.refl _ | apply Drawn0.step)⟩
  case round =>
    clear H'
    try clear c2
    try clear p2
    obtain ⟨x1_1, x5_1, rfl, rfl, HA, HK1, ⟨m1, rfl⟩⟩ := hrel
    cases gk with
    | zero => exact absurd HA.out (by simp [laws_heldInt64S.l0])
    | succ k1 =>
      have H := HA.out
      clear HA
      simp only [laws_heldInt64S.l0] at H
      by_cases c3 : x5_1 < (l0.length : Int)
      · rw [if_pos c3] at H
        have c3b0 : decide (x5_1 < (l0.length : Int)) = true := decide_eq_true c3
        clear c3
        by_cases c4 : 0 ≤ x5_1
        · rw [if_pos c4] at H
          have c4b0 : decide (0 ≤ x5_1) = true := decide_eq_true c4
          clear c4
          by_cases c5 : (rd l0 x5_1) = x1_1
          · rw [if_pos c5] at H
            have c5b0 : ((rd l0 x5_1) == x1_1) = true := beq_iff_eq.mpr c5
            have c5b1 : ((rd l0 x5_1) != x1_1) = false := bne_eq_false_iff_eq.mpr c5
            clear c5
            have H' := Aside0.mk H
            clear H
            have p299 : 0 ≤ (x5_1 : Int) := of_decide_eq_true (by first | (with_reducible assumption) | assumption)
            have q299 : x5_1 < (l0.length : Int) := of_decide_eq_true (by first | (with_reducible assumption) | assumption)
            obtain ⟨ad299, e299, hx299_0⟩ := Kd.at_int HR0.out x5_1 p299 q299
            cases e299
            replace p299 := eq_true p299
            replace q299 := eq_true q299
            go_wp2
            go_roundg k1
            case measure => have := HK1.out; omega
            case rel => exact ⟨(wrap64 (x1_1 + 1)), (wrap64 (x5_1 + 1)), (by first | rfl | (simp; done) | (simp [*]; done) | (exact congrArg (Value.int .i64) (wrap_eq (by omega)))), (by first | rfl | (simp; done) | (simp [*]; done) | (exact congrArg (Value.int .i64) (wrap_eq (by omega)))), H', ⟨by have := HK1.out; omega⟩, by repeat (first | exact Drawn0.refl _ | apply Drawn0.step)⟩
          · rw [if_neg c5] at H
            have c5b0 : ((rd l0 x5_1) == x1_1) = false := beq_eq_false_iff_ne.mpr c5
            have c5b1 : ((rd l0 x5_1) != x1_1) = true := bne_iff_ne.mpr c5
            obtain rfl := Option.some.inj H
            have p299 : 0 ≤ (x5_1 : Int) := of_decide_eq_true (by first | (with_reducible assumption) | assumption)
            have q299 : x5_1 < (l0.length : Int) := of_decide_eq_true (by first | (with_reducible assumption) | assumption)
            obtain ⟨ad299, e299, hx299_0⟩ := Kd.at_int HR0.out x5_1 p299 q299
            cases e299
            replace p299 := eq_true p299
            replace q299 := eq_true q299
            go_wp2
            go_ret
            exact ⟨by first | rfl | (simp; done) | (simp [*]; done) | (exact congrArg (Value.int .i64) (wrap_eq (by omega))), by repeat (first | exact Drawn0.refl _ | apply Drawn0.step)⟩
        · rw [if_neg c4] at H
          exact absurd H (by simp)
      · rw [if_neg c3] at H
        have c3b0 : decide (x5_1 < (l0.length : Int)) = false := decide_eq_false c3
        clear c3
        obtain rfl := Option.some.inj H
        go_wp2
        go_ret
        exact ⟨by first | rfl | (simp; done) | (simp [*]; done) | (exact congrArg (Value.int .i64) (wrap_eq (by omega))), by repeat (first | exact Drawn0.refl _ | apply Drawn0.step)⟩

/-! ### laws_FnExactNeverHit: function 5 -/
def laws_FnExactNeverHit.f (k : Nat) (a0_0 : Int) (a0_1 : Int) (l0_2 : List (S78)) : Option (Bool) := (laws_szBoard.f a0_0 a0_1 l0_2 1048576).bind fun t301 => (if t301 < 0 then (some true) else ((laws_toBoard.f k a0_0 a0_1 l0_2).bind fun bt302 => ((spec_NeverHit.f k bt302.1 bt302.2.1 bt302.2.2).bind fun bt307 => ((laws_toBoard.f k a0_0 a0_1 l0_2).bind fun bt311 => ((impl_NeverHit.f k bt311.1 bt311.2.1 bt311.2.2).bind fun bt317 => ((laws_eqInt64S.f k bt317.1 bt307.1).bind fun t321 => (if t321 = true then (if bt317.2 = bt307.2 then ((laws_toBoard.f k a0_0 a0_1 l0_2).bind fun bt322 => ((laws_eqBoard.f k bt311.1 bt311.2.1 bt311.2.2 bt322.1 bt322.2.1 bt322.2.2).bind fun t327 => (if t327 = true then ((laws_markBoard.f k bt311.1 bt311.2.1 bt311.2.2 1).bind fun bt328 => (if bt328.1 < 0 then (none) else ((laws_eqInt64S.f k bt317.1 bt307.1).bind fun t330 => (if t330 = true then ((laws_markInt64S.f k bt317.1 1).bind fun bt331 => ((laws_heldInt64S.f k bt331.2 1).bind fun t333 => (if t333 < 0 then (none) else (if t333 = bt331.1 then ((laws_toBoard.f k a0_0 a0_1 l0_2).bind fun bt334 => ((impl_NeverHit.f k bt334.1 bt334.2.1 bt334.2.2).bind fun bt339 => ((laws_eqInt64S.f k bt339.1 bt307.1).bind fun t343 => (if t343 = true then (if bt339.2 = bt307.2 then ((laws_heldInt64S.f k bt331.2 1).bind fun t344 => (if t344 < 0 then (none) else (if t344 = bt331.1 then (some true) else (none)))) else (none)) else (none))))) else (none))))) else (none))))) else (none)))) else (none)) else (none))))))))
theorem laws_FnExactNeverHit.mono : ∀ a0 a1 a2 k, LeO (laws_FnExactNeverHit.f k a0 a1 a2) (laws_FnExactNeverHit.f (k + 1) a0 a1 a2) := by
  intro a0 a1 a2 k
  unfold laws_FnExactNeverHit.f
  repeat' first
      | (with_reducible exact impl_NeverHit.mono _ _ _ _)
      | (with_reducible exact laws_eqBoard.mono _ _ _ _ _ _ _)
      | (with_reducible exact laws_eqInt64S.mono _ _ _)
      | (with_reducible exact laws_heldInt64S.mono _ _ _)
      | (with_reducible exact laws_markBoard.mono _ _ _ _ _)
      | (with_reducible exact laws_markInt64S.mono _ _ _)
      | (with_reducible exact laws_toBoard.mono _ _ _ _)
      | (with_reducible exact spec_NeverHit.mono _ _ _ _)
      | (with_reducible exact LeO.refl _)
      | (with_reducible exact LeO.none _)
      | (with_reducible refine LeO.ite ?_ ?_)
      | (with_reducible refine LeO.bind ?_ (fun _ => ?_))
      | exact impl_NeverHit.mono _ _ _ _
      | exact laws_eqBoard.mono _ _ _ _ _ _ _
      | exact laws_eqInt64S.mono _ _ _
      | exact laws_heldInt64S.mono _ _ _
      | exact laws_markBoard.mono _ _ _ _ _
      | exact laws_markInt64S.mono _ _ _
      | exact laws_toBoard.mono _ _ _ _
      | exact spec_NeverHit.mono _ _ _ _
      | exact LeO.none _
      | refine LeO.ite ?_ ?_
      | refine LeO.bind ?_ (fun _ => ?_)
set_option maxHeartbeats 8000000 in
set_option maxRecDepth 100000 in
theorem laws_FnExactNeverHit.calls (k : Nat) (a0_0 : Int) (a0_1 : Int) (A0_2 : Option Addr) (c0_2 : Nat) (l0_2 : List (S78)) (r : Bool) (w : World) (hr0_2 : Kd.C k78 w A0_2 l0_2.length l0_2) (hc0_2 : l0_2.length ≤ c0_2) (h : laws_FnExactNeverHit.f k a0_0 a0_1 l0_2 = some r) :
    Calls Try.prog 5 #[.agg #[.int .i8 a0_0, .int .i8 a0_1, .slice A0_2 l0_2.length c0_2]] w fun e w' => e = .returned (.bool r) ∧ Below w.heap.size w w' := by
  have hu25 := Try.underlying25
  have hu30 := Try.underlying30
  have HR0_2 := Aside0.mk hr0_2
  have HC0_2 := Aside0.mk hc0_2
  clear hr0_2 hc0_2
  have HB := Aside0.mk (Below.refl w.heap.size w)
  have H : ((laws_szBoard.f a0_0 a0_1 l0_2 1048576).bind fun t301 => (if t301 < 0 then (some true) else ((laws_toBoard.f k a0_0 a0_1 l0_2).bind fun bt302 => ((spec_NeverHit.f k bt302.1 bt302.2.1 bt302.2.2).bind fun bt307 => ((laws_toBoard.f k a0_0 a0_1 l0_2).bind fun bt311 => ((impl_NeverHit.f k bt311.1 bt311.2.1 bt311.2.2).bind fun bt317 => ((laws_eqInt64S.f k bt317.1 bt307.1).bind fun t321 => (if t321 = true then (if bt317.2 = bt307.2 then ((laws_toBoard.f k a0_0 a0_1 l0_2).bind fun bt322 => ((laws_eqBoard.f k bt311.1 bt311.2.1 bt311.2.2 bt322.1 bt322.2.1 bt322.2.2).bind fun t327 => (if t327 = true then ((laws_markBoard.f k bt311.1 bt311.2.1 bt311.2.2 1).bind fun bt328 => (if bt328.1 < 0 then (none) else ((laws_eqInt64S.f k bt317.1 bt307.1).bind fun t330 => (if t330 = true then ((laws_markInt64S.f k bt317.1 1).bind fun bt331 => ((laws_heldInt64S.f k bt331.2 1).bind fun t333 => (if t333 < 0 then (none) else (if t333 = bt331.1 then ((laws_toBoard.f k a0_0 a0_1 l0_2).bind fun bt334 => ((impl_NeverHit.f k bt334.1 bt334.2.1 bt334.2.2).bind fun bt339 => ((laws_eqInt64S.f k bt339.1 bt307.1).bind fun t343 => (if t343 = true then (if bt339.2 = bt307.2 then ((laws_heldInt64S.f k bt331.2 1).bind fun t344 => (if t344 < 0 then (none) else (if t344 = bt331.1 then (some true) else (none)))) else (none)) else (none))))) else (none))))) else (none))))) else (none)))) else (none)) else (none))))))))) = some r := h
  clear h
  replace H := Option.bind_eq_some_iff.mp H
  obtain ⟨t301, A20, H⟩ := H
  replace H : (if t301 < 0 then (some true) else ((laws_toBoard.f k a0_0 a0_1 l0_2).bind fun bt302 => ((spec_NeverHit.f k bt302.1 bt302.2.1 bt302.2.2).bind fun bt307 => ((laws_toBoard.f k a0_0 a0_1 l0_2).bind fun bt311 => ((impl_NeverHit.f k bt311.1 bt311.2.1 bt311.2.2).bind fun bt317 => ((laws_eqInt64S.f k bt317.1 bt307.1).bind fun t321 => (if t321 = true then (if bt317.2 = bt307.2 then ((laws_toBoard.f k a0_0 a0_1 l0_2).bind fun bt322 => ((laws_eqBoard.f k bt311.1 bt311.2.1 bt311.2.2 bt322.1 bt322.2.1 bt322.2.2).bind fun t327 => (if t327 = true then ((laws_markBoard.f k bt311.1 bt311.2.1 bt311.2.2 1).bind fun bt328 => (if bt328.1 < 0 then (none) else ((laws_eqInt64S.f k bt317.1 bt307.1).bind fun t330 => (if t330 = true then ((laws_markInt64S.f k bt317.1 1).bind fun bt331 => ((laws_heldInt64S.f k bt331.2 1).bind fun t333 => (if t333 < 0 then (none) else (if t333 = bt331.1 then ((laws_toBoard.f k a0_0 a0_1 l0_2).bind fun bt334 => ((impl_NeverHit.f k bt334.1 bt334.2.1 bt334.2.2).bind fun bt339 => ((laws_eqInt64S.f k bt339.1 bt307.1).bind fun t343 => (if t343 = true then (if bt339.2 = bt307.2 then ((laws_heldInt64S.f k bt331.2 1).bind fun t344 => (if t344 < 0 then (none) else (if t344 = bt331.1 then (some true) else (none)))) else (none)) else (none))))) else (none))))) else (none))))) else (none)))) else (none)) else (none)))))))) = some r := H
  have A2 := Aside0.mk A20
  clear A20
  by_cases c3 : t301 < 0
  · rw [if_pos c3] at H
    have c3b0 : decide (t301 < 0) = true := decide_eq_true c3
    clear c3
    obtain rfl := Option.some.inj H
    go_enter Try.func5, Try.ntmps5
    go_wp2_with (first | ((with_reducible refine gate_dst (N := 1) rfl ?_); refine box_event ?hg (N := 1) ?hd (cs := #[.int .i8 a0_0, .int .i8 a0_1, .slice A0_2 l0_2.length c0_2]) (t := 25) ?hr ?_; (case hd => rfl); (case hg => rfl); (case hr => first | (go_simp; done) | (go_simp; rfl)); intro gb300 hg w4 hbox hb; have n0_ := Aside0.mk (below_step (by repeat (first | (with_reducible first | exact HB.out | apply below_alloc | apply pw_below_drewN | apply below_drew1) | exact HB.out)) hb); have n1_ := Aside0.mk (hbox); have n2_ := Aside0.mk ((by rw [hg]; exact (below_size (by repeat (first | (with_reducible first | exact HB.out | apply below_alloc | apply pw_below_drewN | apply below_drew1) | exact HB.out))) : w.heap.size ≤ gb300)); have n3_ := Aside0.mk ((by rw [hg]; exact (below_size (by repeat (first | (with_reducible first | exact HB.out | apply below_alloc | apply pw_below_drewN | apply below_drew1) | exact HB.out))) : w.heap.size ≤ gb300)); clear HB; have HB := n0_; have BK300 := n1_; have GW300 := n2_; have GE300 := n3_; clear n0_ n1_ n2_ n3_; clear hb hbox hg; have hcz5_0 : w4.cell? ⟨gb300, 0, none⟩ = some (.int .i8 a0_0) := (blk_cell BK300.out 0).trans rfl; have hcz5_1 : w4.cell? ⟨gb300, 1, none⟩ = some (.int .i8 a0_1) := (blk_cell BK300.out 1).trans rfl; have hcz5_2 : w4.cell? ⟨gb300, 2, none⟩ = some (.slice A0_2 l0_2.length c0_2) := (blk_cell BK300.out 2).trans rfl; have hfz5_0 := blk_frozen BK300.out 0; have hfz5_1 := blk_frozen BK300.out 1; have hfz5_2 := blk_frozen BK300.out 2) | ((with_reducible refine gate_callee (f := 6) rfl ?_); refine goesL_ (some 16) rfl rfl Try.func6 (by kernel_rfl) rfl #[.agg #[.int .i8 a0_0, .int .i8 a0_1, .slice A0_2 l0_2.length c0_2], .int .i64 1048576] rfl (by (try simp only [List.map_toArray, List.map_cons, List.map_nil]); first | done | rfl | (simp only [List.length_drop, List.length_take]; rfl)) ?_; (with_reducible refine (laws_szBoard.calls a0_0 a0_1 _ _ l0_2 1048576 t301 _ ?side1 ?side2 A2.out).mono ?_); (case side1 => repeat (first | exact (Kd.C_below HR0_2.out HB.out) | (with_reducible refine Kd.C_alloc ?_ _) | (with_reducible refine Kd.C_drewN ?_ _) | (with_reducible refine Kd.C_drew ?_))); (case side2 => exact HC0_2.out); rintro e w6 ⟨rfl, hb⟩; refine ⟨_, rfl, ?_⟩; have n0_ := Aside0.mk (blk_below (g := gb300) (o := .cells #[.int .i8 a0_0, .int .i8 a0_1, .slice A0_2 l0_2.length c0_2] 25 (0, 0)) (by (with_reducible repeat (first | refine blk_drewN ?_ _ | refine blk_drew ?_ | refine blk_alloc ?_ _)); exact BK300.out) hb); have n1_ := Aside0.mk (below_step (by repeat (first | (with_reducible first | exact HB.out | apply below_alloc | apply pw_below_drewN | apply below_drew1 | refine below_set ?_ GE300.out) | exact HB.out)) hb); clear BK300; clear HB; have BK300 := n0_; have HB := n1_; clear n0_ n1_; (try clear hb); (try clear hb2); (try clear hk); (try clear hi)))
    go_ret
    exact ⟨by first | rfl | (simp [errW_none, errW_some] <;> rfl) | (simp [*, errW_none, errW_some] <;> rfl), by repeat (first | (with_reducible first | exact HB.out | apply below_alloc | apply pw_below_drewN | apply below_drew1 | refine below_set ?_ GE300.out) | exact HB.out)⟩
  · rw [if_neg c3] at H
    have c3b0 : decide (t301 < 0) = false := decide_eq_false c3
    clear c3
    replace H := Option.bind_eq_some_iff.mp H
    obtain ⟨⟨t302, t303, t304⟩, A70, H⟩ := H
    replace H : ((spec_NeverHit.f k t302 t303 t304).bind fun bt307 => ((laws_toBoard.f k a0_0 a0_1 l0_2).bind fun bt311 => ((impl_NeverHit.f k bt311.1 bt311.2.1 bt311.2.2).bind fun bt317 => ((laws_eqInt64S.f k bt317.1 bt307.1).bind fun t321 => (if t321 = true then (if bt317.2 = bt307.2 then ((laws_toBoard.f k a0_0 a0_1 l0_2).bind fun bt322 => ((laws_eqBoard.f k bt311.1 bt311.2.1 bt311.2.2 bt322.1 bt322.2.1 bt322.2.2).bind fun t327 => (if t327 = true then ((laws_markBoard.f k bt311.1 bt311.2.1 bt311.2.2 1).bind fun bt328 => (if bt328.1 < 0 then (none) else ((laws_eqInt64S.f k bt317.1 bt307.1).bind fun t330 => (if t330 = true then ((laws_markInt64S.f k bt317.1 1).bind fun bt331 => ((laws_heldInt64S.f k bt331.2 1).bind fun t333 => (if t333 < 0 then (none) else (if t333 = bt331.1 then ((laws_toBoard.f k a0_0 a0_1 l0_2).bind fun bt334 => ((impl_NeverHit.f k bt334.1 bt334.2.1 bt334.2.2).bind fun bt339 => ((laws_eqInt64S.f k bt339.1 bt307.1).bind fun t343 => (if t343 = true then (if bt339.2 = bt307.2 then ((laws_heldInt64S.f k bt331.2 1).bind fun t344 => (if t344 < 0 then (none) else (if t344 = bt331.1 then (some true) else (none)))) else (none)) else (none))))) else (none))))) else (none))))) else (none)))) else (none)) else (none)))))) = some r := H
    have A7 := Aside0.mk A70
    clear A70
    replace H := Option.bind_eq_some_iff.mp H
    obtain ⟨⟨t307, t310⟩, A80, H⟩ := H
    replace H : ((laws_toBoard.f k a0_0 a0_1 l0_2).bind fun bt311 => ((impl_NeverHit.f k bt311.1 bt311.2.1 bt311.2.2).bind fun bt317 => ((laws_eqInt64S.f k bt317.1 t307).bind fun t321 => (if t321 = true then (if bt317.2 = t310 then ((laws_toBoard.f k a0_0 a0_1 l0_2).bind fun bt322 => ((laws_eqBoard.f k bt311.1 bt311.2.1 bt311.2.2 bt322.1 bt322.2.1 bt322.2.2).bind fun t327 => (if t327 = true then ((laws_markBoard.f k bt311.1 bt311.2.1 bt311.2.2 1).bind fun bt328 => (if bt328.1 < 0 then (none) else ((laws_eqInt64S.f k bt317.1 t307).bind fun t330 => (if t330 = true then ((laws_markInt64S.f k bt317.1 1).bind fun bt331 => ((laws_heldInt64S.f k bt331.2 1).bind fun t333 => (if t333 < 0 then (none) else (if t333 = bt331.1 then ((laws_toBoard.f k a0_0 a0_1 l0_2).bind fun bt334 => ((impl_NeverHit.f k bt334.1 bt334.2.1 bt334.2.2).bind fun bt339 => ((laws_eqInt64S.f k bt339.1 t307).bind fun t343 => (if t343 = true then (if bt339.2 = t310 then ((laws_heldInt64S.f k bt331.2 1).bind fun t344 => (if t344 < 0 then (none) else (if t344 = bt331.1 then (some true) else (none)))) else (none)) else (none))))) else (none))))) else (none))))) else (none)))) else (none)) else (none))))) = some r := H
    have A8 := Aside0.mk A80
    clear A80
    replace H := Option.bind_eq_some_iff.mp H
    obtain ⟨⟨t311, t312, t313⟩, A90, H⟩ := H
    replace H : ((impl_NeverHit.f k t311 t312 t313).bind fun bt317 => ((laws_eqInt64S.f k bt317.1 t307).bind fun t321 => (if t321 = true then (if bt317.2 = t310 then ((laws_toBoard.f k a0_0 a0_1 l0_2).bind fun bt322 => ((laws_eqBoard.f k t311 t312 t313 bt322.1 bt322.2.1 bt322.2.2).bind fun t327 => (if t327 = true then ((laws_markBoard.f k t311 t312 t313 1).bind fun bt328 => (if bt328.1 < 0 then (none) else ((laws_eqInt64S.f k bt317.1 t307).bind fun t330 => (if t330 = true then ((laws_markInt64S.f k bt317.1 1).bind fun bt331 => ((laws_heldInt64S.f k bt331.2 1).bind fun t333 => (if t333 < 0 then (none) else (if t333 = bt331.1 then ((laws_toBoard.f k a0_0 a0_1 l0_2).bind fun bt334 => ((impl_NeverHit.f k bt334.1 bt334.2.1 bt334.2.2).bind fun bt339 => ((laws_eqInt64S.f k bt339.1 t307).bind fun t343 => (if t343 = true then (if bt339.2 = t310 then ((laws_heldInt64S.f k bt331.2 1).bind fun t344 => (if t344 < 0 then (none) else (if t344 = bt331.1 then (some true) else (none)))) else (none)) else (none))))) else (none))))) else (none))))) else (none)))) else (none)) else (none)))) = some r := H
    have A9 := Aside0.mk A90
    clear A90
    replace H := Option.bind_eq_some_iff.mp H
    obtain ⟨⟨t317, t320⟩, A100, H⟩ := H
    replace H : ((laws_eqInt64S.f k t317 t307).bind fun t321 => (if t321 = true then (if t320 = t310 then ((laws_toBoard.f k a0_0 a0_1 l0_2).bind fun bt322 => ((laws_eqBoard.f k t311 t312 t313 bt322.1 bt322.2.1 bt322.2.2).bind fun t327 => (if t327 = true then ((laws_markBoard.f k t311 t312 t313 1).bind fun bt328 => (if bt328.1 < 0 then (none) else ((laws_eqInt64S.f k t317 t307).bind fun t330 => (if t330 = true then ((laws_markInt64S.f k t317 1).bind fun bt331 => ((laws_heldInt64S.f k bt331.2 1).bind fun t333 => (if t333 < 0 then (none) else (if t333 = bt331.1 then ((laws_toBoard.f k a0_0 a0_1 l0_2).bind fun bt334 => ((impl_NeverHit.f k bt334.1 bt334.2.1 bt334.2.2).bind fun bt339 => ((laws_eqInt64S.f k bt339.1 t307).bind fun t343 => (if t343 = true then (if bt339.2 = t310 then ((laws_heldInt64S.f k bt331.2 1).bind fun t344 => (if t344 < 0 then (none) else (if t344 = bt331.1 then (some true) else (none)))) else (none)) else (none))))) else (none))))) else (none))))) else (none)))) else (none)) else (none))) = some r := H
    have A10 := Aside0.mk A100
    clear A100
    replace H := Option.bind_eq_some_iff.mp H
    obtain ⟨t321, A110, H⟩ := H
    replace H : (if t321 = true then (if t320 = t310 then ((laws_toBoard.f k a0_0 a0_1 l0_2).bind fun bt322 => ((laws_eqBoard.f k t311 t312 t313 bt322.1 bt322.2.1 bt322.2.2).bind fun t327 => (if t327 = true then ((laws_markBoard.f k t311 t312 t313 1).bind fun bt328 => (if bt328.1 < 0 then (none) else ((laws_eqInt64S.f k t317 t307).bind fun t330 => (if t330 = true then ((laws_markInt64S.f k t317 1).bind fun bt331 => ((laws_heldInt64S.f k bt331.2 1).bind fun t333 => (if t333 < 0 then (none) else (if t333 = bt331.1 then ((laws_toBoard.f k a0_0 a0_1 l0_2).bind fun bt334 => ((impl_NeverHit.f k bt334.1 bt334.2.1 bt334.2.2).bind fun bt339 => ((laws_eqInt64S.f k bt339.1 t307).bind fun t343 => (if t343 = true then (if bt339.2 = t310 then ((laws_heldInt64S.f k bt331.2 1).bind fun t344 => (if t344 < 0 then (none) else (if t344 = bt331.1 then (some true) else (none)))) else (none)) else (none))))) else (none))))) else (none))))) else (none)))) else (none)) else (none)) = some r := H
    have A11 := Aside0.mk A110
    clear A110
    by_cases c12 : t321 = true
    · subst c12
      have H1 : (if t320 = t310 then ((laws_toBoard.f k a0_0 a0_1 l0_2).bind fun bt322 => ((laws_eqBoard.f k t311 t312 t313 bt322.1 bt322.2.1 bt322.2.2).bind fun t327 => (if t327 = true then ((laws_markBoard.f k t311 t312 t313 1).bind fun bt328 => (if bt328.1 < 0 then (none) else ((laws_eqInt64S.f k t317 t307).bind fun t330 => (if t330 = true then ((laws_markInt64S.f k t317 1).bind fun bt331 => ((laws_heldInt64S.f k bt331.2 1).bind fun t333 => (if t333 < 0 then (none) else (if t333 = bt331.1 then ((laws_toBoard.f k a0_0 a0_1 l0_2).bind fun bt334 => ((impl_NeverHit.f k bt334.1 bt334.2.1 bt334.2.2).bind fun bt339 => ((laws_eqInt64S.f k bt339.1 t307).bind fun t343 => (if t343 = true then (if bt339.2 = t310 then ((laws_heldInt64S.f k bt331.2 1).bind fun t344 => (if t344 < 0 then (none) else (if t344 = bt331.1 then (some true) else (none)))) else (none)) else (none))))) else (none))))) else (none))))) else (none)))) else (none)) = some r := by rw [if_pos rfl] at H; exact H
      clear H
      have H := H1
      clear H1
      by_cases c13 : t320 = t310
      · rw [if_pos c13] at H
        have c13b0 : (t320 == t310) = true := beq_iff_eq.mpr c13
        have c13b1 : (t320 != t310) = false := bne_eq_false_iff_eq.mpr c13
        clear c13
        replace H := Option.bind_eq_some_iff.mp H
        obtain ⟨⟨t322, t323, t324⟩, A140, H⟩ := H
        replace H : ((laws_eqBoard.f k t311 t312 t313 t322 t323 t324).bind fun t327 => (if t327 = true then ((laws_markBoard.f k t311 t312 t313 1).bind fun bt328 => (if bt328.1 < 0 then (none) else ((laws_eqInt64S.f k t317 t307).bind fun t330 => (if t330 = true then ((laws_markInt64S.f k t317 1).bind fun bt331 => ((laws_heldInt64S.f k bt331.2 1).bind fun t333 => (if t333 < 0 then (none) else (if t333 = bt331.1 then ((laws_toBoard.f k a0_0 a0_1 l0_2).bind fun bt334 => ((impl_NeverHit.f k bt334.1 bt334.2.1 bt334.2.2).bind fun bt339 => ((laws_eqInt64S.f k bt339.1 t307).bind fun t343 => (if t343 = true then (if bt339.2 = t310 then ((laws_heldInt64S.f k bt331.2 1).bind fun t344 => (if t344 < 0 then (none) else (if t344 = bt331.1 then (some true) else (none)))) else (none)) else (none))))) else (none))))) else (none))))) else (none))) = some r := H
        have A14 := Aside0.mk A140
        clear A140
        replace H := Option.bind_eq_some_iff.mp H
        obtain ⟨t327, A150, H⟩ := H
        replace H : (if t327 = true then ((laws_markBoard.f k t311 t312 t313 1).bind fun bt328 => (if bt328.1 < 0 then (none) else ((laws_eqInt64S.f k t317 t307).bind fun t330 => (if t330 = true then ((laws_markInt64S.f k t317 1).bind fun bt331 => ((laws_heldInt64S.f k bt331.2 1).bind fun t333 => (if t333 < 0 then (none) else (if t333 = bt331.1 then ((laws_toBoard.f k a0_0 a0_1 l0_2).bind fun bt334 => ((impl_NeverHit.f k bt334.1 bt334.2.1 bt334.2.2).bind fun bt339 => ((laws_eqInt64S.f k bt339.1 t307).bind fun t343 => (if t343 = true then (if bt339.2 = t310 then ((laws_heldInt64S.f k bt331.2 1).bind fun t344 => (if t344 < 0 then (none) else (if t344 = bt331.1 then (some true) else (none)))) else (none)) else (none))))) else (none))))) else (none))))) else (none)) = some r := H
        have A15 := Aside0.mk A150
        clear A150
        by_cases c16 : t327 = true
        · subst c16
          have H1 : ((laws_markBoard.f k t311 t312 t313 1).bind fun bt328 => (if bt328.1 < 0 then (none) else ((laws_eqInt64S.f k t317 t307).bind fun t330 => (if t330 = true then ((laws_markInt64S.f k t317 1).bind fun bt331 => ((laws_heldInt64S.f k bt331.2 1).bind fun t333 => (if t333 < 0 then (none) else (if t333 = bt331.1 then ((laws_toBoard.f k a0_0 a0_1 l0_2).bind fun bt334 => ((impl_NeverHit.f k bt334.1 bt334.2.1 bt334.2.2).bind fun bt339 => ((laws_eqInt64S.f k bt339.1 t307).bind fun t343 => (if t343 = true then (if bt339.2 = t310 then ((laws_heldInt64S.f k bt331.2 1).bind fun t344 => (if t344 < 0 then (none) else (if t344 = bt331.1 then (some true) else (none)))) else (none)) else (none))))) else (none))))) else (none))))) = some r := by rw [if_pos rfl] at H; exact H
          clear H
          have H := H1
          clear H1
          replace H := Option.bind_eq_some_iff.mp H
          obtain ⟨⟨t328, t329⟩, A170, H⟩ := H
          replace H : (if t328 < 0 then (none) else ((laws_eqInt64S.f k t317 t307).bind fun t330 => (if t330 = true then ((laws_markInt64S.f k t317 1).bind fun bt331 => ((laws_heldInt64S.f k bt331.2 1).bind fun t333 => (if t333 < 0 then (none) else (if t333 = bt331.1 then ((laws_toBoard.f k a0_0 a0_1 l0_2).bind fun bt334 => ((impl_NeverHit.f k bt334.1 bt334.2.1 bt334.2.2).bind fun bt339 => ((laws_eqInt64S.f k bt339.1 t307).bind fun t343 => (if t343 = true then (if bt339.2 = t310 then ((laws_heldInt64S.f k bt331.2 1).bind fun t344 => (if t344 < 0 then (none) else (if t344 = bt331.1 then (some true) else (none)))) else (none)) else (none))))) else (none))))) else (none)))) = some r := H
          have A17 := Aside0.mk A170
          clear A170
          by_cases c18 : t328 < 0
          · rw [if_pos c18] at H
            exact absurd H (by simp)
          · rw [if_neg c18] at H
            have c18b0 : decide (t328 < 0) = false := decide_eq_false c18
            clear c18
            replace H := Option.bind_eq_some_iff.mp H
            obtain ⟨t330, A190, H⟩ := H
            replace H : (if t330 = true then ((laws_markInt64S.f k t317 1).bind fun bt331 => ((laws_heldInt64S.f k bt331.2 1).bind fun t333 => (if t333 < 0 then (none) else (if t333 = bt331.1 then ((laws_toBoard.f k a0_0 a0_1 l0_2).bind fun bt334 => ((impl_NeverHit.f k bt334.1 bt334.2.1 bt334.2.2).bind fun bt339 => ((laws_eqInt64S.f k bt339.1 t307).bind fun t343 => (if t343 = true then (if bt339.2 = t310 then ((laws_heldInt64S.f k bt331.2 1).bind fun t344 => (if t344 < 0 then (none) else (if t344 = bt331.1 then (some true) else (none)))) else (none)) else (none))))) else (none))))) else (none)) = some r := H
            have A19 := Aside0.mk A190
            clear A190
            by_cases c20 : t330 = true
            · subst c20
              have H1 : ((laws_markInt64S.f k t317 1).bind fun bt331 => ((laws_heldInt64S.f k bt331.2 1).bind fun t333 => (if t333 < 0 then (none) else (if t333 = bt331.1 then ((laws_toBoard.f k a0_0 a0_1 l0_2).bind fun bt334 => ((impl_NeverHit.f k bt334.1 bt334.2.1 bt334.2.2).bind fun bt339 => ((laws_eqInt64S.f k bt339.1 t307).bind fun t343 => (if t343 = true then (if bt339.2 = t310 then ((laws_heldInt64S.f k bt331.2 1).bind fun t344 => (if t344 < 0 then (none) else (if t344 = bt331.1 then (some true) else (none)))) else (none)) else (none))))) else (none))))) = some r := by rw [if_pos rfl] at H; exact H
              clear H
              have H := H1
              clear H1
              replace H := Option.bind_eq_some_iff.mp H
              obtain ⟨⟨t331, t332⟩, A210, H⟩ := H
              replace H : ((laws_heldInt64S.f k t332 1).bind fun t333 => (if t333 < 0 then (none) else (if t333 = t331 then ((laws_toBoard.f k a0_0 a0_1 l0_2).bind fun bt334 => ((impl_NeverHit.f k bt334.1 bt334.2.1 bt334.2.2).bind fun bt339 => ((laws_eqInt64S.f k bt339.1 t307).bind fun t343 => (if t343 = true then (if bt339.2 = t310 then ((laws_heldInt64S.f k t332 1).bind fun t344 => (if t344 < 0 then (none) else (if t344 = t331 then (some true) else (none)))) else (none)) else (none))))) else (none)))) = some r := H
              have A21 := Aside0.mk A210
              clear A210
              replace H := Option.bind_eq_some_iff.mp H
              obtain ⟨t333, A220, H⟩ := H
              replace H : (if t333 < 0 then (none) else (if t333 = t331 then ((laws_toBoard.f k a0_0 a0_1 l0_2).bind fun bt334 => ((impl_NeverHit.f k bt334.1 bt334.2.1 bt334.2.2).bind fun bt339 => ((laws_eqInt64S.f k bt339.1 t307).bind fun t343 => (if t343 = true then (if bt339.2 = t310 then ((laws_heldInt64S.f k t332 1).bind fun t344 => (if t344 < 0 then (none) else (if t344 = t331 then (some true) else (none)))) else (none)) else (none))))) else (none))) = some r := H
              have A22 := Aside0.mk A220
              clear A220
              by_cases c23 : t333 < 0
              · rw [if_pos c23] at H
                exact absurd H (by simp)
              · rw [if_neg c23] at H
                have c23b0 : decide (t333 < 0) = false := decide_eq_false c23
                clear c23
                by_cases c24 : t333 = t331
                · rw [if_pos c24] at H
                  have c24b0 : (t333 == t331) = true := beq_iff_eq.mpr c24
                  have c24b1 : (t333 != t331) = false := bne_eq_false_iff_eq.mpr c24
                  clear c24
                  replace H := Option.bind_eq_some_iff.mp H
                  obtain ⟨⟨t334, t335, t336⟩, A250, H⟩ := H
                  replace H : ((impl_NeverHit.f k t334 t335 t336).bind fun bt339 => ((laws_eqInt64S.f k bt339.1 t307).bind fun t343 => (if t343 = true then (if bt339.2 = t310 then ((laws_heldInt64S.f k t332 1).bind fun t344 => (if t344 < 0 then (none) else (if t344 = t331 then (some true) else (none)))) else (none)) else (none)))) = some r := H
                  have A25 := Aside0.mk A250
                  clear A250
                  replace H := Option.bind_eq_some_iff.mp H
                  obtain ⟨⟨t339, t342⟩, A260, H⟩ := H
                  replace H : ((laws_eqInt64S.f k t339 t307).bind fun t343 => (if t343 = true then (if t342 = t310 then ((laws_heldInt64S.f k t332 1).bind fun t344 => (if t344 < 0 then (none) else (if t344 = t331 then (some true) else (none)))) else (none)) else (none))) = some r := H
                  have A26 := Aside0.mk A260
                  clear A260
                  replace H := Option.bind_eq_some_iff.mp H
                  obtain ⟨t343, A270, H⟩ := H
                  replace H : (if t343 = true then (if t342 = t310 then ((laws_heldInt64S.f k t332 1).bind fun t344 => (if t344 < 0 then (none) else (if t344 = t331 then (some true) else (none)))) else (none)) else (none)) = some r := H
                  have A27 := Aside0.mk A270
                  clear A270
                  by_cases c28 : t343 = true
                  · subst c28
                    have H1 : (if t342 = t310 then ((laws_heldInt64S.f k t332 1).bind fun t344 => (if t344 < 0 then (none) else (if t344 = t331 then (some true) else (none)))) else (none)) = some r := by rw [if_pos rfl] at H; exact H
                    clear H
                    have H := H1
                    clear H1
                    by_cases c29 : t342 = t310
                    · rw [if_pos c29] at H
                      have c29b0 : (t342 == t310) = true := beq_iff_eq.mpr c29
                      have c29b1 : (t342 != t310) = false := bne_eq_false_iff_eq.mpr c29
                      clear c29
                      replace H := Option.bind_eq_some_iff.mp H
                      obtain ⟨t344, A300, H⟩ := H
                      replace H : (if t344 < 0 then (none) else (if t344 = t331 then (some true) else (none))) = some r := H
                      have A30 := Aside0.mk A300
                      clear A300
                      by_cases c31 : t344 < 0
                      · rw [if_pos c31] at H
                        exact absurd H (by simp)
                      · rw [if_neg c31] at H
                        have c31b0 : decide (t344 < 0) = false := decide_eq_false c31
                        clear c31
                        by_cases c32 : t344 = t331
                        · rw [if_pos c32] at H
                          have c32b0 : (t344 == t331) = true := beq_iff_eq.mpr c32
                          have c32b1 : (t344 != t331) = false := bne_eq_false_iff_eq.mpr c32
                          clear c32
                          obtain rfl := Option.some.inj H
                          go_enter Try.func5, Try.ntmps5
                          try go_wp2_with (first | ((with_reducible refine gate_dst (N := 1) rfl ?_); refine box_event ?hg (N := 1) ?hd (cs := #[.int .i8 a0_0, .int .i8 a0_1, .slice A0_2 l0_2.length c0_2]) (t := 25) ?hr ?_; (case hd => rfl); (case hg => rfl); (case hr => first | (go_simp; done) | (go_simp; rfl)); intro gb300 hg w33 hbox hb; have n0_ := Aside0.mk (below_step (by repeat (first | (with_reducible first | exact HB.out | apply below_alloc | apply pw_below_drewN | apply below_drew1) | exact HB.out)) hb); have n1_ := Aside0.mk (hbox); have n2_ := Aside0.mk ((by rw [hg]; exact (below_size (by repeat (first | (with_reducible first | exact HB.out | apply below_alloc | apply pw_below_drewN | apply below_drew1) | exact HB.out))) : w.heap.size ≤ gb300)); have n3_ := Aside0.mk ((by rw [hg]; exact (below_size (by repeat (first | (with_reducible first | exact HB.out | apply below_alloc | apply pw_below_drewN | apply below_drew1) | exact HB.out))) : w.heap.size ≤ gb300)); clear HB; have HB := n0_; have BK300 := n1_; have GW300 := n2_; have GE300 := n3_; clear n0_ n1_ n2_ n3_; clear hb hbox hg; have hcz34_0 : w33.cell? ⟨gb300, 0, none⟩ = some (.int .i8 a0_0) := (blk_cell BK300.out 0).trans rfl; have hcz34_1 : w33.cell? ⟨gb300, 1, none⟩ = some (.int .i8 a0_1) := (blk_cell BK300.out 1).trans rfl; have hcz34_2 : w33.cell? ⟨gb300, 2, none⟩ = some (.slice A0_2 l0_2.length c0_2) := (blk_cell BK300.out 2).trans rfl; have hfz34_0 := blk_frozen BK300.out 0; have hfz34_1 := blk_frozen BK300.out 1; have hfz34_2 := blk_frozen BK300.out 2) | ((with_reducible refine gate_callee (f := 6) rfl ?_); refine goesL_ (some 16) rfl rfl Try.func6 (by kernel_rfl) rfl #[.agg #[.int .i8 a0_0, .int .i8 a0_1, .slice A0_2 l0_2.length c0_2], .int .i64 1048576] rfl (by (try simp only [List.map_toArray, List.map_cons, List.map_nil]); first | done | rfl | (simp only [List.length_drop, List.length_take]; rfl)) ?_; (with_reducible refine (laws_szBoard.calls a0_0 a0_1 _ _ l0_2 1048576 t301 _ ?side1 ?side2 A2.out).mono ?_); (case side1 => repeat (first | exact (Kd.C_below HR0_2.out HB.out) | (with_reducible refine Kd.C_alloc ?_ _) | (with_reducible refine Kd.C_drewN ?_ _) | (with_reducible refine Kd.C_drew ?_))); (case side2 => exact HC0_2.out); rintro e w35 ⟨rfl, hb⟩; refine ⟨_, rfl, ?_⟩; have n0_ := Aside0.mk (blk_below (g := gb300) (o := .cells #[.int .i8 a0_0, .int .i8 a0_1, .slice A0_2 l0_2.length c0_2] 25 (0, 0)) (by (with_reducible repeat (first | refine blk_drewN ?_ _ | refine blk_drew ?_ | refine blk_alloc ?_ _)); exact BK300.out) hb); have n1_ := Aside0.mk (below_step (by repeat (first | (with_reducible first | exact HB.out | apply below_alloc | apply pw_below_drewN | apply below_drew1 | refine below_set ?_ GE300.out) | exact HB.out)) hb); clear BK300; clear HB; have BK300 := n0_; have HB := n1_; clear n0_ n1_; (try clear hb); (try clear hb2); (try clear hk); (try clear hi); have hcz36_0 : w35.cell? ⟨gb300, 0, none⟩ = some (.int .i8 a0_0) := (blk_cell BK300.out 0).trans rfl; have hcz36_1 : w35.cell? ⟨gb300, 1, none⟩ = some (.int .i8 a0_1) := (blk_cell BK300.out 1).trans rfl; have hcz36_2 : w35.cell? ⟨gb300, 2, none⟩ = some (.slice A0_2 l0_2.length c0_2) := (blk_cell BK300.out 2).trans rfl; have hfz36_0 := blk_frozen BK300.out 0; have hfz36_1 := blk_frozen BK300.out 1; have hfz36_2 := blk_frozen BK300.out 2) | ((with_reducible refine gate_callee (f := 8) rfl ?_); refine goesL_ (some 21) rfl rfl Try.func8 (by kernel_rfl) rfl #[.agg #[.int .i8 a0_0, .int .i8 a0_1, .slice A0_2 l0_2.length c0_2]] rfl (by (try simp only [List.map_toArray, List.map_cons, List.map_nil]); first | done | rfl | (simp only [List.length_drop, List.length_take]; rfl)) ?_; (with_reducible refine (laws_toBoard.calls k a0_0 a0_1 _ _ l0_2 t302 t303 t304 _ ?side1 ?side2 A7.out).mono ?_); (case side1 => repeat (first | exact (Kd.C_below HR0_2.out HB.out) | (with_reducible refine Kd.C_alloc ?_ _) | (with_reducible refine Kd.C_drewN ?_ _) | (with_reducible refine Kd.C_drew ?_))); (case side2 => exact HC0_2.out); rintro e w37 ⟨v305, rfl, ho0, hb⟩; refine ⟨_, rfl, ?_⟩; have n0_ := Aside0.mk (Kd.R_lower ho0 (below_size (by repeat (first | (with_reducible first | exact HB.out | apply below_alloc | apply pw_below_drewN | apply below_drew1 | refine below_set ?_ GE300.out) | exact HB.out)))); have n1_ := Aside0.mk (blk_below (g := gb300) (o := .cells #[.int .i8 a0_0, .int .i8 a0_1, .slice A0_2 l0_2.length c0_2] 25 (0, 0)) (by (with_reducible repeat (first | refine blk_drewN ?_ _ | refine blk_drew ?_ | refine blk_alloc ?_ _)); exact BK300.out) hb); have n2_ := Aside0.mk (below_step (by repeat (first | (with_reducible first | exact HB.out | apply below_alloc | apply pw_below_drewN | apply below_drew1 | refine below_set ?_ GE300.out) | exact HB.out)) hb); clear BK300; clear HB; have HO306 := n0_; have BK300 := n1_; have HB := n2_; clear n0_ n1_ n2_; (try clear hb); (try clear hb2); (try clear hk); (try clear hi); (try clear ho0); obtain ⟨Ao38, co38, eo38⟩ := Kd.R_slice HO306.out; subst eo38) | ((with_reducible refine gate_callee (f := 19) rfl ?_); refine goesL_ (some 22) rfl rfl Try.func19 (by kernel_rfl) rfl #[.agg #[.int .i8 t302, .int .i8 t303, .slice Ao38 t304.length co38]] rfl (by (try simp only [List.map_toArray, List.map_cons, List.map_nil]); first | done | rfl | (simp only [List.length_drop, List.length_take]; rfl)) ?_; (with_reducible refine (spec_NeverHit.calls k t302 t303 _ _ t304 t307 t310 _ ?side1 ?side2 A8.out).mono ?_); (case side1 => repeat (first | exact (Kd.R_reads' HO306.out).2.2 | (with_reducible refine Kd.C_alloc ?_ _) | (with_reducible refine Kd.C_drewN ?_ _) | (with_reducible refine Kd.C_drew ?_))); (case side2 => exact (Kd.R_reads' HO306.out).2.1); rintro e w39 ⟨v308, rfl, ho0, hb⟩; refine ⟨_, rfl, ?_⟩; have n0_ := Aside0.mk (Kd.R_below (by (with_reducible repeat (first | apply Kd.R_alloc | apply Kd.R_drewN | apply Kd.R_drew)); exact HO306.out) hb); have n1_ := Aside0.mk (Kd.R_lower ho0 (below_size (by repeat (first | (with_reducible first | exact HB.out | apply below_alloc | apply pw_below_drewN | apply below_drew1 | refine below_set ?_ GE300.out) | exact HB.out)))); have n2_ := Aside0.mk (blk_below (g := gb300) (o := .cells #[.int .i8 a0_0, .int .i8 a0_1, .slice A0_2 l0_2.length c0_2] 25 (0, 0)) (by (with_reducible repeat (first | refine blk_drewN ?_ _ | refine blk_drew ?_ | refine blk_alloc ?_ _)); exact BK300.out) hb); have n3_ := Aside0.mk (below_step (by repeat (first | (with_reducible first | exact HB.out | apply below_alloc | apply pw_below_drewN | apply below_drew1 | refine below_set ?_ GE300.out) | exact HB.out)) hb); clear HO306; clear BK300; clear HB; have HO306 := n0_; have HO309 := n1_; have BK300 := n2_; have HB := n3_; clear n0_ n1_ n2_ n3_; (try clear hb); (try clear hb2); (try clear hk); (try clear hi); (try clear ho0); have hcz40_0 : w39.cell? ⟨gb300, 0, none⟩ = some (.int .i8 a0_0) := (blk_cell BK300.out 0).trans rfl; have hcz40_1 : w39.cell? ⟨gb300, 1, none⟩ = some (.int .i8 a0_1) := (blk_cell BK300.out 1).trans rfl; have hcz40_2 : w39.cell? ⟨gb300, 2, none⟩ = some (.slice A0_2 l0_2.length c0_2) := (blk_cell BK300.out 2).trans rfl; have hfz40_0 := blk_frozen BK300.out 0; have hfz40_1 := blk_frozen BK300.out 1; have hfz40_2 := blk_frozen BK300.out 2) | ((with_reducible refine gate_callee (f := 8) rfl ?_); refine goesL_ (some 26) rfl rfl Try.func8 (by kernel_rfl) rfl #[.agg #[.int .i8 a0_0, .int .i8 a0_1, .slice A0_2 l0_2.length c0_2]] rfl (by (try simp only [List.map_toArray, List.map_cons, List.map_nil]); first | done | rfl | (simp only [List.length_drop, List.length_take]; rfl)) ?_; (with_reducible refine (laws_toBoard.calls k a0_0 a0_1 _ _ l0_2 t311 t312 t313 _ ?side1 ?side2 A9.out).mono ?_); (case side1 => repeat (first | exact (Kd.C_below HR0_2.out HB.out) | (with_reducible refine Kd.C_alloc ?_ _) | (with_reducible refine Kd.C_drewN ?_ _) | (with_reducible refine Kd.C_drew ?_))); (case side2 => exact HC0_2.out); rintro e w41 ⟨v314, rfl, ho0, hb⟩; refine ⟨_, rfl, ?_⟩; have n0_ := Aside0.mk (Kd.R_elder' (by (with_reducible repeat (first | apply Kd.R_alloc | apply Kd.R_drewN | apply Kd.R_drew)); exact HO306.out) (Kd.R_base ho0) hb); have n1_ := Aside0.mk (Kd.R_below (by (with_reducible repeat (first | apply Kd.R_alloc | apply Kd.R_drewN | apply Kd.R_drew)); exact HO309.out) hb); have n2_ := Aside0.mk (Kd.R_lower (Kd.R_new' ho0 (Kd.R_lt (by (with_reducible repeat (first | apply Kd.R_alloc | apply Kd.R_drewN | apply Kd.R_drew)); exact HO306.out))) (below_size (by repeat (first | (with_reducible first | exact HB.out | apply below_alloc | apply pw_below_drewN | apply below_drew1 | refine below_set ?_ GE300.out) | exact HB.out)))); have n3_ := Aside0.mk (blk_below (g := gb300) (o := .cells #[.int .i8 a0_0, .int .i8 a0_1, .slice A0_2 l0_2.length c0_2] 25 (0, 0)) (by (with_reducible repeat (first | refine blk_drewN ?_ _ | refine blk_drew ?_ | refine blk_alloc ?_ _)); exact BK300.out) hb); have n4_ := Aside0.mk (below_step (by repeat (first | (with_reducible first | exact HB.out | apply below_alloc | apply pw_below_drewN | apply below_drew1 | refine below_set ?_ GE300.out) | exact HB.out)) hb); clear HO306; clear HO309; clear BK300; clear HB; have HO306 := n0_; have HO309 := n1_; have HO315 := n2_; have BK300 := n3_; have HB := n4_; clear n0_ n1_ n2_ n3_ n4_; (try clear hb); (try clear hb2); (try clear hk); (try clear hi); (try clear ho0)) | ((with_reducible refine gate_dst (N := 6) rfl ?_); refine box_event ?hg (N := 6) ?hd (cs := #[.int .i8 0, .int .i8 0, .slice none 0 0]) (t := 30) ?hr ?_; (case hd => rfl); (case hg => rfl); (case hr => first | (go_simp; done) | (go_simp; rfl)); intro gb316 hg w42 hbox hb; have n0_ := Aside0.mk (Kd.R_below (by (with_reducible repeat (first | apply Kd.R_alloc | apply Kd.R_drewN | apply Kd.R_drew)); exact HO306.out) hb); have n1_ := Aside0.mk (Kd.R_below (by (with_reducible repeat (first | apply Kd.R_alloc | apply Kd.R_drewN | apply Kd.R_drew)); exact HO309.out) hb); have n2_ := Aside0.mk (Kd.R_below (by (with_reducible repeat (first | apply Kd.R_alloc | apply Kd.R_drewN | apply Kd.R_drew)); exact HO315.out) hb); have n3_ := Aside0.mk (blk_below (g := gb300) (o := .cells #[.int .i8 a0_0, .int .i8 a0_1, .slice A0_2 l0_2.length c0_2] 25 (0, 0)) (by (with_reducible repeat (first | refine blk_drewN ?_ _ | refine blk_drew ?_ | refine blk_alloc ?_ _)); exact BK300.out) hb); have n4_ := Aside0.mk (below_step (by repeat (first | (with_reducible first | exact HB.out | apply below_alloc | apply pw_below_drewN | apply below_drew1 | refine below_set ?_ GE300.out) | exact HB.out)) hb); have n5_ := Aside0.mk (hbox); have n6_ := Aside0.mk ((by rw [hg]; exact (below_size (by repeat (first | (with_reducible first | exact HB.out | apply below_alloc | apply pw_below_drewN | apply below_drew1 | refine below_set ?_ GE300.out) | exact HB.out))) : w.heap.size ≤ gb316)); have n7_ := Aside0.mk ((by rw [hg]; exact (below_size (by repeat (first | (with_reducible first | exact HB.out | apply below_alloc | apply pw_below_drewN | apply below_drew1 | refine below_set ?_ GE300.out) | exact HB.out))) : w.heap.size ≤ gb316)); have n8_ := Aside0.mk ((by rw [hg]; exact Nat.ne_of_lt (blk_lt (g := gb300) (o := .cells #[.int .i8 a0_0, .int .i8 a0_1, .slice A0_2 l0_2.length c0_2] 25 (0, 0)) (by (with_reducible repeat (first | refine blk_drewN ?_ _ | refine blk_drew ?_ | refine blk_alloc ?_ _)); exact BK300.out)) : gb300 ≠ gb316)); have n9_ := Aside0.mk ((by rw [hg]; exact Nat.ne_of_gt (blk_lt (g := gb300) (o := .cells #[.int .i8 a0_0, .int .i8 a0_1, .slice A0_2 l0_2.length c0_2] 25 (0, 0)) (by (with_reducible repeat (first | refine blk_drewN ?_ _ | refine blk_drew ?_ | refine blk_alloc ?_ _)); exact BK300.out)) : gb316 ≠ gb300)); clear HO306; clear HO309; clear HO315; clear BK300; clear HB; have HO306 := n0_; have HO309 := n1_; have HO315 := n2_; have BK300 := n3_; have HB := n4_; have BK316 := n5_; have GW316 := n6_; have GE316 := n7_; have NB300_316 := n8_; have NB316_300 := n9_; clear n0_ n1_ n2_ n3_ n4_ n5_ n6_ n7_ n8_ n9_; clear hb hbox hg; have hnb43 := NB316_300.out; have hnc43 := NB300_316.out; have hcz44_0 : w42.cell? ⟨gb316, 0, none⟩ = some (.int .i8 0) := (blk_cell BK316.out 0).trans rfl; have hcz44_1 : w42.cell? ⟨gb316, 1, none⟩ = some (.int .i8 0) := (blk_cell BK316.out 1).trans rfl; have hcz44_2 : w42.cell? ⟨gb316, 2, none⟩ = some (.slice none 0 0) := (blk_cell BK316.out 2).trans rfl; have hfz44_0 := blk_frozen BK316.out 0; have hfz44_1 := blk_frozen BK316.out 1; have hfz44_2 := blk_frozen BK316.out 2; obtain ⟨Ao45, co45, eo45⟩ := Kd.R_slice HO315.out; subst eo45) | ((with_reducible refine gate_callee (f := 20) rfl ?_); refine goesL_ (some 29) rfl rfl Try.func20 (by kernel_rfl) rfl #[.agg #[.int .i8 t311, .int .i8 t312, .slice Ao45 t313.length co45]] rfl (by (try simp only [List.map_toArray, List.map_cons, List.map_nil]); first | done | rfl | (simp only [List.length_drop, List.length_take]; rfl)) ?_; (with_reducible refine (impl_NeverHit.calls k t311 t312 _ _ t313 t317 t320 _ ?side1 ?side2 A10.out).mono ?_); (case side1 => refine (Kd.R_reads' (e := 62) (base := w.heap.size) (ok := fun k_ => (True ∧ some k_ ≠ (.slice Ao38 t304.length co38 : Value).ownBlock)) (n := t313.length) (c := co45) ?_).2.2; exact (by (with_reducible repeat (first | apply Kd.R_alloc | apply Kd.R_drewN | apply Kd.R_drew)); exact (Kd.R_mono (Kd.R_far (p := ⟨gb316, 2, none⟩) (Kd.R_far (p := ⟨gb316, 1, none⟩) (Kd.R_far (p := ⟨gb316, 0, none⟩) (Kd.R_types HO315.out BK316.out (by decide)) (fun _ hk => hk.2) (.int .i8 t311)) (fun _ hk => hk.2) (.int .i8 t312)) (fun _ hk => hk.2) (.slice Ao45 t313.length co45)) (fun _ h_ => h_.1)))); (case side2 => exact (Kd.R_reads' HO315.out).2.1); rintro e w46 ⟨v318, rfl, ho0, hb⟩; refine ⟨_, rfl, ?_⟩; have n0_ := Aside0.mk (Kd.R_below (by (with_reducible repeat (first | apply Kd.R_alloc | apply Kd.R_drewN | apply Kd.R_drew)); exact (Kd.R_mono (Kd.R_far (p := ⟨gb316, 2, none⟩) (Kd.R_far (p := ⟨gb316, 1, none⟩) (Kd.R_far (p := ⟨gb316, 0, none⟩) (Kd.R_types HO306.out BK316.out (by decide)) (fun _ hk => hk.2) (.int .i8 t311)) (fun _ hk => hk.2) (.int .i8 t312)) (fun _ hk => hk.2) (.slice Ao45 t313.length co45)) (fun _ h_ => h_.1))) hb); have n1_ := Aside0.mk (Kd.R_elder' (by (with_reducible repeat (first | apply Kd.R_alloc | apply Kd.R_drewN | apply Kd.R_drew)); exact (Kd.R_mono (Kd.R_far (p := ⟨gb316, 2, none⟩) (Kd.R_far (p := ⟨gb316, 1, none⟩) (Kd.R_far (p := ⟨gb316, 0, none⟩) (Kd.R_types HO309.out BK316.out (by decide)) (fun _ hk => hk.2) (.int .i8 t311)) (fun _ hk => hk.2) (.int .i8 t312)) (fun _ hk => hk.2) (.slice Ao45 t313.length co45)) (fun _ h_ => h_.1))) (Kd.R_base ho0) hb); have n2_ := Aside0.mk (Kd.R_below (by (with_reducible repeat (first | apply Kd.R_alloc | apply Kd.R_drewN | apply Kd.R_drew)); exact (Kd.R_mono (Kd.R_far (p := ⟨gb316, 2, none⟩) (Kd.R_far (p := ⟨gb316, 1, none⟩) (Kd.R_far (p := ⟨gb316, 0, none⟩) (Kd.R_types HO315.out BK316.out (by decide)) (fun _ hk => hk.2) (.int .i8 t311)) (fun _ hk => hk.2) (.int .i8 t312)) (fun _ hk => hk.2) (.slice Ao45 t313.length co45)) (fun _ h_ => h_.1))) hb); have n3_ := Aside0.mk (Kd.R_lower (Kd.R_new' ho0 (Kd.R_lt (by (with_reducible repeat (first | apply Kd.R_alloc | apply Kd.R_drewN | apply Kd.R_drew)); exact (Kd.R_mono (Kd.R_far (p := ⟨gb316, 2, none⟩) (Kd.R_far (p := ⟨gb316, 1, none⟩) (Kd.R_far (p := ⟨gb316, 0, none⟩) (Kd.R_types HO309.out BK316.out (by decide)) (fun _ hk => hk.2) (.int .i8 t311)) (fun _ hk => hk.2) (.int .i8 t312)) (fun _ hk => hk.2) (.slice Ao45 t313.length co45)) (fun _ h_ => h_.1))))) (below_size (by repeat (first | (with_reducible first | exact HB.out | apply below_alloc | apply pw_below_drewN | apply below_drew1 | refine below_set ?_ GE300.out | refine below_set ?_ GE316.out) | exact HB.out)))); have n4_ := Aside0.mk (blk_below (g := gb300) (o := .cells #[.int .i8 a0_0, .int .i8 a0_1, .slice A0_2 l0_2.length c0_2] 25 (0, 0)) (by (with_reducible repeat (first | refine blk_drewN ?_ _ | refine blk_drew ?_ | refine blk_alloc ?_ _)); refine blk_far ?_ NB300_316.out _; (with_reducible repeat (first | refine blk_drewN ?_ _ | refine blk_drew ?_ | refine blk_alloc ?_ _)); refine blk_far ?_ NB300_316.out _; (with_reducible repeat (first | refine blk_drewN ?_ _ | refine blk_drew ?_ | refine blk_alloc ?_ _)); refine blk_far ?_ NB300_316.out _; (with_reducible repeat (first | refine blk_drewN ?_ _ | refine blk_drew ?_ | refine blk_alloc ?_ _)); exact BK300.out) hb); have n5_ := Aside0.mk (blk_below (g := gb316) (o := .cells #[.int .i8 t311, .int .i8 t312, .slice Ao45 t313.length co45] 30 (0, 0)) (by (with_reducible repeat (first | refine blk_drewN ?_ _ | refine blk_drew ?_ | refine blk_alloc ?_ _)); refine blk_put (cs := #[.int .i8 t311, .int .i8 t312, .slice none 0 0]) ?_ 2 _ rfl; (with_reducible repeat (first | refine blk_drewN ?_ _ | refine blk_drew ?_ | refine blk_alloc ?_ _)); refine blk_put (cs := #[.int .i8 t311, .int .i8 0, .slice none 0 0]) ?_ 1 _ rfl; (with_reducible repeat (first | refine blk_drewN ?_ _ | refine blk_drew ?_ | refine blk_alloc ?_ _)); refine blk_put (cs := #[.int .i8 0, .int .i8 0, .slice none 0 0]) ?_ 0 _ rfl; (with_reducible repeat (first | refine blk_drewN ?_ _ | refine blk_drew ?_ | refine blk_alloc ?_ _)); exact BK316.out) hb); have n6_ := Aside0.mk (below_step (by repeat (first | (with_reducible first | exact HB.out | apply below_alloc | apply pw_below_drewN | apply below_drew1 | refine below_set ?_ GE300.out | refine below_set ?_ GE316.out) | exact HB.out)) hb); clear HO306; clear HO309; clear HO315; clear BK300; clear BK316; clear HB; have HO306 := n0_; have HO309 := n1_; have HO315 := n2_; have HO319 := n3_; have BK300 := n4_; have BK316 := n5_; have HB := n6_; clear n0_ n1_ n2_ n3_ n4_ n5_ n6_; (try clear hb); (try clear hb2); (try clear hk); (try clear hi); (try clear ho0); obtain ⟨Ao47, co47, eo47⟩ := Kd.R_slice HO319.out; subst eo47; obtain ⟨Ao48, co48, eo48⟩ := Kd.R_slice HO309.out; subst eo48) | ((with_reducible refine gate_callee (f := 21) rfl ?_); refine goesL_ (some 34) rfl rfl Try.func21 (by kernel_rfl) rfl #[.slice Ao47 t317.length co47, .slice Ao48 t307.length co48] rfl (by (try simp only [List.map_toArray, List.map_cons, List.map_nil]); first | done | rfl | (simp only [List.length_drop, List.length_take]; rfl)) ?_; (with_reducible refine (laws_eqInt64S.calls k _ _ t317 _ _ t307 true _ ?side1 ?side2 ?side3 ?side4 A11.out).mono ?_); (case side1 => repeat (first | exact (Kd.R_reads' HO319.out).2.2 | (with_reducible refine Kd.C_alloc ?_ _) | (with_reducible refine Kd.C_drewN ?_ _) | (with_reducible refine Kd.C_drew ?_))); (case side2 => exact (Kd.R_reads' HO319.out).2.1); (case side3 => repeat (first | exact (Kd.R_reads' HO309.out).2.2 | (with_reducible refine Kd.C_alloc ?_ _) | (with_reducible refine Kd.C_drewN ?_ _) | (with_reducible refine Kd.C_drew ?_))); (case side4 => exact (Kd.R_reads' HO309.out).2.1); rintro e w' ⟨rfl, ⟨nd, rfl⟩⟩; refine ⟨_, rfl, ?_⟩))
                          (try (rw [drewN_self w46]; generalize hq_ : World.drewN w46 _ = w46; have n0_ : Aside0 (Kd.R k62 62 w46 w.heap.size (fun k_ => some k_ ≠ (.slice Ao45 t313.length co45 : Value).ownBlock) (.slice Ao38 t304.length co38) t304) := ⟨by rw [← hq_]; exact (by (with_reducible repeat (first | apply Kd.R_alloc | apply Kd.R_drewN | apply Kd.R_drew)); exact Kd.R_mono HO306.out (fun _ hk => hk.2))⟩; have n1_ : Aside0 (Kd.R (Kd.int .i64) 2 w46 w.heap.size (fun k_ => some k_ ≠ (.slice Ao47 t317.length co47 : Value).ownBlock) (.slice Ao48 t307.length co48) t307) := ⟨by rw [← hq_]; exact (by (with_reducible repeat (first | apply Kd.R_alloc | apply Kd.R_drewN | apply Kd.R_drew)); exact Kd.R_mono HO309.out (fun _ hk => hk.2))⟩; have n2_ : Aside0 (Kd.R k62 62 w46 w.heap.size (fun k_ => some k_ ≠ (.slice Ao38 t304.length co38 : Value).ownBlock) (.slice Ao45 t313.length co45) t313) := ⟨by rw [← hq_]; exact (by (with_reducible repeat (first | apply Kd.R_alloc | apply Kd.R_drewN | apply Kd.R_drew)); exact Kd.R_mono HO315.out (fun _ hk => hk.2))⟩; have n3_ : Aside0 (Kd.R (Kd.int .i64) 2 w46 w.heap.size (fun k_ => some k_ ≠ (.slice Ao48 t307.length co48 : Value).ownBlock) (.slice Ao47 t317.length co47) t317) := ⟨by rw [← hq_]; exact (by (with_reducible repeat (first | apply Kd.R_alloc | apply Kd.R_drewN | apply Kd.R_drew)); exact Kd.R_mono HO319.out (fun _ hk => hk.2))⟩; have n4_ : Aside0 (w46.heap[gb300]? = some (.cells #[.int .i8 a0_0, .int .i8 a0_1, .slice A0_2 l0_2.length c0_2] 25 (0, 0))) := ⟨by rw [← hq_]; exact (by (with_reducible repeat (first | refine blk_drewN ?_ _ | refine blk_drew ?_ | refine blk_alloc ?_ _)); exact BK300.out)⟩; have n5_ : Aside0 (w46.heap[gb316]? = some (.cells #[.int .i8 t311, .int .i8 t312, .slice Ao45 t313.length co45] 30 (0, 0))) := ⟨by rw [← hq_]; exact (by (with_reducible repeat (first | refine blk_drewN ?_ _ | refine blk_drew ?_ | refine blk_alloc ?_ _)); exact BK316.out)⟩; have n6_ : Aside0 (Below w.heap.size w w46) := ⟨by rw [← hq_]; exact (by repeat (first | (with_reducible first | exact HB.out | apply below_alloc | apply pw_below_drewN | apply below_drew1 | refine below_set ?_ GE300.out | refine below_set ?_ GE316.out) | exact HB.out))⟩; clear HO306 HO309 HO315 HO319 BK300 BK316 HB hq_; have HO306 := n0_; have HO309 := n1_; have HO315 := n2_; have HO319 := n3_; have BK300 := n4_; have BK316 := n5_; have HB := n6_; clear n0_ n1_ n2_ n3_ n4_ n5_ n6_))
                          have n0_ := Aside0.mk (Kd.R_drew HO306.out)
                          have n1_ := Aside0.mk (Kd.R_drew HO309.out)
                          have n2_ := Aside0.mk (Kd.R_drew HO315.out)
                          have n3_ := Aside0.mk (Kd.R_drew HO319.out)
                          have n4_ := Aside0.mk (blk_drew BK300.out)
                          have n5_ := Aside0.mk (blk_drew BK316.out)
                          have n6_ := Aside0.mk (below_drew1 HB.out)
                          clear HO306
                          clear HO309
                          clear HO315
                          clear HO319
                          clear BK300
                          clear BK316
                          clear HB
                          have HO306 := n0_
                          have HO309 := n1_
                          have HO315 := n2_
                          have HO319 := n3_
                          have BK300 := n4_
                          have BK316 := n5_
                          have HB := n6_
                          clear n0_ n1_ n2_ n3_ n4_ n5_ n6_
                          refine start_ (n := 5) (S := fun w' => w'.cell? ⟨gb316, 0, none⟩ = some (.int .i8 t311) ∧ w'.cell? ⟨gb316, 1, none⟩ = some (.int .i8 t312) ∧ w'.cell? ⟨gb316, 2, none⟩ = some (.slice Ao45 t313.length co45) ∧ w'.cell? ⟨gb300, 0, none⟩ = some (.int .i8 a0_0) ∧ w'.cell? ⟨gb300, 1, none⟩ = some (.int .i8 a0_1) ∧ w'.cell? ⟨gb300, 2, none⟩ = some (.slice A0_2 l0_2.length c0_2)) (ds := []) #[false, false, false, false, false] (by kernel_rfl) rfl rfl ⟨(blk_cell BK316.out 0).trans rfl, (blk_cell BK316.out 1).trans rfl, (blk_cell BK316.out 2).trans rfl, (blk_cell BK300.out 0).trans rfl, (blk_cell BK300.out 1).trans rfl, (blk_cell BK300.out 2).trans rfl⟩ (fun hHeld => ?_)
                          generalize w46.drew = w49 at HO306 HO309 HO315 HO319 BK300 BK316 HB hHeld ⊢
                          refine take_ (i := 0) (N := some 41) (v := ?_) (a' := ?_) #[true, false, false, false, false] rfl rfl (by kernel_rfl) (fun _ _ _ h => h) (Or.inl ⟨by rfl, ?_⟩) hHeld ?_ ?_
                          rotate_left
                          · rintro w' ⟨s0, s1, s2, s3, s4, s5⟩
                            go_simp
                            with_reducible rfl
                          rotate_left
                          · simp only [Act.put, List.setIfInBounds_toArray, List.set_cons_zero, List.set_cons_succ, i64_w, i32_w]
                            rfl
                          refine take_ (i := 1) (N := some 42) (v := ?_) (a' := ?_) #[true, true, false, false, false] rfl rfl (by kernel_rfl) (fun _ _ _ h => h) (Or.inl ⟨by rfl, ?_⟩) hHeld ?_ ?_
                          rotate_left
                          · rintro w' ⟨s0, s1, s2, s3, s4, s5⟩
                            go_simp
                            with_reducible rfl
                          rotate_left
                          · simp only [Act.put, List.setIfInBounds_toArray, List.set_cons_zero, List.set_cons_succ, i64_w, i32_w]
                            rfl
                          refine one_ (i := 2) (N := some 43) #[true, true, true, false, false] rfl rfl (by kernel_rfl) (by decide) (fun K hK => ?_)
                          refine goes_ Try.func8 (by kernel_rfl) rfl #[.agg #[.int .i8 a0_0, .int .i8 a0_1, .slice A0_2 l0_2.length c0_2]] (by rfl) rfl rfl (by (try simp only [List.map_toArray, List.map_cons, List.map_nil]); first | done | rfl | (simp only [List.length_drop, List.length_take]; rfl)) ?_
                          with_reducible refine (laws_toBoard.calls k a0_0 a0_1 _ _ l0_2 t322 t323 t324 _ ?side1 ?side2 A14.out).mono ?_
                          (case side1 => repeat (first | exact (Kd.C_below HR0_2.out HB.out) | (with_reducible refine Kd.C_alloc ?_ _) | (with_reducible refine Kd.C_drewN ?_ _) | (with_reducible refine Kd.C_drew ?_)))
                          (case side2 => exact HC0_2.out)
                          rintro e w50 ⟨v325, rfl, ho0, hb⟩
                          refine ⟨_, rfl, ?_⟩
                          have n0_ := Aside0.mk (Kd.R_elder' (by (with_reducible repeat (first | apply Kd.R_alloc | apply Kd.R_drewN | apply Kd.R_drew)); exact HO306.out) (Kd.R_base ho0) hb)
                          have n1_ := Aside0.mk (Kd.R_below (by (with_reducible repeat (first | apply Kd.R_alloc | apply Kd.R_drewN | apply Kd.R_drew)); exact HO309.out) hb)
                          have n2_ := Aside0.mk (Kd.R_elder' (by (with_reducible repeat (first | apply Kd.R_alloc | apply Kd.R_drewN | apply Kd.R_drew)); exact HO315.out) (Kd.R_base ho0) hb)
                          have n3_ := Aside0.mk (Kd.R_below (by (with_reducible repeat (first | apply Kd.R_alloc | apply Kd.R_drewN | apply Kd.R_drew)); exact HO319.out) hb)
                          have n4_ := Aside0.mk (Kd.R_lower (Kd.R_new' (Kd.R_new' ho0 (Kd.R_lt (by (with_reducible repeat (first | apply Kd.R_alloc | apply Kd.R_drewN | apply Kd.R_drew)); exact HO306.out))) (Kd.R_lt (by (with_reducible repeat (first | apply Kd.R_alloc | apply Kd.R_drewN | apply Kd.R_drew)); exact HO315.out))) (below_size (by repeat (first | (with_reducible first | exact HB.out | apply below_alloc | apply pw_below_drewN | apply below_drew1 | refine below_set ?_ GE300.out | refine below_set ?_ GE316.out) | exact HB.out))))
                          have n5_ := Aside0.mk (blk_below (g := gb300) (o := .cells #[.int .i8 a0_0, .int .i8 a0_1, .slice A0_2 l0_2.length c0_2] 25 (0, 0)) (by (with_reducible repeat (first | refine blk_drewN ?_ _ | refine blk_drew ?_ | refine blk_alloc ?_ _)); exact BK300.out) hb)
                          have n6_ := Aside0.mk (blk_below (g := gb316) (o := .cells #[.int .i8 t311, .int .i8 t312, .slice Ao45 t313.length co45] 30 (0, 0)) (by (with_reducible repeat (first | refine blk_drewN ?_ _ | refine blk_drew ?_ | refine blk_alloc ?_ _)); exact BK316.out) hb)
                          have n7_ := Aside0.mk (below_step (by repeat (first | (with_reducible first | exact HB.out | apply below_alloc | apply pw_below_drewN | apply below_drew1 | refine below_set ?_ GE300.out | refine below_set ?_ GE316.out) | exact HB.out)) hb)
                          clear HO306
                          clear HO309
                          clear HO315
                          clear HO319
                          clear BK300
                          clear BK316
                          clear HB
                          have HO306 := n0_
                          have HO309 := n1_
                          have HO315 := n2_
                          have HO319 := n3_
                          have HO326 := n4_
                          have BK300 := n5_
                          have BK316 := n6_
                          have HB := n7_
                          clear n0_ n1_ n2_ n3_ n4_ n5_ n6_ n7_
                          (try clear hb)
                          (try clear hb2)
                          (try clear hk)
                          (try clear hi)
                          (try clear ho0)
                          obtain ⟨Ao51, co51, eo51⟩ := Kd.R_slice HO326.out
                          (first | subst eo51 | (injection eo51 with f1_ f2_ f3_; have f4_ := f1_.symm; have f5_ := f3_.symm; clear f1_ f2_ f3_; subst f4_; subst f5_))
                          refine hK.out _ _ ⟨(blk_cell BK316.out 0).trans rfl, (blk_cell BK316.out 1).trans rfl, (blk_cell BK316.out 2).trans rfl, (blk_cell BK300.out 0).trans rfl, (blk_cell BK300.out 1).trans rfl, (blk_cell BK300.out 2).trans rfl⟩ (fun hHeld => ?_)
                          clear hK K
                          refine norm_ (a' := ?_) ?_ ?_
                          rotate_left
                          · show Act.put _ (some 43) _ = _
                            simp only [Act.put, List.setIfInBounds_toArray, List.set_cons_zero, List.set_cons_succ, i64_w, i32_w]
                            rfl
                          refine one_ (i := 3) (N := some 44) #[true, true, true, true, false] rfl rfl (by kernel_rfl) (by decide) (fun K hK => ?_)
                          refine goes_ Try.func11 (by kernel_rfl) rfl #[.agg #[.int .i8 t311, .int .i8 t312, .slice Ao45 t313.length co45], .agg #[.int .i8 t322, .int .i8 t323, .slice Ao51 t324.length co51]] (by rfl) rfl rfl (by (try simp only [List.map_toArray, List.map_cons, List.map_nil]); first | done | rfl | (simp only [List.length_drop, List.length_take]; rfl)) ?_
                          with_reducible refine (laws_eqBoard.calls k t311 t312 _ _ t313 t322 t323 _ _ t324 true _ ?side1 ?side2 ?side3 ?side4 A15.out).mono ?_
                          (case side1 => repeat (first | exact (Kd.R_reads' HO315.out).2.2 | (with_reducible refine Kd.C_alloc ?_ _) | (with_reducible refine Kd.C_drewN ?_ _) | (with_reducible refine Kd.C_drew ?_)))
                          (case side2 => exact (Kd.R_reads' HO315.out).2.1)
                          (case side3 => repeat (first | exact (Kd.R_reads' HO326.out).2.2 | (with_reducible refine Kd.C_alloc ?_ _) | (with_reducible refine Kd.C_drewN ?_ _) | (with_reducible refine Kd.C_drew ?_)))
                          (case side4 => exact (Kd.R_reads' HO326.out).2.1)
                          rintro e w52 ⟨rfl, hb⟩
                          refine ⟨_, rfl, ?_⟩
                          have n0_ := Aside0.mk (Kd.R_below (by (with_reducible repeat (first | apply Kd.R_alloc | apply Kd.R_drewN | apply Kd.R_drew)); exact HO306.out) hb)
                          have n1_ := Aside0.mk (Kd.R_below (by (with_reducible repeat (first | apply Kd.R_alloc | apply Kd.R_drewN | apply Kd.R_drew)); exact HO309.out) hb)
                          have n2_ := Aside0.mk (Kd.R_below (by (with_reducible repeat (first | apply Kd.R_alloc | apply Kd.R_drewN | apply Kd.R_drew)); exact HO315.out) hb)
                          have n3_ := Aside0.mk (Kd.R_below (by (with_reducible repeat (first | apply Kd.R_alloc | apply Kd.R_drewN | apply Kd.R_drew)); exact HO319.out) hb)
                          have n4_ := Aside0.mk (Kd.R_below (by (with_reducible repeat (first | apply Kd.R_alloc | apply Kd.R_drewN | apply Kd.R_drew)); exact HO326.out) hb)
                          have n5_ := Aside0.mk (blk_below (g := gb300) (o := .cells #[.int .i8 a0_0, .int .i8 a0_1, .slice A0_2 l0_2.length c0_2] 25 (0, 0)) (by (with_reducible repeat (first | refine blk_drewN ?_ _ | refine blk_drew ?_ | refine blk_alloc ?_ _)); exact BK300.out) hb)
                          have n6_ := Aside0.mk (blk_below (g := gb316) (o := .cells #[.int .i8 t311, .int .i8 t312, .slice Ao45 t313.length co45] 30 (0, 0)) (by (with_reducible repeat (first | refine blk_drewN ?_ _ | refine blk_drew ?_ | refine blk_alloc ?_ _)); exact BK316.out) hb)
                          have n7_ := Aside0.mk (below_step (by repeat (first | (with_reducible first | exact HB.out | apply below_alloc | apply pw_below_drewN | apply below_drew1 | refine below_set ?_ GE300.out | refine below_set ?_ GE316.out) | exact HB.out)) hb)
                          clear HO306
                          clear HO309
                          clear HO315
                          clear HO319
                          clear HO326
                          clear BK300
                          clear BK316
                          clear HB
                          have HO306 := n0_
                          have HO309 := n1_
                          have HO315 := n2_
                          have HO319 := n3_
                          have HO326 := n4_
                          have BK300 := n5_
                          have BK316 := n6_
                          have HB := n7_
                          clear n0_ n1_ n2_ n3_ n4_ n5_ n6_ n7_
                          (try clear hb)
                          (try clear hb2)
                          (try clear hk)
                          (try clear hi)
                          refine hK.out _ _ ⟨(blk_cell BK316.out 0).trans rfl, (blk_cell BK316.out 1).trans rfl, (blk_cell BK316.out 2).trans rfl, (blk_cell BK300.out 0).trans rfl, (blk_cell BK300.out 1).trans rfl, (blk_cell BK300.out 2).trans rfl⟩ (fun hHeld => ?_)
                          clear hK K
                          refine norm_ (a' := ?_) ?_ ?_
                          rotate_left
                          · show Act.put _ (some 44) _ = _
                            simp only [Act.put, List.setIfInBounds_toArray, List.set_cons_zero, List.set_cons_succ, i64_w, i32_w]
                            rfl
                          refine pure_ (i := 4) (N := some 45) (v := ?_) (a' := ?_) #[true, true, true, true, true] rfl rfl (by kernel_rfl) (fun _ _ _ h => h) (Or.inl ⟨by rfl, ?_⟩) ?_ ?_
                          rotate_left
                          · intro w'
                            go_simp
                            with_reducible rfl
                          rotate_left
                          · simp only [Act.put, List.setIfInBounds_toArray, List.set_cons_zero, List.set_cons_succ, i64_w, i32_w]
                            rfl
                          refine done_ (by kernel_rfl) ?_
                          have hcz53_0 : w52.cell? ⟨gb316, 0, none⟩ = some (.int .i8 t311) := (blk_cell BK316.out 0).trans rfl
                          have hcz53_1 : w52.cell? ⟨gb316, 1, none⟩ = some (.int .i8 t312) := (blk_cell BK316.out 1).trans rfl
                          have hcz53_2 : w52.cell? ⟨gb316, 2, none⟩ = some (.slice Ao45 t313.length co45) := (blk_cell BK316.out 2).trans rfl
                          have hfz53_0 := blk_frozen BK316.out 0
                          have hfz53_1 := blk_frozen BK316.out 1
                          have hfz53_2 := blk_frozen BK316.out 2
                          try go_wp2_with (first | ((with_reducible refine gate_callee (f := 12) rfl ?_); refine goesL_ (some 48) rfl rfl Try.func12 (by kernel_rfl) rfl #[.agg #[.int .i8 t311, .int .i8 t312, .slice Ao45 t313.length co45], .int .i64 1] rfl (by (try simp only [List.map_toArray, List.map_cons, List.map_nil]); first | done | rfl | (simp only [List.length_drop, List.length_take]; rfl)) ?_; (with_reducible refine (laws_markBoard.calls k t311 t312 (fun k_ => some k_ = (.slice Ao45 t313.length co45 : Value).ownBlock) (.slice Ao45 t313.length co45) t313 1 t328 t329 w _ ?side1 ?side2 A17.out).mono ?_); (case side1 => repeat (first | (with_reducible first | exact HB.out | apply below_alloc | apply pw_below_drewN | apply below_drew1 | refine below_set ?_ GE300.out | refine below_set ?_ GE316.out) | exact HB.out)); (case side2 => exact Kd.R_tight rfl HO315.out); rintro e w54 ⟨rfl, hy0, hb, hkp⟩; refine ⟨_, rfl, ?_⟩; have n0_ := Aside0.mk (blk_kept (by (with_reducible repeat (first | refine blk_drewN ?_ _ | refine blk_drew ?_ | refine blk_alloc ?_ _)); exact BK300.out) hkp (fun hs_ => (fun e_ => (Kd.R_ne HO315.out BK300.out (by decide)) e_) hs_)); have n1_ := Aside0.mk (Kd.R_mono (ok' := fun k_ => some k_ ≠ (.slice Ao45 t313.length co45 : Value).ownBlock ∧ some k_ ≠ (.slice Ao51 t324.length co51 : Value).ownBlock) (Kd.R_keptB (HO306.out) hkp (fun k_ hk_ hs_ => (hk_.1) hs_)) (fun k_ hk_ => ⟨hk_.1.1, hk_.1.2⟩)); have n2_ := Aside0.mk (Kd.R_mono (ok' := fun k_ => some k_ ≠ (.slice Ao47 t317.length co47 : Value).ownBlock) (Kd.R_keptB ((Kd.R_apart' HO309.out (Kd.R_typed HO315.out) (by decide))) hkp (fun k_ hk_ hs_ => (hk_.2) hs_)) (fun k_ hk_ => hk_.1.1)); have n3_ := Aside0.mk (Kd.R_reok rfl hy0 (fun k_ e_ => HO315.out.1 k_ e_)); have n4_ := Aside0.mk (blk_kept (by (with_reducible repeat (first | refine blk_drewN ?_ _ | refine blk_drew ?_ | refine blk_alloc ?_ _)); exact BK316.out) hkp (fun hs_ => (fun e_ => (Kd.R_ne HO315.out BK316.out (by decide)) e_) hs_)); have n5_ := Aside0.mk (Kd.R_mono (ok' := fun k_ => some k_ ≠ (.slice Ao48 t307.length co48 : Value).ownBlock) (Kd.R_keptB ((Kd.R_apart' HO319.out (Kd.R_typed HO315.out) (by decide))) hkp (fun k_ hk_ hs_ => (hk_.2) hs_)) (fun k_ hk_ => hk_.1.1)); have n6_ := Aside0.mk (Kd.R_mono (ok' := fun k_ => some k_ ≠ (.slice Ao38 t304.length co38 : Value).ownBlock ∧ some k_ ≠ (.slice Ao45 t313.length co45 : Value).ownBlock) (Kd.R_keptB (HO326.out) hkp (fun k_ hk_ hs_ => (hk_.2) hs_)) (fun k_ hk_ => ⟨hk_.1.1.2, hk_.1.2⟩)); have n7_ := Aside0.mk (hb); clear BK300; clear HO306; clear HO309; clear HO315; clear BK316; clear HO319; clear HO326; clear HB; have BK300 := n0_; have HO306 := n1_; have HO309 := n2_; have HO315 := n3_; have BK316 := n4_; have HO319 := n5_; have HO326 := n6_; have HB := n7_; clear n0_ n1_ n2_ n3_ n4_ n5_ n6_ n7_; (try clear hb); (try clear hkp); (try clear hy0)) | (go_at_call 21; (with_reducible refine (laws_eqInt64S.calls k _ _ t317 _ _ t307 true _ ?side1 ?side2 ?side3 ?side4 A19.out).mono ?_); (case side1 => repeat (first | exact (Kd.R_reads' HO319.out).2.2 | (with_reducible refine Kd.C_alloc ?_ _) | (with_reducible refine Kd.C_drewN ?_ _) | (with_reducible refine Kd.C_drew ?_))); (case side2 => exact (Kd.R_reads' HO319.out).2.1); (case side3 => repeat (first | exact (Kd.R_reads' HO309.out).2.2 | (with_reducible refine Kd.C_alloc ?_ _) | (with_reducible refine Kd.C_drewN ?_ _) | (with_reducible refine Kd.C_drew ?_))); (case side4 => exact (Kd.R_reads' HO309.out).2.1); rintro e w' ⟨rfl, ⟨nd, rfl⟩⟩) | ((with_reducible refine gate_callee (f := 22) rfl ?_); refine goesL_ (some 64) rfl rfl Try.func22 (by kernel_rfl) rfl #[.slice Ao47 t317.length co47, .int .i64 1] rfl (by (try simp only [List.map_toArray, List.map_cons, List.map_nil]); first | done | rfl | (simp only [List.length_drop, List.length_take]; rfl)) ?_; (with_reducible refine (laws_markInt64S.calls k (fun k_ => some k_ = (.slice Ao47 t317.length co47 : Value).ownBlock) (.slice Ao47 t317.length co47) t317 1 t331 t332 w _ ?side1 ?side2 A21.out).mono ?_); (case side1 => repeat (first | (with_reducible first | exact HB.out | apply below_alloc | apply pw_below_drewN | apply below_drew1 | refine below_set ?_ GE300.out | refine below_set ?_ GE316.out) | exact HB.out)); (case side2 => exact Kd.R_tight rfl HO319.out); rintro e w55 ⟨rfl, hy0, hb, hkp⟩; refine ⟨_, rfl, ?_⟩; have n0_ := Aside0.mk (blk_kept (by (with_reducible repeat (first | refine blk_drewN ?_ _ | refine blk_drew ?_ | refine blk_alloc ?_ _)); exact BK300.out) hkp (fun hs_ => (fun e_ => (Kd.R_ne HO319.out BK300.out (by decide)) e_) hs_)); have n1_ := Aside0.mk (Kd.R_mono (ok' := fun k_ => some k_ ≠ (.slice Ao45 t313.length co45 : Value).ownBlock ∧ some k_ ≠ (.slice Ao51 t324.length co51 : Value).ownBlock) (Kd.R_keptB ((Kd.R_apart' HO306.out (Kd.R_typed HO319.out) (by decide))) hkp (fun k_ hk_ hs_ => (hk_.2) hs_)) (fun k_ hk_ => ⟨hk_.1.1.1, hk_.1.1.2⟩)); have n2_ := Aside0.mk (Kd.R_mono (ok' := fun k_ => some k_ ≠ (.slice Ao47 t317.length co47 : Value).ownBlock) (Kd.R_keptB (HO309.out) hkp (fun k_ hk_ hs_ => (hk_) hs_)) (fun k_ hk_ => hk_.1)); have n3_ := Aside0.mk (Kd.R_mono (ok' := fun k_ => some k_ ≠ (.slice Ao38 t304.length co38 : Value).ownBlock ∧ some k_ ≠ (.slice Ao51 t324.length co51 : Value).ownBlock) (Kd.R_keptB ((Kd.R_apart' HO315.out (Kd.R_typed HO319.out) (by decide))) hkp (fun k_ hk_ hs_ => (hk_.2) hs_)) (fun k_ hk_ => ⟨hk_.1.1.1, hk_.1.1.2⟩)); have n4_ := Aside0.mk (blk_kept (by (with_reducible repeat (first | refine blk_drewN ?_ _ | refine blk_drew ?_ | refine blk_alloc ?_ _)); exact BK316.out) hkp (fun hs_ => (fun e_ => (Kd.R_ne HO319.out BK316.out (by decide)) e_) hs_)); have n5_ := Aside0.mk (Kd.R_reok rfl hy0 (fun k_ e_ => HO319.out.1 k_ e_)); have n6_ := Aside0.mk (Kd.R_mono (ok' := fun k_ => some k_ ≠ (.slice Ao38 t304.length co38 : Value).ownBlock ∧ some k_ ≠ (.slice Ao45 t313.length co45 : Value).ownBlock) (Kd.R_keptB ((Kd.R_apart' HO326.out (Kd.R_typed HO319.out) (by decide))) hkp (fun k_ hk_ hs_ => (hk_.2) hs_)) (fun k_ hk_ => ⟨hk_.1.1.1, hk_.1.1.2⟩)); have n7_ := Aside0.mk (hb); clear BK300; clear HO306; clear HO309; clear HO315; clear BK316; clear HO319; clear HO326; clear HB; have BK300 := n0_; have HO306 := n1_; have HO309 := n2_; have HO315 := n3_; have BK316 := n4_; have HO319 := n5_; have HO326 := n6_; have HB := n7_; clear n0_ n1_ n2_ n3_ n4_ n5_ n6_ n7_; (try clear hb); (try clear hkp); (try clear hy0)) | ((with_reducible refine gate_callee (f := 23) rfl ?_); refine goesL_ (some 67) rfl rfl Try.func23 (by kernel_rfl) rfl #[.slice Ao47 t332.length co47, .int .i64 1] rfl (by (try simp only [List.map_toArray, List.map_cons, List.map_nil]); first | done | (rw [show t332.length = t317.length from (Kd.R_reads' HO319.out).1.symm] <;> rfl) | rfl | (simp only [List.length_drop, List.length_take]; rfl)) ?_; (with_reducible refine (laws_heldInt64S.calls k _ _ t332 1 t333 _ ?side1 ?side2 A22.out).mono ?_); (case side1 => repeat (first | exact (Kd.R_reads' HO319.out).2.2 | (with_reducible refine Kd.C_alloc ?_ _) | (with_reducible refine Kd.C_drewN ?_ _) | (with_reducible refine Kd.C_drew ?_))); (case side2 => rw [show t332.length = t317.length from (Kd.R_reads' HO319.out).1.symm]; exact (Kd.R_reads' HO319.out).2.1); rintro e w' ⟨rfl, ⟨nd, rfl⟩⟩; refine ⟨_, rfl, ?_⟩; have hcz56_0 : w55.cell? ⟨gb300, 0, none⟩ = some (.int .i8 a0_0) := (blk_cell BK300.out 0).trans rfl; have hcz56_1 : w55.cell? ⟨gb300, 1, none⟩ = some (.int .i8 a0_1) := (blk_cell BK300.out 1).trans rfl; have hcz56_2 : w55.cell? ⟨gb300, 2, none⟩ = some (.slice A0_2 l0_2.length c0_2) := (blk_cell BK300.out 2).trans rfl; have hfz56_0 := blk_frozen BK300.out 0; have hfz56_1 := blk_frozen BK300.out 1; have hfz56_2 := blk_frozen BK300.out 2) | ((with_reducible refine gate_callee (f := 8) rfl ?_); refine goesL_ (some 75) rfl rfl Try.func8 (by kernel_rfl) rfl #[.agg #[.int .i8 a0_0, .int .i8 a0_1, .slice A0_2 l0_2.length c0_2]] rfl (by (try simp only [List.map_toArray, List.map_cons, List.map_nil]); first | done | rfl | (simp only [List.length_drop, List.length_take]; rfl)) ?_; (with_reducible refine (laws_toBoard.calls k a0_0 a0_1 _ _ l0_2 t334 t335 t336 _ ?side1 ?side2 A25.out).mono ?_); (case side1 => repeat (first | exact (Kd.C_below HR0_2.out (by repeat (first | (with_reducible first | exact HB.out | apply below_alloc | apply pw_below_drewN | apply below_drew1 | refine below_set ?_ GE300.out | refine below_set ?_ GE316.out) | exact HB.out))) | (with_reducible refine Kd.C_alloc ?_ _) | (with_reducible refine Kd.C_drewN ?_ _) | (with_reducible refine Kd.C_drew ?_))); (case side2 => exact HC0_2.out); rintro e w57 ⟨v337, rfl, ho0, hb⟩; refine ⟨_, rfl, ?_⟩; have n0_ := Aside0.mk (Kd.R_elder' (by (with_reducible repeat (first | apply Kd.R_alloc | apply Kd.R_drewN | apply Kd.R_drew)); exact HO306.out) (Kd.R_base ho0) hb); have n1_ := Aside0.mk (Kd.R_below (by (with_reducible repeat (first | apply Kd.R_alloc | apply Kd.R_drewN | apply Kd.R_drew)); exact HO309.out) hb); have n2_ := Aside0.mk (Kd.R_elder' (by (with_reducible repeat (first | apply Kd.R_alloc | apply Kd.R_drewN | apply Kd.R_drew)); exact HO315.out) (Kd.R_base ho0) hb); have n3_ := Aside0.mk (Kd.R_below (by (with_reducible repeat (first | apply Kd.R_alloc | apply Kd.R_drewN | apply Kd.R_drew)); exact HO319.out) hb); have n4_ := Aside0.mk (Kd.R_elder' (by (with_reducible repeat (first | apply Kd.R_alloc | apply Kd.R_drewN | apply Kd.R_drew)); exact HO326.out) (Kd.R_base ho0) hb); have n5_ := Aside0.mk (Kd.R_lower (Kd.R_new' (Kd.R_new' (Kd.R_new' ho0 (Kd.R_lt (by (with_reducible repeat (first | apply Kd.R_alloc | apply Kd.R_drewN | apply Kd.R_drew)); exact HO306.out))) (Kd.R_lt (by (with_reducible repeat (first | apply Kd.R_alloc | apply Kd.R_drewN | apply Kd.R_drew)); exact HO315.out))) (Kd.R_lt (by (with_reducible repeat (first | apply Kd.R_alloc | apply Kd.R_drewN | apply Kd.R_drew)); exact HO326.out))) (below_size (by repeat (first | (with_reducible first | exact HB.out | apply below_alloc | apply pw_below_drewN | apply below_drew1 | refine below_set ?_ GE300.out | refine below_set ?_ GE316.out) | exact HB.out)))); have n6_ := Aside0.mk (blk_below (g := gb300) (o := .cells #[.int .i8 a0_0, .int .i8 a0_1, .slice A0_2 l0_2.length c0_2] 25 (0, 0)) (by (with_reducible repeat (first | refine blk_drewN ?_ _ | refine blk_drew ?_ | refine blk_alloc ?_ _)); exact BK300.out) hb); have n7_ := Aside0.mk (blk_below (g := gb316) (o := .cells #[.int .i8 t311, .int .i8 t312, .slice Ao45 t313.length co45] 30 (0, 0)) (by (with_reducible repeat (first | refine blk_drewN ?_ _ | refine blk_drew ?_ | refine blk_alloc ?_ _)); exact BK316.out) hb); have n8_ := Aside0.mk (below_step (by repeat (first | (with_reducible first | exact HB.out | apply below_alloc | apply pw_below_drewN | apply below_drew1 | refine below_set ?_ GE300.out | refine below_set ?_ GE316.out) | exact HB.out)) hb); clear HO306; clear HO309; clear HO315; clear HO319; clear HO326; clear BK300; clear BK316; clear HB; have HO306 := n0_; have HO309 := n1_; have HO315 := n2_; have HO319 := n3_; have HO326 := n4_; have HO338 := n5_; have BK300 := n6_; have BK316 := n7_; have HB := n8_; clear n0_ n1_ n2_ n3_ n4_ n5_ n6_ n7_ n8_; (try clear hb); (try clear hb2); (try clear hk); (try clear hi); (try clear ho0); obtain ⟨Ao58, co58, eo58⟩ := Kd.R_slice HO338.out; subst eo58) | ((with_reducible refine gate_callee (f := 20) rfl ?_); refine goesL_ (some 76) rfl rfl Try.func20 (by kernel_rfl) rfl #[.agg #[.int .i8 t334, .int .i8 t335, .slice Ao58 t336.length co58]] rfl (by (try simp only [List.map_toArray, List.map_cons, List.map_nil]); first | done | rfl | (simp only [List.length_drop, List.length_take]; rfl)) ?_; (with_reducible refine (impl_NeverHit.calls k t334 t335 _ _ t336 t339 t342 _ ?side1 ?side2 A26.out).mono ?_); (case side1 => repeat (first | exact (Kd.R_reads' HO338.out).2.2 | (with_reducible refine Kd.C_alloc ?_ _) | (with_reducible refine Kd.C_drewN ?_ _) | (with_reducible refine Kd.C_drew ?_))); (case side2 => exact (Kd.R_reads' HO338.out).2.1); rintro e w59 ⟨v340, rfl, ho0, hb⟩; refine ⟨_, rfl, ?_⟩; have n0_ := Aside0.mk (Kd.R_below (by (with_reducible repeat (first | apply Kd.R_alloc | apply Kd.R_drewN | apply Kd.R_drew)); exact HO306.out) hb); have n1_ := Aside0.mk (Kd.R_elder' (by (with_reducible repeat (first | apply Kd.R_alloc | apply Kd.R_drewN | apply Kd.R_drew)); exact HO309.out) (Kd.R_base ho0) hb); have n2_ := Aside0.mk (Kd.R_below (by (with_reducible repeat (first | apply Kd.R_alloc | apply Kd.R_drewN | apply Kd.R_drew)); exact HO315.out) hb); have n3_ := Aside0.mk (Kd.R_elder' (by (with_reducible repeat (first | apply Kd.R_alloc | apply Kd.R_drewN | apply Kd.R_drew)); exact HO319.out) (Kd.R_base ho0) hb); have n4_ := Aside0.mk (Kd.R_below (by (with_reducible repeat (first | apply Kd.R_alloc | apply Kd.R_drewN | apply Kd.R_drew)); exact HO326.out) hb); have n5_ := Aside0.mk (Kd.R_below (by (with_reducible repeat (first | apply Kd.R_alloc | apply Kd.R_drewN | apply Kd.R_drew)); exact HO338.out) hb); have n6_ := Aside0.mk (Kd.R_lower (Kd.R_new' (Kd.R_new' ho0 (Kd.R_lt (by (with_reducible repeat (first | apply Kd.R_alloc | apply Kd.R_drewN | apply Kd.R_drew)); exact HO309.out))) (Kd.R_lt (by (with_reducible repeat (first | apply Kd.R_alloc | apply Kd.R_drewN | apply Kd.R_drew)); exact HO319.out))) (below_size (by repeat (first | (with_reducible first | exact HB.out | apply below_alloc | apply pw_below_drewN | apply below_drew1 | refine below_set ?_ GE300.out | refine below_set ?_ GE316.out) | exact HB.out)))); have n7_ := Aside0.mk (blk_below (g := gb300) (o := .cells #[.int .i8 a0_0, .int .i8 a0_1, .slice A0_2 l0_2.length c0_2] 25 (0, 0)) (by (with_reducible repeat (first | refine blk_drewN ?_ _ | refine blk_drew ?_ | refine blk_alloc ?_ _)); exact BK300.out) hb); have n8_ := Aside0.mk (blk_below (g := gb316) (o := .cells #[.int .i8 t311, .int .i8 t312, .slice Ao45 t313.length co45] 30 (0, 0)) (by (with_reducible repeat (first | refine blk_drewN ?_ _ | refine blk_drew ?_ | refine blk_alloc ?_ _)); exact BK316.out) hb); have n9_ := Aside0.mk (below_step (by repeat (first | (with_reducible first | exact HB.out | apply below_alloc | apply pw_below_drewN | apply below_drew1 | refine below_set ?_ GE300.out | refine below_set ?_ GE316.out) | exact HB.out)) hb); clear HO306; clear HO309; clear HO315; clear HO319; clear HO326; clear HO338; clear BK300; clear BK316; clear HB; have HO306 := n0_; have HO309 := n1_; have HO315 := n2_; have HO319 := n3_; have HO326 := n4_; have HO338 := n5_; have HO341 := n6_; have BK300 := n7_; have BK316 := n8_; have HB := n9_; clear n0_ n1_ n2_ n3_ n4_ n5_ n6_ n7_ n8_ n9_; (try clear hb); (try clear hb2); (try clear hk); (try clear hi); (try clear ho0); obtain ⟨Ao60, co60, eo60⟩ := Kd.R_slice HO341.out; subst eo60) | ((with_reducible refine gate_callee (f := 21) rfl ?_); refine goesL_ (some 81) rfl rfl Try.func21 (by kernel_rfl) rfl #[.slice Ao60 t339.length co60, .slice Ao48 t307.length co48] rfl (by (try simp only [List.map_toArray, List.map_cons, List.map_nil]); first | done | rfl | (simp only [List.length_drop, List.length_take]; rfl)) ?_; (with_reducible refine (laws_eqInt64S.calls k _ _ t339 _ _ t307 true _ ?side1 ?side2 ?side3 ?side4 A27.out).mono ?_); (case side1 => repeat (first | exact (Kd.R_reads' HO341.out).2.2 | (with_reducible refine Kd.C_alloc ?_ _) | (with_reducible refine Kd.C_drewN ?_ _) | (with_reducible refine Kd.C_drew ?_))); (case side2 => exact (Kd.R_reads' HO341.out).2.1); (case side3 => repeat (first | exact (Kd.R_reads' HO309.out).2.2 | (with_reducible refine Kd.C_alloc ?_ _) | (with_reducible refine Kd.C_drewN ?_ _) | (with_reducible refine Kd.C_drew ?_))); (case side4 => exact (Kd.R_reads' HO309.out).2.1); rintro e w' ⟨rfl, ⟨nd, rfl⟩⟩; refine ⟨_, rfl, ?_⟩) | ((with_reducible refine gate_callee (f := 23) rfl ?_); refine goesL_ (some 90) rfl rfl Try.func23 (by kernel_rfl) rfl #[.slice Ao47 t332.length co47, .int .i64 1] rfl (by (try simp only [List.map_toArray, List.map_cons, List.map_nil]); first | done | (rw [show t332.length = t317.length from (Kd.R_reads' HO319.out).1.symm] <;> rfl) | rfl | (simp only [List.length_drop, List.length_take]; rfl)) ?_; (with_reducible refine (laws_heldInt64S.calls k _ _ t332 1 t344 _ ?side1 ?side2 A30.out).mono ?_); (case side1 => repeat (first | exact (Kd.R_reads' HO319.out).2.2 | (with_reducible refine Kd.C_alloc ?_ _) | (with_reducible refine Kd.C_drewN ?_ _) | (with_reducible refine Kd.C_drew ?_))); (case side2 => rw [show t332.length = t317.length from (Kd.R_reads' HO319.out).1.symm]; exact (Kd.R_reads' HO319.out).2.1); rintro e w' ⟨rfl, ⟨nd, rfl⟩⟩; refine ⟨_, rfl, ?_⟩))
                          go_ret
                          exact ⟨by first | rfl | (simp [errW_none, errW_some] <;> rfl) | (simp [*, errW_none, errW_some] <;> rfl), by repeat (first | (with_reducible first | exact HB.out | apply below_alloc | apply pw_below_drewN | apply below_drew1 | refine below_set ?_ GE300.out | refine below_set ?_ GE316.out) | exact HB.out)⟩
                        · rw [if_neg c32] at H
                          exact absurd H (by simp)
                    · rw [if_neg c29] at H
                      exact absurd H (by simp)
                  · replace c28 := Bool.eq_false_iff.mpr c28
                    subst c28
                    have H1 : (none) = some r := by rw [if_neg (show ¬ (false = true) by decide)] at H; exact H
                    clear H
                    have H := H1
                    clear H1
                    exact absurd H (by simp)
                · rw [if_neg c24] at H
                  exact absurd H (by simp)
            · replace c20 := Bool.eq_false_iff.mpr c20
              subst c20
              have H1 : (none) = some r := by rw [if_neg (show ¬ (false = true) by decide)] at H; exact H
              clear H
              have H := H1
              clear H1
              exact absurd H (by simp)
        · replace c16 := Bool.eq_false_iff.mpr c16
          subst c16
          have H1 : (none) = some r := by rw [if_neg (show ¬ (false = true) by decide)] at H; exact H
          clear H
          have H := H1
          clear H1
          exact absurd H (by simp)
      · rw [if_neg c13] at H
        exact absurd H (by simp)
    · replace c12 := Bool.eq_false_iff.mpr c12
      subst c12
      have H1 : (none) = some r := by rw [if_neg (show ¬ (false = true) by decide)] at H; exact H
      clear H
      have H := H1
      clear H1
      exact absurd H (by simp)

end Go.Proofs.Ytdjhcnepndflmaa.PFnExactNeverHit
