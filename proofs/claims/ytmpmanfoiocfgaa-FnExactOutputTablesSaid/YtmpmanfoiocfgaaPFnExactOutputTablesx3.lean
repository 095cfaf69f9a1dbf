-- WRITTEN by xprint.py, a program of this session's. Not trusted: Lean checks it.
import Derived.Test.YtmpmanfoiocfgaaPFnExactOutputTablesx0
namespace Go.Proofs.Ytmpmanfoiocfgaa.PFnExactOutputTables
open Go.RowKit Go.Proofs.YtmpmanfoiocfgaaW.PrintWords Go.Proofs.YtmpmanfoiocfgaaW.PrintLast Go.Proofs.YtmpmanfoiocfgaaW.PrintMore Go.Proofs.YtmpmanfoiocfgaaX
attribute [local go_sem] max2_int min2_int max_two min_two max_three min_three max_four min_four   -- for this text's walks alone
set_option linter.unusedVariables false
set_option linter.unusedSimpArgs false

/-! ### laws_heldUint64S: function 50 -/
def laws_heldUint64S.l0 : Nat → List Int → Int → Int → Option (Int)
  | 0, _, _, _ => none
  | k + 1, x0, x1, x5 => if x5 < (x0.length : Int) then (if 0 ≤ x5 then (if (rd x0 x5) = (IntKind.u64.wrap (x1)) then (laws_heldUint64S.l0 k x0 (wrap64 (x1 + 1)) (wrap64 (x5 + 1))) else (some (-1))) else (none)) else (some x1)
def laws_heldUint64S.f (k : Nat) (l0 : List Int) (a1 : Int) : Option (Int) := laws_heldUint64S.l0 k l0 a1 0
theorem laws_heldUint64S.mono_l : ∀ k, (∀ y0 y1 y2, LeO (laws_heldUint64S.l0 k y0 y1 y2) (laws_heldUint64S.l0 (k + 1) y0 y1 y2))
  | 0 => fun _ _ _ r h => by simp [laws_heldUint64S.l0] at h
  | k + 1 => by
    have ih0 := laws_heldUint64S.mono_l k
    · intro y0 y1 y2
      unfold laws_heldUint64S.l0
      repeat' first
      | (with_reducible exact ih0 _ _ _)
      | (with_reducible exact LeO.refl _)
      | (with_reducible exact LeO.none _)
      | (with_reducible refine LeO.ite ?_ ?_)
      | (with_reducible refine LeO.bind ?_ (fun _ => ?_))
      | exact ih0 _ _ _
      | exact LeO.none _
      | refine LeO.ite ?_ ?_
      | refine LeO.bind ?_ (fun _ => ?_)
theorem laws_heldUint64S.mono : ∀ a0 a1 k, LeO (laws_heldUint64S.f k a0 a1) (laws_heldUint64S.f (k + 1) a0 a1) := by
  intro a0 a1 k
  have ih0 := laws_heldUint64S.mono_l k
  unfold laws_heldUint64S.f
  repeat' first
      | (with_reducible exact ih0 _ _ _)
      | (with_reducible exact LeO.refl _)
      | (with_reducible exact LeO.none _)
      | (with_reducible refine LeO.ite ?_ ?_)
      | (with_reducible refine LeO.bind ?_ (fun _ => ?_))
      | exact ih0 _ _ _
      | exact LeO.none _
      | refine LeO.ite ?_ ?_
      | refine LeO.bind ?_ (fun _ => ?_)
set_option maxHeartbeats 8000000 in
set_option maxRecDepth 100000 in
theorem laws_heldUint64S.calls (k : Nat) (A0 : Option Addr) (c0 : Nat) (l0 : List Int) (a1 : Int) (r : Int) (w : World) (hr0 : Kd.C (Kd.int .u64) w A0 l0.length l0) (hc0 : l0.length ≤ c0) (h : laws_heldUint64S.f k l0 a1 = some r) :
    Calls Try.prog 50 #[.slice A0 l0.length c0, .int .i64 a1] w fun e w' => e = .returned (.int .i64 r) ∧ Drawn0 w w' := by
  have HR0 := Aside0.mk hr0
  have HC0 := Aside0.mk hc0
  clear hr0 hc0
  have H : (laws_heldUint64S.l0 k l0 a1 0) = some r := h
  clear h
  have H' := Aside0.mk H
  clear H
  go_enter Try.func50, Try.ntmps50
  go_wp2
  go_loopg [1, 5] k (fun kq v1 v5 w' => ∃ (x1_1 : Int) (x5_1 : Int), v1 = .int .i64 x1_1 ∧ v5 = .int .i64 x5_1 ∧ Aside0 (laws_heldUint64S.l0 kq l0 x1_1 x5_1 = some r) ∧ Aside0 (kq ≤ k) ∧ Drawn0 w w')
  case atStart => exact ⟨(a1), (0), (by first | rfl | (simp; done) | (simp [*]; done) | (exact congrArg (Value.int .i64) (wrap_eq (by omega)))), (by first | rfl | (simp; done) | (simp [*]; done) | (exact congrArg (Value.int .i64) (wrap_eq (by omega)))), H', ⟨Nat.le_refl _⟩, by repeat (first | exact Drawn0.refl _ | apply Drawn0.step)⟩
  case round =>
    clear H'
    try clear p2
    obtain ⟨x1_1, x5_1, rfl, rfl, HA, HK1, ⟨m1, rfl⟩⟩ := hrel
    cases gk with
    | zero => exact absurd HA.out (by simp [laws_heldUint64S.l0])
    | succ k1 =>
      have H := HA.out
      clear HA
      simp only [laws_heldUint64S.l0] at H
      by_cases c3 : x5_1 < (l0.length : Int)
      · rw [if_pos c3] at H
        have c3b0 : decide (x5_1 < (l0.length : Int)) = true := decide_eq_true c3
        clear c3
        by_cases c4 : 0 ≤ x5_1
        · rw [if_pos c4] at H
          have c4b0 : decide (0 ≤ x5_1) = true := decide_eq_true c4
          clear c4
          by_cases c5 : (rd l0 x5_1) = (IntKind.u64.wrap (x1_1))
          · rw [if_pos c5] at H
            have c5b0 : ((rd l0 x5_1) == (IntKind.u64.wrap (x1_1))) = true := beq_iff_eq.mpr c5
            have c5b1 : ((rd l0 x5_1) != (IntKind.u64.wrap (x1_1))) = false := bne_eq_false_iff_eq.mpr c5
            clear c5
            have H' := Aside0.mk H
            clear H
            have p152 : 0 ≤ (x5_1 : Int) := of_decide_eq_true (by first | (with_reducible assumption) | assumption)
            have q152 : x5_1 < (l0.length : Int) := of_decide_eq_true (by first | (with_reducible assumption) | assumption)
            obtain ⟨ad152, e152, hx152_0⟩ := Kd.at_int HR0.out x5_1 p152 q152
            cases e152
            replace p152 := eq_true p152
            replace q152 := eq_true q152
            go_wp2
            go_roundg k1
            case measure => have := HK1.out; omega
            case rel => exact ⟨(wrap64 (x1_1 + 1)), (wrap64 (x5_1 + 1)), (by first | rfl | (simp; done) | (simp [*]; done) | (exact congrArg (Value.int .i64) (wrap_eq (by omega)))), (by first | rfl | (simp; done) | (simp [*]; done) | (exact congrArg (Value.int .i64) (wrap_eq (by omega)))), H', ⟨by have := HK1.out; omega⟩, by repeat (first | exact Drawn0.refl _ | apply Drawn0.step)⟩
          · rw [if_neg c5] at H
            have c5b0 : ((rd l0 x5_1) == (IntKind.u64.wrap (x1_1))) = false := beq_eq_false_iff_ne.mpr c5
            have c5b1 : ((rd l0 x5_1) != (IntKind.u64.wrap (x1_1))) = true := bne_iff_ne.mpr c5
            obtain rfl := Option.some.inj H
            have p152 : 0 ≤ (x5_1 : Int) := of_decide_eq_true (by first | (with_reducible assumption) | assumption)
            have q152 : x5_1 < (l0.length : Int) := of_decide_eq_true (by first | (with_reducible assumption) | assumption)
            obtain ⟨ad152, e152, hx152_0⟩ := Kd.at_int HR0.out x5_1 p152 q152
            cases e152
            replace p152 := eq_true p152
            replace q152 := eq_true q152
            go_wp2
            go_ret
            exact ⟨by first | rfl | (simp; done) | (simp [*]; done) | (exact congrArg (Value.int .i64) (wrap_eq (by omega))), by repeat (first | exact Drawn0.refl _ | apply Drawn0.step)⟩
        · rw [if_neg c4] at H
          exact absurd H (by simp)
      · rw [if_neg c3] at H
        have c3b0 : decide (x5_1 < (l0.length : Int)) = false := decide_eq_false c3
        clear c3
        obtain rfl := Option.some.inj H
        go_wp2
        go_ret
        exact ⟨by first | rfl | (simp; done) | (simp [*]; done) | (exact congrArg (Value.int .i64) (wrap_eq (by omega))), by repeat (first | exact Drawn0.refl _ | apply Drawn0.step)⟩

/-! ### spec_l00In: function 87 -/
def spec_l00In.f (a0 : Int) (a1 : Int) (a2 : Int) : Option (Bool) := if a0 ≥ a1 then (some (decide (a0 ≤ a2))) else (some false)
set_option maxHeartbeats 8000000 in
set_option maxRecDepth 100000 in
theorem spec_l00In.calls (a0 : Int) (a1 : Int) (a2 : Int) (r : Bool) (w : World) (h : spec_l00In.f a0 a1 a2 = some r) :
    Calls Try.prog 87 #[.int .i64 a0, .int .i64 a1, .int .i64 a2] w fun e w' => e = .returned (.bool r) ∧ Drawn0 w w' := by
  have H : (if a0 ≥ a1 then (some (decide (a0 ≤ a2))) else (some false)) = some r := h
  clear h
  by_cases c4 : a0 ≥ a1
  · rw [if_pos c4] at H
    have c4b0 : decide (a1 ≤ a0) = true := decide_eq_true c4
    clear c4
    obtain rfl := Option.some.inj H
    go_enter Try.func87, Try.ntmps87
    go_wp2
    go_ret
    exact ⟨by first | rfl | (simp; done) | (simp [*]; done) | (exact congrArg (Value.int .i64) (wrap_eq (by omega))), by repeat (first | exact Drawn0.refl _ | apply Drawn0.step)⟩
  · rw [if_neg c4] at H
    have c4b0 : decide (a1 ≤ a0) = false := decide_eq_false c4
    clear c4
    obtain rfl := Option.some.inj H
    go_enter Try.func87, Try.ntmps87
    go_wp2
    go_ret
    exact ⟨by first | rfl | (simp; done) | (simp [*]; done) | (exact congrArg (Value.int .i64) (wrap_eq (by omega))), by repeat (first | exact Drawn0.refl _ | apply Drawn0.step)⟩

/-! ### spec_l04Node: function 125 -/
def spec_l04Node.f (l0 : List (S31)) (a1 : Int) : Option (Bool) := if 0 < (l0.length : Int) then (if 0 ≤ a1 then (if a1 < (((rd_T31 l0 0).f1).length : Int) then (if ((rd_T81 ((rd_T31 l0 0).f1) a1).f0) = 0 then (if ((rd_T81 ((rd_T31 l0 0).f1) a1).f1) ≥ 0 then (if ((rd_T81 ((rd_T31 l0 0).f1) a1).f1) < (IntKind.i16.wrap ((rd_T31 l0 0).f0)) then (some (((rd_T81 ((rd_T31 l0 0).f1) a1).f2) == 0)) else (some false)) else (some false)) else (if ((rd_T81 ((rd_T31 l0 0).f1) a1).f0) = 1 then (if ((rd_T81 ((rd_T31 l0 0).f1) a1).f1) = 0 then (some (((rd_T81 ((rd_T31 l0 0).f1) a1).f2) == 0)) else (some false)) else (if ((rd_T81 ((rd_T31 l0 0).f1) a1).f0) = 2 then (if ((rd_T81 ((rd_T31 l0 0).f1) a1).f1) ≥ 0 then (if (wrap64 ((rd_T81 ((rd_T31 l0 0).f1) a1).f1)) < a1 then (if ((rd_T81 ((rd_T31 l0 0).f1) a1).f2) ≥ 0 then (some (decide ((wrap64 ((rd_T81 ((rd_T31 l0 0).f1) a1).f2)) < a1))) else (some false)) else (some false)) else (some false)) else (if ((rd_T81 ((rd_T31 l0 0).f1) a1).f0) = 3 then (if ((rd_T81 ((rd_T31 l0 0).f1) a1).f1) ≥ 0 then (if (wrap64 ((rd_T81 ((rd_T31 l0 0).f1) a1).f1)) < a1 then (if ((rd_T81 ((rd_T31 l0 0).f1) a1).f2) ≥ 0 then (some (decide ((wrap64 ((rd_T81 ((rd_T31 l0 0).f1) a1).f2)) < a1))) else (some false)) else (some false)) else (some false)) else (some false))))) else (none)) else (none)) else (none)
set_option maxHeartbeats 8000000 in
set_option maxRecDepth 100000 in
theorem spec_l04Node.calls (adp0 : Addr) (l0 : List (S31)) (a1 : Int) (r : Bool) (w : World) (hr0 : Kd.C k31 w (some adp0) l0.length l0) (h : spec_l04Node.f l0 a1 = some r) :
    Calls Try.prog 125 #[.pointer (some adp0), .int .i64 a1] w fun e w' => e = .returned (.bool r) ∧ Below w.heap.size w w' := by
  have hu81 := Try.underlying81
  have HR0 := Aside0.mk hr0
  clear hr0
  have HB := Aside0.mk (Below.refl w.heap.size w)
  have H : (if 0 < (l0.length : Int) then (if 0 ≤ a1 then (if a1 < (((rd_T31 l0 0).f1).length : Int) then (if ((rd_T81 ((rd_T31 l0 0).f1) a1).f0) = 0 then (if ((rd_T81 ((rd_T31 l0 0).f1) a1).f1) ≥ 0 then (if ((rd_T81 ((rd_T31 l0 0).f1) a1).f1) < (IntKind.i16.wrap ((rd_T31 l0 0).f0)) then (some (((rd_T81 ((rd_T31 l0 0).f1) a1).f2) == 0)) else (some false)) else (some false)) else (if ((rd_T81 ((rd_T31 l0 0).f1) a1).f0) = 1 then (if ((rd_T81 ((rd_T31 l0 0).f1) a1).f1) = 0 then (some (((rd_T81 ((rd_T31 l0 0).f1) a1).f2) == 0)) else (some false)) else (if ((rd_T81 ((rd_T31 l0 0).f1) a1).f0) = 2 then (if ((rd_T81 ((rd_T31 l0 0).f1) a1).f1) ≥ 0 then (if (wrap64 ((rd_T81 ((rd_T31 l0 0).f1) a1).f1)) < a1 then (if ((rd_T81 ((rd_T31 l0 0).f1) a1).f2) ≥ 0 then (some (decide ((wrap64 ((rd_T81 ((rd_T31 l0 0).f1) a1).f2)) < a1))) else (some false)) else (some false)) else (some false)) else (if ((rd_T81 ((rd_T31 l0 0).f1) a1).f0) = 3 then (if ((rd_T81 ((rd_T31 l0 0).f1) a1).f1) ≥ 0 then (if (wrap64 ((rd_T81 ((rd_T31 l0 0).f1) a1).f1)) < a1 then (if ((rd_T81 ((rd_T31 l0 0).f1) a1).f2) ≥ 0 then (some (decide ((wrap64 ((rd_T81 ((rd_T31 l0 0).f1) a1).f2)) < a1))) else (some false)) else (some false)) else (some false)) else (some false))))) else (none)) else (none)) else (none)) = some r := h
  clear h
  by_cases c3 : 0 < (l0.length : Int)
  · rw [if_pos c3] at H
    have c3b0 : decide (0 < (l0.length : Int)) = true := decide_eq_true c3
    have c3b1 : decide (0 < l0.length) = true := decide_eq_true (by omega)
    clear c3
    by_cases c4 : 0 ≤ a1
    · rw [if_pos c4] at H
      have c4b0 : decide (0 ≤ a1) = true := decide_eq_true c4
      clear c4
      by_cases c5 : a1 < (((rd_T31 l0 0).f1).length : Int)
      · rw [if_pos c5] at H
        have c5b0 : decide (a1 < (((rd_T31 l0 0).f1).length : Int)) = true := decide_eq_true c5
        clear c5
        by_cases c6 : ((rd_T81 ((rd_T31 l0 0).f1) a1).f0) = 0
        · rw [if_pos c6] at H
          have c6b0 : (((rd_T81 ((rd_T31 l0 0).f1) a1).f0) == 0) = true := beq_iff_eq.mpr c6
          have c6b1 : (((rd_T81 ((rd_T31 l0 0).f1) a1).f0) != 0) = false := bne_eq_false_iff_eq.mpr c6
          clear c6
          by_cases c7 : ((rd_T81 ((rd_T31 l0 0).f1) a1).f1) ≥ 0
          · rw [if_pos c7] at H
            have c7b0 : decide (0 ≤ ((rd_T81 ((rd_T31 l0 0).f1) a1).f1)) = true := decide_eq_true c7
            clear c7
            by_cases c8 : ((rd_T81 ((rd_T31 l0 0).f1) a1).f1) < (IntKind.i16.wrap ((rd_T31 l0 0).f0))
            · rw [if_pos c8] at H
              have c8b0 : decide (((rd_T81 ((rd_T31 l0 0).f1) a1).f1) < (IntKind.i16.wrap ((rd_T31 l0 0).f0))) = true := decide_eq_true c8
              clear c8
              obtain rfl := Option.some.inj H
              have p153 : 0 ≤ (0 : Int) := (by omega)
              have q153 : 0 < (l0.length : Int) := of_decide_eq_true (by first | (with_reducible assumption) | assumption)
              obtain ⟨ad153, A153_1, c153_1, A153_2, c153_2, e153, hx153_0, hx153_1, hx153_2, hl153_1, hi153_1, hl153_2, hi153_2⟩ := at_T31 HR0.out 0 p153 q153
              obtain rfl : adp0 = ad153 := (by injection e153)
              have qi153 : (0 < l0.length) = True := eq_true (by omega)
              (try rw [show ((0 : Int)).toNat = 0 from rfl] at hx153_0)
              (try rw [show 0 * 3 = 0 from rfl] at hx153_0)
              (try rw [Addr.add_zero'] at hx153_0)
              (try rw [show ((0 : Int)).toNat = 0 from rfl] at hx153_1)
              (try rw [show 0 * 3 = 0 from rfl] at hx153_1)
              (try rw [Addr.add_zero'] at hx153_1)
              (try rw [show ((0 : Int)).toNat = 0 from rfl] at hx153_2)
              (try rw [show 0 * 3 = 0 from rfl] at hx153_2)
              (try rw [Addr.add_zero'] at hx153_2)
              have HR153_1 := Aside0.mk hi153_1
              have HC153_1 := Aside0.mk hl153_1
              clear hi153_1 hl153_1
              have HR153_2 := Aside0.mk hi153_2
              have HC153_2 := Aside0.mk hl153_2
              clear hi153_2 hl153_2
              replace p153 := eq_true p153
              replace q153 := eq_true q153
              have p154 : 0 ≤ (a1 : Int) := of_decide_eq_true (by first | (with_reducible assumption) | assumption)
              have q154 : a1 < (((rd_T31 l0 0).f1).length : Int) := of_decide_eq_true (by first | (with_reducible assumption) | assumption)
              obtain ⟨ad154, e154, hx154_0, hx154_1, hx154_2⟩ := at_T81 HR153_1.out a1 p154 q154
              cases e154
              replace p154 := eq_true p154
              replace q154 := eq_true q154
              go_enter Try.func125, Try.ntmps125
              go_wp2_with (first | ((with_reducible refine gate_dst (N := 5) rfl ?_); refine box_event ?hg (N := 5) ?hd (cs := #[.int .i8 0, .int .i16 0, .int .i16 0]) (t := 81) ?hr ?_; (case hd => rfl); (case hg => rfl); (case hr => first | (go_simp; done) | (go_simp; rfl)); intro gb155 hg w9 hbox hb; have n0_ := Aside0.mk (below_step (by repeat (first | (with_reducible first | exact HB.out | apply below_alloc | apply pw_below_drewN | apply below_drew1) | exact HB.out)) hb); have n1_ := Aside0.mk (hbox); have n2_ := Aside0.mk ((by rw [hg]; exact (below_size (by repeat (first | (with_reducible first | exact HB.out | apply below_alloc | apply pw_below_drewN | apply below_drew1) | exact HB.out))) : w.heap.size ≤ gb155)); have n3_ := Aside0.mk ((by rw [hg]; exact (below_size (by repeat (first | (with_reducible first | exact HB.out | apply below_alloc | apply pw_below_drewN | apply below_drew1) | exact HB.out))) : w.heap.size ≤ gb155)); clear HB; have HB := n0_; have BK155 := n1_; have GW155 := n2_; have GE155 := n3_; clear n0_ n1_ n2_ n3_; clear hb hbox hg; have hcz10_0 : w9.cell? ⟨gb155, 0, none⟩ = some (.int .i8 0) := (blk_cell BK155.out 0).trans rfl; have hcz10_1 : w9.cell? ⟨gb155, 1, none⟩ = some (.int .i16 0) := (blk_cell BK155.out 1).trans rfl; have hcz10_2 : w9.cell? ⟨gb155, 2, none⟩ = some (.int .i16 0) := (blk_cell BK155.out 2).trans rfl; have hfz10_0 := blk_frozen BK155.out 0; have hfz10_1 := blk_frozen BK155.out 1; have hfz10_2 := blk_frozen BK155.out 2; have p156 : 0 ≤ (0 : Int) := (by omega); have q156 : 0 < (l0.length : Int) := of_decide_eq_true (by first | (with_reducible assumption) | assumption); obtain ⟨ad156, A156_1, c156_1, A156_2, c156_2, e156, hx156_0, hx156_1, hx156_2, hl156_1, hi156_1, hl156_2, hi156_2⟩ := at_T31 HR0.out 0 p156 q156; obtain rfl : adp0 = ad156 := (by injection e156); have qi156 : (0 < l0.length) = True := eq_true (by omega); (try rw [show ((0 : Int)).toNat = 0 from rfl] at hx156_0); (try rw [show 0 * 3 = 0 from rfl] at hx156_0); (try rw [Addr.add_zero'] at hx156_0); (try rw [show ((0 : Int)).toNat = 0 from rfl] at hx156_1); (try rw [show 0 * 3 = 0 from rfl] at hx156_1); (try rw [Addr.add_zero'] at hx156_1); (try rw [show ((0 : Int)).toNat = 0 from rfl] at hx156_2); (try rw [show 0 * 3 = 0 from rfl] at hx156_2); (try rw [Addr.add_zero'] at hx156_2); have hn156_0 : adp0.block ≠ gb155 := Nat.ne_of_lt (Nat.lt_of_lt_of_le (by have := World.block_lt_of_cell? _ _ hx156_0; first | rwa [add_block] at this | exact this) GW155.out); have hn156_1 : adp0.block ≠ gb155 := Nat.ne_of_lt (Nat.lt_of_lt_of_le (by have := World.block_lt_of_cell? _ _ hx156_0; first | rwa [add_block] at this | exact this) GW155.out); have hn156_2 : adp0.block ≠ gb155 := Nat.ne_of_lt (Nat.lt_of_lt_of_le (by have := World.block_lt_of_cell? _ _ hx156_0; first | rwa [add_block] at this | exact this) GW155.out); replace hx156_0 := (HB.out.cell (World.block_lt_of_cell? w _ hx156_0)).trans hx156_0; replace hx156_1 := (HB.out.cell (World.block_lt_of_cell? w _ hx156_1)).trans hx156_1; replace hx156_2 := (HB.out.cell (World.block_lt_of_cell? w _ hx156_2)).trans hx156_2; have HR156_1 := Aside0.mk hi156_1; have HC156_1 := Aside0.mk hl156_1; clear hi156_1 hl156_1; have HR156_2 := Aside0.mk hi156_2; have HC156_2 := Aside0.mk hl156_2; clear hi156_2 hl156_2; replace hx156_0 := (cell_far (p := ⟨gb155, 0, none⟩) (by first | (rw [add_block]; exact hn156_0) | (show (Addr.add _ _).block ≠ _; rw [add_block]; exact hn156_0) | exact hn156_0) (.int .i8 ((rd_T81 ((rd_T31 l0 0).f1) a1).f0))).trans hx156_0; replace hx156_1 := (cell_far (p := ⟨gb155, 0, none⟩) (by first | (rw [add_block]; exact hn156_0) | (show (Addr.add _ _).block ≠ _; rw [add_block]; exact hn156_0) | exact hn156_0) (.int .i8 ((rd_T81 ((rd_T31 l0 0).f1) a1).f0))).trans hx156_1; replace hx156_2 := (cell_far (p := ⟨gb155, 0, none⟩) (by first | (rw [add_block]; exact hn156_0) | (show (Addr.add _ _).block ≠ _; rw [add_block]; exact hn156_0) | exact hn156_0) (.int .i8 ((rd_T81 ((rd_T31 l0 0).f1) a1).f0))).trans hx156_2; replace hx156_0 := (cell_far (p := ⟨gb155, 1, none⟩) (by first | (rw [add_block]; exact hn156_1) | (show (Addr.add _ _).block ≠ _; rw [add_block]; exact hn156_1) | exact hn156_1) (.int .i16 ((rd_T81 ((rd_T31 l0 0).f1) a1).f1))).trans hx156_0; replace hx156_1 := (cell_far (p := ⟨gb155, 1, none⟩) (by first | (rw [add_block]; exact hn156_1) | (show (Addr.add _ _).block ≠ _; rw [add_block]; exact hn156_1) | exact hn156_1) (.int .i16 ((rd_T81 ((rd_T31 l0 0).f1) a1).f1))).trans hx156_1; replace hx156_2 := (cell_far (p := ⟨gb155, 1, none⟩) (by first | (rw [add_block]; exact hn156_1) | (show (Addr.add _ _).block ≠ _; rw [add_block]; exact hn156_1) | exact hn156_1) (.int .i16 ((rd_T81 ((rd_T31 l0 0).f1) a1).f1))).trans hx156_2; replace hx156_0 := (cell_far (p := ⟨gb155, 2, none⟩) (by first | (rw [add_block]; exact hn156_2) | (show (Addr.add _ _).block ≠ _; rw [add_block]; exact hn156_2) | exact hn156_2) (.int .i16 ((rd_T81 ((rd_T31 l0 0).f1) a1).f2))).trans hx156_0; replace hx156_1 := (cell_far (p := ⟨gb155, 2, none⟩) (by first | (rw [add_block]; exact hn156_2) | (show (Addr.add _ _).block ≠ _; rw [add_block]; exact hn156_2) | exact hn156_2) (.int .i16 ((rd_T81 ((rd_T31 l0 0).f1) a1).f2))).trans hx156_1; replace hx156_2 := (cell_far (p := ⟨gb155, 2, none⟩) (by first | (rw [add_block]; exact hn156_2) | (show (Addr.add _ _).block ≠ _; rw [add_block]; exact hn156_2) | exact hn156_2) (.int .i16 ((rd_T81 ((rd_T31 l0 0).f1) a1).f2))).trans hx156_2; (try have hy156_0 := fun (n_ : Nat) => (show (((((w9.drewN n_).setCell ⟨gb155, 0, none⟩ (.int .i8 ((rd_T81 ((rd_T31 l0 0).f1) a1).f0))).setCell ⟨gb155, 1, none⟩ (.int .i16 ((rd_T81 ((rd_T31 l0 0).f1) a1).f1))).setCell ⟨gb155, 2, none⟩ (.int .i16 ((rd_T81 ((rd_T31 l0 0).f1) a1).f2)))).cell? _ = some _ from hx156_0)); (try have hy156_1 := fun (n_ : Nat) => (show (((((w9.drewN n_).setCell ⟨gb155, 0, none⟩ (.int .i8 ((rd_T81 ((rd_T31 l0 0).f1) a1).f0))).setCell ⟨gb155, 1, none⟩ (.int .i16 ((rd_T81 ((rd_T31 l0 0).f1) a1).f1))).setCell ⟨gb155, 2, none⟩ (.int .i16 ((rd_T81 ((rd_T31 l0 0).f1) a1).f2)))).cell? _ = some _ from hx156_1)); (try have hy156_2 := fun (n_ : Nat) => (show (((((w9.drewN n_).setCell ⟨gb155, 0, none⟩ (.int .i8 ((rd_T81 ((rd_T31 l0 0).f1) a1).f0))).setCell ⟨gb155, 1, none⟩ (.int .i16 ((rd_T81 ((rd_T31 l0 0).f1) a1).f1))).setCell ⟨gb155, 2, none⟩ (.int .i16 ((rd_T81 ((rd_T31 l0 0).f1) a1).f2)))).cell? _ = some _ from hx156_2)); clear hn156_0; clear hn156_1; clear hn156_2; replace p156 := eq_true p156; replace q156 := eq_true q156))
              repeat (go_quiet (first | ((with_reducible refine gate_dst (N := 5) rfl ?_); refine box_event ?hg (N := 5) ?hd (cs := #[.int .i8 0, .int .i16 0, .int .i16 0]) (t := 81) ?hr ?_; (case hd => rfl); (case hg => rfl); (case hr => first | (go_simp; done) | (go_simp; rfl)); intro gb155 hg w9 hbox hb; have n0_ := Aside0.mk (below_step (by repeat (first | (with_reducible first | exact HB.out | apply below_alloc | apply pw_below_drewN | apply below_drew1) | exact HB.out)) hb); have n1_ := Aside0.mk (hbox); have n2_ := Aside0.mk ((by rw [hg]; exact (below_size (by repeat (first | (with_reducible first | exact HB.out | apply below_alloc | apply pw_below_drewN | apply below_drew1) | exact HB.out))) : w.heap.size ≤ gb155)); have n3_ := Aside0.mk ((by rw [hg]; exact (below_size (by repeat (first | (with_reducible first | exact HB.out | apply below_alloc | apply pw_below_drewN | apply below_drew1) | exact HB.out))) : w.heap.size ≤ gb155)); clear HB; have HB := n0_; have BK155 := n1_; have GW155 := n2_; have GE155 := n3_; clear n0_ n1_ n2_ n3_; clear hb hbox hg; have hcz10_0 : w9.cell? ⟨gb155, 0, none⟩ = some (.int .i8 0) := (blk_cell BK155.out 0).trans rfl; have hcz10_1 : w9.cell? ⟨gb155, 1, none⟩ = some (.int .i16 0) := (blk_cell BK155.out 1).trans rfl; have hcz10_2 : w9.cell? ⟨gb155, 2, none⟩ = some (.int .i16 0) := (blk_cell BK155.out 2).trans rfl; have hfz10_0 := blk_frozen BK155.out 0; have hfz10_1 := blk_frozen BK155.out 1; have hfz10_2 := blk_frozen BK155.out 2; have p156 : 0 ≤ (0 : Int) := (by omega); have q156 : 0 < (l0.length : Int) := of_decide_eq_true (by first | (with_reducible assumption) | assumption); obtain ⟨ad156, A156_1, c156_1, A156_2, c156_2, e156, hx156_0, hx156_1, hx156_2, hl156_1, hi156_1, hl156_2, hi156_2⟩ := at_T31 HR0.out 0 p156 q156; obtain rfl : adp0 = ad156 := (by injection e156); have qi156 : (0 < l0.length) = True := eq_true (by omega); (try rw [show ((0 : Int)).toNat = 0 from rfl] at hx156_0); (try rw [show 0 * 3 = 0 from rfl] at hx156_0); (try rw [Addr.add_zero'] at hx156_0); (try rw [show ((0 : Int)).toNat = 0 from rfl] at hx156_1); (try rw [show 0 * 3 = 0 from rfl] at hx156_1); (try rw [Addr.add_zero'] at hx156_1); (try rw [show ((0 : Int)).toNat = 0 from rfl] at hx156_2); (try rw [show 0 * 3 = 0 from rfl] at hx156_2); (try rw [Addr.add_zero'] at hx156_2); have hn156_0 : adp0.block ≠ gb155 := Nat.ne_of_lt (Nat.lt_of_lt_of_le (by have := World.block_lt_of_cell? _ _ hx156_0; first | rwa [add_block] at this | exact this) GW155.out); have hn156_1 : adp0.block ≠ gb155 := Nat.ne_of_lt (Nat.lt_of_lt_of_le (by have := World.block_lt_of_cell? _ _ hx156_0; first | rwa [add_block] at this | exact this) GW155.out); have hn156_2 : adp0.block ≠ gb155 := Nat.ne_of_lt (Nat.lt_of_lt_of_le (by have := World.block_lt_of_cell? _ _ hx156_0; first | rwa [add_block] at this | exact this) GW155.out); replace hx156_0 := (HB.out.cell (World.block_lt_of_cell? w _ hx156_0)).trans hx156_0; replace hx156_1 := (HB.out.cell (World.block_lt_of_cell? w _ hx156_1)).trans hx156_1; replace hx156_2 := (HB.out.cell (World.block_lt_of_cell? w _ hx156_2)).trans hx156_2; have HR156_1 := Aside0.mk hi156_1; have HC156_1 := Aside0.mk hl156_1; clear hi156_1 hl156_1; have HR156_2 := Aside0.mk hi156_2; have HC156_2 := Aside0.mk hl156_2; clear hi156_2 hl156_2; replace hx156_0 := (cell_far (p := ⟨gb155, 0, none⟩) (by first | (rw [add_block]; exact hn156_0) | (show (Addr.add _ _).block ≠ _; rw [add_block]; exact hn156_0) | exact hn156_0) (.int .i8 ((rd_T81 ((rd_T31 l0 0).f1) a1).f0))).trans hx156_0; replace hx156_1 := (cell_far (p := ⟨gb155, 0, none⟩) (by first | (rw [add_block]; exact hn156_0) | (show (Addr.add _ _).block ≠ _; rw [add_block]; exact hn156_0) | exact hn156_0) (.int .i8 ((rd_T81 ((rd_T31 l0 0).f1) a1).f0))).trans hx156_1; replace hx156_2 := (cell_far (p := ⟨gb155, 0, none⟩) (by first | (rw [add_block]; exact hn156_0) | (show (Addr.add _ _).block ≠ _; rw [add_block]; exact hn156_0) | exact hn156_0) (.int .i8 ((rd_T81 ((rd_T31 l0 0).f1) a1).f0))).trans hx156_2; replace hx156_0 := (cell_far (p := ⟨gb155, 1, none⟩) (by first | (rw [add_block]; exact hn156_1) | (show (Addr.add _ _).block ≠ _; rw [add_block]; exact hn156_1) | exact hn156_1) (.int .i16 ((rd_T81 ((rd_T31 l0 0).f1) a1).f1))).trans hx156_0; replace hx156_1 := (cell_far (p := ⟨gb155, 1, none⟩) (by first | (rw [add_block]; exact hn156_1) | (show (Addr.add _ _).block ≠ _; rw [add_block]; exact hn156_1) | exact hn156_1) (.int .i16 ((rd_T81 ((rd_T31 l0 0).f1) a1).f1))).trans hx156_1; replace hx156_2 := (cell_far (p := ⟨gb155, 1, none⟩) (by first | (rw [add_block]; exact hn156_1) | (show (Addr.add _ _).block ≠ _; rw [add_block]; exact hn156_1) | exact hn156_1) (.int .i16 ((rd_T81 ((rd_T31 l0 0).f1) a1).f1))).trans hx156_2; replace hx156_0 := (cell_far (p := ⟨gb155, 2, none⟩) (by first | (rw [add_block]; exact hn156_2) | (show (Addr.add _ _).block ≠ _; rw [add_block]; exact hn156_2) | exact hn156_2) (.int .i16 ((rd_T81 ((rd_T31 l0 0).f1) a1).f2))).trans hx156_0; replace hx156_1 := (cell_far (p := ⟨gb155, 2, none⟩) (by first | (rw [add_block]; exact hn156_2) | (show (Addr.add _ _).block ≠ _; rw [add_block]; exact hn156_2) | exact hn156_2) (.int .i16 ((rd_T81 ((rd_T31 l0 0).f1) a1).f2))).trans hx156_1; replace hx156_2 := (cell_far (p := ⟨gb155, 2, none⟩) (by first | (rw [add_block]; exact hn156_2) | (show (Addr.add _ _).block ≠ _; rw [add_block]; exact hn156_2) | exact hn156_2) (.int .i16 ((rd_T81 ((rd_T31 l0 0).f1) a1).f2))).trans hx156_2; (try have hy156_0 := fun (n_ : Nat) => (show (((((w9.drewN n_).setCell ⟨gb155, 0, none⟩ (.int .i8 ((rd_T81 ((rd_T31 l0 0).f1) a1).f0))).setCell ⟨gb155, 1, none⟩ (.int .i16 ((rd_T81 ((rd_T31 l0 0).f1) a1).f1))).setCell ⟨gb155, 2, none⟩ (.int .i16 ((rd_T81 ((rd_T31 l0 0).f1) a1).f2)))).cell? _ = some _ from hx156_0)); (try have hy156_1 := fun (n_ : Nat) => (show (((((w9.drewN n_).setCell ⟨gb155, 0, none⟩ (.int .i8 ((rd_T81 ((rd_T31 l0 0).f1) a1).f0))).setCell ⟨gb155, 1, none⟩ (.int .i16 ((rd_T81 ((rd_T31 l0 0).f1) a1).f1))).setCell ⟨gb155, 2, none⟩ (.int .i16 ((rd_T81 ((rd_T31 l0 0).f1) a1).f2)))).cell? _ = some _ from hx156_1)); (try have hy156_2 := fun (n_ : Nat) => (show (((((w9.drewN n_).setCell ⟨gb155, 0, none⟩ (.int .i8 ((rd_T81 ((rd_T31 l0 0).f1) a1).f0))).setCell ⟨gb155, 1, none⟩ (.int .i16 ((rd_T81 ((rd_T31 l0 0).f1) a1).f1))).setCell ⟨gb155, 2, none⟩ (.int .i16 ((rd_T81 ((rd_T31 l0 0).f1) a1).f2)))).cell? _ = some _ from hx156_2)); clear hn156_0; clear hn156_1; clear hn156_2; replace p156 := eq_true p156; replace q156 := eq_true q156)); try go_wp2_with (first | ((with_reducible refine gate_dst (N := 5) rfl ?_); refine box_event ?hg (N := 5) ?hd (cs := #[.int .i8 0, .int .i16 0, .int .i16 0]) (t := 81) ?hr ?_; (case hd => rfl); (case hg => rfl); (case hr => first | (go_simp; done) | (go_simp; rfl)); intro gb155 hg w9 hbox hb; have n0_ := Aside0.mk (below_step (by repeat (first | (with_reducible first | exact HB.out | apply below_alloc | apply pw_below_drewN | apply below_drew1) | exact HB.out)) hb); have n1_ := Aside0.mk (hbox); have n2_ := Aside0.mk ((by rw [hg]; exact (below_size (by repeat (first | (with_reducible first | exact HB.out | apply below_alloc | apply pw_below_drewN | apply below_drew1) | exact HB.out))) : w.heap.size ≤ gb155)); have n3_ := Aside0.mk ((by rw [hg]; exact (below_size (by repeat (first | (with_reducible first | exact HB.out | apply below_alloc | apply pw_below_drewN | apply below_drew1) | exact HB.out))) : w.heap.size ≤ gb155)); clear HB; have HB := n0_; have BK155 := n1_; have GW155 := n2_; have GE155 := n3_; clear n0_ n1_ n2_ n3_; clear hb hbox hg; have hcz10_0 : w9.cell? ⟨gb155, 0, none⟩ = some (.int .i8 0) := (blk_cell BK155.out 0).trans rfl; have hcz10_1 : w9.cell? ⟨gb155, 1, none⟩ = some (.int .i16 0) := (blk_cell BK155.out 1).trans rfl; have hcz10_2 : w9.cell? ⟨gb155, 2, none⟩ = some (.int .i16 0) := (blk_cell BK155.out 2).trans rfl; have hfz10_0 := blk_frozen BK155.out 0; have hfz10_1 := blk_frozen BK155.out 1; have hfz10_2 := blk_frozen BK155.out 2; have p156 : 0 ≤ (0 : Int) := (by omega); have q156 : 0 < (l0.length : Int) := of_decide_eq_true (by first | (with_reducible assumption) | assumption); obtain ⟨ad156, A156_1, c156_1, A156_2, c156_2, e156, hx156_0, hx156_1, hx156_2, hl156_1, hi156_1, hl156_2, hi156_2⟩ := at_T31 HR0.out 0 p156 q156; obtain rfl : adp0 = ad156 := (by injection e156); have qi156 : (0 < l0.length) = True := eq_true (by omega); (try rw [show ((0 : Int)).toNat = 0 from rfl] at hx156_0); (try rw [show 0 * 3 = 0 from rfl] at hx156_0); (try rw [Addr.add_zero'] at hx156_0); (try rw [show ((0 : Int)).toNat = 0 from rfl] at hx156_1); (try rw [show 0 * 3 = 0 from rfl] at hx156_1); (try rw [Addr.add_zero'] at hx156_1); (try rw [show ((0 : Int)).toNat = 0 from rfl] at hx156_2); (try rw [show 0 * 3 = 0 from rfl] at hx156_2); (try rw [Addr.add_zero'] at hx156_2); have hn156_0 : adp0.block ≠ gb155 := Nat.ne_of_lt (Nat.lt_of_lt_of_le (by have := World.block_lt_of_cell? _ _ hx156_0; first | rwa [add_block] at this | exact this) GW155.out); have hn156_1 : adp0.block ≠ gb155 := Nat.ne_of_lt (Nat.lt_of_lt_of_le (by have := World.block_lt_of_cell? _ _ hx156_0; first | rwa [add_block] at this | exact this) GW155.out); have hn156_2 : adp0.block ≠ gb155 := Nat.ne_of_lt (Nat.lt_of_lt_of_le (by have := World.block_lt_of_cell? _ _ hx156_0; first | rwa [add_block] at this | exact this) GW155.out); replace hx156_0 := (HB.out.cell (World.block_lt_of_cell? w _ hx156_0)).trans hx156_0; replace hx156_1 := (HB.out.cell (World.block_lt_of_cell? w _ hx156_1)).trans hx156_1; replace hx156_2 := (HB.out.cell (World.block_lt_of_cell? w _ hx156_2)).trans hx156_2; have HR156_1 := Aside0.mk hi156_1; have HC156_1 := Aside0.mk hl156_1; clear hi156_1 hl156_1; have HR156_2 := Aside0.mk hi156_2; have HC156_2 := Aside0.mk hl156_2; clear hi156_2 hl156_2; replace hx156_0 := (cell_far (p := ⟨gb155, 0, none⟩) (by first | (rw [add_block]; exact hn156_0) | (show (Addr.add _ _).block ≠ _; rw [add_block]; exact hn156_0) | exact hn156_0) (.int .i8 ((rd_T81 ((rd_T31 l0 0).f1) a1).f0))).trans hx156_0; replace hx156_1 := (cell_far (p := ⟨gb155, 0, none⟩) (by first | (rw [add_block]; exact hn156_0) | (show (Addr.add _ _).block ≠ _; rw [add_block]; exact hn156_0) | exact hn156_0) (.int .i8 ((rd_T81 ((rd_T31 l0 0).f1) a1).f0))).trans hx156_1; replace hx156_2 := (cell_far (p := ⟨gb155, 0, none⟩) (by first | (rw [add_block]; exact hn156_0) | (show (Addr.add _ _).block ≠ _; rw [add_block]; exact hn156_0) | exact hn156_0) (.int .i8 ((rd_T81 ((rd_T31 l0 0).f1) a1).f0))).trans hx156_2; replace hx156_0 := (cell_far (p := ⟨gb155, 1, none⟩) (by first | (rw [add_block]; exact hn156_1) | (show (Addr.add _ _).block ≠ _; rw [add_block]; exact hn156_1) | exact hn156_1) (.int .i16 ((rd_T81 ((rd_T31 l0 0).f1) a1).f1))).trans hx156_0; replace hx156_1 := (cell_far (p := ⟨gb155, 1, none⟩) (by first | (rw [add_block]; exact hn156_1) | (show (Addr.add _ _).block ≠ _; rw [add_block]; exact hn156_1) | exact hn156_1) (.int .i16 ((rd_T81 ((rd_T31 l0 0).f1) a1).f1))).trans hx156_1; replace hx156_2 := (cell_far (p := ⟨gb155, 1, none⟩) (by first | (rw [add_block]; exact hn156_1) | (show (Addr.add _ _).block ≠ _; rw [add_block]; exact hn156_1) | exact hn156_1) (.int .i16 ((rd_T81 ((rd_T31 l0 0).f1) a1).f1))).trans hx156_2; replace hx156_0 := (cell_far (p := ⟨gb155, 2, none⟩) (by first | (rw [add_block]; exact hn156_2) | (show (Addr.add _ _).block ≠ _; rw [add_block]; exact hn156_2) | exact hn156_2) (.int .i16 ((rd_T81 ((rd_T31 l0 0).f1) a1).f2))).trans hx156_0; replace hx156_1 := (cell_far (p := ⟨gb155, 2, none⟩) (by first | (rw [add_block]; exact hn156_2) | (show (Addr.add _ _).block ≠ _; rw [add_block]; exact hn156_2) | exact hn156_2) (.int .i16 ((rd_T81 ((rd_T31 l0 0).f1) a1).f2))).trans hx156_1; replace hx156_2 := (cell_far (p := ⟨gb155, 2, none⟩) (by first | (rw [add_block]; exact hn156_2) | (show (Addr.add _ _).block ≠ _; rw [add_block]; exact hn156_2) | exact hn156_2) (.int .i16 ((rd_T81 ((rd_T31 l0 0).f1) a1).f2))).trans hx156_2; (try have hy156_0 := fun (n_ : Nat) => (show (((((w9.drewN n_).setCell ⟨gb155, 0, none⟩ (.int .i8 ((rd_T81 ((rd_T31 l0 0).f1) a1).f0))).setCell ⟨gb155, 1, none⟩ (.int .i16 ((rd_T81 ((rd_T31 l0 0).f1) a1).f1))).setCell ⟨gb155, 2, none⟩ (.int .i16 ((rd_T81 ((rd_T31 l0 0).f1) a1).f2)))).cell? _ = some _ from hx156_0)); (try have hy156_1 := fun (n_ : Nat) => (show (((((w9.drewN n_).setCell ⟨gb155, 0, none⟩ (.int .i8 ((rd_T81 ((rd_T31 l0 0).f1) a1).f0))).setCell ⟨gb155, 1, none⟩ (.int .i16 ((rd_T81 ((rd_T31 l0 0).f1) a1).f1))).setCell ⟨gb155, 2, none⟩ (.int .i16 ((rd_T81 ((rd_T31 l0 0).f1) a1).f2)))).cell? _ = some _ from hx156_1)); (try have hy156_2 := fun (n_ : Nat) => (show (((((w9.drewN n_).setCell ⟨gb155, 0, none⟩ (.int .i8 ((rd_T81 ((rd_T31 l0 0).f1) a1).f0))).setCell ⟨gb155, 1, none⟩ (.int .i16 ((rd_T81 ((rd_T31 l0 0).f1) a1).f1))).setCell ⟨gb155, 2, none⟩ (.int .i16 ((rd_T81 ((rd_T31 l0 0).f1) a1).f2)))).cell? _ = some _ from hx156_2)); clear hn156_0; clear hn156_1; clear hn156_2; replace p156 := eq_true p156; replace q156 := eq_true q156)))
              go_ret
              exact ⟨by first | rfl | (simp [errW_none, errW_some] <;> rfl) | (simp [*, errW_none, errW_some] <;> rfl), by repeat (first | (with_reducible first | exact HB.out | apply below_alloc | apply pw_below_drewN | apply below_drew1 | refine below_set ?_ GE155.out) | exact HB.out)⟩
            · rw [if_neg c8] at H
              have c8b0 : decide (((rd_T81 ((rd_T31 l0 0).f1) a1).f1) < (IntKind.i16.wrap ((rd_T31 l0 0).f0))) = false := decide_eq_false c8
              clear c8
              obtain rfl := Option.some.inj H
              have p153 : 0 ≤ (0 : Int) := (by omega)
              have q153 : 0 < (l0.length : Int) := of_decide_eq_true (by first | (with_reducible assumption) | assumption)
              obtain ⟨ad153, A153_1, c153_1, A153_2, c153_2, e153, hx153_0, hx153_1, hx153_2, hl153_1, hi153_1, hl153_2, hi153_2⟩ := at_T31 HR0.out 0 p153 q153
              obtain rfl : adp0 = ad153 := (by injection e153)
              have qi153 : (0 < l0.length) = True := eq_true (by omega)
              (try rw [show ((0 : Int)).toNat = 0 from rfl] at hx153_0)
              (try rw [show 0 * 3 = 0 from rfl] at hx153_0)
              (try rw [Addr.add_zero'] at hx153_0)
              (try rw [show ((0 : Int)).toNat = 0 from rfl] at hx153_1)
              (try rw [show 0 * 3 = 0 from rfl] at hx153_1)
              (try rw [Addr.add_zero'] at hx153_1)
              (try rw [show ((0 : Int)).toNat = 0 from rfl] at hx153_2)
              (try rw [show 0 * 3 = 0 from rfl] at hx153_2)
              (try rw [Addr.add_zero'] at hx153_2)
              have HR153_1 := Aside0.mk hi153_1
              have HC153_1 := Aside0.mk hl153_1
              clear hi153_1 hl153_1
              have HR153_2 := Aside0.mk hi153_2
              have HC153_2 := Aside0.mk hl153_2
              clear hi153_2 hl153_2
              replace p153 := eq_true p153
              replace q153 := eq_true q153
              have p154 : 0 ≤ (a1 : Int) := of_decide_eq_true (by first | (with_reducible assumption) | assumption)
              have q154 : a1 < (((rd_T31 l0 0).f1).length : Int) := of_decide_eq_true (by first | (with_reducible assumption) | assumption)
              obtain ⟨ad154, e154, hx154_0, hx154_1, hx154_2⟩ := at_T81 HR153_1.out a1 p154 q154
              cases e154
              replace p154 := eq_true p154
              replace q154 := eq_true q154
              go_enter Try.func125, Try.ntmps125
              go_wp2_with (first | ((with_reducible refine gate_dst (N := 5) rfl ?_); refine box_event ?hg (N := 5) ?hd (cs := #[.int .i8 0, .int .i16 0, .int .i16 0]) (t := 81) ?hr ?_; (case hd => rfl); (case hg => rfl); (case hr => first | (go_simp; done) | (go_simp; rfl)); intro gb155 hg w11 hbox hb; have n0_ := Aside0.mk (below_step (by repeat (first | (with_reducible first | exact HB.out | apply below_alloc | apply pw_below_drewN | apply below_drew1) | exact HB.out)) hb); have n1_ := Aside0.mk (hbox); have n2_ := Aside0.mk ((by rw [hg]; exact (below_size (by repeat (first | (with_reducible first | exact HB.out | apply below_alloc | apply pw_below_drewN | apply below_drew1) | exact HB.out))) : w.heap.size ≤ gb155)); have n3_ := Aside0.mk ((by rw [hg]; exact (below_size (by repeat (first | (with_reducible first | exact HB.out | apply below_alloc | apply pw_below_drewN | apply below_drew1) | exact HB.out))) : w.heap.size ≤ gb155)); clear HB; have HB := n0_; have BK155 := n1_; have GW155 := n2_; have GE155 := n3_; clear n0_ n1_ n2_ n3_; clear hb hbox hg; have hcz12_0 : w11.cell? ⟨gb155, 0, none⟩ = some (.int .i8 0) := (blk_cell BK155.out 0).trans rfl; have hcz12_1 : w11.cell? ⟨gb155, 1, none⟩ = some (.int .i16 0) := (blk_cell BK155.out 1).trans rfl; have hcz12_2 : w11.cell? ⟨gb155, 2, none⟩ = some (.int .i16 0) := (blk_cell BK155.out 2).trans rfl; have hfz12_0 := blk_frozen BK155.out 0; have hfz12_1 := blk_frozen BK155.out 1; have hfz12_2 := blk_frozen BK155.out 2; have p156 : 0 ≤ (0 : Int) := (by omega); have q156 : 0 < (l0.length : Int) := of_decide_eq_true (by first | (with_reducible assumption) | assumption); obtain ⟨ad156, A156_1, c156_1, A156_2, c156_2, e156, hx156_0, hx156_1, hx156_2, hl156_1, hi156_1, hl156_2, hi156_2⟩ := at_T31 HR0.out 0 p156 q156; obtain rfl : adp0 = ad156 := (by injection e156); have qi156 : (0 < l0.length) = True := eq_true (by omega); (try rw [show ((0 : Int)).toNat = 0 from rfl] at hx156_0); (try rw [show 0 * 3 = 0 from rfl] at hx156_0); (try rw [Addr.add_zero'] at hx156_0); (try rw [show ((0 : Int)).toNat = 0 from rfl] at hx156_1); (try rw [show 0 * 3 = 0 from rfl] at hx156_1); (try rw [Addr.add_zero'] at hx156_1); (try rw [show ((0 : Int)).toNat = 0 from rfl] at hx156_2); (try rw [show 0 * 3 = 0 from rfl] at hx156_2); (try rw [Addr.add_zero'] at hx156_2); have hn156_0 : adp0.block ≠ gb155 := Nat.ne_of_lt (Nat.lt_of_lt_of_le (by have := World.block_lt_of_cell? _ _ hx156_0; first | rwa [add_block] at this | exact this) GW155.out); have hn156_1 : adp0.block ≠ gb155 := Nat.ne_of_lt (Nat.lt_of_lt_of_le (by have := World.block_lt_of_cell? _ _ hx156_0; first | rwa [add_block] at this | exact this) GW155.out); have hn156_2 : adp0.block ≠ gb155 := Nat.ne_of_lt (Nat.lt_of_lt_of_le (by have := World.block_lt_of_cell? _ _ hx156_0; first | rwa [add_block] at this | exact this) GW155.out); replace hx156_0 := (HB.out.cell (World.block_lt_of_cell? w _ hx156_0)).trans hx156_0; replace hx156_1 := (HB.out.cell (World.block_lt_of_cell? w _ hx156_1)).trans hx156_1; replace hx156_2 := (HB.out.cell (World.block_lt_of_cell? w _ hx156_2)).trans hx156_2; have HR156_1 := Aside0.mk hi156_1; have HC156_1 := Aside0.mk hl156_1; clear hi156_1 hl156_1; have HR156_2 := Aside0.mk hi156_2; have HC156_2 := Aside0.mk hl156_2; clear hi156_2 hl156_2; replace hx156_0 := (cell_far (p := ⟨gb155, 0, none⟩) (by first | (rw [add_block]; exact hn156_0) | (show (Addr.add _ _).block ≠ _; rw [add_block]; exact hn156_0) | exact hn156_0) (.int .i8 ((rd_T81 ((rd_T31 l0 0).f1) a1).f0))).trans hx156_0; replace hx156_1 := (cell_far (p := ⟨gb155, 0, none⟩) (by first | (rw [add_block]; exact hn156_0) | (show (Addr.add _ _).block ≠ _; rw [add_block]; exact hn156_0) | exact hn156_0) (.int .i8 ((rd_T81 ((rd_T31 l0 0).f1) a1).f0))).trans hx156_1; replace hx156_2 := (cell_far (p := ⟨gb155, 0, none⟩) (by first | (rw [add_block]; exact hn156_0) | (show (Addr.add _ _).block ≠ _; rw [add_block]; exact hn156_0) | exact hn156_0) (.int .i8 ((rd_T81 ((rd_T31 l0 0).f1) a1).f0))).trans hx156_2; replace hx156_0 := (cell_far (p := ⟨gb155, 1, none⟩) (by first | (rw [add_block]; exact hn156_1) | (show (Addr.add _ _).block ≠ _; rw [add_block]; exact hn156_1) | exact hn156_1) (.int .i16 ((rd_T81 ((rd_T31 l0 0).f1) a1).f1))).trans hx156_0; replace hx156_1 := (cell_far (p := ⟨gb155, 1, none⟩) (by first | (rw [add_block]; exact hn156_1) | (show (Addr.add _ _).block ≠ _; rw [add_block]; exact hn156_1) | exact hn156_1) (.int .i16 ((rd_T81 ((rd_T31 l0 0).f1) a1).f1))).trans hx156_1; replace hx156_2 := (cell_far (p := ⟨gb155, 1, none⟩) (by first | (rw [add_block]; exact hn156_1) | (show (Addr.add _ _).block ≠ _; rw [add_block]; exact hn156_1) | exact hn156_1) (.int .i16 ((rd_T81 ((rd_T31 l0 0).f1) a1).f1))).trans hx156_2; replace hx156_0 := (cell_far (p := ⟨gb155, 2, none⟩) (by first | (rw [add_block]; exact hn156_2) | (show (Addr.add _ _).block ≠ _; rw [add_block]; exact hn156_2) | exact hn156_2) (.int .i16 ((rd_T81 ((rd_T31 l0 0).f1) a1).f2))).trans hx156_0; replace hx156_1 := (cell_far (p := ⟨gb155, 2, none⟩) (by first | (rw [add_block]; exact hn156_2) | (show (Addr.add _ _).block ≠ _; rw [add_block]; exact hn156_2) | exact hn156_2) (.int .i16 ((rd_T81 ((rd_T31 l0 0).f1) a1).f2))).trans hx156_1; replace hx156_2 := (cell_far (p := ⟨gb155, 2, none⟩) (by first | (rw [add_block]; exact hn156_2) | (show (Addr.add _ _).block ≠ _; rw [add_block]; exact hn156_2) | exact hn156_2) (.int .i16 ((rd_T81 ((rd_T31 l0 0).f1) a1).f2))).trans hx156_2; (try have hy156_0 := fun (n_ : Nat) => (show (((((w11.drewN n_).setCell ⟨gb155, 0, none⟩ (.int .i8 ((rd_T81 ((rd_T31 l0 0).f1) a1).f0))).setCell ⟨gb155, 1, none⟩ (.int .i16 ((rd_T81 ((rd_T31 l0 0).f1) a1).f1))).setCell ⟨gb155, 2, none⟩ (.int .i16 ((rd_T81 ((rd_T31 l0 0).f1) a1).f2)))).cell? _ = some _ from hx156_0)); (try have hy156_1 := fun (n_ : Nat) => (show (((((w11.drewN n_).setCell ⟨gb155, 0, none⟩ (.int .i8 ((rd_T81 ((rd_T31 l0 0).f1) a1).f0))).setCell ⟨gb155, 1, none⟩ (.int .i16 ((rd_T81 ((rd_T31 l0 0).f1) a1).f1))).setCell ⟨gb155, 2, none⟩ (.int .i16 ((rd_T81 ((rd_T31 l0 0).f1) a1).f2)))).cell? _ = some _ from hx156_1)); (try have hy156_2 := fun (n_ : Nat) => (show (((((w11.drewN n_).setCell ⟨gb155, 0, none⟩ (.int .i8 ((rd_T81 ((rd_T31 l0 0).f1) a1).f0))).setCell ⟨gb155, 1, none⟩ (.int .i16 ((rd_T81 ((rd_T31 l0 0).f1) a1).f1))).setCell ⟨gb155, 2, none⟩ (.int .i16 ((rd_T81 ((rd_T31 l0 0).f1) a1).f2)))).cell? _ = some _ from hx156_2)); clear hn156_0; clear hn156_1; clear hn156_2; replace p156 := eq_true p156; replace q156 := eq_true q156))
              repeat (go_quiet (first | ((with_reducible refine gate_dst (N := 5) rfl ?_); refine box_event ?hg (N := 5) ?hd (cs := #[.int .i8 0, .int .i16 0, .int .i16 0]) (t := 81) ?hr ?_; (case hd => rfl); (case hg => rfl); (case hr => first | (go_simp; done) | (go_simp; rfl)); intro gb155 hg w11 hbox hb; have n0_ := Aside0.mk (below_step (by repeat (first | (with_reducible first | exact HB.out | apply below_alloc | apply pw_below_drewN | apply below_drew1) | exact HB.out)) hb); have n1_ := Aside0.mk (hbox); have n2_ := Aside0.mk ((by rw [hg]; exact (below_size (by repeat (first | (with_reducible first | exact HB.out | apply below_alloc | apply pw_below_drewN | apply below_drew1) | exact HB.out))) : w.heap.size ≤ gb155)); have n3_ := Aside0.mk ((by rw [hg]; exact (below_size (by repeat (first | (with_reducible first | exact HB.out | apply below_alloc | apply pw_below_drewN | apply below_drew1) | exact HB.out))) : w.heap.size ≤ gb155)); clear HB; have HB := n0_; have BK155 := n1_; have GW155 := n2_; have GE155 := n3_; clear n0_ n1_ n2_ n3_; clear hb hbox hg; have hcz12_0 : w11.cell? ⟨gb155, 0, none⟩ = some (.int .i8 0) := (blk_cell BK155.out 0).trans rfl; have hcz12_1 : w11.cell? ⟨gb155, 1, none⟩ = some (.int .i16 0) := (blk_cell BK155.out 1).trans rfl; have hcz12_2 : w11.cell? ⟨gb155, 2, none⟩ = some (.int .i16 0) := (blk_cell BK155.out 2).trans rfl; have hfz12_0 := blk_frozen BK155.out 0; have hfz12_1 := blk_frozen BK155.out 1; have hfz12_2 := blk_frozen BK155.out 2; have p156 : 0 ≤ (0 : Int) := (by omega); have q156 : 0 < (l0.length : Int) := of_decide_eq_true (by first | (with_reducible assumption) | assumption); obtain ⟨ad156, A156_1, c156_1, A156_2, c156_2, e156, hx156_0, hx156_1, hx156_2, hl156_1, hi156_1, hl156_2, hi156_2⟩ := at_T31 HR0.out 0 p156 q156; obtain rfl : adp0 = ad156 := (by injection e156); have qi156 : (0 < l0.length) = True := eq_true (by omega); (try rw [show ((0 : Int)).toNat = 0 from rfl] at hx156_0); (try rw [show 0 * 3 = 0 from rfl] at hx156_0); (try rw [Addr.add_zero'] at hx156_0); (try rw [show ((0 : Int)).toNat = 0 from rfl] at hx156_1); (try rw [show 0 * 3 = 0 from rfl] at hx156_1); (try rw [Addr.add_zero'] at hx156_1); (try rw [show ((0 : Int)).toNat = 0 from rfl] at hx156_2); (try rw [show 0 * 3 = 0 from rfl] at hx156_2); (try rw [Addr.add_zero'] at hx156_2); have hn156_0 : adp0.block ≠ gb155 := Nat.ne_of_lt (Nat.lt_of_lt_of_le (by have := World.block_lt_of_cell? _ _ hx156_0; first | rwa [add_block] at this | exact this) GW155.out); have hn156_1 : adp0.block ≠ gb155 := Nat.ne_of_lt (Nat.lt_of_lt_of_le (by have := World.block_lt_of_cell? _ _ hx156_0; first | rwa [add_block] at this | exact this) GW155.out); have hn156_2 : adp0.block ≠ gb155 := Nat.ne_of_lt (Nat.lt_of_lt_of_le (by have := World.block_lt_of_cell? _ _ hx156_0; first | rwa [add_block] at this | exact this) GW155.out); replace hx156_0 := (HB.out.cell (World.block_lt_of_cell? w _ hx156_0)).trans hx156_0; replace hx156_1 := (HB.out.cell (World.block_lt_of_cell? w _ hx156_1)).trans hx156_1; replace hx156_2 := (HB.out.cell (World.block_lt_of_cell? w _ hx156_2)).trans hx156_2; have HR156_1 := Aside0.mk hi156_1; have HC156_1 := Aside0.mk hl156_1; clear hi156_1 hl156_1; have HR156_2 := Aside0.mk hi156_2; have HC156_2 := Aside0.mk hl156_2; clear hi156_2 hl156_2; replace hx156_0 := (cell_far (p := ⟨gb155, 0, none⟩) (by first | (rw [add_block]; exact hn156_0) | (show (Addr.add _ _).block ≠ _; rw [add_block]; exact hn156_0) | exact hn156_0) (.int .i8 ((rd_T81 ((rd_T31 l0 0).f1) a1).f0))).trans hx156_0; replace hx156_1 := (cell_far (p := ⟨gb155, 0, none⟩) (by first | (rw [add_block]; exact hn156_0) | (show (Addr.add _ _).block ≠ _; rw [add_block]; exact hn156_0) | exact hn156_0) (.int .i8 ((rd_T81 ((rd_T31 l0 0).f1) a1).f0))).trans hx156_1; replace hx156_2 := (cell_far (p := ⟨gb155, 0, none⟩) (by first | (rw [add_block]; exact hn156_0) | (show (Addr.add _ _).block ≠ _; rw [add_block]; exact hn156_0) | exact hn156_0) (.int .i8 ((rd_T81 ((rd_T31 l0 0).f1) a1).f0))).trans hx156_2; replace hx156_0 := (cell_far (p := ⟨gb155, 1, none⟩) (by first | (rw [add_block]; exact hn156_1) | (show (Addr.add _ _).block ≠ _; rw [add_block]; exact hn156_1) | exact hn156_1) (.int .i16 ((rd_T81 ((rd_T31 l0 0).f1) a1).f1))).trans hx156_0; replace hx156_1 := (cell_far (p := ⟨gb155, 1, none⟩) (by first | (rw [add_block]; exact hn156_1) | (show (Addr.add _ _).block ≠ _; rw [add_block]; exact hn156_1) | exact hn156_1) (.int .i16 ((rd_T81 ((rd_T31 l0 0).f1) a1).f1))).trans hx156_1; replace hx156_2 := (cell_far (p := ⟨gb155, 1, none⟩) (by first | (rw [add_block]; exact hn156_1) | (show (Addr.add _ _).block ≠ _; rw [add_block]; exact hn156_1) | exact hn156_1) (.int .i16 ((rd_T81 ((rd_T31 l0 0).f1) a1).f1))).trans hx156_2; replace hx156_0 := (cell_far (p := ⟨gb155, 2, none⟩) (by first | (rw [add_block]; exact hn156_2) | (show (Addr.add _ _).block ≠ _; rw [add_block]; exact hn156_2) | exact hn156_2) (.int .i16 ((rd_T81 ((rd_T31 l0 0).f1) a1).f2))).trans hx156_0; replace hx156_1 := (cell_far (p := ⟨gb155, 2, none⟩) (by first | (rw [add_block]; exact hn156_2) | (show (Addr.add _ _).block ≠ _; rw [add_block]; exact hn156_2) | exact hn156_2) (.int .i16 ((rd_T81 ((rd_T31 l0 0).f1) a1).f2))).trans hx156_1; replace hx156_2 := (cell_far (p := ⟨gb155, 2, none⟩) (by first | (rw [add_block]; exact hn156_2) | (show (Addr.add _ _).block ≠ _; rw [add_block]; exact hn156_2) | exact hn156_2) (.int .i16 ((rd_T81 ((rd_T31 l0 0).f1) a1).f2))).trans hx156_2; (try have hy156_0 := fun (n_ : Nat) => (show (((((w11.drewN n_).setCell ⟨gb155, 0, none⟩ (.int .i8 ((rd_T81 ((rd_T31 l0 0).f1) a1).f0))).setCell ⟨gb155, 1, none⟩ (.int .i16 ((rd_T81 ((rd_T31 l0 0).f1) a1).f1))).setCell ⟨gb155, 2, none⟩ (.int .i16 ((rd_T81 ((rd_T31 l0 0).f1) a1).f2)))).cell? _ = some _ from hx156_0)); (try have hy156_1 := fun (n_ : Nat) => (show (((((w11.drewN n_).setCell ⟨gb155, 0, none⟩ (.int .i8 ((rd_T81 ((rd_T31 l0 0).f1) a1).f0))).setCell ⟨gb155, 1, none⟩ (.int .i16 ((rd_T81 ((rd_T31 l0 0).f1) a1).f1))).setCell ⟨gb155, 2, none⟩ (.int .i16 ((rd_T81 ((rd_T31 l0 0).f1) a1).f2)))).cell? _ = some _ from hx156_1)); (try have hy156_2 := fun (n_ : Nat) => (show (((((w11.drewN n_).setCell ⟨gb155, 0, none⟩ (.int .i8 ((rd_T81 ((rd_T31 l0 0).f1) a1).f0))).setCell ⟨gb155, 1, none⟩ (.int .i16 ((rd_T81 ((rd_T31 l0 0).f1) a1).f1))).setCell ⟨gb155, 2, none⟩ (.int .i16 ((rd_T81 ((rd_T31 l0 0).f1) a1).f2)))).cell? _ = some _ from hx156_2)); clear hn156_0; clear hn156_1; clear hn156_2; replace p156 := eq_true p156; replace q156 := eq_true q156)); try go_wp2_with (first | ((with_reducible refine gate_dst (N := 5) rfl ?_); refine box_event ?hg (N := 5) ?hd (cs := #[.int .i8 0, .int .i16 0, .int .i16 0]) (t := 81) ?hr ?_; (case hd => rfl); (case hg => rfl); (case hr => first | (go_simp; done) | (go_simp; rfl)); intro gb155 hg w11 hbox hb; have n0_ := Aside0.mk (below_step (by repeat (first | (with_reducible first | exact HB.out | apply below_alloc | apply pw_below_drewN | apply below_drew1) | exact HB.out)) hb); have n1_ := Aside0.mk (hbox); have n2_ := Aside0.mk ((by rw [hg]; exact (below_size (by repeat (first | (with_reducible first | exact HB.out | apply below_alloc | apply pw_below_drewN | apply below_drew1) | exact HB.out))) : w.heap.size ≤ gb155)); have n3_ := Aside0.mk ((by rw [hg]; exact (below_size (by repeat (first | (with_reducible first | exact HB.out | apply below_alloc | apply pw_below_drewN | apply below_drew1) | exact HB.out))) : w.heap.size ≤ gb155)); clear HB; have HB := n0_; have BK155 := n1_; have GW155 := n2_; have GE155 := n3_; clear n0_ n1_ n2_ n3_; clear hb hbox hg; have hcz12_0 : w11.cell? ⟨gb155, 0, none⟩ = some (.int .i8 0) := (blk_cell BK155.out 0).trans rfl; have hcz12_1 : w11.cell? ⟨gb155, 1, none⟩ = some (.int .i16 0) := (blk_cell BK155.out 1).trans rfl; have hcz12_2 : w11.cell? ⟨gb155, 2, none⟩ = some (.int .i16 0) := (blk_cell BK155.out 2).trans rfl; have hfz12_0 := blk_frozen BK155.out 0; have hfz12_1 := blk_frozen BK155.out 1; have hfz12_2 := blk_frozen BK155.out 2; have p156 : 0 ≤ (0 : Int) := (by omega); have q156 : 0 < (l0.length : Int) := of_decide_eq_true (by first | (with_reducible assumption) | assumption); obtain ⟨ad156, A156_1, c156_1, A156_2, c156_2, e156, hx156_0, hx156_1, hx156_2, hl156_1, hi156_1, hl156_2, hi156_2⟩ := at_T31 HR0.out 0 p156 q156; obtain rfl : adp0 = ad156 := (by injection e156); have qi156 : (0 < l0.length) = True := eq_true (by omega); (try rw [show ((0 : Int)).toNat = 0 from rfl] at hx156_0); (try rw [show 0 * 3 = 0 from rfl] at hx156_0); (try rw [Addr.add_zero'] at hx156_0); (try rw [show ((0 : Int)).toNat = 0 from rfl] at hx156_1); (try rw [show 0 * 3 = 0 from rfl] at hx156_1); (try rw [Addr.add_zero'] at hx156_1); (try rw [show ((0 : Int)).toNat = 0 from rfl] at hx156_2); (try rw [show 0 * 3 = 0 from rfl] at hx156_2); (try rw [Addr.add_zero'] at hx156_2); have hn156_0 : adp0.block ≠ gb155 := Nat.ne_of_lt (Nat.lt_of_lt_of_le (by have := World.block_lt_of_cell? _ _ hx156_0; first | rwa [add_block] at this | exact this) GW155.out); have hn156_1 : adp0.block ≠ gb155 := Nat.ne_of_lt (Nat.lt_of_lt_of_le (by have := World.block_lt_of_cell? _ _ hx156_0; first | rwa [add_block] at this | exact this) GW155.out); have hn156_2 : adp0.block ≠ gb155 := Nat.ne_of_lt (Nat.lt_of_lt_of_le (by have := World.block_lt_of_cell? _ _ hx156_0; first | rwa [add_block] at this | exact this) GW155.out); replace hx156_0 := (HB.out.cell (World.block_lt_of_cell? w _ hx156_0)).trans hx156_0; replace hx156_1 := (HB.out.cell (World.block_lt_of_cell? w _ hx156_1)).trans hx156_1; replace hx156_2 := (HB.out.cell (World.block_lt_of_cell? w _ hx156_2)).trans hx156_2; have HR156_1 := Aside0.mk hi156_1; have HC156_1 := Aside0.mk hl156_1; clear hi156_1 hl156_1; have HR156_2 := Aside0.mk hi156_2; have HC156_2 := Aside0.mk hl156_2; clear hi156_2 hl156_2; replace hx156_0 := (cell_far (p := ⟨gb155, 0, none⟩) (by first | (rw [add_block]; exact hn156_0) | (show (Addr.add _ _).block ≠ _; rw [add_block]; exact hn156_0) | exact hn156_0) (.int .i8 ((rd_T81 ((rd_T31 l0 0).f1) a1).f0))).trans hx156_0; replace hx156_1 := (cell_far (p := ⟨gb155, 0, none⟩) (by first | (rw [add_block]; exact hn156_0) | (show (Addr.add _ _).block ≠ _; rw [add_block]; exact hn156_0) | exact hn156_0) (.int .i8 ((rd_T81 ((rd_T31 l0 0).f1) a1).f0))).trans hx156_1; replace hx156_2 := (cell_far (p := ⟨gb155, 0, none⟩) (by first | (rw [add_block]; exact hn156_0) | (show (Addr.add _ _).block ≠ _; rw [add_block]; exact hn156_0) | exact hn156_0) (.int .i8 ((rd_T81 ((rd_T31 l0 0).f1) a1).f0))).trans hx156_2; replace hx156_0 := (cell_far (p := ⟨gb155, 1, none⟩) (by first | (rw [add_block]; exact hn156_1) | (show (Addr.add _ _).block ≠ _; rw [add_block]; exact hn156_1) | exact hn156_1) (.int .i16 ((rd_T81 ((rd_T31 l0 0).f1) a1).f1))).trans hx156_0; replace hx156_1 := (cell_far (p := ⟨gb155, 1, none⟩) (by first | (rw [add_block]; exact hn156_1) | (show (Addr.add _ _).block ≠ _; rw [add_block]; exact hn156_1) | exact hn156_1) (.int .i16 ((rd_T81 ((rd_T31 l0 0).f1) a1).f1))).trans hx156_1; replace hx156_2 := (cell_far (p := ⟨gb155, 1, none⟩) (by first | (rw [add_block]; exact hn156_1) | (show (Addr.add _ _).block ≠ _; rw [add_block]; exact hn156_1) | exact hn156_1) (.int .i16 ((rd_T81 ((rd_T31 l0 0).f1) a1).f1))).trans hx156_2; replace hx156_0 := (cell_far (p := ⟨gb155, 2, none⟩) (by first | (rw [add_block]; exact hn156_2) | (show (Addr.add _ _).block ≠ _; rw [add_block]; exact hn156_2) | exact hn156_2) (.int .i16 ((rd_T81 ((rd_T31 l0 0).f1) a1).f2))).trans hx156_0; replace hx156_1 := (cell_far (p := ⟨gb155, 2, none⟩) (by first | (rw [add_block]; exact hn156_2) | (show (Addr.add _ _).block ≠ _; rw [add_block]; exact hn156_2) | exact hn156_2) (.int .i16 ((rd_T81 ((rd_T31 l0 0).f1) a1).f2))).trans hx156_1; replace hx156_2 := (cell_far (p := ⟨gb155, 2, none⟩) (by first | (rw [add_block]; exact hn156_2) | (show (Addr.add _ _).block ≠ _; rw [add_block]; exact hn156_2) | exact hn156_2) (.int .i16 ((rd_T81 ((rd_T31 l0 0).f1) a1).f2))).trans hx156_2; (try have hy156_0 := fun (n_ : Nat) => (show (((((w11.drewN n_).setCell ⟨gb155, 0, none⟩ (.int .i8 ((rd_T81 ((rd_T31 l0 0).f1) a1).f0))).setCell ⟨gb155, 1, none⟩ (.int .i16 ((rd_T81 ((rd_T31 l0 0).f1) a1).f1))).setCell ⟨gb155, 2, none⟩ (.int .i16 ((rd_T81 ((rd_T31 l0 0).f1) a1).f2)))).cell? _ = some _ from hx156_0)); (try have hy156_1 := fun (n_ : Nat) => (show (((((w11.drewN n_).setCell ⟨gb155, 0, none⟩ (.int .i8 ((rd_T81 ((rd_T31 l0 0).f1) a1).f0))).setCell ⟨gb155, 1, none⟩ (.int .i16 ((rd_T81 ((rd_T31 l0 0).f1) a1).f1))).setCell ⟨gb155, 2, none⟩ (.int .i16 ((rd_T81 ((rd_T31 l0 0).f1) a1).f2)))).cell? _ = some _ from hx156_1)); (try have hy156_2 := fun (n_ : Nat) => (show (((((w11.drewN n_).setCell ⟨gb155, 0, none⟩ (.int .i8 ((rd_T81 ((rd_T31 l0 0).f1) a1).f0))).setCell ⟨gb155, 1, none⟩ (.int .i16 ((rd_T81 ((rd_T31 l0 0).f1) a1).f1))).setCell ⟨gb155, 2, none⟩ (.int .i16 ((rd_T81 ((rd_T31 l0 0).f1) a1).f2)))).cell? _ = some _ from hx156_2)); clear hn156_0; clear hn156_1; clear hn156_2; replace p156 := eq_true p156; replace q156 := eq_true q156)))
              go_ret
              exact ⟨by first | rfl | (simp [errW_none, errW_some] <;> rfl) | (simp [*, errW_none, errW_some] <;> rfl), by repeat (first | (with_reducible first | exact HB.out | apply below_alloc | apply pw_below_drewN | apply below_drew1 | refine below_set ?_ GE155.out) | exact HB.out)⟩
          · rw [if_neg c7] at H
            have c7b0 : decide (0 ≤ ((rd_T81 ((rd_T31 l0 0).f1) a1).f1)) = false := decide_eq_false c7
            clear c7
            obtain rfl := Option.some.inj H
            have p153 : 0 ≤ (0 : Int) := (by omega)
            have q153 : 0 < (l0.length : Int) := of_decide_eq_true (by first | (with_reducible assumption) | assumption)
            obtain ⟨ad153, A153_1, c153_1, A153_2, c153_2, e153, hx153_0, hx153_1, hx153_2, hl153_1, hi153_1, hl153_2, hi153_2⟩ := at_T31 HR0.out 0 p153 q153
            obtain rfl : adp0 = ad153 := (by injection e153)
            have qi153 : (0 < l0.length) = True := eq_true (by omega)
            (try rw [show ((0 : Int)).toNat = 0 from rfl] at hx153_0)
            (try rw [show 0 * 3 = 0 from rfl] at hx153_0)
            (try rw [Addr.add_zero'] at hx153_0)
            (try rw [show ((0 : Int)).toNat = 0 from rfl] at hx153_1)
            (try rw [show 0 * 3 = 0 from rfl] at hx153_1)
            (try rw [Addr.add_zero'] at hx153_1)
            (try rw [show ((0 : Int)).toNat = 0 from rfl] at hx153_2)
            (try rw [show 0 * 3 = 0 from rfl] at hx153_2)
            (try rw [Addr.add_zero'] at hx153_2)
            have HR153_1 := Aside0.mk hi153_1
            have HC153_1 := Aside0.mk hl153_1
            clear hi153_1 hl153_1
            have HR153_2 := Aside0.mk hi153_2
            have HC153_2 := Aside0.mk hl153_2
            clear hi153_2 hl153_2
            replace p153 := eq_true p153
            replace q153 := eq_true q153
            have p154 : 0 ≤ (a1 : Int) := of_decide_eq_true (by first | (with_reducible assumption) | assumption)
            have q154 : a1 < (((rd_T31 l0 0).f1).length : Int) := of_decide_eq_true (by first | (with_reducible assumption) | assumption)
            obtain ⟨ad154, e154, hx154_0, hx154_1, hx154_2⟩ := at_T81 HR153_1.out a1 p154 q154
            cases e154
            replace p154 := eq_true p154
            replace q154 := eq_true q154
            go_enter Try.func125, Try.ntmps125
            go_wp2_with (first | ((with_reducible refine gate_dst (N := 5) rfl ?_); refine box_event ?hg (N := 5) ?hd (cs := #[.int .i8 0, .int .i16 0, .int .i16 0]) (t := 81) ?hr ?_; (case hd => rfl); (case hg => rfl); (case hr => first | (go_simp; done) | (go_simp; rfl)); intro gb155 hg w13 hbox hb; have n0_ := Aside0.mk (below_step (by repeat (first | (with_reducible first | exact HB.out | apply below_alloc | apply pw_below_drewN | apply below_drew1) | exact HB.out)) hb); have n1_ := Aside0.mk (hbox); have n2_ := Aside0.mk ((by rw [hg]; exact (below_size (by repeat (first | (with_reducible first | exact HB.out | apply below_alloc | apply pw_below_drewN | apply below_drew1) | exact HB.out))) : w.heap.size ≤ gb155)); have n3_ := Aside0.mk ((by rw [hg]; exact (below_size (by repeat (first | (with_reducible first | exact HB.out | apply below_alloc | apply pw_below_drewN | apply below_drew1) | exact HB.out))) : w.heap.size ≤ gb155)); clear HB; have HB := n0_; have BK155 := n1_; have GW155 := n2_; have GE155 := n3_; clear n0_ n1_ n2_ n3_; clear hb hbox hg; have hcz14_0 : w13.cell? ⟨gb155, 0, none⟩ = some (.int .i8 0) := (blk_cell BK155.out 0).trans rfl; have hcz14_1 : w13.cell? ⟨gb155, 1, none⟩ = some (.int .i16 0) := (blk_cell BK155.out 1).trans rfl; have hcz14_2 : w13.cell? ⟨gb155, 2, none⟩ = some (.int .i16 0) := (blk_cell BK155.out 2).trans rfl; have hfz14_0 := blk_frozen BK155.out 0; have hfz14_1 := blk_frozen BK155.out 1; have hfz14_2 := blk_frozen BK155.out 2))
            repeat (go_quiet (first | ((with_reducible refine gate_dst (N := 5) rfl ?_); refine box_event ?hg (N := 5) ?hd (cs := #[.int .i8 0, .int .i16 0, .int .i16 0]) (t := 81) ?hr ?_; (case hd => rfl); (case hg => rfl); (case hr => first | (go_simp; done) | (go_simp; rfl)); intro gb155 hg w13 hbox hb; have n0_ := Aside0.mk (below_step (by repeat (first | (with_reducible first | exact HB.out | apply below_alloc | apply pw_below_drewN | apply below_drew1) | exact HB.out)) hb); have n1_ := Aside0.mk (hbox); have n2_ := Aside0.mk ((by rw [hg]; exact (below_size (by repeat (first | (with_reducible first | exact HB.out | apply below_alloc | apply pw_below_drewN | apply below_drew1) | exact HB.out))) : w.heap.size ≤ gb155)); have n3_ := Aside0.mk ((by rw [hg]; exact (below_size (by repeat (first | (with_reducible first | exact HB.out | apply below_alloc | apply pw_below_drewN | apply below_drew1) | exact HB.out))) : w.heap.size ≤ gb155)); clear HB; have HB := n0_; have BK155 := n1_; have GW155 := n2_; have GE155 := n3_; clear n0_ n1_ n2_ n3_; clear hb hbox hg; have hcz14_0 : w13.cell? ⟨gb155, 0, none⟩ = some (.int .i8 0) := (blk_cell BK155.out 0).trans rfl; have hcz14_1 : w13.cell? ⟨gb155, 1, none⟩ = some (.int .i16 0) := (blk_cell BK155.out 1).trans rfl; have hcz14_2 : w13.cell? ⟨gb155, 2, none⟩ = some (.int .i16 0) := (blk_cell BK155.out 2).trans rfl; have hfz14_0 := blk_frozen BK155.out 0; have hfz14_1 := blk_frozen BK155.out 1; have hfz14_2 := blk_frozen BK155.out 2)); try go_wp2_with (first | ((with_reducible refine gate_dst (N := 5) rfl ?_); refine box_event ?hg (N := 5) ?hd (cs := #[.int .i8 0, .int .i16 0, .int .i16 0]) (t := 81) ?hr ?_; (case hd => rfl); (case hg => rfl); (case hr => first | (go_simp; done) | (go_simp; rfl)); intro gb155 hg w13 hbox hb; have n0_ := Aside0.mk (below_step (by repeat (first | (with_reducible first | exact HB.out | apply below_alloc | apply pw_below_drewN | apply below_drew1) | exact HB.out)) hb); have n1_ := Aside0.mk (hbox); have n2_ := Aside0.mk ((by rw [hg]; exact (below_size (by repeat (first | (with_reducible first | exact HB.out | apply below_alloc | apply pw_below_drewN | apply below_drew1) | exact HB.out))) : w.heap.size ≤ gb155)); have n3_ := Aside0.mk ((by rw [hg]; exact (below_size (by repeat (first | (with_reducible first | exact HB.out | apply below_alloc | apply pw_below_drewN | apply below_drew1) | exact HB.out))) : w.heap.size ≤ gb155)); clear HB; have HB := n0_; have BK155 := n1_; have GW155 := n2_; have GE155 := n3_; clear n0_ n1_ n2_ n3_; clear hb hbox hg; have hcz14_0 : w13.cell? ⟨gb155, 0, none⟩ = some (.int .i8 0) := (blk_cell BK155.out 0).trans rfl; have hcz14_1 : w13.cell? ⟨gb155, 1, none⟩ = some (.int .i16 0) := (blk_cell BK155.out 1).trans rfl; have hcz14_2 : w13.cell? ⟨gb155, 2, none⟩ = some (.int .i16 0) := (blk_cell BK155.out 2).trans rfl; have hfz14_0 := blk_frozen BK155.out 0; have hfz14_1 := blk_frozen BK155.out 1; have hfz14_2 := blk_frozen BK155.out 2)))
            go_ret
            exact ⟨by first | rfl | (simp [errW_none, errW_some] <;> rfl) | (simp [*, errW_none, errW_some] <;> rfl), by repeat (first | (with_reducible first | exact HB.out | apply below_alloc | apply pw_below_drewN | apply below_drew1 | refine below_set ?_ GE155.out) | exact HB.out)⟩
        · rw [if_neg c6] at H
          have c6b0 : (((rd_T81 ((rd_T31 l0 0).f1) a1).f0) == 0) = false := beq_eq_false_iff_ne.mpr c6
          have c6b1 : (((rd_T81 ((rd_T31 l0 0).f1) a1).f0) != 0) = true := bne_iff_ne.mpr c6
          by_cases c15 : ((rd_T81 ((rd_T31 l0 0).f1) a1).f0) = 1
          · rw [if_pos c15] at H
            have c15b0 : (((rd_T81 ((rd_T31 l0 0).f1) a1).f0) == 1) = true := beq_iff_eq.mpr c15
            have c15b1 : (((rd_T81 ((rd_T31 l0 0).f1) a1).f0) != 1) = false := bne_eq_false_iff_eq.mpr c15
            clear c15
            by_cases c16 : ((rd_T81 ((rd_T31 l0 0).f1) a1).f1) = 0
            · rw [if_pos c16] at H
              have c16b0 : (((rd_T81 ((rd_T31 l0 0).f1) a1).f1) == 0) = true := beq_iff_eq.mpr c16
              have c16b1 : (((rd_T81 ((rd_T31 l0 0).f1) a1).f1) != 0) = false := bne_eq_false_iff_eq.mpr c16
              clear c16
              obtain rfl := Option.some.inj H
              have p153 : 0 ≤ (0 : Int) := (by omega)
              have q153 : 0 < (l0.length : Int) := of_decide_eq_true (by first | (with_reducible assumption) | assumption)
              obtain ⟨ad153, A153_1, c153_1, A153_2, c153_2, e153, hx153_0, hx153_1, hx153_2, hl153_1, hi153_1, hl153_2, hi153_2⟩ := at_T31 HR0.out 0 p153 q153
              obtain rfl : adp0 = ad153 := (by injection e153)
              have qi153 : (0 < l0.length) = True := eq_true (by omega)
              (try rw [show ((0 : Int)).toNat = 0 from rfl] at hx153_0)
              (try rw [show 0 * 3 = 0 from rfl] at hx153_0)
              (try rw [Addr.add_zero'] at hx153_0)
              (try rw [show ((0 : Int)).toNat = 0 from rfl] at hx153_1)
              (try rw [show 0 * 3 = 0 from rfl] at hx153_1)
              (try rw [Addr.add_zero'] at hx153_1)
              (try rw [show ((0 : Int)).toNat = 0 from rfl] at hx153_2)
              (try rw [show 0 * 3 = 0 from rfl] at hx153_2)
              (try rw [Addr.add_zero'] at hx153_2)
              have HR153_1 := Aside0.mk hi153_1
              have HC153_1 := Aside0.mk hl153_1
              clear hi153_1 hl153_1
              have HR153_2 := Aside0.mk hi153_2
              have HC153_2 := Aside0.mk hl153_2
              clear hi153_2 hl153_2
              replace p153 := eq_true p153
              replace q153 := eq_true q153
              have p154 : 0 ≤ (a1 : Int) := of_decide_eq_true (by first | (with_reducible assumption) | assumption)
              have q154 : a1 < (((rd_T31 l0 0).f1).length : Int) := of_decide_eq_true (by first | (with_reducible assumption) | assumption)
              obtain ⟨ad154, e154, hx154_0, hx154_1, hx154_2⟩ := at_T81 HR153_1.out a1 p154 q154
              cases e154
              replace p154 := eq_true p154
              replace q154 := eq_true q154
              go_enter Try.func125, Try.ntmps125
              go_wp2_with (first | ((with_reducible refine gate_dst (N := 5) rfl ?_); refine box_event ?hg (N := 5) ?hd (cs := #[.int .i8 0, .int .i16 0, .int .i16 0]) (t := 81) ?hr ?_; (case hd => rfl); (case hg => rfl); (case hr => first | (go_simp; done) | (go_simp; rfl)); intro gb155 hg w17 hbox hb; have n0_ := Aside0.mk (below_step (by repeat (first | (with_reducible first | exact HB.out | apply below_alloc | apply pw_below_drewN | apply below_drew1) | exact HB.out)) hb); have n1_ := Aside0.mk (hbox); have n2_ := Aside0.mk ((by rw [hg]; exact (below_size (by repeat (first | (with_reducible first | exact HB.out | apply below_alloc | apply pw_below_drewN | apply below_drew1) | exact HB.out))) : w.heap.size ≤ gb155)); have n3_ := Aside0.mk ((by rw [hg]; exact (below_size (by repeat (first | (with_reducible first | exact HB.out | apply below_alloc | apply pw_below_drewN | apply below_drew1) | exact HB.out))) : w.heap.size ≤ gb155)); clear HB; have HB := n0_; have BK155 := n1_; have GW155 := n2_; have GE155 := n3_; clear n0_ n1_ n2_ n3_; clear hb hbox hg; have hcz18_0 : w17.cell? ⟨gb155, 0, none⟩ = some (.int .i8 0) := (blk_cell BK155.out 0).trans rfl; have hcz18_1 : w17.cell? ⟨gb155, 1, none⟩ = some (.int .i16 0) := (blk_cell BK155.out 1).trans rfl; have hcz18_2 : w17.cell? ⟨gb155, 2, none⟩ = some (.int .i16 0) := (blk_cell BK155.out 2).trans rfl; have hfz18_0 := blk_frozen BK155.out 0; have hfz18_1 := blk_frozen BK155.out 1; have hfz18_2 := blk_frozen BK155.out 2))
              repeat (go_quiet (first | ((with_reducible refine gate_dst (N := 5) rfl ?_); refine box_event ?hg (N := 5) ?hd (cs := #[.int .i8 0, .int .i16 0, .int .i16 0]) (t := 81) ?hr ?_; (case hd => rfl); (case hg => rfl); (case hr => first | (go_simp; done) | (go_simp; rfl)); intro gb155 hg w17 hbox hb; have n0_ := Aside0.mk (below_step (by repeat (first | (with_reducible first | exact HB.out | apply below_alloc | apply pw_below_drewN | apply below_drew1) | exact HB.out)) hb); have n1_ := Aside0.mk (hbox); have n2_ := Aside0.mk ((by rw [hg]; exact (below_size (by repeat (first | (with_reducible first | exact HB.out | apply below_alloc | apply pw_below_drewN | apply below_drew1) | exact HB.out))) : w.heap.size ≤ gb155)); have n3_ := Aside0.mk ((by rw [hg]; exact (below_size (by repeat (first | (with_reducible first | exact HB.out | apply below_alloc | apply pw_below_drewN | apply below_drew1) | exact HB.out))) : w.heap.size ≤ gb155)); clear HB; have HB := n0_; have BK155 := n1_; have GW155 := n2_; have GE155 := n3_; clear n0_ n1_ n2_ n3_; clear hb hbox hg; have hcz18_0 : w17.cell? ⟨gb155, 0, none⟩ = some (.int .i8 0) := (blk_cell BK155.out 0).trans rfl; have hcz18_1 : w17.cell? ⟨gb155, 1, none⟩ = some (.int .i16 0) := (blk_cell BK155.out 1).trans rfl; have hcz18_2 : w17.cell? ⟨gb155, 2, none⟩ = some (.int .i16 0) := (blk_cell BK155.out 2).trans rfl; have hfz18_0 := blk_frozen BK155.out 0; have hfz18_1 := blk_frozen BK155.out 1; have hfz18_2 := blk_frozen BK155.out 2)); try go_wp2_with (first | ((with_reducible refine gate_dst (N := 5) rfl ?_); refine box_event ?hg (N := 5) ?hd (cs := #[.int .i8 0, .int .i16 0, .int .i16 0]) (t := 81) ?hr ?_; (case hd => rfl); (case hg => rfl); (case hr => first | (go_simp; done) | (go_simp; rfl)); intro gb155 hg w17 hbox hb; have n0_ := Aside0.mk (below_step (by repeat (first | (with_reducible first | exact HB.out | apply below_alloc | apply pw_below_drewN | apply below_drew1) | exact HB.out)) hb); have n1_ := Aside0.mk (hbox); have n2_ := Aside0.mk ((by rw [hg]; exact (below_size (by repeat (first | (with_reducible first | exact HB.out | apply below_alloc | apply pw_below_drewN | apply below_drew1) | exact HB.out))) : w.heap.size ≤ gb155)); have n3_ := Aside0.mk ((by rw [hg]; exact (below_size (by repeat (first | (with_reducible first | exact HB.out | apply below_alloc | apply pw_below_drewN | apply below_drew1) | exact HB.out))) : w.heap.size ≤ gb155)); clear HB; have HB := n0_; have BK155 := n1_; have GW155 := n2_; have GE155 := n3_; clear n0_ n1_ n2_ n3_; clear hb hbox hg; have hcz18_0 : w17.cell? ⟨gb155, 0, none⟩ = some (.int .i8 0) := (blk_cell BK155.out 0).trans rfl; have hcz18_1 : w17.cell? ⟨gb155, 1, none⟩ = some (.int .i16 0) := (blk_cell BK155.out 1).trans rfl; have hcz18_2 : w17.cell? ⟨gb155, 2, none⟩ = some (.int .i16 0) := (blk_cell BK155.out 2).trans rfl; have hfz18_0 := blk_frozen BK155.out 0; have hfz18_1 := blk_frozen BK155.out 1; have hfz18_2 := blk_frozen BK155.out 2)))
              go_ret
              exact ⟨by first | rfl | (simp [errW_none, errW_some] <;> rfl) | (simp [*, errW_none, errW_some] <;> rfl), by repeat (first | (with_reducible first | exact HB.out | apply below_alloc | apply pw_below_drewN | apply below_drew1 | refine below_set ?_ GE155.out) | exact HB.out)⟩
            · rw [if_neg c16] at H
              have c16b0 : (((rd_T81 ((rd_T31 l0 0).f1) a1).f1) == 0) = false := beq_eq_false_iff_ne.mpr c16
              have c16b1 : (((rd_T81 ((rd_T31 l0 0).f1) a1).f1) != 0) = true := bne_iff_ne.mpr c16
              obtain rfl := Option.some.inj H
              have p153 : 0 ≤ (0 : Int) := (by omega)
              have q153 : 0 < (l0.length : Int) := of_decide_eq_true (by first | (with_reducible assumption) | assumption)
              obtain ⟨ad153, A153_1, c153_1, A153_2, c153_2, e153, hx153_0, hx153_1, hx153_2, hl153_1, hi153_1, hl153_2, hi153_2⟩ := at_T31 HR0.out 0 p153 q153
              obtain rfl : adp0 = ad153 := (by injection e153)
              have qi153 : (0 < l0.length) = True := eq_true (by omega)
              (try rw [show ((0 : Int)).toNat = 0 from rfl] at hx153_0)
              (try rw [show 0 * 3 = 0 from rfl] at hx153_0)
              (try rw [Addr.add_zero'] at hx153_0)
              (try rw [show ((0 : Int)).toNat = 0 from rfl] at hx153_1)
              (try rw [show 0 * 3 = 0 from rfl] at hx153_1)
              (try rw [Addr.add_zero'] at hx153_1)
              (try rw [show ((0 : Int)).toNat = 0 from rfl] at hx153_2)
              (try rw [show 0 * 3 = 0 from rfl] at hx153_2)
              (try rw [Addr.add_zero'] at hx153_2)
              have HR153_1 := Aside0.mk hi153_1
              have HC153_1 := Aside0.mk hl153_1
              clear hi153_1 hl153_1
              have HR153_2 := Aside0.mk hi153_2
              have HC153_2 := Aside0.mk hl153_2
              clear hi153_2 hl153_2
              replace p153 := eq_true p153
              replace q153 := eq_true q153
              have p154 : 0 ≤ (a1 : Int) := of_decide_eq_true (by first | (with_reducible assumption) | assumption)
              have q154 : a1 < (((rd_T31 l0 0).f1).length : Int) := of_decide_eq_true (by first | (with_reducible assumption) | assumption)
              obtain ⟨ad154, e154, hx154_0, hx154_1, hx154_2⟩ := at_T81 HR153_1.out a1 p154 q154
              cases e154
              replace p154 := eq_true p154
              replace q154 := eq_true q154
              go_enter Try.func125, Try.ntmps125
              go_wp2_with (first | ((with_reducible refine gate_dst (N := 5) rfl ?_); refine box_event ?hg (N := 5) ?hd (cs := #[.int .i8 0, .int .i16 0, .int .i16 0]) (t := 81) ?hr ?_; (case hd => rfl); (case hg => rfl); (case hr => first | (go_simp; done) | (go_simp; rfl)); intro gb155 hg w19 hbox hb; have n0_ := Aside0.mk (below_step (by repeat (first | (with_reducible first | exact HB.out | apply below_alloc | apply pw_below_drewN | apply below_drew1) | exact HB.out)) hb); have n1_ := Aside0.mk (hbox); have n2_ := Aside0.mk ((by rw [hg]; exact (below_size (by repeat (first | (with_reducible first | exact HB.out | apply below_alloc | apply pw_below_drewN | apply below_drew1) | exact HB.out))) : w.heap.size ≤ gb155)); have n3_ := Aside0.mk ((by rw [hg]; exact (below_size (by repeat (first | (with_reducible first | exact HB.out | apply below_alloc | apply pw_below_drewN | apply below_drew1) | exact HB.out))) : w.heap.size ≤ gb155)); clear HB; have HB := n0_; have BK155 := n1_; have GW155 := n2_; have GE155 := n3_; clear n0_ n1_ n2_ n3_; clear hb hbox hg; have hcz20_0 : w19.cell? ⟨gb155, 0, none⟩ = some (.int .i8 0) := (blk_cell BK155.out 0).trans rfl; have hcz20_1 : w19.cell? ⟨gb155, 1, none⟩ = some (.int .i16 0) := (blk_cell BK155.out 1).trans rfl; have hcz20_2 : w19.cell? ⟨gb155, 2, none⟩ = some (.int .i16 0) := (blk_cell BK155.out 2).trans rfl; have hfz20_0 := blk_frozen BK155.out 0; have hfz20_1 := blk_frozen BK155.out 1; have hfz20_2 := blk_frozen BK155.out 2))
              repeat (go_quiet (first | ((with_reducible refine gate_dst (N := 5) rfl ?_); refine box_event ?hg (N := 5) ?hd (cs := #[.int .i8 0, .int .i16 0, .int .i16 0]) (t := 81) ?hr ?_; (case hd => rfl); (case hg => rfl); (case hr => first | (go_simp; done) | (go_simp; rfl)); intro gb155 hg w19 hbox hb; have n0_ := Aside0.mk (below_step (by repeat (first | (with_reducible first | exact HB.out | apply below_alloc | apply pw_below_drewN | apply below_drew1) | exact HB.out)) hb); have n1_ := Aside0.mk (hbox); have n2_ := Aside0.mk ((by rw [hg]; exact (below_size (by repeat (first | (with_reducible first | exact HB.out | apply below_alloc | apply pw_below_drewN | apply below_drew1) | exact HB.out))) : w.heap.size ≤ gb155)); have n3_ := Aside0.mk ((by rw [hg]; exact (below_size (by repeat (first | (with_reducible first | exact HB.out | apply below_alloc | apply pw_below_drewN | apply below_drew1) | exact HB.out))) : w.heap.size ≤ gb155)); clear HB; have HB := n0_; have BK155 := n1_; have GW155 := n2_; have GE155 := n3_; clear n0_ n1_ n2_ n3_; clear hb hbox hg; have hcz20_0 : w19.cell? ⟨gb155, 0, none⟩ = some (.int .i8 0) := (blk_cell BK155.out 0).trans rfl; have hcz20_1 : w19.cell? ⟨gb155, 1, none⟩ = some (.int .i16 0) := (blk_cell BK155.out 1).trans rfl; have hcz20_2 : w19.cell? ⟨gb155, 2, none⟩ = some (.int .i16 0) := (blk_cell BK155.out 2).trans rfl; have hfz20_0 := blk_frozen BK155.out 0; have hfz20_1 := blk_frozen BK155.out 1; have hfz20_2 := blk_frozen BK155.out 2)); try go_wp2_with (first | ((with_reducible refine gate_dst (N := 5) rfl ?_); refine box_event ?hg (N := 5) ?hd (cs := #[.int .i8 0, .int .i16 0, .int .i16 0]) (t := 81) ?hr ?_; (case hd => rfl); (case hg => rfl); (case hr => first | (go_simp; done) | (go_simp; rfl)); intro gb155 hg w19 hbox hb; have n0_ := Aside0.mk (below_step (by repeat (first | (with_reducible first | exact HB.out | apply below_alloc | apply pw_below_drewN | apply below_drew1) | exact HB.out)) hb); have n1_ := Aside0.mk (hbox); have n2_ := Aside0.mk ((by rw [hg]; exact (below_size (by repeat (first | (with_reducible first | exact HB.out | apply below_alloc | apply pw_below_drewN | apply below_drew1) | exact HB.out))) : w.heap.size ≤ gb155)); have n3_ := Aside0.mk ((by rw [hg]; exact (below_size (by repeat (first | (with_reducible first | exact HB.out | apply below_alloc | apply pw_below_drewN | apply below_drew1) | exact HB.out))) : w.heap.size ≤ gb155)); clear HB; have HB := n0_; have BK155 := n1_; have GW155 := n2_; have GE155 := n3_; clear n0_ n1_ n2_ n3_; clear hb hbox hg; have hcz20_0 : w19.cell? ⟨gb155, 0, none⟩ = some (.int .i8 0) := (blk_cell BK155.out 0).trans rfl; have hcz20_1 : w19.cell? ⟨gb155, 1, none⟩ = some (.int .i16 0) := (blk_cell BK155.out 1).trans rfl; have hcz20_2 : w19.cell? ⟨gb155, 2, none⟩ = some (.int .i16 0) := (blk_cell BK155.out 2).trans rfl; have hfz20_0 := blk_frozen BK155.out 0; have hfz20_1 := blk_frozen BK155.out 1; have hfz20_2 := blk_frozen BK155.out 2)))
              go_ret
              exact ⟨by first | rfl | (simp [errW_none, errW_some] <;> rfl) | (simp [*, errW_none, errW_some] <;> rfl), by repeat (first | (with_reducible first | exact HB.out | apply below_alloc | apply pw_below_drewN | apply below_drew1 | refine below_set ?_ GE155.out) | exact HB.out)⟩
          · rw [if_neg c15] at H
            have c15b0 : (((rd_T81 ((rd_T31 l0 0).f1) a1).f0) == 1) = false := beq_eq_false_iff_ne.mpr c15
            have c15b1 : (((rd_T81 ((rd_T31 l0 0).f1) a1).f0) != 1) = true := bne_iff_ne.mpr c15
            by_cases c21 : ((rd_T81 ((rd_T31 l0 0).f1) a1).f0) = 2
            · rw [if_pos c21] at H
              have c21b0 : (((rd_T81 ((rd_T31 l0 0).f1) a1).f0) == 2) = true := beq_iff_eq.mpr c21
              have c21b1 : (((rd_T81 ((rd_T31 l0 0).f1) a1).f0) != 2) = false := bne_eq_false_iff_eq.mpr c21
              clear c21
              by_cases c22 : ((rd_T81 ((rd_T31 l0 0).f1) a1).f1) ≥ 0
              · rw [if_pos c22] at H
                have c22b0 : decide (0 ≤ ((rd_T81 ((rd_T31 l0 0).f1) a1).f1)) = true := decide_eq_true c22
                clear c22
                by_cases c23 : (wrap64 ((rd_T81 ((rd_T31 l0 0).f1) a1).f1)) < a1
                · rw [if_pos c23] at H
                  have c23b0 : decide ((wrap64 ((rd_T81 ((rd_T31 l0 0).f1) a1).f1)) < a1) = true := decide_eq_true c23
                  clear c23
                  by_cases c24 : ((rd_T81 ((rd_T31 l0 0).f1) a1).f2) ≥ 0
                  · rw [if_pos c24] at H
                    have c24b0 : decide (0 ≤ ((rd_T81 ((rd_T31 l0 0).f1) a1).f2)) = true := decide_eq_true c24
                    clear c24
                    obtain rfl := Option.some.inj H
                    have p153 : 0 ≤ (0 : Int) := (by omega)
                    have q153 : 0 < (l0.length : Int) := of_decide_eq_true (by first | (with_reducible assumption) | assumption)
                    obtain ⟨ad153, A153_1, c153_1, A153_2, c153_2, e153, hx153_0, hx153_1, hx153_2, hl153_1, hi153_1, hl153_2, hi153_2⟩ := at_T31 HR0.out 0 p153 q153
                    obtain rfl : adp0 = ad153 := (by injection e153)
                    have qi153 : (0 < l0.length) = True := eq_true (by omega)
                    (try rw [show ((0 : Int)).toNat = 0 from rfl] at hx153_0)
                    (try rw [show 0 * 3 = 0 from rfl] at hx153_0)
                    (try rw [Addr.add_zero'] at hx153_0)
                    (try rw [show ((0 : Int)).toNat = 0 from rfl] at hx153_1)
                    (try rw [show 0 * 3 = 0 from rfl] at hx153_1)
                    (try rw [Addr.add_zero'] at hx153_1)
                    (try rw [show ((0 : Int)).toNat = 0 from rfl] at hx153_2)
                    (try rw [show 0 * 3 = 0 from rfl] at hx153_2)
                    (try rw [Addr.add_zero'] at hx153_2)
                    have HR153_1 := Aside0.mk hi153_1
                    have HC153_1 := Aside0.mk hl153_1
                    clear hi153_1 hl153_1
                    have HR153_2 := Aside0.mk hi153_2
                    have HC153_2 := Aside0.mk hl153_2
                    clear hi153_2 hl153_2
                    replace p153 := eq_true p153
                    replace q153 := eq_true q153
                    have p154 : 0 ≤ (a1 : Int) := of_decide_eq_true (by first | (with_reducible assumption) | assumption)
                    have q154 : a1 < (((rd_T31 l0 0).f1).length : Int) := of_decide_eq_true (by first | (with_reducible assumption) | assumption)
                    obtain ⟨ad154, e154, hx154_0, hx154_1, hx154_2⟩ := at_T81 HR153_1.out a1 p154 q154
                    cases e154
                    replace p154 := eq_true p154
                    replace q154 := eq_true q154
                    go_enter Try.func125, Try.ntmps125
                    go_wp2_with (first | ((with_reducible refine gate_dst (N := 5) rfl ?_); refine box_event ?hg (N := 5) ?hd (cs := #[.int .i8 0, .int .i16 0, .int .i16 0]) (t := 81) ?hr ?_; (case hd => rfl); (case hg => rfl); (case hr => first | (go_simp; done) | (go_simp; rfl)); intro gb155 hg w25 hbox hb; have n0_ := Aside0.mk (below_step (by repeat (first | (with_reducible first | exact HB.out | apply below_alloc | apply pw_below_drewN | apply below_drew1) | exact HB.out)) hb); have n1_ := Aside0.mk (hbox); have n2_ := Aside0.mk ((by rw [hg]; exact (below_size (by repeat (first | (with_reducible first | exact HB.out | apply below_alloc | apply pw_below_drewN | apply below_drew1) | exact HB.out))) : w.heap.size ≤ gb155)); have n3_ := Aside0.mk ((by rw [hg]; exact (below_size (by repeat (first | (with_reducible first | exact HB.out | apply below_alloc | apply pw_below_drewN | apply below_drew1) | exact HB.out))) : w.heap.size ≤ gb155)); clear HB; have HB := n0_; have BK155 := n1_; have GW155 := n2_; have GE155 := n3_; clear n0_ n1_ n2_ n3_; clear hb hbox hg; have hcz26_0 : w25.cell? ⟨gb155, 0, none⟩ = some (.int .i8 0) := (blk_cell BK155.out 0).trans rfl; have hcz26_1 : w25.cell? ⟨gb155, 1, none⟩ = some (.int .i16 0) := (blk_cell BK155.out 1).trans rfl; have hcz26_2 : w25.cell? ⟨gb155, 2, none⟩ = some (.int .i16 0) := (blk_cell BK155.out 2).trans rfl; have hfz26_0 := blk_frozen BK155.out 0; have hfz26_1 := blk_frozen BK155.out 1; have hfz26_2 := blk_frozen BK155.out 2))
                    repeat (go_quiet (first | ((with_reducible refine gate_dst (N := 5) rfl ?_); refine box_event ?hg (N := 5) ?hd (cs := #[.int .i8 0, .int .i16 0, .int .i16 0]) (t := 81) ?hr ?_; (case hd => rfl); (case hg => rfl); (case hr => first | (go_simp; done) | (go_simp; rfl)); intro gb155 hg w25 hbox hb; have n0_ := Aside0.mk (below_step (by repeat (first | (with_reducible first | exact HB.out | apply below_alloc | apply pw_below_drewN | apply below_drew1) | exact HB.out)) hb); have n1_ := Aside0.mk (hbox); have n2_ := Aside0.mk ((by rw [hg]; exact (below_size (by repeat (first | (with_reducible first | exact HB.out | apply below_alloc | apply pw_below_drewN | apply below_drew1) | exact HB.out))) : w.heap.size ≤ gb155)); have n3_ := Aside0.mk ((by rw [hg]; exact (below_size (by repeat (first | (with_reducible first | exact HB.out | apply below_alloc | apply pw_below_drewN | apply below_drew1) | exact HB.out))) : w.heap.size ≤ gb155)); clear HB; have HB := n0_; have BK155 := n1_; have GW155 := n2_; have GE155 := n3_; clear n0_ n1_ n2_ n3_; clear hb hbox hg; have hcz26_0 : w25.cell? ⟨gb155, 0, none⟩ = some (.int .i8 0) := (blk_cell BK155.out 0).trans rfl; have hcz26_1 : w25.cell? ⟨gb155, 1, none⟩ = some (.int .i16 0) := (blk_cell BK155.out 1).trans rfl; have hcz26_2 : w25.cell? ⟨gb155, 2, none⟩ = some (.int .i16 0) := (blk_cell BK155.out 2).trans rfl; have hfz26_0 := blk_frozen BK155.out 0; have hfz26_1 := blk_frozen BK155.out 1; have hfz26_2 := blk_frozen BK155.out 2)); try go_wp2_with (first | ((with_reducible refine gate_dst (N := 5) rfl ?_); refine box_event ?hg (N := 5) ?hd (cs := #[.int .i8 0, .int .i16 0, .int .i16 0]) (t := 81) ?hr ?_; (case hd => rfl); (case hg => rfl); (case hr => first | (go_simp; done) | (go_simp; rfl)); intro gb155 hg w25 hbox hb; have n0_ := Aside0.mk (below_step (by repeat (first | (with_reducible first | exact HB.out | apply below_alloc | apply pw_below_drewN | apply below_drew1) | exact HB.out)) hb); have n1_ := Aside0.mk (hbox); have n2_ := Aside0.mk ((by rw [hg]; exact (below_size (by repeat (first | (with_reducible first | exact HB.out | apply below_alloc | apply pw_below_drewN | apply below_drew1) | exact HB.out))) : w.heap.size ≤ gb155)); have n3_ := Aside0.mk ((by rw [hg]; exact (below_size (by repeat (first | (with_reducible first | exact HB.out | apply below_alloc | apply pw_below_drewN | apply below_drew1) | exact HB.out))) : w.heap.size ≤ gb155)); clear HB; have HB := n0_; have BK155 := n1_; have GW155 := n2_; have GE155 := n3_; clear n0_ n1_ n2_ n3_; clear hb hbox hg; have hcz26_0 : w25.cell? ⟨gb155, 0, none⟩ = some (.int .i8 0) := (blk_cell BK155.out 0).trans rfl; have hcz26_1 : w25.cell? ⟨gb155, 1, none⟩ = some (.int .i16 0) := (blk_cell BK155.out 1).trans rfl; have hcz26_2 : w25.cell? ⟨gb155, 2, none⟩ = some (.int .i16 0) := (blk_cell BK155.out 2).trans rfl; have hfz26_0 := blk_frozen BK155.out 0; have hfz26_1 := blk_frozen BK155.out 1; have hfz26_2 := blk_frozen BK155.out 2)))
                    go_ret
                    exact ⟨by first | rfl | (simp [errW_none, errW_some] <;> rfl) | (simp [*, errW_none, errW_some] <;> rfl), by repeat (first | (with_reducible first | exact HB.out | apply below_alloc | apply pw_below_drewN | apply below_drew1 | refine below_set ?_ GE155.out) | exact HB.out)⟩
                  · rw [if_neg c24] at H
                    have c24b0 : decide (0 ≤ ((rd_T81 ((rd_T31 l0 0).f1) a1).f2)) = false := decide_eq_false c24
                    clear c24
                    obtain rfl := Option.some.inj H
                    have p153 : 0 ≤ (0 : Int) := (by omega)
                    have q153 : 0 < (l0.length : Int) := of_decide_eq_true (by first | (with_reducible assumption) | assumption)
                    obtain ⟨ad153, A153_1, c153_1, A153_2, c153_2, e153, hx153_0, hx153_1, hx153_2, hl153_1, hi153_1, hl153_2, hi153_2⟩ := at_T31 HR0.out 0 p153 q153
                    obtain rfl : adp0 = ad153 := (by injection e153)
                    have qi153 : (0 < l0.length) = True := eq_true (by omega)
                    (try rw [show ((0 : Int)).toNat = 0 from rfl] at hx153_0)
                    (try rw [show 0 * 3 = 0 from rfl] at hx153_0)
                    (try rw [Addr.add_zero'] at hx153_0)
                    (try rw [show ((0 : Int)).toNat = 0 from rfl] at hx153_1)
                    (try rw [show 0 * 3 = 0 from rfl] at hx153_1)
                    (try rw [Addr.add_zero'] at hx153_1)
                    (try rw [show ((0 : Int)).toNat = 0 from rfl] at hx153_2)
                    (try rw [show 0 * 3 = 0 from rfl] at hx153_2)
                    (try rw [Addr.add_zero'] at hx153_2)
                    have HR153_1 := Aside0.mk hi153_1
                    have HC153_1 := Aside0.mk hl153_1
                    clear hi153_1 hl153_1
                    have HR153_2 := Aside0.mk hi153_2
                    have HC153_2 := Aside0.mk hl153_2
                    clear hi153_2 hl153_2
                    replace p153 := eq_true p153
                    replace q153 := eq_true q153
                    have p154 : 0 ≤ (a1 : Int) := of_decide_eq_true (by first | (with_reducible assumption) | assumption)
                    have q154 : a1 < (((rd_T31 l0 0).f1).length : Int) := of_decide_eq_true (by first | (with_reducible assumption) | assumption)
                    obtain ⟨ad154, e154, hx154_0, hx154_1, hx154_2⟩ := at_T81 HR153_1.out a1 p154 q154
                    cases e154
                    replace p154 := eq_true p154
                    replace q154 := eq_true q154
                    go_enter Try.func125, Try.ntmps125
                    go_wp2_with (first | ((with_reducible refine gate_dst (N := 5) rfl ?_); refine box_event ?hg (N := 5) ?hd (cs := #[.int .i8 0, .int .i16 0, .int .i16 0]) (t := 81) ?hr ?_; (case hd => rfl); (case hg => rfl); (case hr => first | (go_simp; done) | (go_simp; rfl)); intro gb155 hg w27 hbox hb; have n0_ := Aside0.mk (below_step (by repeat (first | (with_reducible first | exact HB.out | apply below_alloc | apply pw_below_drewN | apply below_drew1) | exact HB.out)) hb); have n1_ := Aside0.mk (hbox); have n2_ := Aside0.mk ((by rw [hg]; exact (below_size (by repeat (first | (with_reducible first | exact HB.out | apply below_alloc | apply pw_below_drewN | apply below_drew1) | exact HB.out))) : w.heap.size ≤ gb155)); have n3_ := Aside0.mk ((by rw [hg]; exact (below_size (by repeat (first | (with_reducible first | exact HB.out | apply below_alloc | apply pw_below_drewN | apply below_drew1) | exact HB.out))) : w.heap.size ≤ gb155)); clear HB; have HB := n0_; have BK155 := n1_; have GW155 := n2_; have GE155 := n3_; clear n0_ n1_ n2_ n3_; clear hb hbox hg; have hcz28_0 : w27.cell? ⟨gb155, 0, none⟩ = some (.int .i8 0) := (blk_cell BK155.out 0).trans rfl; have hcz28_1 : w27.cell? ⟨gb155, 1, none⟩ = some (.int .i16 0) := (blk_cell BK155.out 1).trans rfl; have hcz28_2 : w27.cell? ⟨gb155, 2, none⟩ = some (.int .i16 0) := (blk_cell BK155.out 2).trans rfl; have hfz28_0 := blk_frozen BK155.out 0; have hfz28_1 := blk_frozen BK155.out 1; have hfz28_2 := blk_frozen BK155.out 2))
                    repeat (go_quiet (first | ((with_reducible refine gate_dst (N := 5) rfl ?_); refine box_event ?hg (N := 5) ?hd (cs := #[.int .i8 0, .int .i16 0, .int .i16 0]) (t := 81) ?hr ?_; (case hd => rfl); (case hg => rfl); (case hr => first | (go_simp; done) | (go_simp; rfl)); intro gb155 hg w27 hbox hb; have n0_ := Aside0.mk (below_step (by repeat (first | (with_reducible first | exact HB.out | apply below_alloc | apply pw_below_drewN | apply below_drew1) | exact HB.out)) hb); have n1_ := Aside0.mk (hbox); have n2_ := Aside0.mk ((by rw [hg]; exact (below_size (by repeat (first | (with_reducible first | exact HB.out | apply below_alloc | apply pw_below_drewN | apply below_drew1) | exact HB.out))) : w.heap.size ≤ gb155)); have n3_ := Aside0.mk ((by rw [hg]; exact (below_size (by repeat (first | (with_reducible first | exact HB.out | apply below_alloc | apply pw_below_drewN | apply below_drew1) | exact HB.out))) : w.heap.size ≤ gb155)); clear HB; have HB := n0_; have BK155 := n1_; have GW155 := n2_; have GE155 := n3_; clear n0_ n1_ n2_ n3_; clear hb hbox hg; have hcz28_0 : w27.cell? ⟨gb155, 0, none⟩ = some (.int .i8 0) := (blk_cell BK155.out 0).trans rfl; have hcz28_1 : w27.cell? ⟨gb155, 1, none⟩ = some (.int .i16 0) := (blk_cell BK155.out 1).trans rfl; have hcz28_2 : w27.cell? ⟨gb155, 2, none⟩ = some (.int .i16 0) := (blk_cell BK155.out 2).trans rfl; have hfz28_0 := blk_frozen BK155.out 0; have hfz28_1 := blk_frozen BK155.out 1; have hfz28_2 := blk_frozen BK155.out 2)); try go_wp2_with (first | ((with_reducible refine gate_dst (N := 5) rfl ?_); refine box_event ?hg (N := 5) ?hd (cs := #[.int .i8 0, .int .i16 0, .int .i16 0]) (t := 81) ?hr ?_; (case hd => rfl); (case hg => rfl); (case hr => first | (go_simp; done) | (go_simp; rfl)); intro gb155 hg w27 hbox hb; have n0_ := Aside0.mk (below_step (by repeat (first | (with_reducible first | exact HB.out | apply below_alloc | apply pw_below_drewN | apply below_drew1) | exact HB.out)) hb); have n1_ := Aside0.mk (hbox); have n2_ := Aside0.mk ((by rw [hg]; exact (below_size (by repeat (first | (with_reducible first | exact HB.out | apply below_alloc | apply pw_below_drewN | apply below_drew1) | exact HB.out))) : w.heap.size ≤ gb155)); have n3_ := Aside0.mk ((by rw [hg]; exact (below_size (by repeat (first | (with_reducible first | exact HB.out | apply below_alloc | apply pw_below_drewN | apply below_drew1) | exact HB.out))) : w.heap.size ≤ gb155)); clear HB; have HB := n0_; have BK155 := n1_; have GW155 := n2_; have GE155 := n3_; clear n0_ n1_ n2_ n3_; clear hb hbox hg; have hcz28_0 : w27.cell? ⟨gb155, 0, none⟩ = some (.int .i8 0) := (blk_cell BK155.out 0).trans rfl; have hcz28_1 : w27.cell? ⟨gb155, 1, none⟩ = some (.int .i16 0) := (blk_cell BK155.out 1).trans rfl; have hcz28_2 : w27.cell? ⟨gb155, 2, none⟩ = some (.int .i16 0) := (blk_cell BK155.out 2).trans rfl; have hfz28_0 := blk_frozen BK155.out 0; have hfz28_1 := blk_frozen BK155.out 1; have hfz28_2 := blk_frozen BK155.out 2)))
                    go_ret
                    exact ⟨by first | rfl | (simp [errW_none, errW_some] <;> rfl) | (simp [*, errW_none, errW_some] <;> rfl), by repeat (first | (with_reducible first | exact HB.out | apply below_alloc | apply pw_below_drewN | apply below_drew1 | refine below_set ?_ GE155.out) | exact HB.out)⟩
                · rw [if_neg c23] at H
                  have c23b0 : decide ((wrap64 ((rd_T81 ((rd_T31 l0 0).f1) a1).f1)) < a1) = false := decide_eq_false c23
                  clear c23
                  obtain rfl := Option.some.inj H
                  have p153 : 0 ≤ (0 : Int) := (by omega)
                  have q153 : 0 < (l0.length : Int) := of_decide_eq_true (by first | (with_reducible assumption) | assumption)
                  obtain ⟨ad153, A153_1, c153_1, A153_2, c153_2, e153, hx153_0, hx153_1, hx153_2, hl153_1, hi153_1, hl153_2, hi153_2⟩ := at_T31 HR0.out 0 p153 q153
                  obtain rfl : adp0 = ad153 := (by injection e153)
                  have qi153 : (0 < l0.length) = True := eq_true (by omega)
                  (try rw [show ((0 : Int)).toNat = 0 from rfl] at hx153_0)
                  (try rw [show 0 * 3 = 0 from rfl] at hx153_0)
                  (try rw [Addr.add_zero'] at hx153_0)
                  (try rw [show ((0 : Int)).toNat = 0 from rfl] at hx153_1)
                  (try rw [show 0 * 3 = 0 from rfl] at hx153_1)
                  (try rw [Addr.add_zero'] at hx153_1)
                  (try rw [show ((0 : Int)).toNat = 0 from rfl] at hx153_2)
                  (try rw [show 0 * 3 = 0 from rfl] at hx153_2)
                  (try rw [Addr.add_zero'] at hx153_2)
                  have HR153_1 := Aside0.mk hi153_1
                  have HC153_1 := Aside0.mk hl153_1
                  clear hi153_1 hl153_1
                  have HR153_2 := Aside0.mk hi153_2
                  have HC153_2 := Aside0.mk hl153_2
                  clear hi153_2 hl153_2
                  replace p153 := eq_true p153
                  replace q153 := eq_true q153
                  have p154 : 0 ≤ (a1 : Int) := of_decide_eq_true (by first | (with_reducible assumption) | assumption)
                  have q154 : a1 < (((rd_T31 l0 0).f1).length : Int) := of_decide_eq_true (by first | (with_reducible assumption) | assumption)
                  obtain ⟨ad154, e154, hx154_0, hx154_1, hx154_2⟩ := at_T81 HR153_1.out a1 p154 q154
                  cases e154
                  replace p154 := eq_true p154
                  replace q154 := eq_true q154
                  go_enter Try.func125, Try.ntmps125
                  go_wp2_with (first | ((with_reducible refine gate_dst (N := 5) rfl ?_); refine box_event ?hg (N := 5) ?hd (cs := #[.int .i8 0, .int .i16 0, .int .i16 0]) (t := 81) ?hr ?_; (case hd => rfl); (case hg => rfl); (case hr => first | (go_simp; done) | (go_simp; rfl)); intro gb155 hg w29 hbox hb; have n0_ := Aside0.mk (below_step (by repeat (first | (with_reducible first | exact HB.out | apply below_alloc | apply pw_below_drewN | apply below_drew1) | exact HB.out)) hb); have n1_ := Aside0.mk (hbox); have n2_ := Aside0.mk ((by rw [hg]; exact (below_size (by repeat (first | (with_reducible first | exact HB.out | apply below_alloc | apply pw_below_drewN | apply below_drew1) | exact HB.out))) : w.heap.size ≤ gb155)); have n3_ := Aside0.mk ((by rw [hg]; exact (below_size (by repeat (first | (with_reducible first | exact HB.out | apply below_alloc | apply pw_below_drewN | apply below_drew1) | exact HB.out))) : w.heap.size ≤ gb155)); clear HB; have HB := n0_; have BK155 := n1_; have GW155 := n2_; have GE155 := n3_; clear n0_ n1_ n2_ n3_; clear hb hbox hg; have hcz30_0 : w29.cell? ⟨gb155, 0, none⟩ = some (.int .i8 0) := (blk_cell BK155.out 0).trans rfl; have hcz30_1 : w29.cell? ⟨gb155, 1, none⟩ = some (.int .i16 0) := (blk_cell BK155.out 1).trans rfl; have hcz30_2 : w29.cell? ⟨gb155, 2, none⟩ = some (.int .i16 0) := (blk_cell BK155.out 2).trans rfl; have hfz30_0 := blk_frozen BK155.out 0; have hfz30_1 := blk_frozen BK155.out 1; have hfz30_2 := blk_frozen BK155.out 2))
                  repeat (go_quiet (first | ((with_reducible refine gate_dst (N := 5) rfl ?_); refine box_event ?hg (N := 5) ?hd (cs := #[.int .i8 0, .int .i16 0, .int .i16 0]) (t := 81) ?hr ?_; (case hd => rfl); (case hg => rfl); (case hr => first | (go_simp; done) | (go_simp; rfl)); intro gb155 hg w29 hbox hb; have n0_ := Aside0.mk (below_step (by repeat (first | (with_reducible first | exact HB.out | apply below_alloc | apply pw_below_drewN | apply below_drew1) | exact HB.out)) hb); have n1_ := Aside0.mk (hbox); have n2_ := Aside0.mk ((by rw [hg]; exact (below_size (by repeat (first | (with_reducible first | exact HB.out | apply below_alloc | apply pw_below_drewN | apply below_drew1) | exact HB.out))) : w.heap.size ≤ gb155)); have n3_ := Aside0.mk ((by rw [hg]; exact (below_size (by repeat (first | (with_reducible first | exact HB.out | apply below_alloc | apply pw_below_drewN | apply below_drew1) | exact HB.out))) : w.heap.size ≤ gb155)); clear HB; have HB := n0_; have BK155 := n1_; have GW155 := n2_; have GE155 := n3_; clear n0_ n1_ n2_ n3_; clear hb hbox hg; have hcz30_0 : w29.cell? ⟨gb155, 0, none⟩ = some (.int .i8 0) := (blk_cell BK155.out 0).trans rfl; have hcz30_1 : w29.cell? ⟨gb155, 1, none⟩ = some (.int .i16 0) := (blk_cell BK155.out 1).trans rfl; have hcz30_2 : w29.cell? ⟨gb155, 2, none⟩ = some (.int .i16 0) := (blk_cell BK155.out 2).trans rfl; have hfz30_0 := blk_frozen BK155.out 0; have hfz30_1 := blk_frozen BK155.out 1; have hfz30_2 := blk_frozen BK155.out 2)); try go_wp2_with (first | ((with_reducible refine gate_dst (N := 5) rfl ?_); refine box_event ?hg (N := 5) ?hd (cs := #[.int .i8 0, .int .i16 0, .int .i16 0]) (t := 81) ?hr ?_; (case hd => rfl); (case hg => rfl); (case hr => first | (go_simp; done) | (go_simp; rfl)); intro gb155 hg w29 hbox hb; have n0_ := Aside0.mk (below_step (by repeat (first | (with_reducible first | exact HB.out | apply below_alloc | apply pw_below_drewN | apply below_drew1) | exact HB.out)) hb); have n1_ := Aside0.mk (hbox); have n2_ := Aside0.mk ((by rw [hg]; exact (below_size (by repeat (first | (with_reducible first | exact HB.out | apply below_alloc | apply pw_below_drewN | apply below_drew1) | exact HB.out))) : w.heap.size ≤ gb155)); have n3_ := Aside0.mk ((by rw [hg]; exact (below_size (by repeat (first | (with_reducible first | exact HB.out | apply below_alloc | apply pw_below_drewN | apply below_drew1) | exact HB.out))) : w.heap.size ≤ gb155)); clear HB; have HB := n0_; have BK155 := n1_; have GW155 := n2_; have GE155 := n3_; clear n0_ n1_ n2_ n3_; clear hb hbox hg; have hcz30_0 : w29.cell? ⟨gb155, 0, none⟩ = some (.int .i8 0) := (blk_cell BK155.out 0).trans rfl; have hcz30_1 : w29.cell? ⟨gb155, 1, none⟩ = some (.int .i16 0) := (blk_cell BK155.out 1).trans rfl; have hcz30_2 : w29.cell? ⟨gb155, 2, none⟩ = some (.int .i16 0) := (blk_cell BK155.out 2).trans rfl; have hfz30_0 := blk_frozen BK155.out 0; have hfz30_1 := blk_frozen BK155.out 1; have hfz30_2 := blk_frozen BK155.out 2)))
                  go_ret
                  exact ⟨by first | rfl | (simp [errW_none, errW_some] <;> rfl) | (simp [*, errW_none, errW_some] <;> rfl), by repeat (first | (with_reducible first | exact HB.out | apply below_alloc | apply pw_below_drewN | apply below_drew1 | refine below_set ?_ GE155.out) | exact HB.out)⟩
              · rw [if_neg c22] at H
                have c22b0 : decide (0 ≤ ((rd_T81 ((rd_T31 l0 0).f1) a1).f1)) = false := decide_eq_false c22
                clear c22
                obtain rfl := Option.some.inj H
                have p153 : 0 ≤ (0 : Int) := (by omega)
                have q153 : 0 < (l0.length : Int) := of_decide_eq_true (by first | (with_reducible assumption) | assumption)
                obtain ⟨ad153, A153_1, c153_1, A153_2, c153_2, e153, hx153_0, hx153_1, hx153_2, hl153_1, hi153_1, hl153_2, hi153_2⟩ := at_T31 HR0.out 0 p153 q153
                obtain rfl : adp0 = ad153 := (by injection e153)
                have qi153 : (0 < l0.length) = True := eq_true (by omega)
                (try rw [show ((0 : Int)).toNat = 0 from rfl] at hx153_0)
                (try rw [show 0 * 3 = 0 from rfl] at hx153_0)
                (try rw [Addr.add_zero'] at hx153_0)
                (try rw [show ((0 : Int)).toNat = 0 from rfl] at hx153_1)
                (try rw [show 0 * 3 = 0 from rfl] at hx153_1)
                (try rw [Addr.add_zero'] at hx153_1)
                (try rw [show ((0 : Int)).toNat = 0 from rfl] at hx153_2)
                (try rw [show 0 * 3 = 0 from rfl] at hx153_2)
                (try rw [Addr.add_zero'] at hx153_2)
                have HR153_1 := Aside0.mk hi153_1
                have HC153_1 := Aside0.mk hl153_1
                clear hi153_1 hl153_1
                have HR153_2 := Aside0.mk hi153_2
                have HC153_2 := Aside0.mk hl153_2
                clear hi153_2 hl153_2
                replace p153 := eq_true p153
                replace q153 := eq_true q153
                have p154 : 0 ≤ (a1 : Int) := of_decide_eq_true (by first | (with_reducible assumption) | assumption)
                have q154 : a1 < (((rd_T31 l0 0).f1).length : Int) := of_decide_eq_true (by first | (with_reducible assumption) | assumption)
                obtain ⟨ad154, e154, hx154_0, hx154_1, hx154_2⟩ := at_T81 HR153_1.out a1 p154 q154
                cases e154
                replace p154 := eq_true p154
                replace q154 := eq_true q154
                go_enter Try.func125, Try.ntmps125
                go_wp2_with (first | ((with_reducible refine gate_dst (N := 5) rfl ?_); refine box_event ?hg (N := 5) ?hd (cs := #[.int .i8 0, .int .i16 0, .int .i16 0]) (t := 81) ?hr ?_; (case hd => rfl); (case hg => rfl); (case hr => first | (go_simp; done) | (go_simp; rfl)); intro gb155 hg w31 hbox hb; have n0_ := Aside0.mk (below_step (by repeat (first | (with_reducible first | exact HB.out | apply below_alloc | apply pw_below_drewN | apply below_drew1) | exact HB.out)) hb); have n1_ := Aside0.mk (hbox); have n2_ := Aside0.mk ((by rw [hg]; exact (below_size (by repeat (first | (with_reducible first | exact HB.out | apply below_alloc | apply pw_below_drewN | apply below_drew1) | exact HB.out))) : w.heap.size ≤ gb155)); have n3_ := Aside0.mk ((by rw [hg]; exact (below_size (by repeat (first | (with_reducible first | exact HB.out | apply below_alloc | apply pw_below_drewN | apply below_drew1) | exact HB.out))) : w.heap.size ≤ gb155)); clear HB; have HB := n0_; have BK155 := n1_; have GW155 := n2_; have GE155 := n3_; clear n0_ n1_ n2_ n3_; clear hb hbox hg; have hcz32_0 : w31.cell? ⟨gb155, 0, none⟩ = some (.int .i8 0) := (blk_cell BK155.out 0).trans rfl; have hcz32_1 : w31.cell? ⟨gb155, 1, none⟩ = some (.int .i16 0) := (blk_cell BK155.out 1).trans rfl; have hcz32_2 : w31.cell? ⟨gb155, 2, none⟩ = some (.int .i16 0) := (blk_cell BK155.out 2).trans rfl; have hfz32_0 := blk_frozen BK155.out 0; have hfz32_1 := blk_frozen BK155.out 1; have hfz32_2 := blk_frozen BK155.out 2))
                repeat (go_quiet (first | ((with_reducible refine gate_dst (N := 5) rfl ?_); refine box_event ?hg (N := 5) ?hd (cs := #[.int .i8 0, .int .i16 0, .int .i16 0]) (t := 81) ?hr ?_; (case hd => rfl); (case hg => rfl); (case hr => first | (go_simp; done) | (go_simp; rfl)); intro gb155 hg w31 hbox hb; have n0_ := Aside0.mk (below_step (by repeat (first | (with_reducible first | exact HB.out | apply below_alloc | apply pw_below_drewN | apply below_drew1) | exact HB.out)) hb); have n1_ := Aside0.mk (hbox); have n2_ := Aside0.mk ((by rw [hg]; exact (below_size (by repeat (first | (with_reducible first | exact HB.out | apply below_alloc | apply pw_below_drewN | apply below_drew1) | exact HB.out))) : w.heap.size ≤ gb155)); have n3_ := Aside0.mk ((by rw [hg]; exact (below_size (by repeat (first | (with_reducible first | exact HB.out | apply below_alloc | apply pw_below_drewN | apply below_drew1) | exact HB.out))) : w.heap.size ≤ gb155)); clear HB; have HB := n0_; have BK155 := n1_; have GW155 := n2_; have GE155 := n3_; clear n0_ n1_ n2_ n3_; clear hb hbox hg; have hcz32_0 : w31.cell? ⟨gb155, 0, none⟩ = some (.int .i8 0) := (blk_cell BK155.out 0).trans rfl; have hcz32_1 : w31.cell? ⟨gb155, 1, none⟩ = some (.int .i16 0) := (blk_cell BK155.out 1).trans rfl; have hcz32_2 : w31.cell? ⟨gb155, 2, none⟩ = some (.int .i16 0) := (blk_cell BK155.out 2).trans rfl; have hfz32_0 := blk_frozen BK155.out 0; have hfz32_1 := blk_frozen BK155.out 1; have hfz32_2 := blk_frozen BK155.out 2)); try go_wp2_with (first | ((with_reducible refine gate_dst (N := 5) rfl ?_); refine box_event ?hg (N := 5) ?hd (cs := #[.int .i8 0, .int .i16 0, .int .i16 0]) (t := 81) ?hr ?_; (case hd => rfl); (case hg => rfl); (case hr => first | (go_simp; done) | (go_simp; rfl)); intro gb155 hg w31 hbox hb; have n0_ := Aside0.mk (below_step (by repeat (first | (with_reducible first | exact HB.out | apply below_alloc | apply pw_below_drewN | apply below_drew1) | exact HB.out)) hb); have n1_ := Aside0.mk (hbox); have n2_ := Aside0.mk ((by rw [hg]; exact (below_size (by repeat (first | (with_reducible first | exact HB.out | apply below_alloc | apply pw_below_drewN | apply below_drew1) | exact HB.out))) : w.heap.size ≤ gb155)); have n3_ := Aside0.mk ((by rw [hg]; exact (below_size (by repeat (first | (with_reducible first | exact HB.out | apply below_alloc | apply pw_below_drewN | apply below_drew1) | exact HB.out))) : w.heap.size ≤ gb155)); clear HB; have HB := n0_; have BK155 := n1_; have GW155 := n2_; have GE155 := n3_; clear n0_ n1_ n2_ n3_; clear hb hbox hg; have hcz32_0 : w31.cell? ⟨gb155, 0, none⟩ = some (.int .i8 0) := (blk_cell BK155.out 0).trans rfl; have hcz32_1 : w31.cell? ⟨gb155, 1, none⟩ = some (.int .i16 0) := (blk_cell BK155.out 1).trans rfl; have hcz32_2 : w31.cell? ⟨gb155, 2, none⟩ = some (.int .i16 0) := (blk_cell BK155.out 2).trans rfl; have hfz32_0 := blk_frozen BK155.out 0; have hfz32_1 := blk_frozen BK155.out 1; have hfz32_2 := blk_frozen BK155.out 2)))
                go_ret
                exact ⟨by first | rfl | (simp [errW_none, errW_some] <;> rfl) | (simp [*, errW_none, errW_some] <;> rfl), by repeat (first | (with_reducible first | exact HB.out | apply below_alloc | apply pw_below_drewN | apply below_drew1 | refine below_set ?_ GE155.out) | exact HB.out)⟩
            · rw [if_neg c21] at H
              have c21b0 : (((rd_T81 ((rd_T31 l0 0).f1) a1).f0) == 2) = false := beq_eq_false_iff_ne.mpr c21
              have c21b1 : (((rd_T81 ((rd_T31 l0 0).f1) a1).f0) != 2) = true := bne_iff_ne.mpr c21
              by_cases c33 : ((rd_T81 ((rd_T31 l0 0).f1) a1).f0) = 3
              · rw [if_pos c33] at H
                have c33b0 : (((rd_T81 ((rd_T31 l0 0).f1) a1).f0) == 3) = true := beq_iff_eq.mpr c33
                have c33b1 : (((rd_T81 ((rd_T31 l0 0).f1) a1).f0) != 3) = false := bne_eq_false_iff_eq.mpr c33
                clear c33
                by_cases c34 : ((rd_T81 ((rd_T31 l0 0).f1) a1).f1) ≥ 0
                · rw [if_pos c34] at H
                  have c34b0 : decide (0 ≤ ((rd_T81 ((rd_T31 l0 0).f1) a1).f1)) = true := decide_eq_true c34
                  clear c34
                  by_cases c35 : (wrap64 ((rd_T81 ((rd_T31 l0 0).f1) a1).f1)) < a1
                  · rw [if_pos c35] at H
                    have c35b0 : decide ((wrap64 ((rd_T81 ((rd_T31 l0 0).f1) a1).f1)) < a1) = true := decide_eq_true c35
                    clear c35
                    by_cases c36 : ((rd_T81 ((rd_T31 l0 0).f1) a1).f2) ≥ 0
                    · rw [if_pos c36] at H
                      have c36b0 : decide (0 ≤ ((rd_T81 ((rd_T31 l0 0).f1) a1).f2)) = true := decide_eq_true c36
                      clear c36
                      obtain rfl := Option.some.inj H
                      have p153 : 0 ≤ (0 : Int) := (by omega)
                      have q153 : 0 < (l0.length : Int) := of_decide_eq_true (by first | (with_reducible assumption) | assumption)
                      obtain ⟨ad153, A153_1, c153_1, A153_2, c153_2, e153, hx153_0, hx153_1, hx153_2, hl153_1, hi153_1, hl153_2, hi153_2⟩ := at_T31 HR0.out 0 p153 q153
                      obtain rfl : adp0 = ad153 := (by injection e153)
                      have qi153 : (0 < l0.length) = True := eq_true (by omega)
                      (try rw [show ((0 : Int)).toNat = 0 from rfl] at hx153_0)
                      (try rw [show 0 * 3 = 0 from rfl] at hx153_0)
                      (try rw [Addr.add_zero'] at hx153_0)
                      (try rw [show ((0 : Int)).toNat = 0 from rfl] at hx153_1)
                      (try rw [show 0 * 3 = 0 from rfl] at hx153_1)
                      (try rw [Addr.add_zero'] at hx153_1)
                      (try rw [show ((0 : Int)).toNat = 0 from rfl] at hx153_2)
                      (try rw [show 0 * 3 = 0 from rfl] at hx153_2)
                      (try rw [Addr.add_zero'] at hx153_2)
                      have HR153_1 := Aside0.mk hi153_1
                      have HC153_1 := Aside0.mk hl153_1
                      clear hi153_1 hl153_1
                      have HR153_2 := Aside0.mk hi153_2
                      have HC153_2 := Aside0.mk hl153_2
                      clear hi153_2 hl153_2
                      replace p153 := eq_true p153
                      replace q153 := eq_true q153
                      have p154 : 0 ≤ (a1 : Int) := of_decide_eq_true (by first | (with_reducible assumption) | assumption)
                      have q154 : a1 < (((rd_T31 l0 0).f1).length : Int) := of_decide_eq_true (by first | (with_reducible assumption) | assumption)
                      obtain ⟨ad154, e154, hx154_0, hx154_1, hx154_2⟩ := at_T81 HR153_1.out a1 p154 q154
                      cases e154
                      replace p154 := eq_true p154
                      replace q154 := eq_true q154
                      go_enter Try.func125, Try.ntmps125
                      go_wp2_with (first | ((with_reducible refine gate_dst (N := 5) rfl ?_); refine box_event ?hg (N := 5) ?hd (cs := #[.int .i8 0, .int .i16 0, .int .i16 0]) (t := 81) ?hr ?_; (case hd => rfl); (case hg => rfl); (case hr => first | (go_simp; done) | (go_simp; rfl)); intro gb155 hg w37 hbox hb; have n0_ := Aside0.mk (below_step (by repeat (first | (with_reducible first | exact HB.out | apply below_alloc | apply pw_below_drewN | apply below_drew1) | exact HB.out)) hb); have n1_ := Aside0.mk (hbox); have n2_ := Aside0.mk ((by rw [hg]; exact (below_size (by repeat (first | (with_reducible first | exact HB.out | apply below_alloc | apply pw_below_drewN | apply below_drew1) | exact HB.out))) : w.heap.size ≤ gb155)); have n3_ := Aside0.mk ((by rw [hg]; exact (below_size (by repeat (first | (with_reducible first | exact HB.out | apply below_alloc | apply pw_below_drewN | apply below_drew1) | exact HB.out))) : w.heap.size ≤ gb155)); clear HB; have HB := n0_; have BK155 := n1_; have GW155 := n2_; have GE155 := n3_; clear n0_ n1_ n2_ n3_; clear hb hbox hg; have hcz38_0 : w37.cell? ⟨gb155, 0, none⟩ = some (.int .i8 0) := (blk_cell BK155.out 0).trans rfl; have hcz38_1 : w37.cell? ⟨gb155, 1, none⟩ = some (.int .i16 0) := (blk_cell BK155.out 1).trans rfl; have hcz38_2 : w37.cell? ⟨gb155, 2, none⟩ = some (.int .i16 0) := (blk_cell BK155.out 2).trans rfl; have hfz38_0 := blk_frozen BK155.out 0; have hfz38_1 := blk_frozen BK155.out 1; have hfz38_2 := blk_frozen BK155.out 2))
                      repeat (go_quiet (first | ((with_reducible refine gate_dst (N := 5) rfl ?_); refine box_event ?hg (N := 5) ?hd (cs := #[.int .i8 0, .int .i16 0, .int .i16 0]) (t := 81) ?hr ?_; (case hd => rfl); (case hg => rfl); (case hr => first | (go_simp; done) | (go_simp; rfl)); intro gb155 hg w37 hbox hb; have n0_ := Aside0.mk (below_step (by repeat (first | (with_reducible first | exact HB.out | apply below_alloc | apply pw_below_drewN | apply below_drew1) | exact HB.out)) hb); have n1_ := Aside0.mk (hbox); have n2_ := Aside0.mk ((by rw [hg]; exact (below_size (by repeat (first | (with_reducible first | exact HB.out | apply below_alloc | apply pw_below_drewN | apply below_drew1) | exact HB.out))) : w.heap.size ≤ gb155)); have n3_ := Aside0.mk ((by rw [hg]; exact (below_size (by repeat (first | (with_reducible first | exact HB.out | apply below_alloc | apply pw_below_drewN | apply below_drew1) | exact HB.out))) : w.heap.size ≤ gb155)); clear HB; have HB := n0_; have BK155 := n1_; have GW155 := n2_; have GE155 := n3_; clear n0_ n1_ n2_ n3_; clear hb hbox hg; have hcz38_0 : w37.cell? ⟨gb155, 0, none⟩ = some (.int .i8 0) := (blk_cell BK155.out 0).trans rfl; have hcz38_1 : w37.cell? ⟨gb155, 1, none⟩ = some (.int .i16 0) := (blk_cell BK155.out 1).trans rfl; have hcz38_2 : w37.cell? ⟨gb155, 2, none⟩ = some (.int .i16 0) := (blk_cell BK155.out 2).trans rfl; have hfz38_0 := blk_frozen BK155.out 0; have hfz38_1 := blk_frozen BK155.out 1; have hfz38_2 := blk_frozen BK155.out 2)); try go_wp2_with (first | ((with_reducible refine gate_dst (N := 5) rfl ?_); refine box_event ?hg (N := 5) ?hd (cs := #[.int .i8 0, .int .i16 0, .int .i16 0]) (t := 81) ?hr ?_; (case hd => rfl); (case hg => rfl); (case hr => first | (go_simp; done) | (go_simp; rfl)); intro gb155 hg w37 hbox hb; have n0_ := Aside0.mk (below_step (by repeat (first | (with_reducible first | exact HB.out | apply below_alloc | apply pw_below_drewN | apply below_drew1) | exact HB.out)) hb); have n1_ := Aside0.mk (hbox); have n2_ := Aside0.mk ((by rw [hg]; exact (below_size (by repeat (first | (with_reducible first | exact HB.out | apply below_alloc | apply pw_below_drewN | apply below_drew1) | exact HB.out))) : w.heap.size ≤ gb155)); have n3_ := Aside0.mk ((by rw [hg]; exact (below_size (by repeat (first | (with_reducible first | exact HB.out | apply below_alloc | apply pw_below_drewN | apply below_drew1) | exact HB.out))) : w.heap.size ≤ gb155)); clear HB; have HB := n0_; have BK155 := n1_; have GW155 := n2_; have GE155 := n3_; clear n0_ n1_ n2_ n3_; clear hb hbox hg; have hcz38_0 : w37.cell? ⟨gb155, 0, none⟩ = some (.int .i8 0) := (blk_cell BK155.out 0).trans rfl; have hcz38_1 : w37.cell? ⟨gb155, 1, none⟩ = some (.int .i16 0) := (blk_cell BK155.out 1).trans rfl; have hcz38_2 : w37.cell? ⟨gb155, 2, none⟩ = some (.int .i16 0) := (blk_cell BK155.out 2).trans rfl; have hfz38_0 := blk_frozen BK155.out 0; have hfz38_1 := blk_frozen BK155.out 1; have hfz38_2 := blk_frozen BK155.out 2)))
                      go_ret
                      exact ⟨by first | rfl | (simp [errW_none, errW_some] <;> rfl) | (simp [*, errW_none, errW_some] <;> rfl), by repeat (first | (with_reducible first | exact HB.out | apply below_alloc | apply pw_below_drewN | apply below_drew1 | refine below_set ?_ GE155.out) | exact HB.out)⟩
                    · rw [if_neg c36] at H
                      have c36b0 : decide (0 ≤ ((rd_T81 ((rd_T31 l0 0).f1) a1).f2)) = false := decide_eq_false c36
                      clear c36
                      obtain rfl := Option.some.inj H
                      have p153 : 0 ≤ (0 : Int) := (by omega)
                      have q153 : 0 < (l0.length : Int) := of_decide_eq_true (by first | (with_reducible assumption) | assumption)
                      obtain ⟨ad153, A153_1, c153_1, A153_2, c153_2, e153, hx153_0, hx153_1, hx153_2, hl153_1, hi153_1, hl153_2, hi153_2⟩ := at_T31 HR0.out 0 p153 q153
                      obtain rfl : adp0 = ad153 := (by injection e153)
                      have qi153 : (0 < l0.length) = True := eq_true (by omega)
                      (try rw [show ((0 : Int)).toNat = 0 from rfl] at hx153_0)
                      (try rw [show 0 * 3 = 0 from rfl] at hx153_0)
                      (try rw [Addr.add_zero'] at hx153_0)
                      (try rw [show ((0 : Int)).toNat = 0 from rfl] at hx153_1)
                      (try rw [show 0 * 3 = 0 from rfl] at hx153_1)
                      (try rw [Addr.add_zero'] at hx153_1)
                      (try rw [show ((0 : Int)).toNat = 0 from rfl] at hx153_2)
                      (try rw [show 0 * 3 = 0 from rfl] at hx153_2)
                      (try rw [Addr.add_zero'] at hx153_2)
                      have HR153_1 := Aside0.mk hi153_1
                      have HC153_1 := Aside0.mk hl153_1
                      clear hi153_1 hl153_1
                      have HR153_2 := Aside0.mk hi153_2
                      have HC153_2 := Aside0.mk hl153_2
                      clear hi153_2 hl153_2
                      replace p153 := eq_true p153
                      replace q153 := eq_true q153
                      have p154 : 0 ≤ (a1 : Int) := of_decide_eq_true (by first | (with_reducible assumption) | assumption)
                      have q154 : a1 < (((rd_T31 l0 0).f1).length : Int) := of_decide_eq_true (by first | (with_reducible assumption) | assumption)
                      obtain ⟨ad154, e154, hx154_0, hx154_1, hx154_2⟩ := at_T81 HR153_1.out a1 p154 q154
                      cases e154
                      replace p154 := eq_true p154
                      replace q154 := eq_true q154
                      go_enter Try.func125, Try.ntmps125
                      go_wp2_with (first | ((with_reducible refine gate_dst (N := 5) rfl ?_); refine box_event ?hg (N := 5) ?hd (cs := #[.int .i8 0, .int .i16 0, .int .i16 0]) (t := 81) ?hr ?_; (case hd => rfl); (case hg => rfl); (case hr => first | (go_simp; done) | (go_simp; rfl)); intro gb155 hg w39 hbox hb; have n0_ := Aside0.mk (below_step (by repeat (first | (with_reducible first | exact HB.out | apply below_alloc | apply pw_below_drewN | apply below_drew1) | exact HB.out)) hb); have n1_ := Aside0.mk (hbox); have n2_ := Aside0.mk ((by rw [hg]; exact (below_size (by repeat (first | (with_reducible first | exact HB.out | apply below_alloc | apply pw_below_drewN | apply below_drew1) | exact HB.out))) : w.heap.size ≤ gb155)); have n3_ := Aside0.mk ((by rw [hg]; exact (below_size (by repeat (first | (with_reducible first | exact HB.out | apply below_alloc | apply pw_below_drewN | apply below_drew1) | exact HB.out))) : w.heap.size ≤ gb155)); clear HB; have HB := n0_; have BK155 := n1_; have GW155 := n2_; have GE155 := n3_; clear n0_ n1_ n2_ n3_; clear hb hbox hg; have hcz40_0 : w39.cell? ⟨gb155, 0, none⟩ = some (.int .i8 0) := (blk_cell BK155.out 0).trans rfl; have hcz40_1 : w39.cell? ⟨gb155, 1, none⟩ = some (.int .i16 0) := (blk_cell BK155.out 1).trans rfl; have hcz40_2 : w39.cell? ⟨gb155, 2, none⟩ = some (.int .i16 0) := (blk_cell BK155.out 2).trans rfl; have hfz40_0 := blk_frozen BK155.out 0; have hfz40_1 := blk_frozen BK155.out 1; have hfz40_2 := blk_frozen BK155.out 2))
                      repeat (go_quiet (first | ((with_reducible refine gate_dst (N := 5) rfl ?_); refine box_event ?hg (N := 5) ?hd (cs := #[.int .i8 0, .int .i16 0, .int .i16 0]) (t := 81) ?hr ?_; (case hd => rfl); (case hg => rfl); (case hr => first | (go_simp; done) | (go_simp; rfl)); intro gb155 hg w39 hbox hb; have n0_ := Aside0.mk (below_step (by repeat (first | (with_reducible first | exact HB.out | apply below_alloc | apply pw_below_drewN | apply below_drew1) | exact HB.out)) hb); have n1_ := Aside0.mk (hbox); have n2_ := Aside0.mk ((by rw [hg]; exact (below_size (by repeat (first | (with_reducible first | exact HB.out | apply below_alloc | apply pw_below_drewN | apply below_drew1) | exact HB.out))) : w.heap.size ≤ gb155)); have n3_ := Aside0.mk ((by rw [hg]; exact (below_size (by repeat (first | (with_reducible first | exact HB.out | apply below_alloc | apply pw_below_drewN | apply below_drew1) | exact HB.out))) : w.heap.size ≤ gb155)); clear HB; have HB := n0_; have BK155 := n1_; have GW155 := n2_; have GE155 := n3_; clear n0_ n1_ n2_ n3_; clear hb hbox hg; have hcz40_0 : w39.cell? ⟨gb155, 0, none⟩ = some (.int .i8 0) := (blk_cell BK155.out 0).trans rfl; have hcz40_1 : w39.cell? ⟨gb155, 1, none⟩ = some (.int .i16 0) := (blk_cell BK155.out 1).trans rfl; have hcz40_2 : w39.cell? ⟨gb155, 2, none⟩ = some (.int .i16 0) := (blk_cell BK155.out 2).trans rfl; have hfz40_0 := blk_frozen BK155.out 0; have hfz40_1 := blk_frozen BK155.out 1; have hfz40_2 := blk_frozen BK155.out 2)); try go_wp2_with (first | ((with_reducible refine gate_dst (N := 5) rfl ?_); refine box_event ?hg (N := 5) ?hd (cs := #[.int .i8 0, .int .i16 0, .int .i16 0]) (t := 81) ?hr ?_; (case hd => rfl); (case hg => rfl); (case hr => first | (go_simp; done) | (go_simp; rfl)); intro gb155 hg w39 hbox hb; have n0_ := Aside0.mk (below_step (by repeat (first | (with_reducible first | exact HB.out | apply below_alloc | apply pw_below_drewN | apply below_drew1) | exact HB.out)) hb); have n1_ := Aside0.mk (hbox); have n2_ := Aside0.mk ((by rw [hg]; exact (below_size (by repeat (first | (with_reducible first | exact HB.out | apply below_alloc | apply pw_below_drewN | apply below_drew1) | exact HB.out))) : w.heap.size ≤ gb155)); have n3_ := Aside0.mk ((by rw [hg]; exact (below_size (by repeat (first | (with_reducible first | exact HB.out | apply below_alloc | apply pw_below_drewN | apply below_drew1) | exact HB.out))) : w.heap.size ≤ gb155)); clear HB; have HB := n0_; have BK155 := n1_; have GW155 := n2_; have GE155 := n3_; clear n0_ n1_ n2_ n3_; clear hb hbox hg; have hcz40_0 : w39.cell? ⟨gb155, 0, none⟩ = some (.int .i8 0) := (blk_cell BK155.out 0).trans rfl; have hcz40_1 : w39.cell? ⟨gb155, 1, none⟩ = some (.int .i16 0) := (blk_cell BK155.out 1).trans rfl; have hcz40_2 : w39.cell? ⟨gb155, 2, none⟩ = some (.int .i16 0) := (blk_cell BK155.out 2).trans rfl; have hfz40_0 := blk_frozen BK155.out 0; have hfz40_1 := blk_frozen BK155.out 1; have hfz40_2 := blk_frozen BK155.out 2)))
                      go_ret
                      exact ⟨by first | rfl | (simp [errW_none, errW_some] <;> rfl) | (simp [*, errW_none, errW_some] <;> rfl), by repeat (first | (with_reducible first | exact HB.out | apply below_alloc | apply pw_below_drewN | apply below_drew1 | refine below_set ?_ GE155.out) | exact HB.out)⟩
                  · rw [if_neg c35] at H
                    have c35b0 : decide ((wrap64 ((rd_T81 ((rd_T31 l0 0).f1) a1).f1)) < a1) = false := decide_eq_false c35
                    clear c35
                    obtain rfl := Option.some.inj H
                    have p153 : 0 ≤ (0 : Int) := (by omega)
                    have q153 : 0 < (l0.length : Int) := of_decide_eq_true (by first | (with_reducible assumption) | assumption)
                    obtain ⟨ad153, A153_1, c153_1, A153_2, c153_2, e153, hx153_0, hx153_1, hx153_2, hl153_1, hi153_1, hl153_2, hi153_2⟩ := at_T31 HR0.out 0 p153 q153
                    obtain rfl : adp0 = ad153 := (by injection e153)
                    have qi153 : (0 < l0.length) = True := eq_true (by omega)
                    (try rw [show ((0 : Int)).toNat = 0 from rfl] at hx153_0)
                    (try rw [show 0 * 3 = 0 from rfl] at hx153_0)
                    (try rw [Addr.add_zero'] at hx153_0)
                    (try rw [show ((0 : Int)).toNat = 0 from rfl] at hx153_1)
                    (try rw [show 0 * 3 = 0 from rfl] at hx153_1)
                    (try rw [Addr.add_zero'] at hx153_1)
                    (try rw [show ((0 : Int)).toNat = 0 from rfl] at hx153_2)
                    (try rw [show 0 * 3 = 0 from rfl] at hx153_2)
                    (try rw [Addr.add_zero'] at hx153_2)
                    have HR153_1 := Aside0.mk hi153_1
                    have HC153_1 := Aside0.mk hl153_1
                    clear hi153_1 hl153_1
                    have HR153_2 := Aside0.mk hi153_2
                    have HC153_2 := Aside0.mk hl153_2
                    clear hi153_2 hl153_2
                    replace p153 := eq_true p153
                    replace q153 := eq_true q153
                    have p154 : 0 ≤ (a1 : Int) := of_decide_eq_true (by first | (with_reducible assumption) | assumption)
                    have q154 : a1 < (((rd_T31 l0 0).f1).length : Int) := of_decide_eq_true (by first | (with_reducible assumption) | assumption)
                    obtain ⟨ad154, e154, hx154_0, hx154_1, hx154_2⟩ := at_T81 HR153_1.out a1 p154 q154
                    cases e154
                    replace p154 := eq_true p154
                    replace q154 := eq_true q154
                    go_enter Try.func125, Try.ntmps125
                    go_wp2_with (first | ((with_reducible refine gate_dst (N := 5) rfl ?_); refine box_event ?hg (N := 5) ?hd (cs := #[.int .i8 0, .int .i16 0, .int .i16 0]) (t := 81) ?hr ?_; (case hd => rfl); (case hg => rfl); (case hr => first | (go_simp; done) | (go_simp; rfl)); intro gb155 hg w41 hbox hb; have n0_ := Aside0.mk (below_step (by repeat (first | (with_reducible first | exact HB.out | apply below_alloc | apply pw_below_drewN | apply below_drew1) | exact HB.out)) hb); have n1_ := Aside0.mk (hbox); have n2_ := Aside0.mk ((by rw [hg]; exact (below_size (by repeat (first | (with_reducible first | exact HB.out | apply below_alloc | apply pw_below_drewN | apply below_drew1) | exact HB.out))) : w.heap.size ≤ gb155)); have n3_ := Aside0.mk ((by rw [hg]; exact (below_size (by repeat (first | (with_reducible first | exact HB.out | apply below_alloc | apply pw_below_drewN | apply below_drew1) | exact HB.out))) : w.heap.size ≤ gb155)); clear HB; have HB := n0_; have BK155 := n1_; have GW155 := n2_; have GE155 := n3_; clear n0_ n1_ n2_ n3_; clear hb hbox hg; have hcz42_0 : w41.cell? ⟨gb155, 0, none⟩ = some (.int .i8 0) := (blk_cell BK155.out 0).trans rfl; have hcz42_1 : w41.cell? ⟨gb155, 1, none⟩ = some (.int .i16 0) := (blk_cell BK155.out 1).trans rfl; have hcz42_2 : w41.cell? ⟨gb155, 2, none⟩ = some (.int .i16 0) := (blk_cell BK155.out 2).trans rfl; have hfz42_0 := blk_frozen BK155.out 0; have hfz42_1 := blk_frozen BK155.out 1; have hfz42_2 := blk_frozen BK155.out 2))
                    repeat (go_quiet (first | ((with_reducible refine gate_dst (N := 5) rfl ?_); refine box_event ?hg (N := 5) ?hd (cs := #[.int .i8 0, .int .i16 0, .int .i16 0]) (t := 81) ?hr ?_; (case hd => rfl); (case hg => rfl); (case hr => first | (go_simp; done) | (go_simp; rfl)); intro gb155 hg w41 hbox hb; have n0_ := Aside0.mk (below_step (by repeat (first | (with_reducible first | exact HB.out | apply below_alloc | apply pw_below_drewN | apply below_drew1) | exact HB.out)) hb); have n1_ := Aside0.mk (hbox); have n2_ := Aside0.mk ((by rw [hg]; exact (below_size (by repeat (first | (with_reducible first | exact HB.out | apply below_alloc | apply pw_below_drewN | apply below_drew1) | exact HB.out))) : w.heap.size ≤ gb155)); have n3_ := Aside0.mk ((by rw [hg]; exact (below_size (by repeat (first | (with_reducible first | exact HB.out | apply below_alloc | apply pw_below_drewN | apply below_drew1) | exact HB.out))) : w.heap.size ≤ gb155)); clear HB; have HB := n0_; have BK155 := n1_; have GW155 := n2_; have GE155 := n3_; clear n0_ n1_ n2_ n3_; clear hb hbox hg; have hcz42_0 : w41.cell? ⟨gb155, 0, none⟩ = some (.int .i8 0) := (blk_cell BK155.out 0).trans rfl; have hcz42_1 : w41.cell? ⟨gb155, 1, none⟩ = some (.int .i16 0) := (blk_cell BK155.out 1).trans rfl; have hcz42_2 : w41.cell? ⟨gb155, 2, none⟩ = some (.int .i16 0) := (blk_cell BK155.out 2).trans rfl; have hfz42_0 := blk_frozen BK155.out 0; have hfz42_1 := blk_frozen BK155.out 1; have hfz42_2 := blk_frozen BK155.out 2)); try go_wp2_with (first | ((with_reducible refine gate_dst (N := 5) rfl ?_); refine box_event ?hg (N := 5) ?hd (cs := #[.int .i8 0, .int .i16 0, .int .i16 0]) (t := 81) ?hr ?_; (case hd => rfl); (case hg => rfl); (case hr => first | (go_simp; done) | (go_simp; rfl)); intro gb155 hg w41 hbox hb; have n0_ := Aside0.mk (below_step (by repeat (first | (with_reducible first | exact HB.out | apply below_alloc | apply pw_below_drewN | apply below_drew1) | exact HB.out)) hb); have n1_ := Aside0.mk (hbox); have n2_ := Aside0.mk ((by rw [hg]; exact (below_size (by repeat (first | (with_reducible first | exact HB.out | apply below_alloc | apply pw_below_drewN | apply below_drew1) | exact HB.out))) : w.heap.size ≤ gb155)); have n3_ := Aside0.mk ((by rw [hg]; exact (below_size (by repeat (first | (with_reducible first | exact HB.out | apply below_alloc | apply pw_below_drewN | apply below_drew1) | exact HB.out))) : w.heap.size ≤ gb155)); clear HB; have HB := n0_; have BK155 := n1_; have GW155 := n2_; have GE155 := n3_; clear n0_ n1_ n2_ n3_; clear hb hbox hg; have hcz42_0 : w41.cell? ⟨gb155, 0, none⟩ = some (.int .i8 0) := (blk_cell BK155.out 0).trans rfl; have hcz42_1 : w41.cell? ⟨gb155, 1, none⟩ = some (.int .i16 0) := (blk_cell BK155.out 1).trans rfl; have hcz42_2 : w41.cell? ⟨gb155, 2, none⟩ = some (.int .i16 0) := (blk_cell BK155.out 2).trans rfl; have hfz42_0 := blk_frozen BK155.out 0; have hfz42_1 := blk_frozen BK155.out 1; have hfz42_2 := blk_frozen BK155.out 2)))
                    go_ret
                    exact ⟨by first | rfl | (simp [errW_none, errW_some] <;> rfl) | (simp [*, errW_none, errW_some] <;> rfl), by repeat (first | (with_reducible first | exact HB.out | apply below_alloc | apply pw_below_drewN | apply below_drew1 | refine below_set ?_ GE155.out) | exact HB.out)⟩
                · rw [if_neg c34] at H
                  have c34b0 : decide (0 ≤ ((rd_T81 ((rd_T31 l0 0).f1) a1).f1)) = false := decide_eq_false c34
                  clear c34
                  obtain rfl := Option.some.inj H
                  have p153 : 0 ≤ (0 : Int) := (by omega)
                  have q153 : 0 < (l0.length : Int) := of_decide_eq_true (by first | (with_reducible assumption) | assumption)
                  obtain ⟨ad153, A153_1, c153_1, A153_2, c153_2, e153, hx153_0, hx153_1, hx153_2, hl153_1, hi153_1, hl153_2, hi153_2⟩ := at_T31 HR0.out 0 p153 q153
                  obtain rfl : adp0 = ad153 := (by injection e153)
                  have qi153 : (0 < l0.length) = True := eq_true (by omega)
                  (try rw [show ((0 : Int)).toNat = 0 from rfl] at hx153_0)
                  (try rw [show 0 * 3 = 0 from rfl] at hx153_0)
                  (try rw [Addr.add_zero'] at hx153_0)
                  (try rw [show ((0 : Int)).toNat = 0 from rfl] at hx153_1)
                  (try rw [show 0 * 3 = 0 from rfl] at hx153_1)
                  (try rw [Addr.add_zero'] at hx153_1)
                  (try rw [show ((0 : Int)).toNat = 0 from rfl] at hx153_2)
                  (try rw [show 0 * 3 = 0 from rfl] at hx153_2)
                  (try rw [Addr.add_zero'] at hx153_2)
                  have HR153_1 := Aside0.mk hi153_1
                  have HC153_1 := Aside0.mk hl153_1
                  clear hi153_1 hl153_1
                  have HR153_2 := Aside0.mk hi153_2
                  have HC153_2 := Aside0.mk hl153_2
                  clear hi153_2 hl153_2
                  replace p153 := eq_true p153
                  replace q153 := eq_true q153
                  have p154 : 0 ≤ (a1 : Int) := of_decide_eq_true (by first | (with_reducible assumption) | assumption)
                  have q154 : a1 < (((rd_T31 l0 0).f1).length : Int) := of_decide_eq_true (by first | (with_reducible assumption) | assumption)
                  obtain ⟨ad154, e154, hx154_0, hx154_1, hx154_2⟩ := at_T81 HR153_1.out a1 p154 q154
                  cases e154
                  replace p154 := eq_true p154
                  replace q154 := eq_true q154
                  go_enter Try.func125, Try.ntmps125
                  go_wp2_with (first | ((with_reducible refine gate_dst (N := 5) rfl ?_); refine box_event ?hg (N := 5) ?hd (cs := #[.int .i8 0, .int .i16 0, .int .i16 0]) (t := 81) ?hr ?_; (case hd => rfl); (case hg => rfl); (case hr => first | (go_simp; done) | (go_simp; rfl)); intro gb155 hg w43 hbox hb; have n0_ := Aside0.mk (below_step (by repeat (first | (with_reducible first | exact HB.out | apply below_alloc | apply pw_below_drewN | apply below_drew1) | exact HB.out)) hb); have n1_ := Aside0.mk (hbox); have n2_ := Aside0.mk ((by rw [hg]; exact (below_size (by repeat (first | (with_reducible first | exact HB.out | apply below_alloc | apply pw_below_drewN | apply below_drew1) | exact HB.out))) : w.heap.size ≤ gb155)); have n3_ := Aside0.mk ((by rw [hg]; exact (below_size (by repeat (first | (with_reducible first | exact HB.out | apply below_alloc | apply pw_below_drewN | apply below_drew1) | exact HB.out))) : w.heap.size ≤ gb155)); clear HB; have HB := n0_; have BK155 := n1_; have GW155 := n2_; have GE155 := n3_; clear n0_ n1_ n2_ n3_; clear hb hbox hg; have hcz44_0 : w43.cell? ⟨gb155, 0, none⟩ = some (.int .i8 0) := (blk_cell BK155.out 0).trans rfl; have hcz44_1 : w43.cell? ⟨gb155, 1, none⟩ = some (.int .i16 0) := (blk_cell BK155.out 1).trans rfl; have hcz44_2 : w43.cell? ⟨gb155, 2, none⟩ = some (.int .i16 0) := (blk_cell BK155.out 2).trans rfl; have hfz44_0 := blk_frozen BK155.out 0; have hfz44_1 := blk_frozen BK155.out 1; have hfz44_2 := blk_frozen BK155.out 2))
                  repeat (go_quiet (first | ((with_reducible refine gate_dst (N := 5) rfl ?_); refine box_event ?hg (N := 5) ?hd (cs := #[.int .i8 0, .int .i16 0, .int .i16 0]) (t := 81) ?hr ?_; (case hd => rfl); (case hg => rfl); (case hr => first | (go_simp; done) | (go_simp; rfl)); intro gb155 hg w43 hbox hb; have n0_ := Aside0.mk (below_step (by repeat (first | (with_reducible first | exact HB.out | apply below_alloc | apply pw_below_drewN | apply below_drew1) | exact HB.out)) hb); have n1_ := Aside0.mk (hbox); have n2_ := Aside0.mk ((by rw [hg]; exact (below_size (by repeat (first | (with_reducible first | exact HB.out | apply below_alloc | apply pw_below_drewN | apply below_drew1) | exact HB.out))) : w.heap.size ≤ gb155)); have n3_ := Aside0.mk ((by rw [hg]; exact (below_size (by repeat (first | (with_reducible first | exact HB.out | apply below_alloc | apply pw_below_drewN | apply below_drew1) | exact HB.out))) : w.heap.size ≤ gb155)); clear HB; have HB := n0_; have BK155 := n1_; have GW155 := n2_; have GE155 := n3_; clear n0_ n1_ n2_ n3_; clear hb hbox hg; have hcz44_0 : w43.cell? ⟨gb155, 0, none⟩ = some (.int .i8 0) := (blk_cell BK155.out 0).trans rfl; have hcz44_1 : w43.cell? ⟨gb155, 1, none⟩ = some (.int .i16 0) := (blk_cell BK155.out 1).trans rfl; have hcz44_2 : w43.cell? ⟨gb155, 2, none⟩ = some (.int .i16 0) := (blk_cell BK155.out 2).trans rfl; have hfz44_0 := blk_frozen BK155.out 0; have hfz44_1 := blk_frozen BK155.out 1; have hfz44_2 := blk_frozen BK155.out 2)); try go_wp2_with (first | ((with_reducible refine gate_dst (N := 5) rfl ?_); refine box_event ?hg (N := 5) ?hd (cs := #[.int .i8 0, .int .i16 0, .int .i16 0]) (t := 81) ?hr ?_; (case hd => rfl); (case hg => rfl); (case hr => first | (go_simp; done) | (go_simp; rfl)); intro gb155 hg w43 hbox hb; have n0_ := Aside0.mk (below_step (by repeat (first | (with_reducible first | exact HB.out | apply below_alloc | apply pw_below_drewN | apply below_drew1) | exact HB.out)) hb); have n1_ := Aside0.mk (hbox); have n2_ := Aside0.mk ((by rw [hg]; exact (below_size (by repeat (first | (with_reducible first | exact HB.out | apply below_alloc | apply pw_below_drewN | apply below_drew1) | exact HB.out))) : w.heap.size ≤ gb155)); have n3_ := Aside0.mk ((by rw [hg]; exact (below_size (by repeat (first | (with_reducible first | exact HB.out | apply below_alloc | apply pw_below_drewN | apply below_drew1) | exact HB.out))) : w.heap.size ≤ gb155)); clear HB; have HB := n0_; have BK155 := n1_; have GW155 := n2_; have GE155 := n3_; clear n0_ n1_ n2_ n3_; clear hb hbox hg; have hcz44_0 : w43.cell? ⟨gb155, 0, none⟩ = some (.int .i8 0) := (blk_cell BK155.out 0).trans rfl; have hcz44_1 : w43.cell? ⟨gb155, 1, none⟩ = some (.int .i16 0) := (blk_cell BK155.out 1).trans rfl; have hcz44_2 : w43.cell? ⟨gb155, 2, none⟩ = some (.int .i16 0) := (blk_cell BK155.out 2).trans rfl; have hfz44_0 := blk_frozen BK155.out 0; have hfz44_1 := blk_frozen BK155.out 1; have hfz44_2 := blk_frozen BK155.out 2)))
                  go_ret
                  exact ⟨by first | rfl | (simp [errW_none, errW_some] <;> rfl) | (simp [*, errW_none, errW_some] <;> rfl), by repeat (first | (with_reducible first | exact HB.out | apply below_alloc | apply pw_below_drewN | apply below_drew1 | refine below_set ?_ GE155.out) | exact HB.out)⟩
              · rw [if_neg c33] at H
                have c33b0 : (((rd_T81 ((rd_T31 l0 0).f1) a1).f0) == 3) = false := beq_eq_false_iff_ne.mpr c33
                have c33b1 : (((rd_T81 ((rd_T31 l0 0).f1) a1).f0) != 3) = true := bne_iff_ne.mpr c33
                obtain rfl := Option.some.inj H
                have p153 : 0 ≤ (0 : Int) := (by omega)
                have q153 : 0 < (l0.length : Int) := of_decide_eq_true (by first | (with_reducible assumption) | assumption)
                obtain ⟨ad153, A153_1, c153_1, A153_2, c153_2, e153, hx153_0, hx153_1, hx153_2, hl153_1, hi153_1, hl153_2, hi153_2⟩ := at_T31 HR0.out 0 p153 q153
                obtain rfl : adp0 = ad153 := (by injection e153)
                have qi153 : (0 < l0.length) = True := eq_true (by omega)
                (try rw [show ((0 : Int)).toNat = 0 from rfl] at hx153_0)
                (try rw [show 0 * 3 = 0 from rfl] at hx153_0)
                (try rw [Addr.add_zero'] at hx153_0)
                (try rw [show ((0 : Int)).toNat = 0 from rfl] at hx153_1)
                (try rw [show 0 * 3 = 0 from rfl] at hx153_1)
                (try rw [Addr.add_zero'] at hx153_1)
                (try rw [show ((0 : Int)).toNat = 0 from rfl] at hx153_2)
                (try rw [show 0 * 3 = 0 from rfl] at hx153_2)
                (try rw [Addr.add_zero'] at hx153_2)
                have HR153_1 := Aside0.mk hi153_1
                have HC153_1 := Aside0.mk hl153_1
                clear hi153_1 hl153_1
                have HR153_2 := Aside0.mk hi153_2
                have HC153_2 := Aside0.mk hl153_2
                clear hi153_2 hl153_2
                replace p153 := eq_true p153
                replace q153 := eq_true q153
                have p154 : 0 ≤ (a1 : Int) := of_decide_eq_true (by first | (with_reducible assumption) | assumption)
                have q154 : a1 < (((rd_T31 l0 0).f1).length : Int) := of_decide_eq_true (by first | (with_reducible assumption) | assumption)
                obtain ⟨ad154, e154, hx154_0, hx154_1, hx154_2⟩ := at_T81 HR153_1.out a1 p154 q154
                cases e154
                replace p154 := eq_true p154
                replace q154 := eq_true q154
                go_enter Try.func125, Try.ntmps125
                go_wp2_with (first | ((with_reducible refine gate_dst (N := 5) rfl ?_); refine box_event ?hg (N := 5) ?hd (cs := #[.int .i8 0, .int .i16 0, .int .i16 0]) (t := 81) ?hr ?_; (case hd => rfl); (case hg => rfl); (case hr => first | (go_simp; done) | (go_simp; rfl)); intro gb155 hg w45 hbox hb; have n0_ := Aside0.mk (below_step (by repeat (first | (with_reducible first | exact HB.out | apply below_alloc | apply pw_below_drewN | apply below_drew1) | exact HB.out)) hb); have n1_ := Aside0.mk (hbox); have n2_ := Aside0.mk ((by rw [hg]; exact (below_size (by repeat (first | (with_reducible first | exact HB.out | apply below_alloc | apply pw_below_drewN | apply below_drew1) | exact HB.out))) : w.heap.size ≤ gb155)); have n3_ := Aside0.mk ((by rw [hg]; exact (below_size (by repeat (first | (with_reducible first | exact HB.out | apply below_alloc | apply pw_below_drewN | apply below_drew1) | exact HB.out))) : w.heap.size ≤ gb155)); clear HB; have HB := n0_; have BK155 := n1_; have GW155 := n2_; have GE155 := n3_; clear n0_ n1_ n2_ n3_; clear hb hbox hg; have hcz46_0 : w45.cell? ⟨gb155, 0, none⟩ = some (.int .i8 0) := (blk_cell BK155.out 0).trans rfl; have hcz46_1 : w45.cell? ⟨gb155, 1, none⟩ = some (.int .i16 0) := (blk_cell BK155.out 1).trans rfl; have hcz46_2 : w45.cell? ⟨gb155, 2, none⟩ = some (.int .i16 0) := (blk_cell BK155.out 2).trans rfl; have hfz46_0 := blk_frozen BK155.out 0; have hfz46_1 := blk_frozen BK155.out 1; have hfz46_2 := blk_frozen BK155.out 2))
                repeat (go_quiet (first | ((with_reducible refine gate_dst (N := 5) rfl ?_); refine box_event ?hg (N := 5) ?hd (cs := #[.int .i8 0, .int .i16 0, .int .i16 0]) (t := 81) ?hr ?_; (case hd => rfl); (case hg => rfl); (case hr => first | (go_simp; done) | (go_simp; rfl)); intro gb155 hg w45 hbox hb; have n0_ := Aside0.mk (below_step (by repeat (first | (with_reducible first | exact HB.out | apply below_alloc | apply pw_below_drewN | apply below_drew1) | exact HB.out)) hb); have n1_ := Aside0.mk (hbox); have n2_ := Aside0.mk ((by rw [hg]; exact (below_size (by repeat (first | (with_reducible first | exact HB.out | apply below_alloc | apply pw_below_drewN | apply below_drew1) | exact HB.out))) : w.heap.size ≤ gb155)); have n3_ := Aside0.mk ((by rw [hg]; exact (below_size (by repeat (first | (with_reducible first | exact HB.out | apply below_alloc | apply pw_below_drewN | apply below_drew1) | exact HB.out))) : w.heap.size ≤ gb155)); clear HB; have HB := n0_; have BK155 := n1_; have GW155 := n2_; have GE155 := n3_; clear n0_ n1_ n2_ n3_; clear hb hbox hg; have hcz46_0 : w45.cell? ⟨gb155, 0, none⟩ = some (.int .i8 0) := (blk_cell BK155.out 0).trans rfl; have hcz46_1 : w45.cell? ⟨gb155, 1, none⟩ = some (.int .i16 0) := (blk_cell BK155.out 1).trans rfl; have hcz46_2 : w45.cell? ⟨gb155, 2, none⟩ = some (.int .i16 0) := (blk_cell BK155.out 2).trans rfl; have hfz46_0 := blk_frozen BK155.out 0; have hfz46_1 := blk_frozen BK155.out 1; have hfz46_2 := blk_frozen BK155.out 2)); try go_wp2_with (first | ((with_reducible refine gate_dst (N := 5) rfl ?_); refine box_event ?hg (N := 5) ?hd (cs := #[.int .i8 0, .int .i16 0, .int .i16 0]) (t := 81) ?hr ?_; (case hd => rfl); (case hg => rfl); (case hr => first | (go_simp; done) | (go_simp; rfl)); intro gb155 hg w45 hbox hb; have n0_ := Aside0.mk (below_step (by repeat (first | (with_reducible first | exact HB.out | apply below_alloc | apply pw_below_drewN | apply below_drew1) | exact HB.out)) hb); have n1_ := Aside0.mk (hbox); have n2_ := Aside0.mk ((by rw [hg]; exact (below_size (by repeat (first | (with_reducible first | exact HB.out | apply below_alloc | apply pw_below_drewN | apply below_drew1) | exact HB.out))) : w.heap.size ≤ gb155)); have n3_ := Aside0.mk ((by rw [hg]; exact (below_size (by repeat (first | (with_reducible first | exact HB.out | apply below_alloc | apply pw_below_drewN | apply below_drew1) | exact HB.out))) : w.heap.size ≤ gb155)); clear HB; have HB := n0_; have BK155 := n1_; have GW155 := n2_; have GE155 := n3_; clear n0_ n1_ n2_ n3_; clear hb hbox hg; have hcz46_0 : w45.cell? ⟨gb155, 0, none⟩ = some (.int .i8 0) := (blk_cell BK155.out 0).trans rfl; have hcz46_1 : w45.cell? ⟨gb155, 1, none⟩ = some (.int .i16 0) := (blk_cell BK155.out 1).trans rfl; have hcz46_2 : w45.cell? ⟨gb155, 2, none⟩ = some (.int .i16 0) := (blk_cell BK155.out 2).trans rfl; have hfz46_0 := blk_frozen BK155.out 0; have hfz46_1 := blk_frozen BK155.out 1; have hfz46_2 := blk_frozen BK155.out 2)))
                go_ret
                exact ⟨by first | rfl | (simp [errW_none, errW_some] <;> rfl) | (simp [*, errW_none, errW_some] <;> rfl), by repeat (first | (with_reducible first | exact HB.out | apply below_alloc | apply pw_below_drewN | apply below_drew1 | refine below_set ?_ GE155.out) | exact HB.out)⟩
      · rw [if_neg c5] at H
        exact absurd H (by simp)
    · rw [if_neg c4] at H
      exact absurd H (by simp)
  · rw [if_neg c3] at H
    exact absurd H (by simp)

end Go.Proofs.Ytmpmanfoiocfgaa.PFnExactOutputTables
