-- WRITTEN by xprint.py, a program of this session's. Not trusted: Lean checks it.
import Derived.Test.YtkcbcbannbllaaaPFnExactHitsFromx0
import Derived.Test.YtkcbcbannbllaaaPFnExactHitsFromx1
namespace Go.Proofs.Ytkcbcbannbllaaa.PFnExactHitsFrom
open Go.RowKit Go.Proofs.YtkcbcbannbllaaaW.PrintWords Go.Proofs.YtkcbcbannbllaaaW.PrintLast Go.Proofs.YtkcbcbannbllaaaW.PrintMore Go.Proofs.YtkcbcbannbllaaaX
attribute [local go_sem] max2_int min2_int max_two min_two max_three min_three max_four min_four   -- for this text's walks alone
set_option linter.unusedVariables false
set_option linter.unusedSimpArgs false

/-! ### spec_l01Hits: function 71 -/
def spec_l01Hits.l0 : Nat → Int → Int → Int → Int → Option (Int)
  | 0, _, _, _, _ => none
  | k + 1, x5, x6, x7, x8 => if x8 < 4 then (if 0 ≤ (IntKind.u64.wrap (x8)) then (if (Int.tmod (shr .i64 x6 (IntKind.u64.wrap (x8))) 2) = 1 then (if 0 ≤ (IntKind.u64.wrap (Int.tmod (wrap64 (x8 + x5)) 4)) then (spec_l01Hits.l0 k x5 x6 (wrap64 (x7 + (shl .i64 1 (IntKind.u64.wrap (Int.tmod (wrap64 (x8 + x5)) 4))))) (wrap64 (x8 + 1))) else (none)) else (spec_l01Hits.l0 k x5 x6 x7 (wrap64 (x8 + 1)))) else (none)) else (some x7)
def spec_l01Hits.f (k : Nat) (l0 : List (S34)) (a1 : Int) : Option (Int) := if 0 < (l0.length : Int) then ((spec_l01Table.f).bind fun bt110 => (if 0 ≤ ((rd_T34 l0 0).f1) then (if ((rd_T34 l0 0).f1) < 6 then (if 0 ≤ (Int.tmod (wrap64 ((wrap64 (a1 + 4)) - (wrap64 ((rd_T34 l0 0).f2)))) 4) then (if (Int.tmod (wrap64 ((wrap64 (a1 + 4)) - (wrap64 ((rd_T34 l0 0).f2)))) 4) < 4 then (if (rd [rd [bt110.1, bt110.2.2.2.2.1, bt110.2.2.2.2.2.2.2.2.1, bt110.2.2.2.2.2.2.2.2.2.2.2.2.1, bt110.2.2.2.2.2.2.2.2.2.2.2.2.2.2.2.2.1, bt110.2.2.2.2.2.2.2.2.2.2.2.2.2.2.2.2.2.2.2.2.1] ((rd_T34 l0 0).f1), rd [bt110.2.1, bt110.2.2.2.2.2.1, bt110.2.2.2.2.2.2.2.2.2.1, bt110.2.2.2.2.2.2.2.2.2.2.2.2.2.1, bt110.2.2.2.2.2.2.2.2.2.2.2.2.2.2.2.2.2.1, bt110.2.2.2.2.2.2.2.2.2.2.2.2.2.2.2.2.2.2.2.2.2.1] ((rd_T34 l0 0).f1), rd [bt110.2.2.1, bt110.2.2.2.2.2.2.1, bt110.2.2.2.2.2.2.2.2.2.2.1, bt110.2.2.2.2.2.2.2.2.2.2.2.2.2.2.1, bt110.2.2.2.2.2.2.2.2.2.2.2.2.2.2.2.2.2.2.1, bt110.2.2.2.2.2.2.2.2.2.2.2.2.2.2.2.2.2.2.2.2.2.2.1] ((rd_T34 l0 0).f1), rd [bt110.2.2.2.1, bt110.2.2.2.2.2.2.2.1, bt110.2.2.2.2.2.2.2.2.2.2.2.1, bt110.2.2.2.2.2.2.2.2.2.2.2.2.2.2.2.1, bt110.2.2.2.2.2.2.2.2.2.2.2.2.2.2.2.2.2.2.2.1, bt110.2.2.2.2.2.2.2.2.2.2.2.2.2.2.2.2.2.2.2.2.2.2.2] ((rd_T34 l0 0).f1)] (Int.tmod (wrap64 ((wrap64 (a1 + 4)) - (wrap64 ((rd_T34 l0 0).f2)))) 4)) < 0 then (some (-1)) else (spec_l01Hits.l0 k (wrap64 ((rd_T34 l0 0).f2)) (rd [rd [bt110.1, bt110.2.2.2.2.1, bt110.2.2.2.2.2.2.2.2.1, bt110.2.2.2.2.2.2.2.2.2.2.2.2.1, bt110.2.2.2.2.2.2.2.2.2.2.2.2.2.2.2.2.1, bt110.2.2.2.2.2.2.2.2.2.2.2.2.2.2.2.2.2.2.2.2.1] ((rd_T34 l0 0).f1), rd [bt110.2.1, bt110.2.2.2.2.2.1, bt110.2.2.2.2.2.2.2.2.2.1, bt110.2.2.2.2.2.2.2.2.2.2.2.2.2.1, bt110.2.2.2.2.2.2.2.2.2.2.2.2.2.2.2.2.2.1, bt110.2.2.2.2.2.2.2.2.2.2.2.2.2.2.2.2.2.2.2.2.2.1] ((rd_T34 l0 0).f1), rd [bt110.2.2.1, bt110.2.2.2.2.2.2.1, bt110.2.2.2.2.2.2.2.2.2.2.1, bt110.2.2.2.2.2.2.2.2.2.2.2.2.2.2.1, bt110.2.2.2.2.2.2.2.2.2.2.2.2.2.2.2.2.2.2.1, bt110.2.2.2.2.2.2.2.2.2.2.2.2.2.2.2.2.2.2.2.2.2.2.1] ((rd_T34 l0 0).f1), rd [bt110.2.2.2.1, bt110.2.2.2.2.2.2.2.1, bt110.2.2.2.2.2.2.2.2.2.2.2.1, bt110.2.2.2.2.2.2.2.2.2.2.2.2.2.2.2.1, bt110.2.2.2.2.2.2.2.2.2.2.2.2.2.2.2.2.2.2.2.1, bt110.2.2.2.2.2.2.2.2.2.2.2.2.2.2.2.2.2.2.2.2.2.2.2] ((rd_T34 l0 0).f1)] (Int.tmod (wrap64 ((wrap64 (a1 + 4)) - (wrap64 ((rd_T34 l0 0).f2)))) 4)) 0 0)) else (none)) else (none)) else (none)) else (none))) else (none)
theorem spec_l01Hits.mono_l : ∀ k, (∀ y0 y1 y2 y3, LeO (spec_l01Hits.l0 k y0 y1 y2 y3) (spec_l01Hits.l0 (k + 1) y0 y1 y2 y3))
  | 0 => fun _ _ _ _ r h => by simp [spec_l01Hits.l0] at h
  | k + 1 => by
    have ih0 := spec_l01Hits.mono_l k
    · intro y0 y1 y2 y3
      unfold spec_l01Hits.l0
      repeat' first
      | (with_reducible exact ih0 _ _ _ _)
      | (with_reducible exact LeO.refl _)
      | (with_reducible exact LeO.none _)
      | (with_reducible refine LeO.ite ?_ ?_)
      | (with_reducible refine LeO.bind ?_ (fun _ => ?_))
      | exact ih0 _ _ _ _
      | exact LeO.none _
      | refine LeO.ite ?_ ?_
      | refine LeO.bind ?_ (fun _ => ?_)
theorem spec_l01Hits.mono : ∀ a0 a1 k, LeO (spec_l01Hits.f k a0 a1) (spec_l01Hits.f (k + 1) a0 a1) := by
  intro a0 a1 k
  have ih0 := spec_l01Hits.mono_l k
  unfold spec_l01Hits.f
  repeat' first
      | (with_reducible exact ih0 _ _ _ _)
      | (with_reducible exact LeO.refl _)
      | (with_reducible exact LeO.none _)
      | (with_reducible refine LeO.ite ?_ ?_)
      | (with_reducible refine LeO.bind ?_ (fun _ => ?_))
      | exact ih0 _ _ _ _
      | exact LeO.none _
      | refine LeO.ite ?_ ?_
      | refine LeO.bind ?_ (fun _ => ?_)
def spec_l01Hits.T2 : Bool × List (List Nat × List Nat) := (true, [([], []), ([], []), ([1], [1]), ([2], [2]), ([3], [3]), ([0, 4], [0, 4]), ([], []), ([6], [6]), ([], []), ([7, 8], [7, 8]), ([9], [9]), ([5, 10], [5, 10]), ([11, 0, 0, 1, 2, 3, 4, 5, 6, 7, 8, 9, 10, 11], [11])])
def spec_l01Hits.B2 : List Nat := [0, 0, 2, 6, 14, 31, 0, 64, 0, 448, 960, 2047, 4095]
theorem spec_l01Hits.tab2 : rtab .any (opsOf Try.f71 2) = spec_l01Hits.T2 := by kernel_rfl
theorem spec_l01Hits.bits2 : waitsOk spec_l01Hits.T2.2 spec_l01Hits.B2 = true := by kernel_rfl
set_option maxHeartbeats 8000000 in
set_option maxRecDepth 100000 in
theorem spec_l01Hits.calls (k : Nat) (adp0 : Addr) (l0 : List (S34)) (a1 : Int) (r : Int) (w : World) (hr0 : Kd.C k34 w (some adp0) l0.length l0) (h : spec_l01Hits.f k l0 a1 = some r) :
    Calls Try.prog 71 #[.pointer (some adp0), .int .i64 a1] w fun e w' => e = .returned (.int .i64 r) ∧ Below w.heap.size w w' := by
  have HR0 := Aside0.mk hr0
  clear hr0
  have HB := Aside0.mk (Below.refl w.heap.size w)
  have H : (if 0 < (l0.length : Int) then ((spec_l01Table.f).bind fun bt110 => (if 0 ≤ ((rd_T34 l0 0).f1) then (if ((rd_T34 l0 0).f1) < 6 then (if 0 ≤ (Int.tmod (wrap64 ((wrap64 (a1 + 4)) - (wrap64 ((rd_T34 l0 0).f2)))) 4) then (if (Int.tmod (wrap64 ((wrap64 (a1 + 4)) - (wrap64 ((rd_T34 l0 0).f2)))) 4) < 4 then (if (rd [rd [bt110.1, bt110.2.2.2.2.1, bt110.2.2.2.2.2.2.2.2.1, bt110.2.2.2.2.2.2.2.2.2.2.2.2.1, bt110.2.2.2.2.2.2.2.2.2.2.2.2.2.2.2.2.1, bt110.2.2.2.2.2.2.2.2.2.2.2.2.2.2.2.2.2.2.2.2.1] ((rd_T34 l0 0).f1), rd [bt110.2.1, bt110.2.2.2.2.2.1, bt110.2.2.2.2.2.2.2.2.2.1, bt110.2.2.2.2.2.2.2.2.2.2.2.2.2.1, bt110.2.2.2.2.2.2.2.2.2.2.2.2.2.2.2.2.2.1, bt110.2.2.2.2.2.2.2.2.2.2.2.2.2.2.2.2.2.2.2.2.2.1] ((rd_T34 l0 0).f1), rd [bt110.2.2.1, bt110.2.2.2.2.2.2.1, bt110.2.2.2.2.2.2.2.2.2.2.1, bt110.2.2.2.2.2.2.2.2.2.2.2.2.2.2.1, bt110.2.2.2.2.2.2.2.2.2.2.2.2.2.2.2.2.2.2.1, bt110.2.2.2.2.2.2.2.2.2.2.2.2.2.2.2.2.2.2.2.2.2.2.1] ((rd_T34 l0 0).f1), rd [bt110.2.2.2.1, bt110.2.2.2.2.2.2.2.1, bt110.2.2.2.2.2.2.2.2.2.2.2.1, bt110.2.2.2.2.2.2.2.2.2.2.2.2.2.2.2.1, bt110.2.2.2.2.2.2.2.2.2.2.2.2.2.2.2.2.2.2.2.1, bt110.2.2.2.2.2.2.2.2.2.2.2.2.2.2.2.2.2.2.2.2.2.2.2] ((rd_T34 l0 0).f1)] (Int.tmod (wrap64 ((wrap64 (a1 + 4)) - (wrap64 ((rd_T34 l0 0).f2)))) 4)) < 0 then (some (-1)) else (spec_l01Hits.l0 k (wrap64 ((rd_T34 l0 0).f2)) (rd [rd [bt110.1, bt110.2.2.2.2.1, bt110.2.2.2.2.2.2.2.2.1, bt110.2.2.2.2.2.2.2.2.2.2.2.2.1, bt110.2.2.2.2.2.2.2.2.2.2.2.2.2.2.2.2.1, bt110.2.2.2.2.2.2.2.2.2.2.2.2.2.2.2.2.2.2.2.2.1] ((rd_T34 l0 0).f1), rd [bt110.2.1, bt110.2.2.2.2.2.1, bt110.2.2.2.2.2.2.2.2.2.1, bt110.2.2.2.2.2.2.2.2.2.2.2.2.2.1, bt110.2.2.2.2.2.2.2.2.2.2.2.2.2.2.2.2.2.1, bt110.2.2.2.2.2.2.2.2.2.2.2.2.2.2.2.2.2.2.2.2.2.1] ((rd_T34 l0 0).f1), rd [bt110.2.2.1, bt110.2.2.2.2.2.2.1, bt110.2.2.2.2.2.2.2.2.2.2.1, bt110.2.2.2.2.2.2.2.2.2.2.2.2.2.2.1, bt110.2.2.2.2.2.2.2.2.2.2.2.2.2.2.2.2.2.2.1, bt110.2.2.2.2.2.2.2.2.2.2.2.2.2.2.2.2.2.2.2.2.2.2.1] ((rd_T34 l0 0).f1), rd [bt110.2.2.2.1, bt110.2.2.2.2.2.2.2.1, bt110.2.2.2.2.2.2.2.2.2.2.2.1, bt110.2.2.2.2.2.2.2.2.2.2.2.2.2.2.2.1, bt110.2.2.2.2.2.2.2.2.2.2.2.2.2.2.2.2.2.2.2.1, bt110.2.2.2.2.2.2.2.2.2.2.2.2.2.2.2.2.2.2.2.2.2.2.2] ((rd_T34 l0 0).f1)] (Int.tmod (wrap64 ((wrap64 (a1 + 4)) - (wrap64 ((rd_T34 l0 0).f2)))) 4)) 0 0)) else (none)) else (none)) else (none)) else (none))) else (none)) = some r := h
  clear h
  by_cases c3 : 0 < (l0.length : Int)
  · rw [if_pos c3] at H
    have c3b0 : decide (0 < (l0.length : Int)) = true := decide_eq_true c3
    have c3b1 : decide (0 < l0.length) = true := decide_eq_true (by omega)
    clear c3
    replace H := Option.bind_eq_some_iff.mp H
    obtain ⟨⟨t110, t111, t112, t113, t114, t115, t116, t117, t118, t119, t120, t121, t122, t123, t124, t125, t126, t127, t128, t129, t130, t131, t132, t133⟩, A40, H⟩ := H
    replace H : (if 0 ≤ ((rd_T34 l0 0).f1) then (if ((rd_T34 l0 0).f1) < 6 then (if 0 ≤ (Int.tmod (wrap64 ((wrap64 (a1 + 4)) - (wrap64 ((rd_T34 l0 0).f2)))) 4) then (if (Int.tmod (wrap64 ((wrap64 (a1 + 4)) - (wrap64 ((rd_T34 l0 0).f2)))) 4) < 4 then (if (rd [rd [t110, t114, t118, t122, t126, t130] ((rd_T34 l0 0).f1), rd [t111, t115, t119, t123, t127, t131] ((rd_T34 l0 0).f1), rd [t112, t116, t120, t124, t128, t132] ((rd_T34 l0 0).f1), rd [t113, t117, t121, t125, t129, t133] ((rd_T34 l0 0).f1)] (Int.tmod (wrap64 ((wrap64 (a1 + 4)) - (wrap64 ((rd_T34 l0 0).f2)))) 4)) < 0 then (some (-1)) else (spec_l01Hits.l0 k (wrap64 ((rd_T34 l0 0).f2)) (rd [rd [t110, t114, t118, t122, t126, t130] ((rd_T34 l0 0).f1), rd [t111, t115, t119, t123, t127, t131] ((rd_T34 l0 0).f1), rd [t112, t116, t120, t124, t128, t132] ((rd_T34 l0 0).f1), rd [t113, t117, t121, t125, t129, t133] ((rd_T34 l0 0).f1)] (Int.tmod (wrap64 ((wrap64 (a1 + 4)) - (wrap64 ((rd_T34 l0 0).f2)))) 4)) 0 0)) else (none)) else (none)) else (none)) else (none)) = some r := H
    have A4 := Aside0.mk A40
    clear A40
    by_cases c5 : 0 ≤ ((rd_T34 l0 0).f1)
    · rw [if_pos c5] at H
      have c5b0 : decide (0 ≤ ((rd_T34 l0 0).f1)) = true := decide_eq_true c5
      clear c5
      by_cases c6 : ((rd_T34 l0 0).f1) < 6
      · rw [if_pos c6] at H
        have c6b0 : decide (((rd_T34 l0 0).f1) < 6) = true := decide_eq_true c6
        clear c6
        have ar7l : 0 ≤ ((rd_T34 l0 0).f1) := of_decide_eq_true (by first | (with_reducible assumption) | assumption | exact decide_eq_true (by omega))
        have ar7h : ((rd_T34 l0 0).f1) < 6 := of_decide_eq_true (by first | (with_reducible assumption) | assumption | exact decide_eq_true (by omega))
        have ar7r : ∀ W_ : World, (Instr.index 108 (.agg #[.int .i64 t110, .int .i64 t111, .int .i64 t112, .int .i64 t113, .int .i64 t114, .int .i64 t115, .int .i64 t116, .int .i64 t117, .int .i64 t118, .int .i64 t119, .int .i64 t120, .int .i64 t121, .int .i64 t122, .int .i64 t123, .int .i64 t124, .int .i64 t125, .int .i64 t126, .int .i64 t127, .int .i64 t128, .int .i64 t129, .int .i64 t130, .int .i64 t131, .int .i64 t132, .int .i64 t133]) (.int .i8 ((rd_T34 l0 0).f1))).run Try.prog W_ = .ok (.agg #[.int .i64 (rd [t110, t114, t118, t122, t126, t130] ((rd_T34 l0 0).f1)), .int .i64 (rd [t111, t115, t119, t123, t127, t131] ((rd_T34 l0 0).f1)), .int .i64 (rd [t112, t116, t120, t124, t128, t132] ((rd_T34 l0 0).f1)), .int .i64 (rd [t113, t117, t121, t125, t129, t133] ((rd_T34 l0 0).f1))]) W_ := by
          intro W_
          have h_ : ((rd_T34 l0 0).f1) = 0 ∨ ((rd_T34 l0 0).f1) = 1 ∨ ((rd_T34 l0 0).f1) = 2 ∨ ((rd_T34 l0 0).f1) = 3 ∨ ((rd_T34 l0 0).f1) = 4 ∨ ((rd_T34 l0 0).f1) = 5 := by omega
          rcases h_ with h_ | h_ | h_ | h_ | h_ | h_ <;> (rw [h_]; first | rfl | kernel_rfl)
        clear ar7l ar7h
        obtain ⟨ji8, hji8⟩ : ∃ j_ : Int, (Int.tmod (wrap64 ((wrap64 (a1 + 4)) - (wrap64 ((rd_T34 l0 0).f2)))) 4) = j_ := ⟨_, rfl⟩
        replace H : (if 0 ≤ (ji8) then (if (ji8) < 4 then (if (rd [rd [t110, t114, t118, t122, t126, t130] ((rd_T34 l0 0).f1), rd [t111, t115, t119, t123, t127, t131] ((rd_T34 l0 0).f1), rd [t112, t116, t120, t124, t128, t132] ((rd_T34 l0 0).f1), rd [t113, t117, t121, t125, t129, t133] ((rd_T34 l0 0).f1)] (ji8)) < 0 then (some (-1)) else (spec_l01Hits.l0 k (wrap64 ((rd_T34 l0 0).f2)) (rd [rd [t110, t114, t118, t122, t126, t130] ((rd_T34 l0 0).f1), rd [t111, t115, t119, t123, t127, t131] ((rd_T34 l0 0).f1), rd [t112, t116, t120, t124, t128, t132] ((rd_T34 l0 0).f1), rd [t113, t117, t121, t125, t129, t133] ((rd_T34 l0 0).f1)] (ji8)) 0 0)) else (none)) else (none)) = some r := by first | (rw [hji8] at H; exact H) | (simp only [hji8] at H ⊢; exact H)
        (try rw [hji8] at A4)
        by_cases c9 : 0 ≤ (ji8)
        · rw [if_pos c9] at H
          have c9b0 : decide (0 ≤ (ji8)) = true := decide_eq_true c9
          clear c9
          by_cases c10 : (ji8) < 4
          · rw [if_pos c10] at H
            have c10b0 : decide ((ji8) < 4) = true := decide_eq_true c10
            clear c10
            have ar11l : 0 ≤ ji8 := of_decide_eq_true (by first | (with_reducible assumption) | assumption | exact decide_eq_true (by omega))
            have ar11h : ji8 < 4 := of_decide_eq_true (by first | (with_reducible assumption) | assumption | exact decide_eq_true (by omega))
            have ar11r : ∀ W_ : World, (Instr.index 107 (.agg #[.int .i64 (rd [t110, t114, t118, t122, t126, t130] ((rd_T34 l0 0).f1)), .int .i64 (rd [t111, t115, t119, t123, t127, t131] ((rd_T34 l0 0).f1)), .int .i64 (rd [t112, t116, t120, t124, t128, t132] ((rd_T34 l0 0).f1)), .int .i64 (rd [t113, t117, t121, t125, t129, t133] ((rd_T34 l0 0).f1))]) (.int .i64 ji8)).run Try.prog W_ = .ok (.int .i64 (rd [rd [t110, t114, t118, t122, t126, t130] ((rd_T34 l0 0).f1), rd [t111, t115, t119, t123, t127, t131] ((rd_T34 l0 0).f1), rd [t112, t116, t120, t124, t128, t132] ((rd_T34 l0 0).f1), rd [t113, t117, t121, t125, t129, t133] ((rd_T34 l0 0).f1)] (ji8))) W_ := by
              intro W_
              have h_ : ji8 = 0 ∨ ji8 = 1 ∨ ji8 = 2 ∨ ji8 = 3 := by omega
              rcases h_ with h_ | h_ | h_ | h_ <;> (rw [h_]; first | rfl | kernel_rfl)
            clear ar11l ar11h
            by_cases c12 : (rd [rd [t110, t114, t118, t122, t126, t130] ((rd_T34 l0 0).f1), rd [t111, t115, t119, t123, t127, t131] ((rd_T34 l0 0).f1), rd [t112, t116, t120, t124, t128, t132] ((rd_T34 l0 0).f1), rd [t113, t117, t121, t125, t129, t133] ((rd_T34 l0 0).f1)] (ji8)) < 0
            · rw [if_pos c12] at H
              have c12b0 : decide ((rd [rd [t110, t114, t118, t122, t126, t130] ((rd_T34 l0 0).f1), rd [t111, t115, t119, t123, t127, t131] ((rd_T34 l0 0).f1), rd [t112, t116, t120, t124, t128, t132] ((rd_T34 l0 0).f1), rd [t113, t117, t121, t125, t129, t133] ((rd_T34 l0 0).f1)] (ji8)) < 0) = true := decide_eq_true c12
              clear c12
              obtain rfl := Option.some.inj H
              have p109 : 0 ≤ (0 : Int) := (by omega)
              have q109 : 0 < (l0.length : Int) := of_decide_eq_true (by first | (with_reducible assumption) | assumption)
              obtain ⟨ad109, e109, hx109_0, hx109_1, hx109_2, hx109_3, hx109_4⟩ := at_T34 HR0.out 0 p109 q109
              obtain rfl : adp0 = ad109 := (by injection e109)
              have qi109 : (0 < l0.length) = True := eq_true (by omega)
              (try rw [show ((0 : Int)).toNat = 0 from rfl] at hx109_0)
              (try rw [show 0 * 5 = 0 from rfl] at hx109_0)
              (try rw [Addr.add_zero'] at hx109_0)
              (try rw [show ((0 : Int)).toNat = 0 from rfl] at hx109_1)
              (try rw [show 0 * 5 = 0 from rfl] at hx109_1)
              (try rw [Addr.add_zero'] at hx109_1)
              (try rw [show ((0 : Int)).toNat = 0 from rfl] at hx109_2)
              (try rw [show 0 * 5 = 0 from rfl] at hx109_2)
              (try rw [Addr.add_zero'] at hx109_2)
              (try rw [show ((0 : Int)).toNat = 0 from rfl] at hx109_3)
              (try rw [show 0 * 5 = 0 from rfl] at hx109_3)
              (try rw [Addr.add_zero'] at hx109_3)
              (try rw [show ((0 : Int)).toNat = 0 from rfl] at hx109_4)
              (try rw [show 0 * 5 = 0 from rfl] at hx109_4)
              (try rw [Addr.add_zero'] at hx109_4)
              replace p109 := eq_true p109
              replace q109 := eq_true q109
              go_enter Try.func71, Try.ntmps71
              try go_wp2
              have n0_ := Aside0.mk (below_drew1 HB.out)
              clear HB
              have HB := n0_
              clear n0_
              have p134 : 0 ≤ (0 : Int) := (by omega)
              have q134 : 0 < (l0.length : Int) := of_decide_eq_true (by first | (with_reducible assumption) | assumption)
              obtain ⟨ad134, e134, hx134_0, hx134_1, hx134_2, hx134_3, hx134_4⟩ := at_T34 HR0.out 0 p134 q134
              have hw134_4 := hx134_4
              (try rw [show ((0 : Int)).toNat = 0 from rfl] at hw134_4)
              (try rw [show 0 * 5 = 0 from rfl] at hw134_4)
              (try rw [Addr.add_zero'] at hw134_4)
              have hw134_3 := hx134_3
              (try rw [show ((0 : Int)).toNat = 0 from rfl] at hw134_3)
              (try rw [show 0 * 5 = 0 from rfl] at hw134_3)
              (try rw [Addr.add_zero'] at hw134_3)
              have hw134_2 := hx134_2
              (try rw [show ((0 : Int)).toNat = 0 from rfl] at hw134_2)
              (try rw [show 0 * 5 = 0 from rfl] at hw134_2)
              (try rw [Addr.add_zero'] at hw134_2)
              have hw134_1 := hx134_1
              (try rw [show ((0 : Int)).toNat = 0 from rfl] at hw134_1)
              (try rw [show 0 * 5 = 0 from rfl] at hw134_1)
              (try rw [Addr.add_zero'] at hw134_1)
              have hw134_0 := hx134_0
              (try rw [show ((0 : Int)).toNat = 0 from rfl] at hw134_0)
              (try rw [show 0 * 5 = 0 from rfl] at hw134_0)
              (try rw [Addr.add_zero'] at hw134_0)
              obtain rfl : adp0 = ad134 := (by injection e134)
              have qi134 : (0 < l0.length) = True := eq_true (by omega)
              (try rw [show ((0 : Int)).toNat = 0 from rfl] at hx134_0)
              (try rw [show 0 * 5 = 0 from rfl] at hx134_0)
              (try rw [Addr.add_zero'] at hx134_0)
              (try rw [show ((0 : Int)).toNat = 0 from rfl] at hx134_1)
              (try rw [show 0 * 5 = 0 from rfl] at hx134_1)
              (try rw [Addr.add_zero'] at hx134_1)
              (try rw [show ((0 : Int)).toNat = 0 from rfl] at hx134_2)
              (try rw [show 0 * 5 = 0 from rfl] at hx134_2)
              (try rw [Addr.add_zero'] at hx134_2)
              (try rw [show ((0 : Int)).toNat = 0 from rfl] at hx134_3)
              (try rw [show 0 * 5 = 0 from rfl] at hx134_3)
              (try rw [Addr.add_zero'] at hx134_3)
              (try rw [show ((0 : Int)).toNat = 0 from rfl] at hx134_4)
              (try rw [show 0 * 5 = 0 from rfl] at hx134_4)
              (try rw [Addr.add_zero'] at hx134_4)
              replace hx134_0 := (HB.out.cell (World.block_lt_of_cell? w _ hx134_0)).trans hx134_0
              replace hx134_1 := (HB.out.cell (World.block_lt_of_cell? w _ hx134_1)).trans hx134_1
              replace hx134_2 := (HB.out.cell (World.block_lt_of_cell? w _ hx134_2)).trans hx134_2
              replace hx134_3 := (HB.out.cell (World.block_lt_of_cell? w _ hx134_3)).trans hx134_3
              replace hx134_4 := (HB.out.cell (World.block_lt_of_cell? w _ hx134_4)).trans hx134_4
              replace p134 := eq_true p134
              replace q134 := eq_true q134
              refine start_ (n := 13) (S := fun w' => w'.cell? adp0 = some (.int .i8 ((rd_T34 l0 0).f0.f0)) ∧ w'.cell? ⟨adp0.block, adp0.off + 1, none⟩ = some (.int .i8 ((rd_T34 l0 0).f0.f1)) ∧ w'.cell? ⟨adp0.block, adp0.off + 2, none⟩ = some (.int .i8 ((rd_T34 l0 0).f1)) ∧ w'.cell? ⟨adp0.block, adp0.off + 3, none⟩ = some (.int .i8 ((rd_T34 l0 0).f2)) ∧ w'.cell? ⟨adp0.block, adp0.off + 4, none⟩ = some (.int .i8 ((rd_T34 l0 0).f3))) (ds := []) #[false, false, false, false, false, false, false, false, false, false, false, false, false] (by kernel_rfl) rfl rfl ⟨((HB.out.cell (World.block_lt_of_cell? w _ hw134_0)).trans hw134_0), ((HB.out.cell (World.block_lt_of_cell? w _ hw134_1)).trans hw134_1), ((HB.out.cell (World.block_lt_of_cell? w _ hw134_2)).trans hw134_2), ((HB.out.cell (World.block_lt_of_cell? w _ hw134_3)).trans hw134_3), ((HB.out.cell (World.block_lt_of_cell? w _ hw134_4)).trans hw134_4)⟩ (fun hHeld => ?_); refine with_tabW spec_l01Hits.tab2 spec_l01Hits.bits2 (fun HT_ HW_ => ?_)
              generalize w.drew = w13 at HB hx134_0 hx134_1 hx134_2 hx134_3 hx134_4 hHeld ⊢
              refine pure_ (i := 1) (N := some 15) (v := ?_) (a' := ?_) #[false, true, false, false, false, false, false, false, false, false, false, false, false] rfl rfl (any_of HT_.out (by kernel_rfl)) (fun _ _ _ h => h) (Or.inl ⟨by rfl, ?_⟩) ?_ ?_
              rotate_left
              · intro w'
                go_simp
                with_reducible rfl
              rotate_left
              · simp only [Act.put, List.setIfInBounds_toArray, List.set_cons_zero, List.set_cons_succ, i64_w, i32_w]
                rfl
              refine pure_ (i := 2) (N := some 16) (v := ?_) (a' := ?_) #[false, true, true, false, false, false, false, false, false, false, false, false, false] rfl rfl (any_of HT_.out (by kernel_rfl)) (fun _ _ _ h => h) (Or.inl ⟨by rfl, ?_⟩) ?_ ?_
              rotate_left
              · intro w'
                go_simp
                with_reducible rfl
              rotate_left
              · simp only [Act.put, List.setIfInBounds_toArray, List.set_cons_zero, List.set_cons_succ, i64_w, i32_w]
                rfl
              refine pure_ (i := 3) (N := some 17) (v := ?_) (a' := ?_) #[false, true, true, true, false, false, false, false, false, false, false, false, false] rfl rfl (any_of HT_.out (by kernel_rfl)) (fun _ _ _ h => h) (Or.inl ⟨by rfl, ?_⟩) ?_ ?_
              rotate_left
              · intro w'
                go_simp
                with_reducible rfl
              rotate_left
              · simp only [Act.put, List.setIfInBounds_toArray, List.set_cons_zero, List.set_cons_succ, i64_w, i32_w]
                rfl
              refine pure_ (i := 6) (N := some 20) (v := ?_) (a' := ?_) #[false, true, true, true, false, false, true, false, false, false, false, false, false] rfl rfl (any_of HT_.out (by kernel_rfl)) (fun _ _ _ h => h) (Or.inl ⟨by rfl, ?_⟩) ?_ ?_
              rotate_left
              · intro w'
                go_simp
                with_reducible rfl
              rotate_left
              · simp only [Act.put, List.setIfInBounds_toArray, List.set_cons_zero, List.set_cons_succ, i64_w, i32_w]
                rfl
              refine pure_ (i := 7) (N := some 21) (v := ?_) (a' := ?_) #[false, true, true, true, false, false, true, true, false, false, false, false, false] rfl rfl (any_of HT_.out (by kernel_rfl)) (fun _ _ _ h => h) (Or.inl ⟨by rfl, ?_⟩) ?_ ?_
              rotate_left
              · intro w'
                go_simp
                with_reducible rfl
              rotate_left
              · simp only [Act.put, List.setIfInBounds_toArray, List.set_cons_zero, List.set_cons_succ, i64_w, i32_w]
                rfl
              refine pure_ (i := 8) (N := some 22) (v := ?_) (a' := ?_) #[false, true, true, true, false, false, true, true, true, false, false, false, false] rfl rfl (any_of HT_.out (by kernel_rfl)) (fun _ _ _ h => h) (Or.inl ⟨by rfl, ?_⟩) ?_ ?_
              rotate_left
              · intro w'
                go_simp
                with_reducible rfl
              rotate_left
              · simp only [Act.put, List.setIfInBounds_toArray, List.set_cons_zero, List.set_cons_succ, i64_w, i32_w]
                rfl
              refine pure_ (i := 9) (N := some 23) (v := ?_) (a' := ?_) #[false, true, true, true, false, false, true, true, true, true, false, false, false] rfl rfl (any_of HT_.out (by kernel_rfl)) (fun _ _ _ h => h) (Or.inl ⟨by rfl, ?_⟩) ?_ ?_
              rotate_left
              · intro w'
                go_simp
                with_reducible rfl
              rotate_left
              · simp only [Act.put, List.setIfInBounds_toArray, List.set_cons_zero, List.set_cons_succ, i64_w, i32_w]
                rfl
              refine pure_ (i := 10) (N := some 24) (v := ?_) (a' := ?_) #[false, true, true, true, false, false, true, true, true, true, true, false, false] rfl rfl (any_of HT_.out (by kernel_rfl)) (fun _ _ _ h => h) (Or.inl ⟨by rfl, ?_⟩) ?_ ?_
              rotate_left
              · intro w'
                go_simp
                with_reducible rfl
              rotate_left
              · simp only [Act.put, List.setIfInBounds_toArray, List.set_cons_zero, List.set_cons_succ, i64_w, i32_w]
                rfl
              refine take_ (i := 4) (N := some 18) (v := ?_) (a' := ?_) #[false, true, true, true, true, false, true, true, true, true, true, false, false] rfl rfl (take_ofW HT_.out HW_.out (by kernel_rfl)) (fun _ _ _ h => h) (Or.inl ⟨by rfl, ?_⟩) hHeld ?_ ?_
              rotate_left
              · rintro w' ⟨s0, s1, s2, s3, s4⟩
                go_simp
                with_reducible rfl
              rotate_left
              · simp only [Act.put, List.setIfInBounds_toArray, List.set_cons_zero, List.set_cons_succ, i64_w, i32_w]
                rfl
              refine one_ (i := 0) (N := some 14) #[true, true, true, true, true, false, true, true, true, true, true, false, false] rfl rfl (one_of HT_.out (by kernel_rfl)) (by decide) (fun K hK => ?_)
              refine goes_ Try.func80 (by kernel_rfl) rfl #[] (by rfl) rfl rfl (by (try simp only [List.map_toArray, List.map_cons, List.map_nil]); first | done | rfl | (simp only [List.length_drop, List.length_take]; rfl)) ?_
              with_reducible refine (spec_l01Table.calls  t110 t111 t112 t113 t114 t115 t116 t117 t118 t119 t120 t121 t122 t123 t124 t125 t126 t127 t128 t129 t130 t131 t132 t133 _ A4.out).mono ?_
              rintro e w14 ⟨rfl, hb⟩
              refine ⟨_, rfl, ?_⟩
              have n0_ := Aside0.mk (below_step (by repeat (first | (with_reducible first | exact HB.out | apply below_alloc | apply pw_below_drewN | apply below_drew1) | exact HB.out)) hb)
              clear HB
              have HB := n0_
              clear n0_
              (try clear hb)
              (try clear hb2)
              (try clear hk)
              (try clear hi)
              refine hK.out _ _ ⟨((HB.out.cell (World.block_lt_of_cell? w _ hw134_0)).trans hw134_0), ((HB.out.cell (World.block_lt_of_cell? w _ hw134_1)).trans hw134_1), ((HB.out.cell (World.block_lt_of_cell? w _ hw134_2)).trans hw134_2), ((HB.out.cell (World.block_lt_of_cell? w _ hw134_3)).trans hw134_3), ((HB.out.cell (World.block_lt_of_cell? w _ hw134_4)).trans hw134_4)⟩ (fun hHeld => ?_)
              clear hK K
              refine norm_ (a' := ?_) ?_ ?_
              rotate_left
              · show Act.put _ (some 14) _ = _
                simp only [Act.put, List.setIfInBounds_toArray, List.set_cons_zero, List.set_cons_succ, i64_w, i32_w]
                rfl
              refine take_ (i := 5) (N := some 19) (v := ?_) (a' := ?_) #[true, true, true, true, true, true, true, true, true, true, true, false, false] rfl rfl (take_ofW HT_.out HW_.out (by kernel_rfl)) (fun _ _ _ h => h) (Or.inl ⟨by rfl, ?_⟩) hHeld ?_ ?_
              rotate_left
              · rintro w' ⟨s0, s1, s2, s3, s4⟩
                go_simp
                with_reducible rfl
              rotate_left
              · simp only [Act.put, List.setIfInBounds_toArray, List.set_cons_zero, List.set_cons_succ, i64_w, i32_w]
                rfl
              refine take_ (i := 11) (N := some 25) (v := ?_) (a' := ?_) #[true, true, true, true, true, true, true, true, true, true, true, true, false] rfl rfl (take_ofW HT_.out HW_.out (by kernel_rfl)) (fun _ _ _ h => h) (Or.inl ⟨by rfl, ?_⟩) hHeld ?_ ?_
              rotate_left
              · rintro w' ⟨s0, s1, s2, s3, s4⟩
                go_simp
                with_reducible rfl
              rotate_left
              · simp only [Act.put, List.setIfInBounds_toArray, List.set_cons_zero, List.set_cons_succ, i64_w, i32_w]
                rfl
              refine pure_ (i := 12) (N := some 6) (v := ?_) (a' := ?_) #[true, true, true, true, true, true, true, true, true, true, true, true, true] rfl rfl (any_of HT_.out (by kernel_rfl)) (fun _ _ _ h => h) (Or.inl ⟨by rfl, ?_⟩) ?_ ?_
              rotate_left
              · intro w'
                go_simp
                with_reducible rfl
              rotate_left
              · simp only [Act.put, List.setIfInBounds_toArray, List.set_cons_zero, List.set_cons_succ, i64_w, i32_w]
                rfl
              refine done_ (done_of HT_.out (by kernel_rfl)) ?_
              try go_wp2
              go_ret
              exact ⟨by first | rfl | (simp [errW_none, errW_some] <;> rfl) | (simp only [← hji8]; first | rfl | (simp [errW_none, errW_some] <;> rfl)) | (simp [*, errW_none, errW_some] <;> rfl), by repeat (first | (with_reducible first | exact HB.out | apply below_alloc | apply pw_below_drewN | apply below_drew1) | exact HB.out)⟩
            · rw [if_neg c12] at H
              have c12b0 : decide ((rd [rd [t110, t114, t118, t122, t126, t130] ((rd_T34 l0 0).f1), rd [t111, t115, t119, t123, t127, t131] ((rd_T34 l0 0).f1), rd [t112, t116, t120, t124, t128, t132] ((rd_T34 l0 0).f1), rd [t113, t117, t121, t125, t129, t133] ((rd_T34 l0 0).f1)] (ji8)) < 0) = false := decide_eq_false c12
              clear c12
              have H' := Aside0.mk H
              clear H
              have p109 : 0 ≤ (0 : Int) := (by omega)
              have q109 : 0 < (l0.length : Int) := of_decide_eq_true (by first | (with_reducible assumption) | assumption)
              obtain ⟨ad109, e109, hx109_0, hx109_1, hx109_2, hx109_3, hx109_4⟩ := at_T34 HR0.out 0 p109 q109
              obtain rfl : adp0 = ad109 := (by injection e109)
              have qi109 : (0 < l0.length) = True := eq_true (by omega)
              (try rw [show ((0 : Int)).toNat = 0 from rfl] at hx109_0)
              (try rw [show 0 * 5 = 0 from rfl] at hx109_0)
              (try rw [Addr.add_zero'] at hx109_0)
              (try rw [show ((0 : Int)).toNat = 0 from rfl] at hx109_1)
              (try rw [show 0 * 5 = 0 from rfl] at hx109_1)
              (try rw [Addr.add_zero'] at hx109_1)
              (try rw [show ((0 : Int)).toNat = 0 from rfl] at hx109_2)
              (try rw [show 0 * 5 = 0 from rfl] at hx109_2)
              (try rw [Addr.add_zero'] at hx109_2)
              (try rw [show ((0 : Int)).toNat = 0 from rfl] at hx109_3)
              (try rw [show 0 * 5 = 0 from rfl] at hx109_3)
              (try rw [Addr.add_zero'] at hx109_3)
              (try rw [show ((0 : Int)).toNat = 0 from rfl] at hx109_4)
              (try rw [show 0 * 5 = 0 from rfl] at hx109_4)
              (try rw [Addr.add_zero'] at hx109_4)
              replace p109 := eq_true p109
              replace q109 := eq_true q109
              go_enter Try.func71, Try.ntmps71
              try go_wp2
              have n0_ := Aside0.mk (below_drew1 HB.out)
              clear HB
              have HB := n0_
              clear n0_
              have p134 : 0 ≤ (0 : Int) := (by omega)
              have q134 : 0 < (l0.length : Int) := of_decide_eq_true (by first | (with_reducible assumption) | assumption)
              obtain ⟨ad134, e134, hx134_0, hx134_1, hx134_2, hx134_3, hx134_4⟩ := at_T34 HR0.out 0 p134 q134
              have hw134_4 := hx134_4
              (try rw [show ((0 : Int)).toNat = 0 from rfl] at hw134_4)
              (try rw [show 0 * 5 = 0 from rfl] at hw134_4)
              (try rw [Addr.add_zero'] at hw134_4)
              have hw134_3 := hx134_3
              (try rw [show ((0 : Int)).toNat = 0 from rfl] at hw134_3)
              (try rw [show 0 * 5 = 0 from rfl] at hw134_3)
              (try rw [Addr.add_zero'] at hw134_3)
              have hw134_2 := hx134_2
              (try rw [show ((0 : Int)).toNat = 0 from rfl] at hw134_2)
              (try rw [show 0 * 5 = 0 from rfl] at hw134_2)
              (try rw [Addr.add_zero'] at hw134_2)
              have hw134_1 := hx134_1
              (try rw [show ((0 : Int)).toNat = 0 from rfl] at hw134_1)
              (try rw [show 0 * 5 = 0 from rfl] at hw134_1)
              (try rw [Addr.add_zero'] at hw134_1)
              have hw134_0 := hx134_0
              (try rw [show ((0 : Int)).toNat = 0 from rfl] at hw134_0)
              (try rw [show 0 * 5 = 0 from rfl] at hw134_0)
              (try rw [Addr.add_zero'] at hw134_0)
              obtain rfl : adp0 = ad134 := (by injection e134)
              have qi134 : (0 < l0.length) = True := eq_true (by omega)
              (try rw [show ((0 : Int)).toNat = 0 from rfl] at hx134_0)
              (try rw [show 0 * 5 = 0 from rfl] at hx134_0)
              (try rw [Addr.add_zero'] at hx134_0)
              (try rw [show ((0 : Int)).toNat = 0 from rfl] at hx134_1)
              (try rw [show 0 * 5 = 0 from rfl] at hx134_1)
              (try rw [Addr.add_zero'] at hx134_1)
              (try rw [show ((0 : Int)).toNat = 0 from rfl] at hx134_2)
              (try rw [show 0 * 5 = 0 from rfl] at hx134_2)
              (try rw [Addr.add_zero'] at hx134_2)
              (try rw [show ((0 : Int)).toNat = 0 from rfl] at hx134_3)
              (try rw [show 0 * 5 = 0 from rfl] at hx134_3)
              (try rw [Addr.add_zero'] at hx134_3)
              (try rw [show ((0 : Int)).toNat = 0 from rfl] at hx134_4)
              (try rw [show 0 * 5 = 0 from rfl] at hx134_4)
              (try rw [Addr.add_zero'] at hx134_4)
              replace hx134_0 := (HB.out.cell (World.block_lt_of_cell? w _ hx134_0)).trans hx134_0
              replace hx134_1 := (HB.out.cell (World.block_lt_of_cell? w _ hx134_1)).trans hx134_1
              replace hx134_2 := (HB.out.cell (World.block_lt_of_cell? w _ hx134_2)).trans hx134_2
              replace hx134_3 := (HB.out.cell (World.block_lt_of_cell? w _ hx134_3)).trans hx134_3
              replace hx134_4 := (HB.out.cell (World.block_lt_of_cell? w _ hx134_4)).trans hx134_4
              replace p134 := eq_true p134
              replace q134 := eq_true q134
              refine start_ (n := 13) (S := fun w' => w'.cell? adp0 = some (.int .i8 ((rd_T34 l0 0).f0.f0)) ∧ w'.cell? ⟨adp0.block, adp0.off + 1, none⟩ = some (.int .i8 ((rd_T34 l0 0).f0.f1)) ∧ w'.cell? ⟨adp0.block, adp0.off + 2, none⟩ = some (.int .i8 ((rd_T34 l0 0).f1)) ∧ w'.cell? ⟨adp0.block, adp0.off + 3, none⟩ = some (.int .i8 ((rd_T34 l0 0).f2)) ∧ w'.cell? ⟨adp0.block, adp0.off + 4, none⟩ = some (.int .i8 ((rd_T34 l0 0).f3))) (ds := []) #[false, false, false, false, false, false, false, false, false, false, false, false, false] (by kernel_rfl) rfl rfl ⟨((HB.out.cell (World.block_lt_of_cell? w _ hw134_0)).trans hw134_0), ((HB.out.cell (World.block_lt_of_cell? w _ hw134_1)).trans hw134_1), ((HB.out.cell (World.block_lt_of_cell? w _ hw134_2)).trans hw134_2), ((HB.out.cell (World.block_lt_of_cell? w _ hw134_3)).trans hw134_3), ((HB.out.cell (World.block_lt_of_cell? w _ hw134_4)).trans hw134_4)⟩ (fun hHeld => ?_); refine with_tabW spec_l01Hits.tab2 spec_l01Hits.bits2 (fun HT_ HW_ => ?_)
              generalize w.drew = w15 at HB hx134_0 hx134_1 hx134_2 hx134_3 hx134_4 hHeld ⊢
              refine pure_ (i := 1) (N := some 15) (v := ?_) (a' := ?_) #[false, true, false, false, false, false, false, false, false, false, false, false, false] rfl rfl (any_of HT_.out (by kernel_rfl)) (fun _ _ _ h => h) (Or.inl ⟨by rfl, ?_⟩) ?_ ?_
              rotate_left
              · intro w'
                go_simp
                with_reducible rfl
              rotate_left
              · simp only [Act.put, List.setIfInBounds_toArray, List.set_cons_zero, List.set_cons_succ, i64_w, i32_w]
                rfl
              refine pure_ (i := 2) (N := some 16) (v := ?_) (a' := ?_) #[false, true, true, false, false, false, false, false, false, false, false, false, false] rfl rfl (any_of HT_.out (by kernel_rfl)) (fun _ _ _ h => h) (Or.inl ⟨by rfl, ?_⟩) ?_ ?_
              rotate_left
              · intro w'
                go_simp
                with_reducible rfl
              rotate_left
              · simp only [Act.put, List.setIfInBounds_toArray, List.set_cons_zero, List.set_cons_succ, i64_w, i32_w]
                rfl
              refine pure_ (i := 3) (N := some 17) (v := ?_) (a' := ?_) #[false, true, true, true, false, false, false, false, false, false, false, false, false] rfl rfl (any_of HT_.out (by kernel_rfl)) (fun _ _ _ h => h) (Or.inl ⟨by rfl, ?_⟩) ?_ ?_
              rotate_left
              · intro w'
                go_simp
                with_reducible rfl
              rotate_left
              · simp only [Act.put, List.setIfInBounds_toArray, List.set_cons_zero, List.set_cons_succ, i64_w, i32_w]
                rfl
              refine pure_ (i := 6) (N := some 20) (v := ?_) (a' := ?_) #[false, true, true, true, false, false, true, false, false, false, false, false, false] rfl rfl (any_of HT_.out (by kernel_rfl)) (fun _ _ _ h => h) (Or.inl ⟨by rfl, ?_⟩) ?_ ?_
              rotate_left
              · intro w'
                go_simp
                with_reducible rfl
              rotate_left
              · simp only [Act.put, List.setIfInBounds_toArray, List.set_cons_zero, List.set_cons_succ, i64_w, i32_w]
                rfl
              refine pure_ (i := 7) (N := some 21) (v := ?_) (a' := ?_) #[false, true, true, true, false, false, true, true, false, false, false, false, false] rfl rfl (any_of HT_.out (by kernel_rfl)) (fun _ _ _ h => h) (Or.inl ⟨by rfl, ?_⟩) ?_ ?_
              rotate_left
              · intro w'
                go_simp
                with_reducible rfl
              rotate_left
              · simp only [Act.put, List.setIfInBounds_toArray, List.set_cons_zero, List.set_cons_succ, i64_w, i32_w]
                rfl
              refine pure_ (i := 8) (N := some 22) (v := ?_) (a' := ?_) #[false, true, true, true, false, false, true, true, true, false, false, false, false] rfl rfl (any_of HT_.out (by kernel_rfl)) (fun _ _ _ h => h) (Or.inl ⟨by rfl, ?_⟩) ?_ ?_
              rotate_left
              · intro w'
                go_simp
                with_reducible rfl
              rotate_left
              · simp only [Act.put, List.setIfInBounds_toArray, List.set_cons_zero, List.set_cons_succ, i64_w, i32_w]
                rfl
              refine pure_ (i := 9) (N := some 23) (v := ?_) (a' := ?_) #[false, true, true, true, false, false, true, true, true, true, false, false, false] rfl rfl (any_of HT_.out (by kernel_rfl)) (fun _ _ _ h => h) (Or.inl ⟨by rfl, ?_⟩) ?_ ?_
              rotate_left
              · intro w'
                go_simp
                with_reducible rfl
              rotate_left
              · simp only [Act.put, List.setIfInBounds_toArray, List.set_cons_zero, List.set_cons_succ, i64_w, i32_w]
                rfl
              refine pure_ (i := 10) (N := some 24) (v := ?_) (a' := ?_) #[false, true, true, true, false, false, true, true, true, true, true, false, false] rfl rfl (any_of HT_.out (by kernel_rfl)) (fun _ _ _ h => h) (Or.inl ⟨by rfl, ?_⟩) ?_ ?_
              rotate_left
              · intro w'
                go_simp
                with_reducible rfl
              rotate_left
              · simp only [Act.put, List.setIfInBounds_toArray, List.set_cons_zero, List.set_cons_succ, i64_w, i32_w]
                rfl
              refine take_ (i := 4) (N := some 18) (v := ?_) (a' := ?_) #[false, true, true, true, true, false, true, true, true, true, true, false, false] rfl rfl (take_ofW HT_.out HW_.out (by kernel_rfl)) (fun _ _ _ h => h) (Or.inl ⟨by rfl, ?_⟩) hHeld ?_ ?_
              rotate_left
              · rintro w' ⟨s0, s1, s2, s3, s4⟩
                go_simp
                with_reducible rfl
              rotate_left
              · simp only [Act.put, List.setIfInBounds_toArray, List.set_cons_zero, List.set_cons_succ, i64_w, i32_w]
                rfl
              refine one_ (i := 0) (N := some 14) #[true, true, true, true, true, false, true, true, true, true, true, false, false] rfl rfl (one_of HT_.out (by kernel_rfl)) (by decide) (fun K hK => ?_)
              refine goes_ Try.func80 (by kernel_rfl) rfl #[] (by rfl) rfl rfl (by (try simp only [List.map_toArray, List.map_cons, List.map_nil]); first | done | rfl | (simp only [List.length_drop, List.length_take]; rfl)) ?_
              with_reducible refine (spec_l01Table.calls  t110 t111 t112 t113 t114 t115 t116 t117 t118 t119 t120 t121 t122 t123 t124 t125 t126 t127 t128 t129 t130 t131 t132 t133 _ A4.out).mono ?_
              rintro e w16 ⟨rfl, hb⟩
              refine ⟨_, rfl, ?_⟩
              have n0_ := Aside0.mk (below_step (by repeat (first | (with_reducible first | exact HB.out | apply below_alloc | apply pw_below_drewN | apply below_drew1) | exact HB.out)) hb)
              clear HB
              have HB := n0_
              clear n0_
              (try clear hb)
              (try clear hb2)
              (try clear hk)
              (try clear hi)
              refine hK.out _ _ ⟨((HB.out.cell (World.block_lt_of_cell? w _ hw134_0)).trans hw134_0), ((HB.out.cell (World.block_lt_of_cell? w _ hw134_1)).trans hw134_1), ((HB.out.cell (World.block_lt_of_cell? w _ hw134_2)).trans hw134_2), ((HB.out.cell (World.block_lt_of_cell? w _ hw134_3)).trans hw134_3), ((HB.out.cell (World.block_lt_of_cell? w _ hw134_4)).trans hw134_4)⟩ (fun hHeld => ?_)
              clear hK K
              refine norm_ (a' := ?_) ?_ ?_
              rotate_left
              · show Act.put _ (some 14) _ = _
                simp only [Act.put, List.setIfInBounds_toArray, List.set_cons_zero, List.set_cons_succ, i64_w, i32_w]
                rfl
              refine take_ (i := 5) (N := some 19) (v := ?_) (a' := ?_) #[true, true, true, true, true, true, true, true, true, true, true, false, false] rfl rfl (take_ofW HT_.out HW_.out (by kernel_rfl)) (fun _ _ _ h => h) (Or.inl ⟨by rfl, ?_⟩) hHeld ?_ ?_
              rotate_left
              · rintro w' ⟨s0, s1, s2, s3, s4⟩
                go_simp
                with_reducible rfl
              rotate_left
              · simp only [Act.put, List.setIfInBounds_toArray, List.set_cons_zero, List.set_cons_succ, i64_w, i32_w]
                rfl
              refine take_ (i := 11) (N := some 25) (v := ?_) (a' := ?_) #[true, true, true, true, true, true, true, true, true, true, true, true, false] rfl rfl (take_ofW HT_.out HW_.out (by kernel_rfl)) (fun _ _ _ h => h) (Or.inl ⟨by rfl, ?_⟩) hHeld ?_ ?_
              rotate_left
              · rintro w' ⟨s0, s1, s2, s3, s4⟩
                go_simp
                with_reducible rfl
              rotate_left
              · simp only [Act.put, List.setIfInBounds_toArray, List.set_cons_zero, List.set_cons_succ, i64_w, i32_w]
                rfl
              refine pure_ (i := 12) (N := some 6) (v := ?_) (a' := ?_) #[true, true, true, true, true, true, true, true, true, true, true, true, true] rfl rfl (any_of HT_.out (by kernel_rfl)) (fun _ _ _ h => h) (Or.inl ⟨by rfl, ?_⟩) ?_ ?_
              rotate_left
              · intro w'
                go_simp
                with_reducible rfl
              rotate_left
              · simp only [Act.put, List.setIfInBounds_toArray, List.set_cons_zero, List.set_cons_succ, i64_w, i32_w]
                rfl
              refine done_ (done_of HT_.out (by kernel_rfl)) ?_
              try go_wp2
              go_loopg [7, 8] k (fun kq v7 v8 w' => ∃ (x7_1 : Int) (x8_1 : Int), v7 = .int .i64 x7_1 ∧ v8 = .int .i64 x8_1 ∧ Aside0 (spec_l01Hits.l0 kq (wrap64 ((rd_T34 l0 0).f2)) (rd [rd [t110, t114, t118, t122, t126, t130] ((rd_T34 l0 0).f1), rd [t111, t115, t119, t123, t127, t131] ((rd_T34 l0 0).f1), rd [t112, t116, t120, t124, t128, t132] ((rd_T34 l0 0).f1), rd [t113, t117, t121, t125, t129, t133] ((rd_T34 l0 0).f1)] (ji8)) x7_1 x8_1 = some r) ∧ Aside0 (kq ≤ k) ∧ Aside0 (Below w.heap.size w w'))
              case atStart => exact ⟨(0), (0), (by first | rfl | (simp; done) | (simp [*]; done) | (exact congrArg (Value.int .i64) (wrap_eq (by omega)))), (by first | rfl | (simp; done) | (simp [*]; done) | (exact congrArg (Value.int .i64) (wrap_eq (by omega)))), H', ⟨Nat.le_refl _⟩, ⟨by repeat (first | (with_reducible first | exact HB.out | apply below_alloc | apply pw_below_drewN | apply below_drew1) | exact HB.out)⟩⟩
              case round =>
                clear H'
                try clear c1
                try clear p1
                try clear q1
                try clear hx1
                try clear qi1
                try clear p2
                try clear c3
                try clear c3b0
                try clear c3b1
                try clear c5
                try clear c5b0
                try clear c6
                try clear c6b0
                try clear p6
                try clear c7
                try clear c8
                try clear c9
                try clear c9b0
                try clear c10
                try clear c10b0
                try clear p10
                try clear q10
                try clear hx10
                try clear qi10
                try clear c12
                try clear c12b0
                try clear p13
                try clear q13
                try clear hx13
                try clear qi13
                try clear hx109_0
                try clear hx109_1
                try clear hx109_2
                try clear hx109_3
                try clear hx109_4
                try clear hx134_0
                try clear hx134_1
                try clear hx134_2
                try clear hx134_3
                try clear hx134_4
                try clear p109
                try clear p134
                try clear q109
                try clear q134
                obtain ⟨x7_1, x8_1, rfl, rfl, HA, HK1, HB⟩ := hrel
                cases gk with
                | zero => exact absurd HA.out (by simp [spec_l01Hits.l0])
                | succ k1 =>
                  have H := HA.out
                  clear HA
                  simp only [spec_l01Hits.l0] at H
                  by_cases c17 : x8_1 < 4
                  · rw [if_pos c17] at H
                    have c17b0 : decide (x8_1 < 4) = true := decide_eq_true c17
                    clear c17
                    obtain ⟨ji18, hji18⟩ : ∃ j_ : Int, (IntKind.u64.wrap (x8_1)) = j_ := ⟨_, rfl⟩
                    replace H : (if 0 ≤ (ji18) then (if (Int.tmod (shr .i64 (rd [rd [t110, t114, t118, t122, t126, t130] ((rd_T34 l0 0).f1), rd [t111, t115, t119, t123, t127, t131] ((rd_T34 l0 0).f1), rd [t112, t116, t120, t124, t128, t132] ((rd_T34 l0 0).f1), rd [t113, t117, t121, t125, t129, t133] ((rd_T34 l0 0).f1)] (ji8)) (ji18)) 2) = 1 then (if 0 ≤ (IntKind.u64.wrap (Int.tmod (wrap64 (x8_1 + (wrap64 ((rd_T34 l0 0).f2)))) 4)) then (spec_l01Hits.l0 k1 (wrap64 ((rd_T34 l0 0).f2)) (rd [rd [t110, t114, t118, t122, t126, t130] ((rd_T34 l0 0).f1), rd [t111, t115, t119, t123, t127, t131] ((rd_T34 l0 0).f1), rd [t112, t116, t120, t124, t128, t132] ((rd_T34 l0 0).f1), rd [t113, t117, t121, t125, t129, t133] ((rd_T34 l0 0).f1)] (ji8)) (wrap64 (x7_1 + (shl .i64 1 (IntKind.u64.wrap (Int.tmod (wrap64 (x8_1 + (wrap64 ((rd_T34 l0 0).f2)))) 4))))) (wrap64 (x8_1 + 1))) else (none)) else (spec_l01Hits.l0 k1 (wrap64 ((rd_T34 l0 0).f2)) (rd [rd [t110, t114, t118, t122, t126, t130] ((rd_T34 l0 0).f1), rd [t111, t115, t119, t123, t127, t131] ((rd_T34 l0 0).f1), rd [t112, t116, t120, t124, t128, t132] ((rd_T34 l0 0).f1), rd [t113, t117, t121, t125, t129, t133] ((rd_T34 l0 0).f1)] (ji8)) x7_1 (wrap64 (x8_1 + 1)))) else (none)) = some r := by first | (rw [hji18] at H; exact H) | (simp only [hji18] at H ⊢; exact H)
                    by_cases c19 : 0 ≤ (ji18)
                    · rw [if_pos c19] at H
                      have c19b0 := eq_true c19
                      have c19b1 : decide (0 ≤ (ji18)) = true := decide_eq_true c19
                      clear c19
                      obtain ⟨ji20, hji20⟩ : ∃ j_ : Int, (shr .i64 (rd [rd [t110, t114, t118, t122, t126, t130] ((rd_T34 l0 0).f1), rd [t111, t115, t119, t123, t127, t131] ((rd_T34 l0 0).f1), rd [t112, t116, t120, t124, t128, t132] ((rd_T34 l0 0).f1), rd [t113, t117, t121, t125, t129, t133] ((rd_T34 l0 0).f1)] (ji8)) (ji18)) = j_ := ⟨_, rfl⟩
                      replace H : (if (Int.tmod (ji20) 2) = 1 then (if 0 ≤ (IntKind.u64.wrap (Int.tmod (wrap64 (x8_1 + (wrap64 ((rd_T34 l0 0).f2)))) 4)) then (spec_l01Hits.l0 k1 (wrap64 ((rd_T34 l0 0).f2)) (rd [rd [t110, t114, t118, t122, t126, t130] ((rd_T34 l0 0).f1), rd [t111, t115, t119, t123, t127, t131] ((rd_T34 l0 0).f1), rd [t112, t116, t120, t124, t128, t132] ((rd_T34 l0 0).f1), rd [t113, t117, t121, t125, t129, t133] ((rd_T34 l0 0).f1)] (ji8)) (wrap64 (x7_1 + (shl .i64 1 (IntKind.u64.wrap (Int.tmod (wrap64 (x8_1 + (wrap64 ((rd_T34 l0 0).f2)))) 4))))) (wrap64 (x8_1 + 1))) else (none)) else (spec_l01Hits.l0 k1 (wrap64 ((rd_T34 l0 0).f2)) (rd [rd [t110, t114, t118, t122, t126, t130] ((rd_T34 l0 0).f1), rd [t111, t115, t119, t123, t127, t131] ((rd_T34 l0 0).f1), rd [t112, t116, t120, t124, t128, t132] ((rd_T34 l0 0).f1), rd [t113, t117, t121, t125, t129, t133] ((rd_T34 l0 0).f1)] (ji8)) x7_1 (wrap64 (x8_1 + 1)))) = some r := by first | (rw [hji20] at H; exact H) | (simp only [hji20] at H ⊢; exact H)
                      have hji20_ : ((rd [rd [t110, t114, t118, t122, t126, t130] ((rd_T34 l0 0).f1), rd [t111, t115, t119, t123, t127, t131] ((rd_T34 l0 0).f1), rd [t112, t116, t120, t124, t128, t132] ((rd_T34 l0 0).f1), rd [t113, t117, t121, t125, t129, t133] ((rd_T34 l0 0).f1)] (ji8)) / 2 ^ min (ji18).toNat 64) = ji20 := hji20
                      have hji20z : (ji18) ≤ 64 → ((rd [rd [t110, t114, t118, t122, t126, t130] ((rd_T34 l0 0).f1), rd [t111, t115, t119, t123, t127, t131] ((rd_T34 l0 0).f1), rd [t112, t116, t120, t124, t128, t132] ((rd_T34 l0 0).f1), rd [t113, t117, t121, t125, t129, t133] ((rd_T34 l0 0).f1)] (ji8)) / 2 ^ (ji18).toNat) = ji20 := shr_small hji20
                      by_cases c21 : (Int.tmod (ji20) 2) = 1
                      · rw [if_pos c21] at H
                        have c21b0 : ((Int.tmod (ji20) 2) == 1) = true := beq_iff_eq.mpr c21
                        have c21b1 : ((Int.tmod (ji20) 2) != 1) = false := bne_eq_false_iff_eq.mpr c21
                        clear c21
                        obtain ⟨ji22, hji22⟩ : ∃ j_ : Int, (IntKind.u64.wrap (Int.tmod (wrap64 (x8_1 + (wrap64 ((rd_T34 l0 0).f2)))) 4)) = j_ := ⟨_, rfl⟩
                        replace H : (if 0 ≤ (ji22) then (spec_l01Hits.l0 k1 (wrap64 ((rd_T34 l0 0).f2)) (rd [rd [t110, t114, t118, t122, t126, t130] ((rd_T34 l0 0).f1), rd [t111, t115, t119, t123, t127, t131] ((rd_T34 l0 0).f1), rd [t112, t116, t120, t124, t128, t132] ((rd_T34 l0 0).f1), rd [t113, t117, t121, t125, t129, t133] ((rd_T34 l0 0).f1)] (ji8)) (wrap64 (x7_1 + (shl .i64 1 (ji22)))) (wrap64 (x8_1 + 1))) else (none)) = some r := by first | (rw [hji22] at H; exact H) | (simp only [hji22] at H ⊢; exact H)
                        by_cases c23 : 0 ≤ (ji22)
                        · rw [if_pos c23] at H
                          have c23b0 := eq_true c23
                          have c23b1 : decide (0 ≤ (ji22)) = true := decide_eq_true c23
                          clear c23
                          obtain ⟨ji24, hji24⟩ : ∃ j_ : Int, (shl .i64 1 (ji22)) = j_ := ⟨_, rfl⟩
                          replace H : (spec_l01Hits.l0 k1 (wrap64 ((rd_T34 l0 0).f2)) (rd [rd [t110, t114, t118, t122, t126, t130] ((rd_T34 l0 0).f1), rd [t111, t115, t119, t123, t127, t131] ((rd_T34 l0 0).f1), rd [t112, t116, t120, t124, t128, t132] ((rd_T34 l0 0).f1), rd [t113, t117, t121, t125, t129, t133] ((rd_T34 l0 0).f1)] (ji8)) (wrap64 (x7_1 + (ji24))) (wrap64 (x8_1 + 1))) = some r := by first | (rw [hji24] at H; exact H) | (simp only [hji24] at H ⊢; exact H)
                          have hji24_ : (IntKind.i64.wrap (1 * 2 ^ min (ji22).toNat 64)) = ji24 := hji24
                          have hji24z : (ji22) ≤ 64 → (IntKind.i64.wrap (1 * 2 ^ (ji22).toNat)) = ji24 := shl_small hji24
                          have hji24u : (IntKind.i64.wrap (2 ^ min (ji22).toNat 64)) = ji24 := by have h_ := hji24_; rw [Int.one_mul] at h_; exact h_
                          have hji24v : (ji22) ≤ 64 → (IntKind.i64.wrap (2 ^ (ji22).toNat)) = ji24 := fun hle_ => by have h_ := hji24z hle_; rw [Int.one_mul] at h_; exact h_
                          have hji24y : (wrap64 (1 * 2 ^ min (ji22).toNat 64)) = ji24 := (i64_w _).symm.trans hji24_
                          have hji24x : (ji22) ≤ 64 → (wrap64 (1 * 2 ^ (ji22).toNat)) = ji24 := fun h_ => (i64_w _).symm.trans (hji24z h_)
                          have H' := Aside0.mk H
                          clear H
                          go_wp2
                          go_roundg k1
                          case measure => have := HK1.out; omega
                          case rel => exact ⟨(wrap64 (x7_1 + (ji24))), (wrap64 (x8_1 + 1)), (by first | rfl | (simp; done) | (simp only [← hji24] <;> (first | rfl | simp)) | (simp [*]; done) | (exact congrArg (Value.int .i64) (wrap_eq (by omega)))), (by first | rfl | (simp; done) | (simp [*]; done) | (exact congrArg (Value.int .i64) (wrap_eq (by omega)))), H', ⟨by have := HK1.out; omega⟩, ⟨by repeat (first | (with_reducible first | exact HB.out | apply below_alloc | apply pw_below_drewN | apply below_drew1) | exact HB.out)⟩⟩
                        · rw [if_neg c23] at H
                          exact absurd H (by simp)
                      · rw [if_neg c21] at H
                        have c21b0 : ((Int.tmod (ji20) 2) == 1) = false := beq_eq_false_iff_ne.mpr c21
                        have c21b1 : ((Int.tmod (ji20) 2) != 1) = true := bne_iff_ne.mpr c21
                        have H' := Aside0.mk H
                        clear H
                        go_wp2
                        go_roundg k1
                        case measure => have := HK1.out; omega
                        case rel => exact ⟨(x7_1), (wrap64 (x8_1 + 1)), (by first | rfl | (simp; done) | (simp [*]; done) | (exact congrArg (Value.int .i64) (wrap_eq (by omega)))), (by first | rfl | (simp; done) | (simp [*]; done) | (exact congrArg (Value.int .i64) (wrap_eq (by omega)))), H', ⟨by have := HK1.out; omega⟩, ⟨by repeat (first | (with_reducible first | exact HB.out | apply below_alloc | apply pw_below_drewN | apply below_drew1) | exact HB.out)⟩⟩
                    · rw [if_neg c19] at H
                      exact absurd H (by simp)
                  · rw [if_neg c17] at H
                    have c17b0 : decide (x8_1 < 4) = false := decide_eq_false c17
                    clear c17
                    obtain rfl := Option.some.inj H
                    go_wp2
                    go_ret
                    exact ⟨by first | rfl | (simp [errW_none, errW_some] <;> rfl) | (simp only [← hji8]; first | rfl | (simp [errW_none, errW_some] <;> rfl)) | (simp [*, errW_none, errW_some] <;> rfl), by repeat (first | (with_reducible first | exact HB.out | apply below_alloc | apply pw_below_drewN | apply below_drew1) | exact HB.out)⟩
          · rw [if_neg c10] at H
            exact absurd H (by simp)
        · rw [if_neg c9] at H
          exact absurd H (by simp)
      · rw [if_neg c6] at H
        exact absurd H (by simp)
    · rw [if_neg c5] at H
      exact absurd H (by simp)
  · rw [if_neg c3] at H
    exact absurd H (by simp)

/-! ### spec_l00In: function 49 -/
def spec_l00In.f (a0 : Int) (a1 : Int) (a2 : Int) : Option (Bool) := if a0 ≥ a1 then (some (decide (a0 ≤ a2))) else (some false)
set_option maxHeartbeats 8000000 in
set_option maxRecDepth 100000 in
theorem spec_l00In.calls (a0 : Int) (a1 : Int) (a2 : Int) (r : Bool) (w : World) (h : spec_l00In.f a0 a1 a2 = some r) :
    Calls Try.prog 49 #[.int .i64 a0, .int .i64 a1, .int .i64 a2] w fun e w' => e = .returned (.bool r) ∧ Drawn0 w w' := by
  have H : (if a0 ≥ a1 then (some (decide (a0 ≤ a2))) else (some false)) = some r := h
  clear h
  by_cases c4 : a0 ≥ a1
  · rw [if_pos c4] at H
    have c4b0 : decide (a1 ≤ a0) = true := decide_eq_true c4
    clear c4
    obtain rfl := Option.some.inj H
    go_enter Try.func49, Try.ntmps49
    go_wp2
    go_ret
    exact ⟨by first | rfl | (simp; done) | (simp [*]; done) | (exact congrArg (Value.int .i64) (wrap_eq (by omega))), by repeat (first | exact Drawn0.refl _ | apply Drawn0.step)⟩
  · rw [if_neg c4] at H
    have c4b0 : decide (a1 ≤ a0) = false := decide_eq_false c4
    clear c4
    obtain rfl := Option.some.inj H
    go_enter Try.func49, Try.ntmps49
    go_wp2
    go_ret
    exact ⟨by first | rfl | (simp; done) | (simp [*]; done) | (exact congrArg (Value.int .i64) (wrap_eq (by omega))), by repeat (first | exact Drawn0.refl _ | apply Drawn0.step)⟩

/-! ### spec_l01Side: function 50 -/
def spec_l01Side.f (a0 : Int) : Option (Bool) := (spec_l00In.f a0 0 3).bind fun t135 => (some t135)
set_option maxHeartbeats 8000000 in
set_option maxRecDepth 100000 in
theorem spec_l01Side.calls (a0 : Int) (r : Bool) (w : World) (h : spec_l01Side.f a0 = some r) :
    Calls Try.prog 50 #[.int .i64 a0] w fun e w' => e = .returned (.bool r) ∧ Drawn0 w w' := by
  have H : ((spec_l00In.f a0 0 3).bind fun t135 => (some t135)) = some r := h
  clear h
  replace H := Option.bind_eq_some_iff.mp H
  obtain ⟨t135, A20, H⟩ := H
  replace H : (some t135) = some r := H
  have A2 := Aside0.mk A20
  clear A20
  obtain rfl := Option.some.inj H
  go_enter Try.func50, Try.ntmps50
  go_wp2_with (first | ((with_reducible refine gate_callee (f := 49) rfl ?_); refine goesL_ (some 4) rfl rfl Try.func49 (by kernel_rfl) rfl #[.int .i64 a0, .int .i64 0, .int .i64 3] rfl (by (try simp only [List.map_toArray, List.map_cons, List.map_nil]); first | done | rfl | (simp only [List.length_drop, List.length_take]; rfl)) ?_; (with_reducible refine (spec_l00In.calls a0 0 3 t135 _ A2.out).mono ?_); rintro e w' ⟨rfl, ⟨nd, rfl⟩⟩; refine ⟨_, rfl, ?_⟩))
  go_ret
  exact ⟨by first | rfl | (simp; done) | (simp [*]; done) | (exact congrArg (Value.int .i64) (wrap_eq (by omega))), by repeat (first | exact Drawn0.refl _ | apply Drawn0.step)⟩

/-! ### spec_l01In: function 79 -/
def spec_l01In.f (a0_0 : Int) (a0_1 : Int) (a1 : Int) (a2 : Int) : Option (Bool) := (spec_l00In.f (wrap64 (a0_0)) 0 (wrap64 (a1 - 1))).bind fun t137 => (if t137 = true then ((spec_l00In.f (wrap64 (a0_1)) 0 (wrap64 (a2 - 1))).bind fun t138 => (some t138)) else (some false))
set_option maxHeartbeats 8000000 in
set_option maxRecDepth 100000 in
theorem spec_l01In.calls (a0_0 : Int) (a0_1 : Int) (a1 : Int) (a2 : Int) (r : Bool) (w : World) (h : spec_l01In.f a0_0 a0_1 a1 a2 = some r) :
    Calls Try.prog 79 #[.agg #[.int .i8 a0_0, .int .i8 a0_1], .int .i64 a1, .int .i64 a2] w fun e w' => e = .returned (.bool r) ∧ Below w.heap.size w w' := by
  have hu32 := Try.underlying32
  have HB := Aside0.mk (Below.refl w.heap.size w)
  have H : ((spec_l00In.f (wrap64 (a0_0)) 0 (wrap64 (a1 - 1))).bind fun t137 => (if t137 = true then ((spec_l00In.f (wrap64 (a0_1)) 0 (wrap64 (a2 - 1))).bind fun t138 => (some t138)) else (some false))) = some r := h
  clear h
  replace H := Option.bind_eq_some_iff.mp H
  obtain ⟨t137, A40, H⟩ := H
  replace H : (if t137 = true then ((spec_l00In.f (wrap64 (a0_1)) 0 (wrap64 (a2 - 1))).bind fun t138 => (some t138)) else (some false)) = some r := H
  have A4 := Aside0.mk A40
  clear A40
  by_cases c5 : t137 = true
  · subst c5
    have H1 : ((spec_l00In.f (wrap64 (a0_1)) 0 (wrap64 (a2 - 1))).bind fun t138 => (some t138)) = some r := by rw [if_pos rfl] at H; exact H
    clear H
    have H := H1
    clear H1
    replace H := Option.bind_eq_some_iff.mp H
    obtain ⟨t138, A60, H⟩ := H
    replace H : (some t138) = some r := H
    have A6 := Aside0.mk A60
    clear A60
    obtain rfl := Option.some.inj H
    go_enter Try.func79, Try.ntmps79
    go_wp2_with (first | ((with_reducible refine gate_dst (N := 3) rfl ?_); refine box_event ?hg (N := 3) ?hd (cs := #[.int .i8 a0_0, .int .i8 a0_1]) (t := 32) ?hr ?_; (case hd => rfl); (case hg => rfl); (case hr => first | (go_simp; done) | (go_simp; rfl)); intro gb136 hg w7 hbox hb; have n0_ := Aside0.mk (below_step (by repeat (first | (with_reducible first | exact HB.out | apply below_alloc | apply pw_below_drewN | apply below_drew1) | exact HB.out)) hb); have n1_ := Aside0.mk (hbox); have n2_ := Aside0.mk ((by rw [hg]; exact (below_size (by repeat (first | (with_reducible first | exact HB.out | apply below_alloc | apply pw_below_drewN | apply below_drew1) | exact HB.out))) : w.heap.size ≤ gb136)); have n3_ := Aside0.mk ((by rw [hg]; exact (below_size (by repeat (first | (with_reducible first | exact HB.out | apply below_alloc | apply pw_below_drewN | apply below_drew1) | exact HB.out))) : w.heap.size ≤ gb136)); clear HB; have HB := n0_; have BK136 := n1_; have GW136 := n2_; have GE136 := n3_; clear n0_ n1_ n2_ n3_; clear hb hbox hg; have hcz8_0 : w7.cell? ⟨gb136, 0, none⟩ = some (.int .i8 a0_0) := (blk_cell BK136.out 0).trans rfl; have hcz8_1 : w7.cell? ⟨gb136, 1, none⟩ = some (.int .i8 a0_1) := (blk_cell BK136.out 1).trans rfl; have hfz8_0 := blk_frozen BK136.out 0; have hfz8_1 := blk_frozen BK136.out 1) | ((with_reducible refine gate_callee (f := 49) rfl ?_); refine goesL_ (some 12) rfl rfl Try.func49 (by kernel_rfl) rfl #[.int .i64 (wrap64 (a0_0)), .int .i64 0, .int .i64 (wrap64 (a1 - 1))] rfl (by (try simp only [List.map_toArray, List.map_cons, List.map_nil]); first | done | rfl | (simp only [List.length_drop, List.length_take]; rfl)) ?_; (with_reducible refine (spec_l00In.calls (wrap64 (a0_0)) 0 (wrap64 (a1 - 1)) true _ A4.out).mono ?_); rintro e w' ⟨rfl, ⟨nd, rfl⟩⟩; refine ⟨_, rfl, ?_⟩) | (go_at_call 49; (with_reducible refine (spec_l00In.calls (wrap64 (a0_1)) 0 (wrap64 (a2 - 1)) t138 _ A6.out).mono ?_); rintro e w' ⟨rfl, ⟨nd, rfl⟩⟩))
    go_ret
    exact ⟨by first | rfl | (simp [errW_none, errW_some] <;> rfl) | (simp [*, errW_none, errW_some] <;> rfl), by repeat (first | (with_reducible first | exact HB.out | apply below_alloc | apply pw_below_drewN | apply below_drew1 | refine below_set ?_ GE136.out) | exact HB.out)⟩
  · replace c5 := Bool.eq_false_iff.mpr c5
    subst c5
    have H1 : (some false) = some r := by rw [if_neg (show ¬ (false = true) by decide)] at H; exact H
    clear H
    have H := H1
    clear H1
    obtain rfl := Option.some.inj H
    go_enter Try.func79, Try.ntmps79
    go_wp2_with (first | ((with_reducible refine gate_dst (N := 3) rfl ?_); refine box_event ?hg (N := 3) ?hd (cs := #[.int .i8 a0_0, .int .i8 a0_1]) (t := 32) ?hr ?_; (case hd => rfl); (case hg => rfl); (case hr => first | (go_simp; done) | (go_simp; rfl)); intro gb136 hg w9 hbox hb; have n0_ := Aside0.mk (below_step (by repeat (first | (with_reducible first | exact HB.out | apply below_alloc | apply pw_below_drewN | apply below_drew1) | exact HB.out)) hb); have n1_ := Aside0.mk (hbox); have n2_ := Aside0.mk ((by rw [hg]; exact (below_size (by repeat (first | (with_reducible first | exact HB.out | apply below_alloc | apply pw_below_drewN | apply below_drew1) | exact HB.out))) : w.heap.size ≤ gb136)); have n3_ := Aside0.mk ((by rw [hg]; exact (below_size (by repeat (first | (with_reducible first | exact HB.out | apply below_alloc | apply pw_below_drewN | apply below_drew1) | exact HB.out))) : w.heap.size ≤ gb136)); clear HB; have HB := n0_; have BK136 := n1_; have GW136 := n2_; have GE136 := n3_; clear n0_ n1_ n2_ n3_; clear hb hbox hg; have hcz10_0 : w9.cell? ⟨gb136, 0, none⟩ = some (.int .i8 a0_0) := (blk_cell BK136.out 0).trans rfl; have hcz10_1 : w9.cell? ⟨gb136, 1, none⟩ = some (.int .i8 a0_1) := (blk_cell BK136.out 1).trans rfl; have hfz10_0 := blk_frozen BK136.out 0; have hfz10_1 := blk_frozen BK136.out 1) | ((with_reducible refine gate_callee (f := 49) rfl ?_); refine goesL_ (some 12) rfl rfl Try.func49 (by kernel_rfl) rfl #[.int .i64 (wrap64 (a0_0)), .int .i64 0, .int .i64 (wrap64 (a1 - 1))] rfl (by (try simp only [List.map_toArray, List.map_cons, List.map_nil]); first | done | rfl | (simp only [List.length_drop, List.length_take]; rfl)) ?_; (with_reducible refine (spec_l00In.calls (wrap64 (a0_0)) 0 (wrap64 (a1 - 1)) false _ A4.out).mono ?_); rintro e w' ⟨rfl, ⟨nd, rfl⟩⟩; refine ⟨_, rfl, ?_⟩))
    go_ret
    exact ⟨by first | rfl | (simp [errW_none, errW_some] <;> rfl) | (simp [*, errW_none, errW_some] <;> rfl), by repeat (first | (with_reducible first | exact HB.out | apply below_alloc | apply pw_below_drewN | apply below_drew1 | refine below_set ?_ GE136.out) | exact HB.out)⟩

/-! ### spec_l01Piece: function 53 -/
def spec_l01Piece.f (l0 : List (S34)) : Option (Bool) := if 0 < (l0.length : Int) then ((spec_l00In.f (wrap64 ((rd_T34 l0 0).f1)) 0 5).bind fun t140 => (if t140 = true then ((spec_l00In.f (wrap64 ((rd_T34 l0 0).f2)) 0 3).bind fun t142 => (if t142 = true then ((spec_l00In.f (wrap64 ((rd_T34 l0 0).f3)) 1 9).bind fun t144 => (if t144 = true then ((spec_l01In.f ((rd_T34 l0 0).f0.f0) ((rd_T34 l0 0).f0.f1) 24 24).bind fun t146 => (some t146)) else (some false))) else (some false))) else (some false))) else (none)
set_option maxHeartbeats 8000000 in
set_option maxRecDepth 100000 in
theorem spec_l01Piece.calls (adp0 : Addr) (l0 : List (S34)) (r : Bool) (w : World) (hr0 : Kd.C k34 w (some adp0) l0.length l0) (h : spec_l01Piece.f l0 = some r) :
    Calls Try.prog 53 #[.pointer (some adp0)] w fun e w' => e = .returned (.bool r) ∧ Below w.heap.size w w' := by
  have hu32 := Try.underlying32
  have HR0 := Aside0.mk hr0
  clear hr0
  have HB := Aside0.mk (Below.refl w.heap.size w)
  have H : (if 0 < (l0.length : Int) then ((spec_l00In.f (wrap64 ((rd_T34 l0 0).f1)) 0 5).bind fun t140 => (if t140 = true then ((spec_l00In.f (wrap64 ((rd_T34 l0 0).f2)) 0 3).bind fun t142 => (if t142 = true then ((spec_l00In.f (wrap64 ((rd_T34 l0 0).f3)) 1 9).bind fun t144 => (if t144 = true then ((spec_l01In.f ((rd_T34 l0 0).f0.f0) ((rd_T34 l0 0).f0.f1) 24 24).bind fun t146 => (some t146)) else (some false))) else (some false))) else (some false))) else (none)) = some r := h
  clear h
  by_cases c2 : 0 < (l0.length : Int)
  · rw [if_pos c2] at H
    have c2b0 : decide (0 < (l0.length : Int)) = true := decide_eq_true c2
    have c2b1 : decide (0 < l0.length) = true := decide_eq_true (by omega)
    clear c2
    replace H := Option.bind_eq_some_iff.mp H
    obtain ⟨t140, A30, H⟩ := H
    replace H : (if t140 = true then ((spec_l00In.f (wrap64 ((rd_T34 l0 0).f2)) 0 3).bind fun t142 => (if t142 = true then ((spec_l00In.f (wrap64 ((rd_T34 l0 0).f3)) 1 9).bind fun t144 => (if t144 = true then ((spec_l01In.f ((rd_T34 l0 0).f0.f0) ((rd_T34 l0 0).f0.f1) 24 24).bind fun t146 => (some t146)) else (some false))) else (some false))) else (some false)) = some r := H
    have A3 := Aside0.mk A30
    clear A30
    by_cases c4 : t140 = true
    · subst c4
      have H1 : ((spec_l00In.f (wrap64 ((rd_T34 l0 0).f2)) 0 3).bind fun t142 => (if t142 = true then ((spec_l00In.f (wrap64 ((rd_T34 l0 0).f3)) 1 9).bind fun t144 => (if t144 = true then ((spec_l01In.f ((rd_T34 l0 0).f0.f0) ((rd_T34 l0 0).f0.f1) 24 24).bind fun t146 => (some t146)) else (some false))) else (some false))) = some r := by rw [if_pos rfl] at H; exact H
      clear H
      have H := H1
      clear H1
      replace H := Option.bind_eq_some_iff.mp H
      obtain ⟨t142, A50, H⟩ := H
      replace H : (if t142 = true then ((spec_l00In.f (wrap64 ((rd_T34 l0 0).f3)) 1 9).bind fun t144 => (if t144 = true then ((spec_l01In.f ((rd_T34 l0 0).f0.f0) ((rd_T34 l0 0).f0.f1) 24 24).bind fun t146 => (some t146)) else (some false))) else (some false)) = some r := H
      have A5 := Aside0.mk A50
      clear A50
      by_cases c6 : t142 = true
      · subst c6
        have H1 : ((spec_l00In.f (wrap64 ((rd_T34 l0 0).f3)) 1 9).bind fun t144 => (if t144 = true then ((spec_l01In.f ((rd_T34 l0 0).f0.f0) ((rd_T34 l0 0).f0.f1) 24 24).bind fun t146 => (some t146)) else (some false))) = some r := by rw [if_pos rfl] at H; exact H
        clear H
        have H := H1
        clear H1
        replace H := Option.bind_eq_some_iff.mp H
        obtain ⟨t144, A70, H⟩ := H
        replace H : (if t144 = true then ((spec_l01In.f ((rd_T34 l0 0).f0.f0) ((rd_T34 l0 0).f0.f1) 24 24).bind fun t146 => (some t146)) else (some false)) = some r := H
        have A7 := Aside0.mk A70
        clear A70
        by_cases c8 : t144 = true
        · subst c8
          have H1 : ((spec_l01In.f ((rd_T34 l0 0).f0.f0) ((rd_T34 l0 0).f0.f1) 24 24).bind fun t146 => (some t146)) = some r := by rw [if_pos rfl] at H; exact H
          clear H
          have H := H1
          clear H1
          replace H := Option.bind_eq_some_iff.mp H
          obtain ⟨t146, A90, H⟩ := H
          replace H : (some t146) = some r := H
          have A9 := Aside0.mk A90
          clear A90
          obtain rfl := Option.some.inj H
          have p139 : 0 ≤ (0 : Int) := (by omega)
          have q139 : 0 < (l0.length : Int) := of_decide_eq_true (by first | (with_reducible assumption) | assumption)
          obtain ⟨ad139, e139, hx139_0, hx139_1, hx139_2, hx139_3, hx139_4⟩ := at_T34 HR0.out 0 p139 q139
          obtain rfl : adp0 = ad139 := (by injection e139)
          have qi139 : (0 < l0.length) = True := eq_true (by omega)
          (try rw [show ((0 : Int)).toNat = 0 from rfl] at hx139_0)
          (try rw [show 0 * 5 = 0 from rfl] at hx139_0)
          (try rw [Addr.add_zero'] at hx139_0)
          (try rw [show ((0 : Int)).toNat = 0 from rfl] at hx139_1)
          (try rw [show 0 * 5 = 0 from rfl] at hx139_1)
          (try rw [Addr.add_zero'] at hx139_1)
          (try rw [show ((0 : Int)).toNat = 0 from rfl] at hx139_2)
          (try rw [show 0 * 5 = 0 from rfl] at hx139_2)
          (try rw [Addr.add_zero'] at hx139_2)
          (try rw [show ((0 : Int)).toNat = 0 from rfl] at hx139_3)
          (try rw [show 0 * 5 = 0 from rfl] at hx139_3)
          (try rw [Addr.add_zero'] at hx139_3)
          (try rw [show ((0 : Int)).toNat = 0 from rfl] at hx139_4)
          (try rw [show 0 * 5 = 0 from rfl] at hx139_4)
          (try rw [Addr.add_zero'] at hx139_4)
          replace p139 := eq_true p139
          replace q139 := eq_true q139
          go_enter Try.func53, Try.ntmps53
          go_wp2_with (first | ((with_reducible refine gate_callee (f := 49) rfl ?_); refine goesL_ (some 8) rfl rfl Try.func49 (by kernel_rfl) rfl #[.int .i64 (wrap64 ((rd_T34 l0 0).f1)), .int .i64 0, .int .i64 5] rfl (by (try simp only [List.map_toArray, List.map_cons, List.map_nil]); first | done | rfl | (simp only [List.length_drop, List.length_take]; rfl)) ?_; (with_reducible refine (spec_l00In.calls (wrap64 ((rd_T34 l0 0).f1)) 0 5 true _ A3.out).mono ?_); rintro e w' ⟨rfl, ⟨nd, rfl⟩⟩; refine ⟨_, rfl, ?_⟩; have p141 : 0 ≤ (0 : Int) := (by omega); have q141 : 0 < (l0.length : Int) := of_decide_eq_true (by first | (with_reducible assumption) | assumption); obtain ⟨ad141, e141, hx141_0, hx141_1, hx141_2, hx141_3, hx141_4⟩ := at_T34 HR0.out 0 p141 q141; obtain rfl : adp0 = ad141 := (by injection e141); have qi141 : (0 < l0.length) = True := eq_true (by omega); (try rw [show ((0 : Int)).toNat = 0 from rfl] at hx141_0); (try rw [show 0 * 5 = 0 from rfl] at hx141_0); (try rw [Addr.add_zero'] at hx141_0); (try rw [show ((0 : Int)).toNat = 0 from rfl] at hx141_1); (try rw [show 0 * 5 = 0 from rfl] at hx141_1); (try rw [Addr.add_zero'] at hx141_1); (try rw [show ((0 : Int)).toNat = 0 from rfl] at hx141_2); (try rw [show 0 * 5 = 0 from rfl] at hx141_2); (try rw [Addr.add_zero'] at hx141_2); (try rw [show ((0 : Int)).toNat = 0 from rfl] at hx141_3); (try rw [show 0 * 5 = 0 from rfl] at hx141_3); (try rw [Addr.add_zero'] at hx141_3); (try rw [show ((0 : Int)).toNat = 0 from rfl] at hx141_4); (try rw [show 0 * 5 = 0 from rfl] at hx141_4); (try rw [Addr.add_zero'] at hx141_4); replace p141 := eq_true p141; replace q141 := eq_true q141) | (go_at_call 49; (with_reducible refine (spec_l00In.calls (wrap64 ((rd_T34 l0 0).f2)) 0 3 true _ A5.out).mono ?_); rintro e w' ⟨rfl, ⟨nd, rfl⟩⟩; have p143 : 0 ≤ (0 : Int) := (by omega); have q143 : 0 < (l0.length : Int) := of_decide_eq_true (by first | (with_reducible assumption) | assumption); obtain ⟨ad143, e143, hx143_0, hx143_1, hx143_2, hx143_3, hx143_4⟩ := at_T34 HR0.out 0 p143 q143; obtain rfl : adp0 = ad143 := (by injection e143); have qi143 : (0 < l0.length) = True := eq_true (by omega); (try rw [show ((0 : Int)).toNat = 0 from rfl] at hx143_0); (try rw [show 0 * 5 = 0 from rfl] at hx143_0); (try rw [Addr.add_zero'] at hx143_0); (try rw [show ((0 : Int)).toNat = 0 from rfl] at hx143_1); (try rw [show 0 * 5 = 0 from rfl] at hx143_1); (try rw [Addr.add_zero'] at hx143_1); (try rw [show ((0 : Int)).toNat = 0 from rfl] at hx143_2); (try rw [show 0 * 5 = 0 from rfl] at hx143_2); (try rw [Addr.add_zero'] at hx143_2); (try rw [show ((0 : Int)).toNat = 0 from rfl] at hx143_3); (try rw [show 0 * 5 = 0 from rfl] at hx143_3); (try rw [Addr.add_zero'] at hx143_3); (try rw [show ((0 : Int)).toNat = 0 from rfl] at hx143_4); (try rw [show 0 * 5 = 0 from rfl] at hx143_4); (try rw [Addr.add_zero'] at hx143_4); replace p143 := eq_true p143; replace q143 := eq_true q143) | (go_at_call 49; (with_reducible refine (spec_l00In.calls (wrap64 ((rd_T34 l0 0).f3)) 1 9 true _ A7.out).mono ?_); rintro e w' ⟨rfl, ⟨nd, rfl⟩⟩; have p145 : 0 ≤ (0 : Int) := (by omega); have q145 : 0 < (l0.length : Int) := of_decide_eq_true (by first | (with_reducible assumption) | assumption); obtain ⟨ad145, e145, hx145_0, hx145_1, hx145_2, hx145_3, hx145_4⟩ := at_T34 HR0.out 0 p145 q145; obtain rfl : adp0 = ad145 := (by injection e145); have qi145 : (0 < l0.length) = True := eq_true (by omega); (try rw [show ((0 : Int)).toNat = 0 from rfl] at hx145_0); (try rw [show 0 * 5 = 0 from rfl] at hx145_0); (try rw [Addr.add_zero'] at hx145_0); (try rw [show ((0 : Int)).toNat = 0 from rfl] at hx145_1); (try rw [show 0 * 5 = 0 from rfl] at hx145_1); (try rw [Addr.add_zero'] at hx145_1); (try rw [show ((0 : Int)).toNat = 0 from rfl] at hx145_2); (try rw [show 0 * 5 = 0 from rfl] at hx145_2); (try rw [Addr.add_zero'] at hx145_2); (try rw [show ((0 : Int)).toNat = 0 from rfl] at hx145_3); (try rw [show 0 * 5 = 0 from rfl] at hx145_3); (try rw [Addr.add_zero'] at hx145_3); (try rw [show ((0 : Int)).toNat = 0 from rfl] at hx145_4); (try rw [show 0 * 5 = 0 from rfl] at hx145_4); (try rw [Addr.add_zero'] at hx145_4); replace p145 := eq_true p145; replace q145 := eq_true q145) | (go_at_call 79; (with_reducible refine (spec_l01In.calls ((rd_T34 l0 0).f0.f0) ((rd_T34 l0 0).f0.f1) 24 24 t146 _ A9.out).mono ?_); rintro e w10 ⟨rfl, hb⟩; have n0_ := Aside0.mk (below_step (by repeat (first | (with_reducible first | exact HB.out | apply below_alloc | apply pw_below_drewN | apply below_drew1) | exact HB.out)) hb); clear HB; have HB := n0_; clear n0_; (try clear hb); (try clear hb2); (try clear hk); (try clear hi)))
          go_ret
          exact ⟨by first | rfl | (simp [errW_none, errW_some] <;> rfl) | (simp [*, errW_none, errW_some] <;> rfl), by repeat (first | (with_reducible first | exact HB.out | apply below_alloc | apply pw_below_drewN | apply below_drew1) | exact HB.out)⟩
        · replace c8 := Bool.eq_false_iff.mpr c8
          subst c8
          have H1 : (some false) = some r := by rw [if_neg (show ¬ (false = true) by decide)] at H; exact H
          clear H
          have H := H1
          clear H1
          obtain rfl := Option.some.inj H
          have p139 : 0 ≤ (0 : Int) := (by omega)
          have q139 : 0 < (l0.length : Int) := of_decide_eq_true (by first | (with_reducible assumption) | assumption)
          obtain ⟨ad139, e139, hx139_0, hx139_1, hx139_2, hx139_3, hx139_4⟩ := at_T34 HR0.out 0 p139 q139
          obtain rfl : adp0 = ad139 := (by injection e139)
          have qi139 : (0 < l0.length) = True := eq_true (by omega)
          (try rw [show ((0 : Int)).toNat = 0 from rfl] at hx139_0)
          (try rw [show 0 * 5 = 0 from rfl] at hx139_0)
          (try rw [Addr.add_zero'] at hx139_0)
          (try rw [show ((0 : Int)).toNat = 0 from rfl] at hx139_1)
          (try rw [show 0 * 5 = 0 from rfl] at hx139_1)
          (try rw [Addr.add_zero'] at hx139_1)
          (try rw [show ((0 : Int)).toNat = 0 from rfl] at hx139_2)
          (try rw [show 0 * 5 = 0 from rfl] at hx139_2)
          (try rw [Addr.add_zero'] at hx139_2)
          (try rw [show ((0 : Int)).toNat = 0 from rfl] at hx139_3)
          (try rw [show 0 * 5 = 0 from rfl] at hx139_3)
          (try rw [Addr.add_zero'] at hx139_3)
          (try rw [show ((0 : Int)).toNat = 0 from rfl] at hx139_4)
          (try rw [show 0 * 5 = 0 from rfl] at hx139_4)
          (try rw [Addr.add_zero'] at hx139_4)
          replace p139 := eq_true p139
          replace q139 := eq_true q139
          go_enter Try.func53, Try.ntmps53
          go_wp2_with (first | ((with_reducible refine gate_callee (f := 49) rfl ?_); refine goesL_ (some 8) rfl rfl Try.func49 (by kernel_rfl) rfl #[.int .i64 (wrap64 ((rd_T34 l0 0).f1)), .int .i64 0, .int .i64 5] rfl (by (try simp only [List.map_toArray, List.map_cons, List.map_nil]); first | done | rfl | (simp only [List.length_drop, List.length_take]; rfl)) ?_; (with_reducible refine (spec_l00In.calls (wrap64 ((rd_T34 l0 0).f1)) 0 5 true _ A3.out).mono ?_); rintro e w' ⟨rfl, ⟨nd, rfl⟩⟩; refine ⟨_, rfl, ?_⟩; have p141 : 0 ≤ (0 : Int) := (by omega); have q141 : 0 < (l0.length : Int) := of_decide_eq_true (by first | (with_reducible assumption) | assumption); obtain ⟨ad141, e141, hx141_0, hx141_1, hx141_2, hx141_3, hx141_4⟩ := at_T34 HR0.out 0 p141 q141; obtain rfl : adp0 = ad141 := (by injection e141); have qi141 : (0 < l0.length) = True := eq_true (by omega); (try rw [show ((0 : Int)).toNat = 0 from rfl] at hx141_0); (try rw [show 0 * 5 = 0 from rfl] at hx141_0); (try rw [Addr.add_zero'] at hx141_0); (try rw [show ((0 : Int)).toNat = 0 from rfl] at hx141_1); (try rw [show 0 * 5 = 0 from rfl] at hx141_1); (try rw [Addr.add_zero'] at hx141_1); (try rw [show ((0 : Int)).toNat = 0 from rfl] at hx141_2); (try rw [show 0 * 5 = 0 from rfl] at hx141_2); (try rw [Addr.add_zero'] at hx141_2); (try rw [show ((0 : Int)).toNat = 0 from rfl] at hx141_3); (try rw [show 0 * 5 = 0 from rfl] at hx141_3); (try rw [Addr.add_zero'] at hx141_3); (try rw [show ((0 : Int)).toNat = 0 from rfl] at hx141_4); (try rw [show 0 * 5 = 0 from rfl] at hx141_4); (try rw [Addr.add_zero'] at hx141_4); replace p141 := eq_true p141; replace q141 := eq_true q141) | (go_at_call 49; (with_reducible refine (spec_l00In.calls (wrap64 ((rd_T34 l0 0).f2)) 0 3 true _ A5.out).mono ?_); rintro e w' ⟨rfl, ⟨nd, rfl⟩⟩; have p143 : 0 ≤ (0 : Int) := (by omega); have q143 : 0 < (l0.length : Int) := of_decide_eq_true (by first | (with_reducible assumption) | assumption); obtain ⟨ad143, e143, hx143_0, hx143_1, hx143_2, hx143_3, hx143_4⟩ := at_T34 HR0.out 0 p143 q143; obtain rfl : adp0 = ad143 := (by injection e143); have qi143 : (0 < l0.length) = True := eq_true (by omega); (try rw [show ((0 : Int)).toNat = 0 from rfl] at hx143_0); (try rw [show 0 * 5 = 0 from rfl] at hx143_0); (try rw [Addr.add_zero'] at hx143_0); (try rw [show ((0 : Int)).toNat = 0 from rfl] at hx143_1); (try rw [show 0 * 5 = 0 from rfl] at hx143_1); (try rw [Addr.add_zero'] at hx143_1); (try rw [show ((0 : Int)).toNat = 0 from rfl] at hx143_2); (try rw [show 0 * 5 = 0 from rfl] at hx143_2); (try rw [Addr.add_zero'] at hx143_2); (try rw [show ((0 : Int)).toNat = 0 from rfl] at hx143_3); (try rw [show 0 * 5 = 0 from rfl] at hx143_3); (try rw [Addr.add_zero'] at hx143_3); (try rw [show ((0 : Int)).toNat = 0 from rfl] at hx143_4); (try rw [show 0 * 5 = 0 from rfl] at hx143_4); (try rw [Addr.add_zero'] at hx143_4); replace p143 := eq_true p143; replace q143 := eq_true q143) | (go_at_call 49; (with_reducible refine (spec_l00In.calls (wrap64 ((rd_T34 l0 0).f3)) 1 9 false _ A7.out).mono ?_); rintro e w' ⟨rfl, ⟨nd, rfl⟩⟩))
          go_ret
          exact ⟨by first | rfl | (simp [errW_none, errW_some] <;> rfl) | (simp [*, errW_none, errW_some] <;> rfl), by repeat (first | (with_reducible first | exact HB.out | apply below_alloc | apply pw_below_drewN | apply below_drew1) | exact HB.out)⟩
      · replace c6 := Bool.eq_false_iff.mpr c6
        subst c6
        have H1 : (some false) = some r := by rw [if_neg (show ¬ (false = true) by decide)] at H; exact H
        clear H
        have H := H1
        clear H1
        obtain rfl := Option.some.inj H
        have p139 : 0 ≤ (0 : Int) := (by omega)
        have q139 : 0 < (l0.length : Int) := of_decide_eq_true (by first | (with_reducible assumption) | assumption)
        obtain ⟨ad139, e139, hx139_0, hx139_1, hx139_2, hx139_3, hx139_4⟩ := at_T34 HR0.out 0 p139 q139
        obtain rfl : adp0 = ad139 := (by injection e139)
        have qi139 : (0 < l0.length) = True := eq_true (by omega)
        (try rw [show ((0 : Int)).toNat = 0 from rfl] at hx139_0)
        (try rw [show 0 * 5 = 0 from rfl] at hx139_0)
        (try rw [Addr.add_zero'] at hx139_0)
        (try rw [show ((0 : Int)).toNat = 0 from rfl] at hx139_1)
        (try rw [show 0 * 5 = 0 from rfl] at hx139_1)
        (try rw [Addr.add_zero'] at hx139_1)
        (try rw [show ((0 : Int)).toNat = 0 from rfl] at hx139_2)
        (try rw [show 0 * 5 = 0 from rfl] at hx139_2)
        (try rw [Addr.add_zero'] at hx139_2)
        (try rw [show ((0 : Int)).toNat = 0 from rfl] at hx139_3)
        (try rw [show 0 * 5 = 0 from rfl] at hx139_3)
        (try rw [Addr.add_zero'] at hx139_3)
        (try rw [show ((0 : Int)).toNat = 0 from rfl] at hx139_4)
        (try rw [show 0 * 5 = 0 from rfl] at hx139_4)
        (try rw [Addr.add_zero'] at hx139_4)
        replace p139 := eq_true p139
        replace q139 := eq_true q139
        go_enter Try.func53, Try.ntmps53
        go_wp2_with (first | ((with_reducible refine gate_callee (f := 49) rfl ?_); refine goesL_ (some 8) rfl rfl Try.func49 (by kernel_rfl) rfl #[.int .i64 (wrap64 ((rd_T34 l0 0).f1)), .int .i64 0, .int .i64 5] rfl (by (try simp only [List.map_toArray, List.map_cons, List.map_nil]); first | done | rfl | (simp only [List.length_drop, List.length_take]; rfl)) ?_; (with_reducible refine (spec_l00In.calls (wrap64 ((rd_T34 l0 0).f1)) 0 5 true _ A3.out).mono ?_); rintro e w' ⟨rfl, ⟨nd, rfl⟩⟩; refine ⟨_, rfl, ?_⟩; have p141 : 0 ≤ (0 : Int) := (by omega); have q141 : 0 < (l0.length : Int) := of_decide_eq_true (by first | (with_reducible assumption) | assumption); obtain ⟨ad141, e141, hx141_0, hx141_1, hx141_2, hx141_3, hx141_4⟩ := at_T34 HR0.out 0 p141 q141; obtain rfl : adp0 = ad141 := (by injection e141); have qi141 : (0 < l0.length) = True := eq_true (by omega); (try rw [show ((0 : Int)).toNat = 0 from rfl] at hx141_0); (try rw [show 0 * 5 = 0 from rfl] at hx141_0); (try rw [Addr.add_zero'] at hx141_0); (try rw [show ((0 : Int)).toNat = 0 from rfl] at hx141_1); (try rw [show 0 * 5 = 0 from rfl] at hx141_1); (try rw [Addr.add_zero'] at hx141_1); (try rw [show ((0 : Int)).toNat = 0 from rfl] at hx141_2); (try rw [show 0 * 5 = 0 from rfl] at hx141_2); (try rw [Addr.add_zero'] at hx141_2); (try rw [show ((0 : Int)).toNat = 0 from rfl] at hx141_3); (try rw [show 0 * 5 = 0 from rfl] at hx141_3); (try rw [Addr.add_zero'] at hx141_3); (try rw [show ((0 : Int)).toNat = 0 from rfl] at hx141_4); (try rw [show 0 * 5 = 0 from rfl] at hx141_4); (try rw [Addr.add_zero'] at hx141_4); replace p141 := eq_true p141; replace q141 := eq_true q141) | (go_at_call 49; (with_reducible refine (spec_l00In.calls (wrap64 ((rd_T34 l0 0).f2)) 0 3 false _ A5.out).mono ?_); rintro e w' ⟨rfl, ⟨nd, rfl⟩⟩))
        go_ret
        exact ⟨by first | rfl | (simp [errW_none, errW_some] <;> rfl) | (simp [*, errW_none, errW_some] <;> rfl), by repeat (first | (with_reducible first | exact HB.out | apply below_alloc | apply pw_below_drewN | apply below_drew1) | exact HB.out)⟩
    · replace c4 := Bool.eq_false_iff.mpr c4
      subst c4
      have H1 : (some false) = some r := by rw [if_neg (show ¬ (false = true) by decide)] at H; exact H
      clear H
      have H := H1
      clear H1
      obtain rfl := Option.some.inj H
      have p139 : 0 ≤ (0 : Int) := (by omega)
      have q139 : 0 < (l0.length : Int) := of_decide_eq_true (by first | (with_reducible assumption) | assumption)
      obtain ⟨ad139, e139, hx139_0, hx139_1, hx139_2, hx139_3, hx139_4⟩ := at_T34 HR0.out 0 p139 q139
      obtain rfl : adp0 = ad139 := (by injection e139)
      have qi139 : (0 < l0.length) = True := eq_true (by omega)
      (try rw [show ((0 : Int)).toNat = 0 from rfl] at hx139_0)
      (try rw [show 0 * 5 = 0 from rfl] at hx139_0)
      (try rw [Addr.add_zero'] at hx139_0)
      (try rw [show ((0 : Int)).toNat = 0 from rfl] at hx139_1)
      (try rw [show 0 * 5 = 0 from rfl] at hx139_1)
      (try rw [Addr.add_zero'] at hx139_1)
      (try rw [show ((0 : Int)).toNat = 0 from rfl] at hx139_2)
      (try rw [show 0 * 5 = 0 from rfl] at hx139_2)
      (try rw [Addr.add_zero'] at hx139_2)
      (try rw [show ((0 : Int)).toNat = 0 from rfl] at hx139_3)
      (try rw [show 0 * 5 = 0 from rfl] at hx139_3)
      (try rw [Addr.add_zero'] at hx139_3)
      (try rw [show ((0 : Int)).toNat = 0 from rfl] at hx139_4)
      (try rw [show 0 * 5 = 0 from rfl] at hx139_4)
      (try rw [Addr.add_zero'] at hx139_4)
      replace p139 := eq_true p139
      replace q139 := eq_true q139
      go_enter Try.func53, Try.ntmps53
      go_wp2_with (first | ((with_reducible refine gate_callee (f := 49) rfl ?_); refine goesL_ (some 8) rfl rfl Try.func49 (by kernel_rfl) rfl #[.int .i64 (wrap64 ((rd_T34 l0 0).f1)), .int .i64 0, .int .i64 5] rfl (by (try simp only [List.map_toArray, List.map_cons, List.map_nil]); first | done | rfl | (simp only [List.length_drop, List.length_take]; rfl)) ?_; (with_reducible refine (spec_l00In.calls (wrap64 ((rd_T34 l0 0).f1)) 0 5 false _ A3.out).mono ?_); rintro e w' ⟨rfl, ⟨nd, rfl⟩⟩; refine ⟨_, rfl, ?_⟩))
      go_ret
      exact ⟨by first | rfl | (simp [errW_none, errW_some] <;> rfl) | (simp [*, errW_none, errW_some] <;> rfl), by repeat (first | (with_reducible first | exact HB.out | apply below_alloc | apply pw_below_drewN | apply below_drew1) | exact HB.out)⟩
  · rw [if_neg c2] at H
    exact absurd H (by simp)

end Go.Proofs.Ytkcbcbannbllaaa.PFnExactHitsFrom
