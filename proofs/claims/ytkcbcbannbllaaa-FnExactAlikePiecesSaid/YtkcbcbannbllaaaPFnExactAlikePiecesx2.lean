-- WRITTEN by xprint.py, a program of this session's. Not trusted: Lean checks it.
import Derived.Test.YtkcbcbannbllaaaPFnExactAlikePiecesx0
import Derived.Test.YtkcbcbannbllaaaPFnExactAlikePiecesx1
namespace Go.Proofs.Ytkcbcbannbllaaa.PFnExactAlikePieces
open Go.RowKit Go.Proofs.YtkcbcbannbllaaaW.PrintWords Go.Proofs.YtkcbcbannbllaaaW.PrintLast Go.Proofs.YtkcbcbannbllaaaW.PrintMore Go.Proofs.YtkcbcbannbllaaaX
attribute [local go_sem] max2_int min2_int max_two min_two max_three min_three max_four min_four   -- for this text's walks alone
set_option linter.unusedVariables false
set_option linter.unusedSimpArgs false

/-! ### spec_l01Hits: function 71 -/
def spec_l01Hits.l0 : Nat → Int → Int → Int → Int → Option (Int)
  | 0, _, _, _, _ => none
  | k + 1, x5, x6, x7, x8 => if x8 < 4 then (if 0 ≤ (IntKind.u64.wrap (x8)) then (if (Int.tmod (shr .i64 x6 (IntKind.u64.wrap (x8))) 2) = 1 then (if 0 ≤ (IntKind.u64.wrap (Int.tmod (wrap64 (x8 + x5)) 4)) then (spec_l01Hits.l0 k x5 x6 (wrap64 (x7 + (shl .i64 1 (IntKind.u64.wrap (Int.tmod (wrap64 (x8 + x5)) 4))))) (wrap64 (x8 + 1))) else (none)) else (spec_l01Hits.l0 k x5 x6 x7 (wrap64 (x8 + 1)))) else (none)) else (some x7)
def spec_l01Hits.f (k : Nat) (l0 : List (S34)) (a1 : Int) : Option (Int) := if 0 < (l0.length : Int) then ((spec_l01Table.f).bind fun bt121 => (if 0 ≤ ((rd_T34 l0 0).f1) then (if ((rd_T34 l0 0).f1) < 6 then (if 0 ≤ (Int.tmod (wrap64 ((wrap64 (a1 + 4)) - (wrap64 ((rd_T34 l0 0).f2)))) 4) then (if (Int.tmod (wrap64 ((wrap64 (a1 + 4)) - (wrap64 ((rd_T34 l0 0).f2)))) 4) < 4 then (if (rd [rd [bt121.1, bt121.2.2.2.2.1, bt121.2.2.2.2.2.2.2.2.1, bt121.2.2.2.2.2.2.2.2.2.2.2.2.1, bt121.2.2.2.2.2.2.2.2.2.2.2.2.2.2.2.2.1, bt121.2.2.2.2.2.2.2.2.2.2.2.2.2.2.2.2.2.2.2.2.1] ((rd_T34 l0 0).f1), rd [bt121.2.1, bt121.2.2.2.2.2.1, bt121.2.2.2.2.2.2.2.2.2.1, bt121.2.2.2.2.2.2.2.2.2.2.2.2.2.1, bt121.2.2.2.2.2.2.2.2.2.2.2.2.2.2.2.2.2.1, bt121.2.2.2.2.2.2.2.2.2.2.2.2.2.2.2.2.2.2.2.2.2.1] ((rd_T34 l0 0).f1), rd [bt121.2.2.1, bt121.2.2.2.2.2.2.1, bt121.2.2.2.2.2.2.2.2.2.2.1, bt121.2.2.2.2.2.2.2.2.2.2.2.2.2.2.1, bt121.2.2.2.2.2.2.2.2.2.2.2.2.2.2.2.2.2.2.1, bt121.2.2.2.2.2.2.2.2.2.2.2.2.2.2.2.2.2.2.2.2.2.2.1] ((rd_T34 l0 0).f1), rd [bt121.2.2.2.1, bt121.2.2.2.2.2.2.2.1, bt121.2.2.2.2.2.2.2.2.2.2.2.1, bt121.2.2.2.2.2.2.2.2.2.2.2.2.2.2.2.1, bt121.2.2.2.2.2.2.2.2.2.2.2.2.2.2.2.2.2.2.2.1, bt121.2.2.2.2.2.2.2.2.2.2.2.2.2.2.2.2.2.2.2.2.2.2.2] ((rd_T34 l0 0).f1)] (Int.tmod (wrap64 ((wrap64 (a1 + 4)) - (wrap64 ((rd_T34 l0 0).f2)))) 4)) < 0 then (some (-1)) else (spec_l01Hits.l0 k (wrap64 ((rd_T34 l0 0).f2)) (rd [rd [bt121.1, bt121.2.2.2.2.1, bt121.2.2.2.2.2.2.2.2.1, bt121.2.2.2.2.2.2.2.2.2.2.2.2.1, bt121.2.2.2.2.2.2.2.2.2.2.2.2.2.2.2.2.1, bt121.2.2.2.2.2.2.2.2.2.2.2.2.2.2.2.2.2.2.2.2.1] ((rd_T34 l0 0).f1), rd [bt121.2.1, bt121.2.2.2.2.2.1, bt121.2.2.2.2.2.2.2.2.2.1, bt121.2.2.2.2.2.2.2.2.2.2.2.2.2.1, bt121.2.2.2.2.2.2.2.2.2.2.2.2.2.2.2.2.2.1, bt121.2.2.2.2.2.2.2.2.2.2.2.2.2.2.2.2.2.2.2.2.2.1] ((rd_T34 l0 0).f1), rd [bt121.2.2.1, bt121.2.2.2.2.2.2.1, bt121.2.2.2.2.2.2.2.2.2.2.1, bt121.2.2.2.2.2.2.2.2.2.2.2.2.2.2.1, bt121.2.2.2.2.2.2.2.2.2.2.2.2.2.2.2.2.2.2.1, bt121.2.2.2.2.2.2.2.2.2.2.2.2.2.2.2.2.2.2.2.2.2.2.1] ((rd_T34 l0 0).f1), rd [bt121.2.2.2.1, bt121.2.2.2.2.2.2.2.1, bt121.2.2.2.2.2.2.2.2.2.2.2.1, bt121.2.2.2.2.2.2.2.2.2.2.2.2.2.2.2.1, bt121.2.2.2.2.2.2.2.2.2.2.2.2.2.2.2.2.2.2.2.1, bt121.2.2.2.2.2.2.2.2.2.2.2.2.2.2.2.2.2.2.2.2.2.2.2] ((rd_T34 l0 0).f1)] (Int.tmod (wrap64 ((wrap64 (a1 + 4)) - (wrap64 ((rd_T34 l0 0).f2)))) 4)) 0 0)) else (none)) else (none)) else (none)) else (none))) else (none)
theorem spec_l01Hits.mono_l : ∀ k, (∀ y0 y1 y2 y3, LeO (spec_l01Hits.l0 k y0 y1 y2 y3) (spec_l01Hits.l0 (k + 1) y0 y1 y2 y3))
  | 0 => fun _ _ _ _ r h => by simp [spec_l01Hits.l0] at h
  | k + 1 => by
    have ih0 := spec_l01Hits.mono_l k
    · intro y0 y1 y2 y3
      unfold spec_l01Hits.l0
      repeat' first
      | (with_reducible exact ih0 _ _ _ _)
      | (with_reducible exact LeO.refl _)
      | (with_reducible exact LeO.none _)
      | (with_reducible refine LeO.ite ?_ ?_)
      | (with_reducible refine LeO.bind ?_ (fun _ => ?_))
      | exact ih0 _ _ _ _
      | exact LeO.none _
      | refine LeO.ite ?_ ?_
      | refine LeO.bind ?_ (fun _ => ?_)
theorem spec_l01Hits.mono : ∀ a0 a1 k, LeO (spec_l01Hits.f k a0 a1) (spec_l01Hits.f (k + 1) a0 a1) := by
  intro a0 a1 k
  have ih0 := spec_l01Hits.mono_l k
  unfold spec_l01Hits.f
  repeat' first
      | (with_reducible exact ih0 _ _ _ _)
      | (with_reducible exact LeO.refl _)
      | (with_reducible exact LeO.none _)
      | (with_reducible refine LeO.ite ?_ ?_)
      | (with_reducible refine LeO.bind ?_ (fun _ => ?_))
      | exact ih0 _ _ _ _
      | exact LeO.none _
      | refine LeO.ite ?_ ?_
      | refine LeO.bind ?_ (fun _ => ?_)
def spec_l01Hits.T2 : Bool × List (List Nat × List Nat) := (true, [([], []), ([], []), ([1], [1]), ([2], [2]), ([3], [3]), ([0, 4], [0, 4]), ([], []), ([6], [6]), ([], []), ([7, 8], [7, 8]), ([9], [9]), ([5, 10], [5, 10]), ([11, 0, 0, 1, 2, 3, 4, 5, 6, 7, 8, 9, 10, 11], [11])])
def spec_l01Hits.B2 : List Nat := [0, 0, 2, 6, 14, 31, 0, 64, 0, 448, 960, 2047, 4095]
theorem spec_l01Hits.tab2 : rtab .any (opsOf Try.f71 2) = spec_l01Hits.T2 := by kernel_rfl
theorem spec_l01Hits.bits2 : waitsOk spec_l01Hits.T2.2 spec_l01Hits.B2 = true := by kernel_rfl
set_option maxHeartbeats 8000000 in
set_option maxRecDepth 100000 in
theorem spec_l01Hits.calls (k : Nat) (adp0 : Addr) (l0 : List (S34)) (a1 : Int) (r : Int) (w : World) (hr0 : Kd.C k34 w (some adp0) l0.length l0) (h : spec_l01Hits.f k l0 a1 = some r) :
    Calls Try.prog 71 #[.pointer (some adp0), .int .i64 a1] w fun e w' => e = .returned (.int .i64 r) ∧ Below w.heap.size w w' := by
  have HR0 := Aside0.mk hr0
  clear hr0
  have HB := Aside0.mk (Below.refl w.heap.size w)
  have H : (if 0 < (l0.length : Int) then ((spec_l01Table.f).bind fun bt121 => (if 0 ≤ ((rd_T34 l0 0).f1) then (if ((rd_T34 l0 0).f1) < 6 then (if 0 ≤ (Int.tmod (wrap64 ((wrap64 (a1 + 4)) - (wrap64 ((rd_T34 l0 0).f2)))) 4) then (if (Int.tmod (wrap64 ((wrap64 (a1 + 4)) - (wrap64 ((rd_T34 l0 0).f2)))) 4) < 4 then (if (rd [rd [bt121.1, bt121.2.2.2.2.1, bt121.2.2.2.2.2.2.2.2.1, bt121.2.2.2.2.2.2.2.2.2.2.2.2.1, bt121.2.2.2.2.2.2.2.2.2.2.2.2.2.2.2.2.1, bt121.2.2.2.2.2.2.2.2.2.2.2.2.2.2.2.2.2.2.2.2.1] ((rd_T34 l0 0).f1), rd [bt121.2.1, bt121.2.2.2.2.2.1, bt121.2.2.2.2.2.2.2.2.2.1, bt121.2.2.2.2.2.2.2.2.2.2.2.2.2.1, bt121.2.2.2.2.2.2.2.2.2.2.2.2.2.2.2.2.2.1, bt121.2.2.2.2.2.2.2.2.2.2.2.2.2.2.2.2.2.2.2.2.2.1] ((rd_T34 l0 0).f1), rd [bt121.2.2.1, bt121.2.2.2.2.2.2.1, bt121.2.2.2.2.2.2.2.2.2.2.1, bt121.2.2.2.2.2.2.2.2.2.2.2.2.2.2.1, bt121.2.2.2.2.2.2.2.2.2.2.2.2.2.2.2.2.2.2.1, bt121.2.2.2.2.2.2.2.2.2.2.2.2.2.2.2.2.2.2.2.2.2.2.1] ((rd_T34 l0 0).f1), rd [bt121.2.2.2.1, bt121.2.2.2.2.2.2.2.1, bt121.2.2.2.2.2.2.2.2.2.2.2.1, bt121.2.2.2.2.2.2.2.2.2.2.2.2.2.2.2.1, bt121.2.2.2.2.2.2.2.2.2.2.2.2.2.2.2.2.2.2.2.1, bt121.2.2.2.2.2.2.2.2.2.2.2.2.2.2.2.2.2.2.2.2.2.2.2] ((rd_T34 l0 0).f1)] (Int.tmod (wrap64 ((wrap64 (a1 + 4)) - (wrap64 ((rd_T34 l0 0).f2)))) 4)) < 0 then (some (-1)) else (spec_l01Hits.l0 k (wrap64 ((rd_T34 l0 0).f2)) (rd [rd [bt121.1, bt121.2.2.2.2.1, bt121.2.2.2.2.2.2.2.2.1, bt121.2.2.2.2.2.2.2.2.2.2.2.2.1, bt121.2.2.2.2.2.2.2.2.2.2.2.2.2.2.2.2.1, bt121.2.2.2.2.2.2.2.2.2.2.2.2.2.2.2.2.2.2.2.2.1] ((rd_T34 l0 0).f1), rd [bt121.2.1, bt121.2.2.2.2.2.1, bt121.2.2.2.2.2.2.2.2.2.1, bt121.2.2.2.2.2.2.2.2.2.2.2.2.2.1, bt121.2.2.2.2.2.2.2.2.2.2.2.2.2.2.2.2.2.1, bt121.2.2.2.2.2.2.2.2.2.2.2.2.2.2.2.2.2.2.2.2.2.1] ((rd_T34 l0 0).f1), rd [bt121.2.2.1, bt121.2.2.2.2.2.2.1, bt121.2.2.2.2.2.2.2.2.2.2.1, bt121.2.2.2.2.2.2.2.2.2.2.2.2.2.2.1, bt121.2.2.2.2.2.2.2.2.2.2.2.2.2.2.2.2.2.2.1, bt121.2.2.2.2.2.2.2.2.2.2.2.2.2.2.2.2.2.2.2.2.2.2.1] ((rd_T34 l0 0).f1), rd [bt121.2.2.2.1, bt121.2.2.2.2.2.2.2.1, bt121.2.2.2.2.2.2.2.2.2.2.2.1, bt121.2.2.2.2.2.2.2.2.2.2.2.2.2.2.2.1, bt121.2.2.2.2.2.2.2.2.2.2.2.2.2.2.2.2.2.2.2.1, bt121.2.2.2.2.2.2.2.2.2.2.2.2.2.2.2.2.2.2.2.2.2.2.2] ((rd_T34 l0 0).f1)] (Int.tmod (wrap64 ((wrap64 (a1 + 4)) - (wrap64 ((rd_T34 l0 0).f2)))) 4)) 0 0)) else (none)) else (none)) else (none)) else (none))) else (none)) = some r := h
  clear h
  by_cases c3 : 0 < (l0.length : Int)
  · rw [if_pos c3] at H
    have c3b0 : decide (0 < (l0.length : Int)) = true := decide_eq_true c3
    have c3b1 : decide (0 < l0.length) = true := decide_eq_true (by omega)
    clear c3
    replace H := Option.bind_eq_some_iff.mp H
    obtain ⟨⟨t121, t122, t123, t124, t125, t126, t127, t128, t129, t130, t131, t132, t133, t134, t135, t136, t137, t138, t139, t140, t141, t142, t143, t144⟩, A40, H⟩ := H
    replace H : (if 0 ≤ ((rd_T34 l0 0).f1) then (if ((rd_T34 l0 0).f1) < 6 then (if 0 ≤ (Int.tmod (wrap64 ((wrap64 (a1 + 4)) - (wrap64 ((rd_T34 l0 0).f2)))) 4) then (if (Int.tmod (wrap64 ((wrap64 (a1 + 4)) - (wrap64 ((rd_T34 l0 0).f2)))) 4) < 4 then (if (rd [rd [t121, t125, t129, t133, t137, t141] ((rd_T34 l0 0).f1), rd [t122, t126, t130, t134, t138, t142] ((rd_T34 l0 0).f1), rd [t123, t127, t131, t135, t139, t143] ((rd_T34 l0 0).f1), rd [t124, t128, t132, t136, t140, t144] ((rd_T34 l0 0).f1)] (Int.tmod (wrap64 ((wrap64 (a1 + 4)) - (wrap64 ((rd_T34 l0 0).f2)))) 4)) < 0 then (some (-1)) else (spec_l01Hits.l0 k (wrap64 ((rd_T34 l0 0).f2)) (rd [rd [t121, t125, t129, t133, t137, t141] ((rd_T34 l0 0).f1), rd [t122, t126, t130, t134, t138, t142] ((rd_T34 l0 0).f1), rd [t123, t127, t131, t135, t139, t143] ((rd_T34 l0 0).f1), rd [t124, t128, t132, t136, t140, t144] ((rd_T34 l0 0).f1)] (Int.tmod (wrap64 ((wrap64 (a1 + 4)) - (wrap64 ((rd_T34 l0 0).f2)))) 4)) 0 0)) else (none)) else (none)) else (none)) else (none)) = some r := H
    have A4 := Aside0.mk A40
    clear A40
    by_cases c5 : 0 ≤ ((rd_T34 l0 0).f1)
    · rw [if_pos c5] at H
      have c5b0 : decide (0 ≤ ((rd_T34 l0 0).f1)) = true := decide_eq_true c5
      clear c5
      by_cases c6 : ((rd_T34 l0 0).f1) < 6
      · rw [if_pos c6] at H
        have c6b0 : decide (((rd_T34 l0 0).f1) < 6) = true := decide_eq_true c6
        clear c6
        have ar7l : 0 ≤ ((rd_T34 l0 0).f1) := of_decide_eq_true (by first | (with_reducible assumption) | assumption | exact decide_eq_true (by omega))
        have ar7h : ((rd_T34 l0 0).f1) < 6 := of_decide_eq_true (by first | (with_reducible assumption) | assumption | exact decide_eq_true (by omega))
        have ar7r : ∀ W_ : World, (Instr.index 108 (.agg #[.int .i64 t121, .int .i64 t122, .int .i64 t123, .int .i64 t124, .int .i64 t125, .int .i64 t126, .int .i64 t127, .int .i64 t128, .int .i64 t129, .int .i64 t130, .int .i64 t131, .int .i64 t132, .int .i64 t133, .int .i64 t134, .int .i64 t135, .int .i64 t136, .int .i64 t137, .int .i64 t138, .int .i64 t139, .int .i64 t140, .int .i64 t141, .int .i64 t142, .int .i64 t143, .int .i64 t144]) (.int .i8 ((rd_T34 l0 0).f1))).run Try.prog W_ = .ok (.agg #[.int .i64 (rd [t121, t125, t129, t133, t137, t141] ((rd_T34 l0 0).f1)), .int .i64 (rd [t122, t126, t130, t134, t138, t142] ((rd_T34 l0 0).f1)), .int .i64 (rd [t123, t127, t131, t135, t139, t143] ((rd_T34 l0 0).f1)), .int .i64 (rd [t124, t128, t132, t136, t140, t144] ((rd_T34 l0 0).f1))]) W_ := by
          intro W_
          have h_ : ((rd_T34 l0 0).f1) = 0 ∨ ((rd_T34 l0 0).f1) = 1 ∨ ((rd_T34 l0 0).f1) = 2 ∨ ((rd_T34 l0 0).f1) = 3 ∨ ((rd_T34 l0 0).f1) = 4 ∨ ((rd_T34 l0 0).f1) = 5 := by omega
          rcases h_ with h_ | h_ | h_ | h_ | h_ | h_ <;> (rw [h_]; first | rfl | kernel_rfl)
        clear ar7l ar7h
        obtain ⟨ji8, hji8⟩ : ∃ j_ : Int, (Int.tmod (wrap64 ((wrap64 (a1 + 4)) - (wrap64 ((rd_T34 l0 0).f2)))) 4) = j_ := ⟨_, rfl⟩
        replace H : (if 0 ≤ (ji8) then (if (ji8) < 4 then (if (rd [rd [t121, t125, t129, t133, t137, t141] ((rd_T34 l0 0).f1), rd [t122, t126, t130, t134, t138, t142] ((rd_T34 l0 0).f1), rd [t123, t127, t131, t135, t139, t143] ((rd_T34 l0 0).f1), rd [t124, t128, t132, t136, t140, t144] ((rd_T34 l0 0).f1)] (ji8)) < 0 then (some (-1)) else (spec_l01Hits.l0 k (wrap64 ((rd_T34 l0 0).f2)) (rd [rd [t121, t125, t129, t133, t137, t141] ((rd_T34 l0 0).f1), rd [t122, t126, t130, t134, t138, t142] ((rd_T34 l0 0).f1), rd [t123, t127, t131, t135, t139, t143] ((rd_T34 l0 0).f1), rd [t124, t128, t132, t136, t140, t144] ((rd_T34 l0 0).f1)] (ji8)) 0 0)) else (none)) else (none)) = some r := by first | (rw [hji8] at H; exact H) | (simp only [hji8] at H ⊢; exact H)
        (try rw [hji8] at A4)
        by_cases c9 : 0 ≤ (ji8)
        · rw [if_pos c9] at H
          have c9b0 : decide (0 ≤ (ji8)) = true := decide_eq_true c9
          clear c9
          by_cases c10 : (ji8) < 4
          · rw [if_pos c10] at H
            have c10b0 : decide ((ji8) < 4) = true := decide_eq_true c10
            clear c10
            have ar11l : 0 ≤ ji8 := of_decide_eq_true (by first | (with_reducible assumption) | assumption | exact decide_eq_true (by omega))
            have ar11h : ji8 < 4 := of_decide_eq_true (by first | (with_reducible assumption) | assumption | exact decide_eq_true (by omega))
            have ar11r : ∀ W_ : World, (Instr.index 107 (.agg #[.int .i64 (rd [t121, t125, t129, t133, t137, t141] ((rd_T34 l0 0).f1)), .int .i64 (rd [t122, t126, t130, t134, t138, t142] ((rd_T34 l0 0).f1)), .int .i64 (rd [t123, t127, t131, t135, t139, t143] ((rd_T34 l0 0).f1)), .int .i64 (rd [t124, t128, t132, t136, t140, t144] ((rd_T34 l0 0).f1))]) (.int .i64 ji8)).run Try.prog W_ = .ok (.int .i64 (rd [rd [t121, t125, t129, t133, t137, t141] ((rd_T34 l0 0).f1), rd [t122, t126, t130, t134, t138, t142] ((rd_T34 l0 0).f1), rd [t123, t127, t131, t135, t139, t143] ((rd_T34 l0 0).f1), rd [t124, t128, t132, t136, t140, t144] ((rd_T34 l0 0).f1)] (ji8))) W_ := by
              intro W_
              have h_ : ji8 = 0 ∨ ji8 = 1 ∨ ji8 = 2 ∨ ji8 = 3 := by omega
              rcases h_ with h_ | h_ | h_ | h_ <;> (rw [h_]; first | rfl | kernel_rfl)
            clear ar11l ar11h
            by_cases c12 : (rd [rd [t121, t125, t129, t133, t137, t141] ((rd_T34 l0 0).f1), rd [t122, t126, t130, t134, t138, t142] ((rd_T34 l0 0).f1), rd [t123, t127, t131, t135, t139, t143] ((rd_T34 l0 0).f1), rd [t124, t128, t132, t136, t140, t144] ((rd_T34 l0 0).f1)] (ji8)) < 0
            · rw [if_pos c12] at H
              have c12b0 : decide ((rd [rd [t121, t125, t129, t133, t137, t141] ((rd_T34 l0 0).f1), rd [t122, t126, t130, t134, t138, t142] ((rd_T34 l0 0).f1), rd [t123, t127, t131, t135, t139, t143] ((rd_T34 l0 0).f1), rd [t124, t128, t132, t136, t140, t144] ((rd_T34 l0 0).f1)] (ji8)) < 0) = true := decide_eq_true c12
              clear c12
              obtain rfl := Option.some.inj H
              have p120 : 0 ≤ (0 : Int) := (by omega)
              have q120 : 0 < (l0.length : Int) := of_decide_eq_true (by first | (with_reducible assumption) | assumption)
              obtain ⟨ad120, e120, hx120_0, hx120_1, hx120_2, hx120_3, hx120_4⟩ := at_T34 HR0.out 0 p120 q120
              obtain rfl : adp0 = ad120 := (by injection e120)
              have qi120 : (0 < l0.length) = True := eq_true (by omega)
              (try rw [show ((0 : Int)).toNat = 0 from rfl] at hx120_0)
              (try rw [show 0 * 5 = 0 from rfl] at hx120_0)
              (try rw [Addr.add_zero'] at hx120_0)
              (try rw [show ((0 : Int)).toNat = 0 from rfl] at hx120_1)
              (try rw [show 0 * 5 = 0 from rfl] at hx120_1)
              (try rw [Addr.add_zero'] at hx120_1)
              (try rw [show ((0 : Int)).toNat = 0 from rfl] at hx120_2)
              (try rw [show 0 * 5 = 0 from rfl] at hx120_2)
              (try rw [Addr.add_zero'] at hx120_2)
              (try rw [show ((0 : Int)).toNat = 0 from rfl] at hx120_3)
              (try rw [show 0 * 5 = 0 from rfl] at hx120_3)
              (try rw [Addr.add_zero'] at hx120_3)
              (try rw [show ((0 : Int)).toNat = 0 from rfl] at hx120_4)
              (try rw [show 0 * 5 = 0 from rfl] at hx120_4)
              (try rw [Addr.add_zero'] at hx120_4)
              replace p120 := eq_true p120
              replace q120 := eq_true q120
              go_enter Try.func71, Try.ntmps71
              try go_wp2
              have n0_ := Aside0.mk (below_drew1 HB.out)
              clear HB
              have HB := n0_
              clear n0_
              have p145 : 0 ≤ (0 : Int) := (by omega)
              have q145 : 0 < (l0.length : Int) := of_decide_eq_true (by first | (with_reducible assumption) | assumption)
              obtain ⟨ad145, e145, hx145_0, hx145_1, hx145_2, hx145_3, hx145_4⟩ := at_T34 HR0.out 0 p145 q145
              have hw145_4 := hx145_4
              (try rw [show ((0 : Int)).toNat = 0 from rfl] at hw145_4)
              (try rw [show 0 * 5 = 0 from rfl] at hw145_4)
              (try rw [Addr.add_zero'] at hw145_4)
              have hw145_3 := hx145_3
              (try rw [show ((0 : Int)).toNat = 0 from rfl] at hw145_3)
              (try rw [show 0 * 5 = 0 from rfl] at hw145_3)
              (try rw [Addr.add_zero'] at hw145_3)
              have hw145_2 := hx145_2
              (try rw [show ((0 : Int)).toNat = 0 from rfl] at hw145_2)
              (try rw [show 0 * 5 = 0 from rfl] at hw145_2)
              (try rw [Addr.add_zero'] at hw145_2)
              have hw145_1 := hx145_1
              (try rw [show ((0 : Int)).toNat = 0 from rfl] at hw145_1)
              (try rw [show 0 * 5 = 0 from rfl] at hw145_1)
              (try rw [Addr.add_zero'] at hw145_1)
              have hw145_0 := hx145_0
              (try rw [show ((0 : Int)).toNat = 0 from rfl] at hw145_0)
              (try rw [show 0 * 5 = 0 from rfl] at hw145_0)
              (try rw [Addr.add_zero'] at hw145_0)
              obtain rfl : adp0 = ad145 := (by injection e145)
              have qi145 : (0 < l0.length) = True := eq_true (by omega)
              (try rw [show ((0 : Int)).toNat = 0 from rfl] at hx145_0)
              (try rw [show 0 * 5 = 0 from rfl] at hx145_0)
              (try rw [Addr.add_zero'] at hx145_0)
              (try rw [show ((0 : Int)).toNat = 0 from rfl] at hx145_1)
              (try rw [show 0 * 5 = 0 from rfl] at hx145_1)
              (try rw [Addr.add_zero'] at hx145_1)
              (try rw [show ((0 : Int)).toNat = 0 from rfl] at hx145_2)
              (try rw [show 0 * 5 = 0 from rfl] at hx145_2)
              (try rw [Addr.add_zero'] at hx145_2)
              (try rw [show ((0 : Int)).toNat = 0 from rfl] at hx145_3)
              (try rw [show 0 * 5 = 0 from rfl] at hx145_3)
              (try rw [Addr.add_zero'] at hx145_3)
              (try rw [show ((0 : Int)).toNat = 0 from rfl] at hx145_4)
              (try rw [show 0 * 5 = 0 from rfl] at hx145_4)
              (try rw [Addr.add_zero'] at hx145_4)
              replace hx145_0 := (HB.out.cell (World.block_lt_of_cell? w _ hx145_0)).trans hx145_0
              replace hx145_1 := (HB.out.cell (World.block_lt_of_cell? w _ hx145_1)).trans hx145_1
              replace hx145_2 := (HB.out.cell (World.block_lt_of_cell? w _ hx145_2)).trans hx145_2
              replace hx145_3 := (HB.out.cell (World.block_lt_of_cell? w _ hx145_3)).trans hx145_3
              replace hx145_4 := (HB.out.cell (World.block_lt_of_cell? w _ hx145_4)).trans hx145_4
              replace p145 := eq_true p145
              replace q145 := eq_true q145
              refine start_ (n := 13) (S := fun w' => w'.cell? adp0 = some (.int .i8 ((rd_T34 l0 0).f0.f0)) ∧ w'.cell? ⟨adp0.block, adp0.off + 1, none⟩ = some (.int .i8 ((rd_T34 l0 0).f0.f1)) ∧ w'.cell? ⟨adp0.block, adp0.off + 2, none⟩ = some (.int .i8 ((rd_T34 l0 0).f1)) ∧ w'.cell? ⟨adp0.block, adp0.off + 3, none⟩ = some (.int .i8 ((rd_T34 l0 0).f2)) ∧ w'.cell? ⟨adp0.block, adp0.off + 4, none⟩ = some (.int .i8 ((rd_T34 l0 0).f3))) (ds := []) #[false, false, false, false, false, false, false, false, false, false, false, false, false] (by kernel_rfl) rfl rfl ⟨((HB.out.cell (World.block_lt_of_cell? w _ hw145_0)).trans hw145_0), ((HB.out.cell (World.block_lt_of_cell? w _ hw145_1)).trans hw145_1), ((HB.out.cell (World.block_lt_of_cell? w _ hw145_2)).trans hw145_2), ((HB.out.cell (World.block_lt_of_cell? w _ hw145_3)).trans hw145_3), ((HB.out.cell (World.block_lt_of_cell? w _ hw145_4)).trans hw145_4)⟩ (fun hHeld => ?_); refine with_tabW spec_l01Hits.tab2 spec_l01Hits.bits2 (fun HT_ HW_ => ?_)
              generalize w.drew = w13 at HB hx145_0 hx145_1 hx145_2 hx145_3 hx145_4 hHeld ⊢
              refine pure_ (i := 1) (N := some 15) (v := ?_) (a' := ?_) #[false, true, false, false, false, false, false, false, false, false, false, false, false] rfl rfl (any_of HT_.out (by kernel_rfl)) (fun _ _ _ h => h) (Or.inl ⟨by rfl, ?_⟩) ?_ ?_
              rotate_left
              · intro w'
                go_simp
                with_reducible rfl
              rotate_left
              · simp only [Act.put, List.setIfInBounds_toArray, List.set_cons_zero, List.set_cons_succ, i64_w, i32_w]
                rfl
              refine pure_ (i := 2) (N := some 16) (v := ?_) (a' := ?_) #[false, true, true, false, false, false, false, false, false, false, false, false, false] rfl rfl (any_of HT_.out (by kernel_rfl)) (fun _ _ _ h => h) (Or.inl ⟨by rfl, ?_⟩) ?_ ?_
              rotate_left
              · intro w'
                go_simp
                with_reducible rfl
              rotate_left
              · simp only [Act.put, List.setIfInBounds_toArray, List.set_cons_zero, List.set_cons_succ, i64_w, i32_w]
                rfl
              refine pure_ (i := 3) (N := some 17) (v := ?_) (a' := ?_) #[false, true, true, true, false, false, false, false, false, false, false, false, false] rfl rfl (any_of HT_.out (by kernel_rfl)) (fun _ _ _ h => h) (Or.inl ⟨by rfl, ?_⟩) ?_ ?_
              rotate_left
              · intro w'
                go_simp
                with_reducible rfl
              rotate_left
              · simp only [Act.put, List.setIfInBounds_toArray, List.set_cons_zero, List.set_cons_succ, i64_w, i32_w]
                rfl
              refine pure_ (i := 6) (N := some 20) (v := ?_) (a' := ?_) #[false, true, true, true, false, false, true, false, false, false, false, false, false] rfl rfl (any_of HT_.out (by kernel_rfl)) (fun _ _ _ h => h) (Or.inl ⟨by rfl, ?_⟩) ?_ ?_
              rotate_left
              · intro w'
                go_simp
                with_reducible rfl
              rotate_left
              · simp only [Act.put, List.setIfInBounds_toArray, List.set_cons_zero, List.set_cons_succ, i64_w, i32_w]
                rfl
              refine pure_ (i := 7) (N := some 21) (v := ?_) (a' := ?_) #[false, true, true, true, false, false, true, true, false, false, false, false, false] rfl rfl (any_of HT_.out (by kernel_rfl)) (fun _ _ _ h => h) (Or.inl ⟨by rfl, ?_⟩) ?_ ?_
              rotate_left
              · intro w'
                go_simp
                with_reducible rfl
              rotate_left
              · simp only [Act.put, List.setIfInBounds_toArray, List.set_cons_zero, List.set_cons_succ, i64_w, i32_w]
                rfl
              refine pure_ (i := 8) (N := some 22) (v := ?_) (a' := ?_) #[false, true, true, true, false, false, true, true, true, false, false, false, false] rfl rfl (any_of HT_.out (by kernel_rfl)) (fun _ _ _ h => h) (Or.inl ⟨by rfl, ?_⟩) ?_ ?_
              rotate_left
              · intro w'
                go_simp
                with_reducible rfl
              rotate_left
              · simp only [Act.put, List.setIfInBounds_toArray, List.set_cons_zero, List.set_cons_succ, i64_w, i32_w]
                rfl
              refine pure_ (i := 9) (N := some 23) (v := ?_) (a' := ?_) #[false, true, true, true, false, false, true, true, true, true, false, false, false] rfl rfl (any_of HT_.out (by kernel_rfl)) (fun _ _ _ h => h) (Or.inl ⟨by rfl, ?_⟩) ?_ ?_
              rotate_left
              · intro w'
                go_simp
                with_reducible rfl
              rotate_left
              · simp only [Act.put, List.setIfInBounds_toArray, List.set_cons_zero, List.set_cons_succ, i64_w, i32_w]
                rfl
              refine pure_ (i := 10) (N := some 24) (v := ?_) (a' := ?_) #[false, true, true, true, false, false, true, true, true, true, true, false, false] rfl rfl (any_of HT_.out (by kernel_rfl)) (fun _ _ _ h => h) (Or.inl ⟨by rfl, ?_⟩) ?_ ?_
              rotate_left
              · intro w'
                go_simp
                with_reducible rfl
              rotate_left
              · simp only [Act.put, List.setIfInBounds_toArray, List.set_cons_zero, List.set_cons_succ, i64_w, i32_w]
                rfl
              refine take_ (i := 4) (N := some 18) (v := ?_) (a' := ?_) #[false, true, true, true, true, false, true, true, true, true, true, false, false] rfl rfl (take_ofW HT_.out HW_.out (by kernel_rfl)) (fun _ _ _ h => h) (Or.inl ⟨by rfl, ?_⟩) hHeld ?_ ?_
              rotate_left
              · rintro w' ⟨s0, s1, s2, s3, s4⟩
                go_simp
                with_reducible rfl
              rotate_left
              · simp only [Act.put, List.setIfInBounds_toArray, List.set_cons_zero, List.set_cons_succ, i64_w, i32_w]
                rfl
              refine one_ (i := 0) (N := some 14) #[true, true, true, true, true, false, true, true, true, true, true, false, false] rfl rfl (one_of HT_.out (by kernel_rfl)) (by decide) (fun K hK => ?_)
              refine goes_ Try.func80 (by kernel_rfl) rfl #[] (by rfl) rfl rfl (by (try simp only [List.map_toArray, List.map_cons, List.map_nil]); first | done | rfl | (simp only [List.length_drop, List.length_take]; rfl)) ?_
              with_reducible refine (spec_l01Table.calls  t121 t122 t123 t124 t125 t126 t127 t128 t129 t130 t131 t132 t133 t134 t135 t136 t137 t138 t139 t140 t141 t142 t143 t144 _ A4.out).mono ?_
              rintro e w14 ⟨rfl, hb⟩
              refine ⟨_, rfl, ?_⟩
              have n0_ := Aside0.mk (below_step (by repeat (first | (with_reducible first | exact HB.out | apply below_alloc | apply pw_below_drewN | apply below_drew1) | exact HB.out)) hb)
              clear HB
              have HB := n0_
              clear n0_
              (try clear hb)
              (try clear hb2)
              (try clear hk)
              (try clear hi)
              refine hK.out _ _ ⟨((HB.out.cell (World.block_lt_of_cell? w _ hw145_0)).trans hw145_0), ((HB.out.cell (World.block_lt_of_cell? w _ hw145_1)).trans hw145_1), ((HB.out.cell (World.block_lt_of_cell? w _ hw145_2)).trans hw145_2), ((HB.out.cell (World.block_lt_of_cell? w _ hw145_3)).trans hw145_3), ((HB.out.cell (World.block_lt_of_cell? w _ hw145_4)).trans hw145_4)⟩ (fun hHeld => ?_)
              clear hK K
              refine norm_ (a' := ?_) ?_ ?_
              rotate_left
              · show Act.put _ (some 14) _ = _
                simp only [Act.put, List.setIfInBounds_toArray, List.set_cons_zero, List.set_cons_succ, i64_w, i32_w]
                rfl
              refine take_ (i := 5) (N := some 19) (v := ?_) (a' := ?_) #[true, true, true, true, true, true, true, true, true, true, true, false, false] rfl rfl (take_ofW HT_.out HW_.out (by kernel_rfl)) (fun _ _ _ h => h) (Or.inl ⟨by rfl, ?_⟩) hHeld ?_ ?_
              rotate_left
              · rintro w' ⟨s0, s1, s2, s3, s4⟩
                go_simp
                with_reducible rfl
              rotate_left
              · simp only [Act.put, List.setIfInBounds_toArray, List.set_cons_zero, List.set_cons_succ, i64_w, i32_w]
                rfl
              refine take_ (i := 11) (N := some 25) (v := ?_) (a' := ?_) #[true, true, true, true, true, true, true, true, true, true, true, true, false] rfl rfl (take_ofW HT_.out HW_.out (by kernel_rfl)) (fun _ _ _ h => h) (Or.inl ⟨by rfl, ?_⟩) hHeld ?_ ?_
              rotate_left
              · rintro w' ⟨s0, s1, s2, s3, s4⟩
                go_simp
                with_reducible rfl
              rotate_left
              · simp only [Act.put, List.setIfInBounds_toArray, List.set_cons_zero, List.set_cons_succ, i64_w, i32_w]
                rfl
              refine pure_ (i := 12) (N := some 6) (v := ?_) (a' := ?_) #[true, true, true, true, true, true, true, true, true, true, true, true, true] rfl rfl (any_of HT_.out (by kernel_rfl)) (fun _ _ _ h => h) (Or.inl ⟨by rfl, ?_⟩) ?_ ?_
              rotate_left
              · intro w'
                go_simp
                with_reducible rfl
              rotate_left
              · simp only [Act.put, List.setIfInBounds_toArray, List.set_cons_zero, List.set_cons_succ, i64_w, i32_w]
                rfl
              refine done_ (done_of HT_.out (by kernel_rfl)) ?_
              try go_wp2
              go_ret
              exact ⟨by first | rfl | (simp [errW_none, errW_some] <;> rfl) | (simp only [← hji8]; first | rfl | (simp [errW_none, errW_some] <;> rfl)) | (simp [*, errW_none, errW_some] <;> rfl), by repeat (first | (with_reducible first | exact HB.out | apply below_alloc | apply pw_below_drewN | apply below_drew1) | exact HB.out)⟩
            · rw [if_neg c12] at H
              have c12b0 : decide ((rd [rd [t121, t125, t129, t133, t137, t141] ((rd_T34 l0 0).f1), rd [t122, t126, t130, t134, t138, t142] ((rd_T34 l0 0).f1), rd [t123, t127, t131, t135, t139, t143] ((rd_T34 l0 0).f1), rd [t124, t128, t132, t136, t140, t144] ((rd_T34 l0 0).f1)] (ji8)) < 0) = false := decide_eq_false c12
              clear c12
              have H' := Aside0.mk H
              clear H
              have p120 : 0 ≤ (0 : Int) := (by omega)
              have q120 : 0 < (l0.length : Int) := of_decide_eq_true (by first | (with_reducible assumption) | assumption)
              obtain ⟨ad120, e120, hx120_0, hx120_1, hx120_2, hx120_3, hx120_4⟩ := at_T34 HR0.out 0 p120 q120
              obtain rfl : adp0 = ad120 := (by injection e120)
              have qi120 : (0 < l0.length) = True := eq_true (by omega)
              (try rw [show ((0 : Int)).toNat = 0 from rfl] at hx120_0)
              (try rw [show 0 * 5 = 0 from rfl] at hx120_0)
              (try rw [Addr.add_zero'] at hx120_0)
              (try rw [show ((0 : Int)).toNat = 0 from rfl] at hx120_1)
              (try rw [show 0 * 5 = 0 from rfl] at hx120_1)
              (try rw [Addr.add_zero'] at hx120_1)
              (try rw [show ((0 : Int)).toNat = 0 from rfl] at hx120_2)
              (try rw [show 0 * 5 = 0 from rfl] at hx120_2)
              (try rw [Addr.add_zero'] at hx120_2)
              (try rw [show ((0 : Int)).toNat = 0 from rfl] at hx120_3)
              (try rw [show 0 * 5 = 0 from rfl] at hx120_3)
              (try rw [Addr.add_zero'] at hx120_3)
              (try rw [show ((0 : Int)).toNat = 0 from rfl] at hx120_4)
              (try rw [show 0 * 5 = 0 from rfl] at hx120_4)
              (try rw [Addr.add_zero'] at hx120_4)
              replace p120 := eq_true p120
              replace q120 := eq_true q120
              go_enter Try.func71, Try.ntmps71
              try go_wp2
              have n0_ := Aside0.mk (below_drew1 HB.out)
              clear HB
              have HB := n0_
              clear n0_
              have p145 : 0 ≤ (0 : Int) := (by omega)
              have q145 : 0 < (l0.length : Int) := of_decide_eq_true (by first | (with_reducible assumption) | assumption)
              obtain ⟨ad145, e145, hx145_0, hx145_1, hx145_2, hx145_3, hx145_4⟩ := at_T34 HR0.out 0 p145 q145
              have hw145_4 := hx145_4
              (try rw [show ((0 : Int)).toNat = 0 from rfl] at hw145_4)
              (try rw [show 0 * 5 = 0 from rfl] at hw145_4)
              (try rw [Addr.add_zero'] at hw145_4)
              have hw145_3 := hx145_3
              (try rw [show ((0 : Int)).toNat = 0 from rfl] at hw145_3)
              (try rw [show 0 * 5 = 0 from rfl] at hw145_3)
              (try rw [Addr.add_zero'] at hw145_3)
              have hw145_2 := hx145_2
              (try rw [show ((0 : Int)).toNat = 0 from rfl] at hw145_2)
              (try rw [show 0 * 5 = 0 from rfl] at hw145_2)
              (try rw [Addr.add_zero'] at hw145_2)
              have hw145_1 := hx145_1
              (try rw [show ((0 : Int)).toNat = 0 from rfl] at hw145_1)
              (try rw [show 0 * 5 = 0 from rfl] at hw145_1)
              (try rw [Addr.add_zero'] at hw145_1)
              have hw145_0 := hx145_0
              (try rw [show ((0 : Int)).toNat = 0 from rfl] at hw145_0)
              (try rw [show 0 * 5 = 0 from rfl] at hw145_0)
              (try rw [Addr.add_zero'] at hw145_0)
              obtain rfl : adp0 = ad145 := (by injection e145)
              have qi145 : (0 < l0.length) = True := eq_true (by omega)
              (try rw [show ((0 : Int)).toNat = 0 from rfl] at hx145_0)
              (try rw [show 0 * 5 = 0 from rfl] at hx145_0)
              (try rw [Addr.add_zero'] at hx145_0)
              (try rw [show ((0 : Int)).toNat = 0 from rfl] at hx145_1)
              (try rw [show 0 * 5 = 0 from rfl] at hx145_1)
              (try rw [Addr.add_zero'] at hx145_1)
              (try rw [show ((0 : Int)).toNat = 0 from rfl] at hx145_2)
              (try rw [show 0 * 5 = 0 from rfl] at hx145_2)
              (try rw [Addr.add_zero'] at hx145_2)
              (try rw [show ((0 : Int)).toNat = 0 from rfl] at hx145_3)
              (try rw [show 0 * 5 = 0 from rfl] at hx145_3)
              (try rw [Addr.add_zero'] at hx145_3)
              (try rw [show ((0 : Int)).toNat = 0 from rfl] at hx145_4)
              (try rw [show 0 * 5 = 0 from rfl] at hx145_4)
              (try rw [Addr.add_zero'] at hx145_4)
              replace hx145_0 := (HB.out.cell (World.block_lt_of_cell? w _ hx145_0)).trans hx145_0
              replace hx145_1 := (HB.out.cell (World.block_lt_of_cell? w _ hx145_1)).trans hx145_1
              replace hx145_2 := (HB.out.cell (World.block_lt_of_cell? w _ hx145_2)).trans hx145_2
              replace hx145_3 := (HB.out.cell (World.block_lt_of_cell? w _ hx145_3)).trans hx145_3
              replace hx145_4 := (HB.out.cell (World.block_lt_of_cell? w _ hx145_4)).trans hx145_4
              replace p145 := eq_true p145
              replace q145 := eq_true q145
              refine start_ (n := 13) (S := fun w' => w'.cell? adp0 = some (.int .i8 ((rd_T34 l0 0).f0.f0)) ∧ w'.cell? ⟨adp0.block, adp0.off + 1, none⟩ = some (.int .i8 ((rd_T34 l0 0).f0.f1)) ∧ w'.cell? ⟨adp0.block, adp0.off + 2, none⟩ = some (.int .i8 ((rd_T34 l0 0).f1)) ∧ w'.cell? ⟨adp0.block, adp0.off + 3, none⟩ = some (.int .i8 ((rd_T34 l0 0).f2)) ∧ w'.cell? ⟨adp0.block, adp0.off + 4, none⟩ = some (.int .i8 ((rd_T34 l0 0).f3))) (ds := []) #[false, false, false, false, false, false, false, false, false, false, false, false, false] (by kernel_rfl) rfl rfl ⟨((HB.out.cell (World.block_lt_of_cell? w _ hw145_0)).trans hw145_0), ((HB.out.cell (World.block_lt_of_cell? w _ hw145_1)).trans hw145_1), ((HB.out.cell (World.block_lt_of_cell? w _ hw145_2)).trans hw145_2), ((HB.out.cell (World.block_lt_of_cell? w _ hw145_3)).trans hw145_3), ((HB.out.cell (World.block_lt_of_cell? w _ hw145_4)).trans hw145_4)⟩ (fun hHeld => ?_); refine with_tabW spec_l01Hits.tab2 spec_l01Hits.bits2 (fun HT_ HW_ => ?_)
              generalize w.drew = w15 at HB hx145_0 hx145_1 hx145_2 hx145_3 hx145_4 hHeld ⊢
              refine pure_ (i := 1) (N := some 15) (v := ?_) (a' := ?_) #[false, true, false, false, false, false, false, false, false, false, false, false, false] rfl rfl (any_of HT_.out (by kernel_rfl)) (fun _ _ _ h => h) (Or.inl ⟨by rfl, ?_⟩) ?_ ?_
              rotate_left
              · intro w'
                go_simp
                with_reducible rfl
              rotate_left
              · simp only [Act.put, List.setIfInBounds_toArray, List.set_cons_zero, List.set_cons_succ, i64_w, i32_w]
                rfl
              refine pure_ (i := 2) (N := some 16) (v := ?_) (a' := ?_) #[false, true, true, false, false, false, false, false, false, false, false, false, false] rfl rfl (any_of HT_.out (by kernel_rfl)) (fun _ _ _ h => h) (Or.inl ⟨by rfl, ?_⟩) ?_ ?_
              rotate_left
              · intro w'
                go_simp
                with_reducible rfl
              rotate_left
              · simp only [Act.put, List.setIfInBounds_toArray, List.set_cons_zero, List.set_cons_succ, i64_w, i32_w]
                rfl
              refine pure_ (i := 3) (N := some 17) (v := ?_) (a' := ?_) #[false, true, true, true, false, false, false, false, false, false, false, false, false] rfl rfl (any_of HT_.out (by kernel_rfl)) (fun _ _ _ h => h) (Or.inl ⟨by rfl, ?_⟩) ?_ ?_
              rotate_left
              · intro w'
                go_simp
                with_reducible rfl
              rotate_left
              · simp only [Act.put, List.setIfInBounds_toArray, List.set_cons_zero, List.set_cons_succ, i64_w, i32_w]
                rfl
              refine pure_ (i := 6) (N := some 20) (v := ?_) (a' := ?_) #[false, true, true, true, false, false, true, false, false, false, false, false, false] rfl rfl (any_of HT_.out (by kernel_rfl)) (fun _ _ _ h => h) (Or.inl ⟨by rfl, ?_⟩) ?_ ?_
              rotate_left
              · intro w'
                go_simp
                with_reducible rfl
              rotate_left
              · simp only [Act.put, List.setIfInBounds_toArray, List.set_cons_zero, List.set_cons_succ, i64_w, i32_w]
                rfl
              refine pure_ (i := 7) (N := some 21) (v := ?_) (a' := ?_) #[false, true, true, true, false, false, true, true, false, false, false, false, false] rfl rfl (any_of HT_.out (by kernel_rfl)) (fun _ _ _ h => h) (Or.inl ⟨by rfl, ?_⟩) ?_ ?_
              rotate_left
              · intro w'
                go_simp
                with_reducible rfl
              rotate_left
              · simp only [Act.put, List.setIfInBounds_toArray, List.set_cons_zero, List.set_cons_succ, i64_w, i32_w]
                rfl
              refine pure_ (i := 8) (N := some 22) (v := ?_) (a' := ?_) #[false, true, true, true, false, false, true, true, true, false, false, false, false] rfl rfl (any_of HT_.out (by kernel_rfl)) (fun _ _ _ h => h) (Or.inl ⟨by rfl, ?_⟩) ?_ ?_
              rotate_left
              · intro w'
                go_simp
                with_reducible rfl
              rotate_left
              · simp only [Act.put, List.setIfInBounds_toArray, List.set_cons_zero, List.set_cons_succ, i64_w, i32_w]
                rfl
              refine pure_ (i := 9) (N := some 23) (v := ?_) (a' := ?_) #[false, true, true, true, false, false, true, true, true, true, false, false, false] rfl rfl (any_of HT_.out (by kernel_rfl)) (fun _ _ _ h => h) (Or.inl ⟨by rfl, ?_⟩) ?_ ?_
              rotate_left
              · intro w'
                go_simp
                with_reducible rfl
              rotate_left
              · simp only [Act.put, List.setIfInBounds_toArray, List.set_cons_zero, List.set_cons_succ, i64_w, i32_w]
                rfl
              refine pure_ (i := 10) (N := some 24) (v := ?_) (a' := ?_) #[false, true, true, true, false, false, true, true, true, true, true, false, false] rfl rfl (any_of HT_.out (by kernel_rfl)) (fun _ _ _ h => h) (Or.inl ⟨by rfl, ?_⟩) ?_ ?_
              rotate_left
              · intro w'
                go_simp
                with_reducible rfl
              rotate_left
              · simp only [Act.put, List.setIfInBounds_toArray, List.set_cons_zero, List.set_cons_succ, i64_w, i32_w]
                rfl
              refine take_ (i := 4) (N := some 18) (v := ?_) (a' := ?_) #[false, true, true, true, true, false, true, true, true, true, true, false, false] rfl rfl (take_ofW HT_.out HW_.out (by kernel_rfl)) (fun _ _ _ h => h) (Or.inl ⟨by rfl, ?_⟩) hHeld ?_ ?_
              rotate_left
              · rintro w' ⟨s0, s1, s2, s3, s4⟩
                go_simp
                with_reducible rfl
              rotate_left
              · simp only [Act.put, List.setIfInBounds_toArray, List.set_cons_zero, List.set_cons_succ, i64_w, i32_w]
                rfl
              refine one_ (i := 0) (N := some 14) #[true, true, true, true, true, false, true, true, true, true, true, false, false] rfl rfl (one_of HT_.out (by kernel_rfl)) (by decide) (fun K hK => ?_)
              refine goes_ Try.func80 (by kernel_rfl) rfl #[] (by rfl) rfl rfl (by (try simp only [List.map_toArray, List.map_cons, List.map_nil]); first | done | rfl | (simp only [List.length_drop, List.length_take]; rfl)) ?_
              with_reducible refine (spec_l01Table.calls  t121 t122 t123 t124 t125 t126 t127 t128 t129 t130 t131 t132 t133 t134 t135 t136 t137 t138 t139 t140 t141 t142 t143 t144 _ A4.out).mono ?_
              rintro e w16 ⟨rfl, hb⟩
              refine ⟨_, rfl, ?_⟩
              have n0_ := Aside0.mk (below_step (by repeat (first | (with_reducible first | exact HB.out | apply below_alloc | apply pw_below_drewN | apply below_drew1) | exact HB.out)) hb)
              clear HB
              have HB := n0_
              clear n0_
              (try clear hb)
              (try clear hb2)
              (try clear hk)
              (try clear hi)
              refine hK.out _ _ ⟨((HB.out.cell (World.block_lt_of_cell? w _ hw145_0)).trans hw145_0), ((HB.out.cell (World.block_lt_of_cell? w _ hw145_1)).trans hw145_1), ((HB.out.cell (World.block_lt_of_cell? w _ hw145_2)).trans hw145_2), ((HB.out.cell (World.block_lt_of_cell? w _ hw145_3)).trans hw145_3), ((HB.out.cell (World.block_lt_of_cell? w _ hw145_4)).trans hw145_4)⟩ (fun hHeld => ?_)
              clear hK K
              refine norm_ (a' := ?_) ?_ ?_
              rotate_left
              · show Act.put _ (some 14) _ = _
                simp only [Act.put, List.setIfInBounds_toArray, List.set_cons_zero, List.set_cons_succ, i64_w, i32_w]
                rfl
              refine take_ (i := 5) (N := some 19) (v := ?_) (a' := ?_) #[true, true, true, true, true, true, true, true, true, true, true, false, false] rfl rfl (take_ofW HT_.out HW_.out (by kernel_rfl)) (fun _ _ _ h => h) (Or.inl ⟨by rfl, ?_⟩) hHeld ?_ ?_
              rotate_left
              · rintro w' ⟨s0, s1, s2, s3, s4⟩
                go_simp
                with_reducible rfl
              rotate_left
              · simp only [Act.put, List.setIfInBounds_toArray, List.set_cons_zero, List.set_cons_succ, i64_w, i32_w]
                rfl
              refine take_ (i := 11) (N := some 25) (v := ?_) (a' := ?_) #[true, true, true, true, true, true, true, true, true, true, true, true, false] rfl rfl (take_ofW HT_.out HW_.out (by kernel_rfl)) (fun _ _ _ h => h) (Or.inl ⟨by rfl, ?_⟩) hHeld ?_ ?_
              rotate_left
              · rintro w' ⟨s0, s1, s2, s3, s4⟩
                go_simp
                with_reducible rfl
              rotate_left
              · simp only [Act.put, List.setIfInBounds_toArray, List.set_cons_zero, List.set_cons_succ, i64_w, i32_w]
                rfl
              refine pure_ (i := 12) (N := some 6) (v := ?_) (a' := ?_) #[true, true, true, true, true, true, true, true, true, true, true, true, true] rfl rfl (any_of HT_.out (by kernel_rfl)) (fun _ _ _ h => h) (Or.inl ⟨by rfl, ?_⟩) ?_ ?_
              rotate_left
              · intro w'
                go_simp
                with_reducible rfl
              rotate_left
              · simp only [Act.put, List.setIfInBounds_toArray, List.set_cons_zero, List.set_cons_succ, i64_w, i32_w]
                rfl
              refine done_ (done_of HT_.out (by kernel_rfl)) ?_
              try go_wp2
              go_loopg [7, 8] k (fun kq v7 v8 w' => ∃ (x7_1 : Int) (x8_1 : Int), v7 = .int .i64 x7_1 ∧ v8 = .int .i64 x8_1 ∧ Aside0 (spec_l01Hits.l0 kq (wrap64 ((rd_T34 l0 0).f2)) (rd [rd [t121, t125, t129, t133, t137, t141] ((rd_T34 l0 0).f1), rd [t122, t126, t130, t134, t138, t142] ((rd_T34 l0 0).f1), rd [t123, t127, t131, t135, t139, t143] ((rd_T34 l0 0).f1), rd [t124, t128, t132, t136, t140, t144] ((rd_T34 l0 0).f1)] (ji8)) x7_1 x8_1 = some r) ∧ Aside0 (kq ≤ k) ∧ Aside0 (Below w.heap.size w w'))
              case atStart => exact ⟨(0), (0), (by first | rfl | (simp; done) | (simp [*]; done) | (exact congrArg (Value.int .i64) (wrap_eq (by omega)))), (by first | rfl | (simp; done) | (simp [*]; done) | (exact congrArg (Value.int .i64) (wrap_eq (by omega)))), H', ⟨Nat.le_refl _⟩, ⟨by repeat (first | (with_reducible first | exact HB.out | apply below_alloc | apply pw_below_drewN | apply below_drew1) | exact HB.out)⟩⟩
              case round =>
                clear H'
                try clear c1
                try clear p1
                try clear q1
                try clear hx1
                try clear qi1
                try clear p2
                try clear c3
                try clear c3b0
                try clear c3b1
                try clear c5
                try clear c5b0
                try clear c6
                try clear c6b0
                try clear p6
                try clear c7
                try clear c8
                try clear c9
                try clear c9b0
                try clear c10
                try clear c10b0
                try clear c12
                try clear c12b0
                try clear p12
                try clear q12
                try clear hx12
                try clear qi12
                try clear p14
                try clear q14
                try clear hx14
                try clear qi14
                try clear hx120_0
                try clear hx120_1
                try clear hx120_2
                try clear hx120_3
                try clear hx120_4
                try clear hx145_0
                try clear hx145_1
                try clear hx145_2
                try clear hx145_3
                try clear hx145_4
                try clear p120
                try clear p145
                try clear q120
                try clear q145
                obtain ⟨x7_1, x8_1, rfl, rfl, HA, HK1, HB⟩ := hrel
                cases gk with
                | zero => exact absurd HA.out (by simp [spec_l01Hits.l0])
                | succ k1 =>
                  have H := HA.out
                  clear HA
                  simp only [spec_l01Hits.l0] at H
                  by_cases c17 : x8_1 < 4
                  · rw [if_pos c17] at H
                    have c17b0 : decide (x8_1 < 4) = true := decide_eq_true c17
                    clear c17
                    obtain ⟨ji18, hji18⟩ : ∃ j_ : Int, (IntKind.u64.wrap (x8_1)) = j_ := ⟨_, rfl⟩
                    replace H : (if 0 ≤ (ji18) then (if (Int.tmod (shr .i64 (rd [rd [t121, t125, t129, t133, t137, t141] ((rd_T34 l0 0).f1), rd [t122, t126, t130, t134, t138, t142] ((rd_T34 l0 0).f1), rd [t123, t127, t131, t135, t139, t143] ((rd_T34 l0 0).f1), rd [t124, t128, t132, t136, t140, t144] ((rd_T34 l0 0).f1)] (ji8)) (ji18)) 2) = 1 then (if 0 ≤ (IntKind.u64.wrap (Int.tmod (wrap64 (x8_1 + (wrap64 ((rd_T34 l0 0).f2)))) 4)) then (spec_l01Hits.l0 k1 (wrap64 ((rd_T34 l0 0).f2)) (rd [rd [t121, t125, t129, t133, t137, t141] ((rd_T34 l0 0).f1), rd [t122, t126, t130, t134, t138, t142] ((rd_T34 l0 0).f1), rd [t123, t127, t131, t135, t139, t143] ((rd_T34 l0 0).f1), rd [t124, t128, t132, t136, t140, t144] ((rd_T34 l0 0).f1)] (ji8)) (wrap64 (x7_1 + (shl .i64 1 (IntKind.u64.wrap (Int.tmod (wrap64 (x8_1 + (wrap64 ((rd_T34 l0 0).f2)))) 4))))) (wrap64 (x8_1 + 1))) else (none)) else (spec_l01Hits.l0 k1 (wrap64 ((rd_T34 l0 0).f2)) (rd [rd [t121, t125, t129, t133, t137, t141] ((rd_T34 l0 0).f1), rd [t122, t126, t130, t134, t138, t142] ((rd_T34 l0 0).f1), rd [t123, t127, t131, t135, t139, t143] ((rd_T34 l0 0).f1), rd [t124, t128, t132, t136, t140, t144] ((rd_T34 l0 0).f1)] (ji8)) x7_1 (wrap64 (x8_1 + 1)))) else (none)) = some r := by first | (rw [hji18] at H; exact H) | (simp only [hji18] at H ⊢; exact H)
                    by_cases c19 : 0 ≤ (ji18)
                    · rw [if_pos c19] at H
                      have c19b0 := eq_true c19
                      have c19b1 : decide (0 ≤ (ji18)) = true := decide_eq_true c19
                      clear c19
                      obtain ⟨ji20, hji20⟩ : ∃ j_ : Int, (shr .i64 (rd [rd [t121, t125, t129, t133, t137, t141] ((rd_T34 l0 0).f1), rd [t122, t126, t130, t134, t138, t142] ((rd_T34 l0 0).f1), rd [t123, t127, t131, t135, t139, t143] ((rd_T34 l0 0).f1), rd [t124, t128, t132, t136, t140, t144] ((rd_T34 l0 0).f1)] (ji8)) (ji18)) = j_ := ⟨_, rfl⟩
                      replace H : (if (Int.tmod (ji20) 2) = 1 then (if 0 ≤ (IntKind.u64.wrap (Int.tmod (wrap64 (x8_1 + (wrap64 ((rd_T34 l0 0).f2)))) 4)) then (spec_l01Hits.l0 k1 (wrap64 ((rd_T34 l0 0).f2)) (rd [rd [t121, t125, t129, t133, t137, t141] ((rd_T34 l0 0).f1), rd [t122, t126, t130, t134, t138, t142] ((rd_T34 l0 0).f1), rd [t123, t127, t131, t135, t139, t143] ((rd_T34 l0 0).f1), rd [t124, t128, t132, t136, t140, t144] ((rd_T34 l0 0).f1)] (ji8)) (wrap64 (x7_1 + (shl .i64 1 (IntKind.u64.wrap (Int.tmod (wrap64 (x8_1 + (wrap64 ((rd_T34 l0 0).f2)))) 4))))) (wrap64 (x8_1 + 1))) else (none)) else (spec_l01Hits.l0 k1 (wrap64 ((rd_T34 l0 0).f2)) (rd [rd [t121, t125, t129, t133, t137, t141] ((rd_T34 l0 0).f1), rd [t122, t126, t130, t134, t138, t142] ((rd_T34 l0 0).f1), rd [t123, t127, t131, t135, t139, t143] ((rd_T34 l0 0).f1), rd [t124, t128, t132, t136, t140, t144] ((rd_T34 l0 0).f1)] (ji8)) x7_1 (wrap64 (x8_1 + 1)))) = some r := by first | (rw [hji20] at H; exact H) | (simp only [hji20] at H ⊢; exact H)
                      have hji20_ : ((rd [rd [t121, t125, t129, t133, t137, t141] ((rd_T34 l0 0).f1), rd [t122, t126, t130, t134, t138, t142] ((rd_T34 l0 0).f1), rd [t123, t127, t131, t135, t139, t143] ((rd_T34 l0 0).f1), rd [t124, t128, t132, t136, t140, t144] ((rd_T34 l0 0).f1)] (ji8)) / 2 ^ min (ji18).toNat 64) = ji20 := hji20
                      have hji20z : (ji18) ≤ 64 → ((rd [rd [t121, t125, t129, t133, t137, t141] ((rd_T34 l0 0).f1), rd [t122, t126, t130, t134, t138, t142] ((rd_T34 l0 0).f1), rd [t123, t127, t131, t135, t139, t143] ((rd_T34 l0 0).f1), rd [t124, t128, t132, t136, t140, t144] ((rd_T34 l0 0).f1)] (ji8)) / 2 ^ (ji18).toNat) = ji20 := shr_small hji20
                      by_cases c21 : (Int.tmod (ji20) 2) = 1
                      · rw [if_pos c21] at H
                        have c21b0 : ((Int.tmod (ji20) 2) == 1) = true := beq_iff_eq.mpr c21
                        have c21b1 : ((Int.tmod (ji20) 2) != 1) = false := bne_eq_false_iff_eq.mpr c21
                        clear c21
                        obtain ⟨ji22, hji22⟩ : ∃ j_ : Int, (IntKind.u64.wrap (Int.tmod (wrap64 (x8_1 + (wrap64 ((rd_T34 l0 0).f2)))) 4)) = j_ := ⟨_, rfl⟩
                        replace H : (if 0 ≤ (ji22) then (spec_l01Hits.l0 k1 (wrap64 ((rd_T34 l0 0).f2)) (rd [rd [t121, t125, t129, t133, t137, t141] ((rd_T34 l0 0).f1), rd [t122, t126, t130, t134, t138, t142] ((rd_T34 l0 0).f1), rd [t123, t127, t131, t135, t139, t143] ((rd_T34 l0 0).f1), rd [t124, t128, t132, t136, t140, t144] ((rd_T34 l0 0).f1)] (ji8)) (wrap64 (x7_1 + (shl .i64 1 (ji22)))) (wrap64 (x8_1 + 1))) else (none)) = some r := by first | (rw [hji22] at H; exact H) | (simp only [hji22] at H ⊢; exact H)
                        by_cases c23 : 0 ≤ (ji22)
                        · rw [if_pos c23] at H
                          have c23b0 := eq_true c23
                          have c23b1 : decide (0 ≤ (ji22)) = true := decide_eq_true c23
                          clear c23
                          obtain ⟨ji24, hji24⟩ : ∃ j_ : Int, (shl .i64 1 (ji22)) = j_ := ⟨_, rfl⟩
                          replace H : (spec_l01Hits.l0 k1 (wrap64 ((rd_T34 l0 0).f2)) (rd [rd [t121, t125, t129, t133, t137, t141] ((rd_T34 l0 0).f1), rd [t122, t126, t130, t134, t138, t142] ((rd_T34 l0 0).f1), rd [t123, t127, t131, t135, t139, t143] ((rd_T34 l0 0).f1), rd [t124, t128, t132, t136, t140, t144] ((rd_T34 l0 0).f1)] (ji8)) (wrap64 (x7_1 + (ji24))) (wrap64 (x8_1 + 1))) = some r := by first | (rw [hji24] at H; exact H) | (simp only [hji24] at H ⊢; exact H)
                          have hji24_ : (IntKind.i64.wrap (1 * 2 ^ min (ji22).toNat 64)) = ji24 := hji24
                          have hji24z : (ji22) ≤ 64 → (IntKind.i64.wrap (1 * 2 ^ (ji22).toNat)) = ji24 := shl_small hji24
                          have hji24u : (IntKind.i64.wrap (2 ^ min (ji22).toNat 64)) = ji24 := by have h_ := hji24_; rw [Int.one_mul] at h_; exact h_
                          have hji24v : (ji22) ≤ 64 → (IntKind.i64.wrap (2 ^ (ji22).toNat)) = ji24 := fun hle_ => by have h_ := hji24z hle_; rw [Int.one_mul] at h_; exact h_
                          have hji24y : (wrap64 (1 * 2 ^ min (ji22).toNat 64)) = ji24 := (i64_w _).symm.trans hji24_
                          have hji24x : (ji22) ≤ 64 → (wrap64 (1 * 2 ^ (ji22).toNat)) = ji24 := fun h_ => (i64_w _).symm.trans (hji24z h_)
                          have H' := Aside0.mk H
                          clear H
                          go_wp2
                          go_roundg k1
                          case measure => have := HK1.out; omega
                          case rel => exact ⟨(wrap64 (x7_1 + (ji24))), (wrap64 (x8_1 + 1)), (by first | rfl | (simp; done) | (simp only [← hji24] <;> (first | rfl | simp)) | (simp [*]; done) | (exact congrArg (Value.int .i64) (wrap_eq (by omega)))), (by first | rfl | (simp; done) | (simp [*]; done) | (exact congrArg (Value.int .i64) (wrap_eq (by omega)))), H', ⟨by have := HK1.out; omega⟩, ⟨by repeat (first | (with_reducible first | exact HB.out | apply below_alloc | apply pw_below_drewN | apply below_drew1) | exact HB.out)⟩⟩
                        · rw [if_neg c23] at H
                          exact absurd H (by simp)
                      · rw [if_neg c21] at H
                        have c21b0 : ((Int.tmod (ji20) 2) == 1) = false := beq_eq_false_iff_ne.mpr c21
                        have c21b1 : ((Int.tmod (ji20) 2) != 1) = true := bne_iff_ne.mpr c21
                        have H' := Aside0.mk H
                        clear H
                        go_wp2
                        go_roundg k1
                        case measure => have := HK1.out; omega
                        case rel => exact ⟨(x7_1), (wrap64 (x8_1 + 1)), (by first | rfl | (simp; done) | (simp [*]; done) | (exact congrArg (Value.int .i64) (wrap_eq (by omega)))), (by first | rfl | (simp; done) | (simp [*]; done) | (exact congrArg (Value.int .i64) (wrap_eq (by omega)))), H', ⟨by have := HK1.out; omega⟩, ⟨by repeat (first | (with_reducible first | exact HB.out | apply below_alloc | apply pw_below_drewN | apply below_drew1) | exact HB.out)⟩⟩
                    · rw [if_neg c19] at H
                      exact absurd H (by simp)
                  · rw [if_neg c17] at H
                    have c17b0 : decide (x8_1 < 4) = false := decide_eq_false c17
                    clear c17
                    obtain rfl := Option.some.inj H
                    go_wp2
                    go_ret
                    exact ⟨by first | rfl | (simp [errW_none, errW_some] <;> rfl) | (simp only [← hji8]; first | rfl | (simp [errW_none, errW_some] <;> rfl)) | (simp [*, errW_none, errW_some] <;> rfl), by repeat (first | (with_reducible first | exact HB.out | apply below_alloc | apply pw_below_drewN | apply below_drew1) | exact HB.out)⟩
          · rw [if_neg c10] at H
            exact absurd H (by simp)
        · rw [if_neg c9] at H
          exact absurd H (by simp)
      · rw [if_neg c6] at H
        exact absurd H (by simp)
    · rw [if_neg c5] at H
      exact absurd H (by simp)
  · rw [if_neg c3] at H
    exact absurd H (by simp)

/-! ### spec_AlikePieces: function 39 -/
mutual
def spec_AlikePieces.j0 : Nat → Bool → Int → Int → Int → Int → Int → Int → Int → Int → Int → Int → Option (Bool × Int)
  | 0, _, _, _, _, _, _, _, _, _, _, _ => none
  | k + 1, x12, x147000, x147001, x147002, x147003, x147004, x148000, x148001, x148002, x148003, x148004 => if x12 = true then (some (false, 1)) else (spec_AlikePieces.l0 k 0 x147000 x147001 x147002 x147003 x147004 x148000 x148001 x148002 x148003 x148004)
def spec_AlikePieces.l0 : Nat → Int → Int → Int → Int → Int → Int → Int → Int → Int → Int → Int → Option (Bool × Int)
  | 0, _, _, _, _, _, _, _, _, _, _, _ => none
  | k + 1, x6, x147000, x147001, x147002, x147003, x147004, x148000, x148001, x148002, x148003, x148004 => if x6 < 4 then ((spec_l01Hits.f k [(⟨(⟨x147000, x147001⟩ : S32), x147002, x147003, x147004⟩ : S34)] x6).bind fun t150 => ((spec_l01Hits.f k [(⟨(⟨x148000, x148001⟩ : S32), x148002, x148003, x148004⟩ : S34)] x6).bind fun t151 => (if t150 = t151 then (spec_AlikePieces.l0 k (wrap64 (x6 + 1)) x147000 x147001 x147002 x147003 x147004 x148000 x148001 x148002 x148003 x148004) else (some (false, 0))))) else (some ((x147004 == x148004), 0))
end
def spec_AlikePieces.f (k : Nat) (a0_0 : Int) (a0_1 : Int) (a0_2 : Int) (a0_3 : Int) (a0_4 : Int) (a1_0 : Int) (a1_1 : Int) (a1_2 : Int) (a1_3 : Int) (a1_4 : Int) : Option (Bool × Int) := (spec_l01Piece.f [(⟨(⟨a0_0, a0_1⟩ : S32), a0_2, a0_3, a0_4⟩ : S34)]).bind fun t148 => (if t148 = true then ((spec_l01Piece.f [(⟨(⟨a1_0, a1_1⟩ : S32), a1_2, a1_3, a1_4⟩ : S34)]).bind fun t149 => (spec_AlikePieces.j0 k (!t149) a0_0 a0_1 a0_2 a0_3 a0_4 a1_0 a1_1 a1_2 a1_3 a1_4)) else (spec_AlikePieces.j0 k true a0_0 a0_1 a0_2 a0_3 a0_4 a1_0 a1_1 a1_2 a1_3 a1_4))
theorem spec_AlikePieces.mono_l : ∀ k, (∀ y0 y1 y2 y3 y4 y5 y6 y7 y8 y9 y10, LeO (spec_AlikePieces.j0 k y0 y1 y2 y3 y4 y5 y6 y7 y8 y9 y10) (spec_AlikePieces.j0 (k + 1) y0 y1 y2 y3 y4 y5 y6 y7 y8 y9 y10)) ∧ (∀ y0 y1 y2 y3 y4 y5 y6 y7 y8 y9 y10, LeO (spec_AlikePieces.l0 k y0 y1 y2 y3 y4 y5 y6 y7 y8 y9 y10) (spec_AlikePieces.l0 (k + 1) y0 y1 y2 y3 y4 y5 y6 y7 y8 y9 y10))
  | 0 => ⟨fun _ _ _ _ _ _ _ _ _ _ _ r h => by simp [spec_AlikePieces.j0] at h, fun _ _ _ _ _ _ _ _ _ _ _ r h => by simp [spec_AlikePieces.l0] at h⟩
  | k + 1 => by
    obtain ⟨ih0, ih1⟩ := spec_AlikePieces.mono_l k
    refine ⟨?_, ?_⟩
    · intro y0 y1 y2 y3 y4 y5 y6 y7 y8 y9 y10
      unfold spec_AlikePieces.j0
      repeat' first
      | (with_reducible exact ih0 _ _ _ _ _ _ _ _ _ _ _)
      | (with_reducible exact ih1 _ _ _ _ _ _ _ _ _ _ _)
      | (with_reducible exact spec_l01Hits.mono _ _ _)
      | (with_reducible exact LeO.refl _)
      | (with_reducible exact LeO.none _)
      | (with_reducible refine LeO.ite ?_ ?_)
      | (with_reducible refine LeO.bind ?_ (fun _ => ?_))
      | exact ih0 _ _ _ _ _ _ _ _ _ _ _
      | exact ih1 _ _ _ _ _ _ _ _ _ _ _
      | exact spec_l01Hits.mono _ _ _
      | exact LeO.none _
      | refine LeO.ite ?_ ?_
      | refine LeO.bind ?_ (fun _ => ?_)
    · intro y0 y1 y2 y3 y4 y5 y6 y7 y8 y9 y10
      unfold spec_AlikePieces.l0
      repeat' first
      | (with_reducible exact ih0 _ _ _ _ _ _ _ _ _ _ _)
      | (with_reducible exact ih1 _ _ _ _ _ _ _ _ _ _ _)
      | (with_reducible exact spec_l01Hits.mono _ _ _)
      | (with_reducible exact LeO.refl _)
      | (with_reducible exact LeO.none _)
      | (with_reducible refine LeO.ite ?_ ?_)
      | (with_reducible refine LeO.bind ?_ (fun _ => ?_))
      | exact ih0 _ _ _ _ _ _ _ _ _ _ _
      | exact ih1 _ _ _ _ _ _ _ _ _ _ _
      | exact spec_l01Hits.mono _ _ _
      | exact LeO.none _
      | refine LeO.ite ?_ ?_
      | refine LeO.bind ?_ (fun _ => ?_)
theorem spec_AlikePieces.mono : ∀ a0 a1 a2 a3 a4 a5 a6 a7 a8 a9 k, LeO (spec_AlikePieces.f k a0 a1 a2 a3 a4 a5 a6 a7 a8 a9) (spec_AlikePieces.f (k + 1) a0 a1 a2 a3 a4 a5 a6 a7 a8 a9) := by
  intro a0 a1 a2 a3 a4 a5 a6 a7 a8 a9 k
  obtain ⟨ih0, ih1⟩ := spec_AlikePieces.mono_l k
  unfold spec_AlikePieces.f
  repeat' first
      | (with_reducible exact ih0 _ _ _ _ _ _ _ _ _ _ _)
      | (with_reducible exact ih1 _ _ _ _ _ _ _ _ _ _ _)
      | (with_reducible exact spec_l01Hits.mono _ _ _)
      | (with_reducible exact LeO.refl _)
      | (with_reducible exact LeO.none _)
      | (with_reducible refine LeO.ite ?_ ?_)
      | (with_reducible refine LeO.bind ?_ (fun _ => ?_))
      | exact ih0 _ _ _ _ _ _ _ _ _ _ _
      | exact ih1 _ _ _ _ _ _ _ _ _ _ _
      | exact spec_l01Hits.mono _ _ _
      | exact LeO.none _
      | refine LeO.ite ?_ ?_
      | refine LeO.bind ?_ (fun _ => ?_)
set_option maxHeartbeats 8000000 in
set_option maxRecDepth 100000 in
theorem spec_AlikePieces.calls (k : Nat) (a0_0 : Int) (a0_1 : Int) (a0_2 : Int) (a0_3 : Int) (a0_4 : Int) (a1_0 : Int) (a1_1 : Int) (a1_2 : Int) (a1_3 : Int) (a1_4 : Int) (r1 : Bool) (r2 : Int) (w : World) (h : spec_AlikePieces.f k a0_0 a0_1 a0_2 a0_3 a0_4 a1_0 a1_1 a1_2 a1_3 a1_4 = some (r1, r2)) :
    Calls Try.prog 39 #[.agg #[.int .i8 a0_0, .int .i8 a0_1, .int .i8 a0_2, .int .i8 a0_3, .int .i8 a0_4], .agg #[.int .i8 a1_0, .int .i8 a1_1, .int .i8 a1_2, .int .i8 a1_3, .int .i8 a1_4]] w fun e w' => e = .returned (.tuple #[.bool r1, .int .i64 r2]) ∧ Below w.heap.size w w' := by
  have hu34 := Try.underlying34
  have HB := Aside0.mk (Below.refl w.heap.size w)
  have H : ((spec_l01Piece.f [(⟨(⟨a0_0, a0_1⟩ : S32), a0_2, a0_3, a0_4⟩ : S34)]).bind fun t148 => (if t148 = true then ((spec_l01Piece.f [(⟨(⟨a1_0, a1_1⟩ : S32), a1_2, a1_3, a1_4⟩ : S34)]).bind fun t149 => (spec_AlikePieces.j0 k (!t149) a0_0 a0_1 a0_2 a0_3 a0_4 a1_0 a1_1 a1_2 a1_3 a1_4)) else (spec_AlikePieces.j0 k true a0_0 a0_1 a0_2 a0_3 a0_4 a1_0 a1_1 a1_2 a1_3 a1_4))) = some (r1, r2) := h
  clear h
  have HC3 := Aside0.mk H
  clear H
  go_enter Try.func39, Try.ntmps39
  go_upto_region 1 with (first | ((with_reducible refine gate_dst (N := 2) rfl ?_); refine box_event ?hg (N := 2) ?hd (cs := #[.int .i8 a0_0, .int .i8 a0_1, .int .i8 a0_2, .int .i8 a0_3, .int .i8 a0_4]) (t := 34) ?hr ?_; (case hd => rfl); (case hg => rfl); (case hr => first | (go_simp; done) | (go_simp; rfl)); intro gb146 hg w4 hbox hb; have n0_ := Aside0.mk (below_step (by repeat (first | (with_reducible first | exact HB.out | apply below_alloc | apply pw_below_drewN | apply below_drew1) | exact HB.out)) hb); have n1_ := Aside0.mk (hbox); have n2_ := Aside0.mk ((by rw [hg]; exact (below_size (by repeat (first | (with_reducible first | exact HB.out | apply below_alloc | apply pw_below_drewN | apply below_drew1) | exact HB.out))) : w.heap.size ≤ gb146)); have n3_ := Aside0.mk ((by rw [hg]; exact (below_size (by repeat (first | (with_reducible first | exact HB.out | apply below_alloc | apply pw_below_drewN | apply below_drew1) | exact HB.out))) : w.heap.size ≤ gb146)); clear HB; have HB := n0_; have BK146 := n1_; have GW146 := n2_; have GE146 := n3_; clear n0_ n1_ n2_ n3_; clear hb hbox hg) | ((with_reducible refine gate_dst (N := 3) rfl ?_); refine box_event ?hg (N := 3) ?hd (cs := #[.int .i8 a1_0, .int .i8 a1_1, .int .i8 a1_2, .int .i8 a1_3, .int .i8 a1_4]) (t := 34) ?hr ?_; (case hd => rfl); (case hg => rfl); (case hr => first | (go_simp; done) | (go_simp; rfl)); intro gb147 hg w5 hbox hb; have n0_ := Aside0.mk (blk_below (g := gb146) (o := .cells #[.int .i8 a0_0, .int .i8 a0_1, .int .i8 a0_2, .int .i8 a0_3, .int .i8 a0_4] 34 (0, 0)) (by (with_reducible repeat (first | refine blk_drewN ?_ _ | refine blk_drew ?_ | refine blk_alloc ?_ _)); exact BK146.out) hb); have n1_ := Aside0.mk (below_step (by repeat (first | (with_reducible first | exact HB.out | apply below_alloc | apply pw_below_drewN | apply below_drew1 | refine below_set ?_ GE146.out) | exact HB.out)) hb); have n2_ := Aside0.mk (hbox); have n3_ := Aside0.mk ((by rw [hg]; exact (below_size (by repeat (first | (with_reducible first | exact HB.out | apply below_alloc | apply pw_below_drewN | apply below_drew1 | refine below_set ?_ GE146.out) | exact HB.out))) : w.heap.size ≤ gb147)); have n4_ := Aside0.mk ((by rw [hg]; exact (below_size (by repeat (first | (with_reducible first | exact HB.out | apply below_alloc | apply pw_below_drewN | apply below_drew1 | refine below_set ?_ GE146.out) | exact HB.out))) : w.heap.size ≤ gb147)); have n5_ := Aside0.mk ((by rw [hg]; exact Nat.ne_of_lt (blk_lt (g := gb146) (o := .cells #[.int .i8 a0_0, .int .i8 a0_1, .int .i8 a0_2, .int .i8 a0_3, .int .i8 a0_4] 34 (0, 0)) (by (with_reducible repeat (first | refine blk_drewN ?_ _ | refine blk_drew ?_ | refine blk_alloc ?_ _)); exact BK146.out)) : gb146 ≠ gb147)); have n6_ := Aside0.mk ((by rw [hg]; exact Nat.ne_of_gt (blk_lt (g := gb146) (o := .cells #[.int .i8 a0_0, .int .i8 a0_1, .int .i8 a0_2, .int .i8 a0_3, .int .i8 a0_4] 34 (0, 0)) (by (with_reducible repeat (first | refine blk_drewN ?_ _ | refine blk_drew ?_ | refine blk_alloc ?_ _)); exact BK146.out)) : gb147 ≠ gb146)); clear BK146; clear HB; have BK146 := n0_; have HB := n1_; have BK147 := n2_; have GW147 := n3_; have GE147 := n4_; have NB146_147 := n5_; have NB147_146 := n6_; clear n0_ n1_ n2_ n3_ n4_ n5_ n6_; clear hb hbox hg))
  (try simp only [Act.put, List.setIfInBounds_toArray, List.set_cons_zero, List.set_cons_succ])
  go_cut [12] (fun v12 wc => ∃ (kq : Nat) (x12_2 : Bool), v12 = .bool x12_2 ∧ Aside0 (spec_AlikePieces.j0 kq x12_2 a0_0 a0_1 a0_2 a0_3 a0_4 a1_0 a1_1 a1_2 a1_3 a1_4 = some (r1, r2)) ∧ Aside0 (kq ≤ k) ∧ Aside0 (wc.heap[gb146]? = some (.cells #[.int .i8 a0_0, .int .i8 a0_1, .int .i8 a0_2, .int .i8 a0_3, .int .i8 a0_4] 34 (0, 0))) ∧ Aside0 (wc.heap[gb147]? = some (.cells #[.int .i8 a1_0, .int .i8 a1_1, .int .i8 a1_2, .int .i8 a1_3, .int .i8 a1_4] 34 (0, 0))) ∧ Aside0 (Below w.heap.size w wc))
  case first =>
    have H := HC3.out
    clear HC3
    replace H := Option.bind_eq_some_iff.mp H
    obtain ⟨t148, A60, H⟩ := H
    replace H : (if t148 = true then ((spec_l01Piece.f [(⟨(⟨a1_0, a1_1⟩ : S32), a1_2, a1_3, a1_4⟩ : S34)]).bind fun t149 => (spec_AlikePieces.j0 k (!t149) a0_0 a0_1 a0_2 a0_3 a0_4 a1_0 a1_1 a1_2 a1_3 a1_4)) else (spec_AlikePieces.j0 k true a0_0 a0_1 a0_2 a0_3 a0_4 a1_0 a1_1 a1_2 a1_3 a1_4)) = some (r1, r2) := H
    have A6 := Aside0.mk A60
    clear A60
    by_cases c7 : t148 = true
    · subst c7
      have H1 : ((spec_l01Piece.f [(⟨(⟨a1_0, a1_1⟩ : S32), a1_2, a1_3, a1_4⟩ : S34)]).bind fun t149 => (spec_AlikePieces.j0 k (!t149) a0_0 a0_1 a0_2 a0_3 a0_4 a1_0 a1_1 a1_2 a1_3 a1_4)) = some (r1, r2) := by rw [if_pos rfl] at H; exact H
      clear H
      have H := H1
      clear H1
      replace H := Option.bind_eq_some_iff.mp H
      obtain ⟨t149, A80, H⟩ := H
      replace H : (spec_AlikePieces.j0 k (!t149) a0_0 a0_1 a0_2 a0_3 a0_4 a1_0 a1_1 a1_2 a1_3 a1_4) = some (r1, r2) := H
      have A8 := Aside0.mk A80
      clear A80
      have H' := Aside0.mk H
      clear H
      go_wp2_with (first | ((with_reducible refine gate_callee (f := 53) rfl ?_); refine goesL_ (some 7) rfl rfl Try.func53 (by kernel_rfl) rfl #[.pointer (some ⟨gb146, 0, none⟩)] rfl (by (try simp only [List.map_toArray, List.map_cons, List.map_nil]); first | done | rfl | (simp only [List.length_drop, List.length_take]; rfl)) ?_; (with_reducible refine (spec_l01Piece.calls _ [(⟨(⟨a0_0, a0_1⟩ : S32), a0_2, a0_3, a0_4⟩ : S34)] true _ ?side1 A6.out).mono ?_); (case side1 => refine ro_of_blk (T := 34) (cs := #[.int .i8 a0_0, .int .i8 a0_1, .int .i8 a0_2, .int .i8 a0_3, .int .i8 a0_4]) (by (with_reducible repeat (first | refine blk_drewN ?_ _ | refine blk_drew ?_ | refine blk_alloc ?_ _)); exact BK146.out) ?_; exact k34_mk _ (⟨(⟨a0_0, a0_1⟩ : S32), a0_2, a0_3, a0_4⟩ : S34) ); rintro e w9 ⟨rfl, hb⟩; refine ⟨_, rfl, ?_⟩; have n0_ := Aside0.mk (blk_below (g := gb146) (o := .cells #[.int .i8 a0_0, .int .i8 a0_1, .int .i8 a0_2, .int .i8 a0_3, .int .i8 a0_4] 34 (0, 0)) (by (with_reducible repeat (first | refine blk_drewN ?_ _ | refine blk_drew ?_ | refine blk_alloc ?_ _)); exact BK146.out) hb); have n1_ := Aside0.mk (blk_below (g := gb147) (o := .cells #[.int .i8 a1_0, .int .i8 a1_1, .int .i8 a1_2, .int .i8 a1_3, .int .i8 a1_4] 34 (0, 0)) (by (with_reducible repeat (first | refine blk_drewN ?_ _ | refine blk_drew ?_ | refine blk_alloc ?_ _)); exact BK147.out) hb); have n2_ := Aside0.mk (below_step (by repeat (first | (with_reducible first | exact HB.out | apply below_alloc | apply pw_below_drewN | apply below_drew1 | refine below_set ?_ GE146.out | refine below_set ?_ GE147.out) | exact HB.out)) hb); clear BK146; clear BK147; clear HB; have BK146 := n0_; have BK147 := n1_; have HB := n2_; clear n0_ n1_ n2_; (try clear hb); (try clear hb2); (try clear hk); (try clear hi)) | (go_at_call 53; (with_reducible refine (spec_l01Piece.calls _ [(⟨(⟨a1_0, a1_1⟩ : S32), a1_2, a1_3, a1_4⟩ : S34)] t149 _ ?side1 A8.out).mono ?_); (case side1 => refine ro_of_blk (T := 34) (cs := #[.int .i8 a1_0, .int .i8 a1_1, .int .i8 a1_2, .int .i8 a1_3, .int .i8 a1_4]) (by (with_reducible repeat (first | refine blk_drewN ?_ _ | refine blk_drew ?_ | refine blk_alloc ?_ _)); exact BK147.out) ?_; exact k34_mk _ (⟨(⟨a1_0, a1_1⟩ : S32), a1_2, a1_3, a1_4⟩ : S34) ); rintro e w10 ⟨rfl, hb⟩; have n0_ := Aside0.mk (blk_below (g := gb146) (o := .cells #[.int .i8 a0_0, .int .i8 a0_1, .int .i8 a0_2, .int .i8 a0_3, .int .i8 a0_4] 34 (0, 0)) (by (with_reducible repeat (first | refine blk_drewN ?_ _ | refine blk_drew ?_ | refine blk_alloc ?_ _)); exact BK146.out) hb); have n1_ := Aside0.mk (blk_below (g := gb147) (o := .cells #[.int .i8 a1_0, .int .i8 a1_1, .int .i8 a1_2, .int .i8 a1_3, .int .i8 a1_4] 34 (0, 0)) (by (with_reducible repeat (first | refine blk_drewN ?_ _ | refine blk_drew ?_ | refine blk_alloc ?_ _)); exact BK147.out) hb); have n2_ := Aside0.mk (below_step (by repeat (first | (with_reducible first | exact HB.out | apply below_alloc | apply pw_below_drewN | apply below_drew1 | refine below_set ?_ GE146.out | refine below_set ?_ GE147.out) | exact HB.out)) hb); clear BK146; clear BK147; clear HB; have BK146 := n0_; have BK147 := n1_; have HB := n2_; clear n0_ n1_ n2_; (try clear hb); (try clear hb2); (try clear hk); (try clear hi)))
      go_meet
      case rel => exact ⟨_, (!t149), (by first | rfl | (simp; done) | (simp [*]; done) | (exact congrArg (Value.int .i64) (wrap_eq (by omega)))), H', ⟨by first | omega | exact Nat.le_refl _⟩, ⟨by (with_reducible repeat (first | refine blk_drewN ?_ _ | refine blk_drew ?_ | refine blk_alloc ?_ _)); exact BK146.out⟩, ⟨by (with_reducible repeat (first | refine blk_drewN ?_ _ | refine blk_drew ?_ | refine blk_alloc ?_ _)); exact BK147.out⟩, ⟨by repeat (first | (with_reducible first | exact HB.out | apply below_alloc | apply pw_below_drewN | apply below_drew1 | refine below_set ?_ GE146.out | refine below_set ?_ GE147.out) | exact HB.out)⟩⟩
    · replace c7 := Bool.eq_false_iff.mpr c7
      subst c7
      have H1 : (spec_AlikePieces.j0 k true a0_0 a0_1 a0_2 a0_3 a0_4 a1_0 a1_1 a1_2 a1_3 a1_4) = some (r1, r2) := by rw [if_neg (show ¬ (false = true) by decide)] at H; exact H
      clear H
      have H := H1
      clear H1
      have H' := Aside0.mk H
      clear H
      go_wp2_with (first | ((with_reducible refine gate_callee (f := 53) rfl ?_); refine goesL_ (some 7) rfl rfl Try.func53 (by kernel_rfl) rfl #[.pointer (some ⟨gb146, 0, none⟩)] rfl (by (try simp only [List.map_toArray, List.map_cons, List.map_nil]); first | done | rfl | (simp only [List.length_drop, List.length_take]; rfl)) ?_; (with_reducible refine (spec_l01Piece.calls _ [(⟨(⟨a0_0, a0_1⟩ : S32), a0_2, a0_3, a0_4⟩ : S34)] false _ ?side1 A6.out).mono ?_); (case side1 => refine ro_of_blk (T := 34) (cs := #[.int .i8 a0_0, .int .i8 a0_1, .int .i8 a0_2, .int .i8 a0_3, .int .i8 a0_4]) (by (with_reducible repeat (first | refine blk_drewN ?_ _ | refine blk_drew ?_ | refine blk_alloc ?_ _)); exact BK146.out) ?_; exact k34_mk _ (⟨(⟨a0_0, a0_1⟩ : S32), a0_2, a0_3, a0_4⟩ : S34) ); rintro e w11 ⟨rfl, hb⟩; refine ⟨_, rfl, ?_⟩; have n0_ := Aside0.mk (blk_below (g := gb146) (o := .cells #[.int .i8 a0_0, .int .i8 a0_1, .int .i8 a0_2, .int .i8 a0_3, .int .i8 a0_4] 34 (0, 0)) (by (with_reducible repeat (first | refine blk_drewN ?_ _ | refine blk_drew ?_ | refine blk_alloc ?_ _)); exact BK146.out) hb); have n1_ := Aside0.mk (blk_below (g := gb147) (o := .cells #[.int .i8 a1_0, .int .i8 a1_1, .int .i8 a1_2, .int .i8 a1_3, .int .i8 a1_4] 34 (0, 0)) (by (with_reducible repeat (first | refine blk_drewN ?_ _ | refine blk_drew ?_ | refine blk_alloc ?_ _)); exact BK147.out) hb); have n2_ := Aside0.mk (below_step (by repeat (first | (with_reducible first | exact HB.out | apply below_alloc | apply pw_below_drewN | apply below_drew1 | refine below_set ?_ GE146.out | refine below_set ?_ GE147.out) | exact HB.out)) hb); clear BK146; clear BK147; clear HB; have BK146 := n0_; have BK147 := n1_; have HB := n2_; clear n0_ n1_ n2_; (try clear hb); (try clear hb2); (try clear hk); (try clear hi)))
      go_meet
      case rel => exact ⟨_, (true), (by first | rfl | (simp; done) | (simp [*]; done) | (exact congrArg (Value.int .i64) (wrap_eq (by omega)))), H', ⟨by first | omega | exact Nat.le_refl _⟩, ⟨by (with_reducible repeat (first | refine blk_drewN ?_ _ | refine blk_drew ?_ | refine blk_alloc ?_ _)); exact BK146.out⟩, ⟨by (with_reducible repeat (first | refine blk_drewN ?_ _ | refine blk_drew ?_ | refine blk_alloc ?_ _)); exact BK147.out⟩, ⟨by repeat (first | (with_reducible first | exact HB.out | apply below_alloc | apply pw_below_drewN | apply below_drew1 | refine below_set ?_ GE146.out | refine below_set ?_ GE147.out) | exact HB.out)⟩⟩
  case rest =>
    clear HC3
    try clear p2
    try clear c3
    try clear c5
    try clear c7
    obtain ⟨kq, x12_2, rfl, HA, HJ2, BK146, BK147, HB⟩ := hcut
    cases kq with
    | zero => exact absurd HA.out (by simp [spec_AlikePieces.j0])
    | succ kj2 =>
      have H := HA.out
      clear HA
      simp only [spec_AlikePieces.j0] at H
      by_cases c12 : x12_2 = true
      · subst c12
        have H1 : (some (false, 1)) = some (r1, r2) := by rw [if_pos rfl] at H; exact H
        clear H
        have H := H1
        clear H1
        simp only [Option.some.injEq, Prod.mk.injEq] at H
        obtain ⟨rfl, rfl⟩ := H
        go_wp2
        go_ret2
        exact ⟨by first | rfl | (simp [errW_none, errW_some] <;> rfl) | (simp [*, errW_none, errW_some] <;> rfl), by repeat (first | (with_reducible first | exact HB.out | apply below_alloc | apply pw_below_drewN | apply below_drew1 | refine below_set ?_ GE146.out | refine below_set ?_ GE147.out) | exact HB.out)⟩
      · replace c12 := Bool.eq_false_iff.mpr c12
        subst c12
        have H1 : (spec_AlikePieces.l0 kj2 0 a0_0 a0_1 a0_2 a0_3 a0_4 a1_0 a1_1 a1_2 a1_3 a1_4) = some (r1, r2) := by rw [if_neg (show ¬ (false = true) by decide)] at H; exact H
        clear H
        have H := H1
        clear H1
        have H' := Aside0.mk H
        clear H
        go_wp2
        go_loopg [6] kj2 (fun kq v6 w' => ∃ (x6_2 : Int), v6 = .int .i64 x6_2 ∧ Aside0 (spec_AlikePieces.l0 kq x6_2 a0_0 a0_1 a0_2 a0_3 a0_4 a1_0 a1_1 a1_2 a1_3 a1_4 = some (r1, r2)) ∧ Aside0 (kq ≤ kj2) ∧ Aside0 (w'.heap[gb146]? = some (.cells #[.int .i8 a0_0, .int .i8 a0_1, .int .i8 a0_2, .int .i8 a0_3, .int .i8 a0_4] 34 (0, 0))) ∧ Aside0 (w'.heap[gb147]? = some (.cells #[.int .i8 a1_0, .int .i8 a1_1, .int .i8 a1_2, .int .i8 a1_3, .int .i8 a1_4] 34 (0, 0))) ∧ Aside0 (Below w.heap.size w w'))
        case atStart => exact ⟨(0), (by first | rfl | (simp; done) | (simp [*]; done) | (exact congrArg (Value.int .i64) (wrap_eq (by omega)))), H', ⟨Nat.le_refl _⟩, ⟨by (with_reducible repeat (first | refine blk_drewN ?_ _ | refine blk_drew ?_ | refine blk_alloc ?_ _)); exact BK146.out⟩, ⟨by (with_reducible repeat (first | refine blk_drewN ?_ _ | refine blk_drew ?_ | refine blk_alloc ?_ _)); exact BK147.out⟩, ⟨by repeat (first | (with_reducible first | exact HB.out | apply below_alloc | apply pw_below_drewN | apply below_drew1 | refine below_set ?_ GE146.out | refine below_set ?_ GE147.out) | exact HB.out)⟩⟩
        case round =>
          clear H'
          try clear c1
          try clear p2
          try clear c3
          try clear c5
          try clear c7
          try clear c12
          try clear p2
          obtain ⟨x6_2, rfl, HA, HK2, BK146, BK147, HB⟩ := hrel
          cases gk with
          | zero => exact absurd HA.out (by simp [spec_AlikePieces.l0])
          | succ k2 =>
            have H := HA.out
            clear HA
            simp only [spec_AlikePieces.l0] at H
            by_cases c13 : x6_2 < 4
            · rw [if_pos c13] at H
              have c13b0 : decide (x6_2 < 4) = true := decide_eq_true c13
              clear c13
              replace H := Option.bind_eq_some_iff.mp H
              obtain ⟨t150, A140, H⟩ := H
              replace H : ((spec_l01Hits.f k2 [(⟨(⟨a1_0, a1_1⟩ : S32), a1_2, a1_3, a1_4⟩ : S34)] x6_2).bind fun t151 => (if t150 = t151 then (spec_AlikePieces.l0 k2 (wrap64 (x6_2 + 1)) a0_0 a0_1 a0_2 a0_3 a0_4 a1_0 a1_1 a1_2 a1_3 a1_4) else (some (false, 0)))) = some (r1, r2) := H
              have A14 := Aside0.mk A140
              clear A140
              replace H := Option.bind_eq_some_iff.mp H
              obtain ⟨t151, A150, H⟩ := H
              replace H : (if t150 = t151 then (spec_AlikePieces.l0 k2 (wrap64 (x6_2 + 1)) a0_0 a0_1 a0_2 a0_3 a0_4 a1_0 a1_1 a1_2 a1_3 a1_4) else (some (false, 0))) = some (r1, r2) := H
              have A15 := Aside0.mk A150
              clear A150
              by_cases c16 : t150 = t151
              · rw [if_pos c16] at H
                have c16b0 : (t150 == t151) = true := beq_iff_eq.mpr c16
                have c16b1 : (t150 != t151) = false := bne_eq_false_iff_eq.mpr c16
                clear c16
                have H' := Aside0.mk H
                clear H
                go_wp2_with (first | ((with_reducible refine gate_callee (f := 71) rfl ?_); refine goesL_ (some 18) rfl rfl Try.func71 (by kernel_rfl) rfl #[.pointer (some ⟨gb146, 0, none⟩), .int .i64 x6_2] rfl (by (try simp only [List.map_toArray, List.map_cons, List.map_nil]); first | done | rfl | (simp only [List.length_drop, List.length_take]; rfl)) ?_; (with_reducible refine (spec_l01Hits.calls k2 _ [(⟨(⟨a0_0, a0_1⟩ : S32), a0_2, a0_3, a0_4⟩ : S34)] x6_2 t150 _ ?side1 A14.out).mono ?_); (case side1 => refine ro_of_blk (T := 34) (cs := #[.int .i8 a0_0, .int .i8 a0_1, .int .i8 a0_2, .int .i8 a0_3, .int .i8 a0_4]) (by (with_reducible repeat (first | refine blk_drewN ?_ _ | refine blk_drew ?_ | refine blk_alloc ?_ _)); exact BK146.out) ?_; exact k34_mk _ (⟨(⟨a0_0, a0_1⟩ : S32), a0_2, a0_3, a0_4⟩ : S34) ); rintro e w17 ⟨rfl, hb⟩; refine ⟨_, rfl, ?_⟩; have n0_ := Aside0.mk (blk_below (g := gb146) (o := .cells #[.int .i8 a0_0, .int .i8 a0_1, .int .i8 a0_2, .int .i8 a0_3, .int .i8 a0_4] 34 (0, 0)) (by (with_reducible repeat (first | refine blk_drewN ?_ _ | refine blk_drew ?_ | refine blk_alloc ?_ _)); exact BK146.out) hb); have n1_ := Aside0.mk (blk_below (g := gb147) (o := .cells #[.int .i8 a1_0, .int .i8 a1_1, .int .i8 a1_2, .int .i8 a1_3, .int .i8 a1_4] 34 (0, 0)) (by (with_reducible repeat (first | refine blk_drewN ?_ _ | refine blk_drew ?_ | refine blk_alloc ?_ _)); exact BK147.out) hb); have n2_ := Aside0.mk (below_step (by repeat (first | (with_reducible first | exact HB.out | apply below_alloc | apply pw_below_drewN | apply below_drew1 | refine below_set ?_ GE146.out | refine below_set ?_ GE147.out) | exact HB.out)) hb); clear BK146; clear BK147; clear HB; have BK146 := n0_; have BK147 := n1_; have HB := n2_; clear n0_ n1_ n2_; (try clear hb); (try clear hb2); (try clear hk); (try clear hi)) | ((with_reducible refine gate_callee (f := 71) rfl ?_); refine goesL_ (some 20) rfl rfl Try.func71 (by kernel_rfl) rfl #[.pointer (some ⟨gb147, 0, none⟩), .int .i64 x6_2] rfl (by (try simp only [List.map_toArray, List.map_cons, List.map_nil]); first | done | rfl | (simp only [List.length_drop, List.length_take]; rfl)) ?_; (with_reducible refine (spec_l01Hits.calls k2 _ [(⟨(⟨a1_0, a1_1⟩ : S32), a1_2, a1_3, a1_4⟩ : S34)] x6_2 t151 _ ?side1 A15.out).mono ?_); (case side1 => refine ro_of_blk (T := 34) (cs := #[.int .i8 a1_0, .int .i8 a1_1, .int .i8 a1_2, .int .i8 a1_3, .int .i8 a1_4]) (by (with_reducible repeat (first | refine blk_drewN ?_ _ | refine blk_drew ?_ | refine blk_alloc ?_ _)); exact BK147.out) ?_; exact k34_mk _ (⟨(⟨a1_0, a1_1⟩ : S32), a1_2, a1_3, a1_4⟩ : S34) ); rintro e w18 ⟨rfl, hb⟩; refine ⟨_, rfl, ?_⟩; have n0_ := Aside0.mk (blk_below (g := gb146) (o := .cells #[.int .i8 a0_0, .int .i8 a0_1, .int .i8 a0_2, .int .i8 a0_3, .int .i8 a0_4] 34 (0, 0)) (by (with_reducible repeat (first | refine blk_drewN ?_ _ | refine blk_drew ?_ | refine blk_alloc ?_ _)); exact BK146.out) hb); have n1_ := Aside0.mk (blk_below (g := gb147) (o := .cells #[.int .i8 a1_0, .int .i8 a1_1, .int .i8 a1_2, .int .i8 a1_3, .int .i8 a1_4] 34 (0, 0)) (by (with_reducible repeat (first | refine blk_drewN ?_ _ | refine blk_drew ?_ | refine blk_alloc ?_ _)); exact BK147.out) hb); have n2_ := Aside0.mk (below_step (by repeat (first | (with_reducible first | exact HB.out | apply below_alloc | apply pw_below_drewN | apply below_drew1 | refine below_set ?_ GE146.out | refine below_set ?_ GE147.out) | exact HB.out)) hb); clear BK146; clear BK147; clear HB; have BK146 := n0_; have BK147 := n1_; have HB := n2_; clear n0_ n1_ n2_; (try clear hb); (try clear hb2); (try clear hk); (try clear hi)))
                go_roundg k2
                case measure => have := HJ2.out; have := HK2.out; omega
                case rel => exact ⟨(wrap64 (x6_2 + 1)), (by first | rfl | (simp; done) | (simp [*]; done) | (exact congrArg (Value.int .i64) (wrap_eq (by omega)))), H', ⟨by have := HJ2.out; have := HK2.out; omega⟩, ⟨by (with_reducible repeat (first | refine blk_drewN ?_ _ | refine blk_drew ?_ | refine blk_alloc ?_ _)); exact BK146.out⟩, ⟨by (with_reducible repeat (first | refine blk_drewN ?_ _ | refine blk_drew ?_ | refine blk_alloc ?_ _)); exact BK147.out⟩, ⟨by repeat (first | (with_reducible first | exact HB.out | apply below_alloc | apply pw_below_drewN | apply below_drew1 | refine below_set ?_ GE146.out | refine below_set ?_ GE147.out) | exact HB.out)⟩⟩
              · rw [if_neg c16] at H
                have c16b0 : (t150 == t151) = false := beq_eq_false_iff_ne.mpr c16
                have c16b1 : (t150 != t151) = true := bne_iff_ne.mpr c16
                simp only [Option.some.injEq, Prod.mk.injEq] at H
                obtain ⟨rfl, rfl⟩ := H
                go_wp2_with (first | ((with_reducible refine gate_callee (f := 71) rfl ?_); refine goesL_ (some 18) rfl rfl Try.func71 (by kernel_rfl) rfl #[.pointer (some ⟨gb146, 0, none⟩), .int .i64 x6_2] rfl (by (try simp only [List.map_toArray, List.map_cons, List.map_nil]); first | done | rfl | (simp only [List.length_drop, List.length_take]; rfl)) ?_; (with_reducible refine (spec_l01Hits.calls k2 _ [(⟨(⟨a0_0, a0_1⟩ : S32), a0_2, a0_3, a0_4⟩ : S34)] x6_2 t150 _ ?side1 A14.out).mono ?_); (case side1 => refine ro_of_blk (T := 34) (cs := #[.int .i8 a0_0, .int .i8 a0_1, .int .i8 a0_2, .int .i8 a0_3, .int .i8 a0_4]) (by (with_reducible repeat (first | refine blk_drewN ?_ _ | refine blk_drew ?_ | refine blk_alloc ?_ _)); exact BK146.out) ?_; exact k34_mk _ (⟨(⟨a0_0, a0_1⟩ : S32), a0_2, a0_3, a0_4⟩ : S34) ); rintro e w19 ⟨rfl, hb⟩; refine ⟨_, rfl, ?_⟩; have n0_ := Aside0.mk (blk_below (g := gb146) (o := .cells #[.int .i8 a0_0, .int .i8 a0_1, .int .i8 a0_2, .int .i8 a0_3, .int .i8 a0_4] 34 (0, 0)) (by (with_reducible repeat (first | refine blk_drewN ?_ _ | refine blk_drew ?_ | refine blk_alloc ?_ _)); exact BK146.out) hb); have n1_ := Aside0.mk (blk_below (g := gb147) (o := .cells #[.int .i8 a1_0, .int .i8 a1_1, .int .i8 a1_2, .int .i8 a1_3, .int .i8 a1_4] 34 (0, 0)) (by (with_reducible repeat (first | refine blk_drewN ?_ _ | refine blk_drew ?_ | refine blk_alloc ?_ _)); exact BK147.out) hb); have n2_ := Aside0.mk (below_step (by repeat (first | (with_reducible first | exact HB.out | apply below_alloc | apply pw_below_drewN | apply below_drew1 | refine below_set ?_ GE146.out | refine below_set ?_ GE147.out) | exact HB.out)) hb); clear BK146; clear BK147; clear HB; have BK146 := n0_; have BK147 := n1_; have HB := n2_; clear n0_ n1_ n2_; (try clear hb); (try clear hb2); (try clear hk); (try clear hi)) | ((with_reducible refine gate_callee (f := 71) rfl ?_); refine goesL_ (some 20) rfl rfl Try.func71 (by kernel_rfl) rfl #[.pointer (some ⟨gb147, 0, none⟩), .int .i64 x6_2] rfl (by (try simp only [List.map_toArray, List.map_cons, List.map_nil]); first | done | rfl | (simp only [List.length_drop, List.length_take]; rfl)) ?_; (with_reducible refine (spec_l01Hits.calls k2 _ [(⟨(⟨a1_0, a1_1⟩ : S32), a1_2, a1_3, a1_4⟩ : S34)] x6_2 t151 _ ?side1 A15.out).mono ?_); (case side1 => refine ro_of_blk (T := 34) (cs := #[.int .i8 a1_0, .int .i8 a1_1, .int .i8 a1_2, .int .i8 a1_3, .int .i8 a1_4]) (by (with_reducible repeat (first | refine blk_drewN ?_ _ | refine blk_drew ?_ | refine blk_alloc ?_ _)); exact BK147.out) ?_; exact k34_mk _ (⟨(⟨a1_0, a1_1⟩ : S32), a1_2, a1_3, a1_4⟩ : S34) ); rintro e w20 ⟨rfl, hb⟩; refine ⟨_, rfl, ?_⟩; have n0_ := Aside0.mk (blk_below (g := gb146) (o := .cells #[.int .i8 a0_0, .int .i8 a0_1, .int .i8 a0_2, .int .i8 a0_3, .int .i8 a0_4] 34 (0, 0)) (by (with_reducible repeat (first | refine blk_drewN ?_ _ | refine blk_drew ?_ | refine blk_alloc ?_ _)); exact BK146.out) hb); have n1_ := Aside0.mk (blk_below (g := gb147) (o := .cells #[.int .i8 a1_0, .int .i8 a1_1, .int .i8 a1_2, .int .i8 a1_3, .int .i8 a1_4] 34 (0, 0)) (by (with_reducible repeat (first | refine blk_drewN ?_ _ | refine blk_drew ?_ | refine blk_alloc ?_ _)); exact BK147.out) hb); have n2_ := Aside0.mk (below_step (by repeat (first | (with_reducible first | exact HB.out | apply below_alloc | apply pw_below_drewN | apply below_drew1 | refine below_set ?_ GE146.out | refine below_set ?_ GE147.out) | exact HB.out)) hb); clear BK146; clear BK147; clear HB; have BK146 := n0_; have BK147 := n1_; have HB := n2_; clear n0_ n1_ n2_; (try clear hb); (try clear hb2); (try clear hk); (try clear hi)))
                go_ret2
                exact ⟨by first | rfl | (simp [errW_none, errW_some] <;> rfl) | (simp [*, errW_none, errW_some] <;> rfl), by repeat (first | (with_reducible first | exact HB.out | apply below_alloc | apply pw_below_drewN | apply below_drew1 | refine below_set ?_ GE146.out | refine below_set ?_ GE147.out) | exact HB.out)⟩
            · rw [if_neg c13] at H
              have c13b0 : decide (x6_2 < 4) = false := decide_eq_false c13
              clear c13
              simp only [Option.some.injEq, Prod.mk.injEq] at H
              obtain ⟨rfl, rfl⟩ := H
              have hnb21 := NB146_147.out
              have hnc21 := NB147_146.out
              have hcz22_0 : wr.cell? ⟨gb146, 0, none⟩ = some (.int .i8 a0_0) := (blk_cell BK146.out 0).trans rfl
              have hcz22_1 : wr.cell? ⟨gb146, 1, none⟩ = some (.int .i8 a0_1) := (blk_cell BK146.out 1).trans rfl
              have hcz22_2 : wr.cell? ⟨gb146, 2, none⟩ = some (.int .i8 a0_2) := (blk_cell BK146.out 2).trans rfl
              have hcz22_3 : wr.cell? ⟨gb146, 3, none⟩ = some (.int .i8 a0_3) := (blk_cell BK146.out 3).trans rfl
              have hcz22_4 : wr.cell? ⟨gb146, 4, none⟩ = some (.int .i8 a0_4) := (blk_cell BK146.out 4).trans rfl
              have hfz22_0 := blk_frozen BK146.out 0
              have hfz22_1 := blk_frozen BK146.out 1
              have hfz22_2 := blk_frozen BK146.out 2
              have hfz22_3 := blk_frozen BK146.out 3
              have hfz22_4 := blk_frozen BK146.out 4
              have hcz23_0 : wr.cell? ⟨gb147, 0, none⟩ = some (.int .i8 a1_0) := (blk_cell BK147.out 0).trans rfl
              have hcz23_1 : wr.cell? ⟨gb147, 1, none⟩ = some (.int .i8 a1_1) := (blk_cell BK147.out 1).trans rfl
              have hcz23_2 : wr.cell? ⟨gb147, 2, none⟩ = some (.int .i8 a1_2) := (blk_cell BK147.out 2).trans rfl
              have hcz23_3 : wr.cell? ⟨gb147, 3, none⟩ = some (.int .i8 a1_3) := (blk_cell BK147.out 3).trans rfl
              have hcz23_4 : wr.cell? ⟨gb147, 4, none⟩ = some (.int .i8 a1_4) := (blk_cell BK147.out 4).trans rfl
              have hfz23_0 := blk_frozen BK147.out 0
              have hfz23_1 := blk_frozen BK147.out 1
              have hfz23_2 := blk_frozen BK147.out 2
              have hfz23_3 := blk_frozen BK147.out 3
              have hfz23_4 := blk_frozen BK147.out 4
              go_wp2
              go_ret2
              exact ⟨by first | rfl | (simp [errW_none, errW_some] <;> rfl) | (simp [*, errW_none, errW_some] <;> rfl), by repeat (first | (with_reducible first | exact HB.out | apply below_alloc | apply pw_below_drewN | apply below_drew1 | refine below_set ?_ GE146.out | refine below_set ?_ GE147.out) | exact HB.out)⟩

/-! ### impl_in: function 54 -/
def impl_in.f (a0 : Int) (a1 : Int) (a2 : Int) : Option (Bool) := if a0 ≥ a1 then (some (decide (a0 ≤ a2))) else (some false)
set_option maxHeartbeats 8000000 in
set_option maxRecDepth 100000 in
theorem impl_in.calls (a0 : Int) (a1 : Int) (a2 : Int) (r : Bool) (w : World) (h : impl_in.f a0 a1 a2 = some r) :
    Calls Try.prog 54 #[.int .i64 a0, .int .i64 a1, .int .i64 a2] w fun e w' => e = .returned (.bool r) ∧ Drawn0 w w' := by
  have H : (if a0 ≥ a1 then (some (decide (a0 ≤ a2))) else (some false)) = some r := h
  clear h
  by_cases c4 : a0 ≥ a1
  · rw [if_pos c4] at H
    have c4b0 : decide (a1 ≤ a0) = true := decide_eq_true c4
    clear c4
    obtain rfl := Option.some.inj H
    go_enter Try.func54, Try.ntmps54
    go_wp2
    go_ret
    exact ⟨by first | rfl | (simp; done) | (simp [*]; done) | (exact congrArg (Value.int .i64) (wrap_eq (by omega))), by repeat (first | exact Drawn0.refl _ | apply Drawn0.step)⟩
  · rw [if_neg c4] at H
    have c4b0 : decide (a1 ≤ a0) = false := decide_eq_false c4
    clear c4
    obtain rfl := Option.some.inj H
    go_enter Try.func54, Try.ntmps54
    go_wp2
    go_ret
    exact ⟨by first | rfl | (simp; done) | (simp [*]; done) | (exact congrArg (Value.int .i64) (wrap_eq (by omega))), by repeat (first | exact Drawn0.refl _ | apply Drawn0.step)⟩

end Go.Proofs.Ytkcbcbannbllaaa.PFnExactAlikePieces
