-- WRITTEN by xprint.py, a program of this session's. Not trusted: Lean checks it.
-- packed by pack.py
import Derived.Test.YtjeejglobdgpjaaPFnPiecesx0
import Derived.Test.YtjeejglobdgpjaaPFnPiecesx6
import Derived.Test.YtjeejglobdgpjaaTFnPiecesa
namespace Go.Proofs.Ytjeejglobdgpjaa.PFnPieces
open Go.RowKit Go.Proofs.YtjeejglobdgpjaaW.PrintWords Go.Proofs.YtjeejglobdgpjaaW.PrintLast Go.Proofs.YtjeejglobdgpjaaW.PrintMore Go.Proofs.YtjeejglobdgpjaaX
attribute [local go_sem] max2_int min2_int max_two min_two max_three min_three max_four min_four   -- for this text's walks alone
set_option maxHeartbeats 8000000
set_option maxRecDepth 100000
set_option linter.unusedVariables false
set_option linter.unusedSimpArgs false

def spec_l01Hits.l0 : Nat → Int → Int → Int → Int → Option (Int)
  | 0, _, _, _, _ => none
  | k + 1, x5, x6, x7, x8 => if x8 < 4 then (if 0 ≤ (IntKind.u64.wrap (x8)) then (if (Int.tmod (shr .i64 x6 (IntKind.u64.wrap (x8))) 2) = 1 then (if 0 ≤ (IntKind.u64.wrap (Int.tmod (wrap64 (x8 + x5)) 4)) then (spec_l01Hits.l0 k x5 x6 (wrap64 (x7 + (shl .i64 1 (IntKind.u64.wrap (Int.tmod (wrap64 (x8 + x5)) 4))))) (wrap64 (x8 + 1))) else (none)) else (spec_l01Hits.l0 k x5 x6 x7 (wrap64 (x8 + 1)))) else (none)) else (some x7)
def spec_l01Hits.f (k : Nat) (l0 : List (S28)) (a1 : Int) : Option (Int) := if 0 < (l0.length : Int) then ((spec_l01Table.f).bind fun bt240 => (if 0 ≤ ((rd_T28 l0 0).f1) then (if ((rd_T28 l0 0).f1) < 6 then (if 0 ≤ (Int.tmod (wrap64 ((wrap64 (a1 + 4)) - (wrap64 ((rd_T28 l0 0).f2)))) 4) then (if (Int.tmod (wrap64 ((wrap64 (a1 + 4)) - (wrap64 ((rd_T28 l0 0).f2)))) 4) < 4 then (if (rd [rd [bt240.1, bt240.2.2.2.2.1, bt240.2.2.2.2.2.2.2.2.1, bt240.2.2.2.2.2.2.2.2.2.2.2.2.1, bt240.2.2.2.2.2.2.2.2.2.2.2.2.2.2.2.2.1, bt240.2.2.2.2.2.2.2.2.2.2.2.2.2.2.2.2.2.2.2.2.1] ((rd_T28 l0 0).f1), rd [bt240.2.1, bt240.2.2.2.2.2.1, bt240.2.2.2.2.2.2.2.2.2.1, bt240.2.2.2.2.2.2.2.2.2.2.2.2.2.1, bt240.2.2.2.2.2.2.2.2.2.2.2.2.2.2.2.2.2.1, bt240.2.2.2.2.2.2.2.2.2.2.2.2.2.2.2.2.2.2.2.2.2.1] ((rd_T28 l0 0).f1), rd [bt240.2.2.1, bt240.2.2.2.2.2.2.1, bt240.2.2.2.2.2.2.2.2.2.2.1, bt240.2.2.2.2.2.2.2.2.2.2.2.2.2.2.1, bt240.2.2.2.2.2.2.2.2.2.2.2.2.2.2.2.2.2.2.1, bt240.2.2.2.2.2.2.2.2.2.2.2.2.2.2.2.2.2.2.2.2.2.2.1] ((rd_T28 l0 0).f1), rd [bt240.2.2.2.1, bt240.2.2.2.2.2.2.2.1, bt240.2.2.2.2.2.2.2.2.2.2.2.1, bt240.2.2.2.2.2.2.2.2.2.2.2.2.2.2.2.1, bt240.2.2.2.2.2.2.2.2.2.2.2.2.2.2.2.2.2.2.2.1, bt240.2.2.2.2.2.2.2.2.2.2.2.2.2.2.2.2.2.2.2.2.2.2.2] ((rd_T28 l0 0).f1)] (Int.tmod (wrap64 ((wrap64 (a1 + 4)) - (wrap64 ((rd_T28 l0 0).f2)))) 4)) < 0 then (some (-1)) else (spec_l01Hits.l0 k (wrap64 ((rd_T28 l0 0).f2)) (rd [rd [bt240.1, bt240.2.2.2.2.1, bt240.2.2.2.2.2.2.2.2.1, bt240.2.2.2.2.2.2.2.2.2.2.2.2.1, bt240.2.2.2.2.2.2.2.2.2.2.2.2.2.2.2.2.1, bt240.2.2.2.2.2.2.2.2.2.2.2.2.2.2.2.2.2.2.2.2.1] ((rd_T28 l0 0).f1), rd [bt240.2.1, bt240.2.2.2.2.2.1, bt240.2.2.2.2.2.2.2.2.2.1, bt240.2.2.2.2.2.2.2.2.2.2.2.2.2.1, bt240.2.2.2.2.2.2.2.2.2.2.2.2.2.2.2.2.2.1, bt240.2.2.2.2.2.2.2.2.2.2.2.2.2.2.2.2.2.2.2.2.2.1] ((rd_T28 l0 0).f1), rd [bt240.2.2.1, bt240.2.2.2.2.2.2.1, bt240.2.2.2.2.2.2.2.2.2.2.1, bt240.2.2.2.2.2.2.2.2.2.2.2.2.2.2.1, bt240.2.2.2.2.2.2.2.2.2.2.2.2.2.2.2.2.2.2.1, bt240.2.2.2.2.2.2.2.2.2.2.2.2.2.2.2.2.2.2.2.2.2.2.1] ((rd_T28 l0 0).f1), rd [bt240.2.2.2.1, bt240.2.2.2.2.2.2.2.1, bt240.2.2.2.2.2.2.2.2.2.2.2.1, bt240.2.2.2.2.2.2.2.2.2.2.2.2.2.2.2.1, bt240.2.2.2.2.2.2.2.2.2.2.2.2.2.2.2.2.2.2.2.1, bt240.2.2.2.2.2.2.2.2.2.2.2.2.2.2.2.2.2.2.2.2.2.2.2] ((rd_T28 l0 0).f1)] (Int.tmod (wrap64 ((wrap64 (a1 + 4)) - (wrap64 ((rd_T28 l0 0).f2)))) 4)) 0 0)) else (none)) else (none)) else (none)) else (none))) else (none)
theorem spec_l01Hits.mono_l : ∀ k, (∀ y0 y1 y2 y3, LeO (spec_l01Hits.l0 k y0 y1 y2 y3) (spec_l01Hits.l0 (k + 1) y0 y1 y2 y3))
  | 0 => fun _ _ _ _ r h => by simp [spec_l01Hits.l0] at h
  | k + 1 => by
    have ih0 := spec_l01Hits.mono_l k
    · intro y0 y1 y2 y3
      unfold spec_l01Hits.l0
      repeat' first | (with_reducible first | apply ih0 | exact LeO.refl _ | exact LeO.none _ | refine LeO.ite ?_ ?_ | refine LeO.bind ?_ (fun _ => ?_)) | apply ih0 | exact LeO.none _ | refine LeO.ite ?_ ?_ | refine LeO.bind ?_ (fun _ => ?_)
theorem spec_l01Hits.mono : ∀ a0 a1 k, LeO (spec_l01Hits.f k a0 a1) (spec_l01Hits.f (k + 1) a0 a1) := by
 intro a0 a1 k
 have ih0 := spec_l01Hits.mono_l k
 unfold spec_l01Hits.f
 repeat' first | (with_reducible first | apply ih0 | exact LeO.refl _ | exact LeO.none _ | refine LeO.ite ?_ ?_ | refine LeO.bind ?_ (fun _ => ?_)) | apply ih0 | exact LeO.none _ | refine LeO.ite ?_ ?_ | refine LeO.bind ?_ (fun _ => ?_)
def spec_l01Hits.T2 : Bool × List (List Nat × List Nat) := (true, [([], []), ([], []), ([1], [1]), ([2], [2]), ([3], [3]), ([0, 4], [0, 4]), ([], []), ([6], [6]), ([], []), ([7, 8], [7, 8]), ([9], [9]), ([5, 10], [5, 10]), ([11, 0, 0, 1, 2, 3, 4, 5, 6, 7, 8, 9, 10, 11], [11])])
def spec_l01Hits.B2 : List Nat := [0, 0, 2, 6, 14, 31, 0, 64, 0, 448, 960, 2047, 4095]
theorem spec_l01Hits.tab2 : rtab .any (opsOf Try.f30 2) = spec_l01Hits.T2 := by kernel_rfl
theorem spec_l01Hits.bits2 : waitsOk spec_l01Hits.T2.2 spec_l01Hits.B2 = true := by kernel_rfl
theorem spec_l01Hits.calls (k : Nat) (adp0 : Addr) (l0 : List (S28)) (a1 : Int) (r : Int) (w : World) (hr0 : Kd.C k28 w (some adp0) l0.length l0) (h : spec_l01Hits.f k l0 a1 = some r) :
    Calls Try.prog 30 #[.pointer (some adp0), .int .i64 a1] w fun e w' => e = .returned (.int .i64 r) ∧ Below w.heap.size w w' := by
 have HR0 := Aside0.mk hr0
 clear hr0
 have HB := Aside0.mk (Below.refl w.heap.size w)
 have H : (if 0 < (l0.length : Int) then ((spec_l01Table.f).bind fun bt240 => (if 0 ≤ ((rd_T28 l0 0).f1) then (if ((rd_T28 l0 0).f1) < 6 then (if 0 ≤ (Int.tmod (wrap64 ((wrap64 (a1 + 4)) - (wrap64 ((rd_T28 l0 0).f2)))) 4) then (if (Int.tmod (wrap64 ((wrap64 (a1 + 4)) - (wrap64 ((rd_T28 l0 0).f2)))) 4) < 4 then (if (rd [rd [bt240.1, bt240.2.2.2.2.1, bt240.2.2.2.2.2.2.2.2.1, bt240.2.2.2.2.2.2.2.2.2.2.2.2.1, bt240.2.2.2.2.2.2.2.2.2.2.2.2.2.2.2.2.1, bt240.2.2.2.2.2.2.2.2.2.2.2.2.2.2.2.2.2.2.2.2.1] ((rd_T28 l0 0).f1), rd [bt240.2.1, bt240.2.2.2.2.2.1, bt240.2.2.2.2.2.2.2.2.2.1, bt240.2.2.2.2.2.2.2.2.2.2.2.2.2.1, bt240.2.2.2.2.2.2.2.2.2.2.2.2.2.2.2.2.2.1, bt240.2.2.2.2.2.2.2.2.2.2.2.2.2.2.2.2.2.2.2.2.2.1] ((rd_T28 l0 0).f1), rd [bt240.2.2.1, bt240.2.2.2.2.2.2.1, bt240.2.2.2.2.2.2.2.2.2.2.1, bt240.2.2.2.2.2.2.2.2.2.2.2.2.2.2.1, bt240.2.2.2.2.2.2.2.2.2.2.2.2.2.2.2.2.2.2.1, bt240.2.2.2.2.2.2.2.2.2.2.2.2.2.2.2.2.2.2.2.2.2.2.1] ((rd_T28 l0 0).f1), rd [bt240.2.2.2.1, bt240.2.2.2.2.2.2.2.1, bt240.2.2.2.2.2.2.2.2.2.2.2.1, bt240.2.2.2.2.2.2.2.2.2.2.2.2.2.2.2.1, bt240.2.2.2.2.2.2.2.2.2.2.2.2.2.2.2.2.2.2.2.1, bt240.2.2.2.2.2.2.2.2.2.2.2.2.2.2.2.2.2.2.2.2.2.2.2] ((rd_T28 l0 0).f1)] (Int.tmod (wrap64 ((wrap64 (a1 + 4)) - (wrap64 ((rd_T28 l0 0).f2)))) 4)) < 0 then (some (-1)) else (spec_l01Hits.l0 k (wrap64 ((rd_T28 l0 0).f2)) (rd [rd [bt240.1, bt240.2.2.2.2.1, bt240.2.2.2.2.2.2.2.2.1, bt240.2.2.2.2.2.2.2.2.2.2.2.2.1, bt240.2.2.2.2.2.2.2.2.2.2.2.2.2.2.2.2.1, bt240.2.2.2.2.2.2.2.2.2.2.2.2.2.2.2.2.2.2.2.2.1] ((rd_T28 l0 0).f1), rd [bt240.2.1, bt240.2.2.2.2.2.1, bt240.2.2.2.2.2.2.2.2.2.1, bt240.2.2.2.2.2.2.2.2.2.2.2.2.2.1, bt240.2.2.2.2.2.2.2.2.2.2.2.2.2.2.2.2.2.1, bt240.2.2.2.2.2.2.2.2.2.2.2.2.2.2.2.2.2.2.2.2.2.1] ((rd_T28 l0 0).f1), rd [bt240.2.2.1, bt240.2.2.2.2.2.2.1, bt240.2.2.2.2.2.2.2.2.2.2.1, bt240.2.2.2.2.2.2.2.2.2.2.2.2.2.2.1, bt240.2.2.2.2.2.2.2.2.2.2.2.2.2.2.2.2.2.2.1, bt240.2.2.2.2.2.2.2.2.2.2.2.2.2.2.2.2.2.2.2.2.2.2.1] ((rd_T28 l0 0).f1), rd [bt240.2.2.2.1, bt240.2.2.2.2.2.2.2.1, bt240.2.2.2.2.2.2.2.2.2.2.2.1, bt240.2.2.2.2.2.2.2.2.2.2.2.2.2.2.2.1, bt240.2.2.2.2.2.2.2.2.2.2.2.2.2.2.2.2.2.2.2.1, bt240.2.2.2.2.2.2.2.2.2.2.2.2.2.2.2.2.2.2.2.2.2.2.2] ((rd_T28 l0 0).f1)] (Int.tmod (wrap64 ((wrap64 (a1 + 4)) - (wrap64 ((rd_T28 l0 0).f2)))) 4)) 0 0)) else (none)) else (none)) else (none)) else (none))) else (none)) = some r := h
 clear h
 by_cases c3 : 0 < (l0.length : Int)
 rotate_left
 ·rw [if_neg c3] at H
  exact absurd H (by simp)
 rw [if_pos c3] at H
 have c3b0 : decide (0 < (l0.length : Int)) = true := decide_eq_true c3
 have c3b1 : decide (0 < l0.length) = true := decide_eq_true (by omega)
 clear c3
 replace H := zob H
 obtain ⟨⟨t240, t241, t242, t243, t244, t245, t246, t247, t248, t249, t250, t251, t252, t253, t254, t255, t256, t257, t258, t259, t260, t261, t262, t263⟩, A40, H⟩ := H
 replace H : (if 0 ≤ ((rd_T28 l0 0).f1) then (if ((rd_T28 l0 0).f1) < 6 then (if 0 ≤ (Int.tmod (wrap64 ((wrap64 (a1 + 4)) - (wrap64 ((rd_T28 l0 0).f2)))) 4) then (if (Int.tmod (wrap64 ((wrap64 (a1 + 4)) - (wrap64 ((rd_T28 l0 0).f2)))) 4) < 4 then (if (rd [rd [t240, t244, t248, t252, t256, t260] ((rd_T28 l0 0).f1), rd [t241, t245, t249, t253, t257, t261] ((rd_T28 l0 0).f1), rd [t242, t246, t250, t254, t258, t262] ((rd_T28 l0 0).f1), rd [t243, t247, t251, t255, t259, t263] ((rd_T28 l0 0).f1)] (Int.tmod (wrap64 ((wrap64 (a1 + 4)) - (wrap64 ((rd_T28 l0 0).f2)))) 4)) < 0 then (some (-1)) else (spec_l01Hits.l0 k (wrap64 ((rd_T28 l0 0).f2)) (rd [rd [t240, t244, t248, t252, t256, t260] ((rd_T28 l0 0).f1), rd [t241, t245, t249, t253, t257, t261] ((rd_T28 l0 0).f1), rd [t242, t246, t250, t254, t258, t262] ((rd_T28 l0 0).f1), rd [t243, t247, t251, t255, t259, t263] ((rd_T28 l0 0).f1)] (Int.tmod (wrap64 ((wrap64 (a1 + 4)) - (wrap64 ((rd_T28 l0 0).f2)))) 4)) 0 0)) else (none)) else (none)) else (none)) else (none)) = some r := H
 have A4 := Aside0.mk A40
 clear A40
 by_cases c5 : 0 ≤ ((rd_T28 l0 0).f1)
 rotate_left
 ·rw [if_neg c5] at H
  exact absurd H (by simp)
 rw [if_pos c5] at H
 have c5b0 : decide (0 ≤ ((rd_T28 l0 0).f1)) = true := decide_eq_true c5
 clear c5
 by_cases c6 : ((rd_T28 l0 0).f1) < 6
 rotate_left
 ·rw [if_neg c6] at H
  exact absurd H (by simp)
 rw [if_pos c6] at H
 have c6b0 : decide (((rd_T28 l0 0).f1) < 6) = true := decide_eq_true c6
 clear c6
 have ar7l : 0 ≤ ((rd_T28 l0 0).f1) := of_decide_eq_true (by first | (with_reducible assumption) | assumption | exact decide_eq_true (by omega))
 have ar7h : ((rd_T28 l0 0).f1) < 6 := of_decide_eq_true (by first | (with_reducible assumption) | assumption | exact decide_eq_true (by omega))
 have ar7r : ∀ W_ : World, (Instr.index 70 (.agg #[.int .i64 t240, .int .i64 t241, .int .i64 t242, .int .i64 t243, .int .i64 t244, .int .i64 t245, .int .i64 t246, .int .i64 t247, .int .i64 t248, .int .i64 t249, .int .i64 t250, .int .i64 t251, .int .i64 t252, .int .i64 t253, .int .i64 t254, .int .i64 t255, .int .i64 t256, .int .i64 t257, .int .i64 t258, .int .i64 t259, .int .i64 t260, .int .i64 t261, .int .i64 t262, .int .i64 t263]) (.int .i8 ((rd_T28 l0 0).f1))).run Try.prog W_ = .ok (.agg #[.int .i64 (rd [t240, t244, t248, t252, t256, t260] ((rd_T28 l0 0).f1)), .int .i64 (rd [t241, t245, t249, t253, t257, t261] ((rd_T28 l0 0).f1)), .int .i64 (rd [t242, t246, t250, t254, t258, t262] ((rd_T28 l0 0).f1)), .int .i64 (rd [t243, t247, t251, t255, t259, t263] ((rd_T28 l0 0).f1))]) W_ := by
  intro W_
  have h_ : ((rd_T28 l0 0).f1) = 0 ∨ ((rd_T28 l0 0).f1) = 1 ∨ ((rd_T28 l0 0).f1) = 2 ∨ ((rd_T28 l0 0).f1) = 3 ∨ ((rd_T28 l0 0).f1) = 4 ∨ ((rd_T28 l0 0).f1) = 5 := by omega
  rcases h_ with h_ | h_ | h_ | h_ | h_ | h_ <;> (rw [h_]; first | rfl | kernel_rfl)
 clear ar7l ar7h
 obtain ⟨ji8, hji8⟩ : ∃ j_ : Int, (Int.tmod (wrap64 ((wrap64 (a1 + 4)) - (wrap64 ((rd_T28 l0 0).f2)))) 4) = j_ := ⟨_, rfl⟩
 replace H : (if 0 ≤ (ji8) then (if (ji8) < 4 then (if (rd [rd [t240, t244, t248, t252, t256, t260] ((rd_T28 l0 0).f1), rd [t241, t245, t249, t253, t257, t261] ((rd_T28 l0 0).f1), rd [t242, t246, t250, t254, t258, t262] ((rd_T28 l0 0).f1), rd [t243, t247, t251, t255, t259, t263] ((rd_T28 l0 0).f1)] (ji8)) < 0 then (some (-1)) else (spec_l01Hits.l0 k (wrap64 ((rd_T28 l0 0).f2)) (rd [rd [t240, t244, t248, t252, t256, t260] ((rd_T28 l0 0).f1), rd [t241, t245, t249, t253, t257, t261] ((rd_T28 l0 0).f1), rd [t242, t246, t250, t254, t258, t262] ((rd_T28 l0 0).f1), rd [t243, t247, t251, t255, t259, t263] ((rd_T28 l0 0).f1)] (ji8)) 0 0)) else (none)) else (none)) = some r := by first | (rw [hji8] at H; exact H) | (simp only [hji8] at H ⊢; exact H)
 (try rw [hji8] at A4)
 by_cases c9 : 0 ≤ (ji8)
 rotate_left
 ·rw [if_neg c9] at H
  exact absurd H (by simp)
 rw [if_pos c9] at H
 have c9b0 : decide (0 ≤ (ji8)) = true := decide_eq_true c9
 clear c9
 by_cases c10 : (ji8) < 4
 rotate_left
 ·rw [if_neg c10] at H
  exact absurd H (by simp)
 rw [if_pos c10] at H
 have c10b0 : decide ((ji8) < 4) = true := decide_eq_true c10
 clear c10
 have ar11l : 0 ≤ ji8 := of_decide_eq_true (by first | (with_reducible assumption) | assumption | exact decide_eq_true (by omega))
 have ar11h : ji8 < 4 := of_decide_eq_true (by first | (with_reducible assumption) | assumption | exact decide_eq_true (by omega))
 have ar11r : ∀ W_ : World, (Instr.index 69 (.agg #[.int .i64 (rd [t240, t244, t248, t252, t256, t260] ((rd_T28 l0 0).f1)), .int .i64 (rd [t241, t245, t249, t253, t257, t261] ((rd_T28 l0 0).f1)), .int .i64 (rd [t242, t246, t250, t254, t258, t262] ((rd_T28 l0 0).f1)), .int .i64 (rd [t243, t247, t251, t255, t259, t263] ((rd_T28 l0 0).f1))]) (.int .i64 ji8)).run Try.prog W_ = .ok (.int .i64 (rd [rd [t240, t244, t248, t252, t256, t260] ((rd_T28 l0 0).f1), rd [t241, t245, t249, t253, t257, t261] ((rd_T28 l0 0).f1), rd [t242, t246, t250, t254, t258, t262] ((rd_T28 l0 0).f1), rd [t243, t247, t251, t255, t259, t263] ((rd_T28 l0 0).f1)] (ji8))) W_ := by
  intro W_
  have h_ : ji8 = 0 ∨ ji8 = 1 ∨ ji8 = 2 ∨ ji8 = 3 := by omega
  rcases h_ with h_ | h_ | h_ | h_ <;> (rw [h_]; first | rfl | kernel_rfl)
 clear ar11l ar11h
 by_cases c12 : (rd [rd [t240, t244, t248, t252, t256, t260] ((rd_T28 l0 0).f1), rd [t241, t245, t249, t253, t257, t261] ((rd_T28 l0 0).f1), rd [t242, t246, t250, t254, t258, t262] ((rd_T28 l0 0).f1), rd [t243, t247, t251, t255, t259, t263] ((rd_T28 l0 0).f1)] (ji8)) < 0
 ·rw [if_pos c12] at H
  have c12b0 : decide ((rd [rd [t240, t244, t248, t252, t256, t260] ((rd_T28 l0 0).f1), rd [t241, t245, t249, t253, t257, t261] ((rd_T28 l0 0).f1), rd [t242, t246, t250, t254, t258, t262] ((rd_T28 l0 0).f1), rd [t243, t247, t251, t255, t259, t263] ((rd_T28 l0 0).f1)] (ji8)) < 0) = true := decide_eq_true c12
  clear c12
  obtain rfl := Option.some.inj H
  have p239 : 0 ≤ (0 : Int) := (by omega)
  have q239 : 0 < (l0.length : Int) := of_decide_eq_true zA
  obtain ⟨ad239, e239, hx239_0, hx239_1, hx239_2, hx239_3, hx239_4⟩ := at_T28 HR0.out 0 p239 q239
  obtain rfl : adp0 = ad239 := (by injection e239)
  have qi239 : (0 < l0.length) = True := eq_true (by omega)
  try simp only [z00, Nat.zero_mul, Addr.add_zero'] at hx239_0 hx239_1 hx239_2 hx239_3 hx239_4
  replace p239 := eq_true p239
  replace q239 := eq_true q239
  go_enter Try.func30, Try.ntmps30
  try go_wp2
  have n0_ := Aside0.mk (below_drew1 HB.out)
  clear HB
  have HB := n0_
  clear n0_
  have p264 : 0 ≤ (0 : Int) := (by omega)
  have q264 : 0 < (l0.length : Int) := of_decide_eq_true zA
  obtain ⟨ad264, e264, hx264_0, hx264_1, hx264_2, hx264_3, hx264_4⟩ := at_T28 HR0.out 0 p264 q264
  have hw264_4 := hx264_4
  try simp only [z00, Nat.zero_mul, Addr.add_zero'] at hw264_4
  have hw264_3 := hx264_3
  try simp only [z00, Nat.zero_mul, Addr.add_zero'] at hw264_3
  have hw264_2 := hx264_2
  try simp only [z00, Nat.zero_mul, Addr.add_zero'] at hw264_2
  have hw264_1 := hx264_1
  try simp only [z00, Nat.zero_mul, Addr.add_zero'] at hw264_1
  have hw264_0 := hx264_0
  try simp only [z00, Nat.zero_mul, Addr.add_zero'] at hw264_0
  obtain rfl : adp0 = ad264 := (by injection e264)
  have qi264 : (0 < l0.length) = True := eq_true (by omega)
  try simp only [z00, Nat.zero_mul, Addr.add_zero'] at hx264_0 hx264_1 hx264_2 hx264_3 hx264_4
  replace hx264_0 := zc HB hx264_0
  replace hx264_1 := zc HB hx264_1
  replace hx264_2 := zc HB hx264_2
  replace hx264_3 := zc HB hx264_3
  replace hx264_4 := zc HB hx264_4
  replace p264 := eq_true p264
  replace q264 := eq_true q264
  refine start_ (n := 13) (S := fun w' => w'.cell? adp0 = some (.int .i8 ((rd_T28 l0 0).f0.f0)) ∧ w'.cell? ⟨adp0.block, adp0.off + 1, none⟩ = some (.int .i8 ((rd_T28 l0 0).f0.f1)) ∧ w'.cell? ⟨adp0.block, adp0.off + 2, none⟩ = some (.int .i8 ((rd_T28 l0 0).f1)) ∧ w'.cell? ⟨adp0.block, adp0.off + 3, none⟩ = some (.int .i8 ((rd_T28 l0 0).f2)) ∧ w'.cell? ⟨adp0.block, adp0.off + 4, none⟩ = some (.int .i8 ((rd_T28 l0 0).f3))) (ds := []) (zq 13 0) (by kernel_rfl) rfl rfl ⟨(zc HB hw264_0), (zc HB hw264_1), (zc HB hw264_2), (zc HB hw264_3), (zc HB hw264_4)⟩ (fun hHeld => ?_); refine with_tabW spec_l01Hits.tab2 spec_l01Hits.bits2 (fun HT_ HW_ => ?_)
  generalize w.drew = w13 at HB hx264_0 hx264_1 hx264_2 hx264_3 hx264_4 hHeld ⊢
  refine zpu 1 (some 15) (zq 13 2) HT_ ?_
  refine zpu 2 (some 16) (zq 13 6) HT_ ?_
  refine zpu 3 (some 17) (zq 13 14) HT_ ?_
  refine zpu 6 (some 20) (zq 13 78) HT_ ?_
  refine zpu 7 (some 21) (zq 13 206) HT_ ?_
  refine zpu 8 (some 22) (zq 13 462) HT_ ?_
  refine zpu 9 (some 23) (zq 13 974) HT_ ?_
  refine zpu 10 (some 24) (zq 13 1998) HT_ ?_
  refine ztk 4 (some 18) (zq 13 2014) HT_ HW_ rfl hHeld (Or.inl ⟨by rfl, by (rintro w' ⟨s0, s1, s2, s3, s4⟩; go_simp; with_reducible rfl)⟩) ?_
  refine one_ (i := 0) (N := some 14) (zq 13 2015) rfl rfl (one_of HT_.out (by kernel_rfl)) (by decide) (fun K hK => ?_)
  refine goes_ Try.func40 (by kernel_rfl) rfl #[] (by rfl) rfl rfl zm ?_
  with_reducible refine (spec_l01Table.calls  t240 t241 t242 t243 t244 t245 t246 t247 t248 t249 t250 t251 t252 t253 t254 t255 t256 t257 t258 t259 t260 t261 t262 t263 _ A4.out).mono ?_
  rintro e w14 ⟨rfl, hb⟩
  refine ⟨_, rfl, ?_⟩
  have n0_ := zb HB hb
  clear HB
  have HB := n0_
  clear n0_
  (try clear hb)
  (try clear hb2)
  (try clear hk)
  (try clear hi)
  refine hK.out _ _ ⟨(zc HB hw264_0), (zc HB hw264_1), (zc HB hw264_2), (zc HB hw264_3), (zc HB hw264_4)⟩ (fun hHeld => ?_)
  clear hK K
  refine norm_ (a' := ?_) ?_ ?_
  rotate_left
  ·show Act.put _ (some 14) _ = _
   exact zap
  refine ztk 5 (some 19) (zq 13 2047) HT_ HW_ rfl hHeld (Or.inl ⟨by rfl, by (rintro w' ⟨s0, s1, s2, s3, s4⟩; go_simp; with_reducible rfl)⟩) ?_
  refine ztk 11 (some 25) (zq 13 4095) HT_ HW_ rfl hHeld (Or.inl ⟨by rfl, by (rintro w' ⟨s0, s1, s2, s3, s4⟩; go_simp; with_reducible rfl)⟩) ?_
  refine zpu 12 (some 6) (zq 13 8191) HT_ ?_
  refine done_ (done_of HT_.out (by kernel_rfl)) ?_
  try go_wp2
  go_ret
  exact ⟨by first | rfl | (simp [errW_none, errW_some] <;> rfl) | (simp only [← hji8]; first | rfl | (simp [errW_none, errW_some] <;> rfl)) | (simp [*, errW_none, errW_some] <;> rfl), zbo⟩
 rw [if_neg c12] at H
 have c12b0 : decide ((rd [rd [t240, t244, t248, t252, t256, t260] ((rd_T28 l0 0).f1), rd [t241, t245, t249, t253, t257, t261] ((rd_T28 l0 0).f1), rd [t242, t246, t250, t254, t258, t262] ((rd_T28 l0 0).f1), rd [t243, t247, t251, t255, t259, t263] ((rd_T28 l0 0).f1)] (ji8)) < 0) = false := decide_eq_false c12
 clear c12
 have H' := Aside0.mk H
 clear H
 have p239 : 0 ≤ (0 : Int) := (by omega)
 have q239 : 0 < (l0.length : Int) := of_decide_eq_true zA
 obtain ⟨ad239, e239, hx239_0, hx239_1, hx239_2, hx239_3, hx239_4⟩ := at_T28 HR0.out 0 p239 q239
 obtain rfl : adp0 = ad239 := (by injection e239)
 have qi239 : (0 < l0.length) = True := eq_true (by omega)
 try simp only [z00, Nat.zero_mul, Addr.add_zero'] at hx239_0 hx239_1 hx239_2 hx239_3 hx239_4
 replace p239 := eq_true p239
 replace q239 := eq_true q239
 go_enter Try.func30, Try.ntmps30
 try go_wp2
 have n0_ := Aside0.mk (below_drew1 HB.out)
 clear HB
 have HB := n0_
 clear n0_
 have p264 : 0 ≤ (0 : Int) := (by omega)
 have q264 : 0 < (l0.length : Int) := of_decide_eq_true zA
 obtain ⟨ad264, e264, hx264_0, hx264_1, hx264_2, hx264_3, hx264_4⟩ := at_T28 HR0.out 0 p264 q264
 have hw264_4 := hx264_4
 try simp only [z00, Nat.zero_mul, Addr.add_zero'] at hw264_4
 have hw264_3 := hx264_3
 try simp only [z00, Nat.zero_mul, Addr.add_zero'] at hw264_3
 have hw264_2 := hx264_2
 try simp only [z00, Nat.zero_mul, Addr.add_zero'] at hw264_2
 have hw264_1 := hx264_1
 try simp only [z00, Nat.zero_mul, Addr.add_zero'] at hw264_1
 have hw264_0 := hx264_0
 try simp only [z00, Nat.zero_mul, Addr.add_zero'] at hw264_0
 obtain rfl : adp0 = ad264 := (by injection e264)
 have qi264 : (0 < l0.length) = True := eq_true (by omega)
 try simp only [z00, Nat.zero_mul, Addr.add_zero'] at hx264_0 hx264_1 hx264_2 hx264_3 hx264_4
 replace hx264_0 := zc HB hx264_0
 replace hx264_1 := zc HB hx264_1
 replace hx264_2 := zc HB hx264_2
 replace hx264_3 := zc HB hx264_3
 replace hx264_4 := zc HB hx264_4
 replace p264 := eq_true p264
 replace q264 := eq_true q264
 refine start_ (n := 13) (S := fun w' => w'.cell? adp0 = some (.int .i8 ((rd_T28 l0 0).f0.f0)) ∧ w'.cell? ⟨adp0.block, adp0.off + 1, none⟩ = some (.int .i8 ((rd_T28 l0 0).f0.f1)) ∧ w'.cell? ⟨adp0.block, adp0.off + 2, none⟩ = some (.int .i8 ((rd_T28 l0 0).f1)) ∧ w'.cell? ⟨adp0.block, adp0.off + 3, none⟩ = some (.int .i8 ((rd_T28 l0 0).f2)) ∧ w'.cell? ⟨adp0.block, adp0.off + 4, none⟩ = some (.int .i8 ((rd_T28 l0 0).f3))) (ds := []) (zq 13 0) (by kernel_rfl) rfl rfl ⟨(zc HB hw264_0), (zc HB hw264_1), (zc HB hw264_2), (zc HB hw264_3), (zc HB hw264_4)⟩ (fun hHeld => ?_); refine with_tabW spec_l01Hits.tab2 spec_l01Hits.bits2 (fun HT_ HW_ => ?_)
 generalize w.drew = w15 at HB hx264_0 hx264_1 hx264_2 hx264_3 hx264_4 hHeld ⊢
 refine zpu 1 (some 15) (zq 13 2) HT_ ?_
 refine zpu 2 (some 16) (zq 13 6) HT_ ?_
 refine zpu 3 (some 17) (zq 13 14) HT_ ?_
 refine zpu 6 (some 20) (zq 13 78) HT_ ?_
 refine zpu 7 (some 21) (zq 13 206) HT_ ?_
 refine zpu 8 (some 22) (zq 13 462) HT_ ?_
 refine zpu 9 (some 23) (zq 13 974) HT_ ?_
 refine zpu 10 (some 24) (zq 13 1998) HT_ ?_
 refine ztk 4 (some 18) (zq 13 2014) HT_ HW_ rfl hHeld (Or.inl ⟨by rfl, by (rintro w' ⟨s0, s1, s2, s3, s4⟩; go_simp; with_reducible rfl)⟩) ?_
 refine one_ (i := 0) (N := some 14) (zq 13 2015) rfl rfl (one_of HT_.out (by kernel_rfl)) (by decide) (fun K hK => ?_)
 refine goes_ Try.func40 (by kernel_rfl) rfl #[] (by rfl) rfl rfl zm ?_
 with_reducible refine (spec_l01Table.calls  t240 t241 t242 t243 t244 t245 t246 t247 t248 t249 t250 t251 t252 t253 t254 t255 t256 t257 t258 t259 t260 t261 t262 t263 _ A4.out).mono ?_
 rintro e w16 ⟨rfl, hb⟩
 refine ⟨_, rfl, ?_⟩
 have n0_ := zb HB hb
 clear HB
 have HB := n0_
 clear n0_
 (try clear hb)
 (try clear hb2)
 (try clear hk)
 (try clear hi)
 refine hK.out _ _ ⟨(zc HB hw264_0), (zc HB hw264_1), (zc HB hw264_2), (zc HB hw264_3), (zc HB hw264_4)⟩ (fun hHeld => ?_)
 clear hK K
 refine norm_ (a' := ?_) ?_ ?_
 rotate_left
 ·show Act.put _ (some 14) _ = _
  exact zap
 refine ztk 5 (some 19) (zq 13 2047) HT_ HW_ rfl hHeld (Or.inl ⟨by rfl, by (rintro w' ⟨s0, s1, s2, s3, s4⟩; go_simp; with_reducible rfl)⟩) ?_
 refine ztk 11 (some 25) (zq 13 4095) HT_ HW_ rfl hHeld (Or.inl ⟨by rfl, by (rintro w' ⟨s0, s1, s2, s3, s4⟩; go_simp; with_reducible rfl)⟩) ?_
 refine zpu 12 (some 6) (zq 13 8191) HT_ ?_
 refine done_ (done_of HT_.out (by kernel_rfl)) ?_
 try go_wp2
 go_loopg [7, 8] k (fun kq v7 v8 w' => ∃ (x7_1 : Int) (x8_1 : Int), v7 = .int .i64 x7_1 ∧ v8 = .int .i64 x8_1 ∧ Aside0 (spec_l01Hits.l0 kq (wrap64 ((rd_T28 l0 0).f2)) (rd [rd [t240, t244, t248, t252, t256, t260] ((rd_T28 l0 0).f1), rd [t241, t245, t249, t253, t257, t261] ((rd_T28 l0 0).f1), rd [t242, t246, t250, t254, t258, t262] ((rd_T28 l0 0).f1), rd [t243, t247, t251, t255, t259, t263] ((rd_T28 l0 0).f1)] (ji8)) x7_1 x8_1 = some r) ∧ Aside0 (kq ≤ k) ∧ Aside0 (Below w.heap.size w w'))
 case atStart => exact ⟨(0), (0), zi, zi, H', ⟨Nat.le_refl _⟩, zl HB⟩
 clear H'
 try clear c1
 try clear p2
 try clear q2
 try clear hx2
 try clear qi2
 try clear c3
 try clear c3b0
 try clear c3b1
 try clear c4
 try clear c5
 try clear c5b0
 try clear c6
 try clear c6b0
 try clear p6
 try clear c9
 try clear c9b0
 try clear c10
 try clear c10b0
 try clear c12
 try clear c12b0
 try clear hx239_0
 try clear hx239_1
 try clear hx239_2
 try clear hx239_3
 try clear hx239_4
 try clear hx264_0
 try clear hx264_1
 try clear hx264_2
 try clear hx264_3
 try clear hx264_4
 try clear p239
 try clear p264
 try clear q239
 try clear q264
 obtain ⟨x7_1, x8_1, rfl, rfl, HA, HK1, HB⟩ := hrel
 cases gk with
 | zero => exact absurd HA.out (by simp [spec_l01Hits.l0])
 | succ k1 => ?_
 have H := HA.out
 clear HA
 simp only [spec_l01Hits.l0] at H
 by_cases c17 : x8_1 < 4
 rotate_left
 ·rw [if_neg c17] at H
  have c17b0 : decide (x8_1 < 4) = false := decide_eq_false c17
  clear c17
  obtain rfl := Option.some.inj H
  go_wp2
  go_ret
  exact ⟨by first | rfl | (simp [errW_none, errW_some] <;> rfl) | (simp only [← hji8]; first | rfl | (simp [errW_none, errW_some] <;> rfl)) | (simp [*, errW_none, errW_some] <;> rfl), zbo⟩
 rw [if_pos c17] at H
 have c17b0 : decide (x8_1 < 4) = true := decide_eq_true c17
 clear c17
 obtain ⟨ji18, hji18⟩ : ∃ j_ : Int, (IntKind.u64.wrap (x8_1)) = j_ := ⟨_, rfl⟩
 replace H : (if 0 ≤ (ji18) then (if (Int.tmod (shr .i64 (rd [rd [t240, t244, t248, t252, t256, t260] ((rd_T28 l0 0).f1), rd [t241, t245, t249, t253, t257, t261] ((rd_T28 l0 0).f1), rd [t242, t246, t250, t254, t258, t262] ((rd_T28 l0 0).f1), rd [t243, t247, t251, t255, t259, t263] ((rd_T28 l0 0).f1)] (ji8)) (ji18)) 2) = 1 then (if 0 ≤ (IntKind.u64.wrap (Int.tmod (wrap64 (x8_1 + (wrap64 ((rd_T28 l0 0).f2)))) 4)) then (spec_l01Hits.l0 k1 (wrap64 ((rd_T28 l0 0).f2)) (rd [rd [t240, t244, t248, t252, t256, t260] ((rd_T28 l0 0).f1), rd [t241, t245, t249, t253, t257, t261] ((rd_T28 l0 0).f1), rd [t242, t246, t250, t254, t258, t262] ((rd_T28 l0 0).f1), rd [t243, t247, t251, t255, t259, t263] ((rd_T28 l0 0).f1)] (ji8)) (wrap64 (x7_1 + (shl .i64 1 (IntKind.u64.wrap (Int.tmod (wrap64 (x8_1 + (wrap64 ((rd_T28 l0 0).f2)))) 4))))) (wrap64 (x8_1 + 1))) else (none)) else (spec_l01Hits.l0 k1 (wrap64 ((rd_T28 l0 0).f2)) (rd [rd [t240, t244, t248, t252, t256, t260] ((rd_T28 l0 0).f1), rd [t241, t245, t249, t253, t257, t261] ((rd_T28 l0 0).f1), rd [t242, t246, t250, t254, t258, t262] ((rd_T28 l0 0).f1), rd [t243, t247, t251, t255, t259, t263] ((rd_T28 l0 0).f1)] (ji8)) x7_1 (wrap64 (x8_1 + 1)))) else (none)) = some r := by first | (rw [hji18] at H; exact H) | (simp only [hji18] at H ⊢; exact H)
 by_cases c19 : 0 ≤ (ji18)
 rotate_left
 ·rw [if_neg c19] at H
  exact absurd H (by simp)
 rw [if_pos c19] at H
 have c19b0 := eq_true c19
 have c19b1 : decide (0 ≤ (ji18)) = true := decide_eq_true c19
 clear c19
 obtain ⟨ji20, hji20⟩ : ∃ j_ : Int, (shr .i64 (rd [rd [t240, t244, t248, t252, t256, t260] ((rd_T28 l0 0).f1), rd [t241, t245, t249, t253, t257, t261] ((rd_T28 l0 0).f1), rd [t242, t246, t250, t254, t258, t262] ((rd_T28 l0 0).f1), rd [t243, t247, t251, t255, t259, t263] ((rd_T28 l0 0).f1)] (ji8)) (ji18)) = j_ := ⟨_, rfl⟩
 replace H : (if (Int.tmod (ji20) 2) = 1 then (if 0 ≤ (IntKind.u64.wrap (Int.tmod (wrap64 (x8_1 + (wrap64 ((rd_T28 l0 0).f2)))) 4)) then (spec_l01Hits.l0 k1 (wrap64 ((rd_T28 l0 0).f2)) (rd [rd [t240, t244, t248, t252, t256, t260] ((rd_T28 l0 0).f1), rd [t241, t245, t249, t253, t257, t261] ((rd_T28 l0 0).f1), rd [t242, t246, t250, t254, t258, t262] ((rd_T28 l0 0).f1), rd [t243, t247, t251, t255, t259, t263] ((rd_T28 l0 0).f1)] (ji8)) (wrap64 (x7_1 + (shl .i64 1 (IntKind.u64.wrap (Int.tmod (wrap64 (x8_1 + (wrap64 ((rd_T28 l0 0).f2)))) 4))))) (wrap64 (x8_1 + 1))) else (none)) else (spec_l01Hits.l0 k1 (wrap64 ((rd_T28 l0 0).f2)) (rd [rd [t240, t244, t248, t252, t256, t260] ((rd_T28 l0 0).f1), rd [t241, t245, t249, t253, t257, t261] ((rd_T28 l0 0).f1), rd [t242, t246, t250, t254, t258, t262] ((rd_T28 l0 0).f1), rd [t243, t247, t251, t255, t259, t263] ((rd_T28 l0 0).f1)] (ji8)) x7_1 (wrap64 (x8_1 + 1)))) = some r := by first | (rw [hji20] at H; exact H) | (simp only [hji20] at H ⊢; exact H)
 have hji20_ : ((rd [rd [t240, t244, t248, t252, t256, t260] ((rd_T28 l0 0).f1), rd [t241, t245, t249, t253, t257, t261] ((rd_T28 l0 0).f1), rd [t242, t246, t250, t254, t258, t262] ((rd_T28 l0 0).f1), rd [t243, t247, t251, t255, t259, t263] ((rd_T28 l0 0).f1)] (ji8)) / 2 ^ min (ji18).toNat 64) = ji20 := hji20
 have hji20z : (ji18) ≤ 64 → ((rd [rd [t240, t244, t248, t252, t256, t260] ((rd_T28 l0 0).f1), rd [t241, t245, t249, t253, t257, t261] ((rd_T28 l0 0).f1), rd [t242, t246, t250, t254, t258, t262] ((rd_T28 l0 0).f1), rd [t243, t247, t251, t255, t259, t263] ((rd_T28 l0 0).f1)] (ji8)) / 2 ^ (ji18).toNat) = ji20 := shr_small hji20
 by_cases c21 : (Int.tmod (ji20) 2) = 1
 rotate_left
 ·rw [if_neg c21] at H
  have c21b0 : ((Int.tmod (ji20) 2) == 1) = false := beq_eq_false_iff_ne.mpr c21
  have c21b1 : ((Int.tmod (ji20) 2) != 1) = true := bne_iff_ne.mpr c21
  have H' := Aside0.mk H
  clear H
  go_wp2
  go_roundg k1
  case measure => have := HK1.out; omega
  case rel => exact ⟨(x7_1), (wrap64 (x8_1 + 1)), zi, zi, H', ⟨by have := HK1.out; omega⟩, zl HB⟩
 rw [if_pos c21] at H
 have c21b0 : ((Int.tmod (ji20) 2) == 1) = true := beq_iff_eq.mpr c21
 have c21b1 : ((Int.tmod (ji20) 2) != 1) = false := bne_eq_false_iff_eq.mpr c21
 clear c21
 obtain ⟨ji22, hji22⟩ : ∃ j_ : Int, (IntKind.u64.wrap (Int.tmod (wrap64 (x8_1 + (wrap64 ((rd_T28 l0 0).f2)))) 4)) = j_ := ⟨_, rfl⟩
 replace H : (if 0 ≤ (ji22) then (spec_l01Hits.l0 k1 (wrap64 ((rd_T28 l0 0).f2)) (rd [rd [t240, t244, t248, t252, t256, t260] ((rd_T28 l0 0).f1), rd [t241, t245, t249, t253, t257, t261] ((rd_T28 l0 0).f1), rd [t242, t246, t250, t254, t258, t262] ((rd_T28 l0 0).f1), rd [t243, t247, t251, t255, t259, t263] ((rd_T28 l0 0).f1)] (ji8)) (wrap64 (x7_1 + (shl .i64 1 (ji22)))) (wrap64 (x8_1 + 1))) else (none)) = some r := by first | (rw [hji22] at H; exact H) | (simp only [hji22] at H ⊢; exact H)
 by_cases c23 : 0 ≤ (ji22)
 rotate_left
 ·rw [if_neg c23] at H
  exact absurd H (by simp)
 rw [if_pos c23] at H
 have c23b0 := eq_true c23
 have c23b1 : decide (0 ≤ (ji22)) = true := decide_eq_true c23
 clear c23
 obtain ⟨ji24, hji24⟩ : ∃ j_ : Int, (shl .i64 1 (ji22)) = j_ := ⟨_, rfl⟩
 replace H : (spec_l01Hits.l0 k1 (wrap64 ((rd_T28 l0 0).f2)) (rd [rd [t240, t244, t248, t252, t256, t260] ((rd_T28 l0 0).f1), rd [t241, t245, t249, t253, t257, t261] ((rd_T28 l0 0).f1), rd [t242, t246, t250, t254, t258, t262] ((rd_T28 l0 0).f1), rd [t243, t247, t251, t255, t259, t263] ((rd_T28 l0 0).f1)] (ji8)) (wrap64 (x7_1 + (ji24))) (wrap64 (x8_1 + 1))) = some r := by first | (rw [hji24] at H; exact H) | (simp only [hji24] at H ⊢; exact H)
 have hji24_ : (IntKind.i64.wrap (1 * 2 ^ min (ji22).toNat 64)) = ji24 := hji24
 have hji24z : (ji22) ≤ 64 → (IntKind.i64.wrap (1 * 2 ^ (ji22).toNat)) = ji24 := shl_small hji24
 have hji24u : (IntKind.i64.wrap (2 ^ min (ji22).toNat 64)) = ji24 := by have h_ := hji24_; rw [Int.one_mul] at h_; exact h_
 have hji24v : (ji22) ≤ 64 → (IntKind.i64.wrap (2 ^ (ji22).toNat)) = ji24 := fun hle_ => by have h_ := hji24z hle_; rw [Int.one_mul] at h_; exact h_
 have hji24y : (wrap64 (1 * 2 ^ min (ji22).toNat 64)) = ji24 := (i64_w _).symm.trans hji24_
 have hji24x : (ji22) ≤ 64 → (wrap64 (1 * 2 ^ (ji22).toNat)) = ji24 := fun h_ => (i64_w _).symm.trans (hji24z h_)
 have H' := Aside0.mk H
 clear H
 go_wp2
 go_roundg k1
 case measure => have := HK1.out; omega
 case rel => exact ⟨(wrap64 (x7_1 + (ji24))), (wrap64 (x8_1 + 1)), (by first | rfl | (simp; done) | (simp only [← hji24] <;> (first | rfl | simp)) | (simp [*]; done) | (exact congrArg (Value.int .i64) (wrap_eq (by omega)))), zi, H', ⟨by have := HK1.out; omega⟩, zl HB⟩
def spec_FallsFrom.f (k : Nat) (a0_0 : Int) (a0_1 : Int) (a0_2 : Int) (a0_3 : Int) (a0_4 : Int) (a1 : Int) : Option (Bool × Int) := (spec_l01Asked.f [(⟨(⟨a0_0, a0_1⟩ : S26), a0_2, a0_3, a0_4⟩ : S28)] a1).bind fun t266 => (if t266 = 0 then ((spec_l01Hits.f k [(⟨(⟨a0_0, a0_1⟩ : S26), a0_2, a0_3, a0_4⟩ : S28)] a1).bind fun t267 => (some (decide (t267 ≥ 0), 0))) else (some (false, t266)))
theorem spec_FallsFrom.mono : ∀ a0 a1 a2 a3 a4 a5 k, LeO (spec_FallsFrom.f k a0 a1 a2 a3 a4 a5) (spec_FallsFrom.f (k + 1) a0 a1 a2 a3 a4 a5) := by
 intro a0 a1 a2 a3 a4 a5 k
 unfold spec_FallsFrom.f
 repeat' first | (with_reducible first | apply spec_l01Hits.mono | exact LeO.refl _ | exact LeO.none _ | refine LeO.ite ?_ ?_ | refine LeO.bind ?_ (fun _ => ?_)) | apply spec_l01Hits.mono | exact LeO.none _ | refine LeO.ite ?_ ?_ | refine LeO.bind ?_ (fun _ => ?_)
theorem spec_FallsFrom.calls (k : Nat) (a0_0 : Int) (a0_1 : Int) (a0_2 : Int) (a0_3 : Int) (a0_4 : Int) (a1 : Int) (r1 : Bool) (r2 : Int) (w : World) (h : spec_FallsFrom.f k a0_0 a0_1 a0_2 a0_3 a0_4 a1 = some (r1, r2)) :
    Calls Try.prog 11 #[.agg #[.int .i8 a0_0, .int .i8 a0_1, .int .i8 a0_2, .int .i8 a0_3, .int .i8 a0_4], .int .i64 a1] w fun e w' => e = .returned (.tuple #[.bool r1, .int .i64 r2]) ∧ Below w.heap.size w w' := by
 have hu28 := Try.underlying28
 have HB := Aside0.mk (Below.refl w.heap.size w)
 have H : ((spec_l01Asked.f [(⟨(⟨a0_0, a0_1⟩ : S26), a0_2, a0_3, a0_4⟩ : S28)] a1).bind fun t266 => (if t266 = 0 then ((spec_l01Hits.f k [(⟨(⟨a0_0, a0_1⟩ : S26), a0_2, a0_3, a0_4⟩ : S28)] a1).bind fun t267 => (some (decide (t267 ≥ 0), 0))) else (some (false, t266)))) = some (r1, r2) := h
 clear h
 replace H := zob H
 obtain ⟨t266, A30, H⟩ := H
 replace H : (if t266 = 0 then ((spec_l01Hits.f k [(⟨(⟨a0_0, a0_1⟩ : S26), a0_2, a0_3, a0_4⟩ : S28)] a1).bind fun t267 => (some (decide (t267 ≥ 0), 0))) else (some (false, t266))) = some (r1, r2) := H
 have A3 := Aside0.mk A30
 clear A30
 by_cases c4 : t266 = 0
 rotate_left
 ·rw [if_neg c4] at H
  have c4b0 : (t266 == 0) = false := beq_eq_false_iff_ne.mpr c4
  have c4b1 : (t266 != 0) = true := bne_iff_ne.mpr c4
  simp only [Option.some.injEq, Prod.mk.injEq] at H
  obtain ⟨rfl, rfl⟩ := H
  go_enter Try.func11, Try.ntmps11
  go_wp2_with (first | ((with_reducible refine gate_dst (N := 2) rfl ?_); refine zbx 2 #[.int .i8 a0_0, .int .i8 a0_1, .int .i8 a0_2, .int .i8 a0_3, .int .i8 a0_4] 28 ?_; intro gb265 hg w9 hbox hb; have n_ : _ ∧ _ ∧ _ ∧ _ := ⟨zb HB hb, Aside0.mk (hbox), zg HB hg, zg HB hg⟩; clear HB; obtain ⟨HB, BK265, GW265, GE265⟩ := n_; clear hb hbox hg) | ((with_reducible refine gate_callee (f := 29) rfl ?_); refine goesL_ (some 8) rfl rfl Try.func29 (by kernel_rfl) rfl #[.pointer (some ⟨gb265, 0, none⟩), .int .i64 a1] rfl zm ?_; (with_reducible refine (spec_l01Asked.calls _ [(⟨(⟨a0_0, a0_1⟩ : S26), a0_2, a0_3, a0_4⟩ : S28)] a1 t266 _ ?side1 A3.out).mono ?_); (case side1 => refine ro_of_blk (T := 28) (cs := #[.int .i8 a0_0, .int .i8 a0_1, .int .i8 a0_2, .int .i8 a0_3, .int .i8 a0_4]) (zh BK265).out ?_; exact k28_mk _ (⟨(⟨a0_0, a0_1⟩ : S26), a0_2, a0_3, a0_4⟩ : S28) ); rintro e w10 ⟨rfl, hb⟩; refine ⟨_, rfl, ?_⟩; have n_ : _ ∧ _ := ⟨zk BK265 hb, zbs hb⟩; clear BK265 HB; obtain ⟨BK265, HB⟩ := n_; (try clear hb); (try clear hb2); (try clear hk); (try clear hi)))
  go_ret2
  exact ⟨zv, zbo⟩
 rw [if_pos c4] at H
 have c4b0 : (t266 == 0) = true := beq_iff_eq.mpr c4
 have c4b1 : (t266 != 0) = false := bne_eq_false_iff_eq.mpr c4
 clear c4
 replace H := zob H
 obtain ⟨t267, A50, H⟩ := H
 replace H : (some (decide (t267 ≥ 0), 0)) = some (r1, r2) := H
 have A5 := Aside0.mk A50
 clear A50
 simp only [Option.some.injEq, Prod.mk.injEq] at H
 obtain ⟨rfl, rfl⟩ := H
 go_enter Try.func11, Try.ntmps11
 go_wp2_with (first | ((with_reducible refine gate_dst (N := 2) rfl ?_); refine zbx 2 #[.int .i8 a0_0, .int .i8 a0_1, .int .i8 a0_2, .int .i8 a0_3, .int .i8 a0_4] 28 ?_; intro gb265 hg w6 hbox hb; have n_ : _ ∧ _ ∧ _ ∧ _ := ⟨zb HB hb, Aside0.mk (hbox), zg HB hg, zg HB hg⟩; clear HB; obtain ⟨HB, BK265, GW265, GE265⟩ := n_; clear hb hbox hg) | ((with_reducible refine gate_callee (f := 29) rfl ?_); refine goesL_ (some 8) rfl rfl Try.func29 (by kernel_rfl) rfl #[.pointer (some ⟨gb265, 0, none⟩), .int .i64 a1] rfl zm ?_; (with_reducible refine (spec_l01Asked.calls _ [(⟨(⟨a0_0, a0_1⟩ : S26), a0_2, a0_3, a0_4⟩ : S28)] a1 t266 _ ?side1 A3.out).mono ?_); (case side1 => refine ro_of_blk (T := 28) (cs := #[.int .i8 a0_0, .int .i8 a0_1, .int .i8 a0_2, .int .i8 a0_3, .int .i8 a0_4]) (zh BK265).out ?_; exact k28_mk _ (⟨(⟨a0_0, a0_1⟩ : S26), a0_2, a0_3, a0_4⟩ : S28) ); rintro e w7 ⟨rfl, hb⟩; refine ⟨_, rfl, ?_⟩; have n_ : _ ∧ _ := ⟨zk BK265 hb, zbs hb⟩; clear BK265 HB; obtain ⟨BK265, HB⟩ := n_; (try clear hb); (try clear hb2); (try clear hk); (try clear hi)) | ((with_reducible refine gate_callee (f := 30) rfl ?_); refine goesL_ (some 13) rfl rfl Try.func30 (by kernel_rfl) rfl #[.pointer (some ⟨gb265, 0, none⟩), .int .i64 a1] rfl zm ?_; (with_reducible refine (spec_l01Hits.calls k _ [(⟨(⟨a0_0, a0_1⟩ : S26), a0_2, a0_3, a0_4⟩ : S28)] a1 t267 _ ?side1 A5.out).mono ?_); (case side1 => refine ro_of_blk (T := 28) (cs := #[.int .i8 a0_0, .int .i8 a0_1, .int .i8 a0_2, .int .i8 a0_3, .int .i8 a0_4]) (zh BK265).out ?_; exact k28_mk _ (⟨(⟨a0_0, a0_1⟩ : S26), a0_2, a0_3, a0_4⟩ : S28) ); rintro e w8 ⟨rfl, hb⟩; refine ⟨_, rfl, ?_⟩; have n_ : _ ∧ _ := ⟨zk BK265 hb, zbs hb⟩; clear BK265 HB; obtain ⟨BK265, HB⟩ := n_; (try clear hb); (try clear hb2); (try clear hk); (try clear hi)))
 go_ret2
 exact ⟨zv, zbo⟩
end Go.Proofs.Ytjeejglobdgpjaa.PFnPieces
