/- The pure side of the law FnExactTurnPiece: for all arguments its Lean function answers true. No condition beside the arguments' kinds. -/
import Derived.Test.YtkcbcbannbllaaaQFnExactTurnPiece
import Derived.Test.YtkcbcbannbllaaaPB
namespace Go.Proofs.Ytkcbcbannbllaaa.Pure
open Go.RowKit Go.Proofs.Ytkcbcbannbllaaa.PFnExactTurnPiece Go.Proofs.YtkcbcbannbllaaaW.PrintWords Go.Proofs.YtkcbcbannbllaaaW.PrintLast Go.Proofs.YtkcbcbannbllaaaX Go.Proofs.Ytkcbcbannbllaaa.QFnExactTurnPiece Go.Proofs.YtkcbcbannbllaaaB
set_option linter.unusedVariables false
set_option linter.unusedSimpArgs false

theorem toCell (a0_0 : Int) (a0_1 : Int)  : Ev (fun k => laws_toCell.f k a0_0 a0_1) (a0_0, a0_1) := by
  refine ⟨3, fun k hk => ?_⟩
  obtain ⟨m, rfl⟩ : ∃ m, k = m + 3 := ⟨k - 3, by omega⟩
  simp [laws_toCell.f, laws_toCell.l0, wrap64]
theorem toPiece (a0_0 : Int) (a0_1 : Int) (a0_2 : Int) (a0_3 : Int) (a0_4 : Int)  : Ev (fun k => laws_toPiece.f k a0_0 a0_1 a0_2 a0_3 a0_4) (a0_0, a0_1, a0_2, a0_3, a0_4) := by
  unfold laws_toPiece.f
  exact (Ev.bind (toCell _ _ ) (Ev.now _))
theorem eqCell (a0_0 : Int) (a0_1 : Int)  : Ev (fun k => laws_eqCell.f k a0_0 a0_1 a0_0 a0_1) true := by
  refine ⟨3, fun k hk => ?_⟩
  obtain ⟨m, rfl⟩ : ∃ m, k = m + 3 := ⟨k - 3, by omega⟩
  simp [laws_eqCell.f, laws_eqCell.l0, wrap64]
theorem eqPiece (a0_0 : Int) (a0_1 : Int) (a0_2 : Int) (a0_3 : Int) (a0_4 : Int)  : Ev (fun k => laws_eqPiece.f k a0_0 a0_1 a0_2 a0_3 a0_4 a0_0 a0_1 a0_2 a0_3 a0_4) true := by
  unfold laws_eqPiece.f
  exact (Ev.bind (eqCell _ _ ) (Ev.iteT rfl (Ev.iteT rfl (Ev.iteT rfl (Ev.iteT rfl (Ev.now _))))))
theorem in_same : spec_l00In.f = impl_in.f := rfl
theorem in_some (a b c : Int) : impl_in.f a b c = some (decide (b ≤ a ∧ a ≤ c)) := by
  unfold impl_in.f
  by_cases h : b ≤ a <;> simp [h]

theorem valid_same (a b c d e : Int) : spec_l01Piece.f [(⟨(⟨a, b⟩ : S32), c, d, e⟩ : S34)] = impl_ValidPiece.f a b c d e := by
  unfold spec_l01Piece.f impl_ValidPiece.f impl_Cell_placed.f spec_l01In.f
  simp [in_same, in_some, rd_T34, wrap64]
theorem valid_some (a b c d e : Int) : ∃ r, impl_ValidPiece.f a b c d e = some r ∧ (r = true → 0 ≤ wrap64 c ∧ wrap64 c ≤ 5 ∧ 0 ≤ wrap64 d ∧ wrap64 d ≤ 3 ∧ 1 ≤ wrap64 e ∧ wrap64 e ≤ 9 ∧ 0 ≤ wrap64 a ∧ wrap64 a ≤ 23 ∧ 0 ≤ wrap64 b ∧ wrap64 b ≤ 23) := by
  unfold impl_ValidPiece.f impl_Cell_placed.f
  simp only [in_some, Option.bind_some]
  by_cases h1 : 0 ≤ wrap64 c ∧ wrap64 c ≤ 5 <;> by_cases h2 : 0 ≤ wrap64 d ∧ wrap64 d ≤ 3 <;> by_cases h3 : 1 ≤ wrap64 e ∧ wrap64 e ≤ 9 <;> by_cases h4 : 0 ≤ wrap64 a ∧ wrap64 a ≤ 23 <;> simp [h1, h2, h3, h4] <;> omega

theorem quarters_same (t q : Int) (ht : 0 ≤ t ∧ t ≤ 3) (hq : -100 ≤ q ∧ q ≤ 100) : IntKind.i8.wrap (Int.tmod (wrap64 ((wrap64 t) + (Int.tmod (wrap64 ((Int.tmod q 4) + 4)) 4))) 4) = IntKind.i8.wrap (Int.tmod (wrap64 ((Int.tmod (wrap64 ((wrap64 t) + q)) 4) + 4)) 4) := by
  have h1 : wrap64 t = t := w64 (by omega)
  have h2 : ∀ a : Int, Int.tmod a 4 = if 0 ≤ a then a % 4 else -((-a) % 4) := fun a => by
    by_cases h : 0 ≤ a
    · rw [if_pos h, tmod_nonneg 4 h]
    · rw [if_neg h, tmod_neg 4 (by omega)]
  rw [h1]
  have h3 : -3 ≤ Int.tmod q 4 ∧ Int.tmod q 4 ≤ 3 := by rw [h2]; split <;> omega
  have h4 : -3 ≤ Int.tmod (t + q) 4 ∧ Int.tmod (t + q) 4 ≤ 3 := by rw [h2]; split <;> omega
  have h5 : 0 ≤ Int.tmod (Int.tmod q 4 + 4) 4 ∧ Int.tmod (Int.tmod q 4 + 4) 4 ≤ 3 := by rw [h2 (Int.tmod q 4 + 4)]; split <;> omega
  rw [w64 (n := t + q) (by omega), w64 (n := Int.tmod q 4 + 4) (by omega), w64 (n := t + Int.tmod (Int.tmod q 4 + 4) 4) (by omega), w64 (n := Int.tmod (t + q) 4 + 4) (by omega)]
  congr 1
  simp only [h2]
  split <;> split <;> split <;> split <;> omega
theorem core (x0_0_0 : Int) (x0_0_1 : Int) (x0_1 : Int) (x0_2 : Int) (x0_3 : Int) (x1 : Int) (ox0_0_0 : (-128 ≤ x0_0_0 ∧ x0_0_0 ≤ 127)) (ox0_0_1 : (-128 ≤ x0_0_1 ∧ x0_0_1 ≤ 127)) (ox0_1 : (-128 ≤ x0_1 ∧ x0_1 ≤ 127)) (ox0_2 : (-128 ≤ x0_2 ∧ x0_2 ≤ 127)) (ox0_3 : (-128 ≤ x0_3 ∧ x0_3 ≤ 127)) (ox1 : (-9223372036854775808 ≤ x1 ∧ x1 ≤ 9223372036854775807)) : ∃ r : Int × Int × Int × Int × Int × Int, Ev (fun k => spec_TurnPiece.f x0_0_0 x0_0_1 x0_1 x0_2 x0_3 x1) r ∧ Ev (fun k => impl_TurnPiece.f x0_0_0 x0_0_1 x0_1 x0_2 x0_3 x1) r ∧ True := by
  have key : ∃ r, spec_TurnPiece.f x0_0_0 x0_0_1 x0_1 x0_2 x0_3 x1 = some r ∧ impl_TurnPiece.f x0_0_0 x0_0_1 x0_1 x0_2 x0_3 x1 = some r := by
    obtain ⟨r, hr, hv⟩ := valid_some x0_0_0 x0_0_1 x0_1 x0_2 x0_3
    unfold spec_TurnPiece.f impl_TurnPiece.f spec_l01Quarters.f impl_turns.f impl_Piece_turned.f impl_quartersOk.f
    simp only [valid_same, in_same, in_some, hr, Option.bind_some]
    cases r
    · simp
    · have hv := hv rfl
      have hd' : wrap64 x0_2 = x0_2 := w64 (by omega)
      by_cases h1 : -100 ≤ x1 ∧ x1 ≤ 100
      · have := quarters_same x0_2 x1 (by omega) h1
        simp [h1, this]
      · simp [h1]
  obtain ⟨r, h1, h2⟩ := key
  exact ⟨r, ev_const h1, ev_const h2, trivial⟩

theorem FnExactTurnPiece : QFnExactTurnPiece.Pure := by
  rintro ⟨⟨x0_0_0, x0_0_1⟩, x0_1, x0_2, x0_3⟩ x1 ⟨⟨wx0_0_0, wx0_0_1⟩, wx0_1, wx0_2, wx0_3⟩ wx1
  have ox0_0_0 : (-128 ≤ x0_0_0 ∧ x0_0_0 ≤ 127) := i8b wx0_0_0
  have ox0_0_1 : (-128 ≤ x0_0_1 ∧ x0_0_1 ≤ 127) := i8b wx0_0_1
  have ox0_1 : (-128 ≤ x0_1 ∧ x0_1 ≤ 127) := i8b wx0_1
  have ox0_2 : (-128 ≤ x0_2 ∧ x0_2 ≤ 127) := i8b wx0_2
  have ox0_3 : (-128 ≤ x0_3 ∧ x0_3 ≤ 127) := i8b wx0_3
  have ox1 : (-9223372036854775808 ≤ x1 ∧ x1 ≤ 9223372036854775807) := i64b wx1
  refine Ev.rounds (r := true) ?_
  unfold laws_FnExactTurnPiece.f
  refine Ev.bind (toPiece _ _ _ _ _ ) ?_
  try dsimp only
  obtain ⟨⟨r0, r1, r2, r3, r4, r5⟩, hs, hi, hb⟩ := core x0_0_0 x0_0_1 x0_1 x0_2 x0_3 x1 ox0_0_0 ox0_0_1 ox0_1 ox0_2 ox0_3 ox1
  refine Ev.bind hs ?_
  try dsimp only
  refine Ev.bind (toPiece _ _ _ _ _ ) ?_
  try dsimp only
  refine Ev.bind hi ?_
  try dsimp only
  refine Ev.bind (eqPiece _ _ _ _ _ ) ?_
  try dsimp only
  refine Ev.iteT (by first | rfl | (first | omega | ((try dsimp only); (try simp only [List.length_map, List.length_range, List.length_nil]); omega) | (simp; omega))) ?_
  try dsimp only
  refine Ev.iteT (by first | rfl | (first | omega | ((try dsimp only); (try simp only [List.length_map, List.length_range, List.length_nil]); omega) | (simp; omega))) ?_
  try dsimp only
  exact Ev.now _
end Go.Proofs.Ytkcbcbannbllaaa.Pure
