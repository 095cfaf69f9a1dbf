/- The pure side of the law FnExactValidPiece: for all arguments its Lean function answers true. No condition beside the arguments' kinds. -/
import Derived.Test.YtkcbcbannbllaaaQFnExactValidPiece
import Derived.Test.YtkcbcbannbllaaaPB
namespace Go.Proofs.Ytkcbcbannbllaaa.Pure
open Go.RowKit Go.Proofs.Ytkcbcbannbllaaa.PFnExactValidPiece Go.Proofs.YtkcbcbannbllaaaW.PrintWords Go.Proofs.YtkcbcbannbllaaaW.PrintLast Go.Proofs.YtkcbcbannbllaaaX Go.Proofs.Ytkcbcbannbllaaa.QFnExactValidPiece Go.Proofs.YtkcbcbannbllaaaB
set_option linter.unusedVariables false
set_option linter.unusedSimpArgs false

theorem toCell (a0_0 : Int) (a0_1 : Int)  : Ev (fun k => laws_toCell.f k a0_0 a0_1) (a0_0, a0_1) := by
  refine ⟨3, fun k hk => ?_⟩
  obtain ⟨m, rfl⟩ : ∃ m, k = m + 3 := ⟨k - 3, by omega⟩
  simp [laws_toCell.f, laws_toCell.l0, wrap64]
theorem toPiece (a0_0 : Int) (a0_1 : Int) (a0_2 : Int) (a0_3 : Int) (a0_4 : Int)  : Ev (fun k => laws_toPiece.f k a0_0 a0_1 a0_2 a0_3 a0_4) (a0_0, a0_1, a0_2, a0_3, a0_4) := by
  unfold laws_toPiece.f
  exact (Ev.bind (toCell _ _ ) (Ev.now _))
theorem in_same : spec_l00In.f = impl_in.f := rfl
theorem in_some (a b c : Int) : impl_in.f a b c = some (decide (b ≤ a ∧ a ≤ c)) := by
  unfold impl_in.f
  by_cases h : b ≤ a <;> simp [h]

theorem valid_same (a b c d e : Int) : spec_l01Piece.f [(⟨(⟨a, b⟩ : S32), c, d, e⟩ : S34)] = impl_ValidPiece.f a b c d e := by
  unfold spec_l01Piece.f impl_ValidPiece.f impl_Cell_placed.f spec_l01In.f
  simp [in_same, in_some, rd_T34, wrap64]
theorem valid_some (a b c d e : Int) : ∃ r, impl_ValidPiece.f a b c d e = some r ∧ (r = true → 0 ≤ wrap64 c ∧ wrap64 c ≤ 5 ∧ 0 ≤ wrap64 d ∧ wrap64 d ≤ 3 ∧ 1 ≤ wrap64 e ∧ wrap64 e ≤ 9 ∧ 0 ≤ wrap64 a ∧ wrap64 a ≤ 23 ∧ 0 ≤ wrap64 b ∧ wrap64 b ≤ 23) := by
  unfold impl_ValidPiece.f impl_Cell_placed.f
  simp only [in_some, Option.bind_some]
  by_cases h1 : 0 ≤ wrap64 c ∧ wrap64 c ≤ 5 <;> by_cases h2 : 0 ≤ wrap64 d ∧ wrap64 d ≤ 3 <;> by_cases h3 : 1 ≤ wrap64 e ∧ wrap64 e ≤ 9 <;> by_cases h4 : 0 ≤ wrap64 a ∧ wrap64 a ≤ 23 <;> simp [h1, h2, h3, h4] <;> omega

theorem core (x0_0_0 : Int) (x0_0_1 : Int) (x0_1 : Int) (x0_2 : Int) (x0_3 : Int) (ox0_0_0 : (-128 ≤ x0_0_0 ∧ x0_0_0 ≤ 127)) (ox0_0_1 : (-128 ≤ x0_0_1 ∧ x0_0_1 ≤ 127)) (ox0_1 : (-128 ≤ x0_1 ∧ x0_1 ≤ 127)) (ox0_2 : (-128 ≤ x0_2 ∧ x0_2 ≤ 127)) (ox0_3 : (-128 ≤ x0_3 ∧ x0_3 ≤ 127)) : ∃ r : Bool, Ev (fun k => spec_ValidPiece.f x0_0_0 x0_0_1 x0_1 x0_2 x0_3) r ∧ Ev (fun k => impl_ValidPiece.f x0_0_0 x0_0_1 x0_1 x0_2 x0_3) r ∧ True := by
  obtain ⟨r, hr, _⟩ := valid_some x0_0_0 x0_0_1 x0_1 x0_2 x0_3
  refine ⟨r, ?_, ev_const hr, trivial⟩
  unfold spec_ValidPiece.f
  simp only [valid_same, hr, Option.bind_some]
  exact Ev.now _

theorem FnExactValidPiece : QFnExactValidPiece.Pure := by
  rintro ⟨⟨x0_0_0, x0_0_1⟩, x0_1, x0_2, x0_3⟩ ⟨⟨wx0_0_0, wx0_0_1⟩, wx0_1, wx0_2, wx0_3⟩
  have ox0_0_0 : (-128 ≤ x0_0_0 ∧ x0_0_0 ≤ 127) := i8b wx0_0_0
  have ox0_0_1 : (-128 ≤ x0_0_1 ∧ x0_0_1 ≤ 127) := i8b wx0_0_1
  have ox0_1 : (-128 ≤ x0_1 ∧ x0_1 ≤ 127) := i8b wx0_1
  have ox0_2 : (-128 ≤ x0_2 ∧ x0_2 ≤ 127) := i8b wx0_2
  have ox0_3 : (-128 ≤ x0_3 ∧ x0_3 ≤ 127) := i8b wx0_3
  refine Ev.rounds (r := true) ?_
  unfold laws_FnExactValidPiece.f
  refine Ev.bind (toPiece _ _ _ _ _ ) ?_
  try dsimp only
  obtain ⟨r0, hs, hi, hb⟩ := core x0_0_0 x0_0_1 x0_1 x0_2 x0_3 ox0_0_0 ox0_0_1 ox0_1 ox0_2 ox0_3
  refine Ev.bind hs ?_
  try dsimp only
  refine Ev.bind (toPiece _ _ _ _ _ ) ?_
  try dsimp only
  refine Ev.bind hi ?_
  try dsimp only
  refine Ev.iteF (by first | (simp; done) | (first | omega | ((try dsimp only); (try simp only [List.length_map, List.length_range, List.length_nil]); omega) | (simp; omega))) ?_
  try dsimp only
  exact Ev.now _
end Go.Proofs.Ytkcbcbannbllaaa.Pure
