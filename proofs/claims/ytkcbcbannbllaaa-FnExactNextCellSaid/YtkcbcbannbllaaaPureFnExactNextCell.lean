/- The pure side of the law FnExactNextCell: for all arguments its Lean function answers true. No condition beside the arguments' kinds. -/
import Derived.Test.YtkcbcbannbllaaaQFnExactNextCell
import Derived.Test.YtkcbcbannbllaaaPB
namespace Go.Proofs.Ytkcbcbannbllaaa.Pure
open Go.RowKit Go.Proofs.Ytkcbcbannbllaaa.PFnExactNextCell Go.Proofs.YtkcbcbannbllaaaW.PrintWords Go.Proofs.YtkcbcbannbllaaaW.PrintLast Go.Proofs.YtkcbcbannbllaaaX Go.Proofs.Ytkcbcbannbllaaa.QFnExactNextCell Go.Proofs.YtkcbcbannbllaaaB
set_option linter.unusedVariables false
set_option linter.unusedSimpArgs false

theorem toCell (a0_0 : Int) (a0_1 : Int)  : Ev (fun k => laws_toCell.f k a0_0 a0_1) (a0_0, a0_1) := by
  refine ⟨3, fun k hk => ?_⟩
  obtain ⟨m, rfl⟩ : ∃ m, k = m + 3 := ⟨k - 3, by omega⟩
  simp [laws_toCell.f, laws_toCell.l0, wrap64]
theorem eqCell (a0_0 : Int) (a0_1 : Int)  : Ev (fun k => laws_eqCell.f k a0_0 a0_1 a0_0 a0_1) true := by
  refine ⟨3, fun k hk => ?_⟩
  obtain ⟨m, rfl⟩ : ∃ m, k = m + 3 := ⟨k - 3, by omega⟩
  simp [laws_eqCell.f, laws_eqCell.l0, wrap64]
theorem in_same : spec_l00In.f = impl_in.f := rfl
theorem in_some (a b c : Int) : impl_in.f a b c = some (decide (b ≤ a ∧ a ≤ c)) := by
  unfold impl_in.f
  by_cases h : b ≤ a <;> simp [h]

theorem next_same (x y s : Int) (hx : -128 ≤ x ∧ x ≤ 127) (hy : -128 ≤ y ∧ y ≤ 127) (h : 0 ≤ s ∧ s ≤ 3) : ∃ a b, impl_Cell_next.f x y s = some (a, b) ∧ spec_l01Next.f x y s = some (a, b) := by
  have hs : s = 0 ∨ s = 1 ∨ s = 2 ∨ s = 3 := by omega
  unfold impl_Cell_next.f spec_l01Next.f
  rcases hs with rfl | rfl | rfl | rfl
  · exact ⟨x, IntKind.i8.wrap (y - 1), by simp [rd, w8 hx, Int.sub_eq_add_neg], by simp⟩
  · exact ⟨IntKind.i8.wrap (x + 1), y, by simp [rd, w8 hy], by simp⟩
  · exact ⟨x, IntKind.i8.wrap (y + 1), by simp [rd, w8 hx], by simp⟩
  · exact ⟨IntKind.i8.wrap (x - 1), y, by simp [rd, w8 hy, Int.sub_eq_add_neg], by simp⟩
theorem core (x0_0 : Int) (x0_1 : Int) (x1 : Int) (ox0_0 : (-128 ≤ x0_0 ∧ x0_0 ≤ 127)) (ox0_1 : (-128 ≤ x0_1 ∧ x0_1 ≤ 127)) (ox1 : (-9223372036854775808 ≤ x1 ∧ x1 ≤ 9223372036854775807)) : ∃ r : Int × Int × Int, Ev (fun k => spec_NextCell.f x0_0 x0_1 x1) r ∧ Ev (fun k => impl_NextCell.f x0_0 x0_1 x1) r ∧ True := by
  have key : ∃ r, spec_NextCell.f x0_0 x0_1 x1 = some r ∧ impl_NextCell.f x0_0 x0_1 x1 = some r := by
    unfold spec_NextCell.f impl_NextCell.f spec_l01Side.f impl_isSide.f
    simp only [in_same, in_some, Option.bind_some]
    by_cases h1 : 0 ≤ x1 ∧ x1 ≤ 3
    · obtain ⟨a, b, h2, h3⟩ := next_same x0_0 x0_1 x1 ox0_0 ox0_1 h1
      simp only [h2, h3, Option.bind_some]
      by_cases h4 : -100 ≤ wrap64 x0_0 ∧ wrap64 x0_0 ≤ 100 <;> by_cases h5 : -100 ≤ wrap64 x0_1 ∧ wrap64 x0_1 ≤ 100 <;> simp [h1, h4, h5]
    · simp [h1]
  obtain ⟨r, h1, h2⟩ := key
  exact ⟨r, ev_const h1, ev_const h2, trivial⟩

theorem FnExactNextCell : QFnExactNextCell.Pure := by
  rintro ⟨x0_0, x0_1⟩ x1 ⟨wx0_0, wx0_1⟩ wx1
  have ox0_0 : (-128 ≤ x0_0 ∧ x0_0 ≤ 127) := i8b wx0_0
  have ox0_1 : (-128 ≤ x0_1 ∧ x0_1 ≤ 127) := i8b wx0_1
  have ox1 : (-9223372036854775808 ≤ x1 ∧ x1 ≤ 9223372036854775807) := i64b wx1
  refine Ev.rounds (r := true) ?_
  unfold laws_FnExactNextCell.f
  refine Ev.bind (toCell _ _ ) ?_
  try dsimp only
  obtain ⟨⟨r0, r1, r2⟩, hs, hi, hb⟩ := core x0_0 x0_1 x1 ox0_0 ox0_1 ox1
  refine Ev.bind hs ?_
  try dsimp only
  refine Ev.bind (toCell _ _ ) ?_
  try dsimp only
  refine Ev.bind hi ?_
  try dsimp only
  refine Ev.bind (eqCell _ _ ) ?_
  try dsimp only
  refine Ev.iteT (by first | rfl | (first | omega | ((try dsimp only); (try simp only [List.length_map, List.length_range, List.length_nil]); omega) | (simp; omega))) ?_
  try dsimp only
  refine Ev.iteT (by first | rfl | (first | omega | ((try dsimp only); (try simp only [List.length_map, List.length_range, List.length_nil]); omega) | (simp; omega))) ?_
  try dsimp only
  exact Ev.now _
end Go.Proofs.Ytkcbcbannbllaaa.Pure
