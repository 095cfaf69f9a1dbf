/- The pure side of the law FnExactCodeName: for all codes its Lean function answers true. No condition beside the argument's kind. -/
import Derived.Test.YtkcbcbannbllaaaPFnExactCodeNamex1
namespace Go.Proofs.Ytkcbcbannbllaaa.Pure
open Go.RowKit Go.Proofs.Ytkcbcbannbllaaa.PFnExactCodeName Go.Proofs.YtkcbcbannbllaaaW.PrintWords Go.Proofs.YtkcbcbannbllaaaW.PrintLast

theorem FnExactCodeName : laws_FnExactCodeName.Pure := by
  intro a0 h
  by_cases h1 : 0 ≤ a0
  · by_cases h2 : a0 ≤ 8
    · have h3 : a0 = 0 ∨ a0 = 1 ∨ a0 = 2 ∨ a0 = 3 ∨ a0 = 4 ∨ a0 = 5 ∨ a0 = 6 ∨ a0 = 7 ∨ a0 = 8 := by omega
      rcases h3 with rfl | rfl | rfl | rfl | rfl | rfl | rfl | rfl | rfl <;> decide +kernel
    · have e1 : spec_CodeName.f a0 = some (⟨#[]⟩ : ByteArray) := by
        unfold spec_CodeName.f spec_l00In.f
        simp [h1, h2]
      have e2 : impl_CodeName.f a0 = some (⟨#[]⟩ : ByteArray) := by
        unfold impl_CodeName.f
        simp only [Option.bind_some, List.length_cons, List.length_nil]
        rw [if_neg (by omega), if_pos (by omega)]
      unfold laws_FnExactCodeName.f
      rw [e1, e2]
      simp
  · have e1 : spec_CodeName.f a0 = some (⟨#[]⟩ : ByteArray) := by
      unfold spec_CodeName.f spec_l00In.f
      simp [h1]
    have e2 : impl_CodeName.f a0 = some (⟨#[]⟩ : ByteArray) := by
      unfold impl_CodeName.f
      simp only [Option.bind_some]
      rw [if_pos (by omega)]
    unfold laws_FnExactCodeName.f
    rw [e1, e2]
    simp

end Go.Proofs.Ytkcbcbannbllaaa.Pure
