-- WRITTEN by xrow.py, a program of this session's. Not trusted: Lean checks it.
import Derived.Test.YtkcbcbannbllaaaPFnExactNextCellx1
import Derived.Test.YtkcbcbannbllaaaXRow
import Derived.WalkKit
import Derived.KernelRfl
namespace Go.Proofs.Ytkcbcbannbllaaa.QFnExactNextCell
open Go.RowKit Go.Proofs.Ytkcbcbannbllaaa.PFnExactNextCell Go.Proofs.YtkcbcbannbllaaaW.PrintWords Go.Proofs.YtkcbcbannbllaaaW.PrintLast Go.Proofs.YtkcbcbannbllaaaX
open Go.ChangeShapes Go.WideShapes
set_option linter.unusedVariables false
theorem c27_ : Try.prog.cellsOf 27 = 1 := by kernel_rfl
theorem opn27 {H : Type} {enc : TypeId × Value → H} {w : World} {base : Nat} {spare : Nat → Bool} {held : Bool} {fuel : Nat} {cs : List Value} {y : DataW H × List MemPlace} (h : DataW.trod enc Try.prog w base spare held fuel 27 cs = some y) : ∃ x : Int, (Kd.int .i8).K w x cs ∧ (Lit.int .i8 x).wf = true := by
  obtain ⟨n, h1, _, h2⟩ := DataW.trod_int Try.underlying27 h
  exact ⟨n, h1, h2⟩
theorem c28_ : Try.prog.cellsOf 28 = 2 := by kernel_rfl
def wf28 (x : S28) : Prop := (Lit.int .i8 x.f0).wf = true ∧ (Lit.int .i8 x.f1).wf = true
theorem opn28 {H : Type} {enc : TypeId × Value → H} {w : World} {base : Nat} {spare : Nat → Bool} {held : Bool} {fuel : Nat} {cs : List Value} {y : DataW H × List MemPlace} (h : DataW.trod enc Try.prog w base spare held fuel 28 cs = some y) : ∃ x : S28, k28.K w x cs ∧ wf28 x := by
  obtain ⟨xs, m, _, _, hl, hx, hf⟩ := DataW.trod_array Try.underlying28 h
  have hl' : cs.length = 2 := hl.trans c28_
  have hx' : xs.length = 2 := hx
  rw [c27_] at hf
  have e0 : DataW.trod enc Try.prog w base spare held m 27 ((cs.drop 0).take 1) = xs[0]? := hf 0 (by decide)
  obtain ⟨x0, k0, w0⟩ := opn27 (e0.trans (List.getElem?_eq_getElem (by omega)))
  have e1 : DataW.trod enc Try.prog w base spare held m 27 ((cs.drop 1).take 1) = xs[1]? := hf 1 (by decide)
  obtain ⟨x1, k1, w1⟩ := opn27 (e1.trans (List.getElem?_eq_getElem (by omega)))
  refine ⟨⟨x0, x1⟩, ?_, w0, w1⟩
  have hk : k28.K w (⟨x0, x1⟩ : S28) (cs.drop 0) := ⟨_, _, drop_split (s := 1) (q := 1) rfl, k0, (by rw [drop_last (by omega)] at k1; exact k1)⟩
  rwa [List.drop_zero] at hk
def Pure : Prop := ∀ (x0 : S28) (x1 : Int), wf28 x0 → (Lit.int .i64 x1).wf = true → ∃ k, laws_FnExactNextCell.f k x0.f0 x0.f1 x1 = some true
end Go.Proofs.Ytkcbcbannbllaaa.QFnExactNextCell
