-- WRITTEN by xrow.py, a program of this session's. Not trusted: Lean checks it.
import Derived.Test.YtkcbcbannbllaaaPFnExactAlikePiecesx5
import Derived.Test.YtkcbcbannbllaaaXRow
import Derived.WalkKit
import Derived.KernelRfl
namespace Go.Proofs.Ytkcbcbannbllaaa.QFnExactAlikePieces
open Go.RowKit Go.Proofs.Ytkcbcbannbllaaa.PFnExactAlikePieces Go.Proofs.YtkcbcbannbllaaaW.PrintWords Go.Proofs.YtkcbcbannbllaaaW.PrintLast Go.Proofs.YtkcbcbannbllaaaX
open Go.ChangeShapes Go.WideShapes
set_option linter.unusedVariables false
theorem c27_ : Try.prog.cellsOf 27 = 1 := by kernel_rfl
theorem opn27 {H : Type} {enc : TypeId × Value → H} {w : World} {base : Nat} {spare : Nat → Bool} {held : Bool} {fuel : Nat} {cs : List Value} {y : DataW H × List MemPlace} (h : DataW.trod enc Try.prog w base spare held fuel 27 cs = some y) : ∃ x : Int, (Kd.int .i8).K w x cs ∧ (Lit.int .i8 x).wf = true := by
  obtain ⟨n, h1, _, h2⟩ := DataW.trod_int Try.underlying27 h
  exact ⟨n, h1, h2⟩
theorem c28_ : Try.prog.cellsOf 28 = 2 := by kernel_rfl
def wf28 (x : S28) : Prop := (Lit.int .i8 x.f0).wf = true ∧ (Lit.int .i8 x.f1).wf = true
theorem opn28 {H : Type} {enc : TypeId × Value → H} {w : World} {base : Nat} {spare : Nat → Bool} {held : Bool} {fuel : Nat} {cs : List Value} {y : DataW H × List MemPlace} (h : DataW.trod enc Try.prog w base spare held fuel 28 cs = some y) : ∃ x : S28, k28.K w x cs ∧ wf28 x := by
  obtain ⟨xs, m, _, _, hl, hx, hf⟩ := DataW.trod_array Try.underlying28 h
  have hl' : cs.length = 2 := hl.trans c28_
  have hx' : xs.length = 2 := hx
  rw [c27_] at hf
  have e0 : DataW.trod enc Try.prog w base spare held m 27 ((cs.drop 0).take 1) = xs[0]? := hf 0 (by decide)
  obtain ⟨x0, k0, w0⟩ := opn27 (e0.trans (List.getElem?_eq_getElem (by omega)))
  have e1 : DataW.trod enc Try.prog w base spare held m 27 ((cs.drop 1).take 1) = xs[1]? := hf 1 (by decide)
  obtain ⟨x1, k1, w1⟩ := opn27 (e1.trans (List.getElem?_eq_getElem (by omega)))
  refine ⟨⟨x0, x1⟩, ?_, w0, w1⟩
  have hk : k28.K w (⟨x0, x1⟩ : S28) (cs.drop 0) := ⟨_, _, drop_split (s := 1) (q := 1) rfl, k0, (by rw [drop_last (by omega)] at k1; exact k1)⟩
  rwa [List.drop_zero] at hk
theorem c30_ : Try.prog.cellsOf 30 = 5 := by kernel_rfl
def wf30 (x : S30) : Prop := wf28 x.f0 ∧ (Lit.int .i8 x.f1).wf = true ∧ (Lit.int .i8 x.f2).wf = true ∧ (Lit.int .i8 x.f3).wf = true
theorem opn30 {H : Type} {enc : TypeId × Value → H} {w : World} {base : Nat} {spare : Nat → Bool} {held : Bool} {fuel : Nat} {cs : List Value} {y : DataW H × List MemPlace} (h : DataW.trod enc Try.prog w base spare held fuel 30 cs = some y) : ∃ x : S30, k30.K w x cs ∧ wf30 x := by
  obtain ⟨xs, m, _, _, hl, hx, hf⟩ := DataW.trod_struct Try.underlying30 h
  have hl' : cs.length = 5 := hl.trans c30_
  have hx' : xs.length = 4 := hx
  have e0 : DataW.trod enc Try.prog w base spare held m 28 ((cs.drop 0).take 2) = xs[0]? := by have h_ : DataW.trod enc Try.prog w base spare held m 28 ((cs.drop 0).take (Try.prog.cellsOf 28)) = xs[0]? := hf 0 _ rfl; rw [c28_] at h_; exact h_
  obtain ⟨x0, k0, w0⟩ := opn28 (e0.trans (List.getElem?_eq_getElem (by omega)))
  have e1 : DataW.trod enc Try.prog w base spare held m 27 ((cs.drop 2).take 1) = xs[1]? := by have h_ : DataW.trod enc Try.prog w base spare held m 27 ((cs.drop 2).take (Try.prog.cellsOf 27)) = xs[1]? := hf 1 _ rfl; rw [c27_] at h_; exact h_
  obtain ⟨x1, k1, w1⟩ := opn27 (e1.trans (List.getElem?_eq_getElem (by omega)))
  have e2 : DataW.trod enc Try.prog w base spare held m 27 ((cs.drop 3).take 1) = xs[2]? := by have h_ : DataW.trod enc Try.prog w base spare held m 27 ((cs.drop 3).take (Try.prog.cellsOf 27)) = xs[2]? := hf 2 _ rfl; rw [c27_] at h_; exact h_
  obtain ⟨x2, k2, w2⟩ := opn27 (e2.trans (List.getElem?_eq_getElem (by omega)))
  have e3 : DataW.trod enc Try.prog w base spare held m 27 ((cs.drop 4).take 1) = xs[3]? := by have h_ : DataW.trod enc Try.prog w base spare held m 27 ((cs.drop 4).take (Try.prog.cellsOf 27)) = xs[3]? := hf 3 _ rfl; rw [c27_] at h_; exact h_
  obtain ⟨x3, k3, w3⟩ := opn27 (e3.trans (List.getElem?_eq_getElem (by omega)))
  refine ⟨⟨x0, x1, x2, x3⟩, ?_, w0, w1, w2, w3⟩
  have hk : k30.K w (⟨x0, x1, x2, x3⟩ : S30) (cs.drop 0) := ⟨_, _, drop_split (s := 2) (q := 2) rfl, k0, ⟨_, _, drop_split (s := 1) (q := 3) rfl, k1, ⟨_, _, drop_split (s := 1) (q := 4) rfl, k2, (by rw [drop_last (by omega)] at k3; exact k3)⟩⟩⟩
  rwa [List.drop_zero] at hk
def Pure : Prop := ∀ (x0 : S30) (x1 : S30), wf30 x0 → wf30 x1 → ∃ k, laws_FnExactAlikePieces.f k x0.f0.f0 x0.f0.f1 x0.f1 x0.f2 x0.f3 x1.f0.f0 x1.f0.f1 x1.f1 x1.f2 x1.f3 = some true
end Go.Proofs.Ytkcbcbannbllaaa.QFnExactAlikePieces
