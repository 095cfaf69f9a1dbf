-- WRITTEN by xrow.py, a program of this session's. Not trusted: Lean checks it.
import Derived.Test.YtkcbcbannbllaaaPFnExactSameFallsx3
import Derived.Test.YtkcbcbannbllaaaXRow
import Derived.WalkKit
import Derived.KernelRfl
namespace Go.Proofs.Ytkcbcbannbllaaa.QFnExactSameFalls
open Go.RowKit Go.Proofs.Ytkcbcbannbllaaa.PFnExactSameFalls Go.Proofs.YtkcbcbannbllaaaW.PrintWords Go.Proofs.YtkcbcbannbllaaaW.PrintLast Go.Proofs.YtkcbcbannbllaaaX
open Go.ChangeShapes Go.WideShapes
set_option linter.unusedVariables false
theorem c2_ : Try.prog.cellsOf 2 = 1 := by kernel_rfl
theorem opn2 {H : Type} {enc : TypeId × Value → H} {w : World} {base : Nat} {spare : Nat → Bool} {held : Bool} {fuel : Nat} {cs : List Value} {y : DataW H × List MemPlace} (h : DataW.trod enc Try.prog w base spare held fuel 2 cs = some y) : ∃ x : Int, (Kd.int .i64).K w x cs ∧ (Lit.int .i64 x).wf = true := by
  obtain ⟨n, h1, _, h2⟩ := DataW.trod_int Try.underlying2 h
  exact ⟨n, h1, h2⟩
theorem c27_ : Try.prog.cellsOf 27 = 1 := by kernel_rfl
theorem opn27 {H : Type} {enc : TypeId × Value → H} {w : World} {base : Nat} {spare : Nat → Bool} {held : Bool} {fuel : Nat} {cs : List Value} {y : DataW H × List MemPlace} (h : DataW.trod enc Try.prog w base spare held fuel 27 cs = some y) : ∃ x : Int, (Kd.int .i8).K w x cs ∧ (Lit.int .i8 x).wf = true := by
  obtain ⟨n, h1, _, h2⟩ := DataW.trod_int Try.underlying27 h
  exact ⟨n, h1, h2⟩
theorem c84_ : Try.prog.cellsOf 84 = 3 := by kernel_rfl
def wf84 (x : S84) : Prop := (Lit.int .i64 x.f0).wf = true ∧ (Lit.int .i8 x.f1).wf = true ∧ (Lit.int .i64 x.f2).wf = true
theorem opn84 {H : Type} {enc : TypeId × Value → H} {w : World} {base : Nat} {spare : Nat → Bool} {held : Bool} {fuel : Nat} {cs : List Value} {y : DataW H × List MemPlace} (h : DataW.trod enc Try.prog w base spare held fuel 84 cs = some y) : ∃ x : S84, k84.K w x cs ∧ wf84 x := by
  obtain ⟨xs, m, _, _, hl, hx, hf⟩ := DataW.trod_struct Try.underlying84 h
  have hl' : cs.length = 3 := hl.trans c84_
  have hx' : xs.length = 3 := hx
  have e0 : DataW.trod enc Try.prog w base spare held m 2 ((cs.drop 0).take 1) = xs[0]? := by have h_ : DataW.trod enc Try.prog w base spare held m 2 ((cs.drop 0).take (Try.prog.cellsOf 2)) = xs[0]? := hf 0 _ rfl; rw [c2_] at h_; exact h_
  obtain ⟨x0, k0, w0⟩ := opn2 (e0.trans (List.getElem?_eq_getElem (by omega)))
  have e1 : DataW.trod enc Try.prog w base spare held m 27 ((cs.drop 1).take 1) = xs[1]? := by have h_ : DataW.trod enc Try.prog w base spare held m 27 ((cs.drop 1).take (Try.prog.cellsOf 27)) = xs[1]? := hf 1 _ rfl; rw [c27_] at h_; exact h_
  obtain ⟨x1, k1, w1⟩ := opn27 (e1.trans (List.getElem?_eq_getElem (by omega)))
  have e2 : DataW.trod enc Try.prog w base spare held m 2 ((cs.drop 2).take 1) = xs[2]? := by have h_ : DataW.trod enc Try.prog w base spare held m 2 ((cs.drop 2).take (Try.prog.cellsOf 2)) = xs[2]? := hf 2 _ rfl; rw [c2_] at h_; exact h_
  obtain ⟨x2, k2, w2⟩ := opn2 (e2.trans (List.getElem?_eq_getElem (by omega)))
  refine ⟨⟨x0, x1, x2⟩, ?_, w0, w1, w2⟩
  have hk : k84.K w (⟨x0, x1, x2⟩ : S84) (cs.drop 0) := ⟨_, _, drop_split (s := 1) (q := 1) rfl, k0, ⟨_, _, drop_split (s := 1) (q := 2) rfl, k1, (by rw [drop_last (by omega)] at k2; exact k2)⟩⟩
  rwa [List.drop_zero] at hk
theorem c42_ : Try.prog.cellsOf 42 = 1 := by kernel_rfl
theorem opn42 {H : Type} {enc : TypeId × Value → H} {w : World} {base : Nat} {spare : Nat → Bool} {held : Bool} {fuel : Nat} {cs : List Value} {y : DataW H × List MemPlace} (h : DataW.trod enc Try.prog w base spare held fuel 42 cs = some y) : ∃ x : List (S84), (Kd.slice 84 k84).K w x cs ∧ ((∀ x_ ∈ x, wf84 x_) ∧ x.length ≤ 9223372036854775807) := by
  exact opens_slice k84 (fun x_ => wf84 x_) Try.underlying42 (by kernel_rfl) (fun _ _ _ h_ => opn84 h_) h
def Pure : Prop := ∀ (x0 : List (S84)) (x1 : List (S84)), ((∀ x_ ∈ x0, wf84 x_) ∧ x0.length ≤ 9223372036854775807) → ((∀ x_ ∈ x1, wf84 x_) ∧ x1.length ≤ 9223372036854775807) → ∃ k, laws_FnExactSameFalls.f k x0 x1 = some true
end Go.Proofs.Ytkcbcbannbllaaa.QFnExactSameFalls
