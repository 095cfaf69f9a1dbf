-- WRITTEN by xrow.py, a program of this session's. Not trusted: Lean checks it.
import Derived.Test.YtdjhcnepndflmaaPFnExactNeverHitx11
import Derived.Test.YtdjhcnepndflmaaTFnExactNeverHita
import Derived.WalkKit
import Derived.KernelRfl
namespace Go.Proofs.Ytdjhcnepndflmaa.QFnExactNeverHit
open Go.RowKit Go.Proofs.Ytdjhcnepndflmaa.PFnExactNeverHit Go.Proofs.YtdjhcnepndflmaaW.PrintWords Go.Proofs.YtdjhcnepndflmaaW.PrintLast Go.Proofs.YtdjhcnepndflmaaX
open Go.ChangeShapes Go.WideShapes
set_option linter.unusedVariables false
theorem c22_ : Try.prog.cellsOf 22 = 1 := by kernel_rfl
theorem opn22 {H : Type} {enc : TypeId × Value → H} {w : World} {base : Nat} {spare : Nat → Bool} {held : Bool} {fuel : Nat} {cs : List Value} {y : DataW H × List MemPlace} (h : DataW.trod enc Try.prog w base spare held fuel 22 cs = some y) : ∃ x : Int, (Kd.int .i8).K w x cs ∧ (Lit.int .i8 x).wf = true := by
  obtain ⟨n, h1, _, h2⟩ := DataW.trod_int Try.underlying22 h
  exact ⟨n, h1, h2⟩
theorem c26_ : Try.prog.cellsOf 26 = 2 := by kernel_rfl
def wf26 (x : S26) : Prop := (Lit.int .i8 x.f0).wf = true ∧ (Lit.int .i8 x.f1).wf = true
theorem opn26 {H : Type} {enc : TypeId × Value → H} {w : World} {base : Nat} {spare : Nat → Bool} {held : Bool} {fuel : Nat} {cs : List Value} {y : DataW H × List MemPlace} (h : DataW.trod enc Try.prog w base spare held fuel 26 cs = some y) : ∃ x : S26, k26.K w x cs ∧ wf26 x := by
  obtain ⟨xs, m, _, _, hl, hx, hf⟩ := DataW.trod_array Try.underlying26 h
  have hl' : cs.length = 2 := hl.trans c26_
  have hx' : xs.length = 2 := hx
  rw [c22_] at hf
  have e0 : DataW.trod enc Try.prog w base spare held m 22 ((cs.drop 0).take 1) = xs[0]? := hf 0 (by decide)
  obtain ⟨x0, k0, w0⟩ := opn22 (e0.trans (List.getElem?_eq_getElem (by omega)))
  have e1 : DataW.trod enc Try.prog w base spare held m 22 ((cs.drop 1).take 1) = xs[1]? := hf 1 (by decide)
  obtain ⟨x1, k1, w1⟩ := opn22 (e1.trans (List.getElem?_eq_getElem (by omega)))
  refine ⟨⟨x0, x1⟩, ?_, w0, w1⟩
  have hk : k26.K w (⟨x0, x1⟩ : S26) (cs.drop 0) := ⟨_, _, drop_split (s := 1) (q := 1) rfl, k0, (by rw [drop_last (by omega)] at k1; exact k1)⟩
  rwa [List.drop_zero] at hk
theorem c78_ : Try.prog.cellsOf 78 = 5 := by kernel_rfl
def wf78 (x : S78) : Prop := wf26 x.f0 ∧ (Lit.int .i8 x.f1).wf = true ∧ (Lit.int .i8 x.f2).wf = true ∧ (Lit.int .i8 x.f3).wf = true
theorem opn78 {H : Type} {enc : TypeId × Value → H} {w : World} {base : Nat} {spare : Nat → Bool} {held : Bool} {fuel : Nat} {cs : List Value} {y : DataW H × List MemPlace} (h : DataW.trod enc Try.prog w base spare held fuel 78 cs = some y) : ∃ x : S78, k78.K w x cs ∧ wf78 x := by
  obtain ⟨xs, m, _, _, hl, hx, hf⟩ := DataW.trod_struct Try.underlying78 h
  have hl' : cs.length = 5 := hl.trans c78_
  have hx' : xs.length = 4 := hx
  have e0 : DataW.trod enc Try.prog w base spare held m 26 ((cs.drop 0).take 2) = xs[0]? := by have h_ : DataW.trod enc Try.prog w base spare held m 26 ((cs.drop 0).take (Try.prog.cellsOf 26)) = xs[0]? := hf 0 _ rfl; rw [c26_] at h_; exact h_
  obtain ⟨x0, k0, w0⟩ := opn26 (e0.trans (List.getElem?_eq_getElem (by omega)))
  have e1 : DataW.trod enc Try.prog w base spare held m 22 ((cs.drop 2).take 1) = xs[1]? := by have h_ : DataW.trod enc Try.prog w base spare held m 22 ((cs.drop 2).take (Try.prog.cellsOf 22)) = xs[1]? := hf 1 _ rfl; rw [c22_] at h_; exact h_
  obtain ⟨x1, k1, w1⟩ := opn22 (e1.trans (List.getElem?_eq_getElem (by omega)))
  have e2 : DataW.trod enc Try.prog w base spare held m 22 ((cs.drop 3).take 1) = xs[2]? := by have h_ : DataW.trod enc Try.prog w base spare held m 22 ((cs.drop 3).take (Try.prog.cellsOf 22)) = xs[2]? := hf 2 _ rfl; rw [c22_] at h_; exact h_
  obtain ⟨x2, k2, w2⟩ := opn22 (e2.trans (List.getElem?_eq_getElem (by omega)))
  have e3 : DataW.trod enc Try.prog w base spare held m 22 ((cs.drop 4).take 1) = xs[3]? := by have h_ : DataW.trod enc Try.prog w base spare held m 22 ((cs.drop 4).take (Try.prog.cellsOf 22)) = xs[3]? := hf 3 _ rfl; rw [c22_] at h_; exact h_
  obtain ⟨x3, k3, w3⟩ := opn22 (e3.trans (List.getElem?_eq_getElem (by omega)))
  refine ⟨⟨x0, x1, x2, x3⟩, ?_, w0, w1, w2, w3⟩
  have hk : k78.K w (⟨x0, x1, x2, x3⟩ : S78) (cs.drop 0) := ⟨_, _, drop_split (s := 2) (q := 2) rfl, k0, ⟨_, _, drop_split (s := 1) (q := 3) rfl, k1, ⟨_, _, drop_split (s := 1) (q := 4) rfl, k2, (by rw [drop_last (by omega)] at k3; exact k3)⟩⟩⟩
  rwa [List.drop_zero] at hk
theorem c23_ : Try.prog.cellsOf 23 = 1 := by kernel_rfl
theorem opn23 {H : Type} {enc : TypeId × Value → H} {w : World} {base : Nat} {spare : Nat → Bool} {held : Bool} {fuel : Nat} {cs : List Value} {y : DataW H × List MemPlace} (h : DataW.trod enc Try.prog w base spare held fuel 23 cs = some y) : ∃ x : List (S78), (Kd.slice 78 k78).K w x cs ∧ ((∀ x_ ∈ x, wf78 x_) ∧ x.length ≤ 9223372036854775807) := by
  exact opens_slice k78 (fun x_ => wf78 x_) Try.underlying23 (by kernel_rfl) (fun _ _ _ h_ => opn78 h_) h
theorem c25_ : Try.prog.cellsOf 25 = 3 := by kernel_rfl
def wf25 (x : S25) : Prop := (Lit.int .i8 x.f0).wf = true ∧ (Lit.int .i8 x.f1).wf = true ∧ ((∀ x_ ∈ x.f2, wf78 x_) ∧ x.f2.length ≤ 9223372036854775807)
theorem opn25 {H : Type} {enc : TypeId × Value → H} {w : World} {base : Nat} {spare : Nat → Bool} {held : Bool} {fuel : Nat} {cs : List Value} {y : DataW H × List MemPlace} (h : DataW.trod enc Try.prog w base spare held fuel 25 cs = some y) : ∃ x : S25, k25.K w x cs ∧ wf25 x := by
  obtain ⟨xs, m, _, _, hl, hx, hf⟩ := DataW.trod_struct Try.underlying25 h
  have hl' : cs.length = 3 := hl.trans c25_
  have hx' : xs.length = 3 := hx
  have e0 : DataW.trod enc Try.prog w base spare held m 22 ((cs.drop 0).take 1) = xs[0]? := by have h_ : DataW.trod enc Try.prog w base spare held m 22 ((cs.drop 0).take (Try.prog.cellsOf 22)) = xs[0]? := hf 0 _ rfl; rw [c22_] at h_; exact h_
  obtain ⟨x0, k0, w0⟩ := opn22 (e0.trans (List.getElem?_eq_getElem (by omega)))
  have e1 : DataW.trod enc Try.prog w base spare held m 22 ((cs.drop 1).take 1) = xs[1]? := by have h_ : DataW.trod enc Try.prog w base spare held m 22 ((cs.drop 1).take (Try.prog.cellsOf 22)) = xs[1]? := hf 1 _ rfl; rw [c22_] at h_; exact h_
  obtain ⟨x1, k1, w1⟩ := opn22 (e1.trans (List.getElem?_eq_getElem (by omega)))
  have e2 : DataW.trod enc Try.prog w base spare held m 23 ((cs.drop 2).take 1) = xs[2]? := by have h_ : DataW.trod enc Try.prog w base spare held m 23 ((cs.drop 2).take (Try.prog.cellsOf 23)) = xs[2]? := hf 2 _ rfl; rw [c23_] at h_; exact h_
  obtain ⟨x2, k2, w2⟩ := opn23 (e2.trans (List.getElem?_eq_getElem (by omega)))
  refine ⟨⟨x0, x1, x2⟩, ?_, w0, w1, w2⟩
  have hk : k25.K w (⟨x0, x1, x2⟩ : S25) (cs.drop 0) := ⟨_, _, drop_split (s := 1) (q := 1) rfl, k0, ⟨_, _, drop_split (s := 1) (q := 2) rfl, k1, (by rw [drop_last (by omega)] at k2; exact k2)⟩⟩
  rwa [List.drop_zero] at hk
def Pure : Prop := ∀ (x0 : S25), wf25 x0 → ∃ k, laws_FnExactNeverHit.f k x0.f0 x0.f1 x0.f2 = some true
end Go.Proofs.Ytdjhcnepndflmaa.QFnExactNeverHit
