-- WRITTEN by xrow.py, a program of this session's. Not trusted: Lean checks it.
import Derived.Test.YtffnfpnajkgnaaaPFnExactJoinBoardsx11
import Derived.Test.YtffnfpnajkgnaaaTFnExactJoinBoardsa
import Derived.WalkKit
import Derived.KernelRfl
namespace Go.Proofs.Ytffnfpnajkgnaaa.QFnExactJoinBoards
open Go.RowKit Go.Proofs.Ytffnfpnajkgnaaa.PFnExactJoinBoards Go.Proofs.YtffnfpnajkgnaaaW.PrintWords Go.Proofs.YtffnfpnajkgnaaaW.PrintLast Go.Proofs.YtffnfpnajkgnaaaX
open Go.ChangeShapes Go.WideShapes
set_option linter.unusedVariables false
theorem c22_ : Try.prog.cellsOf 22 = 1 := by kernel_rfl
theorem opn22 {H : Type} {enc : TypeId × Value → H} {w : World} {base : Nat} {spare : Nat → Bool} {held : Bool} {fuel : Nat} {cs : List Value} {y : DataW H × List MemPlace} (h : DataW.trod enc Try.prog w base spare held fuel 22 cs = some y) : ∃ x : Int, (Kd.int .i8).K w x cs ∧ (Lit.int .i8 x).wf = true := by
  obtain ⟨n, h1, _, h2⟩ := DataW.trod_int Try.underlying22 h
  exact ⟨n, h1, h2⟩
theorem c71_ : Try.prog.cellsOf 71 = 2 := by kernel_rfl
def wf71 (x : S71) : Prop := (Lit.int .i8 x.f0).wf = true ∧ (Lit.int .i8 x.f1).wf = true
theorem opn71 {H : Type} {enc : TypeId × Value → H} {w : World} {base : Nat} {spare : Nat → Bool} {held : Bool} {fuel : Nat} {cs : List Value} {y : DataW H × List MemPlace} (h : DataW.trod enc Try.prog w base spare held fuel 71 cs = some y) : ∃ x : S71, k71.K w x cs ∧ wf71 x := by
  obtain ⟨xs, m, _, _, hl, hx, hf⟩ := DataW.trod_array Try.underlying71 h
  have hl' : cs.length = 2 := hl.trans c71_
  have hx' : xs.length = 2 := hx
  rw [c22_] at hf
  have e0 : DataW.trod enc Try.prog w base spare held m 22 ((cs.drop 0).take 1) = xs[0]? := hf 0 (by decide)
  obtain ⟨x0, k0, w0⟩ := opn22 (e0.trans (List.getElem?_eq_getElem (by omega)))
  have e1 : DataW.trod enc Try.prog w base spare held m 22 ((cs.drop 1).take 1) = xs[1]? := hf 1 (by decide)
  obtain ⟨x1, k1, w1⟩ := opn22 (e1.trans (List.getElem?_eq_getElem (by omega)))
  refine ⟨⟨x0, x1⟩, ?_, w0, w1⟩
  have hk : k71.K w (⟨x0, x1⟩ : S71) (cs.drop 0) := ⟨_, _, drop_split (s := 1) (q := 1) rfl, k0, (by rw [drop_last (by omega)] at k1; exact k1)⟩
  rwa [List.drop_zero] at hk
theorem c88_ : Try.prog.cellsOf 88 = 5 := by kernel_rfl
def wf88 (x : S88) : Prop := wf71 x.f0 ∧ (Lit.int .i8 x.f1).wf = true ∧ (Lit.int .i8 x.f2).wf = true ∧ (Lit.int .i8 x.f3).wf = true
theorem opn88 {H : Type} {enc : TypeId × Value → H} {w : World} {base : Nat} {spare : Nat → Bool} {held : Bool} {fuel : Nat} {cs : List Value} {y : DataW H × List MemPlace} (h : DataW.trod enc Try.prog w base spare held fuel 88 cs = some y) : ∃ x : S88, k88.K w x cs ∧ wf88 x := by
  obtain ⟨xs, m, _, _, hl, hx, hf⟩ := DataW.trod_struct Try.underlying88 h
  have hl' : cs.length = 5 := hl.trans c88_
  have hx' : xs.length = 4 := hx
  have e0 : DataW.trod enc Try.prog w base spare held m 71 ((cs.drop 0).take 2) = xs[0]? := by have h_ : DataW.trod enc Try.prog w base spare held m 71 ((cs.drop 0).take (Try.prog.cellsOf 71)) = xs[0]? := hf 0 _ rfl; rw [c71_] at h_; exact h_
  obtain ⟨x0, k0, w0⟩ := opn71 (e0.trans (List.getElem?_eq_getElem (by omega)))
  have e1 : DataW.trod enc Try.prog w base spare held m 22 ((cs.drop 2).take 1) = xs[1]? := by have h_ : DataW.trod enc Try.prog w base spare held m 22 ((cs.drop 2).take (Try.prog.cellsOf 22)) = xs[1]? := hf 1 _ rfl; rw [c22_] at h_; exact h_
  obtain ⟨x1, k1, w1⟩ := opn22 (e1.trans (List.getElem?_eq_getElem (by omega)))
  have e2 : DataW.trod enc Try.prog w base spare held m 22 ((cs.drop 3).take 1) = xs[2]? := by have h_ : DataW.trod enc Try.prog w base spare held m 22 ((cs.drop 3).take (Try.prog.cellsOf 22)) = xs[2]? := hf 2 _ rfl; rw [c22_] at h_; exact h_
  obtain ⟨x2, k2, w2⟩ := opn22 (e2.trans (List.getElem?_eq_getElem (by omega)))
  have e3 : DataW.trod enc Try.prog w base spare held m 22 ((cs.drop 4).take 1) = xs[3]? := by have h_ : DataW.trod enc Try.prog w base spare held m 22 ((cs.drop 4).take (Try.prog.cellsOf 22)) = xs[3]? := hf 3 _ rfl; rw [c22_] at h_; exact h_
  obtain ⟨x3, k3, w3⟩ := opn22 (e3.trans (List.getElem?_eq_getElem (by omega)))
  refine ⟨⟨x0, x1, x2, x3⟩, ?_, w0, w1, w2, w3⟩
  have hk : k88.K w (⟨x0, x1, x2, x3⟩ : S88) (cs.drop 0) := ⟨_, _, drop_split (s := 2) (q := 2) rfl, k0, ⟨_, _, drop_split (s := 1) (q := 3) rfl, k1, ⟨_, _, drop_split (s := 1) (q := 4) rfl, k2, (by rw [drop_last (by omega)] at k3; exact k3)⟩⟩⟩
  rwa [List.drop_zero] at hk
theorem c23_ : Try.prog.cellsOf 23 = 1 := by kernel_rfl
theorem opn23 {H : Type} {enc : TypeId × Value → H} {w : World} {base : Nat} {spare : Nat → Bool} {held : Bool} {fuel : Nat} {cs : List Value} {y : DataW H × List MemPlace} (h : DataW.trod enc Try.prog w base spare held fuel 23 cs = some y) : ∃ x : List (S88), (Kd.slice 88 k88).K w x cs ∧ ((∀ x_ ∈ x, wf88 x_) ∧ x.length ≤ 9223372036854775807) := by
  exact opens_slice k88 (fun x_ => wf88 x_) Try.underlying23 (by kernel_rfl) (fun _ _ _ h_ => opn88 h_) h
theorem c25_ : Try.prog.cellsOf 25 = 3 := by kernel_rfl
def wf25 (x : S25) : Prop := (Lit.int .i8 x.f0).wf = true ∧ (Lit.int .i8 x.f1).wf = true ∧ ((∀ x_ ∈ x.f2, wf88 x_) ∧ x.f2.length ≤ 9223372036854775807)
theorem opn25 {H : Type} {enc : TypeId × Value → H} {w : World} {base : Nat} {spare : Nat → Bool} {held : Bool} {fuel : Nat} {cs : List Value} {y : DataW H × List MemPlace} (h : DataW.trod enc Try.prog w base spare held fuel 25 cs = some y) : ∃ x : S25, k25.K w x cs ∧ wf25 x := by
  obtain ⟨xs, m, _, _, hl, hx, hf⟩ := DataW.trod_struct Try.underlying25 h
  have hl' : cs.length = 3 := hl.trans c25_
  have hx' : xs.length = 3 := hx
  have e0 : DataW.trod enc Try.prog w base spare held m 22 ((cs.drop 0).take 1) = xs[0]? := by have h_ : DataW.trod enc Try.prog w base spare held m 22 ((cs.drop 0).take (Try.prog.cellsOf 22)) = xs[0]? := hf 0 _ rfl; rw [c22_] at h_; exact h_
  obtain ⟨x0, k0, w0⟩ := opn22 (e0.trans (List.getElem?_eq_getElem (by omega)))
  have e1 : DataW.trod enc Try.prog w base spare held m 22 ((cs.drop 1).take 1) = xs[1]? := by have h_ : DataW.trod enc Try.prog w base spare held m 22 ((cs.drop 1).take (Try.prog.cellsOf 22)) = xs[1]? := hf 1 _ rfl; rw [c22_] at h_; exact h_
  obtain ⟨x1, k1, w1⟩ := opn22 (e1.trans (List.getElem?_eq_getElem (by omega)))
  have e2 : DataW.trod enc Try.prog w base spare held m 23 ((cs.drop 2).take 1) = xs[2]? := by have h_ : DataW.trod enc Try.prog w base spare held m 23 ((cs.drop 2).take (Try.prog.cellsOf 23)) = xs[2]? := hf 2 _ rfl; rw [c23_] at h_; exact h_
  obtain ⟨x2, k2, w2⟩ := opn23 (e2.trans (List.getElem?_eq_getElem (by omega)))
  refine ⟨⟨x0, x1, x2⟩, ?_, w0, w1, w2⟩
  have hk : k25.K w (⟨x0, x1, x2⟩ : S25) (cs.drop 0) := ⟨_, _, drop_split (s := 1) (q := 1) rfl, k0, ⟨_, _, drop_split (s := 1) (q := 2) rfl, k1, (by rw [drop_last (by omega)] at k2; exact k2)⟩⟩
  rwa [List.drop_zero] at hk
def Pure : Prop := ∀ (x0 : S25) (x1 : S25), wf25 x0 → wf25 x1 → ∃ k, laws_FnExactJoinBoards.f k x0.f0 x0.f1 x0.f2 x1.f0 x1.f1 x1.f2 = some true
end Go.Proofs.Ytffnfpnajkgnaaa.QFnExactJoinBoards
