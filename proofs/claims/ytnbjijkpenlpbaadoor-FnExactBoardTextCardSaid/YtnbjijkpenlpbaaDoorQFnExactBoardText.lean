-- WRITTEN by xrow.py, a program of this session's. Not trusted: Lean checks it.
import Derived.Test.YtnbjijkpenlpbaaDoorPFnExactBoardTextx10
import Derived.Test.YtnbjijkpenlpbaaDoorTFnExactBoardTexta
import Derived.WalkKit
import Derived.KernelRfl
namespace Go.Proofs.YtnbjijkpenlpbaaDoor.QFnExactBoardText
open Go.RowKit Go.Proofs.YtnbjijkpenlpbaaDoor.PFnExactBoardText Go.Proofs.YtnbjijkpenlpbaaDoorW.PrintWords Go.Proofs.YtnbjijkpenlpbaaDoorW.PrintLast Go.Proofs.YtnbjijkpenlpbaaDoorX
open Go.ChangeShapes Go.WideShapes
set_option linter.unusedVariables false
theorem c29_ : Tryd.prog.cellsOf 29 = 1 := by kernel_rfl
theorem opn29 {H : Type} {enc : TypeId × Value → H} {w : World} {base : Nat} {spare : Nat → Bool} {held : Bool} {fuel : Nat} {cs : List Value} {y : DataW H × List MemPlace} (h : DataW.trod enc Tryd.prog w base spare held fuel 29 cs = some y) : ∃ x : Int, (Kd.int .i8).K w x cs ∧ (Lit.int .i8 x).wf = true := by
  obtain ⟨n, h1, _, h2⟩ := DataW.trod_int Tryd.underlying29 h
  exact ⟨n, h1, h2⟩
theorem c42_ : Tryd.prog.cellsOf 42 = 2 := by kernel_rfl
def wf42 (x : S42) : Prop := (Lit.int .i8 x.f0).wf = true ∧ (Lit.int .i8 x.f1).wf = true
theorem opn42 {H : Type} {enc : TypeId × Value → H} {w : World} {base : Nat} {spare : Nat → Bool} {held : Bool} {fuel : Nat} {cs : List Value} {y : DataW H × List MemPlace} (h : DataW.trod enc Tryd.prog w base spare held fuel 42 cs = some y) : ∃ x : S42, k42.K w x cs ∧ wf42 x := by
  obtain ⟨xs, m, _, _, hl, hx, hf⟩ := DataW.trod_array Tryd.underlying42 h
  have hl' : cs.length = 2 := hl.trans c42_
  have hx' : xs.length = 2 := hx
  rw [c29_] at hf
  have e0 : DataW.trod enc Tryd.prog w base spare held m 29 ((cs.drop 0).take 1) = xs[0]? := hf 0 (by decide)
  obtain ⟨x0, k0, w0⟩ := opn29 (e0.trans (List.getElem?_eq_getElem (by omega)))
  have e1 : DataW.trod enc Tryd.prog w base spare held m 29 ((cs.drop 1).take 1) = xs[1]? := hf 1 (by decide)
  obtain ⟨x1, k1, w1⟩ := opn29 (e1.trans (List.getElem?_eq_getElem (by omega)))
  refine ⟨⟨x0, x1⟩, ?_, w0, w1⟩
  have hk : k42.K w (⟨x0, x1⟩ : S42) (cs.drop 0) := ⟨_, _, drop_split (s := 1) (q := 1) rfl, k0, (by rw [drop_last (by omega)] at k1; exact k1)⟩
  rwa [List.drop_zero] at hk
theorem c91_ : Tryd.prog.cellsOf 91 = 5 := by kernel_rfl
def wf91 (x : S91) : Prop := wf42 x.f0 ∧ (Lit.int .i8 x.f1).wf = true ∧ (Lit.int .i8 x.f2).wf = true ∧ (Lit.int .i8 x.f3).wf = true
theorem opn91 {H : Type} {enc : TypeId × Value → H} {w : World} {base : Nat} {spare : Nat → Bool} {held : Bool} {fuel : Nat} {cs : List Value} {y : DataW H × List MemPlace} (h : DataW.trod enc Tryd.prog w base spare held fuel 91 cs = some y) : ∃ x : S91, k91.K w x cs ∧ wf91 x := by
  obtain ⟨xs, m, _, _, hl, hx, hf⟩ := DataW.trod_struct Tryd.underlying91 h
  have hl' : cs.length = 5 := hl.trans c91_
  have hx' : xs.length = 4 := hx
  have e0 : DataW.trod enc Tryd.prog w base spare held m 42 ((cs.drop 0).take 2) = xs[0]? := by have h_ : DataW.trod enc Tryd.prog w base spare held m 42 ((cs.drop 0).take (Tryd.prog.cellsOf 42)) = xs[0]? := hf 0 _ rfl; rw [c42_] at h_; exact h_
  obtain ⟨x0, k0, w0⟩ := opn42 (e0.trans (List.getElem?_eq_getElem (by omega)))
  have e1 : DataW.trod enc Tryd.prog w base spare held m 29 ((cs.drop 2).take 1) = xs[1]? := by have h_ : DataW.trod enc Tryd.prog w base spare held m 29 ((cs.drop 2).take (Tryd.prog.cellsOf 29)) = xs[1]? := hf 1 _ rfl; rw [c29_] at h_; exact h_
  obtain ⟨x1, k1, w1⟩ := opn29 (e1.trans (List.getElem?_eq_getElem (by omega)))
  have e2 : DataW.trod enc Tryd.prog w base spare held m 29 ((cs.drop 3).take 1) = xs[2]? := by have h_ : DataW.trod enc Tryd.prog w base spare held m 29 ((cs.drop 3).take (Tryd.prog.cellsOf 29)) = xs[2]? := hf 2 _ rfl; rw [c29_] at h_; exact h_
  obtain ⟨x2, k2, w2⟩ := opn29 (e2.trans (List.getElem?_eq_getElem (by omega)))
  have e3 : DataW.trod enc Tryd.prog w base spare held m 29 ((cs.drop 4).take 1) = xs[3]? := by have h_ : DataW.trod enc Tryd.prog w base spare held m 29 ((cs.drop 4).take (Tryd.prog.cellsOf 29)) = xs[3]? := hf 3 _ rfl; rw [c29_] at h_; exact h_
  obtain ⟨x3, k3, w3⟩ := opn29 (e3.trans (List.getElem?_eq_getElem (by omega)))
  refine ⟨⟨x0, x1, x2, x3⟩, ?_, w0, w1, w2, w3⟩
  have hk : k91.K w (⟨x0, x1, x2, x3⟩ : S91) (cs.drop 0) := ⟨_, _, drop_split (s := 2) (q := 2) rfl, k0, ⟨_, _, drop_split (s := 1) (q := 3) rfl, k1, ⟨_, _, drop_split (s := 1) (q := 4) rfl, k2, (by rw [drop_last (by omega)] at k3; exact k3)⟩⟩⟩
  rwa [List.drop_zero] at hk
theorem c30_ : Tryd.prog.cellsOf 30 = 1 := by kernel_rfl
theorem opn30 {H : Type} {enc : TypeId × Value → H} {w : World} {base : Nat} {spare : Nat → Bool} {held : Bool} {fuel : Nat} {cs : List Value} {y : DataW H × List MemPlace} (h : DataW.trod enc Tryd.prog w base spare held fuel 30 cs = some y) : ∃ x : List (S91), (Kd.slice 91 k91).K w x cs ∧ ((∀ x_ ∈ x, wf91 x_) ∧ x.length ≤ 9223372036854775807) := by
  exact opens_slice k91 (fun x_ => wf91 x_) Tryd.underlying30 (by kernel_rfl) (fun _ _ _ h_ => opn91 h_) h
theorem c32_ : Tryd.prog.cellsOf 32 = 3 := by kernel_rfl
def wf32 (x : S32) : Prop := (Lit.int .i8 x.f0).wf = true ∧ (Lit.int .i8 x.f1).wf = true ∧ ((∀ x_ ∈ x.f2, wf91 x_) ∧ x.f2.length ≤ 9223372036854775807)
theorem opn32 {H : Type} {enc : TypeId × Value → H} {w : World} {base : Nat} {spare : Nat → Bool} {held : Bool} {fuel : Nat} {cs : List Value} {y : DataW H × List MemPlace} (h : DataW.trod enc Tryd.prog w base spare held fuel 32 cs = some y) : ∃ x : S32, k32.K w x cs ∧ wf32 x := by
  obtain ⟨xs, m, _, _, hl, hx, hf⟩ := DataW.trod_struct Tryd.underlying32 h
  have hl' : cs.length = 3 := hl.trans c32_
  have hx' : xs.length = 3 := hx
  have e0 : DataW.trod enc Tryd.prog w base spare held m 29 ((cs.drop 0).take 1) = xs[0]? := by have h_ : DataW.trod enc Tryd.prog w base spare held m 29 ((cs.drop 0).take (Tryd.prog.cellsOf 29)) = xs[0]? := hf 0 _ rfl; rw [c29_] at h_; exact h_
  obtain ⟨x0, k0, w0⟩ := opn29 (e0.trans (List.getElem?_eq_getElem (by omega)))
  have e1 : DataW.trod enc Tryd.prog w base spare held m 29 ((cs.drop 1).take 1) = xs[1]? := by have h_ : DataW.trod enc Tryd.prog w base spare held m 29 ((cs.drop 1).take (Tryd.prog.cellsOf 29)) = xs[1]? := hf 1 _ rfl; rw [c29_] at h_; exact h_
  obtain ⟨x1, k1, w1⟩ := opn29 (e1.trans (List.getElem?_eq_getElem (by omega)))
  have e2 : DataW.trod enc Tryd.prog w base spare held m 30 ((cs.drop 2).take 1) = xs[2]? := by have h_ : DataW.trod enc Tryd.prog w base spare held m 30 ((cs.drop 2).take (Tryd.prog.cellsOf 30)) = xs[2]? := hf 2 _ rfl; rw [c30_] at h_; exact h_
  obtain ⟨x2, k2, w2⟩ := opn30 (e2.trans (List.getElem?_eq_getElem (by omega)))
  refine ⟨⟨x0, x1, x2⟩, ?_, w0, w1, w2⟩
  have hk : k32.K w (⟨x0, x1, x2⟩ : S32) (cs.drop 0) := ⟨_, _, drop_split (s := 1) (q := 1) rfl, k0, ⟨_, _, drop_split (s := 1) (q := 2) rfl, k1, (by rw [drop_last (by omega)] at k2; exact k2)⟩⟩
  rwa [List.drop_zero] at hk
def Pure : Prop := ∀ (x0 : S32), wf32 x0 → ∃ k, laws_FnExactBoardText.f k x0.f0 x0.f1 x0.f2 = some true
end Go.Proofs.YtnbjijkpenlpbaaDoor.QFnExactBoardText
