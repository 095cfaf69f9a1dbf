-- WRITTEN by xrow.py, a program of this session's. Not trusted: Lean checks it.
import Derived.Test.YtnbjijkpenlpbaaDoorPFnExactPushesTextx5
import Derived.Test.YtnbjijkpenlpbaaDoorTFnExactPushesTexta
import Derived.WalkKit
import Derived.KernelRfl
namespace Go.Proofs.YtnbjijkpenlpbaaDoor.QFnExactPushesText
open Go.RowKit Go.Proofs.YtnbjijkpenlpbaaDoor.PFnExactPushesText Go.Proofs.YtnbjijkpenlpbaaDoorW.PrintWords Go.Proofs.YtnbjijkpenlpbaaDoorW.PrintLast Go.Proofs.YtnbjijkpenlpbaaDoorX
open Go.ChangeShapes Go.WideShapes
set_option linter.unusedVariables false
theorem c29_ : Tryd.prog.cellsOf 29 = 1 := by kernel_rfl
theorem opn29 {H : Type} {enc : TypeId × Value → H} {w : World} {base : Nat} {spare : Nat → Bool} {held : Bool} {fuel : Nat} {cs : List Value} {y : DataW H × List MemPlace} (h : DataW.trod enc Tryd.prog w base spare held fuel 29 cs = some y) : ∃ x : Int, (Kd.int .i8).K w x cs ∧ (Lit.int .i8 x).wf = true := by
  obtain ⟨n, h1, _, h2⟩ := DataW.trod_int Tryd.underlying29 h
  exact ⟨n, h1, h2⟩
theorem c42_ : Tryd.prog.cellsOf 42 = 2 := by kernel_rfl
def wf42 (x : S42) : Prop := (Lit.int .i8 x.f0).wf = true ∧ (Lit.int .i8 x.f1).wf = true
theorem opn42 {H : Type} {enc : TypeId × Value → H} {w : World} {base : Nat} {spare : Nat → Bool} {held : Bool} {fuel : Nat} {cs : List Value} {y : DataW H × List MemPlace} (h : DataW.trod enc Tryd.prog w base spare held fuel 42 cs = some y) : ∃ x : S42, k42.K w x cs ∧ wf42 x := by
  obtain ⟨xs, m, _, _, hl, hx, hf⟩ := DataW.trod_array Tryd.underlying42 h
  have hl' : cs.length = 2 := hl.trans c42_
  have hx' : xs.length = 2 := hx
  rw [c29_] at hf
  have e0 : DataW.trod enc Tryd.prog w base spare held m 29 ((cs.drop 0).take 1) = xs[0]? := hf 0 (by decide)
  obtain ⟨x0, k0, w0⟩ := opn29 (e0.trans (List.getElem?_eq_getElem (by omega)))
  have e1 : DataW.trod enc Tryd.prog w base spare held m 29 ((cs.drop 1).take 1) = xs[1]? := hf 1 (by decide)
  obtain ⟨x1, k1, w1⟩ := opn29 (e1.trans (List.getElem?_eq_getElem (by omega)))
  refine ⟨⟨x0, x1⟩, ?_, w0, w1⟩
  have hk : k42.K w (⟨x0, x1⟩ : S42) (cs.drop 0) := ⟨_, _, drop_split (s := 1) (q := 1) rfl, k0, (by rw [drop_last (by omega)] at k1; exact k1)⟩
  rwa [List.drop_zero] at hk
theorem c44_ : Tryd.prog.cellsOf 44 = 1 := by kernel_rfl
theorem opn44 {H : Type} {enc : TypeId × Value → H} {w : World} {base : Nat} {spare : Nat → Bool} {held : Bool} {fuel : Nat} {cs : List Value} {y : DataW H × List MemPlace} (h : DataW.trod enc Tryd.prog w base spare held fuel 44 cs = some y) : ∃ x : Int, (Kd.int .i16).K w x cs ∧ (Lit.int .i16 x).wf = true := by
  obtain ⟨n, h1, _, h2⟩ := DataW.trod_int Tryd.underlying44 h
  exact ⟨n, h1, h2⟩
theorem c49_ : Tryd.prog.cellsOf 49 = 4 := by kernel_rfl
def wf49 (x : S49) : Prop := wf42 x.f0 ∧ (Lit.int .i8 x.f1).wf = true ∧ (Lit.int .i16 x.f2).wf = true
theorem opn49 {H : Type} {enc : TypeId × Value → H} {w : World} {base : Nat} {spare : Nat → Bool} {held : Bool} {fuel : Nat} {cs : List Value} {y : DataW H × List MemPlace} (h : DataW.trod enc Tryd.prog w base spare held fuel 49 cs = some y) : ∃ x : S49, k49.K w x cs ∧ wf49 x := by
  obtain ⟨xs, m, _, _, hl, hx, hf⟩ := DataW.trod_struct Tryd.underlying49 h
  have hl' : cs.length = 4 := hl.trans c49_
  have hx' : xs.length = 3 := hx
  have e0 : DataW.trod enc Tryd.prog w base spare held m 42 ((cs.drop 0).take 2) = xs[0]? := by have h_ : DataW.trod enc Tryd.prog w base spare held m 42 ((cs.drop 0).take (Tryd.prog.cellsOf 42)) = xs[0]? := hf 0 _ rfl; rw [c42_] at h_; exact h_
  obtain ⟨x0, k0, w0⟩ := opn42 (e0.trans (List.getElem?_eq_getElem (by omega)))
  have e1 : DataW.trod enc Tryd.prog w base spare held m 29 ((cs.drop 2).take 1) = xs[1]? := by have h_ : DataW.trod enc Tryd.prog w base spare held m 29 ((cs.drop 2).take (Tryd.prog.cellsOf 29)) = xs[1]? := hf 1 _ rfl; rw [c29_] at h_; exact h_
  obtain ⟨x1, k1, w1⟩ := opn29 (e1.trans (List.getElem?_eq_getElem (by omega)))
  have e2 : DataW.trod enc Tryd.prog w base spare held m 44 ((cs.drop 3).take 1) = xs[2]? := by have h_ : DataW.trod enc Tryd.prog w base spare held m 44 ((cs.drop 3).take (Tryd.prog.cellsOf 44)) = xs[2]? := hf 2 _ rfl; rw [c44_] at h_; exact h_
  obtain ⟨x2, k2, w2⟩ := opn44 (e2.trans (List.getElem?_eq_getElem (by omega)))
  refine ⟨⟨x0, x1, x2⟩, ?_, w0, w1, w2⟩
  have hk : k49.K w (⟨x0, x1, x2⟩ : S49) (cs.drop 0) := ⟨_, _, drop_split (s := 2) (q := 2) rfl, k0, ⟨_, _, drop_split (s := 1) (q := 3) rfl, k1, (by rw [drop_last (by omega)] at k2; exact k2)⟩⟩
  rwa [List.drop_zero] at hk
theorem c22_ : Tryd.prog.cellsOf 22 = 1 := by kernel_rfl
theorem opn22 {H : Type} {enc : TypeId × Value → H} {w : World} {base : Nat} {spare : Nat → Bool} {held : Bool} {fuel : Nat} {cs : List Value} {y : DataW H × List MemPlace} (h : DataW.trod enc Tryd.prog w base spare held fuel 22 cs = some y) : ∃ x : List (S49), (Kd.slice 49 k49).K w x cs ∧ ((∀ x_ ∈ x, wf49 x_) ∧ x.length ≤ 9223372036854775807) := by
  exact opens_slice k49 (fun x_ => wf49 x_) Tryd.underlying22 (by kernel_rfl) (fun _ _ _ h_ => opn49 h_) h
def Pure : Prop := ∀ (x0 : List (S49)), ((∀ x_ ∈ x0, wf49 x_) ∧ x0.length ≤ 9223372036854775807) → ∃ k, laws_FnExactPushesText.f k x0 = some true
end Go.Proofs.YtnbjijkpenlpbaaDoor.QFnExactPushesText
