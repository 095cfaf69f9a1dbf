-- WRITTEN by xrow.py, a program of this session's. Not trusted: Lean checks it.
import Derived.Test.YtmpmanfoiocfgaaPFnExactBothNetworksx9
import Derived.Test.YtmpmanfoiocfgaaTFnExactBothNetworksa
import Derived.WalkKit
import Derived.KernelRfl
namespace Go.Proofs.Ytmpmanfoiocfgaa.QFnExactBothNetworks
open Go.RowKit Go.Proofs.Ytmpmanfoiocfgaa.PFnExactBothNetworks Go.Proofs.YtmpmanfoiocfgaaW.PrintWords Go.Proofs.YtmpmanfoiocfgaaW.PrintLast Go.Proofs.YtmpmanfoiocfgaaX
open Go.ChangeShapes Go.WideShapes
set_option linter.unusedVariables false
theorem c22_ : Try.prog.cellsOf 22 = 1 := by kernel_rfl
theorem opn22 {H : Type} {enc : TypeId × Value → H} {w : World} {base : Nat} {spare : Nat → Bool} {held : Bool} {fuel : Nat} {cs : List Value} {y : DataW H × List MemPlace} (h : DataW.trod enc Try.prog w base spare held fuel 22 cs = some y) : ∃ x : Int, (Kd.int .i8).K w x cs ∧ (Lit.int .i8 x).wf = true := by
  obtain ⟨n, h1, _, h2⟩ := DataW.trod_int Try.underlying22 h
  exact ⟨n, h1, h2⟩
theorem c79_ : Try.prog.cellsOf 79 = 1 := by kernel_rfl
theorem opn79 {H : Type} {enc : TypeId × Value → H} {w : World} {base : Nat} {spare : Nat → Bool} {held : Bool} {fuel : Nat} {cs : List Value} {y : DataW H × List MemPlace} (h : DataW.trod enc Try.prog w base spare held fuel 79 cs = some y) : ∃ x : Int, (Kd.int .i16).K w x cs ∧ (Lit.int .i16 x).wf = true := by
  obtain ⟨n, h1, _, h2⟩ := DataW.trod_int Try.underlying79 h
  exact ⟨n, h1, h2⟩
theorem c131_ : Try.prog.cellsOf 131 = 3 := by kernel_rfl
def wf131 (x : S131) : Prop := (Lit.int .i8 x.f0).wf = true ∧ (Lit.int .i16 x.f1).wf = true ∧ (Lit.int .i16 x.f2).wf = true
theorem opn131 {H : Type} {enc : TypeId × Value → H} {w : World} {base : Nat} {spare : Nat → Bool} {held : Bool} {fuel : Nat} {cs : List Value} {y : DataW H × List MemPlace} (h : DataW.trod enc Try.prog w base spare held fuel 131 cs = some y) : ∃ x : S131, k131.K w x cs ∧ wf131 x := by
  obtain ⟨xs, m, _, _, hl, hx, hf⟩ := DataW.trod_struct Try.underlying131 h
  have hl' : cs.length = 3 := hl.trans c131_
  have hx' : xs.length = 3 := hx
  have e0 : DataW.trod enc Try.prog w base spare held m 22 ((cs.drop 0).take 1) = xs[0]? := by have h_ : DataW.trod enc Try.prog w base spare held m 22 ((cs.drop 0).take (Try.prog.cellsOf 22)) = xs[0]? := hf 0 _ rfl; rw [c22_] at h_; exact h_
  obtain ⟨x0, k0, w0⟩ := opn22 (e0.trans (List.getElem?_eq_getElem (by omega)))
  have e1 : DataW.trod enc Try.prog w base spare held m 79 ((cs.drop 1).take 1) = xs[1]? := by have h_ : DataW.trod enc Try.prog w base spare held m 79 ((cs.drop 1).take (Try.prog.cellsOf 79)) = xs[1]? := hf 1 _ rfl; rw [c79_] at h_; exact h_
  obtain ⟨x1, k1, w1⟩ := opn79 (e1.trans (List.getElem?_eq_getElem (by omega)))
  have e2 : DataW.trod enc Try.prog w base spare held m 79 ((cs.drop 2).take 1) = xs[2]? := by have h_ : DataW.trod enc Try.prog w base spare held m 79 ((cs.drop 2).take (Try.prog.cellsOf 79)) = xs[2]? := hf 2 _ rfl; rw [c79_] at h_; exact h_
  obtain ⟨x2, k2, w2⟩ := opn79 (e2.trans (List.getElem?_eq_getElem (by omega)))
  refine ⟨⟨x0, x1, x2⟩, ?_, w0, w1, w2⟩
  have hk : k131.K w (⟨x0, x1, x2⟩ : S131) (cs.drop 0) := ⟨_, _, drop_split (s := 1) (q := 1) rfl, k0, ⟨_, _, drop_split (s := 1) (q := 2) rfl, k1, (by rw [drop_last (by omega)] at k2; exact k2)⟩⟩
  rwa [List.drop_zero] at hk
theorem c23_ : Try.prog.cellsOf 23 = 1 := by kernel_rfl
theorem opn23 {H : Type} {enc : TypeId × Value → H} {w : World} {base : Nat} {spare : Nat → Bool} {held : Bool} {fuel : Nat} {cs : List Value} {y : DataW H × List MemPlace} (h : DataW.trod enc Try.prog w base spare held fuel 23 cs = some y) : ∃ x : List (S131), (Kd.slice 131 k131).K w x cs ∧ ((∀ x_ ∈ x, wf131 x_) ∧ x.length ≤ 9223372036854775807) := by
  exact opens_slice k131 (fun x_ => wf131 x_) Try.underlying23 (by kernel_rfl) (fun _ _ _ h_ => opn131 h_) h
theorem c24_ : Try.prog.cellsOf 24 = 1 := by kernel_rfl
theorem opn24 {H : Type} {enc : TypeId × Value → H} {w : World} {base : Nat} {spare : Nat → Bool} {held : Bool} {fuel : Nat} {cs : List Value} {y : DataW H × List MemPlace} (h : DataW.trod enc Try.prog w base spare held fuel 24 cs = some y) : ∃ x : List Int, (Kd.slice 79 (Kd.int .i16)).K w x cs ∧ ((∀ x_ ∈ x, (Lit.int .i16 x_).wf = true) ∧ x.length ≤ 9223372036854775807) := by
  exact opens_slice (Kd.int .i16) (fun x_ => (Lit.int .i16 x_).wf = true) Try.underlying24 (by kernel_rfl) (fun _ _ _ h_ => opn79 h_) h
theorem c26_ : Try.prog.cellsOf 26 = 3 := by kernel_rfl
def wf26 (x : S26) : Prop := (Lit.int .i8 x.f0).wf = true ∧ ((∀ x_ ∈ x.f1, wf131 x_) ∧ x.f1.length ≤ 9223372036854775807) ∧ ((∀ x_ ∈ x.f2, (Lit.int .i16 x_).wf = true) ∧ x.f2.length ≤ 9223372036854775807)
theorem opn26 {H : Type} {enc : TypeId × Value → H} {w : World} {base : Nat} {spare : Nat → Bool} {held : Bool} {fuel : Nat} {cs : List Value} {y : DataW H × List MemPlace} (h : DataW.trod enc Try.prog w base spare held fuel 26 cs = some y) : ∃ x : S26, k26.K w x cs ∧ wf26 x := by
  obtain ⟨xs, m, _, _, hl, hx, hf⟩ := DataW.trod_struct Try.underlying26 h
  have hl' : cs.length = 3 := hl.trans c26_
  have hx' : xs.length = 3 := hx
  have e0 : DataW.trod enc Try.prog w base spare held m 22 ((cs.drop 0).take 1) = xs[0]? := by have h_ : DataW.trod enc Try.prog w base spare held m 22 ((cs.drop 0).take (Try.prog.cellsOf 22)) = xs[0]? := hf 0 _ rfl; rw [c22_] at h_; exact h_
  obtain ⟨x0, k0, w0⟩ := opn22 (e0.trans (List.getElem?_eq_getElem (by omega)))
  have e1 : DataW.trod enc Try.prog w base spare held m 23 ((cs.drop 1).take 1) = xs[1]? := by have h_ : DataW.trod enc Try.prog w base spare held m 23 ((cs.drop 1).take (Try.prog.cellsOf 23)) = xs[1]? := hf 1 _ rfl; rw [c23_] at h_; exact h_
  obtain ⟨x1, k1, w1⟩ := opn23 (e1.trans (List.getElem?_eq_getElem (by omega)))
  have e2 : DataW.trod enc Try.prog w base spare held m 24 ((cs.drop 2).take 1) = xs[2]? := by have h_ : DataW.trod enc Try.prog w base spare held m 24 ((cs.drop 2).take (Try.prog.cellsOf 24)) = xs[2]? := hf 2 _ rfl; rw [c24_] at h_; exact h_
  obtain ⟨x2, k2, w2⟩ := opn24 (e2.trans (List.getElem?_eq_getElem (by omega)))
  refine ⟨⟨x0, x1, x2⟩, ?_, w0, w1, w2⟩
  have hk : k26.K w (⟨x0, x1, x2⟩ : S26) (cs.drop 0) := ⟨_, _, drop_split (s := 1) (q := 1) rfl, k0, ⟨_, _, drop_split (s := 1) (q := 2) rfl, k1, (by rw [drop_last (by omega)] at k2; exact k2)⟩⟩
  rwa [List.drop_zero] at hk
def Pure : Prop := ∀ (x0 : S26) (x1 : S26), wf26 x0 → wf26 x1 → ∃ k, laws_FnExactBothNetworks.f k x0.f0 x0.f1 x0.f2 x1.f0 x1.f1 x1.f2 = some true
end Go.Proofs.Ytmpmanfoiocfgaa.QFnExactBothNetworks
