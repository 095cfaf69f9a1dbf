/- Arguments that came in, laid open to lists and structs: what the rows of our laws use. No condition beside what each names. -/
import Derived.Test.YtkcbcbannbllaaaXArr
import Derived.WalkKit
import Derived.ProofKit
import Derived.OpenShut
import Derived.Deep.Slices
namespace Go.Proofs.YtkcbcbannbllaaaX
open Go.RowKit Go.Proofs.YtkcbcbannbllaaaW.PrintWords
section
open Go.ChangeShapes Go.WideShapes
variable {H : Type} {enc : TypeId × Value → H} {P : Program} {w : World} {base : Nat} {spare : Nat → Bool} {held : Bool} {fuel : Nat} {cs : List Value} {y : DataW H × List MemPlace}
theorem okWide_array {r : Reach} {b0 : Nat} {t e : TypeId} {n : Nat} {v : Value} (ht : P.underlying t = some (.array n e)) (h : Value.okWide P w r b0 t v) : ∃ cs, v = .agg cs ∧ cs.size = P.cellsOf t := by
  simp only [Value.okWide, ht] at h
  obtain ⟨cs, h1, h2, _⟩ := h
  exact ⟨cs, h1, h2⟩
theorem drop_split {l : List Value} {o s q : Nat} (h : q = o + s) : l.drop o = (l.drop o).take s ++ l.drop q := by
  subst h; rw [← List.drop_drop]; exact (List.take_append_drop s _).symm
theorem drop_last {l : List Value} {o s : Nat} (h : l.length = o + s) : (l.drop o).take s = l.drop o := List.take_of_length_le (by simp; omega)
/-- A slice that came in, as a list, if its elements can be told. -/
theorem opens_slice {α : Type} (d : Kd α) (wf : α → Prop) {t e : TypeId} (ht : P.underlying t = some (.slice e)) (hsz : P.cellsOf e = d.sz)
    (hel : ∀ fuel cs y, DataW.trod enc P w base spare held fuel e cs = some y → ∃ x, d.K w x cs ∧ wf x) (h : DataW.trod enc P w base spare held fuel t cs = some y) :
    ∃ l : List α, (Kd.slice e d).K w l cs ∧ (∀ x ∈ l, wf x) ∧ l.length ≤ 9223372036854775807 := by
  suffices hh : ∃ l : List α, (Kd.slice e d).K w l cs ∧ ∀ x ∈ l, wf x by
    obtain ⟨l, hk, hw⟩ := hh
    obtain ⟨A, c, h1, h2, h3⟩ := hk
    exact ⟨l, ⟨A, c, h1, h2, h3⟩, hw, h3.2.1⟩
  rcases Go.Deep.open_slice ht h with ⟨rfl, _⟩ | ⟨a, len, cap, m, n, D, Pl, rfl, _, hl, hm, hmm, _, hi⟩
  · exact ⟨[], ⟨none, 0, rfl, Nat.le_refl _, Kd.C_nil _ _⟩, by simp⟩
  · have hlm : len ≤ m := by rw [hmm]; split <;> omega
    have hx : ∀ i : Fin len, ∃ x : α, wf x ∧ ∃ c, c.length = d.sz ∧ d.K w x c ∧ ∀ j u, c[j]? = some u → w.cell? (a.add (i.1 * d.sz + j)) = some u := by
      intro i
      obtain ⟨c, hc, htr⟩ := hi i.1 (by have := i.2; omega)
      obtain ⟨x, hk, hw⟩ := hel _ _ _ htr
      obtain ⟨_, hlen, hat⟩ := World.cells?_some hc
      refine ⟨x, hw, c, by rw [hlen, hsz], hk, fun j u hu => ?_⟩
      have hj : j < P.cellsOf e := by
        have := (List.getElem?_eq_some_iff.1 hu).1; omega
      have := hat j hj
      rw [add_add, hsz] at this
      rw [this, hu]
    obtain ⟨X, hX⟩ := Classical.axiomOfChoice hx
    refine ⟨List.ofFn X, ⟨some a, cap, by rw [List.length_ofFn], by rw [List.length_ofFn]; exact hl, ?_⟩, ?_⟩
    · refine ⟨rfl, by rw [List.length_ofFn]; unfold maxLen at hm; omega, fun _ => ⟨a, rfl, fun j p hj => ?_⟩⟩
      have hj' : j < len := by have := (List.getElem?_eq_some_iff.1 hj).1; rwa [List.length_ofFn] at this
      rw [List.getElem?_ofFn, dif_pos hj'] at hj
      obtain rfl := Option.some.inj hj
      obtain ⟨_, c, h1, h2, h3⟩ := hX ⟨j, hj'⟩
      exact ⟨c, h1, h2, h3⟩
    · intro x hx'
      rw [List.mem_ofFn] at hx'
      obtain ⟨i, rfl⟩ := hx'
      exact (hX i).1
end
end Go.Proofs.YtkcbcbannbllaaaX
