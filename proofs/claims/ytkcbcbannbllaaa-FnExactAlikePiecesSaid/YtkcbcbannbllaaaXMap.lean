/- What a cell holds behind a store into it, told without a condition: for a second store into one cell. -/
import Derived.WalkKit
import Derived.RowKit
import Derived.Below
namespace Go.Proofs.YtkcbcbannbllaaaX
@[go_sem] theorem cell?_setCell_map (w : World) (p : Addr) (v : Value) : (w.setCell p v).cell? p = (w.cell? p).map fun _ => v := by
  cases h : w.cell? p with
  | some u => rw [World.cell?_setCell_same w p v h]; rfl
  | none =>
    rw [Option.map_none]
    unfold World.setCell World.cell? at *
    simp only [Array.getElem?_modify, if_true] at h ⊢
    cases hb : w.heap[p.block]? with
    | none => simp
    | some o =>
      rw [hb] at h
      cases o <;> simp at h ⊢
      intro hs
      simpa [hs] using h hs
end Go.Proofs.YtkcbcbannbllaaaX
