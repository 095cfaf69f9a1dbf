/- The pure side of the law FnExactSameBoard: for all arguments its Lean function answers true. No condition beside the arguments' kinds. -/
import Derived.Test.YtkcbcbannbllaaaQFnExactSameBoard
import Derived.Test.YtkcbcbannbllaaaPB
namespace Go.Proofs.Ytkcbcbannbllaaa.Pure
open Go.RowKit Go.Proofs.Ytkcbcbannbllaaa.PFnExactSameBoard Go.Proofs.YtkcbcbannbllaaaW.PrintWords Go.Proofs.YtkcbcbannbllaaaW.PrintLast Go.Proofs.YtkcbcbannbllaaaX Go.Proofs.Ytkcbcbannbllaaa.QFnExactSameBoard Go.Proofs.YtkcbcbannbllaaaB
set_option linter.unusedVariables false
set_option linter.unusedSimpArgs false

theorem szPieceS (l0 : List (S30)) (a_ : Int) (ha : 0 ≤ a_ ∧ a_ ≤ 1048576) (hl0 : l0.length ≤ 9223372036854775807) : ∃ r, laws_szPieceS.f l0 a_ = some r ∧ (r < 0 ∨ (r = a_ - l0.length ∧ 0 ≤ r)) := by
  unfold laws_szPieceS.f
  rw [w64 (n := a_ - l0.length) (by omega)]
  by_cases h : a_ - (l0.length : Int) < 0
  · exact ⟨-1, by rw [if_pos h], .inl (by omega)⟩
  · exact ⟨_, by rw [if_neg h], .inr ⟨rfl, by omega⟩⟩
theorem szBoard (a0_0 : Int) (a0_1 : Int) (l0_2 : List (S30)) (a_ : Int) (ha : 0 ≤ a_ ∧ a_ ≤ 1048576) (hl0_2 : l0_2.length ≤ 9223372036854775807) : ∃ r, laws_szBoard.f a0_0 a0_1 l0_2 a_ = some r ∧ (r < 0 ∨ (r = a_ - l0_2.length ∧ 0 ≤ r)) := by
  unfold laws_szBoard.f
  obtain ⟨r0, e0, c0⟩ := szPieceS l0_2 (a_) (by omega) hl0_2
  rw [e0]
  simp only [Option.bind_some]
  rcases c0 with c0 | ⟨rfl, c0⟩
  · exact ⟨-1, by rw [if_pos c0], .inl (by omega)⟩
  rw [if_neg (by omega)]
  exact ⟨_, rfl, .inr ⟨rfl, by omega⟩⟩
theorem toCell (a0_0 : Int) (a0_1 : Int)  : Ev (fun k => laws_toCell.f k a0_0 a0_1) (a0_0, a0_1) := by
  refine ⟨3, fun k hk => ?_⟩
  obtain ⟨m, rfl⟩ : ∃ m, k = m + 3 := ⟨k - 3, by omega⟩
  simp [laws_toCell.f, laws_toCell.l0, wrap64]
theorem toPiece (a0_0 : Int) (a0_1 : Int) (a0_2 : Int) (a0_3 : Int) (a0_4 : Int)  : Ev (fun k => laws_toPiece.f k a0_0 a0_1 a0_2 a0_3 a0_4) (a0_0, a0_1, a0_2, a0_3, a0_4) := by
  unfold laws_toPiece.f
  exact (Ev.bind (toCell _ _ ) (Ev.now _))
def cv28_32 (x : S28) : S32 := ⟨x.f0, x.f1⟩
def cv30_34 (x : S30) : S34 := ⟨cv28_32 x.f0, x.f1, x.f2, x.f3⟩
theorem toPieceS (l0 : List (S30)) (hl0 : l0.length ≤ 1099511627776) : Ev (fun k => laws_toPieceS.f k l0) (l0.map cv30_34) := by
  suffices main : Ev (fun k => laws_toPieceS.f k l0) (l0.map cv30_34) by exact main
  unfold laws_toPieceS.f
  refine Ev.iteT (by omega) (Ev.iteT (by omega) ?_)
  rw [Int.toNat_natCast]
  refine ev_fill2 (g := fun k x i => laws_toPieceS.l0 k l0 x i) cv30_34 l0 _ (Ev.step (f := fun _ => some _) (fun k => by simp [laws_toPieceS.l0]) (Ev.now _)) fun i h x hx ih => ?_
  have eg : l0.getD i z30 = l0[i] := getD_at _ _ _ h
  refine Ev.step (fun k => by rw [laws_toPieceS.l0]) (Ev.iteT (by omega) (Ev.iteT (by omega) ?_))
  simp only [rd_T30, Int.toNat_natCast, eg]
  refine Ev.bind (toPiece _ _ _ _ _ ) ?_
  refine Ev.iteT (by omega) ?_
  rw [w64 (by omega)]
  exact ih
theorem toBoard (a0_0 : Int) (a0_1 : Int) (l0_2 : List (S30)) (hl0_2 : l0_2.length ≤ 1099511627776) : Ev (fun k => laws_toBoard.f k a0_0 a0_1 l0_2) (a0_0, a0_1, (l0_2.map cv30_34)) := by
  unfold laws_toBoard.f
  exact (Ev.bind (toPieceS _ (by first | omega | ((try dsimp only); (try simp only [List.length_map, List.length_range, List.length_nil]); omega) | (simp; omega))) (Ev.now _))
theorem eqCell (a0_0 : Int) (a0_1 : Int)  : Ev (fun k => laws_eqCell.f k a0_0 a0_1 a0_0 a0_1) true := by
  refine ⟨3, fun k hk => ?_⟩
  obtain ⟨m, rfl⟩ : ∃ m, k = m + 3 := ⟨k - 3, by omega⟩
  simp [laws_eqCell.f, laws_eqCell.l0, wrap64]
theorem eqPiece (a0_0 : Int) (a0_1 : Int) (a0_2 : Int) (a0_3 : Int) (a0_4 : Int)  : Ev (fun k => laws_eqPiece.f k a0_0 a0_1 a0_2 a0_3 a0_4 a0_0 a0_1 a0_2 a0_3 a0_4) true := by
  unfold laws_eqPiece.f
  exact (Ev.bind (eqCell _ _ ) (Ev.iteT rfl (Ev.iteT rfl (Ev.iteT rfl (Ev.iteT rfl (Ev.now _))))))
theorem eqPieceS (l0 : List (S34)) (hl0 : l0.length ≤ 1099511627776) : Ev (fun k => laws_eqPieceS.f k l0 l0) true := by
  unfold laws_eqPieceS.f
  refine Ev.iteT rfl ?_
  refine ev_loop2 (g := fun k i => laws_eqPieceS.l0 k l0 l0 i) (fun i => (i : Int)) l0.length (Ev.step (f := fun _ => some _) (fun k => by simp [laws_eqPieceS.l0]) (Ev.now _)) fun i h ih => ?_
  refine Ev.step (fun k => by rw [laws_eqPieceS.l0]) (Ev.iteT (by omega) (Ev.iteT (by omega) (Ev.iteT (by omega) ?_)))
  refine Ev.bind (eqPiece _ _ _ _ _ ) (Ev.iteT rfl ?_)
  rw [w64 (by omega)]
  exact ih
theorem eqBoard (a0_0 : Int) (a0_1 : Int) (l0_2 : List (S34)) (hl0_2 : l0_2.length ≤ 1099511627776) : Ev (fun k => laws_eqBoard.f k a0_0 a0_1 l0_2 a0_0 a0_1 l0_2) true := by
  unfold laws_eqBoard.f
  exact (Ev.iteT rfl (Ev.iteT rfl (Ev.bind (eqPieceS _ (by first | omega | ((try dsimp only); (try simp only [List.length_map, List.length_range, List.length_nil]); omega) | (simp; omega))) (Ev.iteT rfl (Ev.now _)))))
def ok32 (x : S32) : Prop := (-128 ≤ x.f0 ∧ x.f0 ≤ 127) ∧ (-128 ≤ x.f1 ∧ x.f1 ≤ 127)
def ok34 (x : S34) : Prop := ok32 x.f0 ∧ (-128 ≤ x.f1 ∧ x.f1 ≤ 127) ∧ (-128 ≤ x.f2 ∧ x.f2 ≤ 127) ∧ (-128 ≤ x.f3 ∧ x.f3 ≤ 127)
theorem okof28_32 {x : S28} (h : wf28 x) : ok32 (cv28_32 x) := by
  obtain ⟨h0, h1⟩ := h
  exact ⟨(i8b h0), (i8b h1)⟩
theorem okof30_34 {x : S30} (h : wf30 x) : ok34 (cv30_34 x) := by
  obtain ⟨h0, h1, h2, h3⟩ := h
  exact ⟨(okof28_32 h0), (i8b h1), (i8b h2), (i8b h3)⟩
theorem piece_ne (a b : S34) : ((!(a.f0.f0 == b.f0.f0) || !(a.f0.f1 == b.f0.f1)) || (!(a.f1 == b.f1) || (!(a.f2 == b.f2) || !(a.f3 == b.f3)))) = true ↔ a ≠ b := by
  obtain ⟨⟨a0, a1⟩, a2, a3, a4⟩ := a
  obtain ⟨⟨b0, b1⟩, b2, b3, b4⟩ := b
  simp
  by_cases h : a0 = b0 <;> by_cases h' : a1 = b1 <;> by_cases h2 : a2 = b2 <;> by_cases h3 : a3 = b3 <;> simp [h, h', h2, h3]
theorem piece_loop (l m : List (S34)) (hl : l.length ≤ 1048576) (hlm : l.length = m.length) : ∃ r, Ev (fun k => impl_Piece.l0 k l m l.length 0) r ∧ (r = true ↔ l = m) := by
  rw [← eq_of_getD z34 hlm]
  refine ev_all (g := fun k i => impl_Piece.l0 k l m l.length i) _ (fun k => by simp [impl_Piece.l0]) (fun i h hp => ⟨0, fun k _ => ?_⟩) (fun i h hp => ⟨0, fun k _ => ?_⟩)
  all_goals
    simp only [impl_Piece.l0]
    rw [if_pos (by omega), if_pos (by omega), if_pos (by omega), if_pos (by omega)]
  · refine Eq.trans (if_neg (fun h => (piece_ne _ _).1 h hp)) ?_; rw [w64 (by omega)]; rfl
  · exact if_pos ((piece_ne _ _).2 hp)
theorem l01Same_loop (a b c d : Int) (l m : List (S34)) (hl : l.length ≤ 1048576) (hlm : l.length = m.length) : ∃ r, Ev (fun k => spec_l01Same.l0 k [⟨a, b, l⟩] [⟨c, d, m⟩] 0) r ∧ (r = true ↔ l = m) := by
  rw [← eq_of_getD z34 hlm]
  have h0 : ∀ a b l, rd_T59 [(⟨a, b, l⟩ : S59)] 0 = ⟨a, b, l⟩ := fun _ _ _ => rfl
  refine ev_all (g := fun k i => spec_l01Same.l0 k [⟨a, b, l⟩] [⟨c, d, m⟩] i) _ (fun k => by simp [spec_l01Same.l0, h0]) (fun i h hp => ⟨0, fun k _ => ?_⟩) (fun i h hp => ⟨0, fun k _ => ?_⟩)
  all_goals
    simp only [spec_l01Same.l0, h0]
    rw [if_pos (by simp), if_pos (by omega), if_pos (by omega), if_pos (by simp), if_pos (by omega)]
  · refine Eq.trans (if_neg (fun h => (piece_ne _ _).1 h hp)) ?_; rw [w64 (by omega)]; rfl
  · exact if_pos ((piece_ne _ _).2 hp)
theorem l01Same (a b c d : Int) (l m : List (S34)) (hl : l.length ≤ 1048576) : ∃ r, Ev (fun k => spec_l01Same.f k [⟨a, b, l⟩] [⟨c, d, m⟩]) r ∧ (r = true ↔ a = c ∧ b = d ∧ l = m) := by
  have h0 : ∀ a b l, rd_T59 [(⟨a, b, l⟩ : S59)] 0 = ⟨a, b, l⟩ := fun _ _ _ => rfl
  have hj : Ev (fun k => spec_l01Same.j0 k [⟨a, b, l⟩] [⟨c, d, m⟩] true) false := Ev.step (f := fun _ => some false) (fun k => by simp [spec_l01Same.j0]) (Ev.now _)
  unfold spec_l01Same.f
  simp only [h0]
  by_cases h1 : a = c
  · by_cases h2 : b = d
    · by_cases h3 : l.length = m.length
      · have : ((l.length : Int) != (m.length : Int)) = false := by simp; omega
        obtain ⟨r, h4, h5⟩ := l01Same_loop a b c d l m hl h3
        exact ⟨r, Ev.iteT (by simp) (Ev.iteT (by simp) (Ev.iteT h1 (Ev.iteT h2 (Ev.step (fun k => by rw [this]; simp only [spec_l01Same.j0]; rw [if_neg (by simp)]) h4)))), by rw [h5]; simp [h1, h2]⟩
      · have : ((l.length : Int) != (m.length : Int)) = true := by simp; omega
        rw [this]
        exact ⟨false, Ev.iteT (by simp) (Ev.iteT (by simp) (Ev.iteT h1 (Ev.iteT h2 hj))), by simp; intro _ _ h; exact h3 (by rw [h])⟩
    · exact ⟨false, Ev.iteT (by simp) (Ev.iteT (by simp) (Ev.iteT h1 (Ev.iteF h2 hj))), by simp [h2]⟩
  · exact ⟨false, Ev.iteT (by simp) (Ev.iteT (by simp) (Ev.iteF h1 hj)), by simp [h1]⟩
theorem implSame (a b c d : Int) (l m : List (S34)) (hl : l.length ≤ 1048576) : ∃ r, Ev (fun k => impl_SameBoard.f k a b l c d m) r ∧ (r = true ↔ a = c ∧ b = d ∧ l = m) := by
  unfold impl_SameBoard.f impl_Piece.f
  by_cases h1 : a = c
  · by_cases h2 : b = d
    · by_cases h3 : l.length = m.length
      · obtain ⟨r, h4, h5⟩ := piece_loop l m hl h3
        exact ⟨r, Ev.iteT h1 (Ev.iteT h2 (Ev.bind (Ev.iteT (by omega) h4) (Ev.now _))), by rw [h5]; simp [h1, h2]⟩
      · exact ⟨false, Ev.iteT h1 (Ev.iteT h2 (Ev.bind (Ev.iteF (by omega) (Ev.now _)) (Ev.now _))), by simp; intro _ _ h; exact h3 (by rw [h])⟩
    · exact ⟨false, Ev.iteT h1 (Ev.iteF h2 (Ev.now _)), by simp [h2]⟩
  · exact ⟨false, Ev.iteF h1 (Ev.now _), by simp [h1]⟩

theorem core (x0_0 : Int) (x0_1 : Int) (x0_2 : List (S34)) (x1_0 : Int) (x1_1 : Int) (x1_2 : List (S34)) (ox0_0 : (-128 ≤ x0_0 ∧ x0_0 ≤ 127)) (ox0_1 : (-128 ≤ x0_1 ∧ x0_1 ≤ 127)) (ox0_2 : ∀ y ∈ x0_2, ok34 y) (nx0_2 : x0_2.length ≤ 1048576) (ox1_0 : (-128 ≤ x1_0 ∧ x1_0 ≤ 127)) (ox1_1 : (-128 ≤ x1_1 ∧ x1_1 ≤ 127)) (ox1_2 : ∀ y ∈ x1_2, ok34 y) (nx1_2 : x1_2.length ≤ 1048576) : ∃ r : Bool, Ev (fun k => spec_SameBoard.f k x0_0 x0_1 x0_2 x1_0 x1_1 x1_2) r ∧ Ev (fun k => impl_SameBoard.f k x0_0 x0_1 x0_2 x1_0 x1_1 x1_2) r ∧ True := by
  obtain ⟨r, h1, h2⟩ := l01Same x0_0 x0_1 x1_0 x1_1 x0_2 x1_2 nx0_2
  obtain ⟨q, h3, h4⟩ := implSame x0_0 x0_1 x1_0 x1_1 x0_2 x1_2 nx0_2
  obtain rfl := bool_same h2 h4
  refine ⟨r, ?_, h3, trivial⟩
  unfold spec_SameBoard.f
  exact Ev.bind h1 (Ev.now _)

theorem FnExactSameBoard : QFnExactSameBoard.Pure := by
  rintro ⟨x0_0, x0_1, x0_2⟩ ⟨x1_0, x1_1, x1_2⟩ ⟨wx0_0, wx0_1, wx0_2⟩ ⟨wx1_0, wx1_1, wx1_2⟩
  have ox0_0 : (-128 ≤ x0_0 ∧ x0_0 ≤ 127) := i8b wx0_0
  have ox0_1 : (-128 ≤ x0_1 ∧ x0_1 ≤ 127) := i8b wx0_1
  obtain ⟨wx0_2, mx0_2⟩ := wx0_2
  have mx0_2 : x0_2.length ≤ 9223372036854775807 := mx0_2
  have ox1_0 : (-128 ≤ x1_0 ∧ x1_0 ≤ 127) := i8b wx1_0
  have ox1_1 : (-128 ≤ x1_1 ∧ x1_1 ≤ 127) := i8b wx1_1
  obtain ⟨wx1_2, mx1_2⟩ := wx1_2
  have mx1_2 : x1_2.length ≤ 9223372036854775807 := mx1_2
  refine Ev.rounds (r := true) ?_
  unfold laws_FnExactSameBoard.f
  obtain ⟨r_0, e_0, c_0⟩ := szBoard x0_0 x0_1 x0_2 (1048576) (by omega) mx0_2
  refine Ev.bindc e_0 ?_
  rcases c_0 with c_0 | ⟨rfl, c_0⟩
  · exact Ev.iteT c_0 (Ev.now _)
  refine Ev.iteF (by omega) ?_
  refine Ev.step (fun k => by rw [laws_FnExactSameBoard.j0]) ?_
  try dsimp only
  obtain ⟨r_1, e_1, c_1⟩ := szBoard x1_0 x1_1 x1_2 (1048576 - x0_2.length) (by omega) mx1_2
  refine Ev.bindc e_1 ?_
  rcases c_1 with c_1 | ⟨rfl, c_1⟩
  · exact Ev.iteT c_1 (Ev.now _)
  refine Ev.iteF (by omega) ?_
  refine Ev.step (fun k => by rw [laws_FnExactSameBoard.j1]) ?_
  try dsimp only
  refine Ev.bind (toBoard _ _ _ (by first | omega | ((try dsimp only); (try simp only [List.length_map, List.length_range, List.length_nil]); omega) | (simp; omega))) ?_
  try dsimp only
  refine Ev.bind (toBoard _ _ _ (by first | omega | ((try dsimp only); (try simp only [List.length_map, List.length_range, List.length_nil]); omega) | (simp; omega))) ?_
  try dsimp only
  obtain ⟨r0, hs, hi, hb⟩ := core x0_0 x0_1 (x0_2.map cv30_34) x1_0 x1_1 (x1_2.map cv30_34) ox0_0 ox0_1 (fun y hy => by obtain ⟨z, hz, rfl⟩ := List.mem_map.1 hy; exact okof30_34 (wx0_2 z hz)) (by first | omega | ((try dsimp only); (try simp only [List.length_map, List.length_range, List.length_nil]); omega) | (simp; omega)) ox1_0 ox1_1 (fun y hy => by obtain ⟨z, hz, rfl⟩ := List.mem_map.1 hy; exact okof30_34 (wx1_2 z hz)) (by first | omega | ((try dsimp only); (try simp only [List.length_map, List.length_range, List.length_nil]); omega) | (simp; omega))
  refine Ev.bind hs ?_
  try dsimp only
  refine Ev.bind (toBoard _ _ _ (by first | omega | ((try dsimp only); (try simp only [List.length_map, List.length_range, List.length_nil]); omega) | (simp; omega))) ?_
  try dsimp only
  refine Ev.bind (toBoard _ _ _ (by first | omega | ((try dsimp only); (try simp only [List.length_map, List.length_range, List.length_nil]); omega) | (simp; omega))) ?_
  try dsimp only
  refine Ev.bind hi ?_
  try dsimp only
  refine Ev.iteF (by first | (simp; done) | (first | omega | ((try dsimp only); (try simp only [List.length_map, List.length_range, List.length_nil]); omega) | (simp; omega))) ?_
  try dsimp only
  refine Ev.step (fun k => by rw [laws_FnExactSameBoard.j2]) ?_
  try dsimp only
  refine Ev.bind (toBoard _ _ _ (by first | omega | ((try dsimp only); (try simp only [List.length_map, List.length_range, List.length_nil]); omega) | (simp; omega))) ?_
  try dsimp only
  refine Ev.bind (eqBoard _ _ _ (by first | omega | ((try dsimp only); (try simp only [List.length_map, List.length_range, List.length_nil]); omega) | (simp; omega))) ?_
  try dsimp only
  refine Ev.iteT (by first | rfl | (first | omega | ((try dsimp only); (try simp only [List.length_map, List.length_range, List.length_nil]); omega) | (simp; omega))) ?_
  try dsimp only
  refine Ev.step (fun k => by rw [laws_FnExactSameBoard.j3]) ?_
  try dsimp only
  refine Ev.bind (toBoard _ _ _ (by first | omega | ((try dsimp only); (try simp only [List.length_map, List.length_range, List.length_nil]); omega) | (simp; omega))) ?_
  try dsimp only
  refine Ev.bind (eqBoard _ _ _ (by first | omega | ((try dsimp only); (try simp only [List.length_map, List.length_range, List.length_nil]); omega) | (simp; omega))) ?_
  try dsimp only
  refine Ev.iteT (by first | rfl | (first | omega | ((try dsimp only); (try simp only [List.length_map, List.length_range, List.length_nil]); omega) | (simp; omega))) ?_
  try dsimp only
  exact Ev.now _
end Go.Proofs.Ytkcbcbannbllaaa.Pure
