/- The pure side of the law FnExactSameMachine: for all arguments its Lean function answers true. No condition beside the arguments' kinds. -/
import Derived.Test.YtffnfpnajkgnaaaQFnExactSameMachine
import Derived.Test.YtffnfpnajkgnaaaPB
namespace Go.Proofs.Ytffnfpnajkgnaaa.Pure
open Go.RowKit Go.Proofs.Ytffnfpnajkgnaaa.PFnExactSameMachine Go.Proofs.YtffnfpnajkgnaaaW.PrintWords Go.Proofs.YtffnfpnajkgnaaaW.PrintLast Go.Proofs.YtffnfpnajkgnaaaX Go.Proofs.Ytffnfpnajkgnaaa.QFnExactSameMachine Go.Proofs.YtffnfpnajkgnaaaB
set_option linter.unusedVariables false
set_option linter.unusedSimpArgs false

theorem szPieceS (l0 : List (S88)) (a_ : Int) (ha : 0 ≤ a_ ∧ a_ ≤ 1048576) (hl0 : l0.length ≤ 9223372036854775807) : ∃ r, laws_szPieceS.f l0 a_ = some r ∧ (r < 0 ∨ (r = a_ - l0.length ∧ 0 ≤ r)) := by
  unfold laws_szPieceS.f
  rw [w64 (n := a_ - l0.length) (by omega)]
  by_cases h : a_ - (l0.length : Int) < 0
  · exact ⟨-1, by rw [if_pos h], .inl (by omega)⟩
  · exact ⟨_, by rw [if_neg h], .inr ⟨rfl, by omega⟩⟩
theorem szBoard (a0_0 : Int) (a0_1 : Int) (l0_2 : List (S88)) (a_ : Int) (ha : 0 ≤ a_ ∧ a_ ≤ 1048576) (hl0_2 : l0_2.length ≤ 9223372036854775807) : ∃ r, laws_szBoard.f a0_0 a0_1 l0_2 a_ = some r ∧ (r < 0 ∨ (r = a_ - l0_2.length ∧ 0 ≤ r)) := by
  unfold laws_szBoard.f
  obtain ⟨r0, e0, c0⟩ := szPieceS l0_2 (a_) (by omega) hl0_2
  rw [e0]
  simp only [Option.bind_some]
  rcases c0 with c0 | ⟨rfl, c0⟩
  · exact ⟨-1, by rw [if_pos c0], .inl (by omega)⟩
  rw [if_neg (by omega)]
  exact ⟨_, rfl, .inr ⟨rfl, by omega⟩⟩
theorem szPortS (l0 : List (S182)) (a_ : Int) (ha : 0 ≤ a_ ∧ a_ ≤ 1048576) (hl0 : l0.length ≤ 9223372036854775807) : ∃ r, laws_szPortS.f l0 a_ = some r ∧ (r < 0 ∨ (r = a_ - l0.length ∧ 0 ≤ r)) := by
  unfold laws_szPortS.f
  rw [w64 (n := a_ - l0.length) (by omega)]
  by_cases h : a_ - (l0.length : Int) < 0
  · exact ⟨-1, by rw [if_pos h], .inl (by omega)⟩
  · exact ⟨_, by rw [if_neg h], .inr ⟨rfl, by omega⟩⟩
theorem szCellS (l0 : List (S71)) (a_ : Int) (ha : 0 ≤ a_ ∧ a_ ≤ 1048576) (hl0 : l0.length ≤ 9223372036854775807) : ∃ r, laws_szCellS.f l0 a_ = some r ∧ (r < 0 ∨ (r = a_ - l0.length ∧ 0 ≤ r)) := by
  unfold laws_szCellS.f
  rw [w64 (n := a_ - l0.length) (by omega)]
  by_cases h : a_ - (l0.length : Int) < 0
  · exact ⟨-1, by rw [if_pos h], .inl (by omega)⟩
  · exact ⟨_, by rw [if_neg h], .inr ⟨rfl, by omega⟩⟩
theorem szMachine (a0_0 : Int) (a0_1 : Int) (l0_2 : List (S88)) (l0_3 : List (S182)) (l0_4 : List (S71)) (a_ : Int) (ha : 0 ≤ a_ ∧ a_ ≤ 1048576) (hl0_2 : l0_2.length ≤ 9223372036854775807) (hl0_3 : l0_3.length ≤ 9223372036854775807) (hl0_4 : l0_4.length ≤ 9223372036854775807) : ∃ r, laws_szMachine.f a0_0 a0_1 l0_2 l0_3 l0_4 a_ = some r ∧ (r < 0 ∨ (r = a_ - l0_2.length - l0_3.length - l0_4.length ∧ 0 ≤ r)) := by
  unfold laws_szMachine.f
  obtain ⟨r0, e0, c0⟩ := szBoard a0_0 a0_1 l0_2 (a_) (by omega) hl0_2
  rw [e0]
  simp only [Option.bind_some]
  rcases c0 with c0 | ⟨rfl, c0⟩
  · exact ⟨-1, by rw [if_pos c0], .inl (by omega)⟩
  rw [if_neg (by omega)]
  obtain ⟨r1, e1, c1⟩ := szPortS l0_3 (a_ - l0_2.length) (by omega) hl0_3
  rw [e1]
  simp only [Option.bind_some]
  rcases c1 with c1 | ⟨rfl, c1⟩
  · exact ⟨-1, by rw [if_pos c1], .inl (by omega)⟩
  rw [if_neg (by omega)]
  obtain ⟨r2, e2, c2⟩ := szCellS l0_4 (a_ - l0_2.length - l0_3.length) (by omega) hl0_4
  rw [e2]
  simp only [Option.bind_some]
  rcases c2 with c2 | ⟨rfl, c2⟩
  · exact ⟨-1, by rw [if_pos c2], .inl (by omega)⟩
  rw [if_neg (by omega)]
  exact ⟨_, rfl, .inr ⟨rfl, by omega⟩⟩
theorem toCell (a0_0 : Int) (a0_1 : Int)  : Ev (fun k => laws_toCell.f k a0_0 a0_1) (a0_0, a0_1) := by
  refine ⟨3, fun k hk => ?_⟩
  obtain ⟨m, rfl⟩ : ∃ m, k = m + 3 := ⟨k - 3, by omega⟩
  simp [laws_toCell.f, laws_toCell.l0, wrap64]
theorem toPiece (a0_0 : Int) (a0_1 : Int) (a0_2 : Int) (a0_3 : Int) (a0_4 : Int)  : Ev (fun k => laws_toPiece.f k a0_0 a0_1 a0_2 a0_3 a0_4) (a0_0, a0_1, a0_2, a0_3, a0_4) := by
  unfold laws_toPiece.f
  exact (Ev.bind (toCell _ _ ) (Ev.now _))
def cv71_74 (x : S71) : S74 := ⟨x.f0, x.f1⟩
def cv88_91 (x : S88) : S91 := ⟨cv71_74 x.f0, x.f1, x.f2, x.f3⟩
theorem toPieceS (l0 : List (S88)) (hl0 : l0.length ≤ 1099511627776) : Ev (fun k => laws_toPieceS.f k l0) (l0.map cv88_91) := by
  suffices main : Ev (fun k => laws_toPieceS.f k l0) (l0.map cv88_91) by exact main
  unfold laws_toPieceS.f
  refine Ev.iteT (by omega) (Ev.iteT (by omega) ?_)
  rw [Int.toNat_natCast]
  refine ev_fill2 (g := fun k x i => laws_toPieceS.l0 k l0 x i) cv88_91 l0 _ (Ev.step (f := fun _ => some _) (fun k => by simp [laws_toPieceS.l0]) (Ev.now _)) fun i h x hx ih => ?_
  have eg : l0.getD i z88 = l0[i] := getD_at _ _ _ h
  refine Ev.step (fun k => by rw [laws_toPieceS.l0]) (Ev.iteT (by omega) (Ev.iteT (by omega) ?_))
  simp only [rd_T88, Int.toNat_natCast, eg]
  refine Ev.bind (toPiece _ _ _ _ _ ) ?_
  refine Ev.iteT (by omega) ?_
  rw [w64 (by omega)]
  exact ih
theorem toBoard (a0_0 : Int) (a0_1 : Int) (l0_2 : List (S88)) (hl0_2 : l0_2.length ≤ 1099511627776) : Ev (fun k => laws_toBoard.f k a0_0 a0_1 l0_2) (a0_0, a0_1, (l0_2.map cv88_91)) := by
  unfold laws_toBoard.f
  exact (Ev.bind (toPieceS _ (by first | omega | ((try dsimp only); (try simp only [List.length_map, List.length_range, List.length_nil]); omega) | (simp; omega))) (Ev.now _))
theorem toPort (a0_0 : Int) (a0_1 : Int) (a0_2 : Int)  : Ev (fun k => laws_toPort.f k a0_0 a0_1 a0_2) (a0_0, a0_1, a0_2) := by
  unfold laws_toPort.f
  exact (Ev.bind (toCell _ _ ) (Ev.now _))
def cv182_116 (x : S182) : S116 := ⟨cv71_74 x.f0, x.f1⟩
theorem toPortS (l0 : List (S182)) (hl0 : l0.length ≤ 1099511627776) : Ev (fun k => laws_toPortS.f k l0) (l0.map cv182_116) := by
  suffices main : Ev (fun k => laws_toPortS.f k l0) (l0.map cv182_116) by exact main
  unfold laws_toPortS.f
  refine Ev.iteT (by omega) (Ev.iteT (by omega) ?_)
  rw [Int.toNat_natCast]
  refine ev_fill2 (g := fun k x i => laws_toPortS.l0 k l0 x i) cv182_116 l0 _ (Ev.step (f := fun _ => some _) (fun k => by simp [laws_toPortS.l0]) (Ev.now _)) fun i h x hx ih => ?_
  have eg : l0.getD i z182 = l0[i] := getD_at _ _ _ h
  refine Ev.step (fun k => by rw [laws_toPortS.l0]) (Ev.iteT (by omega) (Ev.iteT (by omega) ?_))
  simp only [rd_T182, Int.toNat_natCast, eg]
  refine Ev.bind (toPort _ _ _ ) ?_
  refine Ev.iteT (by omega) ?_
  rw [w64 (by omega)]
  exact ih
theorem toCellS (l0 : List (S71)) (hl0 : l0.length ≤ 1099511627776) : Ev (fun k => laws_toCellS.f k l0) (l0.map cv71_74) := by
  suffices main : Ev (fun k => laws_toCellS.f k l0) (l0.map cv71_74) by exact main
  unfold laws_toCellS.f
  refine Ev.iteT (by omega) (Ev.iteT (by omega) ?_)
  rw [Int.toNat_natCast]
  refine ev_fill2 (g := fun k x i => laws_toCellS.l0 k l0 x i) cv71_74 l0 _ (Ev.step (f := fun _ => some _) (fun k => by simp [laws_toCellS.l0]) (Ev.now _)) fun i h x hx ih => ?_
  have eg : l0.getD i z71 = l0[i] := getD_at _ _ _ h
  refine Ev.step (fun k => by rw [laws_toCellS.l0]) (Ev.iteT (by omega) (Ev.iteT (by omega) ?_))
  simp only [rd_T71, Int.toNat_natCast, eg]
  refine Ev.bind (toCell _ _ ) ?_
  refine Ev.iteT (by omega) ?_
  rw [w64 (by omega)]
  exact ih
theorem toMachine (a0_0 : Int) (a0_1 : Int) (l0_2 : List (S88)) (l0_3 : List (S182)) (l0_4 : List (S71)) (hl0_2 : l0_2.length ≤ 1099511627776) (hl0_3 : l0_3.length ≤ 1099511627776) (hl0_4 : l0_4.length ≤ 1099511627776) : Ev (fun k => laws_toMachine.f k a0_0 a0_1 l0_2 l0_3 l0_4) (a0_0, a0_1, (l0_2.map cv88_91), (l0_3.map cv182_116), (l0_4.map cv71_74)) := by
  unfold laws_toMachine.f
  exact (Ev.bind (toBoard _ _ _ (by first | omega | ((try dsimp only); (try simp only [List.length_map, List.length_range, List.length_nil]); omega) | (simp; omega))) (Ev.bind (toPortS _ (by first | omega | ((try dsimp only); (try simp only [List.length_map, List.length_range, List.length_nil]); omega) | (simp; omega))) (Ev.bind (toCellS _ (by first | omega | ((try dsimp only); (try simp only [List.length_map, List.length_range, List.length_nil]); omega) | (simp; omega))) (Ev.now _))))
theorem eqCell (a0_0 : Int) (a0_1 : Int)  : Ev (fun k => laws_eqCell.f k a0_0 a0_1 a0_0 a0_1) true := by
  refine ⟨3, fun k hk => ?_⟩
  obtain ⟨m, rfl⟩ : ∃ m, k = m + 3 := ⟨k - 3, by omega⟩
  simp [laws_eqCell.f, laws_eqCell.l0, wrap64]
theorem eqPiece (a0_0 : Int) (a0_1 : Int) (a0_2 : Int) (a0_3 : Int) (a0_4 : Int)  : Ev (fun k => laws_eqPiece.f k a0_0 a0_1 a0_2 a0_3 a0_4 a0_0 a0_1 a0_2 a0_3 a0_4) true := by
  unfold laws_eqPiece.f
  exact (Ev.bind (eqCell _ _ ) (Ev.iteT rfl (Ev.iteT rfl (Ev.iteT rfl (Ev.iteT rfl (Ev.now _))))))
theorem eqPieceS (l0 : List (S91)) (hl0 : l0.length ≤ 1099511627776) : Ev (fun k => laws_eqPieceS.f k l0 l0) true := by
  unfold laws_eqPieceS.f
  refine Ev.iteT rfl ?_
  refine ev_loop2 (g := fun k i => laws_eqPieceS.l0 k l0 l0 i) (fun i => (i : Int)) l0.length (Ev.step (f := fun _ => some _) (fun k => by simp [laws_eqPieceS.l0]) (Ev.now _)) fun i h ih => ?_
  refine Ev.step (fun k => by rw [laws_eqPieceS.l0]) (Ev.iteT (by omega) (Ev.iteT (by omega) (Ev.iteT (by omega) ?_)))
  refine Ev.bind (eqPiece _ _ _ _ _ ) (Ev.iteT rfl ?_)
  rw [w64 (by omega)]
  exact ih
theorem eqBoard (a0_0 : Int) (a0_1 : Int) (l0_2 : List (S91)) (hl0_2 : l0_2.length ≤ 1099511627776) : Ev (fun k => laws_eqBoard.f k a0_0 a0_1 l0_2 a0_0 a0_1 l0_2) true := by
  unfold laws_eqBoard.f
  exact (Ev.iteT rfl (Ev.iteT rfl (Ev.bind (eqPieceS _ (by first | omega | ((try dsimp only); (try simp only [List.length_map, List.length_range, List.length_nil]); omega) | (simp; omega))) (Ev.iteT rfl (Ev.now _)))))
theorem eqPort (a0_0 : Int) (a0_1 : Int) (a0_2 : Int)  : Ev (fun k => laws_eqPort.f k a0_0 a0_1 a0_2 a0_0 a0_1 a0_2) true := by
  unfold laws_eqPort.f
  exact (Ev.bind (eqCell _ _ ) (Ev.iteT rfl (Ev.iteT rfl (Ev.now _))))
theorem eqPortS (l0 : List (S116)) (hl0 : l0.length ≤ 1099511627776) : Ev (fun k => laws_eqPortS.f k l0 l0) true := by
  unfold laws_eqPortS.f
  refine Ev.iteT rfl ?_
  refine ev_loop2 (g := fun k i => laws_eqPortS.l0 k l0 l0 i) (fun i => (i : Int)) l0.length (Ev.step (f := fun _ => some _) (fun k => by simp [laws_eqPortS.l0]) (Ev.now _)) fun i h ih => ?_
  refine Ev.step (fun k => by rw [laws_eqPortS.l0]) (Ev.iteT (by omega) (Ev.iteT (by omega) (Ev.iteT (by omega) ?_)))
  refine Ev.bind (eqPort _ _ _ ) (Ev.iteT rfl ?_)
  rw [w64 (by omega)]
  exact ih
theorem eqCellS (l0 : List (S74)) (hl0 : l0.length ≤ 1099511627776) : Ev (fun k => laws_eqCellS.f k l0 l0) true := by
  unfold laws_eqCellS.f
  refine Ev.iteT rfl ?_
  refine ev_loop2 (g := fun k i => laws_eqCellS.l0 k l0 l0 i) (fun i => (i : Int)) l0.length (Ev.step (f := fun _ => some _) (fun k => by simp [laws_eqCellS.l0]) (Ev.now _)) fun i h ih => ?_
  refine Ev.step (fun k => by rw [laws_eqCellS.l0]) (Ev.iteT (by omega) (Ev.iteT (by omega) (Ev.iteT (by omega) ?_)))
  refine Ev.bind (eqCell _ _ ) (Ev.iteT rfl ?_)
  rw [w64 (by omega)]
  exact ih
theorem eqMachine (a0_0 : Int) (a0_1 : Int) (l0_2 : List (S91)) (l0_3 : List (S116)) (l0_4 : List (S74)) (hl0_2 : l0_2.length ≤ 1099511627776) (hl0_3 : l0_3.length ≤ 1099511627776) (hl0_4 : l0_4.length ≤ 1099511627776) : Ev (fun k => laws_eqMachine.f k a0_0 a0_1 l0_2 l0_3 l0_4 a0_0 a0_1 l0_2 l0_3 l0_4) true := by
  unfold laws_eqMachine.f
  exact (Ev.bind (eqBoard _ _ _ (by first | omega | ((try dsimp only); (try simp only [List.length_map, List.length_range, List.length_nil]); omega) | (simp; omega))) (Ev.iteT rfl (Ev.bind (eqPortS _ (by first | omega | ((try dsimp only); (try simp only [List.length_map, List.length_range, List.length_nil]); omega) | (simp; omega))) (Ev.iteT rfl (Ev.bind (eqCellS _ (by first | omega | ((try dsimp only); (try simp only [List.length_map, List.length_range, List.length_nil]); omega) | (simp; omega))) (Ev.iteT rfl (Ev.now _)))))))
def ok74 (x : S74) : Prop := (-128 ≤ x.f0 ∧ x.f0 ≤ 127) ∧ (-128 ≤ x.f1 ∧ x.f1 ≤ 127)
def ok91 (x : S91) : Prop := ok74 x.f0 ∧ (-128 ≤ x.f1 ∧ x.f1 ≤ 127) ∧ (-128 ≤ x.f2 ∧ x.f2 ≤ 127) ∧ (-128 ≤ x.f3 ∧ x.f3 ≤ 127)
theorem okof71_74 {x : S71} (h : wf71 x) : ok74 (cv71_74 x) := by
  obtain ⟨h0, h1⟩ := h
  exact ⟨(i8b h0), (i8b h1)⟩
theorem okof88_91 {x : S88} (h : wf88 x) : ok91 (cv88_91 x) := by
  obtain ⟨h0, h1, h2, h3⟩ := h
  exact ⟨(okof71_74 h0), (i8b h1), (i8b h2), (i8b h3)⟩
def ok116 (x : S116) : Prop := ok74 x.f0 ∧ (-128 ≤ x.f1 ∧ x.f1 ≤ 127)
theorem okof182_116 {x : S182} (h : wf182 x) : ok116 (cv182_116 x) := by
  obtain ⟨h0, h1⟩ := h
  exact ⟨(okof71_74 h0), (i8b h1)⟩
theorem piece_ne (a b : S91) : ((!(a.f0.f0 == b.f0.f0) || !(a.f0.f1 == b.f0.f1)) || (!(a.f1 == b.f1) || (!(a.f2 == b.f2) || !(a.f3 == b.f3)))) = true ↔ a ≠ b := by
  obtain ⟨⟨a0, a1⟩, a2, a3, a4⟩ := a
  obtain ⟨⟨b0, b1⟩, b2, b3, b4⟩ := b
  simp
  by_cases h : a0 = b0 <;> by_cases h' : a1 = b1 <;> by_cases h2 : a2 = b2 <;> by_cases h3 : a3 = b3 <;> simp [h, h', h2, h3]
theorem piece_loop (l m : List (S91)) (hl : l.length ≤ 1048576) (hlm : l.length = m.length) : ∃ r, Ev (fun k => impl_Piece.l0 k l m l.length 0) r ∧ (r = true ↔ l = m) := by
  rw [← eq_of_getD z91 hlm]
  refine ev_all (g := fun k i => impl_Piece.l0 k l m l.length i) _ (fun k => by simp [impl_Piece.l0]) (fun i h hp => ⟨0, fun k _ => ?_⟩) (fun i h hp => ⟨0, fun k _ => ?_⟩)
  all_goals
    simp only [impl_Piece.l0]
    rw [if_pos (by omega), if_pos (by omega), if_pos (by omega), if_pos (by omega)]
  · refine Eq.trans (if_neg (fun h => (piece_ne _ _).1 h hp)) ?_; rw [w64 (by omega)]; rfl
  · exact if_pos ((piece_ne _ _).2 hp)
theorem l01Same_loop (a b c d : Int) (l m : List (S91)) (hl : l.length ≤ 1048576) (hlm : l.length = m.length) : ∃ r, Ev (fun k => spec_l01Same.l0 k [⟨a, b, l⟩] [⟨c, d, m⟩] 0) r ∧ (r = true ↔ l = m) := by
  rw [← eq_of_getD z91 hlm]
  have h0 : ∀ a b l, rd_T37 [(⟨a, b, l⟩ : S37)] 0 = ⟨a, b, l⟩ := fun _ _ _ => rfl
  refine ev_all (g := fun k i => spec_l01Same.l0 k [⟨a, b, l⟩] [⟨c, d, m⟩] i) _ (fun k => by simp [spec_l01Same.l0, h0]) (fun i h hp => ⟨0, fun k _ => ?_⟩) (fun i h hp => ⟨0, fun k _ => ?_⟩)
  all_goals
    simp only [spec_l01Same.l0, h0]
    rw [if_pos (by simp), if_pos (by omega), if_pos (by omega), if_pos (by simp), if_pos (by omega)]
  · refine Eq.trans (if_neg (fun h => (piece_ne _ _).1 h hp)) ?_; rw [w64 (by omega)]; rfl
  · exact if_pos ((piece_ne _ _).2 hp)
theorem l01Same (a b c d : Int) (l m : List (S91)) (hl : l.length ≤ 1048576) : ∃ r, Ev (fun k => spec_l01Same.f k [⟨a, b, l⟩] [⟨c, d, m⟩]) r ∧ (r = true ↔ a = c ∧ b = d ∧ l = m) := by
  have h0 : ∀ a b l, rd_T37 [(⟨a, b, l⟩ : S37)] 0 = ⟨a, b, l⟩ := fun _ _ _ => rfl
  have hj : Ev (fun k => spec_l01Same.j0 k [⟨a, b, l⟩] [⟨c, d, m⟩] true) false := Ev.step (f := fun _ => some false) (fun k => by simp [spec_l01Same.j0]) (Ev.now _)
  unfold spec_l01Same.f
  simp only [h0]
  by_cases h1 : a = c
  · by_cases h2 : b = d
    · by_cases h3 : l.length = m.length
      · have : ((l.length : Int) != (m.length : Int)) = false := by simp; omega
        obtain ⟨r, h4, h5⟩ := l01Same_loop a b c d l m hl h3
        exact ⟨r, Ev.iteT (by simp) (Ev.iteT (by simp) (Ev.iteT h1 (Ev.iteT h2 (Ev.step (fun k => by rw [this]; simp only [spec_l01Same.j0]; rw [if_neg (by simp)]) h4)))), by rw [h5]; simp [h1, h2]⟩
      · have : ((l.length : Int) != (m.length : Int)) = true := by simp; omega
        rw [this]
        exact ⟨false, Ev.iteT (by simp) (Ev.iteT (by simp) (Ev.iteT h1 (Ev.iteT h2 hj))), by simp; intro _ _ h; exact h3 (by rw [h])⟩
    · exact ⟨false, Ev.iteT (by simp) (Ev.iteT (by simp) (Ev.iteT h1 (Ev.iteF h2 hj))), by simp [h2]⟩
  · exact ⟨false, Ev.iteT (by simp) (Ev.iteT (by simp) (Ev.iteF h1 hj)), by simp [h1]⟩
theorem implSame (a b c d : Int) (l m : List (S91)) (hl : l.length ≤ 1048576) : ∃ r, Ev (fun k => impl_SameBoard.f k a b l c d m) r ∧ (r = true ↔ a = c ∧ b = d ∧ l = m) := by
  unfold impl_SameBoard.f impl_Piece.f
  by_cases h1 : a = c
  · by_cases h2 : b = d
    · by_cases h3 : l.length = m.length
      · obtain ⟨r, h4, h5⟩ := piece_loop l m hl h3
        exact ⟨r, Ev.iteT h1 (Ev.iteT h2 (Ev.bind (Ev.iteT (by omega) h4) (Ev.now _))), by rw [h5]; simp [h1, h2]⟩
      · exact ⟨false, Ev.iteT h1 (Ev.iteT h2 (Ev.bind (Ev.iteF (by omega) (Ev.now _)) (Ev.now _))), by simp; intro _ _ h; exact h3 (by rw [h])⟩
    · exact ⟨false, Ev.iteT h1 (Ev.iteF h2 (Ev.now _)), by simp [h2]⟩
  · exact ⟨false, Ev.iteF h1 (Ev.now _), by simp [h1]⟩

theorem port_ne (a b : S116) : ((!(a.f0.f0 == b.f0.f0) || !(a.f0.f1 == b.f0.f1)) || !(a.f1 == b.f1)) = true ↔ a ≠ b := by
  obtain ⟨⟨a0, a1⟩, a2⟩ := a
  obtain ⟨⟨b0, b1⟩, b2⟩ := b
  simp
  by_cases h : a0 = b0 <;> by_cases h' : a1 = b1 <;> simp [h, h']
theorem cell_ne (a b : S74) : (!(a.f0 == b.f0) || !(a.f1 == b.f1)) = true ↔ a ≠ b := by
  obtain ⟨a0, a1⟩ := a
  obtain ⟨b0, b1⟩ := b
  simp
  by_cases h : a0 = b0 <;> simp [h]
theorem port_loop (l m : List (S116)) (hl : l.length ≤ 1048576) (hlm : l.length = m.length) : ∃ r, Ev (fun k => impl_Port.l0 k l m l.length 0) r ∧ (r = true ↔ l = m) := by
  rw [← eq_of_getD z116 hlm]
  refine ev_all (g := fun k i => impl_Port.l0 k l m l.length i) _ (fun k => by simp [impl_Port.l0]) (fun i h hp => ⟨0, fun k _ => ?_⟩) (fun i h hp => ⟨0, fun k _ => ?_⟩)
  all_goals
    simp only [impl_Port.l0]
    rw [if_pos (by omega), if_pos (by omega), if_pos (by omega), if_pos (by omega)]
  · refine Eq.trans (if_neg (fun h => (port_ne _ _).1 h hp)) ?_; rw [w64 (by omega)]; rfl
  · exact if_pos ((port_ne _ _).2 hp)
theorem cell_loop (l m : List (S74)) (hl : l.length ≤ 1048576) (hlm : l.length = m.length) : ∃ r, Ev (fun k => impl_Cell.l0 k l m l.length 0) r ∧ (r = true ↔ l = m) := by
  rw [← eq_of_getD z74 hlm]
  refine ev_all (g := fun k i => impl_Cell.l0 k l m l.length i) _ (fun k => by simp [impl_Cell.l0]) (fun i h hp => ⟨0, fun k _ => ?_⟩) (fun i h hp => ⟨0, fun k _ => ?_⟩)
  all_goals
    simp only [impl_Cell.l0]
    rw [if_pos (by omega), if_pos (by omega), if_pos (by omega), if_pos (by omega)]
  · refine Eq.trans (if_neg (fun h => (cell_ne _ _).1 h hp)) ?_; rw [w64 (by omega)]; rfl
  · exact if_pos ((cell_ne _ _).2 hp)
theorem port_same (l m : List (S116)) (hl : l.length ≤ 1048576) : ∃ r, Ev (fun k => impl_Port.f k l m) r ∧ (r = true ↔ l = m) := by
  unfold impl_Port.f
  by_cases h : l.length = m.length
  · obtain ⟨r, h1, h2⟩ := port_loop l m hl h
    exact ⟨r, Ev.iteT (by omega) h1, h2⟩
  · exact ⟨false, Ev.iteF (by omega) (Ev.now _), by simp; intro h'; exact h (by rw [h'])⟩
theorem cell_same (l m : List (S74)) (hl : l.length ≤ 1048576) : ∃ r, Ev (fun k => impl_Cell.f k l m) r ∧ (r = true ↔ l = m) := by
  unfold impl_Cell.f
  by_cases h : l.length = m.length
  · obtain ⟨r, h1, h2⟩ := cell_loop l m hl h
    exact ⟨r, Ev.iteT (by omega) h1, h2⟩
  · exact ⟨false, Ev.iteF (by omega) (Ev.now _), by simp; intro h'; exact h (by rw [h'])⟩
theorem spec_cells (a b : Int) (p : List (S91)) (i : List (S116)) (o : List (S74)) (a' b' : Int) (p' : List (S91)) (i' : List (S116)) (o' : List (S74)) (ho : o.length ≤ 1048576) (h : o.length = o'.length) :
    ∃ r, Ev (fun k => spec_SameMachine.l1 k 0 a b p i o a' b' p' i' o') r ∧ (r = true ↔ o = o') := by
  rw [← eq_of_getD z74 h]
  refine ev_all (g := fun k j => spec_SameMachine.l1 k j a b p i o a' b' p' i' o') _ (fun k => by simp [spec_SameMachine.l1]) (fun i h hp => ⟨0, fun k _ => ?_⟩) (fun i h hp => ⟨0, fun k _ => ?_⟩)
  all_goals
    simp only [spec_SameMachine.l1]
    rw [if_pos (by omega), if_pos (by omega), if_pos (by omega)]
  · refine Eq.trans (if_neg (fun h => (cell_ne _ _).1 h hp)) ?_; rw [w64 (by omega)]; rfl
  · exact if_pos ((cell_ne _ _).2 hp)
theorem spec_ports (a b : Int) (p : List (S91)) (i : List (S116)) (o : List (S74)) (a' b' : Int) (p' : List (S91)) (i' : List (S116)) (o' : List (S74)) (hi : i.length ≤ 1048576) (ho : o.length ≤ 1048576) (h : o.length = o'.length) (h' : i.length = i'.length) :
    ∃ r, Ev (fun k => spec_SameMachine.l0 k 0 a b p i o a' b' p' i' o') r ∧ (r = true ↔ i = i' ∧ o = o') := by
  obtain ⟨r, h1, h2⟩ := spec_cells a b p i o a' b' p' i' o' ho h
  rw [← eq_of_getD (l := i) z116 h']
  refine ev_scanB (g := fun k j => spec_SameMachine.l0 k j a b p i o a' b' p' i' o') (fun j => i.getD j z116 = i'.getD j z116) h2 (fun _ => ?_) (fun j h hp s hs => ?_) (fun j h hp => ?_)
  · refine Ev.step (fun k => by rw [spec_SameMachine.l0]) ?_
    exact Ev.iteF (by omega) h1
  · refine Ev.step (fun k => by rw [spec_SameMachine.l0]) ?_
    refine Ev.iteT (by omega) (Ev.iteT (by omega) (Ev.iteT (by omega) (Ev.iteF (fun h => (port_ne _ _).1 h hp) ?_)))
    rw [w64 (by omega)]
    exact hs
  · refine Ev.step (fun k => by rw [spec_SameMachine.l0]) ?_
    exact Ev.iteT (by omega) (Ev.iteT (by omega) (Ev.iteT (by omega) (Ev.iteT ((port_ne _ _).2 hp) (Ev.now _))))
theorem core (x0_0_0 : Int) (x0_0_1 : Int) (x0_0_2 : List (S91)) (x0_1 : List (S116)) (x0_2 : List (S74)) (x1_0_0 : Int) (x1_0_1 : Int) (x1_0_2 : List (S91)) (x1_1 : List (S116)) (x1_2 : List (S74)) (ox0_0_0 : (-128 ≤ x0_0_0 ∧ x0_0_0 ≤ 127)) (ox0_0_1 : (-128 ≤ x0_0_1 ∧ x0_0_1 ≤ 127)) (ox0_0_2 : ∀ y ∈ x0_0_2, ok91 y) (nx0_0_2 : x0_0_2.length ≤ 1048576) (ox0_1 : ∀ y ∈ x0_1, ok116 y) (nx0_1 : x0_1.length ≤ 1048576) (ox0_2 : ∀ y ∈ x0_2, ok74 y) (nx0_2 : x0_2.length ≤ 1048576) (ox1_0_0 : (-128 ≤ x1_0_0 ∧ x1_0_0 ≤ 127)) (ox1_0_1 : (-128 ≤ x1_0_1 ∧ x1_0_1 ≤ 127)) (ox1_0_2 : ∀ y ∈ x1_0_2, ok91 y) (nx1_0_2 : x1_0_2.length ≤ 1048576) (ox1_1 : ∀ y ∈ x1_1, ok116 y) (nx1_1 : x1_1.length ≤ 1048576) (ox1_2 : ∀ y ∈ x1_2, ok74 y) (nx1_2 : x1_2.length ≤ 1048576) : ∃ r : Bool, Ev (fun k => spec_SameMachine.f k x0_0_0 x0_0_1 x0_0_2 x0_1 x0_2 x1_0_0 x1_0_1 x1_0_2 x1_1 x1_2) r ∧ Ev (fun k => impl_SameMachine.f k x0_0_0 x0_0_1 x0_0_2 x0_1 x0_2 x1_0_0 x1_0_1 x1_0_2 x1_1 x1_2) r ∧ True := by
  have hj : Ev (fun k => spec_SameMachine.j0 k true x0_0_0 x0_0_1 x0_0_2 x0_1 x0_2 x1_0_0 x1_0_1 x1_0_2 x1_1 x1_2) false := Ev.step (f := fun _ => some false) (fun k => by simp [spec_SameMachine.j0]) (Ev.now _)
  obtain ⟨r, h1, h2⟩ := l01Same x0_0_0 x0_0_1 x1_0_0 x1_0_1 x0_0_2 x1_0_2 nx0_0_2
  obtain ⟨q, h3, h4⟩ := implSame x0_0_0 x0_0_1 x1_0_0 x1_0_1 x0_0_2 x1_0_2 nx0_0_2
  obtain rfl := bool_same h2 h4
  unfold spec_SameMachine.f impl_SameMachine.f
  cases r
  · exact ⟨false, Ev.bind h1 (Ev.iteF (by simp) hj), Ev.bind h3 (Ev.iteF (by simp) (Ev.now _)), trivial⟩
  · obtain ⟨s, h5, h6⟩ := port_same x0_1 x1_1 nx0_1
    obtain ⟨t, h7, h8⟩ := cell_same x0_2 x1_2 nx0_2
    by_cases e1 : x0_1.length = x1_1.length
    · by_cases e2 : x0_2.length = x1_2.length
      · have e3 : ((x0_2.length : Int) != (x1_2.length : Int)) = false := by simp; omega
        obtain ⟨u, h9, h10⟩ := spec_ports x0_0_0 x0_0_1 x0_0_2 x0_1 x0_2 x1_0_0 x1_0_1 x1_0_2 x1_1 x1_2 nx0_1 nx0_2 e2 e1
        refine ⟨u, Ev.bind h1 (Ev.iteT rfl (Ev.iteT (by omega) (Ev.step (fun k => by rw [e3]; simp only [spec_SameMachine.j0]; rw [if_neg (by simp)]) h9))), ?_, trivial⟩
        cases s
        · have : u = false := by cases u <;> simp_all
          subst this
          exact Ev.bind h3 (Ev.iteT rfl (Ev.bind h5 (Ev.iteF (by simp) (Ev.now _))))
        · have : u = t := by cases u <;> cases t <;> simp_all
          subst this
          exact Ev.bind h3 (Ev.iteT rfl (Ev.bind h5 (Ev.iteT rfl (Ev.bind h7 (Ev.now _)))))
      · have e3 : ((x0_2.length : Int) != (x1_2.length : Int)) = true := by simp; omega
        have : t = false := by
          cases t
          · rfl
          · exact absurd (congrArg List.length (h8.1 rfl)) e2
        subst this
        refine ⟨false, Ev.bind h1 (Ev.iteT rfl (Ev.iteT (by omega) (by rw [e3]; exact hj))), ?_, trivial⟩
        cases s
        · exact Ev.bind h3 (Ev.iteT rfl (Ev.bind h5 (Ev.iteF (by simp) (Ev.now _))))
        · exact Ev.bind h3 (Ev.iteT rfl (Ev.bind h5 (Ev.iteT rfl (Ev.bind h7 (Ev.now _)))))
    · have : s = false := by
        cases s
        · rfl
        · exact absurd (congrArg List.length (h6.1 rfl)) e1
      subst this
      exact ⟨false, Ev.bind h1 (Ev.iteT rfl (Ev.iteF (by omega) hj)), Ev.bind h3 (Ev.iteT rfl (Ev.bind h5 (Ev.iteF (by simp) (Ev.now _)))), trivial⟩

theorem FnExactSameMachine : QFnExactSameMachine.Pure := by
  rintro ⟨⟨x0_0_0, x0_0_1, x0_0_2⟩, x0_1, x0_2⟩ ⟨⟨x1_0_0, x1_0_1, x1_0_2⟩, x1_1, x1_2⟩ ⟨⟨wx0_0_0, wx0_0_1, wx0_0_2⟩, wx0_1, wx0_2⟩ ⟨⟨wx1_0_0, wx1_0_1, wx1_0_2⟩, wx1_1, wx1_2⟩
  have ox0_0_0 : (-128 ≤ x0_0_0 ∧ x0_0_0 ≤ 127) := i8b wx0_0_0
  have ox0_0_1 : (-128 ≤ x0_0_1 ∧ x0_0_1 ≤ 127) := i8b wx0_0_1
  obtain ⟨wx0_0_2, mx0_0_2⟩ := wx0_0_2
  have mx0_0_2 : x0_0_2.length ≤ 9223372036854775807 := mx0_0_2
  obtain ⟨wx0_1, mx0_1⟩ := wx0_1
  have mx0_1 : x0_1.length ≤ 9223372036854775807 := mx0_1
  obtain ⟨wx0_2, mx0_2⟩ := wx0_2
  have mx0_2 : x0_2.length ≤ 9223372036854775807 := mx0_2
  have ox1_0_0 : (-128 ≤ x1_0_0 ∧ x1_0_0 ≤ 127) := i8b wx1_0_0
  have ox1_0_1 : (-128 ≤ x1_0_1 ∧ x1_0_1 ≤ 127) := i8b wx1_0_1
  obtain ⟨wx1_0_2, mx1_0_2⟩ := wx1_0_2
  have mx1_0_2 : x1_0_2.length ≤ 9223372036854775807 := mx1_0_2
  obtain ⟨wx1_1, mx1_1⟩ := wx1_1
  have mx1_1 : x1_1.length ≤ 9223372036854775807 := mx1_1
  obtain ⟨wx1_2, mx1_2⟩ := wx1_2
  have mx1_2 : x1_2.length ≤ 9223372036854775807 := mx1_2
  refine Ev.rounds (r := true) ?_
  unfold laws_FnExactSameMachine.f
  obtain ⟨r_0, e_0, c_0⟩ := szMachine x0_0_0 x0_0_1 x0_0_2 x0_1 x0_2 (1048576) (by omega) mx0_0_2 mx0_1 mx0_2
  refine Ev.bindc e_0 ?_
  rcases c_0 with c_0 | ⟨rfl, c_0⟩
  · exact Ev.iteT c_0 (Ev.now _)
  refine Ev.iteF (by omega) ?_
  refine Ev.step (fun k => by rw [laws_FnExactSameMachine.j0]) ?_
  try dsimp only
  obtain ⟨r_1, e_1, c_1⟩ := szMachine x1_0_0 x1_0_1 x1_0_2 x1_1 x1_2 (1048576 - x0_0_2.length - x0_1.length - x0_2.length) (by omega) mx1_0_2 mx1_1 mx1_2
  refine Ev.bindc e_1 ?_
  rcases c_1 with c_1 | ⟨rfl, c_1⟩
  · exact Ev.iteT c_1 (Ev.now _)
  refine Ev.iteF (by omega) ?_
  refine Ev.step (fun k => by rw [laws_FnExactSameMachine.j1]) ?_
  try dsimp only
  refine Ev.bind (toMachine _ _ _ _ _ (by first | omega | ((try dsimp only); (try simp only [List.length_map, List.length_range, List.length_nil]); omega) | (simp; omega)) (by first | omega | ((try dsimp only); (try simp only [List.length_map, List.length_range, List.length_nil]); omega) | (simp; omega)) (by first | omega | ((try dsimp only); (try simp only [List.length_map, List.length_range, List.length_nil]); omega) | (simp; omega))) ?_
  try dsimp only
  refine Ev.bind (toMachine _ _ _ _ _ (by first | omega | ((try dsimp only); (try simp only [List.length_map, List.length_range, List.length_nil]); omega) | (simp; omega)) (by first | omega | ((try dsimp only); (try simp only [List.length_map, List.length_range, List.length_nil]); omega) | (simp; omega)) (by first | omega | ((try dsimp only); (try simp only [List.length_map, List.length_range, List.length_nil]); omega) | (simp; omega))) ?_
  try dsimp only
  obtain ⟨r0, hs, hi, hb⟩ := core x0_0_0 x0_0_1 (x0_0_2.map cv88_91) (x0_1.map cv182_116) (x0_2.map cv71_74) x1_0_0 x1_0_1 (x1_0_2.map cv88_91) (x1_1.map cv182_116) (x1_2.map cv71_74) ox0_0_0 ox0_0_1 (fun y hy => by obtain ⟨z, hz, rfl⟩ := List.mem_map.1 hy; exact okof88_91 (wx0_0_2 z hz)) (by first | omega | ((try dsimp only); (try simp only [List.length_map, List.length_range, List.length_nil]); omega) | (simp; omega)) (fun y hy => by obtain ⟨z, hz, rfl⟩ := List.mem_map.1 hy; exact okof182_116 (wx0_1 z hz)) (by first | omega | ((try dsimp only); (try simp only [List.length_map, List.length_range, List.length_nil]); omega) | (simp; omega)) (fun y hy => by obtain ⟨z, hz, rfl⟩ := List.mem_map.1 hy; exact okof71_74 (wx0_2 z hz)) (by first | omega | ((try dsimp only); (try simp only [List.length_map, List.length_range, List.length_nil]); omega) | (simp; omega)) ox1_0_0 ox1_0_1 (fun y hy => by obtain ⟨z, hz, rfl⟩ := List.mem_map.1 hy; exact okof88_91 (wx1_0_2 z hz)) (by first | omega | ((try dsimp only); (try simp only [List.length_map, List.length_range, List.length_nil]); omega) | (simp; omega)) (fun y hy => by obtain ⟨z, hz, rfl⟩ := List.mem_map.1 hy; exact okof182_116 (wx1_1 z hz)) (by first | omega | ((try dsimp only); (try simp only [List.length_map, List.length_range, List.length_nil]); omega) | (simp; omega)) (fun y hy => by obtain ⟨z, hz, rfl⟩ := List.mem_map.1 hy; exact okof71_74 (wx1_2 z hz)) (by first | omega | ((try dsimp only); (try simp only [List.length_map, List.length_range, List.length_nil]); omega) | (simp; omega))
  refine Ev.bind hs ?_
  try dsimp only
  refine Ev.bind (toMachine _ _ _ _ _ (by first | omega | ((try dsimp only); (try simp only [List.length_map, List.length_range, List.length_nil]); omega) | (simp; omega)) (by first | omega | ((try dsimp only); (try simp only [List.length_map, List.length_range, List.length_nil]); omega) | (simp; omega)) (by first | omega | ((try dsimp only); (try simp only [List.length_map, List.length_range, List.length_nil]); omega) | (simp; omega))) ?_
  try dsimp only
  refine Ev.bind (toMachine _ _ _ _ _ (by first | omega | ((try dsimp only); (try simp only [List.length_map, List.length_range, List.length_nil]); omega) | (simp; omega)) (by first | omega | ((try dsimp only); (try simp only [List.length_map, List.length_range, List.length_nil]); omega) | (simp; omega)) (by first | omega | ((try dsimp only); (try simp only [List.length_map, List.length_range, List.length_nil]); omega) | (simp; omega))) ?_
  try dsimp only
  refine Ev.bind hi ?_
  try dsimp only
  refine Ev.iteF (by first | (simp; done) | (first | omega | ((try dsimp only); (try simp only [List.length_map, List.length_range, List.length_nil]); omega) | (simp; omega))) ?_
  try dsimp only
  refine Ev.step (fun k => by rw [laws_FnExactSameMachine.j2]) ?_
  try dsimp only
  refine Ev.bind (toMachine _ _ _ _ _ (by first | omega | ((try dsimp only); (try simp only [List.length_map, List.length_range, List.length_nil]); omega) | (simp; omega)) (by first | omega | ((try dsimp only); (try simp only [List.length_map, List.length_range, List.length_nil]); omega) | (simp; omega)) (by first | omega | ((try dsimp only); (try simp only [List.length_map, List.length_range, List.length_nil]); omega) | (simp; omega))) ?_
  try dsimp only
  refine Ev.bind (eqMachine _ _ _ _ _ (by first | omega | ((try dsimp only); (try simp only [List.length_map, List.length_range, List.length_nil]); omega) | (simp; omega)) (by first | omega | ((try dsimp only); (try simp only [List.length_map, List.length_range, List.length_nil]); omega) | (simp; omega)) (by first | omega | ((try dsimp only); (try simp only [List.length_map, List.length_range, List.length_nil]); omega) | (simp; omega))) ?_
  try dsimp only
  refine Ev.iteT (by first | rfl | (first | omega | ((try dsimp only); (try simp only [List.length_map, List.length_range, List.length_nil]); omega) | (simp; omega))) ?_
  try dsimp only
  refine Ev.step (fun k => by rw [laws_FnExactSameMachine.j3]) ?_
  try dsimp only
  refine Ev.bind (toMachine _ _ _ _ _ (by first | omega | ((try dsimp only); (try simp only [List.length_map, List.length_range, List.length_nil]); omega) | (simp; omega)) (by first | omega | ((try dsimp only); (try simp only [List.length_map, List.length_range, List.length_nil]); omega) | (simp; omega)) (by first | omega | ((try dsimp only); (try simp only [List.length_map, List.length_range, List.length_nil]); omega) | (simp; omega))) ?_
  try dsimp only
  refine Ev.bind (eqMachine _ _ _ _ _ (by first | omega | ((try dsimp only); (try simp only [List.length_map, List.length_range, List.length_nil]); omega) | (simp; omega)) (by first | omega | ((try dsimp only); (try simp only [List.length_map, List.length_range, List.length_nil]); omega) | (simp; omega)) (by first | omega | ((try dsimp only); (try simp only [List.length_map, List.length_range, List.length_nil]); omega) | (simp; omega))) ?_
  try dsimp only
  refine Ev.iteT (by first | rfl | (first | omega | ((try dsimp only); (try simp only [List.length_map, List.length_range, List.length_nil]); omega) | (simp; omega))) ?_
  try dsimp only
  exact Ev.now _
end Go.Proofs.Ytffnfpnajkgnaaa.Pure
