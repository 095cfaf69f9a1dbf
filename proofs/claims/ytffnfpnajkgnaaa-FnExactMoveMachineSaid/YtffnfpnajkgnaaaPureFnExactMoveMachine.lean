/- The pure side of the law FnExactMoveMachine: for all arguments its Lean function answers true. No condition beside the arguments' kinds. -/
import Derived.Test.YtffnfpnajkgnaaaQFnExactMoveMachine
import Derived.Test.YtffnfpnajkgnaaaTFnExactMoveMachinea
namespace Go.Proofs.Ytffnfpnajkgnaaa.Pure
open Go.RowKit Go.Proofs.Ytffnfpnajkgnaaa.PFnExactMoveMachine Go.Proofs.YtffnfpnajkgnaaaW.PrintWords Go.Proofs.YtffnfpnajkgnaaaW.PrintLast Go.Proofs.YtffnfpnajkgnaaaX Go.Proofs.Ytffnfpnajkgnaaa.QFnExactMoveMachine Go.Proofs.YtffnfpnajkgnaaaB
set_option linter.unusedVariables false
set_option linter.unusedSimpArgs false

theorem szPieceS (l0 : List (S88)) (a_ : Int) (ha : 0 ≤ a_ ∧ a_ ≤ 1048576) (hl0 : l0.length ≤ 9223372036854775807) : ∃ r, laws_szPieceS.f l0 a_ = some r ∧ (r < 0 ∨ (r = a_ - l0.length ∧ 0 ≤ r)) := by
  unfold laws_szPieceS.f
  rw [w64 (n := a_ - l0.length) (by omega)]
  by_cases h : a_ - (l0.length : Int) < 0
  · exact ⟨-1, by rw [if_pos h], .inl (by omega)⟩
  · exact ⟨_, by rw [if_neg h], .inr ⟨rfl, by omega⟩⟩
theorem szBoard (a0_0 : Int) (a0_1 : Int) (l0_2 : List (S88)) (a_ : Int) (ha : 0 ≤ a_ ∧ a_ ≤ 1048576) (hl0_2 : l0_2.length ≤ 9223372036854775807) : ∃ r, laws_szBoard.f a0_0 a0_1 l0_2 a_ = some r ∧ (r < 0 ∨ (r = a_ - l0_2.length ∧ 0 ≤ r)) := by
  unfold laws_szBoard.f
  obtain ⟨r0, e0, c0⟩ := szPieceS l0_2 (a_) (by omega) hl0_2
  rw [e0]
  simp only [Option.bind_some]
  rcases c0 with c0 | ⟨rfl, c0⟩
  · exact ⟨-1, by rw [if_pos c0], .inl (by omega)⟩
  rw [if_neg (by omega)]
  exact ⟨_, rfl, .inr ⟨rfl, by omega⟩⟩
theorem szPortS (l0 : List (S182)) (a_ : Int) (ha : 0 ≤ a_ ∧ a_ ≤ 1048576) (hl0 : l0.length ≤ 9223372036854775807) : ∃ r, laws_szPortS.f l0 a_ = some r ∧ (r < 0 ∨ (r = a_ - l0.length ∧ 0 ≤ r)) := by
  unfold laws_szPortS.f
  rw [w64 (n := a_ - l0.length) (by omega)]
  by_cases h : a_ - (l0.length : Int) < 0
  · exact ⟨-1, by rw [if_pos h], .inl (by omega)⟩
  · exact ⟨_, by rw [if_neg h], .inr ⟨rfl, by omega⟩⟩
theorem szCellS (l0 : List (S71)) (a_ : Int) (ha : 0 ≤ a_ ∧ a_ ≤ 1048576) (hl0 : l0.length ≤ 9223372036854775807) : ∃ r, laws_szCellS.f l0 a_ = some r ∧ (r < 0 ∨ (r = a_ - l0.length ∧ 0 ≤ r)) := by
  unfold laws_szCellS.f
  rw [w64 (n := a_ - l0.length) (by omega)]
  by_cases h : a_ - (l0.length : Int) < 0
  · exact ⟨-1, by rw [if_pos h], .inl (by omega)⟩
  · exact ⟨_, by rw [if_neg h], .inr ⟨rfl, by omega⟩⟩
theorem szMachine (a0_0 : Int) (a0_1 : Int) (l0_2 : List (S88)) (l0_3 : List (S182)) (l0_4 : List (S71)) (a_ : Int) (ha : 0 ≤ a_ ∧ a_ ≤ 1048576) (hl0_2 : l0_2.length ≤ 9223372036854775807) (hl0_3 : l0_3.length ≤ 9223372036854775807) (hl0_4 : l0_4.length ≤ 9223372036854775807) : ∃ r, laws_szMachine.f a0_0 a0_1 l0_2 l0_3 l0_4 a_ = some r ∧ (r < 0 ∨ (r = a_ - l0_2.length - l0_3.length - l0_4.length ∧ 0 ≤ r)) := by
  unfold laws_szMachine.f
  obtain ⟨r0, e0, c0⟩ := szBoard a0_0 a0_1 l0_2 (a_) (by omega) hl0_2
  rw [e0]
  simp only [Option.bind_some]
  rcases c0 with c0 | ⟨rfl, c0⟩
  · exact ⟨-1, by rw [if_pos c0], .inl (by omega)⟩
  rw [if_neg (by omega)]
  obtain ⟨r1, e1, c1⟩ := szPortS l0_3 (a_ - l0_2.length) (by omega) hl0_3
  rw [e1]
  simp only [Option.bind_some]
  rcases c1 with c1 | ⟨rfl, c1⟩
  · exact ⟨-1, by rw [if_pos c1], .inl (by omega)⟩
  rw [if_neg (by omega)]
  obtain ⟨r2, e2, c2⟩ := szCellS l0_4 (a_ - l0_2.length - l0_3.length) (by omega) hl0_4
  rw [e2]
  simp only [Option.bind_some]
  rcases c2 with c2 | ⟨rfl, c2⟩
  · exact ⟨-1, by rw [if_pos c2], .inl (by omega)⟩
  rw [if_neg (by omega)]
  exact ⟨_, rfl, .inr ⟨rfl, by omega⟩⟩
theorem toCell (a0_0 : Int) (a0_1 : Int)  : Ev (fun k => laws_toCell.f k a0_0 a0_1) (a0_0, a0_1) := by
  refine ⟨3, fun k hk => ?_⟩
  obtain ⟨m, rfl⟩ : ∃ m, k = m + 3 := ⟨k - 3, by omega⟩
  simp [laws_toCell.f, laws_toCell.l0, wrap64]
theorem toPiece (a0_0 : Int) (a0_1 : Int) (a0_2 : Int) (a0_3 : Int) (a0_4 : Int)  : Ev (fun k => laws_toPiece.f k a0_0 a0_1 a0_2 a0_3 a0_4) (a0_0, a0_1, a0_2, a0_3, a0_4) := by
  unfold laws_toPiece.f
  exact (Ev.bind (toCell _ _ ) (Ev.now _))
def cv71_74 (x : S71) : S74 := ⟨x.f0, x.f1⟩
def cv88_91 (x : S88) : S91 := ⟨cv71_74 x.f0, x.f1, x.f2, x.f3⟩
theorem toPieceS (l0 : List (S88)) (hl0 : l0.length ≤ 1099511627776) : Ev (fun k => laws_toPieceS.f k l0) (l0.map cv88_91) := by
  suffices main : Ev (fun k => laws_toPieceS.f k l0) (l0.map cv88_91) by exact main
  unfold laws_toPieceS.f
  refine Ev.iteT (by omega) (Ev.iteT (by omega) ?_)
  rw [Int.toNat_natCast]
  refine ev_fill2 (g := fun k x i => laws_toPieceS.l0 k l0 x i) cv88_91 l0 _ (Ev.step (f := fun _ => some _) (fun k => by simp [laws_toPieceS.l0]) (Ev.now _)) fun i h x hx ih => ?_
  have eg : l0.getD i z88 = l0[i] := getD_at _ _ _ h
  refine Ev.step (fun k => by rw [laws_toPieceS.l0]) (Ev.iteT (by omega) (Ev.iteT (by omega) ?_))
  simp only [rd_T88, Int.toNat_natCast, eg]
  refine Ev.bind (toPiece _ _ _ _ _ ) ?_
  refine Ev.iteT (by omega) ?_
  rw [w64 (by omega)]
  exact ih
theorem toBoard (a0_0 : Int) (a0_1 : Int) (l0_2 : List (S88)) (hl0_2 : l0_2.length ≤ 1099511627776) : Ev (fun k => laws_toBoard.f k a0_0 a0_1 l0_2) (a0_0, a0_1, (l0_2.map cv88_91)) := by
  unfold laws_toBoard.f
  exact (Ev.bind (toPieceS _ (by first | omega | ((try dsimp only); (try simp only [List.length_map, List.length_range, List.length_nil]); omega) | (simp; omega))) (Ev.now _))
theorem toPort (a0_0 : Int) (a0_1 : Int) (a0_2 : Int)  : Ev (fun k => laws_toPort.f k a0_0 a0_1 a0_2) (a0_0, a0_1, a0_2) := by
  unfold laws_toPort.f
  exact (Ev.bind (toCell _ _ ) (Ev.now _))
def cv182_116 (x : S182) : S116 := ⟨cv71_74 x.f0, x.f1⟩
theorem toPortS (l0 : List (S182)) (hl0 : l0.length ≤ 1099511627776) : Ev (fun k => laws_toPortS.f k l0) (l0.map cv182_116) := by
  suffices main : Ev (fun k => laws_toPortS.f k l0) (l0.map cv182_116) by exact main
  unfold laws_toPortS.f
  refine Ev.iteT (by omega) (Ev.iteT (by omega) ?_)
  rw [Int.toNat_natCast]
  refine ev_fill2 (g := fun k x i => laws_toPortS.l0 k l0 x i) cv182_116 l0 _ (Ev.step (f := fun _ => some _) (fun k => by simp [laws_toPortS.l0]) (Ev.now _)) fun i h x hx ih => ?_
  have eg : l0.getD i z182 = l0[i] := getD_at _ _ _ h
  refine Ev.step (fun k => by rw [laws_toPortS.l0]) (Ev.iteT (by omega) (Ev.iteT (by omega) ?_))
  simp only [rd_T182, Int.toNat_natCast, eg]
  refine Ev.bind (toPort _ _ _ ) ?_
  refine Ev.iteT (by omega) ?_
  rw [w64 (by omega)]
  exact ih
theorem toCellS (l0 : List (S71)) (hl0 : l0.length ≤ 1099511627776) : Ev (fun k => laws_toCellS.f k l0) (l0.map cv71_74) := by
  suffices main : Ev (fun k => laws_toCellS.f k l0) (l0.map cv71_74) by exact main
  unfold laws_toCellS.f
  refine Ev.iteT (by omega) (Ev.iteT (by omega) ?_)
  rw [Int.toNat_natCast]
  refine ev_fill2 (g := fun k x i => laws_toCellS.l0 k l0 x i) cv71_74 l0 _ (Ev.step (f := fun _ => some _) (fun k => by simp [laws_toCellS.l0]) (Ev.now _)) fun i h x hx ih => ?_
  have eg : l0.getD i z71 = l0[i] := getD_at _ _ _ h
  refine Ev.step (fun k => by rw [laws_toCellS.l0]) (Ev.iteT (by omega) (Ev.iteT (by omega) ?_))
  simp only [rd_T71, Int.toNat_natCast, eg]
  refine Ev.bind (toCell _ _ ) ?_
  refine Ev.iteT (by omega) ?_
  rw [w64 (by omega)]
  exact ih
theorem toMachine (a0_0 : Int) (a0_1 : Int) (l0_2 : List (S88)) (l0_3 : List (S182)) (l0_4 : List (S71)) (hl0_2 : l0_2.length ≤ 1099511627776) (hl0_3 : l0_3.length ≤ 1099511627776) (hl0_4 : l0_4.length ≤ 1099511627776) : Ev (fun k => laws_toMachine.f k a0_0 a0_1 l0_2 l0_3 l0_4) (a0_0, a0_1, (l0_2.map cv88_91), (l0_3.map cv182_116), (l0_4.map cv71_74)) := by
  unfold laws_toMachine.f
  exact (Ev.bind (toBoard _ _ _ (by first | omega | ((try dsimp only); (try simp only [List.length_map, List.length_range, List.length_nil]); omega) | (simp; omega))) (Ev.bind (toPortS _ (by first | omega | ((try dsimp only); (try simp only [List.length_map, List.length_range, List.length_nil]); omega) | (simp; omega))) (Ev.bind (toCellS _ (by first | omega | ((try dsimp only); (try simp only [List.length_map, List.length_range, List.length_nil]); omega) | (simp; omega))) (Ev.now _))))
theorem eqCell (a0_0 : Int) (a0_1 : Int)  : Ev (fun k => laws_eqCell.f k a0_0 a0_1 a0_0 a0_1) true := by
  refine ⟨3, fun k hk => ?_⟩
  obtain ⟨m, rfl⟩ : ∃ m, k = m + 3 := ⟨k - 3, by omega⟩
  simp [laws_eqCell.f, laws_eqCell.l0, wrap64]
theorem eqPiece (a0_0 : Int) (a0_1 : Int) (a0_2 : Int) (a0_3 : Int) (a0_4 : Int)  : Ev (fun k => laws_eqPiece.f k a0_0 a0_1 a0_2 a0_3 a0_4 a0_0 a0_1 a0_2 a0_3 a0_4) true := by
  unfold laws_eqPiece.f
  exact (Ev.bind (eqCell _ _ ) (Ev.iteT rfl (Ev.iteT rfl (Ev.iteT rfl (Ev.iteT rfl (Ev.now _))))))
theorem eqPieceS (l0 : List (S91)) (hl0 : l0.length ≤ 1099511627776) : Ev (fun k => laws_eqPieceS.f k l0 l0) true := by
  unfold laws_eqPieceS.f
  refine Ev.iteT rfl ?_
  refine ev_loop2 (g := fun k i => laws_eqPieceS.l0 k l0 l0 i) (fun i => (i : Int)) l0.length (Ev.step (f := fun _ => some _) (fun k => by simp [laws_eqPieceS.l0]) (Ev.now _)) fun i h ih => ?_
  refine Ev.step (fun k => by rw [laws_eqPieceS.l0]) (Ev.iteT (by omega) (Ev.iteT (by omega) (Ev.iteT (by omega) ?_)))
  refine Ev.bind (eqPiece _ _ _ _ _ ) (Ev.iteT rfl ?_)
  rw [w64 (by omega)]
  exact ih
theorem eqBoard (a0_0 : Int) (a0_1 : Int) (l0_2 : List (S91)) (hl0_2 : l0_2.length ≤ 1099511627776) : Ev (fun k => laws_eqBoard.f k a0_0 a0_1 l0_2 a0_0 a0_1 l0_2) true := by
  unfold laws_eqBoard.f
  exact (Ev.iteT rfl (Ev.iteT rfl (Ev.bind (eqPieceS _ (by first | omega | ((try dsimp only); (try simp only [List.length_map, List.length_range, List.length_nil]); omega) | (simp; omega))) (Ev.iteT rfl (Ev.now _)))))
theorem eqPort (a0_0 : Int) (a0_1 : Int) (a0_2 : Int)  : Ev (fun k => laws_eqPort.f k a0_0 a0_1 a0_2 a0_0 a0_1 a0_2) true := by
  unfold laws_eqPort.f
  exact (Ev.bind (eqCell _ _ ) (Ev.iteT rfl (Ev.iteT rfl (Ev.now _))))
theorem eqPortS (l0 : List (S116)) (hl0 : l0.length ≤ 1099511627776) : Ev (fun k => laws_eqPortS.f k l0 l0) true := by
  unfold laws_eqPortS.f
  refine Ev.iteT rfl ?_
  refine ev_loop2 (g := fun k i => laws_eqPortS.l0 k l0 l0 i) (fun i => (i : Int)) l0.length (Ev.step (f := fun _ => some _) (fun k => by simp [laws_eqPortS.l0]) (Ev.now _)) fun i h ih => ?_
  refine Ev.step (fun k => by rw [laws_eqPortS.l0]) (Ev.iteT (by omega) (Ev.iteT (by omega) (Ev.iteT (by omega) ?_)))
  refine Ev.bind (eqPort _ _ _ ) (Ev.iteT rfl ?_)
  rw [w64 (by omega)]
  exact ih
theorem eqCellS (l0 : List (S74)) (hl0 : l0.length ≤ 1099511627776) : Ev (fun k => laws_eqCellS.f k l0 l0) true := by
  unfold laws_eqCellS.f
  refine Ev.iteT rfl ?_
  refine ev_loop2 (g := fun k i => laws_eqCellS.l0 k l0 l0 i) (fun i => (i : Int)) l0.length (Ev.step (f := fun _ => some _) (fun k => by simp [laws_eqCellS.l0]) (Ev.now _)) fun i h ih => ?_
  refine Ev.step (fun k => by rw [laws_eqCellS.l0]) (Ev.iteT (by omega) (Ev.iteT (by omega) (Ev.iteT (by omega) ?_)))
  refine Ev.bind (eqCell _ _ ) (Ev.iteT rfl ?_)
  rw [w64 (by omega)]
  exact ih
theorem eqMachine (a0_0 : Int) (a0_1 : Int) (l0_2 : List (S91)) (l0_3 : List (S116)) (l0_4 : List (S74)) (hl0_2 : l0_2.length ≤ 1099511627776) (hl0_3 : l0_3.length ≤ 1099511627776) (hl0_4 : l0_4.length ≤ 1099511627776) : Ev (fun k => laws_eqMachine.f k a0_0 a0_1 l0_2 l0_3 l0_4 a0_0 a0_1 l0_2 l0_3 l0_4) true := by
  unfold laws_eqMachine.f
  exact (Ev.bind (eqBoard _ _ _ (by first | omega | ((try dsimp only); (try simp only [List.length_map, List.length_range, List.length_nil]); omega) | (simp; omega))) (Ev.iteT rfl (Ev.bind (eqPortS _ (by first | omega | ((try dsimp only); (try simp only [List.length_map, List.length_range, List.length_nil]); omega) | (simp; omega))) (Ev.iteT rfl (Ev.bind (eqCellS _ (by first | omega | ((try dsimp only); (try simp only [List.length_map, List.length_range, List.length_nil]); omega) | (simp; omega))) (Ev.iteT rfl (Ev.now _)))))))
def mk_PieceS (k : Int) : S91 := ⟨⟨IntKind.i8.wrap k, IntKind.i8.wrap (k + 1)⟩, IntKind.i8.wrap (k + 2), IntKind.i8.wrap (k + 3), IntKind.i8.wrap (k + 4)⟩
theorem markPieceS (l0 : List (S91)) (k_ : Int) (hl0 : l0.length ≤ 1099511627776) (hk : 0 ≤ k_ ∧ (k_ + 5 * (l0.length : Int)) ≤ 4611686018427387904) : Ev (fun k => laws_markPieceS.f k l0 k_) ((k_ + 5 * (l0.length : Int)), ((List.range l0.length).map fun (j : Nat) => mk_PieceS (k_ + 5 * (j : Int)))) := by
  unfold laws_markPieceS.f
  refine ev_mark (g := fun k x q i => laws_markPieceS.l0 k x q i) mk_PieceS 5 l0 k_ (Ev.step (f := fun _ => some _) (fun k => by simp [laws_markPieceS.l0]) (Ev.now _)) fun i x h hx ih => ?_
  obtain ⟨q, hq⟩ : ∃ q, q = k_ + 5 * (i : Int) := ⟨_, rfl⟩
  rw [← hq] at ih ⊢
  have hqb : 0 ≤ q ∧ q + 5 ≤ 4611686018427387904 := by omega
  rw [show k_ + 5 * ((i + 1 : Nat) : Int) = q + 5 by omega] at ih
  have hi1 : ((i : Int) < (x.length : Int)) = True := eq_true (by omega)
  have hi0 : (0 ≤ (i : Int)) = True := eq_true (by omega)
  have hix : i < x.length := by omega
  have hs : ∀ a, (x.set i a).getD i z91 = a := fun a => getD_set x i z91 a hix
  obtain ⟨e0, e1, e2, e3, e4, ei⟩ : wrap64 (q + 1) = q + 1 ∧ wrap64 ((q + 1) + 1) = q + 2 ∧ wrap64 ((q + 2) + 1) = q + 3 ∧ wrap64 ((q + 3) + 1) = q + 4 ∧ wrap64 ((q + 4) + 1) = q + 5 ∧ wrap64 ((i : Int) + 1) = ((i + 1 : Nat) : Int) := ⟨wq (by omega) (by omega), wq (by omega) (by omega), wq (by omega) (by omega), wq (by omega) (by omega), wq (by omega) (by omega), wq (by omega) (by omega)⟩
  have s0 : ∀ k, laws_markPieceS.l0 (k + 1) x q (i : Int) = laws_markPieceS.l1 k x q (i : Int) 0 := fun k => by
    rw [laws_markPieceS.l0]
    simp only [hi1, if_true]
  have s1 : ∀ k a, laws_markPieceS.l1 (k + 1) (x.set i a) q (i : Int) 0 = laws_markPieceS.l1 k (x.set i ⟨⟨IntKind.i8.wrap q, a.f0.f1⟩, a.f1, a.f2, a.f3⟩) (q + 1) (i : Int) 1 := fun k a => by
    rw [laws_markPieceS.l1]
    simp only [e0, e1, e2, e3, e4, ei, (by decide +kernel : wrap64 (0 + 1) = 1), (by decide +kernel : wrap64 (1 + 1) = 2), show (((0 : Int) < 2) = True) from eq_true (by decide), show (((1 : Int) < 2) = True) from eq_true (by decide), show (((2 : Int) < 2) = False) from eq_false (by decide), show (((0 : Int) = 0) = True) from eq_true (by decide), show (((1 : Int) = 0) = False) from eq_false (by decide), show (((1 : Int) = 1) = True) from eq_true (by decide), hi1, hi0, if_true, if_false, Option.bind_some, Int.toNat_natCast, List.length_set, List.set_set, rd_T91, hs]
  have s2 : ∀ k a, laws_markPieceS.l1 (k + 1) (x.set i a) (q + 1) (i : Int) 1 = laws_markPieceS.l1 k (x.set i ⟨⟨a.f0.f0, IntKind.i8.wrap (q + 1)⟩, a.f1, a.f2, a.f3⟩) (q + 2) (i : Int) 2 := fun k a => by
    rw [laws_markPieceS.l1]
    simp only [e0, e1, e2, e3, e4, ei, (by decide +kernel : wrap64 (0 + 1) = 1), (by decide +kernel : wrap64 (1 + 1) = 2), show (((0 : Int) < 2) = True) from eq_true (by decide), show (((1 : Int) < 2) = True) from eq_true (by decide), show (((2 : Int) < 2) = False) from eq_false (by decide), show (((0 : Int) = 0) = True) from eq_true (by decide), show (((1 : Int) = 0) = False) from eq_false (by decide), show (((1 : Int) = 1) = True) from eq_true (by decide), hi1, hi0, if_true, if_false, Option.bind_some, Int.toNat_natCast, List.length_set, List.set_set, rd_T91, hs]
  have sf : ∀ k a, laws_markPieceS.l1 (k + 1) (x.set i a) (q + 2) (i : Int) 2 = laws_markPieceS.l0 k (x.set i ⟨a.f0, IntKind.i8.wrap (q + 2), IntKind.i8.wrap (q + 3), IntKind.i8.wrap (q + 4)⟩) (q + 5) ((i + 1 : Nat) : Int) := fun k a => by
    rw [laws_markPieceS.l1]
    simp only [e0, e1, e2, e3, e4, ei, (by decide +kernel : wrap64 (0 + 1) = 1), (by decide +kernel : wrap64 (1 + 1) = 2), show (((0 : Int) < 2) = True) from eq_true (by decide), show (((1 : Int) < 2) = True) from eq_true (by decide), show (((2 : Int) < 2) = False) from eq_false (by decide), show (((0 : Int) = 0) = True) from eq_true (by decide), show (((1 : Int) = 0) = False) from eq_false (by decide), show (((1 : Int) = 1) = True) from eq_true (by decide), hi1, hi0, if_true, if_false, Option.bind_some, Int.toNat_natCast, List.length_set, List.set_set, rd_T91, hs]
  have st : ∀ k, laws_markPieceS.l0 (k + 4) x q (i : Int) = laws_markPieceS.l0 k (x.set i (mk_PieceS q)) (q + 5) ((i + 1 : Nat) : Int) := fun k => by
    rw [s0]
    have h1 := s1 (k + 2) (x.getD i z91)
    rw [set_getD x i z91 hix] at h1
    rw [h1, s2, sf]
    rfl
  exact Ev.steps 4 st ih
theorem markBoard (a0_0 : Int) (a0_1 : Int) (l0_2 : List (S91)) (k_ : Int) (hl0_2 : l0_2.length ≤ 1099511627776) (hk : 0 ≤ k_ ∧ k_ + 5 * (l0_2.length : Int) ≤ 4611686018427387904) : Ev (fun k => laws_markBoard.f k a0_0 a0_1 l0_2 k_) (k_ + 5 * (l0_2.length : Int), ((List.range l0_2.length).map fun (j : Nat) => mk_PieceS (k_ + 5 * (j : Int)))) := by
  unfold laws_markBoard.f
  exact Ev.bind (markPieceS _ _ (by omega) (by omega)) (Ev.now _)
def mk_PortS (k : Int) : S116 := ⟨⟨IntKind.i8.wrap k, IntKind.i8.wrap (k + 1)⟩, IntKind.i8.wrap (k + 2)⟩
theorem markPortS (l0 : List (S116)) (k_ : Int) (hl0 : l0.length ≤ 1099511627776) (hk : 0 ≤ k_ ∧ (k_ + 3 * (l0.length : Int)) ≤ 4611686018427387904) : Ev (fun k => laws_markPortS.f k l0 k_) ((k_ + 3 * (l0.length : Int)), ((List.range l0.length).map fun (j : Nat) => mk_PortS (k_ + 3 * (j : Int)))) := by
  unfold laws_markPortS.f
  refine ev_mark (g := fun k x q i => laws_markPortS.l0 k x q i) mk_PortS 3 l0 k_ (Ev.step (f := fun _ => some _) (fun k => by simp [laws_markPortS.l0]) (Ev.now _)) fun i x h hx ih => ?_
  obtain ⟨q, hq⟩ : ∃ q, q = k_ + 3 * (i : Int) := ⟨_, rfl⟩
  rw [← hq] at ih ⊢
  have hqb : 0 ≤ q ∧ q + 3 ≤ 4611686018427387904 := by omega
  rw [show k_ + 3 * ((i + 1 : Nat) : Int) = q + 3 by omega] at ih
  have hi1 : ((i : Int) < (x.length : Int)) = True := eq_true (by omega)
  have hi0 : (0 ≤ (i : Int)) = True := eq_true (by omega)
  have hix : i < x.length := by omega
  have hs : ∀ a, (x.set i a).getD i z116 = a := fun a => getD_set x i z116 a hix
  obtain ⟨e0, e1, e2, ei⟩ : wrap64 (q + 1) = q + 1 ∧ wrap64 ((q + 1) + 1) = q + 2 ∧ wrap64 ((q + 2) + 1) = q + 3 ∧ wrap64 ((i : Int) + 1) = ((i + 1 : Nat) : Int) := ⟨wq (by omega) (by omega), wq (by omega) (by omega), wq (by omega) (by omega), wq (by omega) (by omega)⟩
  have s0 : ∀ k, laws_markPortS.l0 (k + 1) x q (i : Int) = laws_markPortS.l1 k x q (i : Int) 0 := fun k => by
    rw [laws_markPortS.l0]
    simp only [hi1, if_true]
  have s1 : ∀ k a, laws_markPortS.l1 (k + 1) (x.set i a) q (i : Int) 0 = laws_markPortS.l1 k (x.set i ⟨⟨IntKind.i8.wrap q, a.f0.f1⟩, a.f1⟩) (q + 1) (i : Int) 1 := fun k a => by
    rw [laws_markPortS.l1]
    simp only [e0, e1, e2, ei, (by decide +kernel : wrap64 (0 + 1) = 1), (by decide +kernel : wrap64 (1 + 1) = 2), show (((0 : Int) < 2) = True) from eq_true (by decide), show (((1 : Int) < 2) = True) from eq_true (by decide), show (((2 : Int) < 2) = False) from eq_false (by decide), show (((0 : Int) = 0) = True) from eq_true (by decide), show (((1 : Int) = 0) = False) from eq_false (by decide), show (((1 : Int) = 1) = True) from eq_true (by decide), hi1, hi0, if_true, if_false, Option.bind_some, Int.toNat_natCast, List.length_set, List.set_set, rd_T116, hs]
  have s2 : ∀ k a, laws_markPortS.l1 (k + 1) (x.set i a) (q + 1) (i : Int) 1 = laws_markPortS.l1 k (x.set i ⟨⟨a.f0.f0, IntKind.i8.wrap (q + 1)⟩, a.f1⟩) (q + 2) (i : Int) 2 := fun k a => by
    rw [laws_markPortS.l1]
    simp only [e0, e1, e2, ei, (by decide +kernel : wrap64 (0 + 1) = 1), (by decide +kernel : wrap64 (1 + 1) = 2), show (((0 : Int) < 2) = True) from eq_true (by decide), show (((1 : Int) < 2) = True) from eq_true (by decide), show (((2 : Int) < 2) = False) from eq_false (by decide), show (((0 : Int) = 0) = True) from eq_true (by decide), show (((1 : Int) = 0) = False) from eq_false (by decide), show (((1 : Int) = 1) = True) from eq_true (by decide), hi1, hi0, if_true, if_false, Option.bind_some, Int.toNat_natCast, List.length_set, List.set_set, rd_T116, hs]
  have sf : ∀ k a, laws_markPortS.l1 (k + 1) (x.set i a) (q + 2) (i : Int) 2 = laws_markPortS.l0 k (x.set i ⟨a.f0, IntKind.i8.wrap (q + 2)⟩) (q + 3) ((i + 1 : Nat) : Int) := fun k a => by
    rw [laws_markPortS.l1]
    simp only [e0, e1, e2, ei, (by decide +kernel : wrap64 (0 + 1) = 1), (by decide +kernel : wrap64 (1 + 1) = 2), show (((0 : Int) < 2) = True) from eq_true (by decide), show (((1 : Int) < 2) = True) from eq_true (by decide), show (((2 : Int) < 2) = False) from eq_false (by decide), show (((0 : Int) = 0) = True) from eq_true (by decide), show (((1 : Int) = 0) = False) from eq_false (by decide), show (((1 : Int) = 1) = True) from eq_true (by decide), hi1, hi0, if_true, if_false, Option.bind_some, Int.toNat_natCast, List.length_set, List.set_set, rd_T116, hs]
  have st : ∀ k, laws_markPortS.l0 (k + 4) x q (i : Int) = laws_markPortS.l0 k (x.set i (mk_PortS q)) (q + 3) ((i + 1 : Nat) : Int) := fun k => by
    rw [s0]
    have h1 := s1 (k + 2) (x.getD i z116)
    rw [set_getD x i z116 hix] at h1
    rw [h1, s2, sf]
    rfl
  exact Ev.steps 4 st ih
def mk_CellS (k : Int) : S74 := ⟨IntKind.i8.wrap k, IntKind.i8.wrap (k + 1)⟩
theorem markCellS (l0 : List (S74)) (k_ : Int) (hl0 : l0.length ≤ 1099511627776) (hk : 0 ≤ k_ ∧ (k_ + 2 * (l0.length : Int)) ≤ 4611686018427387904) : Ev (fun k => laws_markCellS.f k l0 k_) ((k_ + 2 * (l0.length : Int)), ((List.range l0.length).map fun (j : Nat) => mk_CellS (k_ + 2 * (j : Int)))) := by
  unfold laws_markCellS.f
  refine ev_mark (g := fun k x q i => laws_markCellS.l0 k x q i) mk_CellS 2 l0 k_ (Ev.step (f := fun _ => some _) (fun k => by simp [laws_markCellS.l0]) (Ev.now _)) fun i x h hx ih => ?_
  obtain ⟨q, hq⟩ : ∃ q, q = k_ + 2 * (i : Int) := ⟨_, rfl⟩
  rw [← hq] at ih ⊢
  have hqb : 0 ≤ q ∧ q + 2 ≤ 4611686018427387904 := by omega
  rw [show k_ + 2 * ((i + 1 : Nat) : Int) = q + 2 by omega] at ih
  have hi1 : ((i : Int) < (x.length : Int)) = True := eq_true (by omega)
  have hi0 : (0 ≤ (i : Int)) = True := eq_true (by omega)
  have hix : i < x.length := by omega
  have hs : ∀ a, (x.set i a).getD i z74 = a := fun a => getD_set x i z74 a hix
  obtain ⟨e0, e1, ei⟩ : wrap64 (q + 1) = q + 1 ∧ wrap64 ((q + 1) + 1) = q + 2 ∧ wrap64 ((i : Int) + 1) = ((i + 1 : Nat) : Int) := ⟨wq (by omega) (by omega), wq (by omega) (by omega), wq (by omega) (by omega)⟩
  have s0 : ∀ k, laws_markCellS.l0 (k + 1) x q (i : Int) = laws_markCellS.l1 k x q (i : Int) 0 := fun k => by
    rw [laws_markCellS.l0]
    simp only [hi1, if_true]
  have s1 : ∀ k a, laws_markCellS.l1 (k + 1) (x.set i a) q (i : Int) 0 = laws_markCellS.l1 k (x.set i ⟨IntKind.i8.wrap q, a.f1⟩) (q + 1) (i : Int) 1 := fun k a => by
    rw [laws_markCellS.l1]
    simp only [e0, e1, ei, (by decide +kernel : wrap64 (0 + 1) = 1), (by decide +kernel : wrap64 (1 + 1) = 2), show (((0 : Int) < 2) = True) from eq_true (by decide), show (((1 : Int) < 2) = True) from eq_true (by decide), show (((2 : Int) < 2) = False) from eq_false (by decide), show (((0 : Int) = 0) = True) from eq_true (by decide), show (((1 : Int) = 0) = False) from eq_false (by decide), show (((1 : Int) = 1) = True) from eq_true (by decide), hi1, hi0, if_true, if_false, Option.bind_some, Int.toNat_natCast, List.length_set, List.set_set, rd_T74, hs]
  have s2 : ∀ k a, laws_markCellS.l1 (k + 1) (x.set i a) (q + 1) (i : Int) 1 = laws_markCellS.l1 k (x.set i ⟨a.f0, IntKind.i8.wrap (q + 1)⟩) (q + 2) (i : Int) 2 := fun k a => by
    rw [laws_markCellS.l1]
    simp only [e0, e1, ei, (by decide +kernel : wrap64 (0 + 1) = 1), (by decide +kernel : wrap64 (1 + 1) = 2), show (((0 : Int) < 2) = True) from eq_true (by decide), show (((1 : Int) < 2) = True) from eq_true (by decide), show (((2 : Int) < 2) = False) from eq_false (by decide), show (((0 : Int) = 0) = True) from eq_true (by decide), show (((1 : Int) = 0) = False) from eq_false (by decide), show (((1 : Int) = 1) = True) from eq_true (by decide), hi1, hi0, if_true, if_false, Option.bind_some, Int.toNat_natCast, List.length_set, List.set_set, rd_T74, hs]
  have sf : ∀ k a, laws_markCellS.l1 (k + 1) (x.set i a) (q + 2) (i : Int) 2 = laws_markCellS.l0 k (x.set i a) (q + 2) ((i + 1 : Nat) : Int) := fun k a => by
    rw [laws_markCellS.l1]
    simp only [e0, e1, ei, (by decide +kernel : wrap64 (0 + 1) = 1), (by decide +kernel : wrap64 (1 + 1) = 2), show (((0 : Int) < 2) = True) from eq_true (by decide), show (((1 : Int) < 2) = True) from eq_true (by decide), show (((2 : Int) < 2) = False) from eq_false (by decide), show (((0 : Int) = 0) = True) from eq_true (by decide), show (((1 : Int) = 0) = False) from eq_false (by decide), show (((1 : Int) = 1) = True) from eq_true (by decide), hi1, hi0, if_true, if_false, Option.bind_some, Int.toNat_natCast, List.length_set, List.set_set, rd_T74, hs]
  have st : ∀ k, laws_markCellS.l0 (k + 4) x q (i : Int) = laws_markCellS.l0 k (x.set i (mk_CellS q)) (q + 2) ((i + 1 : Nat) : Int) := fun k => by
    rw [s0]
    have h1 := s1 (k + 2) (x.getD i z74)
    rw [set_getD x i z74 hix] at h1
    rw [h1, s2, sf]
    rfl
  exact Ev.steps 4 st ih
theorem markMachine (a0_0 : Int) (a0_1 : Int) (l0_2 : List (S91)) (l0_3 : List (S116)) (l0_4 : List (S74)) (k_ : Int) (hl0_2 : l0_2.length ≤ 1099511627776) (hl0_3 : l0_3.length ≤ 1099511627776) (hl0_4 : l0_4.length ≤ 1099511627776) (hk : 0 ≤ k_ ∧ k_ + 5 * (l0_2.length : Int) + 3 * (l0_3.length : Int) + 2 * (l0_4.length : Int) ≤ 4611686018427387904) : Ev (fun k => laws_markMachine.f k a0_0 a0_1 l0_2 l0_3 l0_4 k_) (k_ + 5 * (l0_2.length : Int) + 3 * (l0_3.length : Int) + 2 * (l0_4.length : Int), ((List.range l0_2.length).map fun (j : Nat) => mk_PieceS (k_ + 5 * (j : Int))), ((List.range l0_3.length).map fun (j : Nat) => mk_PortS (k_ + 5 * (l0_2.length : Int) + 3 * (j : Int))), ((List.range l0_4.length).map fun (j : Nat) => mk_CellS (k_ + 5 * (l0_2.length : Int) + 3 * (l0_3.length : Int) + 2 * (j : Int)))) := by
  unfold laws_markMachine.f
  exact Ev.bind (markBoard _ _ _ _ (by omega) (by omega)) (Ev.bind (markPortS _ _ (by omega) (by omega)) (Ev.bind (markCellS _ _ (by omega) (by omega)) (Ev.now _)))
theorem heldPieceS (n : Nat) (k_ : Int) (hn : n ≤ 1099511627776) (hk : 0 ≤ k_ ∧ k_ + 5 * (n : Int) ≤ 4611686018427387904) : Ev (fun k => laws_heldPieceS.f k ((List.range n).map fun (j : Nat) => mk_PieceS (k_ + 5 * (j : Int))) k_) (k_ + 5 * (n : Int)) := by
  unfold laws_heldPieceS.f
  obtain ⟨M, hM⟩ : ∃ M, M = ((List.range n).map fun (j : Nat) => mk_PieceS (k_ + 5 * (j : Int))) := ⟨_, rfl⟩
  rw [← hM]
  have hl : M.length = n := by rw [hM]; simp
  have hv : ∀ i, i < n → M.getD i z91 = mk_PieceS (k_ + 5 * (i : Int)) := fun i h => by rw [hM]; exact mark_at _ _ _ _ _ _ h
  clear hM
  have h0 := ev_loop2 (g := fun k (s : Int × Int) => laws_heldPieceS.l0 k M s.1 s.2) (fun i => (k_ + 5 * (i : Int), (i : Int))) n (r := k_ + 5 * (n : Int)) (Ev.step (f := fun _ => some _) (fun k => by simp [laws_heldPieceS.l0, hl]) (Ev.now _)) fun i h ih => ?_
  · simpa using h0
  dsimp only at ih ⊢
  have hs := hv i h
  obtain ⟨q, hq⟩ : ∃ q, q = k_ + 5 * (i : Int) := ⟨_, rfl⟩
  rw [← hq] at hs ⊢
  rw [show k_ + 5 * ((i + 1 : Nat) : Int) = q + 5 by omega] at ih
  have hqb : 0 ≤ q ∧ q + 5 ≤ 4611686018427387904 := by omega
  have hi1 : ((i : Int) < (M.length : Int)) = True := eq_true (by omega)
  have hi0 : (0 ≤ (i : Int)) = True := eq_true (by omega)
  obtain ⟨e0, e1, e2, e3, e4, ei⟩ : wrap64 (q + 1) = q + 1 ∧ wrap64 ((q + 1) + 1) = q + 2 ∧ wrap64 ((q + 2) + 1) = q + 3 ∧ wrap64 ((q + 3) + 1) = q + 4 ∧ wrap64 ((q + 4) + 1) = q + 5 ∧ wrap64 ((i : Int) + 1) = ((i + 1 : Nat) : Int) := ⟨wq (by omega) (by omega), wq (by omega) (by omega), wq (by omega) (by omega), wq (by omega) (by omega), wq (by omega) (by omega), wq (by omega) (by omega)⟩
  have s0 : ∀ k, laws_heldPieceS.l0 (k + 1) M q (i : Int) = laws_heldPieceS.l1 k M q (i : Int) 0 := fun k => by
    rw [laws_heldPieceS.l0]
    simp only [hi1, if_true]
  have s1 : ∀ k, laws_heldPieceS.l1 (k + 1) M q (i : Int) 0 = laws_heldPieceS.l1 k M (q + 1) (i : Int) 1 := fun k => by
    rw [laws_heldPieceS.l1]
    simp only [e0, e1, e2, e3, e4, ei, (by decide +kernel : wrap64 (0 + 1) = 1), (by decide +kernel : wrap64 (1 + 1) = 2), show (((0 : Int) < 2) = True) from eq_true (by decide), show (((1 : Int) < 2) = True) from eq_true (by decide), show (((2 : Int) < 2) = False) from eq_false (by decide), show (((0 : Int) = 0) = True) from eq_true (by decide), show (((1 : Int) = 0) = False) from eq_false (by decide), show (((1 : Int) = 1) = True) from eq_true (by decide), hi1, hi0, if_true, if_false, Option.bind_some, Int.toNat_natCast, List.length_set, List.set_set, rd_T91, hs, mk_PieceS]
  have s2 : ∀ k, laws_heldPieceS.l1 (k + 1) M (q + 1) (i : Int) 1 = laws_heldPieceS.l1 k M (q + 2) (i : Int) 2 := fun k => by
    rw [laws_heldPieceS.l1]
    simp only [e0, e1, e2, e3, e4, ei, (by decide +kernel : wrap64 (0 + 1) = 1), (by decide +kernel : wrap64 (1 + 1) = 2), show (((0 : Int) < 2) = True) from eq_true (by decide), show (((1 : Int) < 2) = True) from eq_true (by decide), show (((2 : Int) < 2) = False) from eq_false (by decide), show (((0 : Int) = 0) = True) from eq_true (by decide), show (((1 : Int) = 0) = False) from eq_false (by decide), show (((1 : Int) = 1) = True) from eq_true (by decide), hi1, hi0, if_true, if_false, Option.bind_some, Int.toNat_natCast, List.length_set, List.set_set, rd_T91, hs, mk_PieceS]
  have sf : ∀ k, laws_heldPieceS.l1 (k + 1) M (q + 2) (i : Int) 2 = laws_heldPieceS.l0 k M (q + 5) ((i + 1 : Nat) : Int) := fun k => by
    rw [laws_heldPieceS.l1]
    simp only [e0, e1, e2, e3, e4, ei, (by decide +kernel : wrap64 (0 + 1) = 1), (by decide +kernel : wrap64 (1 + 1) = 2), show (((0 : Int) < 2) = True) from eq_true (by decide), show (((1 : Int) < 2) = True) from eq_true (by decide), show (((2 : Int) < 2) = False) from eq_false (by decide), show (((0 : Int) = 0) = True) from eq_true (by decide), show (((1 : Int) = 0) = False) from eq_false (by decide), show (((1 : Int) = 1) = True) from eq_true (by decide), hi1, hi0, if_true, if_false, Option.bind_some, Int.toNat_natCast, List.length_set, List.set_set, rd_T91, hs, mk_PieceS]
  have st : ∀ k, laws_heldPieceS.l0 (k + 4) M q (i : Int) = laws_heldPieceS.l0 k M (q + 5) ((i + 1 : Nat) : Int) := fun k => by
    rw [s0, s1, s2, sf]
  exact Ev.steps 4 st ih
theorem heldBoard (a0_0 : Int) (a0_1 : Int) (nl0_2 : Nat) (k_ : Int) (hl0_2 : nl0_2 ≤ 1099511627776) (hk : 0 ≤ k_ ∧ k_ + 5 * (nl0_2 : Int) ≤ 4611686018427387904) : Ev (fun k => laws_heldBoard.f k a0_0 a0_1 ((List.range nl0_2).map fun (j : Nat) => mk_PieceS (k_ + 5 * (j : Int))) k_) (k_ + 5 * (nl0_2 : Int)) := by
  unfold laws_heldBoard.f
  exact Ev.bind (heldPieceS _ _ (by omega) (by omega)) (Ev.iteF (by omega) (Ev.now _))
theorem heldPortS (n : Nat) (k_ : Int) (hn : n ≤ 1099511627776) (hk : 0 ≤ k_ ∧ k_ + 3 * (n : Int) ≤ 4611686018427387904) : Ev (fun k => laws_heldPortS.f k ((List.range n).map fun (j : Nat) => mk_PortS (k_ + 3 * (j : Int))) k_) (k_ + 3 * (n : Int)) := by
  unfold laws_heldPortS.f
  obtain ⟨M, hM⟩ : ∃ M, M = ((List.range n).map fun (j : Nat) => mk_PortS (k_ + 3 * (j : Int))) := ⟨_, rfl⟩
  rw [← hM]
  have hl : M.length = n := by rw [hM]; simp
  have hv : ∀ i, i < n → M.getD i z116 = mk_PortS (k_ + 3 * (i : Int)) := fun i h => by rw [hM]; exact mark_at _ _ _ _ _ _ h
  clear hM
  have h0 := ev_loop2 (g := fun k (s : Int × Int) => laws_heldPortS.l0 k M s.1 s.2) (fun i => (k_ + 3 * (i : Int), (i : Int))) n (r := k_ + 3 * (n : Int)) (Ev.step (f := fun _ => some _) (fun k => by simp [laws_heldPortS.l0, hl]) (Ev.now _)) fun i h ih => ?_
  · simpa using h0
  dsimp only at ih ⊢
  have hs := hv i h
  obtain ⟨q, hq⟩ : ∃ q, q = k_ + 3 * (i : Int) := ⟨_, rfl⟩
  rw [← hq] at hs ⊢
  rw [show k_ + 3 * ((i + 1 : Nat) : Int) = q + 3 by omega] at ih
  have hqb : 0 ≤ q ∧ q + 3 ≤ 4611686018427387904 := by omega
  have hi1 : ((i : Int) < (M.length : Int)) = True := eq_true (by omega)
  have hi0 : (0 ≤ (i : Int)) = True := eq_true (by omega)
  obtain ⟨e0, e1, e2, ei⟩ : wrap64 (q + 1) = q + 1 ∧ wrap64 ((q + 1) + 1) = q + 2 ∧ wrap64 ((q + 2) + 1) = q + 3 ∧ wrap64 ((i : Int) + 1) = ((i + 1 : Nat) : Int) := ⟨wq (by omega) (by omega), wq (by omega) (by omega), wq (by omega) (by omega), wq (by omega) (by omega)⟩
  have s0 : ∀ k, laws_heldPortS.l0 (k + 1) M q (i : Int) = laws_heldPortS.l1 k M q (i : Int) 0 := fun k => by
    rw [laws_heldPortS.l0]
    simp only [hi1, if_true]
  have s1 : ∀ k, laws_heldPortS.l1 (k + 1) M q (i : Int) 0 = laws_heldPortS.l1 k M (q + 1) (i : Int) 1 := fun k => by
    rw [laws_heldPortS.l1]
    simp only [e0, e1, e2, ei, (by decide +kernel : wrap64 (0 + 1) = 1), (by decide +kernel : wrap64 (1 + 1) = 2), show (((0 : Int) < 2) = True) from eq_true (by decide), show (((1 : Int) < 2) = True) from eq_true (by decide), show (((2 : Int) < 2) = False) from eq_false (by decide), show (((0 : Int) = 0) = True) from eq_true (by decide), show (((1 : Int) = 0) = False) from eq_false (by decide), show (((1 : Int) = 1) = True) from eq_true (by decide), hi1, hi0, if_true, if_false, Option.bind_some, Int.toNat_natCast, List.length_set, List.set_set, rd_T116, hs, mk_PortS]
  have s2 : ∀ k, laws_heldPortS.l1 (k + 1) M (q + 1) (i : Int) 1 = laws_heldPortS.l1 k M (q + 2) (i : Int) 2 := fun k => by
    rw [laws_heldPortS.l1]
    simp only [e0, e1, e2, ei, (by decide +kernel : wrap64 (0 + 1) = 1), (by decide +kernel : wrap64 (1 + 1) = 2), show (((0 : Int) < 2) = True) from eq_true (by decide), show (((1 : Int) < 2) = True) from eq_true (by decide), show (((2 : Int) < 2) = False) from eq_false (by decide), show (((0 : Int) = 0) = True) from eq_true (by decide), show (((1 : Int) = 0) = False) from eq_false (by decide), show (((1 : Int) = 1) = True) from eq_true (by decide), hi1, hi0, if_true, if_false, Option.bind_some, Int.toNat_natCast, List.length_set, List.set_set, rd_T116, hs, mk_PortS]
  have sf : ∀ k, laws_heldPortS.l1 (k + 1) M (q + 2) (i : Int) 2 = laws_heldPortS.l0 k M (q + 3) ((i + 1 : Nat) : Int) := fun k => by
    rw [laws_heldPortS.l1]
    simp only [e0, e1, e2, ei, (by decide +kernel : wrap64 (0 + 1) = 1), (by decide +kernel : wrap64 (1 + 1) = 2), show (((0 : Int) < 2) = True) from eq_true (by decide), show (((1 : Int) < 2) = True) from eq_true (by decide), show (((2 : Int) < 2) = False) from eq_false (by decide), show (((0 : Int) = 0) = True) from eq_true (by decide), show (((1 : Int) = 0) = False) from eq_false (by decide), show (((1 : Int) = 1) = True) from eq_true (by decide), hi1, hi0, if_true, if_false, Option.bind_some, Int.toNat_natCast, List.length_set, List.set_set, rd_T116, hs, mk_PortS]
  have st : ∀ k, laws_heldPortS.l0 (k + 4) M q (i : Int) = laws_heldPortS.l0 k M (q + 3) ((i + 1 : Nat) : Int) := fun k => by
    rw [s0, s1, s2, sf]
  exact Ev.steps 4 st ih
theorem heldCellS (n : Nat) (k_ : Int) (hn : n ≤ 1099511627776) (hk : 0 ≤ k_ ∧ k_ + 2 * (n : Int) ≤ 4611686018427387904) : Ev (fun k => laws_heldCellS.f k ((List.range n).map fun (j : Nat) => mk_CellS (k_ + 2 * (j : Int))) k_) (k_ + 2 * (n : Int)) := by
  unfold laws_heldCellS.f
  obtain ⟨M, hM⟩ : ∃ M, M = ((List.range n).map fun (j : Nat) => mk_CellS (k_ + 2 * (j : Int))) := ⟨_, rfl⟩
  rw [← hM]
  have hl : M.length = n := by rw [hM]; simp
  have hv : ∀ i, i < n → M.getD i z74 = mk_CellS (k_ + 2 * (i : Int)) := fun i h => by rw [hM]; exact mark_at _ _ _ _ _ _ h
  clear hM
  have h0 := ev_loop2 (g := fun k (s : Int × Int) => laws_heldCellS.l0 k M s.1 s.2) (fun i => (k_ + 2 * (i : Int), (i : Int))) n (r := k_ + 2 * (n : Int)) (Ev.step (f := fun _ => some _) (fun k => by simp [laws_heldCellS.l0, hl]) (Ev.now _)) fun i h ih => ?_
  · simpa using h0
  dsimp only at ih ⊢
  have hs := hv i h
  obtain ⟨q, hq⟩ : ∃ q, q = k_ + 2 * (i : Int) := ⟨_, rfl⟩
  rw [← hq] at hs ⊢
  rw [show k_ + 2 * ((i + 1 : Nat) : Int) = q + 2 by omega] at ih
  have hqb : 0 ≤ q ∧ q + 2 ≤ 4611686018427387904 := by omega
  have hi1 : ((i : Int) < (M.length : Int)) = True := eq_true (by omega)
  have hi0 : (0 ≤ (i : Int)) = True := eq_true (by omega)
  obtain ⟨e0, e1, ei⟩ : wrap64 (q + 1) = q + 1 ∧ wrap64 ((q + 1) + 1) = q + 2 ∧ wrap64 ((i : Int) + 1) = ((i + 1 : Nat) : Int) := ⟨wq (by omega) (by omega), wq (by omega) (by omega), wq (by omega) (by omega)⟩
  have s0 : ∀ k, laws_heldCellS.l0 (k + 1) M q (i : Int) = laws_heldCellS.l1 k M q (i : Int) 0 := fun k => by
    rw [laws_heldCellS.l0]
    simp only [hi1, if_true]
  have s1 : ∀ k, laws_heldCellS.l1 (k + 1) M q (i : Int) 0 = laws_heldCellS.l1 k M (q + 1) (i : Int) 1 := fun k => by
    rw [laws_heldCellS.l1]
    simp only [e0, e1, ei, (by decide +kernel : wrap64 (0 + 1) = 1), (by decide +kernel : wrap64 (1 + 1) = 2), show (((0 : Int) < 2) = True) from eq_true (by decide), show (((1 : Int) < 2) = True) from eq_true (by decide), show (((2 : Int) < 2) = False) from eq_false (by decide), show (((0 : Int) = 0) = True) from eq_true (by decide), show (((1 : Int) = 0) = False) from eq_false (by decide), show (((1 : Int) = 1) = True) from eq_true (by decide), hi1, hi0, if_true, if_false, Option.bind_some, Int.toNat_natCast, List.length_set, List.set_set, rd_T74, hs, mk_CellS]
  have s2 : ∀ k, laws_heldCellS.l1 (k + 1) M (q + 1) (i : Int) 1 = laws_heldCellS.l1 k M (q + 2) (i : Int) 2 := fun k => by
    rw [laws_heldCellS.l1]
    simp only [e0, e1, ei, (by decide +kernel : wrap64 (0 + 1) = 1), (by decide +kernel : wrap64 (1 + 1) = 2), show (((0 : Int) < 2) = True) from eq_true (by decide), show (((1 : Int) < 2) = True) from eq_true (by decide), show (((2 : Int) < 2) = False) from eq_false (by decide), show (((0 : Int) = 0) = True) from eq_true (by decide), show (((1 : Int) = 0) = False) from eq_false (by decide), show (((1 : Int) = 1) = True) from eq_true (by decide), hi1, hi0, if_true, if_false, Option.bind_some, Int.toNat_natCast, List.length_set, List.set_set, rd_T74, hs, mk_CellS]
  have sf : ∀ k, laws_heldCellS.l1 (k + 1) M (q + 2) (i : Int) 2 = laws_heldCellS.l0 k M (q + 2) ((i + 1 : Nat) : Int) := fun k => by
    rw [laws_heldCellS.l1]
    simp only [e0, e1, ei, (by decide +kernel : wrap64 (0 + 1) = 1), (by decide +kernel : wrap64 (1 + 1) = 2), show (((0 : Int) < 2) = True) from eq_true (by decide), show (((1 : Int) < 2) = True) from eq_true (by decide), show (((2 : Int) < 2) = False) from eq_false (by decide), show (((0 : Int) = 0) = True) from eq_true (by decide), show (((1 : Int) = 0) = False) from eq_false (by decide), show (((1 : Int) = 1) = True) from eq_true (by decide), hi1, hi0, if_true, if_false, Option.bind_some, Int.toNat_natCast, List.length_set, List.set_set, rd_T74, hs, mk_CellS]
  have st : ∀ k, laws_heldCellS.l0 (k + 4) M q (i : Int) = laws_heldCellS.l0 k M (q + 2) ((i + 1 : Nat) : Int) := fun k => by
    rw [s0, s1, s2, sf]
  exact Ev.steps 4 st ih
theorem heldMachine (a0_0 : Int) (a0_1 : Int) (nl0_2 : Nat) (nl0_3 : Nat) (nl0_4 : Nat) (k_ : Int) (hl0_2 : nl0_2 ≤ 1099511627776) (hl0_3 : nl0_3 ≤ 1099511627776) (hl0_4 : nl0_4 ≤ 1099511627776) (hk : 0 ≤ k_ ∧ k_ + 5 * (nl0_2 : Int) + 3 * (nl0_3 : Int) + 2 * (nl0_4 : Int) ≤ 4611686018427387904) : Ev (fun k => laws_heldMachine.f k a0_0 a0_1 ((List.range nl0_2).map fun (j : Nat) => mk_PieceS (k_ + 5 * (j : Int))) ((List.range nl0_3).map fun (j : Nat) => mk_PortS (k_ + 5 * (nl0_2 : Int) + 3 * (j : Int))) ((List.range nl0_4).map fun (j : Nat) => mk_CellS (k_ + 5 * (nl0_2 : Int) + 3 * (nl0_3 : Int) + 2 * (j : Int))) k_) (k_ + 5 * (nl0_2 : Int) + 3 * (nl0_3 : Int) + 2 * (nl0_4 : Int)) := by
  unfold laws_heldMachine.f
  exact Ev.bind (heldBoard _ _ _ _ (by omega) (by omega)) (Ev.iteF (by omega) (Ev.bind (heldPortS _ _ (by omega) (by omega)) (Ev.iteF (by omega) (Ev.bind (heldCellS _ _ (by omega) (by omega)) (Ev.iteF (by omega) (Ev.now _))))))
def ok74 (x : S74) : Prop := (-128 ≤ x.f0 ∧ x.f0 ≤ 127) ∧ (-128 ≤ x.f1 ∧ x.f1 ≤ 127)
def ok91 (x : S91) : Prop := ok74 x.f0 ∧ (-128 ≤ x.f1 ∧ x.f1 ≤ 127) ∧ (-128 ≤ x.f2 ∧ x.f2 ≤ 127) ∧ (-128 ≤ x.f3 ∧ x.f3 ≤ 127)
theorem okof71_74 {x : S71} (h : wf71 x) : ok74 (cv71_74 x) := by
  obtain ⟨h0, h1⟩ := h
  exact ⟨(i8b h0), (i8b h1)⟩
theorem okof88_91 {x : S88} (h : wf88 x) : ok91 (cv88_91 x) := by
  obtain ⟨h0, h1, h2, h3⟩ := h
  exact ⟨(okof71_74 h0), (i8b h1), (i8b h2), (i8b h3)⟩
def ok116 (x : S116) : Prop := ok74 x.f0 ∧ (-128 ≤ x.f1 ∧ x.f1 ≤ 127)
theorem okof182_116 {x : S182} (h : wf182 x) : ok116 (cv182_116 x) := by
  obtain ⟨h0, h1⟩ := h
  exact ⟨(okof71_74 h0), (i8b h1)⟩
theorem in_same : spec_l00In.f = impl_in.f := rfl
theorem in_some (a b c : Int) : impl_in.f a b c = some (decide (b ≤ a ∧ a ≤ c)) := by
  unfold impl_in.f
  by_cases h : b ≤ a <;> simp [h]

theorem rd0 (a b : Int) (l : List (S91)) : rd_T37 [(⟨a, b, l⟩ : S37)] 0 = ⟨a, b, l⟩ := id rfl
theorem rdp (l : List (S91)) (i : Nat) : rd_T91 l (i : Int) = l.getD i z91 := id rfl
def VP (p : S91) : Prop := (0 ≤ p.f1 ∧ p.f1 ≤ 5) ∧ (0 ≤ p.f2 ∧ p.f2 ≤ 3) ∧ (1 ≤ p.f3 ∧ p.f3 ≤ 9) ∧ (0 ≤ p.f0.f0 ∧ p.f0.f0 ≤ 23) ∧ (0 ≤ p.f0.f1 ∧ p.f0.f1 ≤ 23)
instance (p : S91) : Decidable (VP p) := by unfold VP; infer_instance
theorem valid_dec (a b c d e : Int) (ha : -128 ≤ a ∧ a ≤ 127) (hb : -128 ≤ b ∧ b ≤ 127) (hc : -128 ≤ c ∧ c ≤ 127) (hd : -128 ≤ d ∧ d ≤ 127) (he : -128 ≤ e ∧ e ≤ 127) : impl_ValidPiece.f a b c d e = some (decide (VP ⟨⟨a, b⟩, c, d, e⟩)) := by
  unfold impl_ValidPiece.f impl_Cell_placed.f
  simp only [in_some, Option.bind_some]
  rw [w64 (n := a) (by omega), w64 (n := b) (by omega), w64 (n := c) (by omega), w64 (n := d) (by omega), w64 (n := e) (by omega)]
  by_cases h1 : 0 ≤ c ∧ c ≤ 5 <;> by_cases h2 : 0 ≤ d ∧ d ≤ 3 <;> by_cases h3 : 1 ≤ e ∧ e ≤ 9 <;> by_cases h4 : 0 ≤ a ∧ a ≤ 23 <;> simp [VP, h1, h2, h3, h4]
theorem impl_valid {p : S91} (hp : ok91 p) : impl_ValidPiece.f p.f0.f0 p.f0.f1 p.f1 p.f2 p.f3 = some (decide (VP p)) := by
  obtain ⟨⟨a, b⟩, c, d, e⟩ := p
  obtain ⟨⟨h0, h1⟩, h2, h3, h4⟩ := hp
  exact valid_dec a b c d e h0 h1 h2 h3 h4
theorem spec_valid {p : S91} (hp : ok91 p) : spec_l01Piece.f [p] = some (decide (VP p)) := by
  rw [← impl_valid hp]
  obtain ⟨⟨a, b⟩, c, d, e⟩ := p
  unfold spec_l01Piece.f impl_ValidPiece.f impl_Cell_placed.f spec_l01In.f
  simp [in_same, in_some, rd_T91, wrap64]
theorem spec_in (a b w h : Int) (ha : -128 ≤ a ∧ a ≤ 127) (hb : -128 ≤ b ∧ b ≤ 127) (hw : -128 ≤ w ∧ w ≤ 127) (hh : -128 ≤ h ∧ h ≤ 127) : spec_l01In.f a b w h = some (decide ((0 ≤ a ∧ a < w) ∧ 0 ≤ b ∧ b < h)) := by
  unfold spec_l01In.f
  simp only [in_same, in_some, Option.bind_some]
  rw [w64 (n := a) (by omega), w64 (n := b) (by omega), w64 (n := w - 1) (by omega), w64 (n := h - 1) (by omega)]
  have e1 : (0 ≤ a ∧ a ≤ w - 1) ↔ (0 ≤ a ∧ a < w) := by omega
  have e2 : (0 ≤ b ∧ b ≤ h - 1) ↔ (0 ≤ b ∧ b < h) := by omega
  simp only [e1, e2]
  by_cases h1 : 0 ≤ a ∧ a < w <;> simp [h1]
theorem impl_has (w h : Int) (l : List (S91)) (a b : Int) : impl_Board_has.f [(⟨w, h, l⟩ : S37)] a b = some (decide ((0 ≤ a ∧ a < w) ∧ 0 ≤ b ∧ b < h)) := by
  unfold impl_Board_has.f
  simp only [rd0]
  by_cases h1 : 0 ≤ a <;> by_cases h2 : a < w <;> by_cases h3 : 0 ≤ b <;> simp [h1, h2, h3]
/-- A piece stands in a cell. -/
def At (l : List (S91)) (x y : Int) (i : Nat) : Prop := (l.getD i z91).f0.f0 = x ∧ (l.getD i z91).f0.f1 = y
def Found (l : List (S91)) (x y r : Int) : Prop := (r = -1 ∧ ∀ i : Nat, i < l.length → ¬ At l x y i) ∨ ∃ j : Nat, j < l.length ∧ r = (j : Int) ∧ At l x y j ∧ ∀ i : Nat, i < j → ¬ At l x y i
theorem Found.same {l : List (S91)} {x y r q : Int} (h : Found l x y r) (k : Found l x y q) : r = q := by
  rcases h with ⟨rfl, h⟩ | ⟨j, h1, rfl, h2, h3⟩ <;> rcases k with ⟨rfl, k⟩ | ⟨i, k1, rfl, k2, k3⟩
  · rfl
  · exact absurd k2 (h i k1)
  · exact absurd h2 (k j h1)
  · rcases Nat.lt_trichotomy i j with c | c | c
    · exact absurd k2 (h3 i c)
    · rw [c]
    · exact absurd h2 (k3 j c)
theorem Found.range {l : List (S91)} {x y r : Int} (h : Found l x y r) : -1 ≤ r ∧ r < l.length := by
  rcases h with ⟨rfl, h⟩ | ⟨j, h1, rfl, h2, h3⟩ <;> omega
theorem found_first (l : List (S91)) (x y : Int) : (∀ i : Nat, i < l.length → ¬ At l x y i) ∨ ∃ j : Nat, j < l.length ∧ At l x y j ∧ ∀ i : Nat, i < j → ¬ At l x y i := by
  have : DecidablePred fun i => ¬ At l x y i := fun _ => Classical.propDecidable _
  rcases first_or_all (fun i => ¬ At l x y i) l.length with h | ⟨j, h1, h2, h3⟩
  · exact .inl h
  · exact .inr ⟨j, h1, Classical.not_not.1 h2, h3⟩
theorem at_cond (l : List (S91)) (x y : Int) (i : Nat) : (((l.getD i z91).f0.f0 == x && (l.getD i z91).f0.f1 == y) = true) ↔ At l x y i := by simp [At]
theorem find_spec (w h : Int) (l : List (S91)) (x y : Int) (hl : l.length ≤ 1048576) : ∃ r, Ev (fun k => spec_l01Find.f k [(⟨w, h, l⟩ : S37)] x y) r ∧ Found l x y r := by
  unfold spec_l01Find.f
  rcases found_first l x y with hh | ⟨j, h1, h2, h3⟩
  · refine ⟨-1, ev_loop2 (g := fun k i => spec_l01Find.l0 k [(⟨w, h, l⟩ : S37)] i x y) (fun i => (i : Int)) l.length ?_ fun i hi ih => ?_, .inl ⟨rfl, hh⟩⟩
    · refine Ev.step (fun k => by rw [spec_l01Find.l0]) ?_
      simp only [rd0]
      exact Ev.iteT (by simp) (Ev.iteF (by omega) (Ev.now _))
    · refine Ev.step (fun k => by rw [spec_l01Find.l0]) ?_
      simp only [rd0, rdp]
      refine Ev.iteT (by simp) (Ev.iteT (by omega) (Ev.iteT (by omega) (Ev.iteF (fun c => hh i hi ((at_cond l x y i).1 c)) ?_)))
      rw [w64 (by omega)]
      exact ih
  · refine ⟨(j : Int), ev_loop2 (g := fun k i => spec_l01Find.l0 k [(⟨w, h, l⟩ : S37)] i x y) (fun i => (i : Int)) j ?_ fun i hi ih => ?_, .inr ⟨j, h1, rfl, h2, h3⟩⟩
    · refine Ev.step (fun k => by rw [spec_l01Find.l0]) ?_
      simp only [rd0, rdp]
      exact Ev.iteT (by simp) (Ev.iteT (by omega) (Ev.iteT (by omega) (Ev.iteT ((at_cond l x y j).2 h2) (Ev.now _))))
    · refine Ev.step (fun k => by rw [spec_l01Find.l0]) ?_
      simp only [rd0, rdp]
      refine Ev.iteT (by simp) (Ev.iteT (by omega) (Ev.iteT (by omega) (Ev.iteF (fun c => h3 i hi ((at_cond l x y i).1 c)) ?_)))
      rw [w64 (by omega)]
      exact ih
/-- What is right of the piece at a place. -/
def Good (w h : Int) (l : List (S91)) (i : Nat) : Prop := VP (l.getD i z91) ∧ ((0 ≤ (l.getD i z91).f0.f0 ∧ (l.getD i z91).f0.f0 < w) ∧ 0 ≤ (l.getD i z91).f0.f1 ∧ (l.getD i z91).f0.f1 < h) ∧ ∀ j, j < i → ¬ At l (l.getD i z91).f0.f0 (l.getD i z91).f0.f1 j
structure BoardOk (w h : Int) (l : List (S91)) : Prop where
  wide : 1 ≤ w ∧ w ≤ 24
  high : 1 ≤ h ∧ h ≤ 24
  len : l.length ≤ 200
  piece : ∀ i : Nat, i < l.length → Good w h l i
theorem spec_ok (w h : Int) (l : List (S91)) (hw : -128 ≤ w ∧ w ≤ 127) (hh : -128 ≤ h ∧ h ≤ 127) (hx : ∀ y ∈ l, ok91 y) (hl : l.length ≤ 1048576) :
    ∃ r, Ev (fun k => spec_l01Ok.f k [(⟨w, h, l⟩ : S37)]) r ∧ (r = true ↔ BoardOk w h l) := by
  have hj : Ev (fun k => spec_l01Ok.j0 k [(⟨w, h, l⟩ : S37)] true) false := Ev.step (f := fun _ => some false) (fun k => by simp [spec_l01Ok.j0]) (Ev.now _)
  have key : ∃ s, Ev (fun k => spec_l01Ok.l0 k [(⟨w, h, l⟩ : S37)] 0) s ∧ (s = true ↔ (∀ i : Nat, i < l.length → Good w h l i) ∧ True) := by
    refine ev_scanB (g := fun k i => spec_l01Ok.l0 k [(⟨w, h, l⟩ : S37)] i) (r := true) (fun i => Good w h l i) (by simp) (fun _ => ?_) (fun i hi hp s hs => ?_) (fun i hi hp => ?_)
    · refine Ev.step (fun k => by rw [spec_l01Ok.l0]) ?_
      simp only [rd0]
      exact Ev.iteT (by simp) (Ev.iteF (by omega) (Ev.now _))
    all_goals
      have ho : ok91 (l.getD i z91) := getD_mem hx _ _ hi
      have hv := spec_valid ho
      obtain ⟨r, f1, f2⟩ := find_spec w h l (l.getD i z91).f0.f0 (l.getD i z91).f0.f1 hl
      have hin : spec_l01In.f (l.getD i z91).f0.f0 (l.getD i z91).f0.f1 (wrap64 w) (wrap64 h) = some (decide ((0 ≤ (l.getD i z91).f0.f0 ∧ (l.getD i z91).f0.f0 < w) ∧ 0 ≤ (l.getD i z91).f0.f1 ∧ (l.getD i z91).f0.f1 < h)) := by
        rw [w64 (n := w) (by omega), w64 (n := h) (by omega)]
        exact spec_in _ _ _ _ ho.1.1 ho.1.2 hw hh
      refine Ev.step (fun k => by rw [spec_l01Ok.l0]) ?_
      simp only [rd0, rdp]
      refine Ev.iteT (by simp) (Ev.iteT (by omega) (Ev.iteT (by omega) (Ev.bindc hv ?_)))
    · obtain ⟨g1, g2, g3⟩ := hp
      have e : r = (i : Int) := f2.same (.inr ⟨i, hi, rfl, ⟨rfl, rfl⟩, g3⟩)
      refine Ev.iteT (decide_eq_true g1) (Ev.bindc hin (Ev.iteT (decide_eq_true g2) (Ev.bind f1 (Ev.iteT e ?_))))
      rw [w64 (by omega)]
      exact hs
    · by_cases g1 : VP (l.getD i z91)
      · by_cases g2 : (0 ≤ (l.getD i z91).f0.f0 ∧ (l.getD i z91).f0.f0 < w) ∧ 0 ≤ (l.getD i z91).f0.f1 ∧ (l.getD i z91).f0.f1 < h
        · refine Ev.iteT (decide_eq_true g1) (Ev.bindc hin (Ev.iteT (decide_eq_true g2) (Ev.bind f1 (Ev.iteF (fun e => hp ⟨g1, g2, ?_⟩) (Ev.now _)))))
          rcases f2 with ⟨e', _⟩ | ⟨j, _, e', _, f3⟩
          · omega
          · have : j = i := by omega
            exact this ▸ f3
        · exact Ev.iteT (decide_eq_true g1) (Ev.bindc hin (Ev.iteF (by simpa using g2) (Ev.now _)))
      · exact Ev.iteF (by simpa using g1) (Ev.now _)
  obtain ⟨s, k1, k2⟩ := key
  unfold spec_l01Ok.f
  simp only [rd0, in_same, in_some]
  rw [w64 (n := w) (by omega), w64 (n := h) (by omega)]
  by_cases h1 : 1 ≤ w ∧ w ≤ 24
  · by_cases h2 : 1 ≤ h ∧ h ≤ 24
    · by_cases h3 : (l.length : Int) > 200
      · refine ⟨false, Ev.iteT (by simp) (Ev.bindc rfl (Ev.iteT (by simpa using h1) (Ev.bindc rfl (Ev.iteT (by simpa using h2) ?_)))), ?_⟩
        · rw [decide_eq_true h3]; exact hj
        · simp only [Bool.false_eq_true, false_iff]; intro h; have := h.len; omega
      · refine ⟨s, Ev.iteT (by simp) (Ev.bindc rfl (Ev.iteT (by simpa using h1) (Ev.bindc rfl (Ev.iteT (by simpa using h2) (Ev.step (fun k => by rw [spec_l01Ok.j0]) (Ev.iteF (by simpa using h3) k1)))))), ?_⟩
        rw [k2]; exact ⟨fun h => ⟨h1, h2, by omega, h.1⟩, fun h => ⟨h.piece, trivial⟩⟩
    · refine ⟨false, Ev.iteT (by simp) (Ev.bindc rfl (Ev.iteT (by simpa using h1) (Ev.bindc rfl (Ev.iteF (by simpa using h2) hj)))), ?_⟩
      simp only [Bool.false_eq_true, false_iff]; intro h; have := h.high; omega
  · refine ⟨false, Ev.iteT (by simp) (Ev.bindc rfl (Ev.iteF (by simpa using h1) hj)), ?_⟩
    simp only [Bool.false_eq_true, false_iff]; intro h; have := h.wide; omega
/-- The cells of the first pieces, as the keys of a map. -/
def cells (l : List (S91)) (i : Nat) : List ((Int × Int) × Unit) := (l.take i).map fun p => ((p.f0.f0, p.f0.f1), ())
theorem cells_next (l : List (S91)) (i : Nat) (h : i < l.length) : cells l i ++ [(((l.getD i z91).f0.f0, (l.getD i z91).f0.f1), ())] = cells l (i + 1) := by
  unfold cells
  rw [List.take_succ_eq_append_getElem h, List.map_append, getD_at _ _ _ h]
  rfl
theorem cells_find (l : List (S91)) (i : Nat) (h : i ≤ l.length) (x y : Int) : (Go.Proofs.YtffnfpnajkgnaaaX.mfind (cells l i) x y).isSome = true ↔ ∃ j, j < i ∧ At l x y j := by
  unfold Go.Proofs.YtffnfpnajkgnaaaX.mfind cells
  rw [Option.isSome_map, List.find?_isSome]
  constructor
  · rintro ⟨p, hp, hq⟩
    obtain ⟨q, hq1, rfl⟩ := List.mem_map.1 hp
    obtain ⟨j, hj, e⟩ := List.mem_take_iff_getElem.1 hq1
    refine ⟨j, by omega, ?_⟩
    unfold At
    rw [getD_at _ _ _ (by omega), e]
    simp only [Bool.and_eq_true, beq_iff_eq] at hq
    exact ⟨hq.1.symm, hq.2.symm⟩
  · rintro ⟨j, hj, e1, e2⟩
    rw [getD_at _ _ _ (by omega)] at e1 e2
    refine ⟨((l[j].f0.f0, l[j].f0.f1), ()), List.mem_map.2 ⟨l[j], List.mem_take_iff_getElem.2 ⟨j, by omega, rfl⟩, rfl⟩, ?_⟩
    simp [e1, e2]
theorem impl_ok (w h : Int) (l : List (S91)) (hw : -128 ≤ w ∧ w ≤ 127) (hh : -128 ≤ h ∧ h ≤ 127) (hx : ∀ y ∈ l, ok91 y) (hl : l.length ≤ 1048576) :
    ∃ r, Ev (fun k => impl_ValidBoard.f k w h l) r ∧ (r = true ↔ BoardOk w h l) := by
  have hj : Ev (fun k => impl_ValidBoard.j0 k true w h l) false := Ev.step (f := fun _ => some false) (fun k => by simp [impl_ValidBoard.j0]) (Ev.now _)
  have key : ∃ s, Ev (fun k => impl_ValidBoard.l0 k l l.length 0 w h l []) s ∧ (s = true ↔ (∀ i : Nat, i < l.length → Good w h l i) ∧ True) := by
    refine ev_scanB (g := fun k i => impl_ValidBoard.l0 k l l.length i w h l (cells l i.toNat)) (r := true) (fun i => Good w h l i) (by simp) (fun _ => ?_) (fun i hi hp s hs => ?_) (fun i hi hp => ?_)
    · refine Ev.step (fun k => by rw [impl_ValidBoard.l0]) ?_
      exact Ev.iteF (by omega) (Ev.now _)
    all_goals
      have ho : ok91 (l.getD i z91) := getD_mem hx _ _ hi
      have hv := impl_valid ho
      have hc := cells_find l i (Nat.le_of_lt hi) (l.getD i z91).f0.f0 (l.getD i z91).f0.f1
      refine Ev.step (fun k => by rw [impl_ValidBoard.l0]) ?_
      simp only [rdp, Int.toNat_natCast]
      refine Ev.iteT (by omega) (Ev.iteT (by omega) (Ev.iteT (by omega) (Ev.bindc hv ?_)))
    · obtain ⟨g1, g2, g3⟩ := hp
      refine Ev.iteT (decide_eq_true g1) (Ev.bindc (impl_has w h l _ _) (Ev.iteT (decide_eq_true g2) (Ev.iteF (fun c => ?_) ?_)))
      · obtain ⟨j, j1, j2⟩ := hc.1 c
        exact g3 j j1 j2
      · rw [cells_next l i hi, w64 (by omega)]
        simpa using hs
    · by_cases g1 : VP (l.getD i z91)
      · by_cases g2 : (0 ≤ (l.getD i z91).f0.f0 ∧ (l.getD i z91).f0.f0 < w) ∧ 0 ≤ (l.getD i z91).f0.f1 ∧ (l.getD i z91).f0.f1 < h
        · refine Ev.iteT (decide_eq_true g1) (Ev.bindc (impl_has w h l _ _) (Ev.iteT (decide_eq_true g2) (Ev.iteT (hc.2 ?_) (Ev.now _))))
          apply Classical.byContradiction
          intro hno
          exact hp ⟨g1, g2, fun j hj c => hno ⟨j, hj, c⟩⟩
        · exact Ev.iteT (decide_eq_true g1) (Ev.bindc (impl_has w h l _ _) (Ev.iteF (by simpa using g2) (Ev.now _)))
      · exact Ev.iteF (by simpa using g1) (Ev.now _)
  obtain ⟨s, k1, k2⟩ := key
  unfold impl_ValidBoard.f
  simp only [in_some]
  rw [w64 (n := w) (by omega), w64 (n := h) (by omega)]
  by_cases h1 : 1 ≤ w ∧ w ≤ 24
  · by_cases h2 : 1 ≤ h ∧ h ≤ 24
    · by_cases h3 : (l.length : Int) > 200
      · refine ⟨false, Ev.bindc rfl (Ev.iteT (by simpa using h1) (Ev.bindc rfl (Ev.iteT (by simpa using h2) ?_))), ?_⟩
        · rw [decide_eq_true h3]; exact hj
        · simp only [Bool.false_eq_true, false_iff]; intro h; have := h.len; omega
      · refine ⟨s, Ev.bindc rfl (Ev.iteT (by simpa using h1) (Ev.bindc rfl (Ev.iteT (by simpa using h2) (Ev.step (fun k => by rw [impl_ValidBoard.j0]) (Ev.iteF (by simpa using h3) k1))))), ?_⟩
        rw [k2]; exact ⟨fun h => ⟨h1, h2, by omega, h.1⟩, fun h => ⟨h.piece, trivial⟩⟩
    · refine ⟨false, Ev.bindc rfl (Ev.iteT (by simpa using h1) (Ev.bindc rfl (Ev.iteF (by simpa using h2) hj))), ?_⟩
      simp only [Bool.false_eq_true, false_iff]; intro h; have := h.high; omega
  · refine ⟨false, Ev.bindc rfl (Ev.iteF (by simpa using h1) hj), ?_⟩
    simp only [Bool.false_eq_true, false_iff]; intro h; have := h.wide; omega
theorem both_ok (w h : Int) (l : List (S91)) (hw : -128 ≤ w ∧ w ≤ 127) (hh : -128 ≤ h ∧ h ≤ 127) (hx : ∀ y ∈ l, ok91 y) (hl : l.length ≤ 1048576) :
    ∃ r, Ev (fun k => spec_l01Ok.f k [(⟨w, h, l⟩ : S37)]) r ∧ Ev (fun k => impl_ValidBoard.f k w h l) r ∧ (r = true → BoardOk w h l) := by
  obtain ⟨r, h1, h2⟩ := spec_ok w h l hw hh hx hl
  obtain ⟨q, h3, h4⟩ := impl_ok w h l hw hh hx hl
  obtain rfl := bool_same h2 h4
  exact ⟨r, h1, h3, h2.1⟩

theorem rdc (x y : Int) : rd_T74 [(⟨x, y⟩ : S74)] 0 = ⟨x, y⟩ := id rfl
theorem impl_at1 (p : S91) (x y : Int) : impl_Board_at_1.f p.f0.f0 p.f0.f1 p.f1 p.f2 p.f3 [(⟨x, y⟩ : S74)] = some (p.f0.f0 == x && p.f0.f1 == y) := by
  unfold impl_Board_at_1.f
  simp only [rdc]
  exact if_pos (by simp)
theorem impl_at (w h : Int) (l : List (S91)) (x y : Int) (hl : l.length ≤ 1048576) : ∃ r, Ev (fun k => impl_Board_at.f k [(⟨w, h, l⟩ : S37)] x y) r ∧ Found l x y r := by
  unfold impl_Board_at.f slices_IndexFunc__impl_Board_at_1.f
  simp only [rd0]
  rcases found_first l x y with hh | ⟨j, h1, h2, h3⟩
  · refine ⟨-1, Ev.iteT (by simp) (Ev.bind (ev_loop2 (g := fun k i => slices_IndexFunc__impl_Board_at_1.l0 k l l.length i [(⟨x, y⟩ : S74)]) (fun i => (i : Int)) l.length ?_ fun i hi ih => ?_) (Ev.now _)), .inl ⟨rfl, hh⟩⟩
    · refine Ev.step (fun k => by rw [slices_IndexFunc__impl_Board_at_1.l0]) ?_
      exact Ev.iteF (by omega) (Ev.now _)
    · refine Ev.step (fun k => by rw [slices_IndexFunc__impl_Board_at_1.l0]) ?_
      simp only [rdp]
      refine Ev.iteT (by omega) (Ev.iteT (by omega) (Ev.iteT (by omega) (Ev.bindc (impl_at1 _ x y) (Ev.iteF (fun c => hh i hi ((at_cond l x y i).1 c)) ?_))))
      rw [w64 (by omega)]
      exact ih
  · refine ⟨(j : Int), Ev.iteT (by simp) (Ev.bind (ev_loop2 (g := fun k i => slices_IndexFunc__impl_Board_at_1.l0 k l l.length i [(⟨x, y⟩ : S74)]) (fun i => (i : Int)) j ?_ fun i hi ih => ?_) (Ev.now _)), .inr ⟨j, h1, rfl, h2, h3⟩⟩
    · refine Ev.step (fun k => by rw [slices_IndexFunc__impl_Board_at_1.l0]) ?_
      simp only [rdp]
      exact Ev.iteT (by omega) (Ev.iteT (by omega) (Ev.iteT (by omega) (Ev.bindc (impl_at1 _ x y) (Ev.iteT ((at_cond l x y j).2 h2) (Ev.now _)))))
    · refine Ev.step (fun k => by rw [slices_IndexFunc__impl_Board_at_1.l0]) ?_
      simp only [rdp]
      refine Ev.iteT (by omega) (Ev.iteT (by omega) (Ev.iteT (by omega) (Ev.bindc (impl_at1 _ x y) (Ev.iteF (fun c => h3 i hi ((at_cond l x y i).1 c)) ?_))))
      rw [w64 (by omega)]
      exact ih
theorem at_both (w h : Int) (l : List (S91)) (x y : Int) (hl : l.length ≤ 1048576) : ∃ r, Ev (fun k => spec_l01Find.f k [(⟨w, h, l⟩ : S37)] x y) r ∧ Ev (fun k => impl_Board_at.f k [(⟨w, h, l⟩ : S37)] x y) r ∧ Found l x y r := by
  obtain ⟨r, h1, h2⟩ := find_spec w h l x y hl
  obtain ⟨q, h3, h4⟩ := impl_at w h l x y hl
  obtain rfl := h2.same h4
  exact ⟨r, h1, h3, h2⟩

theorem idx_loop {g : Nat → Int → Option Int} (P : Nat → Prop) (n : Nat) (hend : Ev (fun k => g k (n : Int)) (-1)) (hyes : ∀ i : Nat, i < n → P i → Ev (fun k => g k (i : Int)) (i : Int)) (hno : ∀ i : Nat, i < n → ¬ P i → ∀ s, Ev (fun k => g k ((i + 1 : Nat) : Int)) s → Ev (fun k => g k (i : Int)) s) :
    ∃ r, Ev (fun k => g k 0) r ∧ (0 ≤ r ↔ ∃ i, i < n ∧ P i) := by
  have : DecidablePred fun i => ¬ P i := fun _ => Classical.propDecidable _
  rcases first_or_all (fun i => ¬ P i) n with h | ⟨j, h1, h2, h3⟩
  · refine ⟨-1, ev_loop2 (g := g) (fun i => (i : Int)) n hend (fun i hi ih => hno i hi (h i hi) _ ih), ⟨fun h' => by omega, ?_⟩⟩
    rintro ⟨i, hi, c⟩
    exact absurd c (h i hi)
  · exact ⟨(j : Int), ev_loop2 (g := g) (fun i => (i : Int)) j (hyes j h1 (Classical.not_not.1 h2)) (fun i hi ih => hno i (by omega) (h3 i hi) _ ih), ⟨fun _ => ⟨j, h1, Classical.not_not.1 h2⟩, fun _ => by omega⟩⟩

theorem rdm (w h : Int) (m : List (S91)) (p : List (S116)) (o : List (S74)) : rd_T41 [(⟨⟨w, h, m⟩, p, o⟩ : S41)] 0 = ⟨⟨w, h, m⟩, p, o⟩ := id rfl
theorem rdpt (l : List (S116)) (i : Nat) : rd_T116 l (i : Int) = l.getD i z116 := id rfl
theorem rdce (l : List (S74)) (i : Nat) : rd_T74 l (i : Int) = l.getD i z74 := id rfl
def FoundC (m : List (S91)) (x y : Int) : Prop := ∃ j, j < m.length ∧ At m x y j
theorem Found.negC {m : List (S91)} {x y r : Int} (h : Found m x y r) : r < 0 ↔ ¬ FoundC m x y := by
  rcases h with ⟨rfl, h⟩ | ⟨j, h1, rfl, h2, h3⟩
  · refine ⟨fun _ => ?_, fun _ => by omega⟩
    rintro ⟨j, a, b⟩
    exact h j a b
  · exact ⟨fun h => by omega, fun c => absurd ⟨j, h1, h2⟩ c⟩
def SameP (p : List (S116)) (i j : Nat) : Prop := ((p.getD j z116).f0.f0 = (p.getD i z116).f0.f0 ∧ (p.getD j z116).f0.f1 = (p.getD i z116).f0.f1) ∧ (p.getD j z116).f1 = (p.getD i z116).f1
theorem same_cond (p : List (S116)) (i j : Nat) : ((((p.getD j z116).f0.f0 == (p.getD i z116).f0.f0 && (p.getD j z116).f0.f1 == (p.getD i z116).f0.f1) && (p.getD j z116).f1 == (p.getD i z116).f1) = true) ↔ SameP p i j := by simp [SameP]
theorem same_cond' (p : List (S116)) (i j : Nat) : ((((p.getD i z116).f0.f0 == (p.getD j z116).f0.f0 && (p.getD i z116).f0.f1 == (p.getD j z116).f0.f1) && (p.getD i z116).f1 == (p.getD j z116).f1) = true) ↔ SameP p i j := by
  simp only [SameP, Bool.and_eq_true, beq_iff_eq]
  exact ⟨fun h => ⟨⟨h.1.1.symm, h.1.2.symm⟩, h.2.symm⟩, fun h => ⟨⟨h.1.1.symm, h.1.2.symm⟩, h.2.symm⟩⟩
def PortOk (m : List (S91)) (p : List (S116)) (i : Nat) : Prop := (0 ≤ (p.getD i z116).f1 ∧ (p.getD i z116).f1 ≤ 3) ∧ FoundC m (p.getD i z116).f0.f0 (p.getD i z116).f0.f1 ∧ ∀ j, j < i → ¬ SameP p i j
structure MachOk (w h : Int) (m : List (S91)) (p : List (S116)) (o : List (S74)) : Prop where
  board : BoardOk w h m
  parts : m.length ≤ 60
  ins : 1 ≤ p.length ∧ p.length ≤ 6
  outs : 1 ≤ o.length ∧ o.length ≤ 8
  port : ∀ i : Nat, i < p.length → PortOk m p i
  out : ∀ i : Nat, i < o.length → FoundC m (o.getD i z74).f0 (o.getD i z74).f1
theorem spec_side (a : Int) (h : -128 ≤ a ∧ a ≤ 127) : spec_l01Side.f (wrap64 a) = some (decide (0 ≤ a ∧ a ≤ 3)) := by
  unfold spec_l01Side.f
  rw [w64 (by omega), in_same, in_some]; rfl
theorem impl_side (a : Int) (h : -128 ≤ a ∧ a ≤ 127) : impl_isSide.f (wrap64 a) = some (decide (0 ≤ a ∧ a ≤ 3)) := by
  unfold impl_isSide.f
  rw [w64 (by omega), in_some]; rfl
section
variable (w h : Int) (m : List (S91)) (p : List (S116)) (o : List (S74))
theorem spec_outs (hm : m.length ≤ 1048576) (ho : o.length ≤ 1048576) : ∃ r, Ev (fun k => spec_l03Ok.l2 k [(⟨⟨w, h, m⟩, p, o⟩ : S41)] 0) r ∧ (r = true ↔ (∀ i : Nat, i < o.length → FoundC m (o.getD i z74).f0 (o.getD i z74).f1) ∧ True) := by
  refine ev_scanB (g := fun k i => spec_l03Ok.l2 k [(⟨⟨w, h, m⟩, p, o⟩ : S41)] i) (r := true) (fun i => FoundC m (o.getD i z74).f0 (o.getD i z74).f1) (by simp) (fun _ => ?_) (fun i hi hp s hs => ?_) (fun i hi hp => ?_)
  · refine Ev.step (fun k => by rw [spec_l03Ok.l2]) ?_
    simp only [rdm]
    exact Ev.iteT (by simp) (Ev.iteF (by omega) (Ev.now _))
  all_goals
    obtain ⟨q, f1, f2⟩ := find_spec w h m (o.getD i z74).f0 (o.getD i z74).f1 hm
    refine Ev.step (fun k => by rw [spec_l03Ok.l2]) ?_
    simp only [rdm, rdce]
    refine Ev.iteT (by simp) (Ev.iteT (by omega) (Ev.iteT (by omega) (Ev.bind f1 ?_)))
  · refine Ev.iteF (fun c => (f2.negC.1 c) hp) ?_
    rw [w64 (by omega)]
    exact hs
  · exact Ev.iteT (f2.negC.2 hp) (Ev.now _)
theorem spec_dup (hpl : p.length ≤ 1048576) (i : Nat) (hi : i < p.length) (s : Bool) (hend : (∀ j, j < i → ¬ SameP p i j) → Ev (fun k => spec_l03Ok.l0 k [(⟨⟨w, h, m⟩, p, o⟩ : S41)] ((i + 1 : Nat) : Int)) s) :
    ((∀ j, j < i → ¬ SameP p i j) → Ev (fun k => spec_l03Ok.l1 k [(⟨⟨w, h, m⟩, p, o⟩ : S41)] i 0) s) ∧ ((¬ ∀ j, j < i → ¬ SameP p i j) → Ev (fun k => spec_l03Ok.l1 k [(⟨⟨w, h, m⟩, p, o⟩ : S41)] i 0) false) := by
  refine ev_scan (g := fun k j => spec_l03Ok.l1 k [(⟨⟨w, h, m⟩, p, o⟩ : S41)] i j) (fun j => ¬ SameP p i j) (fun ha => ?_) (fun j hj hn s' hs => ?_) (fun j hj hn => ?_)
  · refine Ev.step (fun k => by rw [spec_l03Ok.l1]) ?_
    refine Ev.iteF (by omega) ?_
    rw [w64 (n := (i : Int) + 1) (by omega)]
    exact hend ha
  all_goals
    refine Ev.step (fun k => by rw [spec_l03Ok.l1]) ?_
    simp only [rdm, rdpt]
    refine Ev.iteT (by omega) (Ev.iteT (by simp) (Ev.iteT (by omega) (Ev.iteT (by omega) (Ev.iteT (by omega) (Ev.iteT (by omega) ?_)))))
  · refine Ev.iteF (fun c => hn ((same_cond p i j).1 c)) ?_
    rw [w64 (by omega)]
    exact hs
  · exact Ev.iteT ((same_cond p i j).2 (Classical.not_not.1 hn)) (Ev.now _)
theorem spec_mach (hw : -128 ≤ w ∧ w ≤ 127) (hh : -128 ≤ h ∧ h ≤ 127) (hx : ∀ y ∈ m, ok91 y) (hm : m.length ≤ 1048576) (hp : ∀ y ∈ p, ok116 y) (hpl : p.length ≤ 1048576) (hol : o.length ≤ 1048576) :
    ∃ r, Ev (fun k => spec_l03Ok.f k [(⟨⟨w, h, m⟩, p, o⟩ : S41)]) r ∧ (r = true ↔ MachOk w h m p o) := by
  have hj : Ev (fun k => spec_l03Ok.j0 k [(⟨⟨w, h, m⟩, p, o⟩ : S41)] true) false := Ev.step (f := fun _ => some false) (fun k => by simp [spec_l03Ok.j0]) (Ev.now _)
  obtain ⟨t, t1, t2⟩ := spec_outs w h m p o hm hol
  have key : ∃ s, Ev (fun k => spec_l03Ok.l0 k [(⟨⟨w, h, m⟩, p, o⟩ : S41)] 0) s ∧ (s = true ↔ (∀ i : Nat, i < p.length → PortOk m p i) ∧ ((∀ i : Nat, i < o.length → FoundC m (o.getD i z74).f0 (o.getD i z74).f1) ∧ True)) := by
    refine ev_scanB (g := fun k i => spec_l03Ok.l0 k [(⟨⟨w, h, m⟩, p, o⟩ : S41)] i) (fun i => PortOk m p i) t2 (fun _ => ?_) (fun i hi hok s hs => ?_) (fun i hi hok => ?_)
    · refine Ev.step (fun k => by rw [spec_l03Ok.l0]) ?_
      simp only [rdm]
      exact Ev.iteT (by simp) (Ev.iteF (by omega) t1)
    all_goals
      have ho : ok116 (p.getD i z116) := getD_mem hp _ _ hi
      have hs1 := spec_side (p.getD i z116).f1 ho.2
      obtain ⟨q, f1, f2⟩ := find_spec w h m (p.getD i z116).f0.f0 (p.getD i z116).f0.f1 hm
      refine Ev.step (fun k => by rw [spec_l03Ok.l0]) ?_
      simp only [rdm, rdpt]
      refine Ev.iteT (by simp) (Ev.iteT (by omega) (Ev.iteT (by omega) (Ev.bindc hs1 ?_)))
    · obtain ⟨g1, g2, g3⟩ := hok
      refine Ev.iteT (decide_eq_true g1) (Ev.bind f1 (Ev.step (fun k => by rw [spec_l03Ok.j2]) (Ev.iteF ?_ ?_)))
      · simp only [decide_eq_true_eq]; exact fun c => (f2.negC.1 c) g2
      · exact (spec_dup w h m p o hpl i hi s (fun _ => hs)).1 g3
    · by_cases g1 : 0 ≤ (p.getD i z116).f1 ∧ (p.getD i z116).f1 ≤ 3
      · by_cases g2 : FoundC m (p.getD i z116).f0.f0 (p.getD i z116).f0.f1
        · have g3 : ¬ ∀ j, j < i → ¬ SameP p i j := fun g3 => hok ⟨g1, g2, g3⟩
          refine Ev.iteT (decide_eq_true g1) (Ev.bind f1 (Ev.step (fun k => by rw [spec_l03Ok.j2]) (Ev.iteF ?_ ?_)))
          · simp only [decide_eq_true_eq]; exact fun c => (f2.negC.1 c) g2
          · exact (spec_dup w h m p o hpl i hi true (fun g3' => absurd g3' g3)).2 g3
        · refine Ev.iteT (decide_eq_true g1) (Ev.bind f1 (Ev.step (fun k => by rw [spec_l03Ok.j2]) (Ev.iteT ?_ (Ev.now _))))
          exact decide_eq_true (f2.negC.2 g2)
      · exact Ev.iteF (by simpa using g1) (Ev.step (fun k => by rw [spec_l03Ok.j2]) (Ev.iteT rfl (Ev.now _)))
  obtain ⟨s, k1, k2⟩ := key
  obtain ⟨b, b1, b2⟩ := spec_ok w h m hw hh hx hm
  unfold spec_l03Ok.f
  simp only [rdm, in_same, in_some]
  cases b
  · refine ⟨false, Ev.iteT (by simp) (Ev.bind b1 (Ev.iteF (by simp) hj)), ?_⟩
    simp only [Bool.false_eq_true, false_iff]; intro c; have := b2.2 c.board; cases this
  by_cases h1 : (m.length : Int) > 60
  · refine ⟨false, Ev.iteT (by simp) (Ev.bind b1 (Ev.iteT rfl (Ev.iteT h1 hj))), ?_⟩
    simp only [Bool.false_eq_true, false_iff]; intro c; have := c.parts; omega
  by_cases h2 : 1 ≤ (p.length : Int) ∧ (p.length : Int) ≤ 6
  · by_cases h3 : 1 ≤ (o.length : Int) ∧ (o.length : Int) ≤ 8
    · refine ⟨s, Ev.iteT (by simp) (Ev.bind b1 (Ev.iteT rfl (Ev.iteF h1 (Ev.bindc rfl (Ev.iteT (by simpa using h2) (Ev.bindc rfl ?_)))))), ?_⟩
      · rw [decide_eq_true h3]
        exact Ev.step (fun k => by rw [spec_l03Ok.j0]) (Ev.iteF (by simp) k1)
      · rw [k2]; exact ⟨fun c => ⟨b2.1 rfl, by omega, by omega, by omega, c.1, c.2.1⟩, fun c => ⟨c.port, c.out, trivial⟩⟩
    · refine ⟨false, Ev.iteT (by simp) (Ev.bind b1 (Ev.iteT rfl (Ev.iteF h1 (Ev.bindc rfl (Ev.iteT (by simpa using h2) (Ev.bindc rfl ?_)))))), ?_⟩
      · rw [decide_eq_false h3]; exact hj
      · simp only [Bool.false_eq_true, false_iff]; intro c; have := c.outs; omega
  · refine ⟨false, Ev.iteT (by simp) (Ev.bind b1 (Ev.iteT rfl (Ev.iteF h1 (Ev.bindc rfl (Ev.iteF (by simpa using h2) hj))))), ?_⟩
    simp only [Bool.false_eq_true, false_iff]; intro c; have := c.ins; omega
theorem take_getD (i j : Nat) (hj : j < i) : (p.take i).getD j z116 = p.getD j z116 := by
  rw [List.getD_eq_getElem?_getD, List.getD_eq_getElem?_getD, List.getElem?_take, if_pos hj]
theorem impl_dup (hpl : p.length ≤ 1048576) (i : Nat) (hi : i < p.length) : ∃ r, Ev (fun k => impl_Port_147.f k (p.take i) (p.getD i z116).f0.f0 (p.getD i z116).f0.f1 (p.getD i z116).f1) r ∧ (r = true ↔ ∃ j, j < i ∧ SameP p i j) := by
  have hlen : (p.take i).length = i := by simp; omega
  obtain ⟨q, h1, h2⟩ := idx_loop (g := fun k j => impl_Port_180.l0 k (p.take i) i j (p.getD i z116).f0.f0 (p.getD i z116).f0.f1 (p.getD i z116).f1) (fun j => SameP p i j) i
    (Ev.step (fun k => by rw [impl_Port_180.l0]) (Ev.iteF (by omega) (Ev.now _)))
    (fun j hj hs => by
      refine Ev.step (fun k => by rw [impl_Port_180.l0]) ?_
      simp only [rdpt, take_getD p i j hj]
      exact Ev.iteT (by omega) (Ev.iteT (by omega) (Ev.iteT (by omega) (Ev.iteT ((same_cond' p i j).2 hs) (Ev.now _)))))
    (fun j hj hs s hn => by
      refine Ev.step (fun k => by rw [impl_Port_180.l0]) ?_
      simp only [rdpt, take_getD p i j hj]
      refine Ev.iteT (by omega) (Ev.iteT (by omega) (Ev.iteT (by omega) (Ev.iteF (fun c => hs ((same_cond' p i j).1 c)) ?_)))
      rw [w64 (by omega)]
      exact hn)
  unfold impl_Port_147.f impl_Port_180.f
  rw [hlen]
  exact ⟨decide (q ≥ 0), Ev.bind h1 (Ev.now _), by rw [← h2]; simp⟩
theorem impl_outs (hm : m.length ≤ 1048576) (hol : o.length ≤ 1048576) :
    ∃ r, Ev (fun k => slices_ContainsFunc__impl_ValidMachine_1.f k o [(⟨⟨w, h, m⟩, p, o⟩ : S41)]) r ∧ (r = true ↔ ∃ i, i < o.length ∧ ¬ FoundC m (o.getD i z74).f0 (o.getD i z74).f1) := by
  have one : ∀ x y, ∃ r, Ev (fun k => impl_ValidMachine_1.f k x y [(⟨⟨w, h, m⟩, p, o⟩ : S41)]) r ∧ (r = true ↔ ¬ FoundC m x y) := fun x y => by
    obtain ⟨q, f1, f2⟩ := impl_at w h m x y hm
    unfold impl_ValidMachine_1.f
    simp only [rdm]
    exact ⟨decide (q < 0), Ev.iteT (by simp) (Ev.bind f1 (Ev.now _)), by rw [← f2.negC]; simp⟩
  obtain ⟨q, h1, h2⟩ := idx_loop (g := fun k i => slices_IndexFunc__impl_ValidMachine_1.l0 k o o.length i [(⟨⟨w, h, m⟩, p, o⟩ : S41)]) (fun i => ¬ FoundC m (o.getD i z74).f0 (o.getD i z74).f1) o.length
    (Ev.step (fun k => by rw [slices_IndexFunc__impl_ValidMachine_1.l0]) (Ev.iteF (by omega) (Ev.now _)))
    (fun i hi hn => by
      obtain ⟨b, k1, k2⟩ := one (o.getD i z74).f0 (o.getD i z74).f1
      refine Ev.step (fun k => by rw [slices_IndexFunc__impl_ValidMachine_1.l0]) ?_
      simp only [rdce]
      exact Ev.iteT (by omega) (Ev.iteT (by omega) (Ev.iteT (by omega) (Ev.bind k1 (Ev.iteT (k2.2 hn) (Ev.now _))))))
    (fun i hi hn s hs => by
      obtain ⟨b, k1, k2⟩ := one (o.getD i z74).f0 (o.getD i z74).f1
      refine Ev.step (fun k => by rw [slices_IndexFunc__impl_ValidMachine_1.l0]) ?_
      simp only [rdce]
      refine Ev.iteT (by omega) (Ev.iteT (by omega) (Ev.iteT (by omega) (Ev.bind k1 (Ev.iteF (fun c => hn (k2.1 c)) ?_))))
      rw [w64 (by omega)]
      exact hs)
  unfold slices_ContainsFunc__impl_ValidMachine_1.f slices_IndexFunc__impl_ValidMachine_1.f
  exact ⟨decide (q ≥ 0), Ev.bind h1 (Ev.now _), by rw [← h2]; simp⟩
theorem impl_mach (hw : -128 ≤ w ∧ w ≤ 127) (hh : -128 ≤ h ∧ h ≤ 127) (hx : ∀ y ∈ m, ok91 y) (hm : m.length ≤ 1048576) (hp : ∀ y ∈ p, ok116 y) (hpl : p.length ≤ 1048576) (hol : o.length ≤ 1048576) :
    ∃ r, Ev (fun k => impl_ValidMachine.f k w h m p o) r ∧ (r = true ↔ MachOk w h m p o) := by
  have hj : Ev (fun k => impl_ValidMachine.j0 k true w h m p o) false := Ev.step (f := fun _ => some false) (fun k => by simp [impl_ValidMachine.j0]) (Ev.now _)
  obtain ⟨t, t1, t2⟩ := impl_outs w h m p o hm hol
  have t3 : (!t) = true ↔ ((∀ i : Nat, i < o.length → FoundC m (o.getD i z74).f0 (o.getD i z74).f1) ∧ True) := by
    rw [Bool.not_eq_true', ← Bool.not_eq_true, t2]
    exact ⟨fun c => ⟨fun i hi => Classical.not_not.1 fun n => c ⟨i, hi, n⟩, trivial⟩, fun c ⟨i, hi, n⟩ => n (c.1 i hi)⟩
  have key : ∃ s, Ev (fun k => impl_ValidMachine.l0 k p p.length 0 w h m p o) s ∧ (s = true ↔ (∀ i : Nat, i < p.length → PortOk m p i) ∧ ((∀ i : Nat, i < o.length → FoundC m (o.getD i z74).f0 (o.getD i z74).f1) ∧ True)) := by
    refine ev_scanB (g := fun k i => impl_ValidMachine.l0 k p p.length i w h m p o) (fun i => PortOk m p i) t3 (fun _ => ?_) (fun i hi hok s hs => ?_) (fun i hi hok => ?_)
    · refine Ev.step (fun k => by rw [impl_ValidMachine.l0]) ?_
      exact Ev.iteF (by omega) (Ev.bind t1 (Ev.now _))
    all_goals
      have ho : ok116 (p.getD i z116) := getD_mem hp _ _ hi
      have hs1 := impl_side (p.getD i z116).f1 ho.2
      obtain ⟨q, f1, f2⟩ := impl_at w h m (p.getD i z116).f0.f0 (p.getD i z116).f0.f1 hm
      obtain ⟨d, d1, d2⟩ := impl_dup p hpl i hi
      refine Ev.step (fun k => by rw [impl_ValidMachine.l0]) ?_
      simp only [rdpt, Int.toNat_natCast]
      refine Ev.iteT (by omega) (Ev.iteT (by omega) (Ev.iteT (by omega) (Ev.bindc hs1 ?_)))
    · obtain ⟨g1, g2, g3⟩ := hok
      refine Ev.iteT (decide_eq_true g1) (Ev.bind f1 (Ev.iteF (fun c => (f2.negC.1 c) g2) (Ev.iteT (by omega) (Ev.bind d1 (Ev.iteF (fun c => ?_) ?_)))))
      · obtain ⟨j, j1, j2⟩ := d2.1 c
        exact g3 j j1 j2
      · rw [w64 (by omega)]
        exact hs
    · by_cases g1 : 0 ≤ (p.getD i z116).f1 ∧ (p.getD i z116).f1 ≤ 3
      · by_cases g2 : FoundC m (p.getD i z116).f0.f0 (p.getD i z116).f0.f1
        · refine Ev.iteT (decide_eq_true g1) (Ev.bind f1 (Ev.iteF (fun c => (f2.negC.1 c) g2) (Ev.iteT (by omega) (Ev.bind d1 (Ev.iteT (d2.2 ?_) (Ev.now _))))))
          apply Classical.byContradiction
          intro hno
          exact hok ⟨g1, g2, fun j hj c => hno ⟨j, hj, c⟩⟩
        · exact Ev.iteT (decide_eq_true g1) (Ev.bind f1 (Ev.iteT (f2.negC.2 g2) (Ev.now _)))
      · exact Ev.iteF (by simpa using g1) (Ev.now _)
  obtain ⟨s, k1, k2⟩ := key
  obtain ⟨b, b1, b2⟩ := impl_ok w h m hw hh hx hm
  unfold impl_ValidMachine.f
  simp only [in_some]
  cases b
  · refine ⟨false, Ev.bind b1 (Ev.iteF (by simp) hj), ?_⟩
    simp only [Bool.false_eq_true, false_iff]; intro c; have := b2.2 c.board; cases this
  by_cases h1 : (m.length : Int) > 60
  · refine ⟨false, Ev.bind b1 (Ev.iteT rfl (Ev.iteT h1 hj)), ?_⟩
    simp only [Bool.false_eq_true, false_iff]; intro c; have := c.parts; omega
  by_cases h2 : 1 ≤ (p.length : Int) ∧ (p.length : Int) ≤ 6
  · by_cases h3 : 1 ≤ (o.length : Int) ∧ (o.length : Int) ≤ 8
    · refine ⟨s, Ev.bind b1 (Ev.iteT rfl (Ev.iteF h1 (Ev.bindc rfl (Ev.iteT (by simpa using h2) (Ev.bindc rfl ?_))))), ?_⟩
      · rw [decide_eq_true h3]
        exact Ev.step (fun k => by rw [impl_ValidMachine.j0]) (Ev.iteF (by simp) k1)
      · rw [k2]; exact ⟨fun c => ⟨b2.1 rfl, by omega, by omega, by omega, c.1, c.2.1⟩, fun c => ⟨c.port, c.out, trivial⟩⟩
    · refine ⟨false, Ev.bind b1 (Ev.iteT rfl (Ev.iteF h1 (Ev.bindc rfl (Ev.iteT (by simpa using h2) (Ev.bindc rfl ?_))))), ?_⟩
      · rw [decide_eq_false h3]; exact hj
      · simp only [Bool.false_eq_true, false_iff]; intro c; have := c.outs; omega
  · refine ⟨false, Ev.bind b1 (Ev.iteT rfl (Ev.iteF h1 (Ev.bindc rfl (Ev.iteF (by simpa using h2) hj)))), ?_⟩
    simp only [Bool.false_eq_true, false_iff]; intro c; have := c.ins; omega
theorem mach_both (hw : -128 ≤ w ∧ w ≤ 127) (hh : -128 ≤ h ∧ h ≤ 127) (hx : ∀ y ∈ m, ok91 y) (hm : m.length ≤ 1048576) (hp : ∀ y ∈ p, ok116 y) (hpl : p.length ≤ 1048576) (hol : o.length ≤ 1048576) :
    ∃ r, Ev (fun k => spec_l03Ok.f k [(⟨⟨w, h, m⟩, p, o⟩ : S41)]) r ∧ Ev (fun k => impl_ValidMachine.f k w h m p o) r ∧ (r = true → MachOk w h m p o) := by
  obtain ⟨r, h1, h2⟩ := spec_mach w h m p o hw hh hx hm hp hpl hol
  obtain ⟨q, h3, h4⟩ := impl_mach w h m p o hw hh hx hm hp hpl hol
  obtain rfl := bool_same h2 h4
  exact ⟨r, h1, h3, h2.1⟩
end

/-- A loop that writes each element of a row anew, in its place; told from its end. -/
theorem ev_inplace {α ρ : Type} (f : α → α) (l : List α) (z : α) (n : Nat) (hn : n ≤ l.length) {g : Nat → Int → List α → Option ρ} {r : ρ} (hend : Ev (fun k => g k (n : Int) ((l.take n).map f ++ l.drop n)) r)
    (hs : ∀ (i : Nat) (_ : i < n) (x : List α), x.length = l.length → x.getD i z = l.getD i z → Ev (fun k => g k ((i + 1 : Nat) : Int) (x.set i (f (l.getD i z)))) r → Ev (fun k => g k (i : Int) x) r) : Ev (fun k => g k 0 l) r := by
  have h := ev_loop2 (g := fun k (s : Int × List α) => g k s.1 s.2) (fun i => ((i : Int), (l.take i).map f ++ l.drop i)) n (r := r) hend (fun i hi ih => by
    dsimp only at ih ⊢
    have hil : i < l.length := by omega
    refine hs i hi _ (by simp; omega) ?_ ?_
    · rw [List.getD_eq_getElem?_getD, List.getD_eq_getElem?_getD, List.getElem?_append_right (by simp; omega)]
      simp only [List.length_map, List.length_take, List.getElem?_drop]
      rw [show i + (i - min i l.length) = i by omega]
    · have e : (((l.take i).map f ++ l.drop i).set i (f (l.getD i z))) = (l.take (i + 1)).map f ++ l.drop (i + 1) := by
        rw [List.set_append_right _ _ (by simp; omega)]
        simp only [List.length_map, List.length_take]
        rw [show i - min i l.length = 0 by omega, List.drop_eq_getElem_cons hil, List.set_cons_zero, List.take_succ_eq_append_getElem hil, List.map_append, List.append_assoc, getD_at _ _ _ hil]
        rfl
      rw [e]
      exact ih)
  simpa using h
theorem copy_spec (w h : Int) (l : List S91) (hl : l.length ≤ 1048576) : spec_l01Copy.f [(⟨w, h, l⟩ : S37)] = some (w, h, l) := by
  unfold spec_l01Copy.f
  simp only [rd0]
  rw [if_pos (by simp), Option.bind_some, if_pos (by simp; omega)]
  rfl
theorem clone_impl (l : List S91) (hl : l.length ≤ 1048576) : impl_Piece_113.f l = some l := by
  unfold impl_Piece_113.f
  rw [Option.bind_some, if_pos (by simp; omega)]
  rfl
theorem with_impl (w h : Int) (l m : List S91) : impl_Board_with.f [(⟨w, h, l⟩ : S37)] m = some (w, h) := by
  unfold impl_Board_with.f
  simp only [rd0]
  rw [if_pos (by simp)]

theorem i8_bd (n : Int) : -128 ≤ IntKind.i8.wrap n ∧ IntKind.i8.wrap n ≤ 127 := by
  have e : IntKind.i8.wrap n = (n + 128) % 256 - 128 := by
    simp [IntKind.wrap, IntKind.bits, IntKind.signed]
    omega
  rw [e]
  omega
def mv (e s : Int) (p : S91) : S91 := ⟨⟨IntKind.i8.wrap (p.f0.f0 + (IntKind.i8.wrap e)), IntKind.i8.wrap (p.f0.f1 + (IntKind.i8.wrap s))⟩, p.f1, p.f2, p.f3⟩
def On (w h : Int) (p : S91) : Prop := (0 ≤ p.f0.f0 ∧ p.f0.f0 < w) ∧ 0 ≤ p.f0.f1 ∧ p.f0.f1 < h
theorem map_at {f : S91 → S91} (l : List S91) (i : Nat) (hi : i < l.length) : (l.map f).getD i z91 = f (l.getD i z91) := by
  rw [getD_at _ _ _ (by simpa using hi), getD_at _ _ _ hi]; simp
theorem mv_at (e s : Int) (he : -24 ≤ e ∧ e ≤ 24) (hs : -24 ≤ s ∧ s ≤ 24) {w h : Int} {l : List S91} (hok : BoardOk w h l) (i : Nat) (hi : i < l.length) :
    (mv e s (l.getD i z91)).f0.f0 = (l.getD i z91).f0.f0 + e ∧ (mv e s (l.getD i z91)).f0.f1 = (l.getD i z91).f0.f1 + s := by
  obtain ⟨_, _, _, h4, h5⟩ := (hok.piece i hi).1
  unfold mv
  dsimp only
  rw [w8 (n := e) (by omega), w8 (n := s) (by omega), w8 (by omega), w8 (by omega)]
  exact ⟨rfl, rfl⟩
theorem moved_ok (e s : Int) (he : -24 ≤ e ∧ e ≤ 24) (hs : -24 ≤ s ∧ s ≤ 24) {w h : Int} {l : List S91} (hok : BoardOk w h l) : BoardOk w h (l.map (mv e s)) ↔ ∀ i, i < l.length → On w h (mv e s (l.getD i z91)) := by
  constructor
  · intro h i hi
    have := (h.piece i (by simpa using hi)).2.1
    rwa [map_at l i hi] at this
  · intro hon
    have hw := hok.wide
    have hh := hok.high
    refine ⟨hok.wide, hok.high, by simpa using hok.len, fun i hi => ?_⟩
    have hi : i < l.length := by simpa using hi
    have ho := hon i hi
    have hm := mv_at e s he hs hok i hi
    obtain ⟨a1, a2, a3, a4, a5⟩ := (hok.piece i hi).1
    have hd := (hok.piece i hi).2.2
    unfold Good
    rw [map_at l i hi]
    refine ⟨⟨a1, a2, a3, ?_, ?_⟩, ho, fun j hj hat => hd j hj ?_⟩
    · obtain ⟨⟨b1, b2⟩, b3, b4⟩ := ho; omega
    · obtain ⟨⟨b1, b2⟩, b3, b4⟩ := ho; omega
    · unfold At at hat ⊢
      rw [map_at l j (by omega)] at hat
      have hm' := mv_at e s he hs hok j (by omega)
      omega
theorem spec_move (e s : Int) (w h : Int) (l : List S91) (hl : l.length ≤ 1048576) : ∀ r, Ev (fun k => (spec_l01Ok.f k [(⟨w, h, l.map (mv e s)⟩ : S37)]).bind fun t => if t = true then some (w, h, l.map (mv e s), (0 : Int)) else some (0, 0, ([] : List S91), 4)) r → Ev (fun k => spec_MoveBoard.l0 k e s 0 w h l) r := by
  intro r hr
  refine ev_inplace (mv e s) l z91 l.length (Nat.le_refl _) (g := fun k i x => spec_MoveBoard.l0 k e s i w h x) ?_ fun i hi x hx he ih => ?_
  · refine Ev.step (fun k => by rw [spec_MoveBoard.l0]) ?_
    simp only [List.take_length, List.drop_length, List.append_nil]
    exact Ev.iteF (by simp) hr
  · refine Ev.step (fun k => by rw [spec_MoveBoard.l0]) ?_
    simp only [rdp, Int.toNat_natCast]
    rw [he]
    refine Ev.iteT (by omega) (Ev.iteT (by omega) (Ev.bindc rfl ?_))
    rw [getD_set _ _ _ _ (by omega), List.set_set, w64 (n := (i : Int) + 1) (by omega)]
    exact ih
theorem impl_move (e s : Int) (w h : Int) (l : List S91) (hl : l.length ≤ 1048576) (n : Nat) (hn : n ≤ l.length) (hon : ∀ i, i < n → On w h (mv e s (l.getD i z91))) (r : Int × Int × List S91 × Int)
    (hend : Ev (fun k => impl_MoveBoard.l0 k e s l.length n w h l w h ((l.take n).map (mv e s) ++ l.drop n)) r) : Ev (fun k => impl_MoveBoard.l0 k e s l.length 0 w h l w h l) r := by
  refine ev_inplace (mv e s) l z91 n hn (g := fun k i x => impl_MoveBoard.l0 k e s l.length i w h l w h x) hend fun i hi x hx he ih => ?_
  refine Ev.step (fun k => by rw [impl_MoveBoard.l0]) ?_
  simp only [rdp, Int.toNat_natCast]
  rw [he, w64 (n := (i : Int) + 1) (by omega)]
  refine Ev.iteT (by omega) (Ev.iteT (by omega) (Ev.iteT (by omega) (Ev.bindc rfl (Ev.bindc rfl ?_))))
  rw [getD_set _ _ _ _ (by omega)]
  exact Ev.bindc (impl_has _ _ _ _ _) (Ev.iteT (decide_eq_true (hon i hi)) ih)
theorem move_both (x0_0 : Int) (x0_1 : Int) (x0_2 : List S91) (x1 x2 : Int) (ox0_0 : (-128 ≤ x0_0 ∧ x0_0 ≤ 127)) (ox0_1 : (-128 ≤ x0_1 ∧ x0_1 ≤ 127)) (ox0_2 : ∀ y ∈ x0_2, ok91 y) (nx0_2 : x0_2.length ≤ 1048576) (ox1 : (-9223372036854775808 ≤ x1 ∧ x1 ≤ 9223372036854775807)) (ox2 : (-9223372036854775808 ≤ x2 ∧ x2 ≤ 9223372036854775807)) : ∃ r : Int × Int × (List S91) × Int, Ev (fun k => spec_MoveBoard.f k x0_0 x0_1 x0_2 x1 x2) r ∧ Ev (fun k => impl_MoveBoard.f k x0_0 x0_1 x0_2 x1 x2) r ∧ r.2.2.1.length ≤ 1099511627776 := by
  obtain ⟨r, h1, h2, h3⟩ := both_ok x0_0 x0_1 x0_2 ox0_0 ox0_1 ox0_2 nx0_2
  unfold spec_MoveBoard.f impl_MoveBoard.f
  cases r
  · exact ⟨(0, 0, [], 1), Ev.bind h1 (Ev.iteF (by simp) (Ev.now _)), Ev.bind h2 (Ev.iteF (by simp) (Ev.now _)), by simp⟩
  have hok := h3 rfl
  have q1 : spec_l00In.f x1 (-24) 24 = some (decide (-24 ≤ x1 ∧ x1 ≤ 24)) := in_some _ _ _
  have q2 : spec_l00In.f x2 (-24) 24 = some (decide (-24 ≤ x2 ∧ x2 ≤ 24)) := in_some _ _ _
  have q3 := in_some x1 (-24) 24
  have q4 := in_some x2 (-24) 24
  have a1 : Ev (fun k => spec_MoveBoard.j0 k x1 x2 true x0_0 x0_1 x0_2) (0, 0, [], 2) := Ev.step (fun k => by rw [spec_MoveBoard.j0]) (Ev.iteT rfl (Ev.now _))
  by_cases hx : -24 ≤ x1 ∧ x1 ≤ 24
  · by_cases hy : -24 ≤ x2 ∧ x2 ≤ 24
    · rw [decide_eq_true hx] at q1 q3
      rw [decide_eq_true hy] at q2 q4
      suffices key : ∃ r : Int × Int × List S91 × Int, Ev (fun k => spec_MoveBoard.l0 k x1 x2 0 x0_0 x0_1 x0_2) r ∧ Ev (fun k => impl_MoveBoard.l0 k x1 x2 x0_2.length 0 x0_0 x0_1 x0_2 x0_0 x0_1 x0_2) r ∧ r.2.2.1.length ≤ 1099511627776 by
        obtain ⟨s, k1, k2, k3⟩ := key
        refine ⟨s, Ev.bind h1 (Ev.iteT rfl (Ev.bindc q1 (Ev.iteT rfl (Ev.bindc q2 (Ev.step (fun k => by rw [spec_MoveBoard.j0]) (Ev.iteF (by simp) (Ev.bindc (copy_spec _ _ _ nx0_2) k1))))))), Ev.bind h2 (Ev.iteT rfl (Ev.bindc q3 (Ev.iteT rfl (Ev.bindc q4 (Ev.iteT rfl (Ev.bindc (clone_impl _ nx0_2) (Ev.bindc (with_impl _ _ _ _) k2))))))), k3⟩
      obtain ⟨t, t1, t2⟩ := spec_ok x0_0 x0_1 (x0_2.map (mv x1 x2)) ox0_0 ox0_1 (fun y hy => by
        obtain ⟨p, hp, rfl⟩ := List.mem_map.1 hy
        have := ox0_2 p hp
        refine ⟨⟨?_, ?_⟩, this.2⟩ <;> exact i8_bd _) (by simpa using nx0_2)
      rw [moved_ok x1 x2 hx hy hok] at t2
      have hdec : DecidablePred fun i => On x0_0 x0_1 (mv x1 x2 (x0_2.getD i z91)) := fun _ => Classical.propDecidable _
      rcases first_or_all (fun i => On x0_0 x0_1 (mv x1 x2 (x0_2.getD i z91))) x0_2.length with ha | ⟨j, j1, j2, j3⟩
      · obtain rfl : t = true := t2.2 ha
        refine ⟨(x0_0, x0_1, x0_2.map (mv x1 x2), 0), spec_move x1 x2 x0_0 x0_1 x0_2 nx0_2 _ (Ev.bind t1 (Ev.iteT rfl (Ev.now _))), impl_move x1 x2 x0_0 x0_1 x0_2 nx0_2 x0_2.length (Nat.le_refl _) ha _ ?_, by simp; omega⟩
        refine Ev.step (fun k => by rw [impl_MoveBoard.l0]) (Ev.iteF (by omega) ?_)
        rw [List.take_length, List.drop_length, List.append_nil]
        exact Ev.now _
      · obtain rfl : t = false := by
          cases t with
          | false => rfl
          | true => exact absurd (t2.1 rfl j j1) j2
        refine ⟨(0, 0, [], 4), spec_move x1 x2 x0_0 x0_1 x0_2 nx0_2 _ (Ev.bind t1 (Ev.iteF (by simp) (Ev.now _))), impl_move x1 x2 x0_0 x0_1 x0_2 nx0_2 j (by omega) j3 _ ?_, by simp⟩
        have hgj : ((x0_2.take j).map (mv x1 x2) ++ x0_2.drop j).getD j z91 = x0_2.getD j z91 := by
          rw [List.getD_eq_getElem?_getD, List.getD_eq_getElem?_getD, List.getElem?_append_right (by simp; omega)]
          simp only [List.length_map, List.length_take, List.getElem?_drop]
          rw [show j + (j - min j x0_2.length) = j by omega]
        have hlj : ((x0_2.take j).map (mv x1 x2) ++ x0_2.drop j).length = x0_2.length := by simp; omega
        refine Ev.step (fun k => by rw [impl_MoveBoard.l0]) ?_
        simp only [rdp, Int.toNat_natCast]
        rw [hgj]
        refine Ev.iteT (by omega) (Ev.iteT (by omega) (Ev.iteT (by omega) (Ev.bindc rfl (Ev.bindc rfl ?_))))
        rw [getD_set _ _ _ _ (by omega)]
        exact Ev.bindc (impl_has _ _ _ _ _) (Ev.iteF (fun hd => j2 (by unfold On mv; simpa using hd)) (Ev.now _))
    · rw [decide_eq_true hx] at q1 q3
      rw [decide_eq_false hy] at q2 q4
      exact ⟨(0, 0, [], 2), Ev.bind h1 (Ev.iteT rfl (Ev.bindc q1 (Ev.iteT rfl (Ev.bindc q2 a1)))), Ev.bind h2 (Ev.iteT rfl (Ev.bindc q3 (Ev.iteT rfl (Ev.bindc q4 (Ev.iteF (by simp) (Ev.now _)))))), by simp⟩
  · rw [decide_eq_false hx] at q1 q3
    exact ⟨(0, 0, [], 2), Ev.bind h1 (Ev.iteT rfl (Ev.bindc q1 (Ev.iteF (by simp) a1))), Ev.bind h2 (Ev.iteT rfl (Ev.bindc q3 (Ev.iteF (by simp) (Ev.now _)))), by simp⟩

def mvp (e s : Int) (p : S116) : S116 := ⟨⟨IntKind.i8.wrap (p.f0.f0 + (IntKind.i8.wrap e)), IntKind.i8.wrap (p.f0.f1 + (IntKind.i8.wrap s))⟩, p.f1⟩
def mvc (e s : Int) (p : S74) : S74 := ⟨IntKind.i8.wrap (p.f0 + (IntKind.i8.wrap e)), IntKind.i8.wrap (p.f1 + (IntKind.i8.wrap s))⟩
theorem clone_port (l : List S116) (hl : l.length ≤ 1048576) : impl_Port_162.f l = some l := by
  unfold impl_Port_162.f
  rw [Option.bind_some, if_pos (by simp; omega)]
  rfl
theorem clone_cell (l : List S74) (hl : l.length ≤ 1048576) : impl_Cell_163.f l = some l := by
  unfold impl_Cell_163.f
  rw [Option.bind_some, if_pos (by simp; omega)]
  rfl
section
variable (e s w h : Int) (m : List S91) (p : List S116) (o : List S74)
theorem copy3 (hm : m.length ≤ 1048576) (hp : p.length ≤ 1048576) (ho : o.length ≤ 1048576) : spec_l03Copy.f [(⟨⟨w, h, m⟩, p, o⟩ : S41)] = some (w, h, m, p, o) := by
  unfold spec_l03Copy.f
  simp only [rdm]
  rw [if_pos (by simp), copy_spec w h m hm, Option.bind_some, Option.bind_some, if_pos (by simp; omega), Option.bind_some, if_pos (by simp; omega)]
  rfl
theorem clone3 (hm : m.length ≤ 1048576) (hp : p.length ≤ 1048576) (ho : o.length ≤ 1048576) : impl_cloneMachine.f w h m p o = some (w, h, m, p, o) := by
  unfold impl_cloneMachine.f
  rw [clone_impl m hm, Option.bind_some, with_impl, Option.bind_some, clone_port p hp, Option.bind_some, clone_cell o ho, Option.bind_some]
theorem spec_mv0 (hp : p.length ≤ 1048576) : ∀ r, Ev (fun k => spec_MoveMachine.l1 k e s 0 w h m (p.map (mvp e s)) o) r → Ev (fun k => spec_MoveMachine.l0 k e s 0 w h m p o) r := by
  intro r hr
  refine ev_inplace (mvp e s) p z116 p.length (Nat.le_refl _) (g := fun k i x => spec_MoveMachine.l0 k e s i w h m x o) ?_ fun i hi x hx he ih => ?_
  · refine Ev.step (fun k => by rw [spec_MoveMachine.l0]) ?_
    simp only [List.take_length, List.drop_length, List.append_nil]
    exact Ev.iteF (by simp) hr
  · refine Ev.step (fun k => by rw [spec_MoveMachine.l0]) ?_
    simp only [rdpt, Int.toNat_natCast]
    rw [he]
    refine Ev.iteT (by omega) (Ev.iteT (by omega) (Ev.bindc rfl ?_))
    rw [getD_set _ _ _ _ (by omega), w64 (n := (i : Int) + 1) (by omega)]
    simp only [List.set_set]
    exact ih
theorem spec_mv1 (ho : o.length ≤ 1048576) : Ev (fun k => spec_MoveMachine.l1 k e s 0 w h m p o) (w, h, m, p, o.map (mvc e s), 0) := by
  refine ev_inplace (mvc e s) o z74 o.length (Nat.le_refl _) (g := fun k i x => spec_MoveMachine.l1 k e s i w h m p x) ?_ fun i hi x hx he ih => ?_
  · refine Ev.step (fun k => by rw [spec_MoveMachine.l1]) ?_
    simp only [List.take_length, List.drop_length, List.append_nil]
    exact Ev.iteF (by simp) (Ev.now _)
  · refine Ev.step (fun k => by rw [spec_MoveMachine.l1]) ?_
    simp only [rdce, Int.toNat_natCast]
    rw [he]
    refine Ev.iteT (by omega) (Ev.iteT (by omega) (Ev.bindc rfl ?_))
    rw [getD_set _ _ _ _ (by omega), w64 (n := (i : Int) + 1) (by omega)]
    simp only [List.set_set]
    exact ih
theorem impl_mv0 (hp : p.length ≤ 1048576) : ∀ r, Ev (fun k => impl_MoveMachine.l1 k e s o.length 0 w h m (p.map (mvp e s)) o) r → Ev (fun k => impl_MoveMachine.l0 k e s p.length 0 w h m p o) r := by
  intro r hr
  refine ev_inplace (mvp e s) p z116 p.length (Nat.le_refl _) (g := fun k i x => impl_MoveMachine.l0 k e s p.length i w h m x o) ?_ fun i hi x hx he ih => ?_
  · refine Ev.step (fun k => by rw [impl_MoveMachine.l0]) ?_
    simp only [List.take_length, List.drop_length, List.append_nil]
    exact Ev.iteF (by simp) hr
  · refine Ev.step (fun k => by rw [impl_MoveMachine.l0]) ?_
    simp only [rdpt, Int.toNat_natCast]
    rw [he, w64 (n := (i : Int) + 1) (by omega)]
    exact Ev.iteT (by omega) (Ev.iteT (by omega) (Ev.iteT (by omega) (Ev.bindc rfl ih)))
theorem impl_mv1 (ho : o.length ≤ 1048576) : Ev (fun k => impl_MoveMachine.l1 k e s o.length 0 w h m p o) (w, h, m, p, o.map (mvc e s), 0) := by
  refine ev_inplace (mvc e s) o z74 o.length (Nat.le_refl _) (g := fun k i x => impl_MoveMachine.l1 k e s o.length i w h m p x) ?_ fun i hi x hx he ih => ?_
  · refine Ev.step (fun k => by rw [impl_MoveMachine.l1]) ?_
    simp only [List.take_length, List.drop_length, List.append_nil]
    exact Ev.iteF (by simp) (Ev.now _)
  · refine Ev.step (fun k => by rw [impl_MoveMachine.l1]) ?_
    simp only [rdce, Int.toNat_natCast]
    rw [he, w64 (n := (i : Int) + 1) (by omega)]
    exact Ev.iteT (by omega) (Ev.iteT (by omega) (Ev.iteT (by omega) (Ev.bindc rfl ih)))
end
theorem core (x0_0_0 : Int) (x0_0_1 : Int) (x0_0_2 : List (S91)) (x0_1 : List (S116)) (x0_2 : List (S74)) (x1 : Int) (x2 : Int) (ox0_0_0 : (-128 ≤ x0_0_0 ∧ x0_0_0 ≤ 127)) (ox0_0_1 : (-128 ≤ x0_0_1 ∧ x0_0_1 ≤ 127)) (ox0_0_2 : ∀ y ∈ x0_0_2, ok91 y) (nx0_0_2 : x0_0_2.length ≤ 1048576) (ox0_1 : ∀ y ∈ x0_1, ok116 y) (nx0_1 : x0_1.length ≤ 1048576) (ox0_2 : ∀ y ∈ x0_2, ok74 y) (nx0_2 : x0_2.length ≤ 1048576) (ox1 : (-9223372036854775808 ≤ x1 ∧ x1 ≤ 9223372036854775807)) (ox2 : (-9223372036854775808 ≤ x2 ∧ x2 ≤ 9223372036854775807)) : ∃ r : Int × Int × (List (S91)) × (List (S116)) × (List (S74)) × Int, Ev (fun k => spec_MoveMachine.f k x0_0_0 x0_0_1 x0_0_2 x0_1 x0_2 x1 x2) r ∧ Ev (fun k => impl_MoveMachine.f k x0_0_0 x0_0_1 x0_0_2 x0_1 x0_2 x1 x2) r ∧ r.2.2.1.length ≤ 1099511627776 ∧ r.2.2.2.1.length ≤ 1099511627776 ∧ r.2.2.2.2.1.length ≤ 1099511627776 := by
  obtain ⟨b, h1, h2, h3⟩ := mach_both x0_0_0 x0_0_1 x0_0_2 x0_1 x0_2 ox0_0_0 ox0_0_1 ox0_0_2 nx0_0_2 ox0_1 nx0_1 nx0_2
  unfold spec_MoveMachine.f impl_MoveMachine.f
  cases b
  · exact ⟨(0, 0, [], [], [], 1), Ev.bind h1 (Ev.iteF (by simp) (Ev.now _)), Ev.bind h2 (Ev.iteF (by simp) (Ev.now _)), by simp⟩
  obtain ⟨⟨w, h, m, c⟩, k1, k2, k3⟩ := move_both x0_0_0 x0_0_1 x0_0_2 x1 x2 ox0_0_0 ox0_0_1 ox0_0_2 nx0_0_2 ox1 ox2
  dsimp only at k3
  by_cases hc : c = 0
  · subst hc
    refine ⟨(w, h, m, x0_1.map (mvp x1 x2), x0_2.map (mvc x1 x2), 0), Ev.bind h1 (Ev.iteT rfl (Ev.bind k1 (Ev.iteT rfl (Ev.bindc (copy3 _ _ _ _ _ nx0_0_2 nx0_1 nx0_2) (spec_mv0 _ _ _ _ _ _ _ nx0_1 _ (spec_mv1 _ _ _ _ _ _ _ nx0_2)))))), Ev.bind h2 (Ev.iteT rfl (Ev.bind k2 (Ev.iteT rfl (Ev.bindc (clone3 _ _ _ _ _ nx0_0_2 nx0_1 nx0_2) (impl_mv0 _ _ _ _ _ _ _ nx0_1 _ (impl_mv1 _ _ _ _ _ _ _ nx0_2)))))), ?_⟩
    simp only [List.length_map]
    omega
  · exact ⟨(0, 0, [], [], [], c), Ev.bind h1 (Ev.iteT rfl (Ev.bind k1 (Ev.iteF hc (Ev.now _)))), Ev.bind h2 (Ev.iteT rfl (Ev.bind k2 (Ev.iteF hc (Ev.now _)))), by simp⟩

theorem FnExactMoveMachine : QFnExactMoveMachine.Pure := by
  rintro ⟨⟨x0_0_0, x0_0_1, x0_0_2⟩, x0_1, x0_2⟩ x1 x2 ⟨⟨wx0_0_0, wx0_0_1, wx0_0_2⟩, wx0_1, wx0_2⟩ wx1 wx2
  have ox0_0_0 : (-128 ≤ x0_0_0 ∧ x0_0_0 ≤ 127) := i8b wx0_0_0
  have ox0_0_1 : (-128 ≤ x0_0_1 ∧ x0_0_1 ≤ 127) := i8b wx0_0_1
  obtain ⟨wx0_0_2, mx0_0_2⟩ := wx0_0_2
  have mx0_0_2 : x0_0_2.length ≤ 9223372036854775807 := mx0_0_2
  obtain ⟨wx0_1, mx0_1⟩ := wx0_1
  have mx0_1 : x0_1.length ≤ 9223372036854775807 := mx0_1
  obtain ⟨wx0_2, mx0_2⟩ := wx0_2
  have mx0_2 : x0_2.length ≤ 9223372036854775807 := mx0_2
  have ox1 : (-9223372036854775808 ≤ x1 ∧ x1 ≤ 9223372036854775807) := i64b wx1
  have ox2 : (-9223372036854775808 ≤ x2 ∧ x2 ≤ 9223372036854775807) := i64b wx2
  refine Ev.rounds (r := true) ?_
  unfold laws_FnExactMoveMachine.f
  obtain ⟨r_0, e_0, c_0⟩ := szMachine x0_0_0 x0_0_1 x0_0_2 x0_1 x0_2 (1048576) (by omega) mx0_0_2 mx0_1 mx0_2
  refine Ev.bindc e_0 ?_
  rcases c_0 with c_0 | ⟨rfl, c_0⟩
  · exact Ev.iteT c_0 (Ev.now _)
  refine Ev.iteF (by omega) ?_
  refine Ev.bind (toMachine _ _ _ _ _ (by first | omega | ((try dsimp only); (try simp only [List.length_map, List.length_range, List.length_nil]); omega) | (simp; omega)) (by first | omega | ((try dsimp only); (try simp only [List.length_map, List.length_range, List.length_nil]); omega) | (simp; omega)) (by first | omega | ((try dsimp only); (try simp only [List.length_map, List.length_range, List.length_nil]); omega) | (simp; omega))) ?_
  try dsimp only
  obtain ⟨⟨r0, r1, r2, r3, r4, r5⟩, hs, hi, hb⟩ := core x0_0_0 x0_0_1 (x0_0_2.map cv88_91) (x0_1.map cv182_116) (x0_2.map cv71_74) x1 x2 ox0_0_0 ox0_0_1 (fun y hy => by obtain ⟨z, hz, rfl⟩ := List.mem_map.1 hy; exact okof88_91 (wx0_0_2 z hz)) (by first | omega | ((try dsimp only); (try simp only [List.length_map, List.length_range, List.length_nil]); omega) | (simp; omega)) (fun y hy => by obtain ⟨z, hz, rfl⟩ := List.mem_map.1 hy; exact okof182_116 (wx0_1 z hz)) (by first | omega | ((try dsimp only); (try simp only [List.length_map, List.length_range, List.length_nil]); omega) | (simp; omega)) (fun y hy => by obtain ⟨z, hz, rfl⟩ := List.mem_map.1 hy; exact okof71_74 (wx0_2 z hz)) (by first | omega | ((try dsimp only); (try simp only [List.length_map, List.length_range, List.length_nil]); omega) | (simp; omega)) ox1 ox2
  obtain ⟨b2, b3, b4⟩ := hb
  try dsimp only at b2 b3 b4
  refine Ev.bind hs ?_
  try dsimp only
  refine Ev.bind (toMachine _ _ _ _ _ (by first | omega | ((try dsimp only); (try simp only [List.length_map, List.length_range, List.length_nil]); omega) | (simp; omega)) (by first | omega | ((try dsimp only); (try simp only [List.length_map, List.length_range, List.length_nil]); omega) | (simp; omega)) (by first | omega | ((try dsimp only); (try simp only [List.length_map, List.length_range, List.length_nil]); omega) | (simp; omega))) ?_
  try dsimp only
  refine Ev.bind hi ?_
  try dsimp only
  refine Ev.bind (eqMachine _ _ _ _ _ (by first | omega | ((try dsimp only); (try simp only [List.length_map, List.length_range, List.length_nil]); omega) | (simp; omega)) (by first | omega | ((try dsimp only); (try simp only [List.length_map, List.length_range, List.length_nil]); omega) | (simp; omega)) (by first | omega | ((try dsimp only); (try simp only [List.length_map, List.length_range, List.length_nil]); omega) | (simp; omega))) ?_
  try dsimp only
  refine Ev.iteT (by first | rfl | (first | omega | ((try dsimp only); (try simp only [List.length_map, List.length_range, List.length_nil]); omega) | (simp; omega))) ?_
  try dsimp only
  refine Ev.iteT (by first | rfl | (first | omega | ((try dsimp only); (try simp only [List.length_map, List.length_range, List.length_nil]); omega) | (simp; omega))) ?_
  try dsimp only
  refine Ev.bind (toMachine _ _ _ _ _ (by first | omega | ((try dsimp only); (try simp only [List.length_map, List.length_range, List.length_nil]); omega) | (simp; omega)) (by first | omega | ((try dsimp only); (try simp only [List.length_map, List.length_range, List.length_nil]); omega) | (simp; omega)) (by first | omega | ((try dsimp only); (try simp only [List.length_map, List.length_range, List.length_nil]); omega) | (simp; omega))) ?_
  try dsimp only
  refine Ev.bind (eqMachine _ _ _ _ _ (by first | omega | ((try dsimp only); (try simp only [List.length_map, List.length_range, List.length_nil]); omega) | (simp; omega)) (by first | omega | ((try dsimp only); (try simp only [List.length_map, List.length_range, List.length_nil]); omega) | (simp; omega)) (by first | omega | ((try dsimp only); (try simp only [List.length_map, List.length_range, List.length_nil]); omega) | (simp; omega))) ?_
  try dsimp only
  refine Ev.iteT (by first | rfl | (first | omega | ((try dsimp only); (try simp only [List.length_map, List.length_range, List.length_nil]); omega) | (simp; omega))) ?_
  try dsimp only
  refine Ev.bind (markMachine _ _ _ _ _ _ (by first | omega | ((try dsimp only); (try simp only [List.length_map, List.length_range, List.length_nil]); omega) | (simp; omega)) (by first | omega | ((try dsimp only); (try simp only [List.length_map, List.length_range, List.length_nil]); omega) | (simp; omega)) (by first | omega | ((try dsimp only); (try simp only [List.length_map, List.length_range, List.length_nil]); omega) | (simp; omega)) (by first | omega | ((try dsimp only); (try simp only [List.length_map, List.length_range, List.length_nil]); omega) | (simp; omega))) ?_
  try dsimp only
  refine Ev.iteF (by first | (simp; done) | (first | omega | ((try dsimp only); (try simp only [List.length_map, List.length_range, List.length_nil]); omega) | (simp; omega))) ?_
  try dsimp only
  refine Ev.bind (eqMachine _ _ _ _ _ (by first | omega | ((try dsimp only); (try simp only [List.length_map, List.length_range, List.length_nil]); omega) | (simp; omega)) (by first | omega | ((try dsimp only); (try simp only [List.length_map, List.length_range, List.length_nil]); omega) | (simp; omega)) (by first | omega | ((try dsimp only); (try simp only [List.length_map, List.length_range, List.length_nil]); omega) | (simp; omega))) ?_
  try dsimp only
  refine Ev.iteT (by first | rfl | (first | omega | ((try dsimp only); (try simp only [List.length_map, List.length_range, List.length_nil]); omega) | (simp; omega))) ?_
  try dsimp only
  refine Ev.bind (markMachine _ _ _ _ _ _ (by first | omega | ((try dsimp only); (try simp only [List.length_map, List.length_range, List.length_nil]); omega) | (simp; omega)) (by first | omega | ((try dsimp only); (try simp only [List.length_map, List.length_range, List.length_nil]); omega) | (simp; omega)) (by first | omega | ((try dsimp only); (try simp only [List.length_map, List.length_range, List.length_nil]); omega) | (simp; omega)) (by first | omega | ((try dsimp only); (try simp only [List.length_map, List.length_range, List.length_nil]); omega) | (simp; omega))) ?_
  try dsimp only
  refine Ev.bind (heldMachine _ _ _ _ _ _ (by first | omega | ((try dsimp only); (try simp only [List.length_map, List.length_range, List.length_nil]); omega) | (simp; omega)) (by first | omega | ((try dsimp only); (try simp only [List.length_map, List.length_range, List.length_nil]); omega) | (simp; omega)) (by first | omega | ((try dsimp only); (try simp only [List.length_map, List.length_range, List.length_nil]); omega) | (simp; omega)) (by first | omega | ((try dsimp only); (try simp only [List.length_map, List.length_range, List.length_nil]); omega) | (simp; omega))) ?_
  try dsimp only
  refine Ev.iteF (by first | (simp; done) | (first | omega | ((try dsimp only); (try simp only [List.length_map, List.length_range, List.length_nil]); omega) | (simp; omega))) ?_
  try dsimp only
  refine Ev.iteT (by first | rfl | (first | omega | ((try dsimp only); (try simp only [List.length_map, List.length_range, List.length_nil]); omega) | (simp; omega))) ?_
  try dsimp only
  refine Ev.bind (toMachine _ _ _ _ _ (by first | omega | ((try dsimp only); (try simp only [List.length_map, List.length_range, List.length_nil]); omega) | (simp; omega)) (by first | omega | ((try dsimp only); (try simp only [List.length_map, List.length_range, List.length_nil]); omega) | (simp; omega)) (by first | omega | ((try dsimp only); (try simp only [List.length_map, List.length_range, List.length_nil]); omega) | (simp; omega))) ?_
  try dsimp only
  refine Ev.bind hi ?_
  try dsimp only
  refine Ev.bind (eqMachine _ _ _ _ _ (by first | omega | ((try dsimp only); (try simp only [List.length_map, List.length_range, List.length_nil]); omega) | (simp; omega)) (by first | omega | ((try dsimp only); (try simp only [List.length_map, List.length_range, List.length_nil]); omega) | (simp; omega)) (by first | omega | ((try dsimp only); (try simp only [List.length_map, List.length_range, List.length_nil]); omega) | (simp; omega))) ?_
  try dsimp only
  refine Ev.iteT (by first | rfl | (first | omega | ((try dsimp only); (try simp only [List.length_map, List.length_range, List.length_nil]); omega) | (simp; omega))) ?_
  try dsimp only
  refine Ev.iteT (by first | rfl | (first | omega | ((try dsimp only); (try simp only [List.length_map, List.length_range, List.length_nil]); omega) | (simp; omega))) ?_
  try dsimp only
  refine Ev.bind (heldMachine _ _ _ _ _ _ (by first | omega | ((try dsimp only); (try simp only [List.length_map, List.length_range, List.length_nil]); omega) | (simp; omega)) (by first | omega | ((try dsimp only); (try simp only [List.length_map, List.length_range, List.length_nil]); omega) | (simp; omega)) (by first | omega | ((try dsimp only); (try simp only [List.length_map, List.length_range, List.length_nil]); omega) | (simp; omega)) (by first | omega | ((try dsimp only); (try simp only [List.length_map, List.length_range, List.length_nil]); omega) | (simp; omega))) ?_
  try dsimp only
  refine Ev.iteF (by first | (simp; done) | (first | omega | ((try dsimp only); (try simp only [List.length_map, List.length_range, List.length_nil]); omega) | (simp; omega))) ?_
  try dsimp only
  refine Ev.iteT (by first | rfl | (first | omega | ((try dsimp only); (try simp only [List.length_map, List.length_range, List.length_nil]); omega) | (simp; omega))) ?_
  try dsimp only
  exact Ev.now _
end Go.Proofs.Ytffnfpnajkgnaaa.Pure
