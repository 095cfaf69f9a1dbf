/- The pure side of the law FnExactJoinBoards: for all arguments its Lean function answers true. No condition beside the arguments' kinds. -/
import Derived.Test.YtffnfpnajkgnaaaQFnExactJoinBoards
import Derived.Test.YtffnfpnajkgnaaaTFnExactJoinBoardsa
namespace Go.Proofs.Ytffnfpnajkgnaaa.Pure
open Go.RowKit Go.Proofs.Ytffnfpnajkgnaaa.PFnExactJoinBoards Go.Proofs.YtffnfpnajkgnaaaW.PrintWords Go.Proofs.YtffnfpnajkgnaaaW.PrintLast Go.Proofs.YtffnfpnajkgnaaaX Go.Proofs.Ytffnfpnajkgnaaa.QFnExactJoinBoards Go.Proofs.YtffnfpnajkgnaaaB
set_option linter.unusedVariables false
set_option linter.unusedSimpArgs false

theorem szPieceS (l0 : List (S88)) (a_ : Int) (ha : 0 ≤ a_ ∧ a_ ≤ 1048576) (hl0 : l0.length ≤ 9223372036854775807) : ∃ r, laws_szPieceS.f l0 a_ = some r ∧ (r < 0 ∨ (r = a_ - l0.length ∧ 0 ≤ r)) := by
  unfold laws_szPieceS.f
  rw [w64 (n := a_ - l0.length) (by omega)]
  by_cases h : a_ - (l0.length : Int) < 0
  · exact ⟨-1, by rw [if_pos h], .inl (by omega)⟩
  · exact ⟨_, by rw [if_neg h], .inr ⟨rfl, by omega⟩⟩
theorem szBoard (a0_0 : Int) (a0_1 : Int) (l0_2 : List (S88)) (a_ : Int) (ha : 0 ≤ a_ ∧ a_ ≤ 1048576) (hl0_2 : l0_2.length ≤ 9223372036854775807) : ∃ r, laws_szBoard.f a0_0 a0_1 l0_2 a_ = some r ∧ (r < 0 ∨ (r = a_ - l0_2.length ∧ 0 ≤ r)) := by
  unfold laws_szBoard.f
  obtain ⟨r0, e0, c0⟩ := szPieceS l0_2 (a_) (by omega) hl0_2
  rw [e0]
  simp only [Option.bind_some]
  rcases c0 with c0 | ⟨rfl, c0⟩
  · exact ⟨-1, by rw [if_pos c0], .inl (by omega)⟩
  rw [if_neg (by omega)]
  exact ⟨_, rfl, .inr ⟨rfl, by omega⟩⟩
theorem toCell (a0_0 : Int) (a0_1 : Int)  : Ev (fun k => laws_toCell.f k a0_0 a0_1) (a0_0, a0_1) := by
  refine ⟨3, fun k hk => ?_⟩
  obtain ⟨m, rfl⟩ : ∃ m, k = m + 3 := ⟨k - 3, by omega⟩
  simp [laws_toCell.f, laws_toCell.l0, wrap64]
theorem toPiece (a0_0 : Int) (a0_1 : Int) (a0_2 : Int) (a0_3 : Int) (a0_4 : Int)  : Ev (fun k => laws_toPiece.f k a0_0 a0_1 a0_2 a0_3 a0_4) (a0_0, a0_1, a0_2, a0_3, a0_4) := by
  unfold laws_toPiece.f
  exact (Ev.bind (toCell _ _ ) (Ev.now _))
def cv71_74 (x : S71) : S74 := ⟨x.f0, x.f1⟩
def cv88_91 (x : S88) : S91 := ⟨cv71_74 x.f0, x.f1, x.f2, x.f3⟩
theorem toPieceS (l0 : List (S88)) (hl0 : l0.length ≤ 1099511627776) : Ev (fun k => laws_toPieceS.f k l0) (l0.map cv88_91) := by
  suffices main : Ev (fun k => laws_toPieceS.f k l0) (l0.map cv88_91) by exact main
  unfold laws_toPieceS.f
  refine Ev.iteT (by omega) (Ev.iteT (by omega) ?_)
  rw [Int.toNat_natCast]
  refine ev_fill2 (g := fun k x i => laws_toPieceS.l0 k l0 x i) cv88_91 l0 _ (Ev.step (f := fun _ => some _) (fun k => by simp [laws_toPieceS.l0]) (Ev.now _)) fun i h x hx ih => ?_
  have eg : l0.getD i z88 = l0[i] := getD_at _ _ _ h
  refine Ev.step (fun k => by rw [laws_toPieceS.l0]) (Ev.iteT (by omega) (Ev.iteT (by omega) ?_))
  simp only [rd_T88, Int.toNat_natCast, eg]
  refine Ev.bind (toPiece _ _ _ _ _ ) ?_
  refine Ev.iteT (by omega) ?_
  rw [w64 (by omega)]
  exact ih
theorem toBoard (a0_0 : Int) (a0_1 : Int) (l0_2 : List (S88)) (hl0_2 : l0_2.length ≤ 1099511627776) : Ev (fun k => laws_toBoard.f k a0_0 a0_1 l0_2) (a0_0, a0_1, (l0_2.map cv88_91)) := by
  unfold laws_toBoard.f
  exact (Ev.bind (toPieceS _ (by first | omega | ((try dsimp only); (try simp only [List.length_map, List.length_range, List.length_nil]); omega) | (simp; omega))) (Ev.now _))
theorem eqCell (a0_0 : Int) (a0_1 : Int)  : Ev (fun k => laws_eqCell.f k a0_0 a0_1 a0_0 a0_1) true := by
  refine ⟨3, fun k hk => ?_⟩
  obtain ⟨m, rfl⟩ : ∃ m, k = m + 3 := ⟨k - 3, by omega⟩
  simp [laws_eqCell.f, laws_eqCell.l0, wrap64]
theorem eqPiece (a0_0 : Int) (a0_1 : Int) (a0_2 : Int) (a0_3 : Int) (a0_4 : Int)  : Ev (fun k => laws_eqPiece.f k a0_0 a0_1 a0_2 a0_3 a0_4 a0_0 a0_1 a0_2 a0_3 a0_4) true := by
  unfold laws_eqPiece.f
  exact (Ev.bind (eqCell _ _ ) (Ev.iteT rfl (Ev.iteT rfl (Ev.iteT rfl (Ev.iteT rfl (Ev.now _))))))
theorem eqPieceS (l0 : List (S91)) (hl0 : l0.length ≤ 1099511627776) : Ev (fun k => laws_eqPieceS.f k l0 l0) true := by
  unfold laws_eqPieceS.f
  refine Ev.iteT rfl ?_
  refine ev_loop2 (g := fun k i => laws_eqPieceS.l0 k l0 l0 i) (fun i => (i : Int)) l0.length (Ev.step (f := fun _ => some _) (fun k => by simp [laws_eqPieceS.l0]) (Ev.now _)) fun i h ih => ?_
  refine Ev.step (fun k => by rw [laws_eqPieceS.l0]) (Ev.iteT (by omega) (Ev.iteT (by omega) (Ev.iteT (by omega) ?_)))
  refine Ev.bind (eqPiece _ _ _ _ _ ) (Ev.iteT rfl ?_)
  rw [w64 (by omega)]
  exact ih
theorem eqBoard (a0_0 : Int) (a0_1 : Int) (l0_2 : List (S91)) (hl0_2 : l0_2.length ≤ 1099511627776) : Ev (fun k => laws_eqBoard.f k a0_0 a0_1 l0_2 a0_0 a0_1 l0_2) true := by
  unfold laws_eqBoard.f
  exact (Ev.iteT rfl (Ev.iteT rfl (Ev.bind (eqPieceS _ (by first | omega | ((try dsimp only); (try simp only [List.length_map, List.length_range, List.length_nil]); omega) | (simp; omega))) (Ev.iteT rfl (Ev.now _)))))
def mk_PieceS (k : Int) : S91 := ⟨⟨IntKind.i8.wrap k, IntKind.i8.wrap (k + 1)⟩, IntKind.i8.wrap (k + 2), IntKind.i8.wrap (k + 3), IntKind.i8.wrap (k + 4)⟩
theorem markPieceS (l0 : List (S91)) (k_ : Int) (hl0 : l0.length ≤ 1099511627776) (hk : 0 ≤ k_ ∧ (k_ + 5 * (l0.length : Int)) ≤ 4611686018427387904) : Ev (fun k => laws_markPieceS.f k l0 k_) ((k_ + 5 * (l0.length : Int)), ((List.range l0.length).map fun (j : Nat) => mk_PieceS (k_ + 5 * (j : Int)))) := by
  unfold laws_markPieceS.f
  refine ev_mark (g := fun k x q i => laws_markPieceS.l0 k x q i) mk_PieceS 5 l0 k_ (Ev.step (f := fun _ => some _) (fun k => by simp [laws_markPieceS.l0]) (Ev.now _)) fun i x h hx ih => ?_
  obtain ⟨q, hq⟩ : ∃ q, q = k_ + 5 * (i : Int) := ⟨_, rfl⟩
  rw [← hq] at ih ⊢
  have hqb : 0 ≤ q ∧ q + 5 ≤ 4611686018427387904 := by omega
  rw [show k_ + 5 * ((i + 1 : Nat) : Int) = q + 5 by omega] at ih
  have hi1 : ((i : Int) < (x.length : Int)) = True := eq_true (by omega)
  have hi0 : (0 ≤ (i : Int)) = True := eq_true (by omega)
  have hix : i < x.length := by omega
  have hs : ∀ a, (x.set i a).getD i z91 = a := fun a => getD_set x i z91 a hix
  obtain ⟨e0, e1, e2, e3, e4, ei⟩ : wrap64 (q + 1) = q + 1 ∧ wrap64 ((q + 1) + 1) = q + 2 ∧ wrap64 ((q + 2) + 1) = q + 3 ∧ wrap64 ((q + 3) + 1) = q + 4 ∧ wrap64 ((q + 4) + 1) = q + 5 ∧ wrap64 ((i : Int) + 1) = ((i + 1 : Nat) : Int) := ⟨wq (by omega) (by omega), wq (by omega) (by omega), wq (by omega) (by omega), wq (by omega) (by omega), wq (by omega) (by omega), wq (by omega) (by omega)⟩
  have s0 : ∀ k, laws_markPieceS.l0 (k + 1) x q (i : Int) = laws_markPieceS.l1 k x q (i : Int) 0 := fun k => by
    rw [laws_markPieceS.l0]
    simp only [hi1, if_true]
  have s1 : ∀ k a, laws_markPieceS.l1 (k + 1) (x.set i a) q (i : Int) 0 = laws_markPieceS.l1 k (x.set i ⟨⟨IntKind.i8.wrap q, a.f0.f1⟩, a.f1, a.f2, a.f3⟩) (q + 1) (i : Int) 1 := fun k a => by
    rw [laws_markPieceS.l1]
    simp only [e0, e1, e2, e3, e4, ei, (by decide +kernel : wrap64 (0 + 1) = 1), (by decide +kernel : wrap64 (1 + 1) = 2), show (((0 : Int) < 2) = True) from eq_true (by decide), show (((1 : Int) < 2) = True) from eq_true (by decide), show (((2 : Int) < 2) = False) from eq_false (by decide), show (((0 : Int) = 0) = True) from eq_true (by decide), show (((1 : Int) = 0) = False) from eq_false (by decide), show (((1 : Int) = 1) = True) from eq_true (by decide), hi1, hi0, if_true, if_false, Option.bind_some, Int.toNat_natCast, List.length_set, List.set_set, rd_T91, hs]
  have s2 : ∀ k a, laws_markPieceS.l1 (k + 1) (x.set i a) (q + 1) (i : Int) 1 = laws_markPieceS.l1 k (x.set i ⟨⟨a.f0.f0, IntKind.i8.wrap (q + 1)⟩, a.f1, a.f2, a.f3⟩) (q + 2) (i : Int) 2 := fun k a => by
    rw [laws_markPieceS.l1]
    simp only [e0, e1, e2, e3, e4, ei, (by decide +kernel : wrap64 (0 + 1) = 1), (by decide +kernel : wrap64 (1 + 1) = 2), show (((0 : Int) < 2) = True) from eq_true (by decide), show (((1 : Int) < 2) = True) from eq_true (by decide), show (((2 : Int) < 2) = False) from eq_false (by decide), show (((0 : Int) = 0) = True) from eq_true (by decide), show (((1 : Int) = 0) = False) from eq_false (by decide), show (((1 : Int) = 1) = True) from eq_true (by decide), hi1, hi0, if_true, if_false, Option.bind_some, Int.toNat_natCast, List.length_set, List.set_set, rd_T91, hs]
  have sf : ∀ k a, laws_markPieceS.l1 (k + 1) (x.set i a) (q + 2) (i : Int) 2 = laws_markPieceS.l0 k (x.set i ⟨a.f0, IntKind.i8.wrap (q + 2), IntKind.i8.wrap (q + 3), IntKind.i8.wrap (q + 4)⟩) (q + 5) ((i + 1 : Nat) : Int) := fun k a => by
    rw [laws_markPieceS.l1]
    simp only [e0, e1, e2, e3, e4, ei, (by decide +kernel : wrap64 (0 + 1) = 1), (by decide +kernel : wrap64 (1 + 1) = 2), show (((0 : Int) < 2) = True) from eq_true (by decide), show (((1 : Int) < 2) = True) from eq_true (by decide), show (((2 : Int) < 2) = False) from eq_false (by decide), show (((0 : Int) = 0) = True) from eq_true (by decide), show (((1 : Int) = 0) = False) from eq_false (by decide), show (((1 : Int) = 1) = True) from eq_true (by decide), hi1, hi0, if_true, if_false, Option.bind_some, Int.toNat_natCast, List.length_set, List.set_set, rd_T91, hs]
  have st : ∀ k, laws_markPieceS.l0 (k + 4) x q (i : Int) = laws_markPieceS.l0 k (x.set i (mk_PieceS q)) (q + 5) ((i + 1 : Nat) : Int) := fun k => by
    rw [s0]
    have h1 := s1 (k + 2) (x.getD i z91)
    rw [set_getD x i z91 hix] at h1
    rw [h1, s2, sf]
    rfl
  exact Ev.steps 4 st ih
theorem markBoard (a0_0 : Int) (a0_1 : Int) (l0_2 : List (S91)) (k_ : Int) (hl0_2 : l0_2.length ≤ 1099511627776) (hk : 0 ≤ k_ ∧ k_ + 5 * (l0_2.length : Int) ≤ 4611686018427387904) : Ev (fun k => laws_markBoard.f k a0_0 a0_1 l0_2 k_) (k_ + 5 * (l0_2.length : Int), ((List.range l0_2.length).map fun (j : Nat) => mk_PieceS (k_ + 5 * (j : Int)))) := by
  unfold laws_markBoard.f
  exact Ev.bind (markPieceS _ _ (by omega) (by omega)) (Ev.now _)
theorem heldPieceS (n : Nat) (k_ : Int) (hn : n ≤ 1099511627776) (hk : 0 ≤ k_ ∧ k_ + 5 * (n : Int) ≤ 4611686018427387904) : Ev (fun k => laws_heldPieceS.f k ((List.range n).map fun (j : Nat) => mk_PieceS (k_ + 5 * (j : Int))) k_) (k_ + 5 * (n : Int)) := by
  unfold laws_heldPieceS.f
  obtain ⟨M, hM⟩ : ∃ M, M = ((List.range n).map fun (j : Nat) => mk_PieceS (k_ + 5 * (j : Int))) := ⟨_, rfl⟩
  rw [← hM]
  have hl : M.length = n := by rw [hM]; simp
  have hv : ∀ i, i < n → M.getD i z91 = mk_PieceS (k_ + 5 * (i : Int)) := fun i h => by rw [hM]; exact mark_at _ _ _ _ _ _ h
  clear hM
  have h0 := ev_loop2 (g := fun k (s : Int × Int) => laws_heldPieceS.l0 k M s.1 s.2) (fun i => (k_ + 5 * (i : Int), (i : Int))) n (r := k_ + 5 * (n : Int)) (Ev.step (f := fun _ => some _) (fun k => by simp [laws_heldPieceS.l0, hl]) (Ev.now _)) fun i h ih => ?_
  · simpa using h0
  dsimp only at ih ⊢
  have hs := hv i h
  obtain ⟨q, hq⟩ : ∃ q, q = k_ + 5 * (i : Int) := ⟨_, rfl⟩
  rw [← hq] at hs ⊢
  rw [show k_ + 5 * ((i + 1 : Nat) : Int) = q + 5 by omega] at ih
  have hqb : 0 ≤ q ∧ q + 5 ≤ 4611686018427387904 := by omega
  have hi1 : ((i : Int) < (M.length : Int)) = True := eq_true (by omega)
  have hi0 : (0 ≤ (i : Int)) = True := eq_true (by omega)
  obtain ⟨e0, e1, e2, e3, e4, ei⟩ : wrap64 (q + 1) = q + 1 ∧ wrap64 ((q + 1) + 1) = q + 2 ∧ wrap64 ((q + 2) + 1) = q + 3 ∧ wrap64 ((q + 3) + 1) = q + 4 ∧ wrap64 ((q + 4) + 1) = q + 5 ∧ wrap64 ((i : Int) + 1) = ((i + 1 : Nat) : Int) := ⟨wq (by omega) (by omega), wq (by omega) (by omega), wq (by omega) (by omega), wq (by omega) (by omega), wq (by omega) (by omega), wq (by omega) (by omega)⟩
  have s0 : ∀ k, laws_heldPieceS.l0 (k + 1) M q (i : Int) = laws_heldPieceS.l1 k M q (i : Int) 0 := fun k => by
    rw [laws_heldPieceS.l0]
    simp only [hi1, if_true]
  have s1 : ∀ k, laws_heldPieceS.l1 (k + 1) M q (i : Int) 0 = laws_heldPieceS.l1 k M (q + 1) (i : Int) 1 := fun k => by
    rw [laws_heldPieceS.l1]
    simp only [e0, e1, e2, e3, e4, ei, (by decide +kernel : wrap64 (0 + 1) = 1), (by decide +kernel : wrap64 (1 + 1) = 2), show (((0 : Int) < 2) = True) from eq_true (by decide), show (((1 : Int) < 2) = True) from eq_true (by decide), show (((2 : Int) < 2) = False) from eq_false (by decide), show (((0 : Int) = 0) = True) from eq_true (by decide), show (((1 : Int) = 0) = False) from eq_false (by decide), show (((1 : Int) = 1) = True) from eq_true (by decide), hi1, hi0, if_true, if_false, Option.bind_some, Int.toNat_natCast, List.length_set, List.set_set, rd_T91, hs, mk_PieceS]
  have s2 : ∀ k, laws_heldPieceS.l1 (k + 1) M (q + 1) (i : Int) 1 = laws_heldPieceS.l1 k M (q + 2) (i : Int) 2 := fun k => by
    rw [laws_heldPieceS.l1]
    simp only [e0, e1, e2, e3, e4, ei, (by decide +kernel : wrap64 (0 + 1) = 1), (by decide +kernel : wrap64 (1 + 1) = 2), show (((0 : Int) < 2) = True) from eq_true (by decide), show (((1 : Int) < 2) = True) from eq_true (by decide), show (((2 : Int) < 2) = False) from eq_false (by decide), show (((0 : Int) = 0) = True) from eq_true (by decide), show (((1 : Int) = 0) = False) from eq_false (by decide), show (((1 : Int) = 1) = True) from eq_true (by decide), hi1, hi0, if_true, if_false, Option.bind_some, Int.toNat_natCast, List.length_set, List.set_set, rd_T91, hs, mk_PieceS]
  have sf : ∀ k, laws_heldPieceS.l1 (k + 1) M (q + 2) (i : Int) 2 = laws_heldPieceS.l0 k M (q + 5) ((i + 1 : Nat) : Int) := fun k => by
    rw [laws_heldPieceS.l1]
    simp only [e0, e1, e2, e3, e4, ei, (by decide +kernel : wrap64 (0 + 1) = 1), (by decide +kernel : wrap64 (1 + 1) = 2), show (((0 : Int) < 2) = True) from eq_true (by decide), show (((1 : Int) < 2) = True) from eq_true (by decide), show (((2 : Int) < 2) = False) from eq_false (by decide), show (((0 : Int) = 0) = True) from eq_true (by decide), show (((1 : Int) = 0) = False) from eq_false (by decide), show (((1 : Int) = 1) = True) from eq_true (by decide), hi1, hi0, if_true, if_false, Option.bind_some, Int.toNat_natCast, List.length_set, List.set_set, rd_T91, hs, mk_PieceS]
  have st : ∀ k, laws_heldPieceS.l0 (k + 4) M q (i : Int) = laws_heldPieceS.l0 k M (q + 5) ((i + 1 : Nat) : Int) := fun k => by
    rw [s0, s1, s2, sf]
  exact Ev.steps 4 st ih
theorem heldBoard (a0_0 : Int) (a0_1 : Int) (nl0_2 : Nat) (k_ : Int) (hl0_2 : nl0_2 ≤ 1099511627776) (hk : 0 ≤ k_ ∧ k_ + 5 * (nl0_2 : Int) ≤ 4611686018427387904) : Ev (fun k => laws_heldBoard.f k a0_0 a0_1 ((List.range nl0_2).map fun (j : Nat) => mk_PieceS (k_ + 5 * (j : Int))) k_) (k_ + 5 * (nl0_2 : Int)) := by
  unfold laws_heldBoard.f
  exact Ev.bind (heldPieceS _ _ (by omega) (by omega)) (Ev.iteF (by omega) (Ev.now _))
def ok74 (x : S74) : Prop := (-128 ≤ x.f0 ∧ x.f0 ≤ 127) ∧ (-128 ≤ x.f1 ∧ x.f1 ≤ 127)
def ok91 (x : S91) : Prop := ok74 x.f0 ∧ (-128 ≤ x.f1 ∧ x.f1 ≤ 127) ∧ (-128 ≤ x.f2 ∧ x.f2 ≤ 127) ∧ (-128 ≤ x.f3 ∧ x.f3 ≤ 127)
theorem okof71_74 {x : S71} (h : wf71 x) : ok74 (cv71_74 x) := by
  obtain ⟨h0, h1⟩ := h
  exact ⟨(i8b h0), (i8b h1)⟩
theorem okof88_91 {x : S88} (h : wf88 x) : ok91 (cv88_91 x) := by
  obtain ⟨h0, h1, h2, h3⟩ := h
  exact ⟨(okof71_74 h0), (i8b h1), (i8b h2), (i8b h3)⟩
theorem in_same : spec_l00In.f = impl_in.f := rfl
theorem in_some (a b c : Int) : impl_in.f a b c = some (decide (b ≤ a ∧ a ≤ c)) := by
  unfold impl_in.f
  by_cases h : b ≤ a <;> simp [h]

theorem rd0 (a b : Int) (l : List (S91)) : rd_T37 [(⟨a, b, l⟩ : S37)] 0 = ⟨a, b, l⟩ := id rfl
theorem rdp (l : List (S91)) (i : Nat) : rd_T91 l (i : Int) = l.getD i z91 := id rfl
def VP (p : S91) : Prop := (0 ≤ p.f1 ∧ p.f1 ≤ 5) ∧ (0 ≤ p.f2 ∧ p.f2 ≤ 3) ∧ (1 ≤ p.f3 ∧ p.f3 ≤ 9) ∧ (0 ≤ p.f0.f0 ∧ p.f0.f0 ≤ 23) ∧ (0 ≤ p.f0.f1 ∧ p.f0.f1 ≤ 23)
instance (p : S91) : Decidable (VP p) := by unfold VP; infer_instance
theorem valid_dec (a b c d e : Int) (ha : -128 ≤ a ∧ a ≤ 127) (hb : -128 ≤ b ∧ b ≤ 127) (hc : -128 ≤ c ∧ c ≤ 127) (hd : -128 ≤ d ∧ d ≤ 127) (he : -128 ≤ e ∧ e ≤ 127) : impl_ValidPiece.f a b c d e = some (decide (VP ⟨⟨a, b⟩, c, d, e⟩)) := by
  unfold impl_ValidPiece.f impl_Cell_placed.f
  simp only [in_some, Option.bind_some]
  rw [w64 (n := a) (by omega), w64 (n := b) (by omega), w64 (n := c) (by omega), w64 (n := d) (by omega), w64 (n := e) (by omega)]
  by_cases h1 : 0 ≤ c ∧ c ≤ 5 <;> by_cases h2 : 0 ≤ d ∧ d ≤ 3 <;> by_cases h3 : 1 ≤ e ∧ e ≤ 9 <;> by_cases h4 : 0 ≤ a ∧ a ≤ 23 <;> simp [VP, h1, h2, h3, h4]
theorem impl_valid {p : S91} (hp : ok91 p) : impl_ValidPiece.f p.f0.f0 p.f0.f1 p.f1 p.f2 p.f3 = some (decide (VP p)) := by
  obtain ⟨⟨a, b⟩, c, d, e⟩ := p
  obtain ⟨⟨h0, h1⟩, h2, h3, h4⟩ := hp
  exact valid_dec a b c d e h0 h1 h2 h3 h4
theorem spec_valid {p : S91} (hp : ok91 p) : spec_l01Piece.f [p] = some (decide (VP p)) := by
  rw [← impl_valid hp]
  obtain ⟨⟨a, b⟩, c, d, e⟩ := p
  unfold spec_l01Piece.f impl_ValidPiece.f impl_Cell_placed.f spec_l01In.f
  simp [in_same, in_some, rd_T91, wrap64]
theorem spec_in (a b w h : Int) (ha : -128 ≤ a ∧ a ≤ 127) (hb : -128 ≤ b ∧ b ≤ 127) (hw : -128 ≤ w ∧ w ≤ 127) (hh : -128 ≤ h ∧ h ≤ 127) : spec_l01In.f a b w h = some (decide ((0 ≤ a ∧ a < w) ∧ 0 ≤ b ∧ b < h)) := by
  unfold spec_l01In.f
  simp only [in_same, in_some, Option.bind_some]
  rw [w64 (n := a) (by omega), w64 (n := b) (by omega), w64 (n := w - 1) (by omega), w64 (n := h - 1) (by omega)]
  have e1 : (0 ≤ a ∧ a ≤ w - 1) ↔ (0 ≤ a ∧ a < w) := by omega
  have e2 : (0 ≤ b ∧ b ≤ h - 1) ↔ (0 ≤ b ∧ b < h) := by omega
  simp only [e1, e2]
  by_cases h1 : 0 ≤ a ∧ a < w <;> simp [h1]
theorem impl_has (w h : Int) (l : List (S91)) (a b : Int) : impl_Board_has.f [(⟨w, h, l⟩ : S37)] a b = some (decide ((0 ≤ a ∧ a < w) ∧ 0 ≤ b ∧ b < h)) := by
  unfold impl_Board_has.f
  simp only [rd0]
  by_cases h1 : 0 ≤ a <;> by_cases h2 : a < w <;> by_cases h3 : 0 ≤ b <;> simp [h1, h2, h3]
/-- A piece stands in a cell. -/
def At (l : List (S91)) (x y : Int) (i : Nat) : Prop := (l.getD i z91).f0.f0 = x ∧ (l.getD i z91).f0.f1 = y
def Found (l : List (S91)) (x y r : Int) : Prop := (r = -1 ∧ ∀ i : Nat, i < l.length → ¬ At l x y i) ∨ ∃ j : Nat, j < l.length ∧ r = (j : Int) ∧ At l x y j ∧ ∀ i : Nat, i < j → ¬ At l x y i
theorem Found.same {l : List (S91)} {x y r q : Int} (h : Found l x y r) (k : Found l x y q) : r = q := by
  rcases h with ⟨rfl, h⟩ | ⟨j, h1, rfl, h2, h3⟩ <;> rcases k with ⟨rfl, k⟩ | ⟨i, k1, rfl, k2, k3⟩
  · rfl
  · exact absurd k2 (h i k1)
  · exact absurd h2 (k j h1)
  · rcases Nat.lt_trichotomy i j with c | c | c
    · exact absurd k2 (h3 i c)
    · rw [c]
    · exact absurd h2 (k3 j c)
theorem Found.range {l : List (S91)} {x y r : Int} (h : Found l x y r) : -1 ≤ r ∧ r < l.length := by
  rcases h with ⟨rfl, h⟩ | ⟨j, h1, rfl, h2, h3⟩ <;> omega
theorem found_first (l : List (S91)) (x y : Int) : (∀ i : Nat, i < l.length → ¬ At l x y i) ∨ ∃ j : Nat, j < l.length ∧ At l x y j ∧ ∀ i : Nat, i < j → ¬ At l x y i := by
  have : DecidablePred fun i => ¬ At l x y i := fun _ => Classical.propDecidable _
  rcases first_or_all (fun i => ¬ At l x y i) l.length with h | ⟨j, h1, h2, h3⟩
  · exact .inl h
  · exact .inr ⟨j, h1, Classical.not_not.1 h2, h3⟩
theorem at_cond (l : List (S91)) (x y : Int) (i : Nat) : (((l.getD i z91).f0.f0 == x && (l.getD i z91).f0.f1 == y) = true) ↔ At l x y i := by simp [At]
theorem find_spec (w h : Int) (l : List (S91)) (x y : Int) (hl : l.length ≤ 1048576) : ∃ r, Ev (fun k => spec_l01Find.f k [(⟨w, h, l⟩ : S37)] x y) r ∧ Found l x y r := by
  unfold spec_l01Find.f
  rcases found_first l x y with hh | ⟨j, h1, h2, h3⟩
  · refine ⟨-1, ev_loop2 (g := fun k i => spec_l01Find.l0 k [(⟨w, h, l⟩ : S37)] i x y) (fun i => (i : Int)) l.length ?_ fun i hi ih => ?_, .inl ⟨rfl, hh⟩⟩
    · refine Ev.step (fun k => by rw [spec_l01Find.l0]) ?_
      simp only [rd0]
      exact Ev.iteT (by simp) (Ev.iteF (by omega) (Ev.now _))
    · refine Ev.step (fun k => by rw [spec_l01Find.l0]) ?_
      simp only [rd0, rdp]
      refine Ev.iteT (by simp) (Ev.iteT (by omega) (Ev.iteT (by omega) (Ev.iteF (fun c => hh i hi ((at_cond l x y i).1 c)) ?_)))
      rw [w64 (by omega)]
      exact ih
  · refine ⟨(j : Int), ev_loop2 (g := fun k i => spec_l01Find.l0 k [(⟨w, h, l⟩ : S37)] i x y) (fun i => (i : Int)) j ?_ fun i hi ih => ?_, .inr ⟨j, h1, rfl, h2, h3⟩⟩
    · refine Ev.step (fun k => by rw [spec_l01Find.l0]) ?_
      simp only [rd0, rdp]
      exact Ev.iteT (by simp) (Ev.iteT (by omega) (Ev.iteT (by omega) (Ev.iteT ((at_cond l x y j).2 h2) (Ev.now _))))
    · refine Ev.step (fun k => by rw [spec_l01Find.l0]) ?_
      simp only [rd0, rdp]
      refine Ev.iteT (by simp) (Ev.iteT (by omega) (Ev.iteT (by omega) (Ev.iteF (fun c => h3 i hi ((at_cond l x y i).1 c)) ?_)))
      rw [w64 (by omega)]
      exact ih
/-- What is right of the piece at a place. -/
def Good (w h : Int) (l : List (S91)) (i : Nat) : Prop := VP (l.getD i z91) ∧ ((0 ≤ (l.getD i z91).f0.f0 ∧ (l.getD i z91).f0.f0 < w) ∧ 0 ≤ (l.getD i z91).f0.f1 ∧ (l.getD i z91).f0.f1 < h) ∧ ∀ j, j < i → ¬ At l (l.getD i z91).f0.f0 (l.getD i z91).f0.f1 j
structure BoardOk (w h : Int) (l : List (S91)) : Prop where
  wide : 1 ≤ w ∧ w ≤ 24
  high : 1 ≤ h ∧ h ≤ 24
  len : l.length ≤ 200
  piece : ∀ i : Nat, i < l.length → Good w h l i
theorem spec_ok (w h : Int) (l : List (S91)) (hw : -128 ≤ w ∧ w ≤ 127) (hh : -128 ≤ h ∧ h ≤ 127) (hx : ∀ y ∈ l, ok91 y) (hl : l.length ≤ 1048576) :
    ∃ r, Ev (fun k => spec_l01Ok.f k [(⟨w, h, l⟩ : S37)]) r ∧ (r = true ↔ BoardOk w h l) := by
  have hj : Ev (fun k => spec_l01Ok.j0 k [(⟨w, h, l⟩ : S37)] true) false := Ev.step (f := fun _ => some false) (fun k => by simp [spec_l01Ok.j0]) (Ev.now _)
  have key : ∃ s, Ev (fun k => spec_l01Ok.l0 k [(⟨w, h, l⟩ : S37)] 0) s ∧ (s = true ↔ (∀ i : Nat, i < l.length → Good w h l i) ∧ True) := by
    refine ev_scanB (g := fun k i => spec_l01Ok.l0 k [(⟨w, h, l⟩ : S37)] i) (r := true) (fun i => Good w h l i) (by simp) (fun _ => ?_) (fun i hi hp s hs => ?_) (fun i hi hp => ?_)
    · refine Ev.step (fun k => by rw [spec_l01Ok.l0]) ?_
      simp only [rd0]
      exact Ev.iteT (by simp) (Ev.iteF (by omega) (Ev.now _))
    all_goals
      have ho : ok91 (l.getD i z91) := getD_mem hx _ _ hi
      have hv := spec_valid ho
      obtain ⟨r, f1, f2⟩ := find_spec w h l (l.getD i z91).f0.f0 (l.getD i z91).f0.f1 hl
      have hin : spec_l01In.f (l.getD i z91).f0.f0 (l.getD i z91).f0.f1 (wrap64 w) (wrap64 h) = some (decide ((0 ≤ (l.getD i z91).f0.f0 ∧ (l.getD i z91).f0.f0 < w) ∧ 0 ≤ (l.getD i z91).f0.f1 ∧ (l.getD i z91).f0.f1 < h)) := by
        rw [w64 (n := w) (by omega), w64 (n := h) (by omega)]
        exact spec_in _ _ _ _ ho.1.1 ho.1.2 hw hh
      refine Ev.step (fun k => by rw [spec_l01Ok.l0]) ?_
      simp only [rd0, rdp]
      refine Ev.iteT (by simp) (Ev.iteT (by omega) (Ev.iteT (by omega) (Ev.bindc hv ?_)))
    · obtain ⟨g1, g2, g3⟩ := hp
      have e : r = (i : Int) := f2.same (.inr ⟨i, hi, rfl, ⟨rfl, rfl⟩, g3⟩)
      refine Ev.iteT (decide_eq_true g1) (Ev.bindc hin (Ev.iteT (decide_eq_true g2) (Ev.bind f1 (Ev.iteT e ?_))))
      rw [w64 (by omega)]
      exact hs
    · by_cases g1 : VP (l.getD i z91)
      · by_cases g2 : (0 ≤ (l.getD i z91).f0.f0 ∧ (l.getD i z91).f0.f0 < w) ∧ 0 ≤ (l.getD i z91).f0.f1 ∧ (l.getD i z91).f0.f1 < h
        · refine Ev.iteT (decide_eq_true g1) (Ev.bindc hin (Ev.iteT (decide_eq_true g2) (Ev.bind f1 (Ev.iteF (fun e => hp ⟨g1, g2, ?_⟩) (Ev.now _)))))
          rcases f2 with ⟨e', _⟩ | ⟨j, _, e', _, f3⟩
          · omega
          · have : j = i := by omega
            exact this ▸ f3
        · exact Ev.iteT (decide_eq_true g1) (Ev.bindc hin (Ev.iteF (by simpa using g2) (Ev.now _)))
      · exact Ev.iteF (by simpa using g1) (Ev.now _)
  obtain ⟨s, k1, k2⟩ := key
  unfold spec_l01Ok.f
  simp only [rd0, in_same, in_some]
  rw [w64 (n := w) (by omega), w64 (n := h) (by omega)]
  by_cases h1 : 1 ≤ w ∧ w ≤ 24
  · by_cases h2 : 1 ≤ h ∧ h ≤ 24
    · by_cases h3 : (l.length : Int) > 200
      · refine ⟨false, Ev.iteT (by simp) (Ev.bindc rfl (Ev.iteT (by simpa using h1) (Ev.bindc rfl (Ev.iteT (by simpa using h2) ?_)))), ?_⟩
        · rw [decide_eq_true h3]; exact hj
        · simp only [Bool.false_eq_true, false_iff]; intro h; have := h.len; omega
      · refine ⟨s, Ev.iteT (by simp) (Ev.bindc rfl (Ev.iteT (by simpa using h1) (Ev.bindc rfl (Ev.iteT (by simpa using h2) (Ev.step (fun k => by rw [spec_l01Ok.j0]) (Ev.iteF (by simpa using h3) k1)))))), ?_⟩
        rw [k2]; exact ⟨fun h => ⟨h1, h2, by omega, h.1⟩, fun h => ⟨h.piece, trivial⟩⟩
    · refine ⟨false, Ev.iteT (by simp) (Ev.bindc rfl (Ev.iteT (by simpa using h1) (Ev.bindc rfl (Ev.iteF (by simpa using h2) hj)))), ?_⟩
      simp only [Bool.false_eq_true, false_iff]; intro h; have := h.high; omega
  · refine ⟨false, Ev.iteT (by simp) (Ev.bindc rfl (Ev.iteF (by simpa using h1) hj)), ?_⟩
    simp only [Bool.false_eq_true, false_iff]; intro h; have := h.wide; omega
/-- The cells of the first pieces, as the keys of a map. -/
def cells (l : List (S91)) (i : Nat) : List ((Int × Int) × Unit) := (l.take i).map fun p => ((p.f0.f0, p.f0.f1), ())
theorem cells_next (l : List (S91)) (i : Nat) (h : i < l.length) : cells l i ++ [(((l.getD i z91).f0.f0, (l.getD i z91).f0.f1), ())] = cells l (i + 1) := by
  unfold cells
  rw [List.take_succ_eq_append_getElem h, List.map_append, getD_at _ _ _ h]
  rfl
theorem cells_find (l : List (S91)) (i : Nat) (h : i ≤ l.length) (x y : Int) : (Go.Proofs.YtffnfpnajkgnaaaX.mfind (cells l i) x y).isSome = true ↔ ∃ j, j < i ∧ At l x y j := by
  unfold Go.Proofs.YtffnfpnajkgnaaaX.mfind cells
  rw [Option.isSome_map, List.find?_isSome]
  constructor
  · rintro ⟨p, hp, hq⟩
    obtain ⟨q, hq1, rfl⟩ := List.mem_map.1 hp
    obtain ⟨j, hj, e⟩ := List.mem_take_iff_getElem.1 hq1
    refine ⟨j, by omega, ?_⟩
    unfold At
    rw [getD_at _ _ _ (by omega), e]
    simp only [Bool.and_eq_true, beq_iff_eq] at hq
    exact ⟨hq.1.symm, hq.2.symm⟩
  · rintro ⟨j, hj, e1, e2⟩
    rw [getD_at _ _ _ (by omega)] at e1 e2
    refine ⟨((l[j].f0.f0, l[j].f0.f1), ()), List.mem_map.2 ⟨l[j], List.mem_take_iff_getElem.2 ⟨j, by omega, rfl⟩, rfl⟩, ?_⟩
    simp [e1, e2]
theorem impl_ok (w h : Int) (l : List (S91)) (hw : -128 ≤ w ∧ w ≤ 127) (hh : -128 ≤ h ∧ h ≤ 127) (hx : ∀ y ∈ l, ok91 y) (hl : l.length ≤ 1048576) :
    ∃ r, Ev (fun k => impl_ValidBoard.f k w h l) r ∧ (r = true ↔ BoardOk w h l) := by
  have hj : Ev (fun k => impl_ValidBoard.j0 k true w h l) false := Ev.step (f := fun _ => some false) (fun k => by simp [impl_ValidBoard.j0]) (Ev.now _)
  have key : ∃ s, Ev (fun k => impl_ValidBoard.l0 k l l.length 0 w h l []) s ∧ (s = true ↔ (∀ i : Nat, i < l.length → Good w h l i) ∧ True) := by
    refine ev_scanB (g := fun k i => impl_ValidBoard.l0 k l l.length i w h l (cells l i.toNat)) (r := true) (fun i => Good w h l i) (by simp) (fun _ => ?_) (fun i hi hp s hs => ?_) (fun i hi hp => ?_)
    · refine Ev.step (fun k => by rw [impl_ValidBoard.l0]) ?_
      exact Ev.iteF (by omega) (Ev.now _)
    all_goals
      have ho : ok91 (l.getD i z91) := getD_mem hx _ _ hi
      have hv := impl_valid ho
      have hc := cells_find l i (Nat.le_of_lt hi) (l.getD i z91).f0.f0 (l.getD i z91).f0.f1
      refine Ev.step (fun k => by rw [impl_ValidBoard.l0]) ?_
      simp only [rdp, Int.toNat_natCast]
      refine Ev.iteT (by omega) (Ev.iteT (by omega) (Ev.iteT (by omega) (Ev.bindc hv ?_)))
    · obtain ⟨g1, g2, g3⟩ := hp
      refine Ev.iteT (decide_eq_true g1) (Ev.bindc (impl_has w h l _ _) (Ev.iteT (decide_eq_true g2) (Ev.iteF (fun c => ?_) ?_)))
      · obtain ⟨j, j1, j2⟩ := hc.1 c
        exact g3 j j1 j2
      · rw [cells_next l i hi, w64 (by omega)]
        simpa using hs
    · by_cases g1 : VP (l.getD i z91)
      · by_cases g2 : (0 ≤ (l.getD i z91).f0.f0 ∧ (l.getD i z91).f0.f0 < w) ∧ 0 ≤ (l.getD i z91).f0.f1 ∧ (l.getD i z91).f0.f1 < h
        · refine Ev.iteT (decide_eq_true g1) (Ev.bindc (impl_has w h l _ _) (Ev.iteT (decide_eq_true g2) (Ev.iteT (hc.2 ?_) (Ev.now _))))
          apply Classical.byContradiction
          intro hno
          exact hp ⟨g1, g2, fun j hj c => hno ⟨j, hj, c⟩⟩
        · exact Ev.iteT (decide_eq_true g1) (Ev.bindc (impl_has w h l _ _) (Ev.iteF (by simpa using g2) (Ev.now _)))
      · exact Ev.iteF (by simpa using g1) (Ev.now _)
  obtain ⟨s, k1, k2⟩ := key
  unfold impl_ValidBoard.f
  simp only [in_some]
  rw [w64 (n := w) (by omega), w64 (n := h) (by omega)]
  by_cases h1 : 1 ≤ w ∧ w ≤ 24
  · by_cases h2 : 1 ≤ h ∧ h ≤ 24
    · by_cases h3 : (l.length : Int) > 200
      · refine ⟨false, Ev.bindc rfl (Ev.iteT (by simpa using h1) (Ev.bindc rfl (Ev.iteT (by simpa using h2) ?_))), ?_⟩
        · rw [decide_eq_true h3]; exact hj
        · simp only [Bool.false_eq_true, false_iff]; intro h; have := h.len; omega
      · refine ⟨s, Ev.bindc rfl (Ev.iteT (by simpa using h1) (Ev.bindc rfl (Ev.iteT (by simpa using h2) (Ev.step (fun k => by rw [impl_ValidBoard.j0]) (Ev.iteF (by simpa using h3) k1))))), ?_⟩
        rw [k2]; exact ⟨fun h => ⟨h1, h2, by omega, h.1⟩, fun h => ⟨h.piece, trivial⟩⟩
    · refine ⟨false, Ev.bindc rfl (Ev.iteT (by simpa using h1) (Ev.bindc rfl (Ev.iteF (by simpa using h2) hj))), ?_⟩
      simp only [Bool.false_eq_true, false_iff]; intro h; have := h.high; omega
  · refine ⟨false, Ev.bindc rfl (Ev.iteF (by simpa using h1) hj), ?_⟩
    simp only [Bool.false_eq_true, false_iff]; intro h; have := h.wide; omega
theorem both_ok (w h : Int) (l : List (S91)) (hw : -128 ≤ w ∧ w ≤ 127) (hh : -128 ≤ h ∧ h ≤ 127) (hx : ∀ y ∈ l, ok91 y) (hl : l.length ≤ 1048576) :
    ∃ r, Ev (fun k => spec_l01Ok.f k [(⟨w, h, l⟩ : S37)]) r ∧ Ev (fun k => impl_ValidBoard.f k w h l) r ∧ (r = true → BoardOk w h l) := by
  obtain ⟨r, h1, h2⟩ := spec_ok w h l hw hh hx hl
  obtain ⟨q, h3, h4⟩ := impl_ok w h l hw hh hx hl
  obtain rfl := bool_same h2 h4
  exact ⟨r, h1, h3, h2.1⟩

theorem rdc (x y : Int) : rd_T74 [(⟨x, y⟩ : S74)] 0 = ⟨x, y⟩ := id rfl
theorem impl_at1 (p : S91) (x y : Int) : impl_Board_at_1.f p.f0.f0 p.f0.f1 p.f1 p.f2 p.f3 [(⟨x, y⟩ : S74)] = some (p.f0.f0 == x && p.f0.f1 == y) := by
  unfold impl_Board_at_1.f
  simp only [rdc]
  exact if_pos (by simp)
theorem impl_at (w h : Int) (l : List (S91)) (x y : Int) (hl : l.length ≤ 1048576) : ∃ r, Ev (fun k => impl_Board_at.f k [(⟨w, h, l⟩ : S37)] x y) r ∧ Found l x y r := by
  unfold impl_Board_at.f slices_IndexFunc__impl_Board_at_1.f
  simp only [rd0]
  rcases found_first l x y with hh | ⟨j, h1, h2, h3⟩
  · refine ⟨-1, Ev.iteT (by simp) (Ev.bind (ev_loop2 (g := fun k i => slices_IndexFunc__impl_Board_at_1.l0 k l l.length i [(⟨x, y⟩ : S74)]) (fun i => (i : Int)) l.length ?_ fun i hi ih => ?_) (Ev.now _)), .inl ⟨rfl, hh⟩⟩
    · refine Ev.step (fun k => by rw [slices_IndexFunc__impl_Board_at_1.l0]) ?_
      exact Ev.iteF (by omega) (Ev.now _)
    · refine Ev.step (fun k => by rw [slices_IndexFunc__impl_Board_at_1.l0]) ?_
      simp only [rdp]
      refine Ev.iteT (by omega) (Ev.iteT (by omega) (Ev.iteT (by omega) (Ev.bindc (impl_at1 _ x y) (Ev.iteF (fun c => hh i hi ((at_cond l x y i).1 c)) ?_))))
      rw [w64 (by omega)]
      exact ih
  · refine ⟨(j : Int), Ev.iteT (by simp) (Ev.bind (ev_loop2 (g := fun k i => slices_IndexFunc__impl_Board_at_1.l0 k l l.length i [(⟨x, y⟩ : S74)]) (fun i => (i : Int)) j ?_ fun i hi ih => ?_) (Ev.now _)), .inr ⟨j, h1, rfl, h2, h3⟩⟩
    · refine Ev.step (fun k => by rw [slices_IndexFunc__impl_Board_at_1.l0]) ?_
      simp only [rdp]
      exact Ev.iteT (by omega) (Ev.iteT (by omega) (Ev.iteT (by omega) (Ev.bindc (impl_at1 _ x y) (Ev.iteT ((at_cond l x y j).2 h2) (Ev.now _)))))
    · refine Ev.step (fun k => by rw [slices_IndexFunc__impl_Board_at_1.l0]) ?_
      simp only [rdp]
      refine Ev.iteT (by omega) (Ev.iteT (by omega) (Ev.iteT (by omega) (Ev.bindc (impl_at1 _ x y) (Ev.iteF (fun c => h3 i hi ((at_cond l x y i).1 c)) ?_))))
      rw [w64 (by omega)]
      exact ih
theorem at_both (w h : Int) (l : List (S91)) (x y : Int) (hl : l.length ≤ 1048576) : ∃ r, Ev (fun k => spec_l01Find.f k [(⟨w, h, l⟩ : S37)] x y) r ∧ Ev (fun k => impl_Board_at.f k [(⟨w, h, l⟩ : S37)] x y) r ∧ Found l x y r := by
  obtain ⟨r, h1, h2⟩ := find_spec w h l x y hl
  obtain ⟨q, h3, h4⟩ := impl_at w h l x y hl
  obtain rfl := h2.same h4
  exact ⟨r, h1, h3, h2⟩

theorem idx_loopJ {g : Nat → Int → Option Int} (P : Nat → Prop) (n : Nat) (hend : Ev (fun k => g k (n : Int)) (-1)) (hyes : ∀ i : Nat, i < n → P i → Ev (fun k => g k (i : Int)) (i : Int)) (hno : ∀ i : Nat, i < n → ¬ P i → ∀ s, Ev (fun k => g k ((i + 1 : Nat) : Int)) s → Ev (fun k => g k (i : Int)) s) :
    ∃ r, Ev (fun k => g k 0) r ∧ (0 ≤ r ↔ ∃ i, i < n ∧ P i) := by
  have : DecidablePred fun i => ¬ P i := fun _ => Classical.propDecidable _
  rcases first_or_all (fun i => ¬ P i) n with h | ⟨j, h1, h2, h3⟩
  · refine ⟨-1, ev_loop2 (g := g) (fun i => (i : Int)) n hend (fun i hi ih => hno i hi (h i hi) _ ih), ⟨fun h' => by omega, ?_⟩⟩
    rintro ⟨i, hi, c⟩
    exact absurd c (h i hi)
  · exact ⟨(j : Int), ev_loop2 (g := g) (fun i => (i : Int)) j (hyes j h1 (Classical.not_not.1 h2)) (fun i hi ih => hno i (by omega) (h3 i hi) _ ih), ⟨fun _ => ⟨j, h1, Classical.not_not.1 h2⟩, fun _ => by omega⟩⟩
/-- A piece lies inside a board; a cell is taken. -/
def Ins (w h : Int) (l : List (S91)) (i : Nat) : Prop := (0 ≤ (l.getD i z91).f0.f0 ∧ (l.getD i z91).f0.f0 < w) ∧ 0 ≤ (l.getD i z91).f0.f1 ∧ (l.getD i z91).f0.f1 < h
def Took (m l : List (S91)) (i : Nat) : Prop := ∃ j, j < m.length ∧ At m (l.getD i z91).f0.f0 (l.getD i z91).f0.f1 j
theorem Found.nonneg {m l : List (S91)} {i : Nat} {r : Int} (h : Found m (l.getD i z91).f0.f0 (l.getD i z91).f0.f1 r) : 0 ≤ r ↔ Took m l i := by
  rcases h with ⟨rfl, h⟩ | ⟨j, h1, rfl, h2, h3⟩
  · refine ⟨fun h' => by omega, ?_⟩
    rintro ⟨j, a, b⟩
    exact absurd b (h j a)
  · exact ⟨fun _ => ⟨j, h1, h2⟩, fun _ => by omega⟩
theorem concat2 (a b : List (S91)) (ha : a.length ≤ 1000000) (hb : b.length ≤ 1000000) : Ev (fun k => impl_Piece_142.f k [a, b]) (a ++ b) := by
  have e0 : rd_L5 [a, b] 0 = a := rfl
  have e1 : rd_L5 [a, b] 1 = b := rfl
  have w1 : wrap64 ((0 : Int) + 1) = 1 := w64 (by omega)
  have w2 : wrap64 ((1 : Int) + 1) = 2 := w64 (by omega)
  have hl : (([a, b] : List (List (S91))).length : Int) = 2 := rfl
  have wa : wrap64 ((0 : Int) + (a.length : Int)) = a.length := by rw [w64 (by omega)]; omega
  have wb : wrap64 ((a.length : Int) + (b.length : Int)) = (a.length : Int) + (b.length : Int) := w64 (by omega)
  unfold impl_Piece_142.f
  rw [hl]
  refine Ev.step (fun k => by rw [impl_Piece_142.l0]) ?_
  rw [hl, e0, wa, w1]
  refine Ev.iteT (by omega) (Ev.iteT (by omega) (Ev.iteT (by omega) (Ev.iteF (by omega) ?_)))
  refine Ev.step (fun k => by rw [impl_Piece_142.l0]) ?_
  rw [hl, e1, wb, w2]
  refine Ev.iteT (by omega) (Ev.iteT (by omega) (Ev.iteT (by omega) (Ev.iteF (by omega) ?_)))
  refine Ev.step (fun k => by rw [impl_Piece_142.l0]) ?_
  refine Ev.iteF (by omega) (Ev.bindc (x := ([] : List (S91))) ?_ ?_)
  · unfold impl_Piece_178.f
    rw [if_pos (by omega), if_pos (by omega)]
  rw [hl]
  refine Ev.step (fun k => by rw [impl_Piece_142.l1]) ?_
  rw [hl, e0, w1]
  refine Ev.iteT (by omega) (Ev.iteT (by omega) (Ev.iteT (by omega) (Ev.iteT (by simp; omega) ?_)))
  refine Ev.step (fun k => by rw [impl_Piece_142.l1]) ?_
  rw [hl, e1, w2]
  refine Ev.iteT (by omega) (Ev.iteT (by omega) (Ev.iteT (by omega) (Ev.iteT (by simp; omega) ?_)))
  refine Ev.step (fun k => by rw [impl_Piece_142.l1]) ?_
  exact Ev.iteF (by omega) (Ev.now _)
theorem impl_outside (w h : Int) (m l : List (S91)) (hl : l.length ≤ 1048576) : ∃ r, Ev (fun k => slices_ContainsFunc__impl_JoinBoards_1.f k l [(⟨w, h, m⟩ : S37)]) r ∧ (r = true ↔ ¬ ∀ i, i < l.length → Ins w h l i) := by
  unfold slices_ContainsFunc__impl_JoinBoards_1.f slices_IndexFunc__impl_JoinBoards_1.f
  have h1 : ∀ i : Nat, impl_JoinBoards_1.f (rd_T91 l i).f0.f0 (rd_T91 l i).f0.f1 (rd_T91 l i).f1 (rd_T91 l i).f2 (rd_T91 l i).f3 [(⟨w, h, m⟩ : S37)] = some (!decide ((0 ≤ (l.getD i z91).f0.f0 ∧ (l.getD i z91).f0.f0 < w) ∧ 0 ≤ (l.getD i z91).f0.f1 ∧ (l.getD i z91).f0.f1 < h)) := fun i => by
    unfold impl_JoinBoards_1.f
    rw [impl_has, Option.bind_some]
    rfl
  have key : ∃ r, Ev (fun k => slices_IndexFunc__impl_JoinBoards_1.l0 k l l.length 0 [(⟨w, h, m⟩ : S37)]) r ∧ (0 ≤ r ↔ ∃ i, i < l.length ∧ ¬ Ins w h l i) := by
    refine idx_loopJ (g := fun k i => slices_IndexFunc__impl_JoinBoards_1.l0 k l l.length i [(⟨w, h, m⟩ : S37)]) (fun i => ¬ Ins w h l i) l.length ?_ (fun i hi hp => ?_) (fun i hi hp s hs => ?_)
    · exact Ev.step (fun k => by rw [slices_IndexFunc__impl_JoinBoards_1.l0]) (Ev.iteF (by omega) (Ev.now _))
    · refine Ev.step (fun k => by rw [slices_IndexFunc__impl_JoinBoards_1.l0]) (Ev.iteT (by omega) (Ev.iteT (by omega) (Ev.iteT (by omega) (Ev.bindc (h1 i) (Ev.iteT ?_ (Ev.now _))))))
      rw [Bool.not_eq_true', decide_eq_false_iff_not]; exact hp
    · refine Ev.step (fun k => by rw [slices_IndexFunc__impl_JoinBoards_1.l0]) (Ev.iteT (by omega) (Ev.iteT (by omega) (Ev.iteT (by omega) (Ev.bindc (h1 i) (Ev.iteF ?_ ?_)))))
      · rw [Bool.not_eq_true', decide_eq_false_iff_not]; exact hp
      · rw [w64 (by omega)]; exact hs
  obtain ⟨r, k1, k2⟩ := key
  refine ⟨_, Ev.bind k1 (Ev.now _), ?_⟩
  rw [decide_eq_true_iff, ge_iff_le, k2]
  exact ⟨fun ⟨i, a, b⟩ c => b (c i a), fun c => Classical.byContradiction fun hn => c fun i hi => Classical.byContradiction fun hp => hn ⟨i, hi, hp⟩⟩
theorem impl_taken (w h : Int) (m l : List (S91)) (hl : l.length ≤ 1048576) (hm : m.length ≤ 1048576) : ∃ r, Ev (fun k => slices_ContainsFunc__impl_JoinBoards_2.f k l [(⟨w, h, m⟩ : S37)]) r ∧ (r = true ↔ ¬ ∀ i, i < l.length → ¬ Took m l i) := by
  unfold slices_ContainsFunc__impl_JoinBoards_2.f slices_IndexFunc__impl_JoinBoards_2.f
  have key : ∃ r, Ev (fun k => slices_IndexFunc__impl_JoinBoards_2.l0 k l l.length 0 [(⟨w, h, m⟩ : S37)]) r ∧ (0 ≤ r ↔ ∃ i, i < l.length ∧ Took m l i) := by
    refine idx_loopJ (g := fun k i => slices_IndexFunc__impl_JoinBoards_2.l0 k l l.length i [(⟨w, h, m⟩ : S37)]) (fun i => Took m l i) l.length ?_ (fun i hi hp => ?_) (fun i hi hp s hs => ?_)
    · exact Ev.step (fun k => by rw [slices_IndexFunc__impl_JoinBoards_2.l0]) (Ev.iteF (by omega) (Ev.now _))
    all_goals
      obtain ⟨q, f1, f2⟩ := impl_at w h m (l.getD i z91).f0.f0 (l.getD i z91).f0.f1 hm
      have hq := f2.nonneg
      have h2 : Ev (fun k => impl_JoinBoards_2.f k (rd_T91 l i).f0.f0 (rd_T91 l i).f0.f1 (rd_T91 l i).f1 (rd_T91 l i).f2 (rd_T91 l i).f3 [(⟨w, h, m⟩ : S37)]) (decide (q ≥ 0)) := by
        unfold impl_JoinBoards_2.f
        exact Ev.bind f1 (Ev.now _)
      refine Ev.step (fun k => by rw [slices_IndexFunc__impl_JoinBoards_2.l0]) (Ev.iteT (by omega) (Ev.iteT (by omega) (Ev.iteT (by omega) (Ev.bind h2 ?_))))
    · exact Ev.iteT (decide_eq_true (hq.2 hp)) (Ev.now _)
    · refine Ev.iteF (by rw [decide_eq_true_iff]; exact fun c => hp (hq.1 c)) ?_
      rw [w64 (by omega)]; exact hs
  obtain ⟨r, k1, k2⟩ := key
  refine ⟨_, Ev.bind k1 (Ev.now _), ?_⟩
  rw [decide_eq_true_iff, ge_iff_le, k2]
  exact ⟨fun ⟨i, a, b⟩ c => c i a b, fun c => Classical.byContradiction fun hn => c fun i hi hp => hn ⟨i, hi, hp⟩⟩
theorem core (x0_0 : Int) (x0_1 : Int) (x0_2 : List (S91)) (x1_0 : Int) (x1_1 : Int) (x1_2 : List (S91)) (ox0_0 : (-128 ≤ x0_0 ∧ x0_0 ≤ 127)) (ox0_1 : (-128 ≤ x0_1 ∧ x0_1 ≤ 127)) (ox0_2 : ∀ y ∈ x0_2, ok91 y) (nx0_2 : x0_2.length ≤ 1048576) (ox1_0 : (-128 ≤ x1_0 ∧ x1_0 ≤ 127)) (ox1_1 : (-128 ≤ x1_1 ∧ x1_1 ≤ 127)) (ox1_2 : ∀ y ∈ x1_2, ok91 y) (nx1_2 : x1_2.length ≤ 1048576) : ∃ r : Int × Int × (List (S91)) × Int, Ev (fun k => spec_JoinBoards.f k x0_0 x0_1 x0_2 x1_0 x1_1 x1_2) r ∧ Ev (fun k => impl_JoinBoards.f k x0_0 x0_1 x0_2 x1_0 x1_1 x1_2) r ∧ r.2.2.1.length ≤ 1099511627776 := by
  obtain ⟨r, h1, h2, h3⟩ := both_ok x0_0 x0_1 x0_2 ox0_0 ox0_1 ox0_2 nx0_2
  obtain ⟨s, g1, g2, g3⟩ := both_ok x1_0 x1_1 x1_2 ox1_0 ox1_1 ox1_2 nx1_2
  have a1 : Ev (fun k => spec_JoinBoards.j0 k true x0_0 x0_1 x0_2 x1_0 x1_1 x1_2) (0, 0, [], 1) := Ev.step (fun k => by rw [spec_JoinBoards.j0]) (Ev.iteT rfl (Ev.now _))
  have a2 : Ev (fun k => impl_JoinBoards.j0 k true x0_0 x0_1 x0_2 x1_0 x1_1 x1_2) (0, 0, [], 1) := Ev.step (fun k => by rw [impl_JoinBoards.j0]) (Ev.iteT rfl (Ev.now _))
  unfold spec_JoinBoards.f impl_JoinBoards.f
  cases r
  · exact ⟨(0, 0, [], 1), Ev.bind h1 (Ev.iteF (by simp) a1), Ev.bind h2 (Ev.iteF (by simp) a2), by simp⟩
  cases s
  · exact ⟨(0, 0, [], 1), Ev.bind h1 (Ev.iteT rfl (Ev.bind g1 a1)), Ev.bind h2 (Ev.iteT rfl (Ev.bind g2 a2)), by simp⟩
  have hlen := (h3 rfl).len
  have glen := (g3 rfl).len
  suffices key : ∃ r : Int × Int × List (S91) × Int, Ev (fun k => spec_JoinBoards.l0 k 0 x0_0 x0_1 x0_2 x1_0 x1_1 x1_2) r ∧ Ev (fun k => impl_JoinBoards.j0 k false x0_0 x0_1 x0_2 x1_0 x1_1 x1_2) r ∧ r.2.2.1.length ≤ 1099511627776 by
    obtain ⟨r, k1, k2, k3⟩ := key
    exact ⟨r, Ev.bind h1 (Ev.iteT rfl (Ev.bind g1 (Ev.step (fun k => by rw [spec_JoinBoards.j0]) (Ev.iteF (by simp) k1)))), Ev.bind h2 (Ev.iteT rfl (Ev.bind g2 k2)), k3⟩
  obtain ⟨p, p1, p2⟩ := impl_outside x0_0 x0_1 x0_2 x1_2 nx1_2
  obtain ⟨q, q1, q2⟩ := impl_taken x0_0 x0_1 x0_2 x1_2 nx1_2 nx0_2
  have hin : ∀ i : Nat, i < x1_2.length → spec_l01In.f (x1_2.getD i z91).f0.f0 (x1_2.getD i z91).f0.f1 (wrap64 x0_0) (wrap64 x0_1) = some (decide ((0 ≤ (x1_2.getD i z91).f0.f0 ∧ (x1_2.getD i z91).f0.f0 < x0_0) ∧ 0 ≤ (x1_2.getD i z91).f0.f1 ∧ (x1_2.getD i z91).f0.f1 < x0_1)) := fun i hi => by
    have ho : ok91 (x1_2.getD i z91) := getD_mem ox1_2 _ _ hi
    rw [w64 (n := x0_0) (by omega), w64 (n := x0_1) (by omega)]
    exact spec_in _ _ _ _ ho.1.1 ho.1.2 ox0_0 ox0_1
  -- the spec's two loops, over whatever comes behind them
  have S0 : ∀ r, ((∀ i, i < x1_2.length → Ins x0_0 x0_1 x1_2 i) → Ev (fun k => spec_JoinBoards.l1 k 0 x0_0 x0_1 x0_2 x1_0 x1_1 x1_2) r) → ((∀ i, i < x1_2.length → Ins x0_0 x0_1 x1_2 i) → Ev (fun k => spec_JoinBoards.l0 k 0 x0_0 x0_1 x0_2 x1_0 x1_1 x1_2) r) ∧ ((¬ ∀ i, i < x1_2.length → Ins x0_0 x0_1 x1_2 i) → Ev (fun k => spec_JoinBoards.l0 k 0 x0_0 x0_1 x0_2 x1_0 x1_1 x1_2) (0, 0, [], 2)) := fun r hr => by
    refine ev_scan (g := fun k i => spec_JoinBoards.l0 k i x0_0 x0_1 x0_2 x1_0 x1_1 x1_2) (fun i => Ins x0_0 x0_1 x1_2 i) (fun ha => ?_) (fun i hi hp s hs => ?_) (fun i hi hp => ?_)
    · exact Ev.step (fun k => by rw [spec_JoinBoards.l0]) (Ev.iteF (by omega) (hr ha))
    · refine Ev.step (fun k => by rw [spec_JoinBoards.l0]) ?_
      simp only [rdp]
      refine Ev.iteT (by omega) (Ev.iteT (by omega) (Ev.bindc (hin i hi) (Ev.iteT (by simpa [Ins] using hp) ?_)))
      rw [w64 (by omega)]; exact hs
    · refine Ev.step (fun k => by rw [spec_JoinBoards.l0]) ?_
      simp only [rdp]
      exact Ev.iteT (by omega) (Ev.iteT (by omega) (Ev.bindc (hin i hi) (Ev.iteF (by simpa [Ins] using hp) (Ev.now _))))
  have S1 : ∀ r, ((∀ i, i < x1_2.length → ¬ Took x0_2 x1_2 i) → Ev (fun k => spec_JoinBoards.l1 k x1_2.length x0_0 x0_1 x0_2 x1_0 x1_1 x1_2) r) → ((∀ i, i < x1_2.length → ¬ Took x0_2 x1_2 i) → Ev (fun k => spec_JoinBoards.l1 k 0 x0_0 x0_1 x0_2 x1_0 x1_1 x1_2) r) ∧ ((¬ ∀ i, i < x1_2.length → ¬ Took x0_2 x1_2 i) → Ev (fun k => spec_JoinBoards.l1 k 0 x0_0 x0_1 x0_2 x1_0 x1_1 x1_2) (0, 0, [], 4)) := fun r hr => by
    refine ev_scan (g := fun k i => spec_JoinBoards.l1 k i x0_0 x0_1 x0_2 x1_0 x1_1 x1_2) (fun i => ¬ Took x0_2 x1_2 i) hr (fun i hi hp s hs => ?_) (fun i hi hp => ?_)
    all_goals
      obtain ⟨c, f1, f2⟩ := find_spec x0_0 x0_1 x0_2 (x1_2.getD i z91).f0.f0 (x1_2.getD i z91).f0.f1 nx0_2
      have hq := f2.nonneg
    · refine Ev.step (fun k => by rw [spec_JoinBoards.l1]) ?_
      simp only [rdp]
      refine Ev.iteT (by omega) (Ev.iteT (by omega) (Ev.bind f1 (Ev.iteF (fun c => hp (hq.1 c)) ?_)))
      rw [w64 (by omega)]; exact hs
    · refine Ev.step (fun k => by rw [spec_JoinBoards.l1]) ?_
      simp only [rdp]
      exact Ev.iteT (by omega) (Ev.iteT (by omega) (Ev.bind f1 (Ev.iteT (hq.2 (Classical.not_not.1 hp)) (Ev.now _))))
  have st2 : ∀ {r}, Ev _ r → Ev (fun k => impl_JoinBoards.j0 k false x0_0 x0_1 x0_2 x1_0 x1_1 x1_2) r := fun h => Ev.step (fun k => by rw [impl_JoinBoards.j0]) (Ev.iteF (by simp) (Ev.bind p1 h))
  by_cases hi : ∀ i, i < x1_2.length → Ins x0_0 x0_1 x1_2 i
  rotate_left
  · have e : p = true := p2.2 hi
    exact ⟨(0, 0, [], 2), (S0 (0, 0, [], 2) (fun c => absurd c hi)).2 hi, st2 (Ev.iteT e (Ev.now _)), by simp⟩
  have ep : ¬ p = true := fun c => p2.1 c hi
  by_cases ht : ∀ i, i < x1_2.length → ¬ Took x0_2 x1_2 i
  rotate_left
  · have e : q = true := q2.2 ht
    exact ⟨(0, 0, [], 4), (S0 (0, 0, [], 4) (fun _ => (S1 (0, 0, [], 4) (fun c => absurd c ht)).2 ht)).1 hi, st2 (Ev.iteF ep (Ev.bind q1 (Ev.iteT e (Ev.now _)))), by simp⟩
  have eq : ¬ q = true := fun c => q2.1 c ht
  have wl : wrap64 ((x0_2.length : Int) + (x1_2.length : Int)) = (x0_2.length : Int) + (x1_2.length : Int) := w64 (by omega)
  have last : ∀ {r}, Ev _ r → Ev (fun k => spec_JoinBoards.l1 k x1_2.length x0_0 x0_1 x0_2 x1_0 x1_1 x1_2) r := fun h => Ev.step (fun k => by rw [spec_JoinBoards.l1]) (Ev.iteF (by omega) h)
  by_cases cl : (x0_2.length : Int) + (x1_2.length : Int) > 200
  · exact ⟨(0, 0, [], 3), (S0 _ (fun _ => (S1 _ (fun _ => last (Ev.iteT (by rw [wl]; exact cl) (Ev.now _)))).1 ht)).1 hi, st2 (Ev.iteF ep (Ev.bind q1 (Ev.iteF eq (Ev.iteT (by rw [wl]; exact cl) (Ev.now _))))), by simp⟩
  have hc1 : spec_l01Copy.f [(⟨x0_0, x0_1, x0_2⟩ : S37)] = some (x0_0, x0_1, x0_2) := by
    unfold spec_l01Copy.f
    simp only [rd0]
    rw [if_pos (by simp), Option.bind_some, if_pos (by simp; omega)]
    rfl
  have hc3 : ∀ l, impl_Board_with.f [(⟨x0_0, x0_1, x0_2⟩ : S37)] l = some (x0_0, x0_1) := fun l => by
    unfold impl_Board_with.f
    simp only [rd0]
    rw [if_pos (by simp)]
  exact ⟨(x0_0, x0_1, x0_2 ++ x1_2, 0), (S0 _ (fun _ => (S1 _ (fun _ => last (Ev.iteF (by rw [wl]; exact cl) (Ev.bindc hc1 (Ev.iteT (by dsimp only; omega) (Ev.now _)))))).1 ht)).1 hi,
    st2 (Ev.iteF ep (Ev.bind q1 (Ev.iteF eq (Ev.iteF (by rw [wl]; exact cl) (Ev.bind (concat2 x0_2 x1_2 (by omega) (by omega)) (Ev.bindc (hc3 _) (Ev.now _))))))), by simp; omega⟩

theorem FnExactJoinBoards : QFnExactJoinBoards.Pure := by
  rintro ⟨x0_0, x0_1, x0_2⟩ ⟨x1_0, x1_1, x1_2⟩ ⟨wx0_0, wx0_1, wx0_2⟩ ⟨wx1_0, wx1_1, wx1_2⟩
  have ox0_0 : (-128 ≤ x0_0 ∧ x0_0 ≤ 127) := i8b wx0_0
  have ox0_1 : (-128 ≤ x0_1 ∧ x0_1 ≤ 127) := i8b wx0_1
  obtain ⟨wx0_2, mx0_2⟩ := wx0_2
  have mx0_2 : x0_2.length ≤ 9223372036854775807 := mx0_2
  have ox1_0 : (-128 ≤ x1_0 ∧ x1_0 ≤ 127) := i8b wx1_0
  have ox1_1 : (-128 ≤ x1_1 ∧ x1_1 ≤ 127) := i8b wx1_1
  obtain ⟨wx1_2, mx1_2⟩ := wx1_2
  have mx1_2 : x1_2.length ≤ 9223372036854775807 := mx1_2
  refine Ev.rounds (r := true) ?_
  unfold laws_FnExactJoinBoards.f
  obtain ⟨r_0, e_0, c_0⟩ := szBoard x0_0 x0_1 x0_2 (1048576) (by omega) mx0_2
  refine Ev.bindc e_0 ?_
  rcases c_0 with c_0 | ⟨rfl, c_0⟩
  · exact Ev.iteT c_0 (Ev.now _)
  refine Ev.iteF (by omega) ?_
  obtain ⟨r_1, e_1, c_1⟩ := szBoard x1_0 x1_1 x1_2 (1048576 - x0_2.length) (by omega) mx1_2
  refine Ev.bindc e_1 ?_
  rcases c_1 with c_1 | ⟨rfl, c_1⟩
  · exact Ev.iteT c_1 (Ev.now _)
  refine Ev.iteF (by omega) ?_
  refine Ev.bind (toBoard _ _ _ (by first | omega | ((try dsimp only); (try simp only [List.length_map, List.length_range, List.length_nil]); omega) | (simp; omega))) ?_
  try dsimp only
  refine Ev.bind (toBoard _ _ _ (by first | omega | ((try dsimp only); (try simp only [List.length_map, List.length_range, List.length_nil]); omega) | (simp; omega))) ?_
  try dsimp only
  obtain ⟨⟨r0, r1, r2, r3⟩, hs, hi, hb⟩ := core x0_0 x0_1 (x0_2.map cv88_91) x1_0 x1_1 (x1_2.map cv88_91) ox0_0 ox0_1 (fun y hy => by obtain ⟨z, hz, rfl⟩ := List.mem_map.1 hy; exact okof88_91 (wx0_2 z hz)) (by first | omega | ((try dsimp only); (try simp only [List.length_map, List.length_range, List.length_nil]); omega) | (simp; omega)) ox1_0 ox1_1 (fun y hy => by obtain ⟨z, hz, rfl⟩ := List.mem_map.1 hy; exact okof88_91 (wx1_2 z hz)) (by first | omega | ((try dsimp only); (try simp only [List.length_map, List.length_range, List.length_nil]); omega) | (simp; omega))
  have b2 := hb
  try dsimp only at b2
  refine Ev.bind hs ?_
  try dsimp only
  refine Ev.bind (toBoard _ _ _ (by first | omega | ((try dsimp only); (try simp only [List.length_map, List.length_range, List.length_nil]); omega) | (simp; omega))) ?_
  try dsimp only
  refine Ev.bind (toBoard _ _ _ (by first | omega | ((try dsimp only); (try simp only [List.length_map, List.length_range, List.length_nil]); omega) | (simp; omega))) ?_
  try dsimp only
  refine Ev.bind hi ?_
  try dsimp only
  refine Ev.bind (eqBoard _ _ _ (by first | omega | ((try dsimp only); (try simp only [List.length_map, List.length_range, List.length_nil]); omega) | (simp; omega))) ?_
  try dsimp only
  refine Ev.iteT (by first | rfl | (first | omega | ((try dsimp only); (try simp only [List.length_map, List.length_range, List.length_nil]); omega) | (simp; omega))) ?_
  try dsimp only
  refine Ev.iteT (by first | rfl | (first | omega | ((try dsimp only); (try simp only [List.length_map, List.length_range, List.length_nil]); omega) | (simp; omega))) ?_
  try dsimp only
  refine Ev.bind (toBoard _ _ _ (by first | omega | ((try dsimp only); (try simp only [List.length_map, List.length_range, List.length_nil]); omega) | (simp; omega))) ?_
  try dsimp only
  refine Ev.bind (eqBoard _ _ _ (by first | omega | ((try dsimp only); (try simp only [List.length_map, List.length_range, List.length_nil]); omega) | (simp; omega))) ?_
  try dsimp only
  refine Ev.iteT (by first | rfl | (first | omega | ((try dsimp only); (try simp only [List.length_map, List.length_range, List.length_nil]); omega) | (simp; omega))) ?_
  try dsimp only
  refine Ev.bind (toBoard _ _ _ (by first | omega | ((try dsimp only); (try simp only [List.length_map, List.length_range, List.length_nil]); omega) | (simp; omega))) ?_
  try dsimp only
  refine Ev.bind (eqBoard _ _ _ (by first | omega | ((try dsimp only); (try simp only [List.length_map, List.length_range, List.length_nil]); omega) | (simp; omega))) ?_
  try dsimp only
  refine Ev.iteT (by first | rfl | (first | omega | ((try dsimp only); (try simp only [List.length_map, List.length_range, List.length_nil]); omega) | (simp; omega))) ?_
  try dsimp only
  refine Ev.bind (markBoard _ _ _ _ (by first | omega | ((try dsimp only); (try simp only [List.length_map, List.length_range, List.length_nil]); omega) | (simp; omega)) (by first | omega | ((try dsimp only); (try simp only [List.length_map, List.length_range, List.length_nil]); omega) | (simp; omega))) ?_
  try dsimp only
  refine Ev.bind (markBoard _ _ _ _ (by first | omega | ((try dsimp only); (try simp only [List.length_map, List.length_range, List.length_nil]); omega) | (simp; omega)) (by first | omega | ((try dsimp only); (try simp only [List.length_map, List.length_range, List.length_nil]); omega) | (simp; omega))) ?_
  try dsimp only
  refine Ev.iteF (by first | (simp; done) | (first | omega | ((try dsimp only); (try simp only [List.length_map, List.length_range, List.length_nil]); omega) | (simp; omega))) ?_
  try dsimp only
  refine Ev.bind (eqBoard _ _ _ (by first | omega | ((try dsimp only); (try simp only [List.length_map, List.length_range, List.length_nil]); omega) | (simp; omega))) ?_
  try dsimp only
  refine Ev.iteT (by first | rfl | (first | omega | ((try dsimp only); (try simp only [List.length_map, List.length_range, List.length_nil]); omega) | (simp; omega))) ?_
  try dsimp only
  refine Ev.bind (markBoard _ _ _ _ (by first | omega | ((try dsimp only); (try simp only [List.length_map, List.length_range, List.length_nil]); omega) | (simp; omega)) (by first | omega | ((try dsimp only); (try simp only [List.length_map, List.length_range, List.length_nil]); omega) | (simp; omega))) ?_
  try dsimp only
  refine Ev.bind (heldBoard _ _ _ _ (by first | omega | ((try dsimp only); (try simp only [List.length_map, List.length_range, List.length_nil]); omega) | (simp; omega)) (by first | omega | ((try dsimp only); (try simp only [List.length_map, List.length_range, List.length_nil]); omega) | (simp; omega))) ?_
  try dsimp only
  refine Ev.iteF (by first | (simp; done) | (first | omega | ((try dsimp only); (try simp only [List.length_map, List.length_range, List.length_nil]); omega) | (simp; omega))) ?_
  try dsimp only
  refine Ev.iteT (by first | rfl | (first | omega | ((try dsimp only); (try simp only [List.length_map, List.length_range, List.length_nil]); omega) | (simp; omega))) ?_
  try dsimp only
  refine Ev.bind (toBoard _ _ _ (by first | omega | ((try dsimp only); (try simp only [List.length_map, List.length_range, List.length_nil]); omega) | (simp; omega))) ?_
  try dsimp only
  refine Ev.bind (toBoard _ _ _ (by first | omega | ((try dsimp only); (try simp only [List.length_map, List.length_range, List.length_nil]); omega) | (simp; omega))) ?_
  try dsimp only
  refine Ev.bind hi ?_
  try dsimp only
  refine Ev.bind (eqBoard _ _ _ (by first | omega | ((try dsimp only); (try simp only [List.length_map, List.length_range, List.length_nil]); omega) | (simp; omega))) ?_
  try dsimp only
  refine Ev.iteT (by first | rfl | (first | omega | ((try dsimp only); (try simp only [List.length_map, List.length_range, List.length_nil]); omega) | (simp; omega))) ?_
  try dsimp only
  refine Ev.iteT (by first | rfl | (first | omega | ((try dsimp only); (try simp only [List.length_map, List.length_range, List.length_nil]); omega) | (simp; omega))) ?_
  try dsimp only
  refine Ev.bind (heldBoard _ _ _ _ (by first | omega | ((try dsimp only); (try simp only [List.length_map, List.length_range, List.length_nil]); omega) | (simp; omega)) (by first | omega | ((try dsimp only); (try simp only [List.length_map, List.length_range, List.length_nil]); omega) | (simp; omega))) ?_
  try dsimp only
  refine Ev.iteF (by first | (simp; done) | (first | omega | ((try dsimp only); (try simp only [List.length_map, List.length_range, List.length_nil]); omega) | (simp; omega))) ?_
  try dsimp only
  refine Ev.iteT (by first | rfl | (first | omega | ((try dsimp only); (try simp only [List.length_map, List.length_range, List.length_nil]); omega) | (simp; omega))) ?_
  try dsimp only
  exact Ev.now _
end Go.Proofs.Ytffnfpnajkgnaaa.Pure
