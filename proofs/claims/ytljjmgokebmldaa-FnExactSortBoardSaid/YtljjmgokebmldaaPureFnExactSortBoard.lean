/- The pure side of the law FnExactSortBoard: for all arguments its Lean function answers true. No condition beside the arguments' kinds. -/
import Derived.Test.YtljjmgokebmldaaQFnExactSortBoard
import Derived.Test.YtljjmgokebmldaaTFnExactSortBoarda
namespace Go.Proofs.Ytljjmgokebmldaa.Pure
open Go.RowKit Go.Proofs.Ytljjmgokebmldaa.PFnExactSortBoard Go.Proofs.YtljjmgokebmldaaW.PrintWords Go.Proofs.YtljjmgokebmldaaW.PrintLast Go.Proofs.YtljjmgokebmldaaX Go.Proofs.Ytljjmgokebmldaa.QFnExactSortBoard Go.Proofs.YtljjmgokebmldaaB
set_option linter.unusedVariables false
set_option linter.unusedSimpArgs false

theorem szPieceS (l0 : List (S59)) (a_ : Int) (ha : 0 ≤ a_ ∧ a_ ≤ 1048576) (hl0 : l0.length ≤ 9223372036854775807) : ∃ r, laws_szPieceS.f l0 a_ = some r ∧ (r < 0 ∨ (r = a_ - l0.length ∧ 0 ≤ r)) := by
  unfold laws_szPieceS.f
  rw [w64 (n := a_ - l0.length) (by omega)]
  by_cases h : a_ - (l0.length : Int) < 0
  · exact ⟨-1, by rw [if_pos h], .inl (by omega)⟩
  · exact ⟨_, by rw [if_neg h], .inr ⟨rfl, by omega⟩⟩
theorem szBoard (a0_0 : Int) (a0_1 : Int) (l0_2 : List (S59)) (a_ : Int) (ha : 0 ≤ a_ ∧ a_ ≤ 1048576) (hl0_2 : l0_2.length ≤ 9223372036854775807) : ∃ r, laws_szBoard.f a0_0 a0_1 l0_2 a_ = some r ∧ (r < 0 ∨ (r = a_ - l0_2.length ∧ 0 ≤ r)) := by
  unfold laws_szBoard.f
  obtain ⟨r0, e0, c0⟩ := szPieceS l0_2 (a_) (by omega) hl0_2
  rw [e0]
  simp only [Option.bind_some]
  rcases c0 with c0 | ⟨rfl, c0⟩
  · exact ⟨-1, by rw [if_pos c0], .inl (by omega)⟩
  rw [if_neg (by omega)]
  exact ⟨_, rfl, .inr ⟨rfl, by omega⟩⟩
theorem toCell (a0_0 : Int) (a0_1 : Int)  : Ev (fun k => laws_toCell.f k a0_0 a0_1) (a0_0, a0_1) := by
  refine ⟨3, fun k hk => ?_⟩
  obtain ⟨m, rfl⟩ : ∃ m, k = m + 3 := ⟨k - 3, by omega⟩
  simp [laws_toCell.f, laws_toCell.l0, wrap64]
theorem toPiece (a0_0 : Int) (a0_1 : Int) (a0_2 : Int) (a0_3 : Int) (a0_4 : Int)  : Ev (fun k => laws_toPiece.f k a0_0 a0_1 a0_2 a0_3 a0_4) (a0_0, a0_1, a0_2, a0_3, a0_4) := by
  unfold laws_toPiece.f
  exact (Ev.bind (toCell _ _ ) (Ev.now _))
def cv40_41 (x : S40) : S41 := ⟨x.f0, x.f1⟩
def cv59_43 (x : S59) : S43 := ⟨cv40_41 x.f0, x.f1, x.f2, x.f3⟩
theorem toPieceS (l0 : List (S59)) (hl0 : l0.length ≤ 1099511627776) : Ev (fun k => laws_toPieceS.f k l0) (l0.map cv59_43) := by
  suffices main : Ev (fun k => laws_toPieceS.f k l0) (l0.map cv59_43) by exact main
  unfold laws_toPieceS.f
  refine Ev.iteT (by omega) (Ev.iteT (by omega) ?_)
  rw [Int.toNat_natCast]
  refine ev_fill2 (g := fun k x i => laws_toPieceS.l0 k l0 x i) cv59_43 l0 _ (Ev.step (f := fun _ => some _) (fun k => by simp [laws_toPieceS.l0]) (Ev.now _)) fun i h x hx ih => ?_
  have eg : l0.getD i z59 = l0[i] := getD_at _ _ _ h
  refine Ev.step (fun k => by rw [laws_toPieceS.l0]) (Ev.iteT (by omega) (Ev.iteT (by omega) ?_))
  simp only [rd_T59, Int.toNat_natCast, eg]
  refine Ev.bind (toPiece _ _ _ _ _ ) ?_
  refine Ev.iteT (by omega) ?_
  rw [w64 (by omega)]
  exact ih
theorem toBoard (a0_0 : Int) (a0_1 : Int) (l0_2 : List (S59)) (hl0_2 : l0_2.length ≤ 1099511627776) : Ev (fun k => laws_toBoard.f k a0_0 a0_1 l0_2) (a0_0, a0_1, (l0_2.map cv59_43)) := by
  unfold laws_toBoard.f
  exact (Ev.bind (toPieceS _ (by first | omega | ((try dsimp only); (try simp only [List.length_map, List.length_range, List.length_nil]); omega) | (simp; omega))) (Ev.now _))
theorem eqCell (a0_0 : Int) (a0_1 : Int)  : Ev (fun k => laws_eqCell.f k a0_0 a0_1 a0_0 a0_1) true := by
  refine ⟨3, fun k hk => ?_⟩
  obtain ⟨m, rfl⟩ : ∃ m, k = m + 3 := ⟨k - 3, by omega⟩
  simp [laws_eqCell.f, laws_eqCell.l0, wrap64]
theorem eqPiece (a0_0 : Int) (a0_1 : Int) (a0_2 : Int) (a0_3 : Int) (a0_4 : Int)  : Ev (fun k => laws_eqPiece.f k a0_0 a0_1 a0_2 a0_3 a0_4 a0_0 a0_1 a0_2 a0_3 a0_4) true := by
  unfold laws_eqPiece.f
  exact (Ev.bind (eqCell _ _ ) (Ev.iteT rfl (Ev.iteT rfl (Ev.iteT rfl (Ev.iteT rfl (Ev.now _))))))
theorem eqPieceS (l0 : List (S43)) (hl0 : l0.length ≤ 1099511627776) : Ev (fun k => laws_eqPieceS.f k l0 l0) true := by
  unfold laws_eqPieceS.f
  refine Ev.iteT rfl ?_
  refine ev_loop2 (g := fun k i => laws_eqPieceS.l0 k l0 l0 i) (fun i => (i : Int)) l0.length (Ev.step (f := fun _ => some _) (fun k => by simp [laws_eqPieceS.l0]) (Ev.now _)) fun i h ih => ?_
  refine Ev.step (fun k => by rw [laws_eqPieceS.l0]) (Ev.iteT (by omega) (Ev.iteT (by omega) (Ev.iteT (by omega) ?_)))
  refine Ev.bind (eqPiece _ _ _ _ _ ) (Ev.iteT rfl ?_)
  rw [w64 (by omega)]
  exact ih
theorem eqBoard (a0_0 : Int) (a0_1 : Int) (l0_2 : List (S43)) (hl0_2 : l0_2.length ≤ 1099511627776) : Ev (fun k => laws_eqBoard.f k a0_0 a0_1 l0_2 a0_0 a0_1 l0_2) true := by
  unfold laws_eqBoard.f
  exact (Ev.iteT rfl (Ev.iteT rfl (Ev.bind (eqPieceS _ (by first | omega | ((try dsimp only); (try simp only [List.length_map, List.length_range, List.length_nil]); omega) | (simp; omega))) (Ev.iteT rfl (Ev.now _)))))
def mk_PieceS (k : Int) : S43 := ⟨⟨IntKind.i8.wrap k, IntKind.i8.wrap (k + 1)⟩, IntKind.i8.wrap (k + 2), IntKind.i8.wrap (k + 3), IntKind.i8.wrap (k + 4)⟩
theorem markPieceS (l0 : List (S43)) (k_ : Int) (hl0 : l0.length ≤ 1099511627776) (hk : 0 ≤ k_ ∧ (k_ + 5 * (l0.length : Int)) ≤ 4611686018427387904) : Ev (fun k => laws_markPieceS.f k l0 k_) ((k_ + 5 * (l0.length : Int)), ((List.range l0.length).map fun (j : Nat) => mk_PieceS (k_ + 5 * (j : Int)))) := by
  unfold laws_markPieceS.f
  refine ev_mark (g := fun k x q i => laws_markPieceS.l0 k x q i) mk_PieceS 5 l0 k_ (Ev.step (f := fun _ => some _) (fun k => by simp [laws_markPieceS.l0]) (Ev.now _)) fun i x h hx ih => ?_
  obtain ⟨q, hq⟩ : ∃ q, q = k_ + 5 * (i : Int) := ⟨_, rfl⟩
  rw [← hq] at ih ⊢
  have hqb : 0 ≤ q ∧ q + 5 ≤ 4611686018427387904 := by omega
  rw [show k_ + 5 * ((i + 1 : Nat) : Int) = q + 5 by omega] at ih
  have hi1 : ((i : Int) < (x.length : Int)) = True := eq_true (by omega)
  have hi0 : (0 ≤ (i : Int)) = True := eq_true (by omega)
  have hix : i < x.length := by omega
  have hs : ∀ a, (x.set i a).getD i z43 = a := fun a => getD_set x i z43 a hix
  obtain ⟨e0, e1, e2, e3, e4, ei⟩ : wrap64 (q + 1) = q + 1 ∧ wrap64 ((q + 1) + 1) = q + 2 ∧ wrap64 ((q + 2) + 1) = q + 3 ∧ wrap64 ((q + 3) + 1) = q + 4 ∧ wrap64 ((q + 4) + 1) = q + 5 ∧ wrap64 ((i : Int) + 1) = ((i + 1 : Nat) : Int) := ⟨wq (by omega) (by omega), wq (by omega) (by omega), wq (by omega) (by omega), wq (by omega) (by omega), wq (by omega) (by omega), wq (by omega) (by omega)⟩
  have s0 : ∀ k, laws_markPieceS.l0 (k + 1) x q (i : Int) = laws_markPieceS.l1 k x q (i : Int) 0 := fun k => by
    rw [laws_markPieceS.l0]
    simp only [hi1, if_true]
  have s1 : ∀ k a, laws_markPieceS.l1 (k + 1) (x.set i a) q (i : Int) 0 = laws_markPieceS.l1 k (x.set i ⟨⟨IntKind.i8.wrap q, a.f0.f1⟩, a.f1, a.f2, a.f3⟩) (q + 1) (i : Int) 1 := fun k a => by
    rw [laws_markPieceS.l1]
    simp only [e0, e1, e2, e3, e4, ei, (by decide +kernel : wrap64 (0 + 1) = 1), (by decide +kernel : wrap64 (1 + 1) = 2), show (((0 : Int) < 2) = True) from eq_true (by decide), show (((1 : Int) < 2) = True) from eq_true (by decide), show (((2 : Int) < 2) = False) from eq_false (by decide), show (((0 : Int) = 0) = True) from eq_true (by decide), show (((1 : Int) = 0) = False) from eq_false (by decide), show (((1 : Int) = 1) = True) from eq_true (by decide), hi1, hi0, if_true, if_false, Option.bind_some, Int.toNat_natCast, List.length_set, List.set_set, rd_T43, hs]
  have s2 : ∀ k a, laws_markPieceS.l1 (k + 1) (x.set i a) (q + 1) (i : Int) 1 = laws_markPieceS.l1 k (x.set i ⟨⟨a.f0.f0, IntKind.i8.wrap (q + 1)⟩, a.f1, a.f2, a.f3⟩) (q + 2) (i : Int) 2 := fun k a => by
    rw [laws_markPieceS.l1]
    simp only [e0, e1, e2, e3, e4, ei, (by decide +kernel : wrap64 (0 + 1) = 1), (by decide +kernel : wrap64 (1 + 1) = 2), show (((0 : Int) < 2) = True) from eq_true (by decide), show (((1 : Int) < 2) = True) from eq_true (by decide), show (((2 : Int) < 2) = False) from eq_false (by decide), show (((0 : Int) = 0) = True) from eq_true (by decide), show (((1 : Int) = 0) = False) from eq_false (by decide), show (((1 : Int) = 1) = True) from eq_true (by decide), hi1, hi0, if_true, if_false, Option.bind_some, Int.toNat_natCast, List.length_set, List.set_set, rd_T43, hs]
  have sf : ∀ k a, laws_markPieceS.l1 (k + 1) (x.set i a) (q + 2) (i : Int) 2 = laws_markPieceS.l0 k (x.set i ⟨a.f0, IntKind.i8.wrap (q + 2), IntKind.i8.wrap (q + 3), IntKind.i8.wrap (q + 4)⟩) (q + 5) ((i + 1 : Nat) : Int) := fun k a => by
    rw [laws_markPieceS.l1]
    simp only [e0, e1, e2, e3, e4, ei, (by decide +kernel : wrap64 (0 + 1) = 1), (by decide +kernel : wrap64 (1 + 1) = 2), show (((0 : Int) < 2) = True) from eq_true (by decide), show (((1 : Int) < 2) = True) from eq_true (by decide), show (((2 : Int) < 2) = False) from eq_false (by decide), show (((0 : Int) = 0) = True) from eq_true (by decide), show (((1 : Int) = 0) = False) from eq_false (by decide), show (((1 : Int) = 1) = True) from eq_true (by decide), hi1, hi0, if_true, if_false, Option.bind_some, Int.toNat_natCast, List.length_set, List.set_set, rd_T43, hs]
  have st : ∀ k, laws_markPieceS.l0 (k + 4) x q (i : Int) = laws_markPieceS.l0 k (x.set i (mk_PieceS q)) (q + 5) ((i + 1 : Nat) : Int) := fun k => by
    rw [s0]
    have h1 := s1 (k + 2) (x.getD i z43)
    rw [set_getD x i z43 hix] at h1
    rw [h1, s2, sf]
    rfl
  exact Ev.steps 4 st ih
theorem markBoard (a0_0 : Int) (a0_1 : Int) (l0_2 : List (S43)) (k_ : Int) (hl0_2 : l0_2.length ≤ 1099511627776) (hk : 0 ≤ k_ ∧ k_ + 5 * (l0_2.length : Int) ≤ 4611686018427387904) : Ev (fun k => laws_markBoard.f k a0_0 a0_1 l0_2 k_) (k_ + 5 * (l0_2.length : Int), ((List.range l0_2.length).map fun (j : Nat) => mk_PieceS (k_ + 5 * (j : Int)))) := by
  unfold laws_markBoard.f
  exact Ev.bind (markPieceS _ _ (by omega) (by omega)) (Ev.now _)
theorem heldPieceS (n : Nat) (k_ : Int) (hn : n ≤ 1099511627776) (hk : 0 ≤ k_ ∧ k_ + 5 * (n : Int) ≤ 4611686018427387904) : Ev (fun k => laws_heldPieceS.f k ((List.range n).map fun (j : Nat) => mk_PieceS (k_ + 5 * (j : Int))) k_) (k_ + 5 * (n : Int)) := by
  unfold laws_heldPieceS.f
  obtain ⟨M, hM⟩ : ∃ M, M = ((List.range n).map fun (j : Nat) => mk_PieceS (k_ + 5 * (j : Int))) := ⟨_, rfl⟩
  rw [← hM]
  have hl : M.length = n := by rw [hM]; simp
  have hv : ∀ i, i < n → M.getD i z43 = mk_PieceS (k_ + 5 * (i : Int)) := fun i h => by rw [hM]; exact mark_at _ _ _ _ _ _ h
  clear hM
  have h0 := ev_loop2 (g := fun k (s : Int × Int) => laws_heldPieceS.l0 k M s.1 s.2) (fun i => (k_ + 5 * (i : Int), (i : Int))) n (r := k_ + 5 * (n : Int)) (Ev.step (f := fun _ => some _) (fun k => by simp [laws_heldPieceS.l0, hl]) (Ev.now _)) fun i h ih => ?_
  · simpa using h0
  dsimp only at ih ⊢
  have hs := hv i h
  obtain ⟨q, hq⟩ : ∃ q, q = k_ + 5 * (i : Int) := ⟨_, rfl⟩
  rw [← hq] at hs ⊢
  rw [show k_ + 5 * ((i + 1 : Nat) : Int) = q + 5 by omega] at ih
  have hqb : 0 ≤ q ∧ q + 5 ≤ 4611686018427387904 := by omega
  have hi1 : ((i : Int) < (M.length : Int)) = True := eq_true (by omega)
  have hi0 : (0 ≤ (i : Int)) = True := eq_true (by omega)
  obtain ⟨e0, e1, e2, e3, e4, ei⟩ : wrap64 (q + 1) = q + 1 ∧ wrap64 ((q + 1) + 1) = q + 2 ∧ wrap64 ((q + 2) + 1) = q + 3 ∧ wrap64 ((q + 3) + 1) = q + 4 ∧ wrap64 ((q + 4) + 1) = q + 5 ∧ wrap64 ((i : Int) + 1) = ((i + 1 : Nat) : Int) := ⟨wq (by omega) (by omega), wq (by omega) (by omega), wq (by omega) (by omega), wq (by omega) (by omega), wq (by omega) (by omega), wq (by omega) (by omega)⟩
  have s0 : ∀ k, laws_heldPieceS.l0 (k + 1) M q (i : Int) = laws_heldPieceS.l1 k M q (i : Int) 0 := fun k => by
    rw [laws_heldPieceS.l0]
    simp only [hi1, if_true]
  have s1 : ∀ k, laws_heldPieceS.l1 (k + 1) M q (i : Int) 0 = laws_heldPieceS.l1 k M (q + 1) (i : Int) 1 := fun k => by
    rw [laws_heldPieceS.l1]
    simp only [e0, e1, e2, e3, e4, ei, (by decide +kernel : wrap64 (0 + 1) = 1), (by decide +kernel : wrap64 (1 + 1) = 2), show (((0 : Int) < 2) = True) from eq_true (by decide), show (((1 : Int) < 2) = True) from eq_true (by decide), show (((2 : Int) < 2) = False) from eq_false (by decide), show (((0 : Int) = 0) = True) from eq_true (by decide), show (((1 : Int) = 0) = False) from eq_false (by decide), show (((1 : Int) = 1) = True) from eq_true (by decide), hi1, hi0, if_true, if_false, Option.bind_some, Int.toNat_natCast, List.length_set, List.set_set, rd_T43, hs, mk_PieceS]
  have s2 : ∀ k, laws_heldPieceS.l1 (k + 1) M (q + 1) (i : Int) 1 = laws_heldPieceS.l1 k M (q + 2) (i : Int) 2 := fun k => by
    rw [laws_heldPieceS.l1]
    simp only [e0, e1, e2, e3, e4, ei, (by decide +kernel : wrap64 (0 + 1) = 1), (by decide +kernel : wrap64 (1 + 1) = 2), show (((0 : Int) < 2) = True) from eq_true (by decide), show (((1 : Int) < 2) = True) from eq_true (by decide), show (((2 : Int) < 2) = False) from eq_false (by decide), show (((0 : Int) = 0) = True) from eq_true (by decide), show (((1 : Int) = 0) = False) from eq_false (by decide), show (((1 : Int) = 1) = True) from eq_true (by decide), hi1, hi0, if_true, if_false, Option.bind_some, Int.toNat_natCast, List.length_set, List.set_set, rd_T43, hs, mk_PieceS]
  have sf : ∀ k, laws_heldPieceS.l1 (k + 1) M (q + 2) (i : Int) 2 = laws_heldPieceS.l0 k M (q + 5) ((i + 1 : Nat) : Int) := fun k => by
    rw [laws_heldPieceS.l1]
    simp only [e0, e1, e2, e3, e4, ei, (by decide +kernel : wrap64 (0 + 1) = 1), (by decide +kernel : wrap64 (1 + 1) = 2), show (((0 : Int) < 2) = True) from eq_true (by decide), show (((1 : Int) < 2) = True) from eq_true (by decide), show (((2 : Int) < 2) = False) from eq_false (by decide), show (((0 : Int) = 0) = True) from eq_true (by decide), show (((1 : Int) = 0) = False) from eq_false (by decide), show (((1 : Int) = 1) = True) from eq_true (by decide), hi1, hi0, if_true, if_false, Option.bind_some, Int.toNat_natCast, List.length_set, List.set_set, rd_T43, hs, mk_PieceS]
  have st : ∀ k, laws_heldPieceS.l0 (k + 4) M q (i : Int) = laws_heldPieceS.l0 k M (q + 5) ((i + 1 : Nat) : Int) := fun k => by
    rw [s0, s1, s2, sf]
  exact Ev.steps 4 st ih
theorem heldBoard (a0_0 : Int) (a0_1 : Int) (nl0_2 : Nat) (k_ : Int) (hl0_2 : nl0_2 ≤ 1099511627776) (hk : 0 ≤ k_ ∧ k_ + 5 * (nl0_2 : Int) ≤ 4611686018427387904) : Ev (fun k => laws_heldBoard.f k a0_0 a0_1 ((List.range nl0_2).map fun (j : Nat) => mk_PieceS (k_ + 5 * (j : Int))) k_) (k_ + 5 * (nl0_2 : Int)) := by
  unfold laws_heldBoard.f
  exact Ev.bind (heldPieceS _ _ (by omega) (by omega)) (Ev.iteF (by omega) (Ev.now _))
def ok41 (x : S41) : Prop := (-128 ≤ x.f0 ∧ x.f0 ≤ 127) ∧ (-128 ≤ x.f1 ∧ x.f1 ≤ 127)
def ok43 (x : S43) : Prop := ok41 x.f0 ∧ (-128 ≤ x.f1 ∧ x.f1 ≤ 127) ∧ (-128 ≤ x.f2 ∧ x.f2 ≤ 127) ∧ (-128 ≤ x.f3 ∧ x.f3 ≤ 127)
theorem okof40_41 {x : S40} (h : wf40 x) : ok41 (cv40_41 x) := by
  obtain ⟨h0, h1⟩ := h
  exact ⟨(i8b h0), (i8b h1)⟩
theorem okof59_43 {x : S59} (h : wf59 x) : ok43 (cv59_43 x) := by
  obtain ⟨h0, h1, h2, h3⟩ := h
  exact ⟨(okof40_41 h0), (i8b h1), (i8b h2), (i8b h3)⟩
theorem in_same : spec_l00In.f = impl_in.f := rfl
theorem in_some (a b c : Int) : impl_in.f a b c = some (decide (b ≤ a ∧ a ≤ c)) := by
  unfold impl_in.f
  by_cases h : b ≤ a <;> simp [h]

theorem rd0 (a b : Int) (l : List (S43)) : rd_T29 [(⟨a, b, l⟩ : S29)] 0 = ⟨a, b, l⟩ := id rfl
theorem rdp (l : List (S43)) (i : Nat) : rd_T43 l (i : Int) = l.getD i z43 := id rfl
def VP (p : S43) : Prop := (0 ≤ p.f1 ∧ p.f1 ≤ 5) ∧ (0 ≤ p.f2 ∧ p.f2 ≤ 3) ∧ (1 ≤ p.f3 ∧ p.f3 ≤ 9) ∧ (0 ≤ p.f0.f0 ∧ p.f0.f0 ≤ 23) ∧ (0 ≤ p.f0.f1 ∧ p.f0.f1 ≤ 23)
instance (p : S43) : Decidable (VP p) := by unfold VP; infer_instance
theorem valid_dec (a b c d e : Int) (ha : -128 ≤ a ∧ a ≤ 127) (hb : -128 ≤ b ∧ b ≤ 127) (hc : -128 ≤ c ∧ c ≤ 127) (hd : -128 ≤ d ∧ d ≤ 127) (he : -128 ≤ e ∧ e ≤ 127) : impl_ValidPiece.f a b c d e = some (decide (VP ⟨⟨a, b⟩, c, d, e⟩)) := by
  unfold impl_ValidPiece.f impl_Cell_placed.f
  simp only [in_some, Option.bind_some]
  rw [w64 (n := a) (by omega), w64 (n := b) (by omega), w64 (n := c) (by omega), w64 (n := d) (by omega), w64 (n := e) (by omega)]
  by_cases h1 : 0 ≤ c ∧ c ≤ 5 <;> by_cases h2 : 0 ≤ d ∧ d ≤ 3 <;> by_cases h3 : 1 ≤ e ∧ e ≤ 9 <;> by_cases h4 : 0 ≤ a ∧ a ≤ 23 <;> simp [VP, h1, h2, h3, h4]
theorem impl_valid {p : S43} (hp : ok43 p) : impl_ValidPiece.f p.f0.f0 p.f0.f1 p.f1 p.f2 p.f3 = some (decide (VP p)) := by
  obtain ⟨⟨a, b⟩, c, d, e⟩ := p
  obtain ⟨⟨h0, h1⟩, h2, h3, h4⟩ := hp
  exact valid_dec a b c d e h0 h1 h2 h3 h4
theorem spec_valid {p : S43} (hp : ok43 p) : spec_l01Piece.f [p] = some (decide (VP p)) := by
  rw [← impl_valid hp]
  obtain ⟨⟨a, b⟩, c, d, e⟩ := p
  unfold spec_l01Piece.f impl_ValidPiece.f impl_Cell_placed.f spec_l01In.f
  simp [in_same, in_some, rd_T43, wrap64]
theorem spec_in (a b w h : Int) (ha : -128 ≤ a ∧ a ≤ 127) (hb : -128 ≤ b ∧ b ≤ 127) (hw : -128 ≤ w ∧ w ≤ 127) (hh : -128 ≤ h ∧ h ≤ 127) : spec_l01In.f a b w h = some (decide ((0 ≤ a ∧ a < w) ∧ 0 ≤ b ∧ b < h)) := by
  unfold spec_l01In.f
  simp only [in_same, in_some, Option.bind_some]
  rw [w64 (n := a) (by omega), w64 (n := b) (by omega), w64 (n := w - 1) (by omega), w64 (n := h - 1) (by omega)]
  have e1 : (0 ≤ a ∧ a ≤ w - 1) ↔ (0 ≤ a ∧ a < w) := by omega
  have e2 : (0 ≤ b ∧ b ≤ h - 1) ↔ (0 ≤ b ∧ b < h) := by omega
  simp only [e1, e2]
  by_cases h1 : 0 ≤ a ∧ a < w <;> simp [h1]
theorem impl_has (w h : Int) (l : List (S43)) (a b : Int) : impl_Board_has.f [(⟨w, h, l⟩ : S29)] a b = some (decide ((0 ≤ a ∧ a < w) ∧ 0 ≤ b ∧ b < h)) := by
  unfold impl_Board_has.f
  simp only [rd0]
  by_cases h1 : 0 ≤ a <;> by_cases h2 : a < w <;> by_cases h3 : 0 ≤ b <;> simp [h1, h2, h3]
/-- A piece stands in a cell. -/
def At (l : List (S43)) (x y : Int) (i : Nat) : Prop := (l.getD i z43).f0.f0 = x ∧ (l.getD i z43).f0.f1 = y
def Found (l : List (S43)) (x y r : Int) : Prop := (r = -1 ∧ ∀ i : Nat, i < l.length → ¬ At l x y i) ∨ ∃ j : Nat, j < l.length ∧ r = (j : Int) ∧ At l x y j ∧ ∀ i : Nat, i < j → ¬ At l x y i
theorem Found.same {l : List (S43)} {x y r q : Int} (h : Found l x y r) (k : Found l x y q) : r = q := by
  rcases h with ⟨rfl, h⟩ | ⟨j, h1, rfl, h2, h3⟩ <;> rcases k with ⟨rfl, k⟩ | ⟨i, k1, rfl, k2, k3⟩
  · rfl
  · exact absurd k2 (h i k1)
  · exact absurd h2 (k j h1)
  · rcases Nat.lt_trichotomy i j with c | c | c
    · exact absurd k2 (h3 i c)
    · rw [c]
    · exact absurd h2 (k3 j c)
theorem Found.range {l : List (S43)} {x y r : Int} (h : Found l x y r) : -1 ≤ r ∧ r < l.length := by
  rcases h with ⟨rfl, h⟩ | ⟨j, h1, rfl, h2, h3⟩ <;> omega
theorem found_first (l : List (S43)) (x y : Int) : (∀ i : Nat, i < l.length → ¬ At l x y i) ∨ ∃ j : Nat, j < l.length ∧ At l x y j ∧ ∀ i : Nat, i < j → ¬ At l x y i := by
  have : DecidablePred fun i => ¬ At l x y i := fun _ => Classical.propDecidable _
  rcases first_or_all (fun i => ¬ At l x y i) l.length with h | ⟨j, h1, h2, h3⟩
  · exact .inl h
  · exact .inr ⟨j, h1, Classical.not_not.1 h2, h3⟩
theorem at_cond (l : List (S43)) (x y : Int) (i : Nat) : (((l.getD i z43).f0.f0 == x && (l.getD i z43).f0.f1 == y) = true) ↔ At l x y i := by simp [At]
theorem find_spec (w h : Int) (l : List (S43)) (x y : Int) (hl : l.length ≤ 1048576) : ∃ r, Ev (fun k => spec_l01Find.f k [(⟨w, h, l⟩ : S29)] x y) r ∧ Found l x y r := by
  unfold spec_l01Find.f
  rcases found_first l x y with hh | ⟨j, h1, h2, h3⟩
  · refine ⟨-1, ev_loop2 (g := fun k i => spec_l01Find.l0 k [(⟨w, h, l⟩ : S29)] i x y) (fun i => (i : Int)) l.length ?_ fun i hi ih => ?_, .inl ⟨rfl, hh⟩⟩
    · refine Ev.step (fun k => by rw [spec_l01Find.l0]) ?_
      simp only [rd0]
      exact Ev.iteT (by simp) (Ev.iteF (by omega) (Ev.now _))
    · refine Ev.step (fun k => by rw [spec_l01Find.l0]) ?_
      simp only [rd0, rdp]
      refine Ev.iteT (by simp) (Ev.iteT (by omega) (Ev.iteT (by omega) (Ev.iteF (fun c => hh i hi ((at_cond l x y i).1 c)) ?_)))
      rw [w64 (by omega)]
      exact ih
  · refine ⟨(j : Int), ev_loop2 (g := fun k i => spec_l01Find.l0 k [(⟨w, h, l⟩ : S29)] i x y) (fun i => (i : Int)) j ?_ fun i hi ih => ?_, .inr ⟨j, h1, rfl, h2, h3⟩⟩
    · refine Ev.step (fun k => by rw [spec_l01Find.l0]) ?_
      simp only [rd0, rdp]
      exact Ev.iteT (by simp) (Ev.iteT (by omega) (Ev.iteT (by omega) (Ev.iteT ((at_cond l x y j).2 h2) (Ev.now _))))
    · refine Ev.step (fun k => by rw [spec_l01Find.l0]) ?_
      simp only [rd0, rdp]
      refine Ev.iteT (by simp) (Ev.iteT (by omega) (Ev.iteT (by omega) (Ev.iteF (fun c => h3 i hi ((at_cond l x y i).1 c)) ?_)))
      rw [w64 (by omega)]
      exact ih
/-- What is right of the piece at a place. -/
def Good (w h : Int) (l : List (S43)) (i : Nat) : Prop := VP (l.getD i z43) ∧ ((0 ≤ (l.getD i z43).f0.f0 ∧ (l.getD i z43).f0.f0 < w) ∧ 0 ≤ (l.getD i z43).f0.f1 ∧ (l.getD i z43).f0.f1 < h) ∧ ∀ j, j < i → ¬ At l (l.getD i z43).f0.f0 (l.getD i z43).f0.f1 j
structure BoardOk (w h : Int) (l : List (S43)) : Prop where
  wide : 1 ≤ w ∧ w ≤ 24
  high : 1 ≤ h ∧ h ≤ 24
  len : l.length ≤ 200
  piece : ∀ i : Nat, i < l.length → Good w h l i
theorem spec_ok (w h : Int) (l : List (S43)) (hw : -128 ≤ w ∧ w ≤ 127) (hh : -128 ≤ h ∧ h ≤ 127) (hx : ∀ y ∈ l, ok43 y) (hl : l.length ≤ 1048576) :
    ∃ r, Ev (fun k => spec_l01Ok.f k [(⟨w, h, l⟩ : S29)]) r ∧ (r = true ↔ BoardOk w h l) := by
  have hj : Ev (fun k => spec_l01Ok.j0 k [(⟨w, h, l⟩ : S29)] true) false := Ev.step (f := fun _ => some false) (fun k => by simp [spec_l01Ok.j0]) (Ev.now _)
  have key : ∃ s, Ev (fun k => spec_l01Ok.l0 k [(⟨w, h, l⟩ : S29)] 0) s ∧ (s = true ↔ (∀ i : Nat, i < l.length → Good w h l i) ∧ True) := by
    refine ev_scanB (g := fun k i => spec_l01Ok.l0 k [(⟨w, h, l⟩ : S29)] i) (r := true) (fun i => Good w h l i) (by simp) (fun _ => ?_) (fun i hi hp s hs => ?_) (fun i hi hp => ?_)
    · refine Ev.step (fun k => by rw [spec_l01Ok.l0]) ?_
      simp only [rd0]
      exact Ev.iteT (by simp) (Ev.iteF (by omega) (Ev.now _))
    all_goals
      have ho : ok43 (l.getD i z43) := getD_mem hx _ _ hi
      have hv := spec_valid ho
      obtain ⟨r, f1, f2⟩ := find_spec w h l (l.getD i z43).f0.f0 (l.getD i z43).f0.f1 hl
      have hin : spec_l01In.f (l.getD i z43).f0.f0 (l.getD i z43).f0.f1 (wrap64 w) (wrap64 h) = some (decide ((0 ≤ (l.getD i z43).f0.f0 ∧ (l.getD i z43).f0.f0 < w) ∧ 0 ≤ (l.getD i z43).f0.f1 ∧ (l.getD i z43).f0.f1 < h)) := by
        rw [w64 (n := w) (by omega), w64 (n := h) (by omega)]
        exact spec_in _ _ _ _ ho.1.1 ho.1.2 hw hh
      refine Ev.step (fun k => by rw [spec_l01Ok.l0]) ?_
      simp only [rd0, rdp]
      refine Ev.iteT (by simp) (Ev.iteT (by omega) (Ev.iteT (by omega) (Ev.bindc hv ?_)))
    · obtain ⟨g1, g2, g3⟩ := hp
      have e : r = (i : Int) := f2.same (.inr ⟨i, hi, rfl, ⟨rfl, rfl⟩, g3⟩)
      refine Ev.iteT (decide_eq_true g1) (Ev.bindc hin (Ev.iteT (decide_eq_true g2) (Ev.bind f1 (Ev.iteT e ?_))))
      rw [w64 (by omega)]
      exact hs
    · by_cases g1 : VP (l.getD i z43)
      · by_cases g2 : (0 ≤ (l.getD i z43).f0.f0 ∧ (l.getD i z43).f0.f0 < w) ∧ 0 ≤ (l.getD i z43).f0.f1 ∧ (l.getD i z43).f0.f1 < h
        · refine Ev.iteT (decide_eq_true g1) (Ev.bindc hin (Ev.iteT (decide_eq_true g2) (Ev.bind f1 (Ev.iteF (fun e => hp ⟨g1, g2, ?_⟩) (Ev.now _)))))
          rcases f2 with ⟨e', _⟩ | ⟨j, _, e', _, f3⟩
          · omega
          · have : j = i := by omega
            exact this ▸ f3
        · exact Ev.iteT (decide_eq_true g1) (Ev.bindc hin (Ev.iteF (by simpa using g2) (Ev.now _)))
      · exact Ev.iteF (by simpa using g1) (Ev.now _)
  obtain ⟨s, k1, k2⟩ := key
  unfold spec_l01Ok.f
  simp only [rd0, in_same, in_some]
  rw [w64 (n := w) (by omega), w64 (n := h) (by omega)]
  by_cases h1 : 1 ≤ w ∧ w ≤ 24
  · by_cases h2 : 1 ≤ h ∧ h ≤ 24
    · by_cases h3 : (l.length : Int) > 200
      · refine ⟨false, Ev.iteT (by simp) (Ev.bindc rfl (Ev.iteT (by simpa using h1) (Ev.bindc rfl (Ev.iteT (by simpa using h2) ?_)))), ?_⟩
        · rw [decide_eq_true h3]; exact hj
        · simp only [Bool.false_eq_true, false_iff]; intro h; have := h.len; omega
      · refine ⟨s, Ev.iteT (by simp) (Ev.bindc rfl (Ev.iteT (by simpa using h1) (Ev.bindc rfl (Ev.iteT (by simpa using h2) (Ev.step (fun k => by rw [spec_l01Ok.j0]) (Ev.iteF (by simpa using h3) k1)))))), ?_⟩
        rw [k2]; exact ⟨fun h => ⟨h1, h2, by omega, h.1⟩, fun h => ⟨h.piece, trivial⟩⟩
    · refine ⟨false, Ev.iteT (by simp) (Ev.bindc rfl (Ev.iteT (by simpa using h1) (Ev.bindc rfl (Ev.iteF (by simpa using h2) hj)))), ?_⟩
      simp only [Bool.false_eq_true, false_iff]; intro h; have := h.high; omega
  · refine ⟨false, Ev.iteT (by simp) (Ev.bindc rfl (Ev.iteF (by simpa using h1) hj)), ?_⟩
    simp only [Bool.false_eq_true, false_iff]; intro h; have := h.wide; omega
/-- The cells of the first pieces, as the keys of a map. -/
def cells (l : List (S43)) (i : Nat) : List ((Int × Int) × Unit) := (l.take i).map fun p => ((p.f0.f0, p.f0.f1), ())
theorem cells_next (l : List (S43)) (i : Nat) (h : i < l.length) : cells l i ++ [(((l.getD i z43).f0.f0, (l.getD i z43).f0.f1), ())] = cells l (i + 1) := by
  unfold cells
  rw [List.take_succ_eq_append_getElem h, List.map_append, getD_at _ _ _ h]
  rfl
theorem cells_find (l : List (S43)) (i : Nat) (h : i ≤ l.length) (x y : Int) : (Go.Proofs.YtljjmgokebmldaaX.mfind (cells l i) x y).isSome = true ↔ ∃ j, j < i ∧ At l x y j := by
  unfold Go.Proofs.YtljjmgokebmldaaX.mfind cells
  rw [Option.isSome_map, List.find?_isSome]
  constructor
  · rintro ⟨p, hp, hq⟩
    obtain ⟨q, hq1, rfl⟩ := List.mem_map.1 hp
    obtain ⟨j, hj, e⟩ := List.mem_take_iff_getElem.1 hq1
    refine ⟨j, by omega, ?_⟩
    unfold At
    rw [getD_at _ _ _ (by omega), e]
    simp only [Bool.and_eq_true, beq_iff_eq] at hq
    exact ⟨hq.1.symm, hq.2.symm⟩
  · rintro ⟨j, hj, e1, e2⟩
    rw [getD_at _ _ _ (by omega)] at e1 e2
    refine ⟨((l[j].f0.f0, l[j].f0.f1), ()), List.mem_map.2 ⟨l[j], List.mem_take_iff_getElem.2 ⟨j, by omega, rfl⟩, rfl⟩, ?_⟩
    simp [e1, e2]
theorem impl_ok (w h : Int) (l : List (S43)) (hw : -128 ≤ w ∧ w ≤ 127) (hh : -128 ≤ h ∧ h ≤ 127) (hx : ∀ y ∈ l, ok43 y) (hl : l.length ≤ 1048576) :
    ∃ r, Ev (fun k => impl_ValidBoard.f k w h l) r ∧ (r = true ↔ BoardOk w h l) := by
  have hj : Ev (fun k => impl_ValidBoard.j0 k true w h l) false := Ev.step (f := fun _ => some false) (fun k => by simp [impl_ValidBoard.j0]) (Ev.now _)
  have key : ∃ s, Ev (fun k => impl_ValidBoard.l0 k l l.length 0 w h l []) s ∧ (s = true ↔ (∀ i : Nat, i < l.length → Good w h l i) ∧ True) := by
    refine ev_scanB (g := fun k i => impl_ValidBoard.l0 k l l.length i w h l (cells l i.toNat)) (r := true) (fun i => Good w h l i) (by simp) (fun _ => ?_) (fun i hi hp s hs => ?_) (fun i hi hp => ?_)
    · refine Ev.step (fun k => by rw [impl_ValidBoard.l0]) ?_
      exact Ev.iteF (by omega) (Ev.now _)
    all_goals
      have ho : ok43 (l.getD i z43) := getD_mem hx _ _ hi
      have hv := impl_valid ho
      have hc := cells_find l i (Nat.le_of_lt hi) (l.getD i z43).f0.f0 (l.getD i z43).f0.f1
      refine Ev.step (fun k => by rw [impl_ValidBoard.l0]) ?_
      simp only [rdp, Int.toNat_natCast]
      refine Ev.iteT (by omega) (Ev.iteT (by omega) (Ev.iteT (by omega) (Ev.bindc hv ?_)))
    · obtain ⟨g1, g2, g3⟩ := hp
      refine Ev.iteT (decide_eq_true g1) (Ev.bindc (impl_has w h l _ _) (Ev.iteT (decide_eq_true g2) (Ev.iteF (fun c => ?_) ?_)))
      · obtain ⟨j, j1, j2⟩ := hc.1 c
        exact g3 j j1 j2
      · rw [cells_next l i hi, w64 (by omega)]
        simpa using hs
    · by_cases g1 : VP (l.getD i z43)
      · by_cases g2 : (0 ≤ (l.getD i z43).f0.f0 ∧ (l.getD i z43).f0.f0 < w) ∧ 0 ≤ (l.getD i z43).f0.f1 ∧ (l.getD i z43).f0.f1 < h
        · refine Ev.iteT (decide_eq_true g1) (Ev.bindc (impl_has w h l _ _) (Ev.iteT (decide_eq_true g2) (Ev.iteT (hc.2 ?_) (Ev.now _))))
          apply Classical.byContradiction
          intro hno
          exact hp ⟨g1, g2, fun j hj c => hno ⟨j, hj, c⟩⟩
        · exact Ev.iteT (decide_eq_true g1) (Ev.bindc (impl_has w h l _ _) (Ev.iteF (by simpa using g2) (Ev.now _)))
      · exact Ev.iteF (by simpa using g1) (Ev.now _)
  obtain ⟨s, k1, k2⟩ := key
  unfold impl_ValidBoard.f
  simp only [in_some]
  rw [w64 (n := w) (by omega), w64 (n := h) (by omega)]
  by_cases h1 : 1 ≤ w ∧ w ≤ 24
  · by_cases h2 : 1 ≤ h ∧ h ≤ 24
    · by_cases h3 : (l.length : Int) > 200
      · refine ⟨false, Ev.bindc rfl (Ev.iteT (by simpa using h1) (Ev.bindc rfl (Ev.iteT (by simpa using h2) ?_))), ?_⟩
        · rw [decide_eq_true h3]; exact hj
        · simp only [Bool.false_eq_true, false_iff]; intro h; have := h.len; omega
      · refine ⟨s, Ev.bindc rfl (Ev.iteT (by simpa using h1) (Ev.bindc rfl (Ev.iteT (by simpa using h2) (Ev.step (fun k => by rw [impl_ValidBoard.j0]) (Ev.iteF (by simpa using h3) k1))))), ?_⟩
        rw [k2]; exact ⟨fun h => ⟨h1, h2, by omega, h.1⟩, fun h => ⟨h.piece, trivial⟩⟩
    · refine ⟨false, Ev.bindc rfl (Ev.iteT (by simpa using h1) (Ev.bindc rfl (Ev.iteF (by simpa using h2) hj))), ?_⟩
      simp only [Bool.false_eq_true, false_iff]; intro h; have := h.high; omega
  · refine ⟨false, Ev.bindc rfl (Ev.iteF (by simpa using h1) hj), ?_⟩
    simp only [Bool.false_eq_true, false_iff]; intro h; have := h.wide; omega
theorem both_ok (w h : Int) (l : List (S43)) (hw : -128 ≤ w ∧ w ≤ 127) (hh : -128 ≤ h ∧ h ≤ 127) (hx : ∀ y ∈ l, ok43 y) (hl : l.length ≤ 1048576) :
    ∃ r, Ev (fun k => spec_l01Ok.f k [(⟨w, h, l⟩ : S29)]) r ∧ Ev (fun k => impl_ValidBoard.f k w h l) r ∧ (r = true → BoardOk w h l) := by
  obtain ⟨r, h1, h2⟩ := spec_ok w h l hw hh hx hl
  obtain ⟨q, h3, h4⟩ := impl_ok w h l hw hh hx hl
  obtain rfl := bool_same h2 h4
  exact ⟨r, h1, h3, h2.1⟩

/-- A piece's key: its row, then its column. -/
def key (p : S43) : Int := 100 * p.f0.f1 + p.f0.f0
def isAt (x y : Int) (p : S43) : Bool := p.f0.f0 == x && p.f0.f1 == y
def pick (l : List S43) (x y : Int) : Option S43 := l.find? (isAt x y)
def sc (l : List S43) (W m : Nat) : List S43 := (List.range m).filterMap fun c => pick l ((c % W : Nat) : Int) ((c / W : Nat) : Int)
theorem sc_succ (l : List S43) (W m : Nat) : sc l W (m + 1) = sc l W m ++ (pick l ((m % W : Nat) : Int) ((m / W : Nat) : Int)).toList := by
  unfold sc
  rw [List.range_succ, List.filterMap_append]
  congr 1
theorem sc_len (l : List S43) (W : Nat) : ∀ m, (sc l W m).length ≤ m
  | 0 => by simp [sc]
  | m + 1 => by
    rw [sc_succ, List.length_append]
    have := sc_len l W m
    cases pick l ((m % W : Nat) : Int) ((m / W : Nat) : Int) <;> simp <;> omega
theorem pick_none {l : List S43} {x y : Int} (h : ∀ i : Nat, i < l.length → ¬ At l x y i) : pick l x y = none := by
  unfold pick
  rw [List.find?_eq_none]
  intro p hp hc
  obtain ⟨i, hi, rfl⟩ := List.mem_iff_getElem.1 hp
  refine h i hi ?_
  have e : l.getD i z43 = l[i] := by rw [List.getD_eq_getElem?_getD, List.getElem?_eq_getElem hi]; rfl
  unfold At
  rw [e]
  simpa [isAt] using hc
theorem pick_first {l : List S43} {x y : Int} {j : Nat} (hj : j < l.length) (ha : At l x y j) (hf : ∀ i : Nat, i < j → ¬ At l x y i) : pick l x y = some l[j] := by
  unfold pick
  rw [List.find?_eq_some_iff_getElem]
  have eg : ∀ i (hi : i < l.length), l.getD i z43 = l[i] := fun i hi => by rw [List.getD_eq_getElem?_getD, List.getElem?_eq_getElem hi]; rfl
  refine ⟨?_, j, hj, rfl, fun i hi => ?_⟩
  · unfold At at ha
    rw [eg j hj] at ha
    simpa [isAt] using ha
  · have h1 := hf i hi
    unfold At at h1
    rw [eg i (by omega)] at h1
    have h2 : ¬ (isAt x y l[i] = true) := by
      intro hc
      apply h1
      simpa [isAt] using hc
    simpa using h2
theorem uniq : ∀ (A B : List S43), A.Pairwise (fun a b => key a < key b) → B.Pairwise (fun a b => key a < key b) → (∀ p, p ∈ A ↔ p ∈ B) → A = B
  | [], B, _, _, h => by
    cases B with
    | nil => rfl
    | cons b B => exact absurd ((h b).2 List.mem_cons_self) (by simp)
  | a :: A, [], _, _, h => absurd ((h a).1 List.mem_cons_self) (by simp)
  | a :: A, b :: B, hA, hB, h => by
    rw [List.pairwise_cons] at hA hB
    have e : a = b := by
      rcases List.mem_cons.1 ((h a).1 List.mem_cons_self) with e | m1
      · exact e
      · rcases List.mem_cons.1 ((h b).2 List.mem_cons_self) with e | m2
        · exact e.symm
        · have := hB.1 a m1
          have := hA.1 b m2
          omega
    subst e
    rw [uniq A B hA.2 hB.2 fun p => ⟨fun hp => ?_, fun hp => ?_⟩]
    · rcases List.mem_cons.1 ((h p).1 (List.mem_cons_of_mem _ hp)) with e | m
      · subst e
        have := hA.1 p hp
        omega
      · exact m
    · rcases List.mem_cons.1 ((h p).2 (List.mem_cons_of_mem _ hp)) with e | m
      · subst e
        have := hB.1 p hp
        omega
      · exact m
theorem good_cell {w h : Int} {l : List S43} (hk : BoardOk w h l) (i : Nat) (hi : i < l.length) : (0 ≤ l[i].f0.f0 ∧ l[i].f0.f0 < w) ∧ (0 ≤ l[i].f0.f1 ∧ l[i].f0.f1 < h) ∧ ∀ j : Nat, j < i → ∀ hj : j < l.length, ¬ (l[j].f0.f0 = l[i].f0.f0 ∧ l[j].f0.f1 = l[i].f0.f1) := by
  have eg : ∀ i (hi : i < l.length), l.getD i z43 = l[i] := fun i hi => by rw [List.getD_eq_getElem?_getD, List.getElem?_eq_getElem hi]; rfl
  obtain ⟨_, g2, g3⟩ := hk.piece i hi
  rw [eg i hi] at g2 g3
  refine ⟨g2.1, g2.2, fun j hji hj hc => g3 j hji ?_⟩
  unfold At
  rw [eg j hj]
  exact hc
theorem keys_ne {w h : Int} {l : List S43} (hk : BoardOk w h l) : l.Pairwise (fun a b => key a ≠ key b) := by
  rw [List.pairwise_iff_getElem]
  intro i j hi hj hij hc
  obtain ⟨a1, a2, _⟩ := good_cell hk i hi
  obtain ⟨b1, b2, b3⟩ := good_cell hk j hj
  have hw := hk.wide
  unfold key at hc
  exact b3 i hij hi ⟨by omega, by omega⟩
theorem scan_is_sort {w h : Int} {l : List S43} (hk : BoardOk w h l) : sc l w.toNat (w.toNat * h.toNat) = sortP l := by
  have hw := hk.wide
  have hh := hk.high
  have hps := Go.Sort.pdq_sorts (Go.Proofs.ltOf cmpP) cmpP_swo l.toArray 0 l.toArray.size (Go.Lib.bitLen l.toArray.size) true true (Nat.zero_le _) (Nat.le_refl _) (Or.inl rfl)
  obtain ⟨⟨hsz, _, hperm⟩, hsort⟩ := hps
  obtain ⟨d, hd⟩ : ∃ d, d = Go.Sort.pdq (Go.Proofs.ltOf cmpP) l.toArray 0 l.toArray.size (Go.Lib.bitLen l.toArray.size) true true := ⟨_, rfl⟩
  have hsp : sortP l = d.toList := by unfold sortP; rw [hd]
  rw [← hd] at hsz hperm hsort
  have hpm : d.toList.Perm l := by
    have e1 : d.extract 0 l.toArray.size = d := by rw [← hsz]; exact Array.extract_size
    have e2 : l.toArray.extract 0 l.toArray.size = l.toArray := Array.extract_size
    rw [e1, e2] at hperm
    exact hperm
  rw [hsp]
  refine uniq _ _ ?_ ?_ fun p => ?_
  · unfold sc
    rw [List.pairwise_filterMap]
    refine List.Pairwise.imp ?_ List.pairwise_lt_range
    intro c c' hcc p hp q hq
    have f1 := List.find?_some hp
    have f2 := List.find?_some hq
    simp only [isAt, Bool.and_eq_true, beq_iff_eq] at f1 f2
    have hwp : 0 < w.toNat := by omega
    have m1 := Nat.mod_lt c hwp
    have m2 := Nat.mod_lt c' hwp
    have d1 := Nat.div_add_mod c w.toNat
    have d2 := Nat.div_add_mod c' w.toNat
    have hle : c / w.toNat ≤ c' / w.toNat := Nat.div_le_div_right (by omega)
    unfold key
    rw [f1.1, f1.2, f2.1, f2.2]
    rcases Nat.lt_or_ge (c / w.toNat) (c' / w.toNat) with hl | hl
    · omega
    · have he : c / w.toNat = c' / w.toNat := by omega
      rw [he] at d1 ⊢
      omega
  · have hne : d.toList.Pairwise (fun a b => key a ≠ key b) := (hpm.pairwise_iff (fun h => Ne.symm h)).2 (keys_ne hk)
    rw [List.pairwise_iff_getElem] at hne ⊢
    intro i j hi hj hij
    have h1 := hne i j hi hj hij
    rw [Array.length_toList] at hi hj
    have h2 := hsort i j (Nat.zero_le _) hij (by rw [← hsz]; exact hj)
    rw [getElem!_pos d i hi, getElem!_pos d j hj] at h2
    unfold Go.Proofs.ltOf at h2
    have h3 := of_decide_eq_false h2
    rw [cmpP_lt] at h3
    have mem : ∀ q ∈ d.toList, (0 ≤ q.f0.f0 ∧ q.f0.f0 < w) ∧ (0 ≤ q.f0.f1 ∧ q.f0.f1 < h) := by
      intro q hq
      obtain ⟨i, hi, rfl⟩ := List.mem_iff_getElem.1 (hpm.mem_iff.1 hq)
      obtain ⟨a1, a2, _⟩ := good_cell hk i hi
      exact ⟨a1, a2⟩
    have b1 := mem d[i] (by simp)
    have b2 := mem d[j] (by simp)
    simp only [Array.getElem_toList] at h1 ⊢
    unfold key at h1 ⊢
    omega
  · rw [hpm.mem_iff]
    constructor
    · intro hp
      obtain ⟨c, _, hc⟩ := List.mem_filterMap.1 hp
      exact List.mem_of_find?_eq_some hc
    · intro hp
      obtain ⟨i, hi, rfl⟩ := List.mem_iff_getElem.1 hp
      obtain ⟨a1, a2, a3⟩ := good_cell hk i hi
      obtain ⟨x, hx⟩ := Int.eq_ofNat_of_zero_le a1.1
      obtain ⟨y, hy⟩ := Int.eq_ofNat_of_zero_le a2.1
      have hxw : x < w.toNat := by omega
      have hyh : y < h.toNat := by omega
      refine List.mem_filterMap.2 ⟨w.toNat * y + x, List.mem_range.2 ?_, ?_⟩
      · have : w.toNat * (y + 1) ≤ w.toNat * h.toNat := Nat.mul_le_mul_left _ hyh
        rw [Nat.mul_add, Nat.mul_one] at this
        omega
      · have e1 : (w.toNat * y + x) % w.toNat = x := by rw [Nat.mul_add_mod]; exact Nat.mod_eq_of_lt hxw
        have e2 : (w.toNat * y + x) / w.toNat = y := by rw [Nat.mul_add_div (by omega), Nat.div_eq_of_lt hxw, Nat.add_zero]
        rw [e1, e2]
        have eg : ∀ i (hi : i < l.length), l.getD i z43 = l[i] := fun i hi => by rw [List.getD_eq_getElem?_getD, List.getElem?_eq_getElem hi]; rfl
        refine pick_first hi ?_ fun j hj ha => ?_
        · unfold At
          rw [eg i hi]
          exact ⟨hx, hy⟩
        · unfold At at ha
          rw [eg j (by omega)] at ha
          exact a3 j hj (by omega) ⟨ha.1.trans hx.symm, ha.2.trans hy.symm⟩
theorem rdp_at (l : List S43) (j : Nat) (hj : j < l.length) : rd_T43 l (j : Int) = l[j] := by
  rw [rdp, List.getD_eq_getElem?_getD, List.getElem?_eq_getElem hj]
  rfl
theorem wrap_y (y : Nat) (h : y + 1 ≤ 24) : IntKind.i8.wrap ((y : Int) + 1) = ((y + 1 : Nat) : Int) := by
  rw [w8 (n := (y : Int) + 1) (by omega)]
  omega
theorem scan_ev {w h : Int} {l : List S43} (hk : BoardOk w h l) (W H : Nat) (hW : w = (W : Int)) (hH : h = (H : Int)) : ∀ d m : Nat, m + d = W * H →
    (m < W * H → Ev (fun k => spec_SortBoard.l1 k ((m / W : Nat) : Int) ((m % W : Nat) : Int) w h l w h (sc l W m)) (w, h, sc l W (W * H), 0)) ∧ (m % W = 0 → Ev (fun k => spec_SortBoard.l0 k ((m / W : Nat) : Int) w h l w h (sc l W m)) (w, h, sc l W (W * H), 0)) := by
  have hw := hk.wide
  have hh := hk.high
  have hWp : 0 < W := by omega
  have hH24 : H ≤ 24 := by omega
  have hWH : W * H ≤ 24 * 24 := Nat.mul_le_mul (by omega) (by omega)
  intro d
  induction d with
  | zero =>
    intro m hm
    obtain rfl : m = W * H := by omega
    refine ⟨fun h => by omega, fun _ => ?_⟩
    refine Ev.step (fun k => by rw [spec_SortBoard.l0]) ?_
    rw [Nat.mul_div_cancel_left H hWp]
    exact Ev.iteF (by omega) (Ev.now _)
  | succ d ih =>
    intro m hm
    obtain ⟨i1, i2⟩ := ih (m + 1) (by omega)
    have hx := Nat.mod_lt m hWp
    have hd := Nat.div_add_mod m W
    have hy : m / W < H := Nat.div_lt_of_lt_mul (by omega)
    have next : Ev (fun k => spec_SortBoard.l1 k ((m / W : Nat) : Int) (((m % W + 1 : Nat)) : Int) w h l w h (sc l W (m + 1))) (w, h, sc l W (W * H), 0) := by
      rcases Nat.lt_or_ge (m % W + 1) W with c | c
      · have e0 : m + 1 = W * (m / W) + (m % W + 1) := by omega
        have e1 : (m + 1) / W = m / W := by rw [e0, Nat.mul_add_div hWp, Nat.div_eq_of_lt c, Nat.add_zero]
        have e2 : (m + 1) % W = m % W + 1 := by rw [e0, Nat.mul_add_mod]; exact Nat.mod_eq_of_lt c
        have hlt : m + 1 < W * H := by
          have : W * (m / W + 1) ≤ W * H := Nat.mul_le_mul_left _ hy
          rw [Nat.mul_add, Nat.mul_one] at this
          omega
        have := i1 hlt
        rw [e1, e2] at this
        exact this
      · have e0 : m + 1 = W * (m / W + 1) := by rw [Nat.mul_add, Nat.mul_one]; omega
        have e1 : (m + 1) / W = m / W + 1 := by rw [e0, Nat.mul_div_cancel_left _ hWp]
        have e2 : (m + 1) % W = 0 := by rw [e0, Nat.mul_mod_right]
        refine Ev.step (fun k => by rw [spec_SortBoard.l1]) ?_
        refine Ev.iteF (by omega) ?_
        have := i2 e2
        rw [e1] at this
        rw [wrap_y (m / W) (Nat.le_trans hy hH24)]
        exact this
    have first : Ev (fun k => spec_SortBoard.l1 k ((m / W : Nat) : Int) ((m % W : Nat) : Int) w h l w h (sc l W m)) (w, h, sc l W (W * H), 0) := by
      obtain ⟨r, f1, f2⟩ := find_spec w h l ((m % W : Nat) : Int) ((m / W : Nat) : Int) (by have := hk.len; omega)
      have hlen := sc_len l W m
      refine Ev.step (fun k => by rw [spec_SortBoard.l1]) ?_
      refine Ev.iteT (by omega) (Ev.bind f1 ?_)
      rw [w8 (n := ((m % W : Nat) : Int) + 1) (by omega)]
      rw [sc_succ] at next
      rcases f2 with ⟨rfl, hn⟩ | ⟨j, hj, rfl, ha, hf⟩
      · rw [pick_none hn, Option.toList_none, List.append_nil] at next
        exact Ev.iteF (by omega) next
      · rw [pick_first hj ha hf, Option.toList_some] at next
        refine Ev.iteT (by omega) (Ev.iteT (by omega) (Ev.iteT (by omega) (Ev.iteT (by omega) ?_)))
        rw [rdp_at l j hj]
        exact next
    refine ⟨fun _ => first, fun hz => ?_⟩
    refine Ev.step (fun k => by rw [spec_SortBoard.l0]) ?_
    refine Ev.iteT (by omega) ?_
    rw [hz] at first
    exact first
theorem core (x0_0 : Int) (x0_1 : Int) (x0_2 : List (S43)) (ox0_0 : (-128 ≤ x0_0 ∧ x0_0 ≤ 127)) (ox0_1 : (-128 ≤ x0_1 ∧ x0_1 ≤ 127)) (ox0_2 : ∀ y ∈ x0_2, ok43 y) (nx0_2 : x0_2.length ≤ 1048576) : ∃ r : Int × Int × (List (S43)) × Int, Ev (fun k => spec_SortBoard.f k x0_0 x0_1 x0_2) r ∧ Ev (fun k => impl_SortBoard.f k x0_0 x0_1 x0_2) r ∧ r.2.2.1.length ≤ 1099511627776 := by
  obtain ⟨r, h1, h2, h3⟩ := both_ok x0_0 x0_1 x0_2 ox0_0 ox0_1 ox0_2 nx0_2
  unfold spec_SortBoard.f impl_SortBoard.f
  cases r
  · exact ⟨(0, 0, [], 1), Ev.bind h1 (Ev.iteF (by simp) (Ev.now _)), Ev.bind h2 (Ev.iteF (by simp) (Ev.now _)), by simp⟩
  have hk := h3 rfl
  have hlen := hk.len
  have hw := hk.wide
  have hh := hk.high
  have hs := (scan_ev hk x0_0.toNat x0_1.toNat (by omega) (by omega) (x0_0.toNat * x0_1.toNat) 0 (by omega)).2 (Nat.zero_mod _)
  rw [Nat.zero_div] at hs
  have hs : Ev (fun k => spec_SortBoard.l0 k 0 x0_0 x0_1 x0_2 x0_0 x0_1 []) (x0_0, x0_1, sortP x0_2, 0) := by
    rw [← scan_is_sort hk]
    exact hs
  have hc2 : impl_Piece_17.f x0_2 = some x0_2 := by
    unfold impl_Piece_17.f
    rw [Option.bind_some, if_pos (by simp; omega)]
    rfl
  have hc3 : impl_Board_with.f [(⟨x0_0, x0_1, x0_2⟩ : S29)] x0_2 = some (x0_0, x0_1) := by
    unfold impl_Board_with.f
    simp only [rd0]
    rw [if_pos (by simp)]
  have hs3 : slices_SortFunc__impl_SortBoard_1.f x0_2 = some (sortP x0_2) := by
    unfold slices_SortFunc__impl_SortBoard_1.f
    rw [if_pos (by omega)]
  exact ⟨(x0_0, x0_1, sortP x0_2, 0), Ev.bind h1 (Ev.iteT rfl hs), Ev.bind h2 (Ev.iteT rfl (Ev.bindc hc2 (Ev.bindc hc3 (Ev.bindc hs3 (Ev.now _))))), by dsimp only; rw [sortP_size]; omega⟩

theorem FnExactSortBoard : QFnExactSortBoard.Pure := by
  rintro ⟨x0_0, x0_1, x0_2⟩ ⟨wx0_0, wx0_1, wx0_2⟩
  have ox0_0 : (-128 ≤ x0_0 ∧ x0_0 ≤ 127) := i8b wx0_0
  have ox0_1 : (-128 ≤ x0_1 ∧ x0_1 ≤ 127) := i8b wx0_1
  obtain ⟨wx0_2, mx0_2⟩ := wx0_2
  have mx0_2 : x0_2.length ≤ 9223372036854775807 := mx0_2
  refine Ev.rounds (r := true) ?_
  unfold laws_FnExactSortBoard.f
  obtain ⟨r_0, e_0, c_0⟩ := szBoard x0_0 x0_1 x0_2 (1048576) (by omega) mx0_2
  refine Ev.bindc e_0 ?_
  rcases c_0 with c_0 | ⟨rfl, c_0⟩
  · exact Ev.iteT c_0 (Ev.now _)
  refine Ev.iteF (by omega) ?_
  refine Ev.bind (toBoard _ _ _ (by first | omega | ((try dsimp only); (try simp only [List.length_map, List.length_range, List.length_nil]); omega) | (simp; omega))) ?_
  try dsimp only
  obtain ⟨⟨r0, r1, r2, r3⟩, hs, hi, hb⟩ := core x0_0 x0_1 (x0_2.map cv59_43) ox0_0 ox0_1 (fun y hy => by obtain ⟨z, hz, rfl⟩ := List.mem_map.1 hy; exact okof59_43 (wx0_2 z hz)) (by first | omega | ((try dsimp only); (try simp only [List.length_map, List.length_range, List.length_nil]); omega) | (simp; omega))
  have b2 := hb
  try dsimp only at b2
  refine Ev.bind hs ?_
  try dsimp only
  refine Ev.bind (toBoard _ _ _ (by first | omega | ((try dsimp only); (try simp only [List.length_map, List.length_range, List.length_nil]); omega) | (simp; omega))) ?_
  try dsimp only
  refine Ev.bind hi ?_
  try dsimp only
  refine Ev.bind (eqBoard _ _ _ (by first | omega | ((try dsimp only); (try simp only [List.length_map, List.length_range, List.length_nil]); omega) | (simp; omega))) ?_
  try dsimp only
  refine Ev.iteT (by first | rfl | (first | omega | ((try dsimp only); (try simp only [List.length_map, List.length_range, List.length_nil]); omega) | (simp; omega))) ?_
  try dsimp only
  refine Ev.iteT (by first | rfl | (first | omega | ((try dsimp only); (try simp only [List.length_map, List.length_range, List.length_nil]); omega) | (simp; omega))) ?_
  try dsimp only
  refine Ev.bind (toBoard _ _ _ (by first | omega | ((try dsimp only); (try simp only [List.length_map, List.length_range, List.length_nil]); omega) | (simp; omega))) ?_
  try dsimp only
  refine Ev.bind (eqBoard _ _ _ (by first | omega | ((try dsimp only); (try simp only [List.length_map, List.length_range, List.length_nil]); omega) | (simp; omega))) ?_
  try dsimp only
  refine Ev.iteT (by first | rfl | (first | omega | ((try dsimp only); (try simp only [List.length_map, List.length_range, List.length_nil]); omega) | (simp; omega))) ?_
  try dsimp only
  refine Ev.bind (markBoard _ _ _ _ (by first | omega | ((try dsimp only); (try simp only [List.length_map, List.length_range, List.length_nil]); omega) | (simp; omega)) (by first | omega | ((try dsimp only); (try simp only [List.length_map, List.length_range, List.length_nil]); omega) | (simp; omega))) ?_
  try dsimp only
  refine Ev.iteF (by first | (simp; done) | (first | omega | ((try dsimp only); (try simp only [List.length_map, List.length_range, List.length_nil]); omega) | (simp; omega))) ?_
  try dsimp only
  refine Ev.bind (eqBoard _ _ _ (by first | omega | ((try dsimp only); (try simp only [List.length_map, List.length_range, List.length_nil]); omega) | (simp; omega))) ?_
  try dsimp only
  refine Ev.iteT (by first | rfl | (first | omega | ((try dsimp only); (try simp only [List.length_map, List.length_range, List.length_nil]); omega) | (simp; omega))) ?_
  try dsimp only
  refine Ev.bind (markBoard _ _ _ _ (by first | omega | ((try dsimp only); (try simp only [List.length_map, List.length_range, List.length_nil]); omega) | (simp; omega)) (by first | omega | ((try dsimp only); (try simp only [List.length_map, List.length_range, List.length_nil]); omega) | (simp; omega))) ?_
  try dsimp only
  refine Ev.bind (heldBoard _ _ _ _ (by first | omega | ((try dsimp only); (try simp only [List.length_map, List.length_range, List.length_nil]); omega) | (simp; omega)) (by first | omega | ((try dsimp only); (try simp only [List.length_map, List.length_range, List.length_nil]); omega) | (simp; omega))) ?_
  try dsimp only
  refine Ev.iteF (by first | (simp; done) | (first | omega | ((try dsimp only); (try simp only [List.length_map, List.length_range, List.length_nil]); omega) | (simp; omega))) ?_
  try dsimp only
  refine Ev.iteT (by first | rfl | (first | omega | ((try dsimp only); (try simp only [List.length_map, List.length_range, List.length_nil]); omega) | (simp; omega))) ?_
  try dsimp only
  refine Ev.bind (toBoard _ _ _ (by first | omega | ((try dsimp only); (try simp only [List.length_map, List.length_range, List.length_nil]); omega) | (simp; omega))) ?_
  try dsimp only
  refine Ev.bind hi ?_
  try dsimp only
  refine Ev.bind (eqBoard _ _ _ (by first | omega | ((try dsimp only); (try simp only [List.length_map, List.length_range, List.length_nil]); omega) | (simp; omega))) ?_
  try dsimp only
  refine Ev.iteT (by first | rfl | (first | omega | ((try dsimp only); (try simp only [List.length_map, List.length_range, List.length_nil]); omega) | (simp; omega))) ?_
  try dsimp only
  refine Ev.iteT (by first | rfl | (first | omega | ((try dsimp only); (try simp only [List.length_map, List.length_range, List.length_nil]); omega) | (simp; omega))) ?_
  try dsimp only
  refine Ev.bind (heldBoard _ _ _ _ (by first | omega | ((try dsimp only); (try simp only [List.length_map, List.length_range, List.length_nil]); omega) | (simp; omega)) (by first | omega | ((try dsimp only); (try simp only [List.length_map, List.length_range, List.length_nil]); omega) | (simp; omega))) ?_
  try dsimp only
  refine Ev.iteF (by first | (simp; done) | (first | omega | ((try dsimp only); (try simp only [List.length_map, List.length_range, List.length_nil]); omega) | (simp; omega))) ?_
  try dsimp only
  refine Ev.iteT (by first | rfl | (first | omega | ((try dsimp only); (try simp only [List.length_map, List.length_range, List.length_nil]); omega) | (simp; omega))) ?_
  try dsimp only
  exact Ev.now _
end Go.Proofs.Ytljjmgokebmldaa.Pure
