/- The pure side of the law FnExactBoardPicture: for all arguments its Lean function answers true. No condition beside the arguments' kinds. -/
import Derived.Test.YtdjhcnepndflmaaQFnExactBoardPicture
import Derived.Test.YtdjhcnepndflmaaTFnExactBoardPicturea
namespace Go.Proofs.Ytdjhcnepndflmaa.Pure
open Go.RowKit Go.Proofs.Ytdjhcnepndflmaa.PFnExactBoardPicture Go.Proofs.YtdjhcnepndflmaaW.PrintWords Go.Proofs.YtdjhcnepndflmaaW.PrintLast Go.Proofs.YtdjhcnepndflmaaX Go.Proofs.Ytdjhcnepndflmaa.QFnExactBoardPicture Go.Proofs.YtdjhcnepndflmaaB
set_option linter.unusedVariables false
set_option linter.unusedSimpArgs false

theorem szPieceS (l0 : List (S78)) (a_ : Int) (ha : 0 ≤ a_ ∧ a_ ≤ 1048576) (hl0 : l0.length ≤ 9223372036854775807) : ∃ r, laws_szPieceS.f l0 a_ = some r ∧ (r < 0 ∨ (r = a_ - l0.length ∧ 0 ≤ r)) := by
  unfold laws_szPieceS.f
  rw [w64 (n := a_ - l0.length) (by omega)]
  by_cases h : a_ - (l0.length : Int) < 0
  · exact ⟨-1, by rw [if_pos h], .inl (by omega)⟩
  · exact ⟨_, by rw [if_neg h], .inr ⟨rfl, by omega⟩⟩
theorem szBoard (a0_0 : Int) (a0_1 : Int) (l0_2 : List (S78)) (a_ : Int) (ha : 0 ≤ a_ ∧ a_ ≤ 1048576) (hl0_2 : l0_2.length ≤ 9223372036854775807) : ∃ r, laws_szBoard.f a0_0 a0_1 l0_2 a_ = some r ∧ (r < 0 ∨ (r = a_ - l0_2.length ∧ 0 ≤ r)) := by
  unfold laws_szBoard.f
  obtain ⟨r0, e0, c0⟩ := szPieceS l0_2 (a_) (by omega) hl0_2
  rw [e0]
  simp only [Option.bind_some]
  rcases c0 with c0 | ⟨rfl, c0⟩
  · exact ⟨-1, by rw [if_pos c0], .inl (by omega)⟩
  rw [if_neg (by omega)]
  exact ⟨_, rfl, .inr ⟨rfl, by omega⟩⟩
theorem toCell (a0_0 : Int) (a0_1 : Int)  : Ev (fun k => laws_toCell.f k a0_0 a0_1) (a0_0, a0_1) := by
  refine ⟨3, fun k hk => ?_⟩
  obtain ⟨m, rfl⟩ : ∃ m, k = m + 3 := ⟨k - 3, by omega⟩
  simp [laws_toCell.f, laws_toCell.l0, wrap64]
theorem toPiece (a0_0 : Int) (a0_1 : Int) (a0_2 : Int) (a0_3 : Int) (a0_4 : Int)  : Ev (fun k => laws_toPiece.f k a0_0 a0_1 a0_2 a0_3 a0_4) (a0_0, a0_1, a0_2, a0_3, a0_4) := by
  unfold laws_toPiece.f
  exact (Ev.bind (toCell _ _ ) (Ev.now _))
def cv26_34 (x : S26) : S34 := ⟨x.f0, x.f1⟩
def cv78_62 (x : S78) : S62 := ⟨cv26_34 x.f0, x.f1, x.f2, x.f3⟩
theorem toPieceS (l0 : List (S78)) (hl0 : l0.length ≤ 1099511627776) : Ev (fun k => laws_toPieceS.f k l0) (l0.map cv78_62) := by
  suffices main : Ev (fun k => laws_toPieceS.f k l0) (l0.map cv78_62) by exact main
  unfold laws_toPieceS.f
  refine Ev.iteT (by omega) (Ev.iteT (by omega) ?_)
  rw [Int.toNat_natCast]
  refine ev_fill2 (g := fun k x i => laws_toPieceS.l0 k l0 x i) cv78_62 l0 _ (Ev.step (f := fun _ => some _) (fun k => by simp [laws_toPieceS.l0]) (Ev.now _)) fun i h x hx ih => ?_
  have eg : l0.getD i z78 = l0[i] := getD_at _ _ _ h
  refine Ev.step (fun k => by rw [laws_toPieceS.l0]) (Ev.iteT (by omega) (Ev.iteT (by omega) ?_))
  simp only [rd_T78, Int.toNat_natCast, eg]
  refine Ev.bind (toPiece _ _ _ _ _ ) ?_
  refine Ev.iteT (by omega) ?_
  rw [w64 (by omega)]
  exact ih
theorem toBoard (a0_0 : Int) (a0_1 : Int) (l0_2 : List (S78)) (hl0_2 : l0_2.length ≤ 1099511627776) : Ev (fun k => laws_toBoard.f k a0_0 a0_1 l0_2) (a0_0, a0_1, (l0_2.map cv78_62)) := by
  unfold laws_toBoard.f
  exact (Ev.bind (toPieceS _ (by first | omega | ((try dsimp only); (try simp only [List.length_map, List.length_range, List.length_nil]); omega) | (simp; omega))) (Ev.now _))
theorem eqCell (a0_0 : Int) (a0_1 : Int)  : Ev (fun k => laws_eqCell.f k a0_0 a0_1 a0_0 a0_1) true := by
  refine ⟨3, fun k hk => ?_⟩
  obtain ⟨m, rfl⟩ : ∃ m, k = m + 3 := ⟨k - 3, by omega⟩
  simp [laws_eqCell.f, laws_eqCell.l0, wrap64]
theorem eqPiece (a0_0 : Int) (a0_1 : Int) (a0_2 : Int) (a0_3 : Int) (a0_4 : Int)  : Ev (fun k => laws_eqPiece.f k a0_0 a0_1 a0_2 a0_3 a0_4 a0_0 a0_1 a0_2 a0_3 a0_4) true := by
  unfold laws_eqPiece.f
  exact (Ev.bind (eqCell _ _ ) (Ev.iteT rfl (Ev.iteT rfl (Ev.iteT rfl (Ev.iteT rfl (Ev.now _))))))
theorem eqPieceS (l0 : List (S62)) (hl0 : l0.length ≤ 1099511627776) : Ev (fun k => laws_eqPieceS.f k l0 l0) true := by
  unfold laws_eqPieceS.f
  refine Ev.iteT rfl ?_
  refine ev_loop2 (g := fun k i => laws_eqPieceS.l0 k l0 l0 i) (fun i => (i : Int)) l0.length (Ev.step (f := fun _ => some _) (fun k => by simp [laws_eqPieceS.l0]) (Ev.now _)) fun i h ih => ?_
  refine Ev.step (fun k => by rw [laws_eqPieceS.l0]) (Ev.iteT (by omega) (Ev.iteT (by omega) (Ev.iteT (by omega) ?_)))
  refine Ev.bind (eqPiece _ _ _ _ _ ) (Ev.iteT rfl ?_)
  rw [w64 (by omega)]
  exact ih
theorem eqBoard (a0_0 : Int) (a0_1 : Int) (l0_2 : List (S62)) (hl0_2 : l0_2.length ≤ 1099511627776) : Ev (fun k => laws_eqBoard.f k a0_0 a0_1 l0_2 a0_0 a0_1 l0_2) true := by
  unfold laws_eqBoard.f
  exact (Ev.iteT rfl (Ev.iteT rfl (Ev.bind (eqPieceS _ (by first | omega | ((try dsimp only); (try simp only [List.length_map, List.length_range, List.length_nil]); omega) | (simp; omega))) (Ev.iteT rfl (Ev.now _)))))
def mk_PieceS (k : Int) : S62 := ⟨⟨IntKind.i8.wrap k, IntKind.i8.wrap (k + 1)⟩, IntKind.i8.wrap (k + 2), IntKind.i8.wrap (k + 3), IntKind.i8.wrap (k + 4)⟩
theorem markPieceS (l0 : List (S62)) (k_ : Int) (hl0 : l0.length ≤ 1099511627776) (hk : 0 ≤ k_ ∧ (k_ + 5 * (l0.length : Int)) ≤ 4611686018427387904) : Ev (fun k => laws_markPieceS.f k l0 k_) ((k_ + 5 * (l0.length : Int)), ((List.range l0.length).map fun (j : Nat) => mk_PieceS (k_ + 5 * (j : Int)))) := by
  unfold laws_markPieceS.f
  refine ev_mark (g := fun k x q i => laws_markPieceS.l0 k x q i) mk_PieceS 5 l0 k_ (Ev.step (f := fun _ => some _) (fun k => by simp [laws_markPieceS.l0]) (Ev.now _)) fun i x h hx ih => ?_
  obtain ⟨q, hq⟩ : ∃ q, q = k_ + 5 * (i : Int) := ⟨_, rfl⟩
  rw [← hq] at ih ⊢
  have hqb : 0 ≤ q ∧ q + 5 ≤ 4611686018427387904 := by omega
  rw [show k_ + 5 * ((i + 1 : Nat) : Int) = q + 5 by omega] at ih
  have hi1 : ((i : Int) < (x.length : Int)) = True := eq_true (by omega)
  have hi0 : (0 ≤ (i : Int)) = True := eq_true (by omega)
  have hix : i < x.length := by omega
  have hs : ∀ a, (x.set i a).getD i z62 = a := fun a => getD_set x i z62 a hix
  obtain ⟨e0, e1, e2, e3, e4, ei⟩ : wrap64 (q + 1) = q + 1 ∧ wrap64 ((q + 1) + 1) = q + 2 ∧ wrap64 ((q + 2) + 1) = q + 3 ∧ wrap64 ((q + 3) + 1) = q + 4 ∧ wrap64 ((q + 4) + 1) = q + 5 ∧ wrap64 ((i : Int) + 1) = ((i + 1 : Nat) : Int) := ⟨wq (by omega) (by omega), wq (by omega) (by omega), wq (by omega) (by omega), wq (by omega) (by omega), wq (by omega) (by omega), wq (by omega) (by omega)⟩
  have s0 : ∀ k, laws_markPieceS.l0 (k + 1) x q (i : Int) = laws_markPieceS.l1 k x q (i : Int) 0 := fun k => by
    rw [laws_markPieceS.l0]
    simp only [hi1, if_true]
  have s1 : ∀ k a, laws_markPieceS.l1 (k + 1) (x.set i a) q (i : Int) 0 = laws_markPieceS.l1 k (x.set i ⟨⟨IntKind.i8.wrap q, a.f0.f1⟩, a.f1, a.f2, a.f3⟩) (q + 1) (i : Int) 1 := fun k a => by
    rw [laws_markPieceS.l1]
    simp only [e0, e1, e2, e3, e4, ei, (by decide +kernel : wrap64 (0 + 1) = 1), (by decide +kernel : wrap64 (1 + 1) = 2), show (((0 : Int) < 2) = True) from eq_true (by decide), show (((1 : Int) < 2) = True) from eq_true (by decide), show (((2 : Int) < 2) = False) from eq_false (by decide), show (((0 : Int) = 0) = True) from eq_true (by decide), show (((1 : Int) = 0) = False) from eq_false (by decide), show (((1 : Int) = 1) = True) from eq_true (by decide), hi1, hi0, if_true, if_false, Option.bind_some, Int.toNat_natCast, List.length_set, List.set_set, rd_T62, hs]
  have s2 : ∀ k a, laws_markPieceS.l1 (k + 1) (x.set i a) (q + 1) (i : Int) 1 = laws_markPieceS.l1 k (x.set i ⟨⟨a.f0.f0, IntKind.i8.wrap (q + 1)⟩, a.f1, a.f2, a.f3⟩) (q + 2) (i : Int) 2 := fun k a => by
    rw [laws_markPieceS.l1]
    simp only [e0, e1, e2, e3, e4, ei, (by decide +kernel : wrap64 (0 + 1) = 1), (by decide +kernel : wrap64 (1 + 1) = 2), show (((0 : Int) < 2) = True) from eq_true (by decide), show (((1 : Int) < 2) = True) from eq_true (by decide), show (((2 : Int) < 2) = False) from eq_false (by decide), show (((0 : Int) = 0) = True) from eq_true (by decide), show (((1 : Int) = 0) = False) from eq_false (by decide), show (((1 : Int) = 1) = True) from eq_true (by decide), hi1, hi0, if_true, if_false, Option.bind_some, Int.toNat_natCast, List.length_set, List.set_set, rd_T62, hs]
  have sf : ∀ k a, laws_markPieceS.l1 (k + 1) (x.set i a) (q + 2) (i : Int) 2 = laws_markPieceS.l0 k (x.set i ⟨a.f0, IntKind.i8.wrap (q + 2), IntKind.i8.wrap (q + 3), IntKind.i8.wrap (q + 4)⟩) (q + 5) ((i + 1 : Nat) : Int) := fun k a => by
    rw [laws_markPieceS.l1]
    simp only [e0, e1, e2, e3, e4, ei, (by decide +kernel : wrap64 (0 + 1) = 1), (by decide +kernel : wrap64 (1 + 1) = 2), show (((0 : Int) < 2) = True) from eq_true (by decide), show (((1 : Int) < 2) = True) from eq_true (by decide), show (((2 : Int) < 2) = False) from eq_false (by decide), show (((0 : Int) = 0) = True) from eq_true (by decide), show (((1 : Int) = 0) = False) from eq_false (by decide), show (((1 : Int) = 1) = True) from eq_true (by decide), hi1, hi0, if_true, if_false, Option.bind_some, Int.toNat_natCast, List.length_set, List.set_set, rd_T62, hs]
  have st : ∀ k, laws_markPieceS.l0 (k + 4) x q (i : Int) = laws_markPieceS.l0 k (x.set i (mk_PieceS q)) (q + 5) ((i + 1 : Nat) : Int) := fun k => by
    rw [s0]
    have h1 := s1 (k + 2) (x.getD i z62)
    rw [set_getD x i z62 hix] at h1
    rw [h1, s2, sf]
    rfl
  exact Ev.steps 4 st ih
theorem markBoard (a0_0 : Int) (a0_1 : Int) (l0_2 : List (S62)) (k_ : Int) (hl0_2 : l0_2.length ≤ 1099511627776) (hk : 0 ≤ k_ ∧ k_ + 5 * (l0_2.length : Int) ≤ 4611686018427387904) : Ev (fun k => laws_markBoard.f k a0_0 a0_1 l0_2 k_) (k_ + 5 * (l0_2.length : Int), ((List.range l0_2.length).map fun (j : Nat) => mk_PieceS (k_ + 5 * (j : Int)))) := by
  unfold laws_markBoard.f
  exact Ev.bind (markPieceS _ _ (by omega) (by omega)) (Ev.now _)
theorem eqStringS (l0 : List (ByteArray)) (hl0 : l0.length ≤ 1099511627776) : Ev (fun k => laws_eqStringS.f k l0 l0) true := by
  unfold laws_eqStringS.f
  refine Ev.iteT rfl ?_
  refine ev_loop2 (g := fun k i => laws_eqStringS.l0 k l0 l0 i) (fun i => (i : Int)) l0.length (Ev.step (f := fun _ => some _) (fun k => by simp [laws_eqStringS.l0]) (Ev.now _)) fun i h ih => ?_
  refine Ev.step (fun k => by rw [laws_eqStringS.l0]) (Ev.iteT (by omega) (Ev.iteT (by omega) (Ev.iteT (by omega) ?_)))
  refine Ev.iteT rfl ?_
  rw [w64 (by omega)]
  exact ih
theorem mark_round : ∀ (n : Nat) (x : ByteArray), n + x.size ≤ 4611686018427387904 → ∃ t, laws_markText.l0 (n + 1) (n : Int) x = some t := by
  intro n
  induction n using Nat.strongRecOn with
  | ind n ih =>
    intro x hx
    rw [laws_markText.l0]
    by_cases h : (n : Int) > 0
    · rw [if_pos h]
      have hs : ∀ c : Int, (strOfNums [c]).size = 1 := fun _ => rfl
      simp only [Option.bind_some]
      rw [if_pos (by rw [hs]; omega)]
      obtain ⟨t, ht⟩ := ih (n / 10) (by omega) (strOfNums [(wrap64 (48 + (Int.tmod (n : Int) 10))) % 256] ++ x) (by rw [ByteArray.size_append, hs]; omega)
      refine ⟨t, ?_⟩
      have e : wrap64 (Int.tdiv (n : Int) 10) = ((n / 10 : Nat) : Int) := by
        rw [Int.tdiv_eq_ediv_of_nonneg (by omega)]
        exact wq (by omega) (by omega)
      rw [e]
      exact at_rounds (g := fun k => laws_markText.l0 k _ _) (fun k => laws_markText.mono_l k _ _) (show n / 10 + 1 ≤ n by omega) ht
    · rw [if_neg h, if_pos (by omega)]
      exact ⟨_, rfl⟩
def mk_StringS (k : Int) : ByteArray := (laws_markText.f (k.toNat + 1) k).getD ByteArray.empty
theorem markText (k : Int) (hk : 0 ≤ k ∧ k ≤ 4611686018427387904) : Ev (fun q => laws_markText.f q k) (mk_StringS k) := by
  have h : ∃ t, laws_markText.f (k.toNat + 1) k = some t := by
    unfold laws_markText.f
    by_cases c : k ≤ 0
    · exact ⟨_, if_pos c⟩
    · rw [if_neg c]
      obtain ⟨n, rfl⟩ := Int.eq_ofNat_of_zero_le hk.1
      exact mark_round n ⟨#[]⟩ (by have := hk.2; show n + 0 ≤ _; omega)
  obtain ⟨t, ht⟩ := h
  have e : mk_StringS k = t := by
    unfold mk_StringS
    rw [ht]
    rfl
  rw [e]
  exact Ev.of (g := fun q => laws_markText.f q k) (fun q => laws_markText.mono _ q) ht
theorem markStringS (l0 : List ByteArray) (k_ : Int) (hl0 : l0.length ≤ 1099511627776) (hk : 0 ≤ k_ ∧ (k_ + 1 * (l0.length : Int)) ≤ 4611686018427387904) : Ev (fun k => laws_markStringS.f k l0 k_) ((k_ + 1 * (l0.length : Int)), ((List.range l0.length).map fun (j : Nat) => mk_StringS (k_ + 1 * (j : Int)))) := by
  unfold laws_markStringS.f
  refine ev_mark (g := fun k x q i => laws_markStringS.l0 k x q i) mk_StringS 1 l0 k_ (Ev.step (f := fun _ => some _) (fun k => by simp [laws_markStringS.l0]) (Ev.now _)) fun i x h hx ih => ?_
  refine Ev.step (fun k => by rw [laws_markStringS.l0]) (Ev.iteT (by omega) (Ev.bind (markText _ (by omega)) ?_))
  refine Ev.iteT (by omega) ?_
  rw [wq (by omega) (show k_ + 1 * (i : Int) + 1 = k_ + 1 * ((i + 1 : Nat) : Int) by omega), wq (by omega) (show (i : Int) + 1 = ((i + 1 : Nat) : Int) by omega), Int.toNat_natCast]
  exact ih
theorem heldStringS (n : Nat) (k_ : Int) (hn : n ≤ 1099511627776) (hk : 0 ≤ k_ ∧ k_ + 1 * (n : Int) ≤ 4611686018427387904) : Ev (fun k => laws_heldStringS.f k ((List.range n).map fun (j : Nat) => mk_StringS (k_ + 1 * (j : Int))) k_) (k_ + 1 * (n : Int)) := by
  unfold laws_heldStringS.f
  obtain ⟨M, hM⟩ : ∃ M, M = ((List.range n).map fun (j : Nat) => mk_StringS (k_ + 1 * (j : Int))) := ⟨_, rfl⟩
  rw [← hM]
  have hl : M.length = n := by rw [hM]; simp
  have hv : ∀ i, i < n → M.getD i ByteArray.empty = mk_StringS (k_ + 1 * (i : Int)) := fun i h => by rw [hM]; exact mark_at _ _ _ _ _ _ h
  clear hM
  have h0 := ev_loop2 (g := fun k (s : Int × Int) => laws_heldStringS.l0 k M s.1 s.2) (fun i => (k_ + 1 * (i : Int), (i : Int))) n (r := k_ + 1 * (n : Int)) (Ev.step (f := fun _ => some _) (fun k => by simp [laws_heldStringS.l0, hl]) (Ev.now _)) fun i h ih => ?_
  · simpa using h0
  dsimp only at ih ⊢
  refine Ev.step (fun k => by rw [laws_heldStringS.l0]) (Ev.iteT (by omega) (Ev.iteT (by omega) (Ev.bind (markText _ (by omega)) (Ev.iteT ?_ ?_))))
  · show (M.getD i ByteArray.empty).toList = _
    rw [hv i h]
  · rw [wq (by omega) (show k_ + 1 * (i : Int) + 1 = k_ + 1 * ((i + 1 : Nat) : Int) by omega), wq (by omega) (show (i : Int) + 1 = ((i + 1 : Nat) : Int) by omega)]
    exact ih
def ok34 (x : S34) : Prop := (-128 ≤ x.f0 ∧ x.f0 ≤ 127) ∧ (-128 ≤ x.f1 ∧ x.f1 ≤ 127)
def ok62 (x : S62) : Prop := ok34 x.f0 ∧ (-128 ≤ x.f1 ∧ x.f1 ≤ 127) ∧ (-128 ≤ x.f2 ∧ x.f2 ≤ 127) ∧ (-128 ≤ x.f3 ∧ x.f3 ≤ 127)
theorem okof26_34 {x : S26} (h : wf26 x) : ok34 (cv26_34 x) := by
  obtain ⟨h0, h1⟩ := h
  exact ⟨(i8b h0), (i8b h1)⟩
theorem okof78_62 {x : S78} (h : wf78 x) : ok62 (cv78_62 x) := by
  obtain ⟨h0, h1, h2, h3⟩ := h
  exact ⟨(okof26_34 h0), (i8b h1), (i8b h2), (i8b h3)⟩
theorem in_same : spec_l00In.f = impl_in.f := rfl
theorem in_some (a b c : Int) : impl_in.f a b c = some (decide (b ≤ a ∧ a ≤ c)) := by
  unfold impl_in.f
  by_cases h : b ≤ a <;> simp [h]

theorem rd0 (a b : Int) (l : List (S62)) : rd_T30 [(⟨a, b, l⟩ : S30)] 0 = ⟨a, b, l⟩ := id rfl
theorem rdp (l : List (S62)) (i : Nat) : rd_T62 l (i : Int) = l.getD i z62 := id rfl
def VP (p : S62) : Prop := (0 ≤ p.f1 ∧ p.f1 ≤ 5) ∧ (0 ≤ p.f2 ∧ p.f2 ≤ 3) ∧ (1 ≤ p.f3 ∧ p.f3 ≤ 9) ∧ (0 ≤ p.f0.f0 ∧ p.f0.f0 ≤ 23) ∧ (0 ≤ p.f0.f1 ∧ p.f0.f1 ≤ 23)
instance (p : S62) : Decidable (VP p) := by unfold VP; infer_instance
theorem valid_dec (a b c d e : Int) (ha : -128 ≤ a ∧ a ≤ 127) (hb : -128 ≤ b ∧ b ≤ 127) (hc : -128 ≤ c ∧ c ≤ 127) (hd : -128 ≤ d ∧ d ≤ 127) (he : -128 ≤ e ∧ e ≤ 127) : impl_ValidPiece.f a b c d e = some (decide (VP ⟨⟨a, b⟩, c, d, e⟩)) := by
  unfold impl_ValidPiece.f impl_Cell_placed.f
  simp only [in_some, Option.bind_some]
  rw [w64 (n := a) (by omega), w64 (n := b) (by omega), w64 (n := c) (by omega), w64 (n := d) (by omega), w64 (n := e) (by omega)]
  by_cases h1 : 0 ≤ c ∧ c ≤ 5 <;> by_cases h2 : 0 ≤ d ∧ d ≤ 3 <;> by_cases h3 : 1 ≤ e ∧ e ≤ 9 <;> by_cases h4 : 0 ≤ a ∧ a ≤ 23 <;> simp [VP, h1, h2, h3, h4]
theorem impl_valid {p : S62} (hp : ok62 p) : impl_ValidPiece.f p.f0.f0 p.f0.f1 p.f1 p.f2 p.f3 = some (decide (VP p)) := by
  obtain ⟨⟨a, b⟩, c, d, e⟩ := p
  obtain ⟨⟨h0, h1⟩, h2, h3, h4⟩ := hp
  exact valid_dec a b c d e h0 h1 h2 h3 h4
theorem spec_valid {p : S62} (hp : ok62 p) : spec_l01Piece.f [p] = some (decide (VP p)) := by
  rw [← impl_valid hp]
  obtain ⟨⟨a, b⟩, c, d, e⟩ := p
  unfold spec_l01Piece.f impl_ValidPiece.f impl_Cell_placed.f spec_l01In.f
  simp [in_same, in_some, rd_T62, wrap64]
theorem spec_in (a b w h : Int) (ha : -128 ≤ a ∧ a ≤ 127) (hb : -128 ≤ b ∧ b ≤ 127) (hw : -128 ≤ w ∧ w ≤ 127) (hh : -128 ≤ h ∧ h ≤ 127) : spec_l01In.f a b w h = some (decide ((0 ≤ a ∧ a < w) ∧ 0 ≤ b ∧ b < h)) := by
  unfold spec_l01In.f
  simp only [in_same, in_some, Option.bind_some]
  rw [w64 (n := a) (by omega), w64 (n := b) (by omega), w64 (n := w - 1) (by omega), w64 (n := h - 1) (by omega)]
  have e1 : (0 ≤ a ∧ a ≤ w - 1) ↔ (0 ≤ a ∧ a < w) := by omega
  have e2 : (0 ≤ b ∧ b ≤ h - 1) ↔ (0 ≤ b ∧ b < h) := by omega
  simp only [e1, e2]
  by_cases h1 : 0 ≤ a ∧ a < w <;> simp [h1]
theorem impl_has (w h : Int) (l : List (S62)) (a b : Int) : impl_Board_has.f [(⟨w, h, l⟩ : S30)] a b = some (decide ((0 ≤ a ∧ a < w) ∧ 0 ≤ b ∧ b < h)) := by
  unfold impl_Board_has.f
  simp only [rd0]
  by_cases h1 : 0 ≤ a <;> by_cases h2 : a < w <;> by_cases h3 : 0 ≤ b <;> simp [h1, h2, h3]
/-- A piece stands in a cell. -/
def At (l : List (S62)) (x y : Int) (i : Nat) : Prop := (l.getD i z62).f0.f0 = x ∧ (l.getD i z62).f0.f1 = y
def Found (l : List (S62)) (x y r : Int) : Prop := (r = -1 ∧ ∀ i : Nat, i < l.length → ¬ At l x y i) ∨ ∃ j : Nat, j < l.length ∧ r = (j : Int) ∧ At l x y j ∧ ∀ i : Nat, i < j → ¬ At l x y i
theorem Found.same {l : List (S62)} {x y r q : Int} (h : Found l x y r) (k : Found l x y q) : r = q := by
  rcases h with ⟨rfl, h⟩ | ⟨j, h1, rfl, h2, h3⟩ <;> rcases k with ⟨rfl, k⟩ | ⟨i, k1, rfl, k2, k3⟩
  · rfl
  · exact absurd k2 (h i k1)
  · exact absurd h2 (k j h1)
  · rcases Nat.lt_trichotomy i j with c | c | c
    · exact absurd k2 (h3 i c)
    · rw [c]
    · exact absurd h2 (k3 j c)
theorem Found.range {l : List (S62)} {x y r : Int} (h : Found l x y r) : -1 ≤ r ∧ r < l.length := by
  rcases h with ⟨rfl, h⟩ | ⟨j, h1, rfl, h2, h3⟩ <;> omega
theorem found_first (l : List (S62)) (x y : Int) : (∀ i : Nat, i < l.length → ¬ At l x y i) ∨ ∃ j : Nat, j < l.length ∧ At l x y j ∧ ∀ i : Nat, i < j → ¬ At l x y i := by
  have : DecidablePred fun i => ¬ At l x y i := fun _ => Classical.propDecidable _
  rcases first_or_all (fun i => ¬ At l x y i) l.length with h | ⟨j, h1, h2, h3⟩
  · exact .inl h
  · exact .inr ⟨j, h1, Classical.not_not.1 h2, h3⟩
theorem at_cond (l : List (S62)) (x y : Int) (i : Nat) : (((l.getD i z62).f0.f0 == x && (l.getD i z62).f0.f1 == y) = true) ↔ At l x y i := by simp [At]
theorem find_spec (w h : Int) (l : List (S62)) (x y : Int) (hl : l.length ≤ 1048576) : ∃ r, Ev (fun k => spec_l01Find.f k [(⟨w, h, l⟩ : S30)] x y) r ∧ Found l x y r := by
  unfold spec_l01Find.f
  rcases found_first l x y with hh | ⟨j, h1, h2, h3⟩
  · refine ⟨-1, ev_loop2 (g := fun k i => spec_l01Find.l0 k [(⟨w, h, l⟩ : S30)] i x y) (fun i => (i : Int)) l.length ?_ fun i hi ih => ?_, .inl ⟨rfl, hh⟩⟩
    · refine Ev.step (fun k => by rw [spec_l01Find.l0]) ?_
      simp only [rd0]
      exact Ev.iteT (by simp) (Ev.iteF (by omega) (Ev.now _))
    · refine Ev.step (fun k => by rw [spec_l01Find.l0]) ?_
      simp only [rd0, rdp]
      refine Ev.iteT (by simp) (Ev.iteT (by omega) (Ev.iteT (by omega) (Ev.iteF (fun c => hh i hi ((at_cond l x y i).1 c)) ?_)))
      rw [w64 (by omega)]
      exact ih
  · refine ⟨(j : Int), ev_loop2 (g := fun k i => spec_l01Find.l0 k [(⟨w, h, l⟩ : S30)] i x y) (fun i => (i : Int)) j ?_ fun i hi ih => ?_, .inr ⟨j, h1, rfl, h2, h3⟩⟩
    · refine Ev.step (fun k => by rw [spec_l01Find.l0]) ?_
      simp only [rd0, rdp]
      exact Ev.iteT (by simp) (Ev.iteT (by omega) (Ev.iteT (by omega) (Ev.iteT ((at_cond l x y j).2 h2) (Ev.now _))))
    · refine Ev.step (fun k => by rw [spec_l01Find.l0]) ?_
      simp only [rd0, rdp]
      refine Ev.iteT (by simp) (Ev.iteT (by omega) (Ev.iteT (by omega) (Ev.iteF (fun c => h3 i hi ((at_cond l x y i).1 c)) ?_)))
      rw [w64 (by omega)]
      exact ih
/-- What is right of the piece at a place. -/
def Good (w h : Int) (l : List (S62)) (i : Nat) : Prop := VP (l.getD i z62) ∧ ((0 ≤ (l.getD i z62).f0.f0 ∧ (l.getD i z62).f0.f0 < w) ∧ 0 ≤ (l.getD i z62).f0.f1 ∧ (l.getD i z62).f0.f1 < h) ∧ ∀ j, j < i → ¬ At l (l.getD i z62).f0.f0 (l.getD i z62).f0.f1 j
structure BoardOk (w h : Int) (l : List (S62)) : Prop where
  wide : 1 ≤ w ∧ w ≤ 24
  high : 1 ≤ h ∧ h ≤ 24
  len : l.length ≤ 200
  piece : ∀ i : Nat, i < l.length → Good w h l i
theorem spec_ok (w h : Int) (l : List (S62)) (hw : -128 ≤ w ∧ w ≤ 127) (hh : -128 ≤ h ∧ h ≤ 127) (hx : ∀ y ∈ l, ok62 y) (hl : l.length ≤ 1048576) :
    ∃ r, Ev (fun k => spec_l01Ok.f k [(⟨w, h, l⟩ : S30)]) r ∧ (r = true ↔ BoardOk w h l) := by
  have hj : Ev (fun k => spec_l01Ok.j0 k [(⟨w, h, l⟩ : S30)] true) false := Ev.step (f := fun _ => some false) (fun k => by simp [spec_l01Ok.j0]) (Ev.now _)
  have key : ∃ s, Ev (fun k => spec_l01Ok.l0 k [(⟨w, h, l⟩ : S30)] 0) s ∧ (s = true ↔ (∀ i : Nat, i < l.length → Good w h l i) ∧ True) := by
    refine ev_scanB (g := fun k i => spec_l01Ok.l0 k [(⟨w, h, l⟩ : S30)] i) (r := true) (fun i => Good w h l i) (by simp) (fun _ => ?_) (fun i hi hp s hs => ?_) (fun i hi hp => ?_)
    · refine Ev.step (fun k => by rw [spec_l01Ok.l0]) ?_
      simp only [rd0]
      exact Ev.iteT (by simp) (Ev.iteF (by omega) (Ev.now _))
    all_goals
      have ho : ok62 (l.getD i z62) := getD_mem hx _ _ hi
      have hv := spec_valid ho
      obtain ⟨r, f1, f2⟩ := find_spec w h l (l.getD i z62).f0.f0 (l.getD i z62).f0.f1 hl
      have hin : spec_l01In.f (l.getD i z62).f0.f0 (l.getD i z62).f0.f1 (wrap64 w) (wrap64 h) = some (decide ((0 ≤ (l.getD i z62).f0.f0 ∧ (l.getD i z62).f0.f0 < w) ∧ 0 ≤ (l.getD i z62).f0.f1 ∧ (l.getD i z62).f0.f1 < h)) := by
        rw [w64 (n := w) (by omega), w64 (n := h) (by omega)]
        exact spec_in _ _ _ _ ho.1.1 ho.1.2 hw hh
      refine Ev.step (fun k => by rw [spec_l01Ok.l0]) ?_
      simp only [rd0, rdp]
      refine Ev.iteT (by simp) (Ev.iteT (by omega) (Ev.iteT (by omega) (Ev.bindc hv ?_)))
    · obtain ⟨g1, g2, g3⟩ := hp
      have e : r = (i : Int) := f2.same (.inr ⟨i, hi, rfl, ⟨rfl, rfl⟩, g3⟩)
      refine Ev.iteT (decide_eq_true g1) (Ev.bindc hin (Ev.iteT (decide_eq_true g2) (Ev.bind f1 (Ev.iteT e ?_))))
      rw [w64 (by omega)]
      exact hs
    · by_cases g1 : VP (l.getD i z62)
      · by_cases g2 : (0 ≤ (l.getD i z62).f0.f0 ∧ (l.getD i z62).f0.f0 < w) ∧ 0 ≤ (l.getD i z62).f0.f1 ∧ (l.getD i z62).f0.f1 < h
        · refine Ev.iteT (decide_eq_true g1) (Ev.bindc hin (Ev.iteT (decide_eq_true g2) (Ev.bind f1 (Ev.iteF (fun e => hp ⟨g1, g2, ?_⟩) (Ev.now _)))))
          rcases f2 with ⟨e', _⟩ | ⟨j, _, e', _, f3⟩
          · omega
          · have : j = i := by omega
            exact this ▸ f3
        · exact Ev.iteT (decide_eq_true g1) (Ev.bindc hin (Ev.iteF (by simpa using g2) (Ev.now _)))
      · exact Ev.iteF (by simpa using g1) (Ev.now _)
  obtain ⟨s, k1, k2⟩ := key
  unfold spec_l01Ok.f
  simp only [rd0, in_same, in_some]
  rw [w64 (n := w) (by omega), w64 (n := h) (by omega)]
  by_cases h1 : 1 ≤ w ∧ w ≤ 24
  · by_cases h2 : 1 ≤ h ∧ h ≤ 24
    · by_cases h3 : (l.length : Int) > 200
      · refine ⟨false, Ev.iteT (by simp) (Ev.bindc rfl (Ev.iteT (by simpa using h1) (Ev.bindc rfl (Ev.iteT (by simpa using h2) ?_)))), ?_⟩
        · rw [decide_eq_true h3]; exact hj
        · simp only [Bool.false_eq_true, false_iff]; intro h; have := h.len; omega
      · refine ⟨s, Ev.iteT (by simp) (Ev.bindc rfl (Ev.iteT (by simpa using h1) (Ev.bindc rfl (Ev.iteT (by simpa using h2) (Ev.step (fun k => by rw [spec_l01Ok.j0]) (Ev.iteF (by simpa using h3) k1)))))), ?_⟩
        rw [k2]; exact ⟨fun h => ⟨h1, h2, by omega, h.1⟩, fun h => ⟨h.piece, trivial⟩⟩
    · refine ⟨false, Ev.iteT (by simp) (Ev.bindc rfl (Ev.iteT (by simpa using h1) (Ev.bindc rfl (Ev.iteF (by simpa using h2) hj)))), ?_⟩
      simp only [Bool.false_eq_true, false_iff]; intro h; have := h.high; omega
  · refine ⟨false, Ev.iteT (by simp) (Ev.bindc rfl (Ev.iteF (by simpa using h1) hj)), ?_⟩
    simp only [Bool.false_eq_true, false_iff]; intro h; have := h.wide; omega
/-- The cells of the first pieces, as the keys of a map. -/
def cells (l : List (S62)) (i : Nat) : List ((Int × Int) × Unit) := (l.take i).map fun p => ((p.f0.f0, p.f0.f1), ())
theorem cells_next (l : List (S62)) (i : Nat) (h : i < l.length) : cells l i ++ [(((l.getD i z62).f0.f0, (l.getD i z62).f0.f1), ())] = cells l (i + 1) := by
  unfold cells
  rw [List.take_succ_eq_append_getElem h, List.map_append, getD_at _ _ _ h]
  rfl
theorem cells_find (l : List (S62)) (i : Nat) (h : i ≤ l.length) (x y : Int) : (Go.Proofs.YtdjhcnepndflmaaX.mfind (cells l i) x y).isSome = true ↔ ∃ j, j < i ∧ At l x y j := by
  unfold Go.Proofs.YtdjhcnepndflmaaX.mfind cells
  rw [Option.isSome_map, List.find?_isSome]
  constructor
  · rintro ⟨p, hp, hq⟩
    obtain ⟨q, hq1, rfl⟩ := List.mem_map.1 hp
    obtain ⟨j, hj, e⟩ := List.mem_take_iff_getElem.1 hq1
    refine ⟨j, by omega, ?_⟩
    unfold At
    rw [getD_at _ _ _ (by omega), e]
    simp only [Bool.and_eq_true, beq_iff_eq] at hq
    exact ⟨hq.1.symm, hq.2.symm⟩
  · rintro ⟨j, hj, e1, e2⟩
    rw [getD_at _ _ _ (by omega)] at e1 e2
    refine ⟨((l[j].f0.f0, l[j].f0.f1), ()), List.mem_map.2 ⟨l[j], List.mem_take_iff_getElem.2 ⟨j, by omega, rfl⟩, rfl⟩, ?_⟩
    simp [e1, e2]
theorem impl_ok (w h : Int) (l : List (S62)) (hw : -128 ≤ w ∧ w ≤ 127) (hh : -128 ≤ h ∧ h ≤ 127) (hx : ∀ y ∈ l, ok62 y) (hl : l.length ≤ 1048576) :
    ∃ r, Ev (fun k => impl_ValidBoard.f k w h l) r ∧ (r = true ↔ BoardOk w h l) := by
  have hj : Ev (fun k => impl_ValidBoard.j0 k true w h l) false := Ev.step (f := fun _ => some false) (fun k => by simp [impl_ValidBoard.j0]) (Ev.now _)
  have key : ∃ s, Ev (fun k => impl_ValidBoard.l0 k l l.length 0 w h l []) s ∧ (s = true ↔ (∀ i : Nat, i < l.length → Good w h l i) ∧ True) := by
    refine ev_scanB (g := fun k i => impl_ValidBoard.l0 k l l.length i w h l (cells l i.toNat)) (r := true) (fun i => Good w h l i) (by simp) (fun _ => ?_) (fun i hi hp s hs => ?_) (fun i hi hp => ?_)
    · refine Ev.step (fun k => by rw [impl_ValidBoard.l0]) ?_
      exact Ev.iteF (by omega) (Ev.now _)
    all_goals
      have ho : ok62 (l.getD i z62) := getD_mem hx _ _ hi
      have hv := impl_valid ho
      have hc := cells_find l i (Nat.le_of_lt hi) (l.getD i z62).f0.f0 (l.getD i z62).f0.f1
      refine Ev.step (fun k => by rw [impl_ValidBoard.l0]) ?_
      simp only [rdp, Int.toNat_natCast]
      refine Ev.iteT (by omega) (Ev.iteT (by omega) (Ev.iteT (by omega) (Ev.bindc hv ?_)))
    · obtain ⟨g1, g2, g3⟩ := hp
      refine Ev.iteT (decide_eq_true g1) (Ev.bindc (impl_has w h l _ _) (Ev.iteT (decide_eq_true g2) (Ev.iteF (fun c => ?_) ?_)))
      · obtain ⟨j, j1, j2⟩ := hc.1 c
        exact g3 j j1 j2
      · rw [cells_next l i hi, w64 (by omega)]
        simpa using hs
    · by_cases g1 : VP (l.getD i z62)
      · by_cases g2 : (0 ≤ (l.getD i z62).f0.f0 ∧ (l.getD i z62).f0.f0 < w) ∧ 0 ≤ (l.getD i z62).f0.f1 ∧ (l.getD i z62).f0.f1 < h
        · refine Ev.iteT (decide_eq_true g1) (Ev.bindc (impl_has w h l _ _) (Ev.iteT (decide_eq_true g2) (Ev.iteT (hc.2 ?_) (Ev.now _))))
          apply Classical.byContradiction
          intro hno
          exact hp ⟨g1, g2, fun j hj c => hno ⟨j, hj, c⟩⟩
        · exact Ev.iteT (decide_eq_true g1) (Ev.bindc (impl_has w h l _ _) (Ev.iteF (by simpa using g2) (Ev.now _)))
      · exact Ev.iteF (by simpa using g1) (Ev.now _)
  obtain ⟨s, k1, k2⟩ := key
  unfold impl_ValidBoard.f
  simp only [in_some]
  rw [w64 (n := w) (by omega), w64 (n := h) (by omega)]
  by_cases h1 : 1 ≤ w ∧ w ≤ 24
  · by_cases h2 : 1 ≤ h ∧ h ≤ 24
    · by_cases h3 : (l.length : Int) > 200
      · refine ⟨false, Ev.bindc rfl (Ev.iteT (by simpa using h1) (Ev.bindc rfl (Ev.iteT (by simpa using h2) ?_))), ?_⟩
        · rw [decide_eq_true h3]; exact hj
        · simp only [Bool.false_eq_true, false_iff]; intro h; have := h.len; omega
      · refine ⟨s, Ev.bindc rfl (Ev.iteT (by simpa using h1) (Ev.bindc rfl (Ev.iteT (by simpa using h2) (Ev.step (fun k => by rw [impl_ValidBoard.j0]) (Ev.iteF (by simpa using h3) k1))))), ?_⟩
        rw [k2]; exact ⟨fun h => ⟨h1, h2, by omega, h.1⟩, fun h => ⟨h.piece, trivial⟩⟩
    · refine ⟨false, Ev.bindc rfl (Ev.iteT (by simpa using h1) (Ev.bindc rfl (Ev.iteF (by simpa using h2) hj))), ?_⟩
      simp only [Bool.false_eq_true, false_iff]; intro h; have := h.high; omega
  · refine ⟨false, Ev.bindc rfl (Ev.iteF (by simpa using h1) hj), ?_⟩
    simp only [Bool.false_eq_true, false_iff]; intro h; have := h.wide; omega
theorem both_ok (w h : Int) (l : List (S62)) (hw : -128 ≤ w ∧ w ≤ 127) (hh : -128 ≤ h ∧ h ≤ 127) (hx : ∀ y ∈ l, ok62 y) (hl : l.length ≤ 1048576) :
    ∃ r, Ev (fun k => spec_l01Ok.f k [(⟨w, h, l⟩ : S30)]) r ∧ Ev (fun k => impl_ValidBoard.f k w h l) r ∧ (r = true → BoardOk w h l) := by
  obtain ⟨r, h1, h2⟩ := spec_ok w h l hw hh hx hl
  obtain ⟨q, h3, h4⟩ := impl_ok w h l hw hh hx hl
  obtain rfl := bool_same h2 h4
  exact ⟨r, h1, h3, h2.1⟩

def sgn (k : Int) : Int := bt (⟨#[108, 99, 102, 111, 103, 120]⟩ : ByteArray) k
/-- What stands in a cell once the first pieces have been written. -/
def cellN (l : List (S62)) : Nat → Int → Int → Int
  | 0, _, _ => 46
  | i + 1, x, y => if (l.getD i z62).f0.f0 = x ∧ (l.getD i z62).f0.f1 = y then sgn (l.getD i z62).f1 else cellN l i x y
def rowN (l : List (S62)) (i : Nat) (y : Int) (W : Nat) : List Int := (List.range W).map fun (x : Nat) => cellN l i (x : Int) y
def rowsN (l : List (S62)) (i H W : Nat) : List (List Int) := (List.range H).map fun (y : Nat) => rowN l i (y : Int) W
theorem cellN_none {l : List (S62)} {x y : Int} : ∀ i, (∀ j, j < i → ¬ At l x y j) → cellN l i x y = 46
  | 0, _ => rfl
  | i + 1, h => by
    rw [cellN, if_neg (show ¬ (_ ∧ _) from h i (by omega))]
    exact cellN_none i fun j hj => h j (by omega)
theorem cellN_some {l : List (S62)} {x y : Int} {j : Nat} (hj : At l x y j) : ∀ i, j < i → (∀ q, j < q → q < i → ¬ At l x y q) → cellN l i x y = sgn (l.getD j z62).f1
  | 0, h, _ => by omega
  | i + 1, h, k => by
    by_cases e : j = i
    · subst e
      rw [cellN, if_pos (show _ ∧ _ from hj)]
    · rw [cellN, if_neg (show ¬ (_ ∧ _) from k i (by omega) (by omega))]
      exact cellN_some hj i (by omega) fun q h1 h2 => k q h1 (by omega)
theorem rowN_len (l : List (S62)) (i : Nat) (y : Int) (W : Nat) : (rowN l i y W).length = W := by simp [rowN]
theorem rowsN_len (l : List (S62)) (i H W : Nat) : (rowsN l i H W).length = H := by simp [rowsN]
theorem rowsN_at (l : List (S62)) (i H W y : Nat) (h : y < H) : (rowsN l i H W).getD y [] = rowN l i (y : Int) W := by
  rw [List.getD_eq_getElem?_getD, rowsN, List.getElem?_map, List.getElem?_range h]
  rfl
theorem rowsN_zero (l : List (S62)) (H W : Nat) : rowsN l 0 H W = List.replicate H (List.replicate W 46) := by
  have e : ∀ y : Int, rowN l 0 y W = List.replicate W 46 := fun y => by
    simp only [rowN, cellN]
    rw [List.map_const', List.length_range]
  simp only [rowsN, e]
  rw [List.map_const', List.length_range]
theorem rowsN_step (l : List (S62)) (i H W x y : Nat) (hx : x < W) (hy : y < H) (ex : (l.getD i z62).f0.f0 = (x : Int)) (ey : (l.getD i z62).f0.f1 = (y : Int)) :
    (rowsN l i H W).set y (((rowsN l i H W).getD y []).set x (sgn (l.getD i z62).f1)) = rowsN l (i + 1) H W := by
  rw [rowsN_at l i H W y hy]
  apply List.ext_getElem
  · simp [rowsN]
  · intro j h1 h2
    have hj : j < H := by simpa [rowsN] using h2
    rw [List.getElem_set]
    by_cases e : y = j
    · subst e
      rw [if_pos rfl]
      simp only [rowsN, List.getElem_map, List.getElem_range]
      apply List.ext_getElem
      · simp [rowN]
      · intro q h3 h4
        have hq : q < W := by simpa [rowN] using h4
        rw [List.getElem_set]
        simp only [rowN, List.getElem_map, List.getElem_range, cellN, ex, ey]
        by_cases e2 : x = q
        · subst e2
          rw [if_pos rfl]
          simp
        · rw [if_neg e2, if_neg (fun c => e2 (by have := c.1; omega))]
    · rw [if_neg e]
      simp only [rowsN, List.getElem_map, List.getElem_range, rowN, cellN, ex, ey]
      apply List.map_congr_left
      intro q _
      rw [if_neg (fun c => e (by have := c.2; omega))]
theorem out_l2 (rows : List (List Int)) (hl : rows.length ≤ 1000) : Ev (fun k => impl_Board_picture__impl_Board_kindSign.l2 k [] rows (rows.length : Int) 0) (rows.map strOfNums) := by
  have h := ev_loop2 (g := fun k (s : List ByteArray × Int) => impl_Board_picture__impl_Board_kindSign.l2 k s.1 rows (rows.length : Int) s.2) (fun i => ((rows.take i).map strOfNums, (i : Int))) rows.length (r := rows.map strOfNums) ?_ fun i hi ih => ?_
  · simpa using h
  · refine Ev.step (fun k => by rw [impl_Board_picture__impl_Board_kindSign.l2]) (Ev.iteF (by omega) ?_)
    rw [List.take_length]
    exact Ev.now _
  · refine Ev.step (fun k => by rw [impl_Board_picture__impl_Board_kindSign.l2]) ?_
    refine Ev.iteT (by omega) (Ev.iteT (by omega) (Ev.iteT (by omega) (Ev.iteT (by simp; omega) ?_)))
    rw [wq (by omega) (show (i : Int) + 1 = ((i + 1 : Nat) : Int) by omega)]
    have e : (rows.take i).map strOfNums ++ [strOfNums (rd_L11 rows (i : Int))] = (rows.take (i + 1)).map strOfNums := by
      rw [List.take_succ_eq_append_getElem hi, List.map_append]
      have : rd_L11 rows (i : Int) = rows[i] := getD_at _ _ _ hi
      rw [this]
      rfl
    rw [e]
    exact ih
theorem sign_at (w h : Int) (l : List (S62)) (i : Nat) (hi : i < l.length) (hk : 0 ≤ (l.getD i z62).f1 ∧ (l.getD i z62).f1 ≤ 5) : impl_Board_kindSign.f [(⟨w, h, l⟩ : S30)] (i : Int) = some (sgn (l.getD i z62).f1) := by
  unfold impl_Board_kindSign.f
  simp only [rd0, rdp]
  rw [if_pos (by simp), if_pos (by omega), if_pos (by omega), if_pos hk.1, if_pos (by omega)]
  rfl
theorem impl_pic {w h : Int} {l : List (S62)} (hb : BoardOk w h l) : Ev (fun k => impl_Board_picture__impl_Board_kindSign.f k [(⟨w, h, l⟩ : S30)] [(⟨w, h, l⟩ : S30)]) ((rowsN l l.length h.toNat w.toNat).map strOfNums) := by
  have hlen := hb.len
  have hw := hb.wide
  have hh := hb.high
  obtain ⟨W, rfl⟩ := Int.eq_ofNat_of_zero_le (show 0 ≤ w by omega)
  obtain ⟨H, rfl⟩ := Int.eq_ofNat_of_zero_le (show 0 ≤ h by omega)
  simp only [Int.toNat_natCast]
  have h1 : Ev (fun k => impl_Board_picture__impl_Board_kindSign.l1 k (rowsN l 0 H W) l (l.length : Int) 0 [(⟨(W : Int), (H : Int), l⟩ : S30)]) ((rowsN l l.length H W).map strOfNums) := by
    refine ev_loop2 (g := fun k (s : List (List Int) × Int) => impl_Board_picture__impl_Board_kindSign.l1 k s.1 l (l.length : Int) s.2 [(⟨(W : Int), (H : Int), l⟩ : S30)]) (fun i => (rowsN l i H W, (i : Int))) l.length ?_ fun i hi ih => ?_
    · refine Ev.step (fun k => by rw [impl_Board_picture__impl_Board_kindSign.l1]) (Ev.iteF (by omega) ?_)
      exact out_l2 _ (by rw [rowsN_len]; omega)
    · obtain ⟨⟨v1, _⟩, ⟨⟨p1, p2⟩, p3, p4⟩, _⟩ := hb.piece i hi
      obtain ⟨x, ex⟩ := Int.eq_ofNat_of_zero_le p1
      obtain ⟨y, ey⟩ := Int.eq_ofNat_of_zero_le p3
      have hlr : ((rowsN l i H W).length : Int) = H := by rw [rowsN_len]
      refine Ev.step (fun k => by rw [impl_Board_picture__impl_Board_kindSign.l1]) ?_
      simp only [rdp]
      refine Ev.iteT (by omega) (Ev.iteT (by omega) (Ev.iteT (by omega) (Ev.iteT (by omega) (Ev.iteT (by omega) (Ev.bindc (sign_at (W : Int) (H : Int) l i hi v1) (Ev.iteT (by omega) ?_))))))
      rw [ex, ey, show rd_L11 (rowsN l i H W) (y : Int) = (rowsN l i H W).getD y [] from rfl, Int.toNat_natCast, Int.toNat_natCast, wq (by omega) (show (i : Int) + 1 = ((i + 1 : Nat) : Int) by omega)]
      refine Ev.iteT (by rw [rowsN_at l i H W y (by omega), rowN_len]; omega) ?_
      rw [rowsN_step l i H W x y (by omega) (by omega) ex ey]
      exact ih
  rw [rowsN_zero] at h1
  unfold impl_Board_picture__impl_Board_kindSign.f
  simp only [rd0]
  refine Ev.iteT (by simp) ?_
  refine ev_loop2 (g := fun k (s : List (List Int) × Int) => impl_Board_picture__impl_Board_kindSign.l0 k [(⟨(W : Int), (H : Int), l⟩ : S30)] s.1 (H : Int) s.2 [(⟨(W : Int), (H : Int), l⟩ : S30)]) (fun i => (List.replicate i (List.replicate W 46), (i : Int))) H ?_ fun i hi ih => ?_
  · refine Ev.step (fun k => by rw [impl_Board_picture__impl_Board_kindSign.l0]) (Ev.iteF (by omega) ?_)
    simp only [rd0]
    exact Ev.iteT (by simp) h1
  · refine Ev.step (fun k => by rw [impl_Board_picture__impl_Board_kindSign.l0]) (Ev.iteT (by omega) ?_)
    simp only [rd0]
    refine Ev.iteT (by simp) ?_
    rw [w64 (n := (W : Int)) (by omega), w8 (n := (i : Int) + 1) (by omega)]
    refine Ev.bindc (x := List.replicate W 46) ?_ (Ev.iteT (by rw [List.length_replicate]; omega) ?_)
    · unfold slices_Repeat_byte_byte.f
      rw [if_pos ⟨rfl, by omega, by omega⟩]
      rfl
    · rw [← List.replicate_succ']
      exact ih
theorem str_snoc (xs : List Int) (c : Int) : strOfNums xs ++ strOfNums [c] = strOfNums (xs ++ [c]) := by
  apply ByteArray.ext
  simp [strOfNums, ByteArray.data_append]
theorem letters {k : Int} (h : 0 ≤ k ∧ k ≤ 5) : (⟨#[108, 99, 102, 111, 103, 120]⟩ : ByteArray).extract k.toNat (k + 1).toNat = strOfNums [sgn k] := by
  have : k = 0 ∨ k = 1 ∨ k = 2 ∨ k = 3 ∨ k = 4 ∨ k = 5 := by omega
  rcases this with h | h | h | h | h | h <;> subst h <;> decide +kernel
theorem rowN_snoc (l : List (S62)) (i : Nat) (y : Int) (x : Nat) : rowN l i y x ++ [cellN l i (x : Int) y] = rowN l i y (x + 1) := by
  simp only [rowN, List.range_succ, List.map_append]
  rfl
theorem spec_pic {w h : Int} {l : List (S62)} (hb : BoardOk w h l) : Ev (fun k => spec_BoardPicture.l0 k [] 0 w h l) ((rowsN l l.length h.toNat w.toNat).map strOfNums, 0) := by
  have hlen := hb.len
  have hw := hb.wide
  have hh := hb.high
  obtain ⟨W, rfl⟩ := Int.eq_ofNat_of_zero_le (show 0 ≤ w by omega)
  obtain ⟨H, rfl⟩ := Int.eq_ofNat_of_zero_le (show 0 ≤ h by omega)
  simp only [Int.toNat_natCast]
  refine ev_loop2 (g := fun k (s : List ByteArray × Int) => spec_BoardPicture.l0 k s.1 s.2 (W : Int) (H : Int) l) (fun i => ((rowsN l l.length i W).map strOfNums, (i : Int))) H ?_ fun y hy ih => ?_
  · exact Ev.step (fun k => by rw [spec_BoardPicture.l0]) (Ev.iteF (by omega) (Ev.now _))
  · refine Ev.step (fun k => by rw [spec_BoardPicture.l0]) (Ev.iteT (by omega) ?_)
    refine ev_loop2 (g := fun k (s : ByteArray × Int) => spec_BoardPicture.l1 k ((rowsN l l.length y W).map strOfNums) (y : Int) s.1 s.2 (W : Int) (H : Int) l) (fun x => (strOfNums (rowN l l.length (y : Int) x), (x : Int))) W ?_ fun x hx ih2 => ?_
    · refine Ev.step (fun k => by rw [spec_BoardPicture.l1]) (Ev.iteF (by omega) (Ev.iteT (by rw [List.length_map, rowsN_len]; omega) ?_))
      rw [w8 (n := (y : Int) + 1) (by omega)]
      have e : (rowsN l l.length y W).map strOfNums ++ [strOfNums (rowN l l.length (y : Int) W)] = (rowsN l l.length (y + 1) W).map strOfNums := by
        simp only [rowsN, List.range_succ, List.map_append]
        rfl
      rw [e]
      exact ih
    · obtain ⟨r, f1, f2⟩ := find_spec (W : Int) (H : Int) l (x : Int) (y : Int) (by omega)
      have hs : (strOfNums (rowN l l.length (y : Int) x)).size = x := by rw [strOfNums_size, rowN_len]
      refine Ev.step (fun k => by rw [spec_BoardPicture.l1]) (Ev.iteT (by omega) (Ev.bind f1 ?_))
      rw [w8 (n := (x : Int) + 1) (by omega)]
      rcases f2 with ⟨rfl, hn⟩ | ⟨j, hj, rfl, hat, hno⟩
      · refine Ev.iteT (by omega) (Ev.iteT (by rw [hs]; omega) ?_)
        have e : strOfNums (rowN l l.length (y : Int) x) ++ (⟨#[46]⟩ : ByteArray) = strOfNums (rowN l l.length (y : Int) (x + 1)) := by
          rw [← rowN_snoc, ← str_snoc, cellN_none _ hn]
          rfl
        rw [e]
        exact ih2
      · have hg := (hb.piece j hj).1.1
        simp only [rdp]
        rw [w8 (n := (l.getD j z62).f1 + 1) (by omega), letters hg]
        refine Ev.iteF (by omega) (Ev.iteT (by omega) (Ev.iteT (by omega) (Ev.iteT hg.1 (Ev.iteT (by omega) (Ev.iteT (by omega) (Ev.iteT (by rw [hs, strOfNums_size]; simp only [List.length_cons, List.length_nil]; omega) ?_))))))
        have e : strOfNums (rowN l l.length (y : Int) x) ++ strOfNums [sgn (l.getD j z62).f1] = strOfNums (rowN l l.length (y : Int) (x + 1)) := by
          rw [← rowN_snoc, ← str_snoc, cellN_some hat l.length hj fun q h1 h2 c => ?_]
          have hu := (hb.piece q h2).2.2 j h1
          rw [c.1, c.2] at hu
          exact hu hat
        rw [e]
        exact ih2
theorem core (x0_0 : Int) (x0_1 : Int) (x0_2 : List (S62)) (ox0_0 : (-128 ≤ x0_0 ∧ x0_0 ≤ 127)) (ox0_1 : (-128 ≤ x0_1 ∧ x0_1 ≤ 127)) (ox0_2 : ∀ y ∈ x0_2, ok62 y) (nx0_2 : x0_2.length ≤ 1048576) : ∃ r : List ByteArray × Int, Ev (fun k => spec_BoardPicture.f k x0_0 x0_1 x0_2) r ∧ Ev (fun k => impl_BoardPicture.f k x0_0 x0_1 x0_2) r ∧ r.1.length ≤ 1099511627776 := by
  obtain ⟨r, h1, h2, hr⟩ := both_ok x0_0 x0_1 x0_2 ox0_0 ox0_1 ox0_2 nx0_2
  unfold spec_BoardPicture.f impl_BoardPicture.f
  cases r
  · exact ⟨([], 1), Ev.bind h1 (Ev.iteF (by simp) (Ev.now _)), Ev.bind h2 (Ev.iteF (by simp) (Ev.now _)), by simp⟩
  · have hh := (hr rfl).high
    exact ⟨(_, 0), Ev.bind h1 (Ev.iteT rfl (spec_pic (hr rfl))), Ev.bind h2 (Ev.iteT rfl (Ev.bind (impl_pic (hr rfl)) (Ev.now _))), by dsimp only; rw [List.length_map, rowsN_len]; omega⟩

theorem FnExactBoardPicture : QFnExactBoardPicture.Pure := by
  rintro ⟨x0_0, x0_1, x0_2⟩ ⟨wx0_0, wx0_1, wx0_2⟩
  have ox0_0 : (-128 ≤ x0_0 ∧ x0_0 ≤ 127) := i8b wx0_0
  have ox0_1 : (-128 ≤ x0_1 ∧ x0_1 ≤ 127) := i8b wx0_1
  obtain ⟨wx0_2, mx0_2⟩ := wx0_2
  have mx0_2 : x0_2.length ≤ 9223372036854775807 := mx0_2
  refine Ev.rounds (r := true) ?_
  unfold laws_FnExactBoardPicture.f
  obtain ⟨r_0, e_0, c_0⟩ := szBoard x0_0 x0_1 x0_2 (1048576) (by omega) mx0_2
  refine Ev.bindc e_0 ?_
  rcases c_0 with c_0 | ⟨rfl, c_0⟩
  · exact Ev.iteT c_0 (Ev.now _)
  refine Ev.iteF (by omega) ?_
  refine Ev.bind (toBoard _ _ _ (by first | omega | ((try dsimp only); (try simp only [List.length_map, List.length_range, List.length_nil]); omega) | (simp; omega))) ?_
  try dsimp only
  obtain ⟨⟨r0, r1⟩, hs, hi, hb⟩ := core x0_0 x0_1 (x0_2.map cv78_62) ox0_0 ox0_1 (fun y hy => by obtain ⟨z, hz, rfl⟩ := List.mem_map.1 hy; exact okof78_62 (wx0_2 z hz)) (by first | omega | ((try dsimp only); (try simp only [List.length_map, List.length_range, List.length_nil]); omega) | (simp; omega))
  have b0 := hb
  try dsimp only at b0
  refine Ev.bind hs ?_
  try dsimp only
  refine Ev.bind (toBoard _ _ _ (by first | omega | ((try dsimp only); (try simp only [List.length_map, List.length_range, List.length_nil]); omega) | (simp; omega))) ?_
  try dsimp only
  refine Ev.bind hi ?_
  try dsimp only
  refine Ev.bind (eqStringS _ (by first | omega | ((try dsimp only); (try simp only [List.length_map, List.length_range, List.length_nil]); omega) | (simp; omega))) ?_
  try dsimp only
  refine Ev.iteT (by first | rfl | (first | omega | ((try dsimp only); (try simp only [List.length_map, List.length_range, List.length_nil]); omega) | (simp; omega))) ?_
  try dsimp only
  refine Ev.iteT (by first | rfl | (first | omega | ((try dsimp only); (try simp only [List.length_map, List.length_range, List.length_nil]); omega) | (simp; omega))) ?_
  try dsimp only
  refine Ev.bind (toBoard _ _ _ (by first | omega | ((try dsimp only); (try simp only [List.length_map, List.length_range, List.length_nil]); omega) | (simp; omega))) ?_
  try dsimp only
  refine Ev.bind (eqBoard _ _ _ (by first | omega | ((try dsimp only); (try simp only [List.length_map, List.length_range, List.length_nil]); omega) | (simp; omega))) ?_
  try dsimp only
  refine Ev.iteT (by first | rfl | (first | omega | ((try dsimp only); (try simp only [List.length_map, List.length_range, List.length_nil]); omega) | (simp; omega))) ?_
  try dsimp only
  refine Ev.bind (markBoard _ _ _ _ (by first | omega | ((try dsimp only); (try simp only [List.length_map, List.length_range, List.length_nil]); omega) | (simp; omega)) (by first | omega | ((try dsimp only); (try simp only [List.length_map, List.length_range, List.length_nil]); omega) | (simp; omega))) ?_
  try dsimp only
  refine Ev.iteF (by first | (simp; done) | (first | omega | ((try dsimp only); (try simp only [List.length_map, List.length_range, List.length_nil]); omega) | (simp; omega))) ?_
  try dsimp only
  refine Ev.bind (eqStringS _ (by first | omega | ((try dsimp only); (try simp only [List.length_map, List.length_range, List.length_nil]); omega) | (simp; omega))) ?_
  try dsimp only
  refine Ev.iteT (by first | rfl | (first | omega | ((try dsimp only); (try simp only [List.length_map, List.length_range, List.length_nil]); omega) | (simp; omega))) ?_
  try dsimp only
  refine Ev.bind (markStringS _ _ (by first | omega | ((try dsimp only); (try simp only [List.length_map, List.length_range, List.length_nil]); omega) | (simp; omega)) (by first | omega | ((try dsimp only); (try simp only [List.length_map, List.length_range, List.length_nil]); omega) | (simp; omega))) ?_
  try dsimp only
  refine Ev.bind (heldStringS _ _ (by first | omega | ((try dsimp only); (try simp only [List.length_map, List.length_range, List.length_nil]); omega) | (simp; omega)) (by first | omega | ((try dsimp only); (try simp only [List.length_map, List.length_range, List.length_nil]); omega) | (simp; omega))) ?_
  try dsimp only
  refine Ev.iteF (by first | (simp; done) | (first | omega | ((try dsimp only); (try simp only [List.length_map, List.length_range, List.length_nil]); omega) | (simp; omega))) ?_
  try dsimp only
  refine Ev.iteT (by first | rfl | (first | omega | ((try dsimp only); (try simp only [List.length_map, List.length_range, List.length_nil]); omega) | (simp; omega))) ?_
  try dsimp only
  refine Ev.bind (toBoard _ _ _ (by first | omega | ((try dsimp only); (try simp only [List.length_map, List.length_range, List.length_nil]); omega) | (simp; omega))) ?_
  try dsimp only
  refine Ev.bind hi ?_
  try dsimp only
  refine Ev.bind (eqStringS _ (by first | omega | ((try dsimp only); (try simp only [List.length_map, List.length_range, List.length_nil]); omega) | (simp; omega))) ?_
  try dsimp only
  refine Ev.iteT (by first | rfl | (first | omega | ((try dsimp only); (try simp only [List.length_map, List.length_range, List.length_nil]); omega) | (simp; omega))) ?_
  try dsimp only
  refine Ev.iteT (by first | rfl | (first | omega | ((try dsimp only); (try simp only [List.length_map, List.length_range, List.length_nil]); omega) | (simp; omega))) ?_
  try dsimp only
  refine Ev.bind (heldStringS _ _ (by first | omega | ((try dsimp only); (try simp only [List.length_map, List.length_range, List.length_nil]); omega) | (simp; omega)) (by first | omega | ((try dsimp only); (try simp only [List.length_map, List.length_range, List.length_nil]); omega) | (simp; omega))) ?_
  try dsimp only
  refine Ev.iteF (by first | (simp; done) | (first | omega | ((try dsimp only); (try simp only [List.length_map, List.length_range, List.length_nil]); omega) | (simp; omega))) ?_
  try dsimp only
  refine Ev.iteT (by first | rfl | (first | omega | ((try dsimp only); (try simp only [List.length_map, List.length_range, List.length_nil]); omega) | (simp; omega))) ?_
  try dsimp only
  exact Ev.now _
end Go.Proofs.Ytdjhcnepndflmaa.Pure
