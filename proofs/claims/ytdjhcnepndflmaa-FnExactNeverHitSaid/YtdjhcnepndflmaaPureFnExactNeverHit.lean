/- The pure side of the law FnExactNeverHit: for all arguments its Lean function answers true. No condition beside the arguments' kinds. -/
import Derived.Test.YtdjhcnepndflmaaQFnExactNeverHit
import Derived.Test.YtdjhcnepndflmaaTFnExactNeverHita
namespace Go.Proofs.Ytdjhcnepndflmaa.Pure
open Go.RowKit Go.Proofs.Ytdjhcnepndflmaa.PFnExactNeverHit Go.Proofs.YtdjhcnepndflmaaW.PrintWords Go.Proofs.YtdjhcnepndflmaaW.PrintLast Go.Proofs.YtdjhcnepndflmaaX Go.Proofs.Ytdjhcnepndflmaa.QFnExactNeverHit Go.Proofs.YtdjhcnepndflmaaB
set_option linter.unusedVariables false
set_option linter.unusedSimpArgs false

theorem szPieceS (l0 : List (S78)) (a_ : Int) (ha : 0 ≤ a_ ∧ a_ ≤ 1048576) (hl0 : l0.length ≤ 9223372036854775807) : ∃ r, laws_szPieceS.f l0 a_ = some r ∧ (r < 0 ∨ (r = a_ - l0.length ∧ 0 ≤ r)) := by
  unfold laws_szPieceS.f
  rw [w64 (n := a_ - l0.length) (by omega)]
  by_cases h : a_ - (l0.length : Int) < 0
  · exact ⟨-1, by rw [if_pos h], .inl (by omega)⟩
  · exact ⟨_, by rw [if_neg h], .inr ⟨rfl, by omega⟩⟩
theorem szBoard (a0_0 : Int) (a0_1 : Int) (l0_2 : List (S78)) (a_ : Int) (ha : 0 ≤ a_ ∧ a_ ≤ 1048576) (hl0_2 : l0_2.length ≤ 9223372036854775807) : ∃ r, laws_szBoard.f a0_0 a0_1 l0_2 a_ = some r ∧ (r < 0 ∨ (r = a_ - l0_2.length ∧ 0 ≤ r)) := by
  unfold laws_szBoard.f
  obtain ⟨r0, e0, c0⟩ := szPieceS l0_2 (a_) (by omega) hl0_2
  rw [e0]
  simp only [Option.bind_some]
  rcases c0 with c0 | ⟨rfl, c0⟩
  · exact ⟨-1, by rw [if_pos c0], .inl (by omega)⟩
  rw [if_neg (by omega)]
  exact ⟨_, rfl, .inr ⟨rfl, by omega⟩⟩
theorem toCell (a0_0 : Int) (a0_1 : Int)  : Ev (fun k => laws_toCell.f k a0_0 a0_1) (a0_0, a0_1) := by
  refine ⟨3, fun k hk => ?_⟩
  obtain ⟨m, rfl⟩ : ∃ m, k = m + 3 := ⟨k - 3, by omega⟩
  simp [laws_toCell.f, laws_toCell.l0, wrap64]
theorem toPiece (a0_0 : Int) (a0_1 : Int) (a0_2 : Int) (a0_3 : Int) (a0_4 : Int)  : Ev (fun k => laws_toPiece.f k a0_0 a0_1 a0_2 a0_3 a0_4) (a0_0, a0_1, a0_2, a0_3, a0_4) := by
  unfold laws_toPiece.f
  exact (Ev.bind (toCell _ _ ) (Ev.now _))
def cv26_34 (x : S26) : S34 := ⟨x.f0, x.f1⟩
def cv78_62 (x : S78) : S62 := ⟨cv26_34 x.f0, x.f1, x.f2, x.f3⟩
theorem toPieceS (l0 : List (S78)) (hl0 : l0.length ≤ 1099511627776) : Ev (fun k => laws_toPieceS.f k l0) (l0.map cv78_62) := by
  suffices main : Ev (fun k => laws_toPieceS.f k l0) (l0.map cv78_62) by exact main
  unfold laws_toPieceS.f
  refine Ev.iteT (by omega) (Ev.iteT (by omega) ?_)
  rw [Int.toNat_natCast]
  refine ev_fill2 (g := fun k x i => laws_toPieceS.l0 k l0 x i) cv78_62 l0 _ (Ev.step (f := fun _ => some _) (fun k => by simp [laws_toPieceS.l0]) (Ev.now _)) fun i h x hx ih => ?_
  have eg : l0.getD i z78 = l0[i] := getD_at _ _ _ h
  refine Ev.step (fun k => by rw [laws_toPieceS.l0]) (Ev.iteT (by omega) (Ev.iteT (by omega) ?_))
  simp only [rd_T78, Int.toNat_natCast, eg]
  refine Ev.bind (toPiece _ _ _ _ _ ) ?_
  refine Ev.iteT (by omega) ?_
  rw [w64 (by omega)]
  exact ih
theorem toBoard (a0_0 : Int) (a0_1 : Int) (l0_2 : List (S78)) (hl0_2 : l0_2.length ≤ 1099511627776) : Ev (fun k => laws_toBoard.f k a0_0 a0_1 l0_2) (a0_0, a0_1, (l0_2.map cv78_62)) := by
  unfold laws_toBoard.f
  exact (Ev.bind (toPieceS _ (by first | omega | ((try dsimp only); (try simp only [List.length_map, List.length_range, List.length_nil]); omega) | (simp; omega))) (Ev.now _))
theorem eqCell (a0_0 : Int) (a0_1 : Int)  : Ev (fun k => laws_eqCell.f k a0_0 a0_1 a0_0 a0_1) true := by
  refine ⟨3, fun k hk => ?_⟩
  obtain ⟨m, rfl⟩ : ∃ m, k = m + 3 := ⟨k - 3, by omega⟩
  simp [laws_eqCell.f, laws_eqCell.l0, wrap64]
theorem eqPiece (a0_0 : Int) (a0_1 : Int) (a0_2 : Int) (a0_3 : Int) (a0_4 : Int)  : Ev (fun k => laws_eqPiece.f k a0_0 a0_1 a0_2 a0_3 a0_4 a0_0 a0_1 a0_2 a0_3 a0_4) true := by
  unfold laws_eqPiece.f
  exact (Ev.bind (eqCell _ _ ) (Ev.iteT rfl (Ev.iteT rfl (Ev.iteT rfl (Ev.iteT rfl (Ev.now _))))))
theorem eqPieceS (l0 : List (S62)) (hl0 : l0.length ≤ 1099511627776) : Ev (fun k => laws_eqPieceS.f k l0 l0) true := by
  unfold laws_eqPieceS.f
  refine Ev.iteT rfl ?_
  refine ev_loop2 (g := fun k i => laws_eqPieceS.l0 k l0 l0 i) (fun i => (i : Int)) l0.length (Ev.step (f := fun _ => some _) (fun k => by simp [laws_eqPieceS.l0]) (Ev.now _)) fun i h ih => ?_
  refine Ev.step (fun k => by rw [laws_eqPieceS.l0]) (Ev.iteT (by omega) (Ev.iteT (by omega) (Ev.iteT (by omega) ?_)))
  refine Ev.bind (eqPiece _ _ _ _ _ ) (Ev.iteT rfl ?_)
  rw [w64 (by omega)]
  exact ih
theorem eqBoard (a0_0 : Int) (a0_1 : Int) (l0_2 : List (S62)) (hl0_2 : l0_2.length ≤ 1099511627776) : Ev (fun k => laws_eqBoard.f k a0_0 a0_1 l0_2 a0_0 a0_1 l0_2) true := by
  unfold laws_eqBoard.f
  exact (Ev.iteT rfl (Ev.iteT rfl (Ev.bind (eqPieceS _ (by first | omega | ((try dsimp only); (try simp only [List.length_map, List.length_range, List.length_nil]); omega) | (simp; omega))) (Ev.iteT rfl (Ev.now _)))))
def mk_PieceS (k : Int) : S62 := ⟨⟨IntKind.i8.wrap k, IntKind.i8.wrap (k + 1)⟩, IntKind.i8.wrap (k + 2), IntKind.i8.wrap (k + 3), IntKind.i8.wrap (k + 4)⟩
theorem markPieceS (l0 : List (S62)) (k_ : Int) (hl0 : l0.length ≤ 1099511627776) (hk : 0 ≤ k_ ∧ (k_ + 5 * (l0.length : Int)) ≤ 4611686018427387904) : Ev (fun k => laws_markPieceS.f k l0 k_) ((k_ + 5 * (l0.length : Int)), ((List.range l0.length).map fun (j : Nat) => mk_PieceS (k_ + 5 * (j : Int)))) := by
  unfold laws_markPieceS.f
  refine ev_mark (g := fun k x q i => laws_markPieceS.l0 k x q i) mk_PieceS 5 l0 k_ (Ev.step (f := fun _ => some _) (fun k => by simp [laws_markPieceS.l0]) (Ev.now _)) fun i x h hx ih => ?_
  obtain ⟨q, hq⟩ : ∃ q, q = k_ + 5 * (i : Int) := ⟨_, rfl⟩
  rw [← hq] at ih ⊢
  have hqb : 0 ≤ q ∧ q + 5 ≤ 4611686018427387904 := by omega
  rw [show k_ + 5 * ((i + 1 : Nat) : Int) = q + 5 by omega] at ih
  have hi1 : ((i : Int) < (x.length : Int)) = True := eq_true (by omega)
  have hi0 : (0 ≤ (i : Int)) = True := eq_true (by omega)
  have hix : i < x.length := by omega
  have hs : ∀ a, (x.set i a).getD i z62 = a := fun a => getD_set x i z62 a hix
  obtain ⟨e0, e1, e2, e3, e4, ei⟩ : wrap64 (q + 1) = q + 1 ∧ wrap64 ((q + 1) + 1) = q + 2 ∧ wrap64 ((q + 2) + 1) = q + 3 ∧ wrap64 ((q + 3) + 1) = q + 4 ∧ wrap64 ((q + 4) + 1) = q + 5 ∧ wrap64 ((i : Int) + 1) = ((i + 1 : Nat) : Int) := ⟨wq (by omega) (by omega), wq (by omega) (by omega), wq (by omega) (by omega), wq (by omega) (by omega), wq (by omega) (by omega), wq (by omega) (by omega)⟩
  have s0 : ∀ k, laws_markPieceS.l0 (k + 1) x q (i : Int) = laws_markPieceS.l1 k x q (i : Int) 0 := fun k => by
    rw [laws_markPieceS.l0]
    simp only [hi1, if_true]
  have s1 : ∀ k a, laws_markPieceS.l1 (k + 1) (x.set i a) q (i : Int) 0 = laws_markPieceS.l1 k (x.set i ⟨⟨IntKind.i8.wrap q, a.f0.f1⟩, a.f1, a.f2, a.f3⟩) (q + 1) (i : Int) 1 := fun k a => by
    rw [laws_markPieceS.l1]
    simp only [e0, e1, e2, e3, e4, ei, (by decide +kernel : wrap64 (0 + 1) = 1), (by decide +kernel : wrap64 (1 + 1) = 2), show (((0 : Int) < 2) = True) from eq_true (by decide), show (((1 : Int) < 2) = True) from eq_true (by decide), show (((2 : Int) < 2) = False) from eq_false (by decide), show (((0 : Int) = 0) = True) from eq_true (by decide), show (((1 : Int) = 0) = False) from eq_false (by decide), show (((1 : Int) = 1) = True) from eq_true (by decide), hi1, hi0, if_true, if_false, Option.bind_some, Int.toNat_natCast, List.length_set, List.set_set, rd_T62, hs]
  have s2 : ∀ k a, laws_markPieceS.l1 (k + 1) (x.set i a) (q + 1) (i : Int) 1 = laws_markPieceS.l1 k (x.set i ⟨⟨a.f0.f0, IntKind.i8.wrap (q + 1)⟩, a.f1, a.f2, a.f3⟩) (q + 2) (i : Int) 2 := fun k a => by
    rw [laws_markPieceS.l1]
    simp only [e0, e1, e2, e3, e4, ei, (by decide +kernel : wrap64 (0 + 1) = 1), (by decide +kernel : wrap64 (1 + 1) = 2), show (((0 : Int) < 2) = True) from eq_true (by decide), show (((1 : Int) < 2) = True) from eq_true (by decide), show (((2 : Int) < 2) = False) from eq_false (by decide), show (((0 : Int) = 0) = True) from eq_true (by decide), show (((1 : Int) = 0) = False) from eq_false (by decide), show (((1 : Int) = 1) = True) from eq_true (by decide), hi1, hi0, if_true, if_false, Option.bind_some, Int.toNat_natCast, List.length_set, List.set_set, rd_T62, hs]
  have sf : ∀ k a, laws_markPieceS.l1 (k + 1) (x.set i a) (q + 2) (i : Int) 2 = laws_markPieceS.l0 k (x.set i ⟨a.f0, IntKind.i8.wrap (q + 2), IntKind.i8.wrap (q + 3), IntKind.i8.wrap (q + 4)⟩) (q + 5) ((i + 1 : Nat) : Int) := fun k a => by
    rw [laws_markPieceS.l1]
    simp only [e0, e1, e2, e3, e4, ei, (by decide +kernel : wrap64 (0 + 1) = 1), (by decide +kernel : wrap64 (1 + 1) = 2), show (((0 : Int) < 2) = True) from eq_true (by decide), show (((1 : Int) < 2) = True) from eq_true (by decide), show (((2 : Int) < 2) = False) from eq_false (by decide), show (((0 : Int) = 0) = True) from eq_true (by decide), show (((1 : Int) = 0) = False) from eq_false (by decide), show (((1 : Int) = 1) = True) from eq_true (by decide), hi1, hi0, if_true, if_false, Option.bind_some, Int.toNat_natCast, List.length_set, List.set_set, rd_T62, hs]
  have st : ∀ k, laws_markPieceS.l0 (k + 4) x q (i : Int) = laws_markPieceS.l0 k (x.set i (mk_PieceS q)) (q + 5) ((i + 1 : Nat) : Int) := fun k => by
    rw [s0]
    have h1 := s1 (k + 2) (x.getD i z62)
    rw [set_getD x i z62 hix] at h1
    rw [h1, s2, sf]
    rfl
  exact Ev.steps 4 st ih
theorem markBoard (a0_0 : Int) (a0_1 : Int) (l0_2 : List (S62)) (k_ : Int) (hl0_2 : l0_2.length ≤ 1099511627776) (hk : 0 ≤ k_ ∧ k_ + 5 * (l0_2.length : Int) ≤ 4611686018427387904) : Ev (fun k => laws_markBoard.f k a0_0 a0_1 l0_2 k_) (k_ + 5 * (l0_2.length : Int), ((List.range l0_2.length).map fun (j : Nat) => mk_PieceS (k_ + 5 * (j : Int)))) := by
  unfold laws_markBoard.f
  exact Ev.bind (markPieceS _ _ (by omega) (by omega)) (Ev.now _)
theorem eqInt64S (l0 : List (Int)) (hl0 : l0.length ≤ 1099511627776) : Ev (fun k => laws_eqInt64S.f k l0 l0) true := by
  unfold laws_eqInt64S.f
  refine Ev.iteT rfl ?_
  refine ev_loop2 (g := fun k i => laws_eqInt64S.l0 k l0 l0 i) (fun i => (i : Int)) l0.length (Ev.step (f := fun _ => some _) (fun k => by simp [laws_eqInt64S.l0]) (Ev.now _)) fun i h ih => ?_
  refine Ev.step (fun k => by rw [laws_eqInt64S.l0]) (Ev.iteT (by omega) (Ev.iteT (by omega) (Ev.iteT (by omega) ?_)))
  refine Ev.iteT rfl ?_
  rw [w64 (by omega)]
  exact ih
def mk_Int64S (k : Int) : Int := k
theorem markInt64S (l0 : List (Int)) (k_ : Int) (hl0 : l0.length ≤ 1099511627776) (hk : 0 ≤ k_ ∧ (k_ + 1 * (l0.length : Int)) ≤ 4611686018427387904) : Ev (fun k => laws_markInt64S.f k l0 k_) ((k_ + 1 * (l0.length : Int)), ((List.range l0.length).map fun (j : Nat) => mk_Int64S (k_ + 1 * (j : Int)))) := by
  unfold laws_markInt64S.f
  refine ev_mark (g := fun k x q i => laws_markInt64S.l0 k x q i) mk_Int64S 1 l0 k_ (Ev.step (f := fun _ => some _) (fun k => by simp [laws_markInt64S.l0]) (Ev.now _)) fun i x h hx ih => ?_
  obtain ⟨q, hq⟩ : ∃ q, q = k_ + 1 * (i : Int) := ⟨_, rfl⟩
  rw [← hq] at ih ⊢
  have hqb : 0 ≤ q ∧ q + 1 ≤ 4611686018427387904 := by omega
  rw [show k_ + 1 * ((i + 1 : Nat) : Int) = q + 1 by omega] at ih
  have hi1 : ((i : Int) < (x.length : Int)) = True := eq_true (by omega)
  have hi0 : (0 ≤ (i : Int)) = True := eq_true (by omega)
  have hix : i < x.length := by omega
  have hs : ∀ a, (x.set i a).getD i 0 = a := fun a => getD_set x i 0 a hix
  obtain ⟨e0, ei⟩ : wrap64 (q + 1) = q + 1 ∧ wrap64 ((i : Int) + 1) = ((i + 1 : Nat) : Int) := ⟨wq (by omega) (by omega), wq (by omega) (by omega)⟩
  have st : ∀ k, laws_markInt64S.l0 (k + 1) x q (i : Int) = laws_markInt64S.l0 k (x.set i (mk_Int64S q)) (q + 1) ((i + 1 : Nat) : Int) := fun k => by
    simp only [laws_markInt64S.l0]
    simp only [e0, ei, hi1, hi0, if_true, if_false, Option.bind_some, Int.toNat_natCast, List.length_set, List.set_set, rd, hs]
    rfl
  exact Ev.steps 1 st ih
theorem heldInt64S (n : Nat) (k_ : Int) (hn : n ≤ 1099511627776) (hk : 0 ≤ k_ ∧ k_ + 1 * (n : Int) ≤ 4611686018427387904) : Ev (fun k => laws_heldInt64S.f k ((List.range n).map fun (j : Nat) => mk_Int64S (k_ + 1 * (j : Int))) k_) (k_ + 1 * (n : Int)) := by
  unfold laws_heldInt64S.f
  obtain ⟨M, hM⟩ : ∃ M, M = ((List.range n).map fun (j : Nat) => mk_Int64S (k_ + 1 * (j : Int))) := ⟨_, rfl⟩
  rw [← hM]
  have hl : M.length = n := by rw [hM]; simp
  have hv : ∀ i, i < n → M.getD i 0 = mk_Int64S (k_ + 1 * (i : Int)) := fun i h => by rw [hM]; exact mark_at _ _ _ _ _ _ h
  clear hM
  have h0 := ev_loop2 (g := fun k (s : Int × Int) => laws_heldInt64S.l0 k M s.1 s.2) (fun i => (k_ + 1 * (i : Int), (i : Int))) n (r := k_ + 1 * (n : Int)) (Ev.step (f := fun _ => some _) (fun k => by simp [laws_heldInt64S.l0, hl]) (Ev.now _)) fun i h ih => ?_
  · simpa using h0
  dsimp only at ih ⊢
  have hs := hv i h
  obtain ⟨q, hq⟩ : ∃ q, q = k_ + 1 * (i : Int) := ⟨_, rfl⟩
  rw [← hq] at hs ⊢
  rw [show k_ + 1 * ((i + 1 : Nat) : Int) = q + 1 by omega] at ih
  have hqb : 0 ≤ q ∧ q + 1 ≤ 4611686018427387904 := by omega
  have hi1 : ((i : Int) < (M.length : Int)) = True := eq_true (by omega)
  have hi0 : (0 ≤ (i : Int)) = True := eq_true (by omega)
  obtain ⟨e0, ei⟩ : wrap64 (q + 1) = q + 1 ∧ wrap64 ((i : Int) + 1) = ((i + 1 : Nat) : Int) := ⟨wq (by omega) (by omega), wq (by omega) (by omega)⟩
  have st : ∀ k, laws_heldInt64S.l0 (k + 1) M q (i : Int) = laws_heldInt64S.l0 k M (q + 1) ((i + 1 : Nat) : Int) := fun k => by
    simp only [laws_heldInt64S.l0]
    simp only [e0, ei, hi1, hi0, if_true, if_false, Option.bind_some, Int.toNat_natCast, List.length_set, List.set_set, rd, hs, mk_Int64S]
  exact Ev.steps 1 st ih
def ok34 (x : S34) : Prop := (-128 ≤ x.f0 ∧ x.f0 ≤ 127) ∧ (-128 ≤ x.f1 ∧ x.f1 ≤ 127)
def ok62 (x : S62) : Prop := ok34 x.f0 ∧ (-128 ≤ x.f1 ∧ x.f1 ≤ 127) ∧ (-128 ≤ x.f2 ∧ x.f2 ≤ 127) ∧ (-128 ≤ x.f3 ∧ x.f3 ≤ 127)
theorem okof26_34 {x : S26} (h : wf26 x) : ok34 (cv26_34 x) := by
  obtain ⟨h0, h1⟩ := h
  exact ⟨(i8b h0), (i8b h1)⟩
theorem okof78_62 {x : S78} (h : wf78 x) : ok62 (cv78_62 x) := by
  obtain ⟨h0, h1, h2, h3⟩ := h
  exact ⟨(okof26_34 h0), (i8b h1), (i8b h2), (i8b h3)⟩
theorem in_same : spec_l00In.f = impl_in.f := rfl
theorem in_some (a b c : Int) : impl_in.f a b c = some (decide (b ≤ a ∧ a ≤ c)) := by
  unfold impl_in.f
  by_cases h : b ≤ a <;> simp [h]

theorem rd0 (a b : Int) (l : List (S62)) : rd_T30 [(⟨a, b, l⟩ : S30)] 0 = ⟨a, b, l⟩ := id rfl
theorem rdp (l : List (S62)) (i : Nat) : rd_T62 l (i : Int) = l.getD i z62 := id rfl
def VP (p : S62) : Prop := (0 ≤ p.f1 ∧ p.f1 ≤ 5) ∧ (0 ≤ p.f2 ∧ p.f2 ≤ 3) ∧ (1 ≤ p.f3 ∧ p.f3 ≤ 9) ∧ (0 ≤ p.f0.f0 ∧ p.f0.f0 ≤ 23) ∧ (0 ≤ p.f0.f1 ∧ p.f0.f1 ≤ 23)
instance (p : S62) : Decidable (VP p) := by unfold VP; infer_instance
theorem valid_dec (a b c d e : Int) (ha : -128 ≤ a ∧ a ≤ 127) (hb : -128 ≤ b ∧ b ≤ 127) (hc : -128 ≤ c ∧ c ≤ 127) (hd : -128 ≤ d ∧ d ≤ 127) (he : -128 ≤ e ∧ e ≤ 127) : impl_ValidPiece.f a b c d e = some (decide (VP ⟨⟨a, b⟩, c, d, e⟩)) := by
  unfold impl_ValidPiece.f impl_Cell_placed.f
  simp only [in_some, Option.bind_some]
  rw [w64 (n := a) (by omega), w64 (n := b) (by omega), w64 (n := c) (by omega), w64 (n := d) (by omega), w64 (n := e) (by omega)]
  by_cases h1 : 0 ≤ c ∧ c ≤ 5 <;> by_cases h2 : 0 ≤ d ∧ d ≤ 3 <;> by_cases h3 : 1 ≤ e ∧ e ≤ 9 <;> by_cases h4 : 0 ≤ a ∧ a ≤ 23 <;> simp [VP, h1, h2, h3, h4]
theorem impl_valid {p : S62} (hp : ok62 p) : impl_ValidPiece.f p.f0.f0 p.f0.f1 p.f1 p.f2 p.f3 = some (decide (VP p)) := by
  obtain ⟨⟨a, b⟩, c, d, e⟩ := p
  obtain ⟨⟨h0, h1⟩, h2, h3, h4⟩ := hp
  exact valid_dec a b c d e h0 h1 h2 h3 h4
theorem spec_valid {p : S62} (hp : ok62 p) : spec_l01Piece.f [p] = some (decide (VP p)) := by
  rw [← impl_valid hp]
  obtain ⟨⟨a, b⟩, c, d, e⟩ := p
  unfold spec_l01Piece.f impl_ValidPiece.f impl_Cell_placed.f spec_l01In.f
  simp [in_same, in_some, rd_T62, wrap64]
theorem spec_in (a b w h : Int) (ha : -128 ≤ a ∧ a ≤ 127) (hb : -128 ≤ b ∧ b ≤ 127) (hw : -128 ≤ w ∧ w ≤ 127) (hh : -128 ≤ h ∧ h ≤ 127) : spec_l01In.f a b w h = some (decide ((0 ≤ a ∧ a < w) ∧ 0 ≤ b ∧ b < h)) := by
  unfold spec_l01In.f
  simp only [in_same, in_some, Option.bind_some]
  rw [w64 (n := a) (by omega), w64 (n := b) (by omega), w64 (n := w - 1) (by omega), w64 (n := h - 1) (by omega)]
  have e1 : (0 ≤ a ∧ a ≤ w - 1) ↔ (0 ≤ a ∧ a < w) := by omega
  have e2 : (0 ≤ b ∧ b ≤ h - 1) ↔ (0 ≤ b ∧ b < h) := by omega
  simp only [e1, e2]
  by_cases h1 : 0 ≤ a ∧ a < w <;> simp [h1]
theorem impl_has (w h : Int) (l : List (S62)) (a b : Int) : impl_Board_has.f [(⟨w, h, l⟩ : S30)] a b = some (decide ((0 ≤ a ∧ a < w) ∧ 0 ≤ b ∧ b < h)) := by
  unfold impl_Board_has.f
  simp only [rd0]
  by_cases h1 : 0 ≤ a <;> by_cases h2 : a < w <;> by_cases h3 : 0 ≤ b <;> simp [h1, h2, h3]
/-- A piece stands in a cell. -/
def At (l : List (S62)) (x y : Int) (i : Nat) : Prop := (l.getD i z62).f0.f0 = x ∧ (l.getD i z62).f0.f1 = y
def Found (l : List (S62)) (x y r : Int) : Prop := (r = -1 ∧ ∀ i : Nat, i < l.length → ¬ At l x y i) ∨ ∃ j : Nat, j < l.length ∧ r = (j : Int) ∧ At l x y j ∧ ∀ i : Nat, i < j → ¬ At l x y i
theorem Found.same {l : List (S62)} {x y r q : Int} (h : Found l x y r) (k : Found l x y q) : r = q := by
  rcases h with ⟨rfl, h⟩ | ⟨j, h1, rfl, h2, h3⟩ <;> rcases k with ⟨rfl, k⟩ | ⟨i, k1, rfl, k2, k3⟩
  · rfl
  · exact absurd k2 (h i k1)
  · exact absurd h2 (k j h1)
  · rcases Nat.lt_trichotomy i j with c | c | c
    · exact absurd k2 (h3 i c)
    · rw [c]
    · exact absurd h2 (k3 j c)
theorem Found.range {l : List (S62)} {x y r : Int} (h : Found l x y r) : -1 ≤ r ∧ r < l.length := by
  rcases h with ⟨rfl, h⟩ | ⟨j, h1, rfl, h2, h3⟩ <;> omega
theorem found_first (l : List (S62)) (x y : Int) : (∀ i : Nat, i < l.length → ¬ At l x y i) ∨ ∃ j : Nat, j < l.length ∧ At l x y j ∧ ∀ i : Nat, i < j → ¬ At l x y i := by
  have : DecidablePred fun i => ¬ At l x y i := fun _ => Classical.propDecidable _
  rcases first_or_all (fun i => ¬ At l x y i) l.length with h | ⟨j, h1, h2, h3⟩
  · exact .inl h
  · exact .inr ⟨j, h1, Classical.not_not.1 h2, h3⟩
theorem at_cond (l : List (S62)) (x y : Int) (i : Nat) : (((l.getD i z62).f0.f0 == x && (l.getD i z62).f0.f1 == y) = true) ↔ At l x y i := by simp [At]
theorem find_spec (w h : Int) (l : List (S62)) (x y : Int) (hl : l.length ≤ 1048576) : ∃ r, Ev (fun k => spec_l01Find.f k [(⟨w, h, l⟩ : S30)] x y) r ∧ Found l x y r := by
  unfold spec_l01Find.f
  rcases found_first l x y with hh | ⟨j, h1, h2, h3⟩
  · refine ⟨-1, ev_loop2 (g := fun k i => spec_l01Find.l0 k [(⟨w, h, l⟩ : S30)] i x y) (fun i => (i : Int)) l.length ?_ fun i hi ih => ?_, .inl ⟨rfl, hh⟩⟩
    · refine Ev.step (fun k => by rw [spec_l01Find.l0]) ?_
      simp only [rd0]
      exact Ev.iteT (by simp) (Ev.iteF (by omega) (Ev.now _))
    · refine Ev.step (fun k => by rw [spec_l01Find.l0]) ?_
      simp only [rd0, rdp]
      refine Ev.iteT (by simp) (Ev.iteT (by omega) (Ev.iteT (by omega) (Ev.iteF (fun c => hh i hi ((at_cond l x y i).1 c)) ?_)))
      rw [w64 (by omega)]
      exact ih
  · refine ⟨(j : Int), ev_loop2 (g := fun k i => spec_l01Find.l0 k [(⟨w, h, l⟩ : S30)] i x y) (fun i => (i : Int)) j ?_ fun i hi ih => ?_, .inr ⟨j, h1, rfl, h2, h3⟩⟩
    · refine Ev.step (fun k => by rw [spec_l01Find.l0]) ?_
      simp only [rd0, rdp]
      exact Ev.iteT (by simp) (Ev.iteT (by omega) (Ev.iteT (by omega) (Ev.iteT ((at_cond l x y j).2 h2) (Ev.now _))))
    · refine Ev.step (fun k => by rw [spec_l01Find.l0]) ?_
      simp only [rd0, rdp]
      refine Ev.iteT (by simp) (Ev.iteT (by omega) (Ev.iteT (by omega) (Ev.iteF (fun c => h3 i hi ((at_cond l x y i).1 c)) ?_)))
      rw [w64 (by omega)]
      exact ih
/-- What is right of the piece at a place. -/
def Good (w h : Int) (l : List (S62)) (i : Nat) : Prop := VP (l.getD i z62) ∧ ((0 ≤ (l.getD i z62).f0.f0 ∧ (l.getD i z62).f0.f0 < w) ∧ 0 ≤ (l.getD i z62).f0.f1 ∧ (l.getD i z62).f0.f1 < h) ∧ ∀ j, j < i → ¬ At l (l.getD i z62).f0.f0 (l.getD i z62).f0.f1 j
structure BoardOk (w h : Int) (l : List (S62)) : Prop where
  wide : 1 ≤ w ∧ w ≤ 24
  high : 1 ≤ h ∧ h ≤ 24
  len : l.length ≤ 200
  piece : ∀ i : Nat, i < l.length → Good w h l i
theorem spec_ok (w h : Int) (l : List (S62)) (hw : -128 ≤ w ∧ w ≤ 127) (hh : -128 ≤ h ∧ h ≤ 127) (hx : ∀ y ∈ l, ok62 y) (hl : l.length ≤ 1048576) :
    ∃ r, Ev (fun k => spec_l01Ok.f k [(⟨w, h, l⟩ : S30)]) r ∧ (r = true ↔ BoardOk w h l) := by
  have hj : Ev (fun k => spec_l01Ok.j0 k [(⟨w, h, l⟩ : S30)] true) false := Ev.step (f := fun _ => some false) (fun k => by simp [spec_l01Ok.j0]) (Ev.now _)
  have key : ∃ s, Ev (fun k => spec_l01Ok.l0 k [(⟨w, h, l⟩ : S30)] 0) s ∧ (s = true ↔ (∀ i : Nat, i < l.length → Good w h l i) ∧ True) := by
    refine ev_scanB (g := fun k i => spec_l01Ok.l0 k [(⟨w, h, l⟩ : S30)] i) (r := true) (fun i => Good w h l i) (by simp) (fun _ => ?_) (fun i hi hp s hs => ?_) (fun i hi hp => ?_)
    · refine Ev.step (fun k => by rw [spec_l01Ok.l0]) ?_
      simp only [rd0]
      exact Ev.iteT (by simp) (Ev.iteF (by omega) (Ev.now _))
    all_goals
      have ho : ok62 (l.getD i z62) := getD_mem hx _ _ hi
      have hv := spec_valid ho
      obtain ⟨r, f1, f2⟩ := find_spec w h l (l.getD i z62).f0.f0 (l.getD i z62).f0.f1 hl
      have hin : spec_l01In.f (l.getD i z62).f0.f0 (l.getD i z62).f0.f1 (wrap64 w) (wrap64 h) = some (decide ((0 ≤ (l.getD i z62).f0.f0 ∧ (l.getD i z62).f0.f0 < w) ∧ 0 ≤ (l.getD i z62).f0.f1 ∧ (l.getD i z62).f0.f1 < h)) := by
        rw [w64 (n := w) (by omega), w64 (n := h) (by omega)]
        exact spec_in _ _ _ _ ho.1.1 ho.1.2 hw hh
      refine Ev.step (fun k => by rw [spec_l01Ok.l0]) ?_
      simp only [rd0, rdp]
      refine Ev.iteT (by simp) (Ev.iteT (by omega) (Ev.iteT (by omega) (Ev.bindc hv ?_)))
    · obtain ⟨g1, g2, g3⟩ := hp
      have e : r = (i : Int) := f2.same (.inr ⟨i, hi, rfl, ⟨rfl, rfl⟩, g3⟩)
      refine Ev.iteT (decide_eq_true g1) (Ev.bindc hin (Ev.iteT (decide_eq_true g2) (Ev.bind f1 (Ev.iteT e ?_))))
      rw [w64 (by omega)]
      exact hs
    · by_cases g1 : VP (l.getD i z62)
      · by_cases g2 : (0 ≤ (l.getD i z62).f0.f0 ∧ (l.getD i z62).f0.f0 < w) ∧ 0 ≤ (l.getD i z62).f0.f1 ∧ (l.getD i z62).f0.f1 < h
        · refine Ev.iteT (decide_eq_true g1) (Ev.bindc hin (Ev.iteT (decide_eq_true g2) (Ev.bind f1 (Ev.iteF (fun e => hp ⟨g1, g2, ?_⟩) (Ev.now _)))))
          rcases f2 with ⟨e', _⟩ | ⟨j, _, e', _, f3⟩
          · omega
          · have : j = i := by omega
            exact this ▸ f3
        · exact Ev.iteT (decide_eq_true g1) (Ev.bindc hin (Ev.iteF (by simpa using g2) (Ev.now _)))
      · exact Ev.iteF (by simpa using g1) (Ev.now _)
  obtain ⟨s, k1, k2⟩ := key
  unfold spec_l01Ok.f
  simp only [rd0, in_same, in_some]
  rw [w64 (n := w) (by omega), w64 (n := h) (by omega)]
  by_cases h1 : 1 ≤ w ∧ w ≤ 24
  · by_cases h2 : 1 ≤ h ∧ h ≤ 24
    · by_cases h3 : (l.length : Int) > 200
      · refine ⟨false, Ev.iteT (by simp) (Ev.bindc rfl (Ev.iteT (by simpa using h1) (Ev.bindc rfl (Ev.iteT (by simpa using h2) ?_)))), ?_⟩
        · rw [decide_eq_true h3]; exact hj
        · simp only [Bool.false_eq_true, false_iff]; intro h; have := h.len; omega
      · refine ⟨s, Ev.iteT (by simp) (Ev.bindc rfl (Ev.iteT (by simpa using h1) (Ev.bindc rfl (Ev.iteT (by simpa using h2) (Ev.step (fun k => by rw [spec_l01Ok.j0]) (Ev.iteF (by simpa using h3) k1)))))), ?_⟩
        rw [k2]; exact ⟨fun h => ⟨h1, h2, by omega, h.1⟩, fun h => ⟨h.piece, trivial⟩⟩
    · refine ⟨false, Ev.iteT (by simp) (Ev.bindc rfl (Ev.iteT (by simpa using h1) (Ev.bindc rfl (Ev.iteF (by simpa using h2) hj)))), ?_⟩
      simp only [Bool.false_eq_true, false_iff]; intro h; have := h.high; omega
  · refine ⟨false, Ev.iteT (by simp) (Ev.bindc rfl (Ev.iteF (by simpa using h1) hj)), ?_⟩
    simp only [Bool.false_eq_true, false_iff]; intro h; have := h.wide; omega
/-- The cells of the first pieces, as the keys of a map. -/
def cells (l : List (S62)) (i : Nat) : List ((Int × Int) × Unit) := (l.take i).map fun p => ((p.f0.f0, p.f0.f1), ())
theorem cells_next (l : List (S62)) (i : Nat) (h : i < l.length) : cells l i ++ [(((l.getD i z62).f0.f0, (l.getD i z62).f0.f1), ())] = cells l (i + 1) := by
  unfold cells
  rw [List.take_succ_eq_append_getElem h, List.map_append, getD_at _ _ _ h]
  rfl
theorem cells_find (l : List (S62)) (i : Nat) (h : i ≤ l.length) (x y : Int) : (Go.Proofs.YtdjhcnepndflmaaX.mfind (cells l i) x y).isSome = true ↔ ∃ j, j < i ∧ At l x y j := by
  unfold Go.Proofs.YtdjhcnepndflmaaX.mfind cells
  rw [Option.isSome_map, List.find?_isSome]
  constructor
  · rintro ⟨p, hp, hq⟩
    obtain ⟨q, hq1, rfl⟩ := List.mem_map.1 hp
    obtain ⟨j, hj, e⟩ := List.mem_take_iff_getElem.1 hq1
    refine ⟨j, by omega, ?_⟩
    unfold At
    rw [getD_at _ _ _ (by omega), e]
    simp only [Bool.and_eq_true, beq_iff_eq] at hq
    exact ⟨hq.1.symm, hq.2.symm⟩
  · rintro ⟨j, hj, e1, e2⟩
    rw [getD_at _ _ _ (by omega)] at e1 e2
    refine ⟨((l[j].f0.f0, l[j].f0.f1), ()), List.mem_map.2 ⟨l[j], List.mem_take_iff_getElem.2 ⟨j, by omega, rfl⟩, rfl⟩, ?_⟩
    simp [e1, e2]
theorem impl_ok (w h : Int) (l : List (S62)) (hw : -128 ≤ w ∧ w ≤ 127) (hh : -128 ≤ h ∧ h ≤ 127) (hx : ∀ y ∈ l, ok62 y) (hl : l.length ≤ 1048576) :
    ∃ r, Ev (fun k => impl_ValidBoard.f k w h l) r ∧ (r = true ↔ BoardOk w h l) := by
  have hj : Ev (fun k => impl_ValidBoard.j0 k true w h l) false := Ev.step (f := fun _ => some false) (fun k => by simp [impl_ValidBoard.j0]) (Ev.now _)
  have key : ∃ s, Ev (fun k => impl_ValidBoard.l0 k l l.length 0 w h l []) s ∧ (s = true ↔ (∀ i : Nat, i < l.length → Good w h l i) ∧ True) := by
    refine ev_scanB (g := fun k i => impl_ValidBoard.l0 k l l.length i w h l (cells l i.toNat)) (r := true) (fun i => Good w h l i) (by simp) (fun _ => ?_) (fun i hi hp s hs => ?_) (fun i hi hp => ?_)
    · refine Ev.step (fun k => by rw [impl_ValidBoard.l0]) ?_
      exact Ev.iteF (by omega) (Ev.now _)
    all_goals
      have ho : ok62 (l.getD i z62) := getD_mem hx _ _ hi
      have hv := impl_valid ho
      have hc := cells_find l i (Nat.le_of_lt hi) (l.getD i z62).f0.f0 (l.getD i z62).f0.f1
      refine Ev.step (fun k => by rw [impl_ValidBoard.l0]) ?_
      simp only [rdp, Int.toNat_natCast]
      refine Ev.iteT (by omega) (Ev.iteT (by omega) (Ev.iteT (by omega) (Ev.bindc hv ?_)))
    · obtain ⟨g1, g2, g3⟩ := hp
      refine Ev.iteT (decide_eq_true g1) (Ev.bindc (impl_has w h l _ _) (Ev.iteT (decide_eq_true g2) (Ev.iteF (fun c => ?_) ?_)))
      · obtain ⟨j, j1, j2⟩ := hc.1 c
        exact g3 j j1 j2
      · rw [cells_next l i hi, w64 (by omega)]
        simpa using hs
    · by_cases g1 : VP (l.getD i z62)
      · by_cases g2 : (0 ≤ (l.getD i z62).f0.f0 ∧ (l.getD i z62).f0.f0 < w) ∧ 0 ≤ (l.getD i z62).f0.f1 ∧ (l.getD i z62).f0.f1 < h
        · refine Ev.iteT (decide_eq_true g1) (Ev.bindc (impl_has w h l _ _) (Ev.iteT (decide_eq_true g2) (Ev.iteT (hc.2 ?_) (Ev.now _))))
          apply Classical.byContradiction
          intro hno
          exact hp ⟨g1, g2, fun j hj c => hno ⟨j, hj, c⟩⟩
        · exact Ev.iteT (decide_eq_true g1) (Ev.bindc (impl_has w h l _ _) (Ev.iteF (by simpa using g2) (Ev.now _)))
      · exact Ev.iteF (by simpa using g1) (Ev.now _)
  obtain ⟨s, k1, k2⟩ := key
  unfold impl_ValidBoard.f
  simp only [in_some]
  rw [w64 (n := w) (by omega), w64 (n := h) (by omega)]
  by_cases h1 : 1 ≤ w ∧ w ≤ 24
  · by_cases h2 : 1 ≤ h ∧ h ≤ 24
    · by_cases h3 : (l.length : Int) > 200
      · refine ⟨false, Ev.bindc rfl (Ev.iteT (by simpa using h1) (Ev.bindc rfl (Ev.iteT (by simpa using h2) ?_))), ?_⟩
        · rw [decide_eq_true h3]; exact hj
        · simp only [Bool.false_eq_true, false_iff]; intro h; have := h.len; omega
      · refine ⟨s, Ev.bindc rfl (Ev.iteT (by simpa using h1) (Ev.bindc rfl (Ev.iteT (by simpa using h2) (Ev.step (fun k => by rw [impl_ValidBoard.j0]) (Ev.iteF (by simpa using h3) k1))))), ?_⟩
        rw [k2]; exact ⟨fun h => ⟨h1, h2, by omega, h.1⟩, fun h => ⟨h.piece, trivial⟩⟩
    · refine ⟨false, Ev.bindc rfl (Ev.iteT (by simpa using h1) (Ev.bindc rfl (Ev.iteF (by simpa using h2) hj))), ?_⟩
      simp only [Bool.false_eq_true, false_iff]; intro h; have := h.high; omega
  · refine ⟨false, Ev.bindc rfl (Ev.iteF (by simpa using h1) hj), ?_⟩
    simp only [Bool.false_eq_true, false_iff]; intro h; have := h.wide; omega
theorem both_ok (w h : Int) (l : List (S62)) (hw : -128 ≤ w ∧ w ≤ 127) (hh : -128 ≤ h ∧ h ≤ 127) (hx : ∀ y ∈ l, ok62 y) (hl : l.length ≤ 1048576) :
    ∃ r, Ev (fun k => spec_l01Ok.f k [(⟨w, h, l⟩ : S30)]) r ∧ Ev (fun k => impl_ValidBoard.f k w h l) r ∧ (r = true → BoardOk w h l) := by
  obtain ⟨r, h1, h2⟩ := spec_ok w h l hw hh hx hl
  obtain ⟨q, h3, h4⟩ := impl_ok w h l hw hh hx hl
  obtain rfl := bool_same h2 h4
  exact ⟨r, h1, h3, h2.1⟩

abbrev PX (k t : Int) : S62 := ⟨⟨0, 0⟩, k, t, 0⟩
def hz (k t s : Int) : Int := (spec_l01Hits.f 20 [PX k t] s).getD 0
def cz (k t s : Int) : Bool := (spec_l02Can.f 30 [PX k t] s).getD false
def wz (k t s : Int) : Int := if hz k t s ≥ 0 then hz k t s else 0
theorem hz_all : ∀ (k : Fin 6) (t s : Fin 4), spec_l01Hits.f 20 [PX (k.val : Int) (t.val : Int)] (s.val : Int) = some (hz (k.val : Int) (t.val : Int) (s.val : Int)) ∧ impl_Piece_falls.f 10 0 0 (k.val : Int) (t.val : Int) 0 (s.val : Int) = some (decide (hz (k.val : Int) (t.val : Int) (s.val : Int) ≥ 0), wz (k.val : Int) (t.val : Int) (s.val : Int)) := by decide +kernel
theorem cz_all : ∀ (k : Fin 6) (t s : Fin 4), spec_l02Can.f 30 [PX (k.val : Int) (t.val : Int)] (s.val : Int) = some (cz (k.val : Int) (t.val : Int) (s.val : Int)) ∧ slices_ContainsFunc__impl_stage_hitsEver_1.f 10 [wz (k.val : Int) (t.val : Int) 0, wz (k.val : Int) (t.val : Int) 1, wz (k.val : Int) (t.val : Int) 2, wz (k.val : Int) (t.val : Int) 3] [(⟨(s.val : Int)⟩ : S3)] = some (cz (k.val : Int) (t.val : Int) (s.val : Int)) := by decide +kernel
theorem kt_of {p : S62} (hp : VP p) : ∃ (k : Fin 6) (t : Fin 4), p.f1 = (k.val : Int) ∧ p.f2 = (t.val : Int) := by
  obtain ⟨⟨h1, h2⟩, ⟨h3, h4⟩, _⟩ := hp
  exact ⟨⟨p.f1.toNat, by omega⟩, ⟨p.f2.toNat, by omega⟩, (Int.toNat_of_nonneg h1).symm, (Int.toNat_of_nonneg h3).symm⟩
theorem hits_of {p : S62} (hp : VP p) (s : Nat) (hs : s < 4) : Ev (fun k => spec_l01Hits.f k [p] (s : Int)) (hz p.f1 p.f2 (s : Int)) := by
  obtain ⟨k, t, ek, et⟩ := kt_of hp
  refine Ev.of (k := 20) (g := fun k => spec_l01Hits.f k [p] (s : Int)) (fun k => spec_l01Hits.mono _ _ _) ?_
  have h := (hz_all k t ⟨s, hs⟩).1
  rw [← ek, ← et] at h
  exact h
theorem falls_of {p : S62} (hp : VP p) (s : Nat) (hs : s < 4) : impl_Piece_falls.f 10 p.f0.f0 p.f0.f1 p.f1 p.f2 p.f3 (s : Int) = some (decide (hz p.f1 p.f2 (s : Int) ≥ 0), wz p.f1 p.f2 (s : Int)) := by
  obtain ⟨k, t, ek, et⟩ := kt_of hp
  have h := (hz_all k t ⟨s, hs⟩).2
  rw [← ek, ← et] at h
  exact h
theorem fl_of {p : S62} (hp : VP p) (s : Nat) (hs : s < 4) : nh_fl p (s : Int) = (decide (hz p.f1 p.f2 (s : Int) ≥ 0), wz p.f1 p.f2 (s : Int)) := by
  unfold nh_fl
  rw [falls_of hp s hs]
  rfl
theorem can_same (p : S62) (a : Int) : ∀ (k : Nat) (b : Int), spec_l02Can.l0 k [p] a b = spec_l02Can.l0 k [PX p.f1 p.f2] a b
  | 0, _ => rfl
  | k + 1, b => by
    rw [spec_l02Can.l0, spec_l02Can.l0]
    simp only [can_same p a k]
    rfl
theorem can_of {p : S62} (hp : VP p) (s : Nat) (hs : s < 4) : Ev (fun k => spec_l02Can.f k [p] (s : Int)) (cz p.f1 p.f2 (s : Int)) := by
  obtain ⟨k, t, ek, et⟩ := kt_of hp
  refine Ev.of (k := 30) (g := fun k => spec_l02Can.f k [p] (s : Int)) (fun k => spec_l02Can.mono _ _ _) ?_
  have h := (cz_all k t ⟨s, hs⟩).1
  rw [← ek, ← et] at h
  unfold spec_l02Can.f at h ⊢
  rw [can_same]
  exact h
theorem cf_of {p : S62} (hp : VP p) (s : Nat) (hs : s < 4) : slices_ContainsFunc__impl_stage_hitsEver_1.f 10 (nh_hrow (nh_r102 p)) [(⟨(s : Int)⟩ : S3)] = some (cz p.f1 p.f2 (s : Int)) := by
  have e : nh_hrow (nh_r102 p) = [wz p.f1 p.f2 0, wz p.f1 p.f2 1, wz p.f1 p.f2 2, wz p.f1 p.f2 3] := by
    have h0 := fl_of hp 0 (by omega)
    have h1 := fl_of hp 1 (by omega)
    have h2 := fl_of hp 2 (by omega)
    have h3 := fl_of hp 3 (by omega)
    unfold nh_hrow nh_r102
    dsimp only
    rw [show (0 : Int) = ((0 : Nat) : Int) from rfl, show (1 : Int) = ((1 : Nat) : Int) from rfl, show (2 : Int) = ((2 : Nat) : Int) from rfl, show (3 : Int) = ((3 : Nat) : Int) from rfl, h0, h1, h2, h3]
  obtain ⟨k, t, ek, et⟩ := kt_of hp
  have h := (cz_all k t ⟨s, hs⟩).2
  rw [← ek, ← et] at h
  rw [e]
  exact h
def orS (b : Bool) (c s : Int) : Int := if b = true then Go.bits .or .u8 c (nh_so s) else c
theorem or_all : ∀ (b0 b1 b2 b3 : Bool) (j : Fin 4), nh_hasB (orS b3 (orS b2 (orS b1 (orS b0 0 0) 1) 2) 3) (j.val : Int) = [b0, b1, b2, b3].getD j.val false := by decide +kernel
theorem has_of {p : S62} (hp : VP p) (l : List S62) (j : Nat) (hj : j < 4) : nh_hasB (nh_stp l p 4).1 (j : Int) = decide (hz p.f1 p.f2 (j : Int) ≥ 0) := by
  have h := or_all (nh_fl p 0).1 (nh_fl p 1).1 (nh_fl p 2).1 (nh_fl p 3).1 ⟨j, hj⟩
  have e : (nh_stp l p 4).1 = orS (nh_fl p 3).1 (orS (nh_fl p 2).1 (orS (nh_fl p 1).1 (orS (nh_fl p 0).1 0 0) 1) 2) 3 := rfl
  rw [e, h]
  have hf := fl_of hp j hj
  obtain rfl | rfl | rfl | rfl : j = 0 ∨ j = 1 ∨ j = 2 ∨ j = 3 := by omega
  all_goals exact congrArg Prod.fst hf
/-- Where the side's neighbour stands. -/
def nr (l : List S62) (i : Nat) (j : Int) : Int := nh_fi l (nh_nxc (l.getD i z62) j)
theorem find_snoc (m : List ((Int × Int) × Int)) (e : (Int × Int) × Int) (x y : Int) : Go.Proofs.YtdjhcnepndflmaaX.mfind (m ++ [e]) x y = (Go.Proofs.YtdjhcnepndflmaaX.mfind m x y).or (if x = e.1.1 ∧ y = e.1.2 then some e.2 else none) := by
  unfold Go.Proofs.YtdjhcnepndflmaaX.mfind
  rw [List.find?_append, Option.map_or]
  congr 1
  simp only [List.find?_cons, List.find?_nil, Bool.and_eq_true, beq_iff_eq]
  split
  · rename_i h
    simp only [Bool.and_eq_true, beq_iff_eq] at h
    rw [if_pos h]; rfl
  · rename_i h
    simp only [Bool.and_eq_false_iff, beq_eq_false_iff_ne] at h
    rw [if_neg (fun c => by rcases h with h | h; exact h c.1; exact h c.2)]; rfl
theorem PL_find (l : List S62) (x y : Int) : ∀ i, (Go.Proofs.YtdjhcnepndflmaaX.mfind (nh_PL l i) x y = none ∧ ∀ j, j < i → ¬ At l x y j) ∨ ∃ j, j < i ∧ Go.Proofs.YtdjhcnepndflmaaX.mfind (nh_PL l i) x y = some (j : Int) ∧ At l x y j ∧ ∀ q, q < j → ¬ At l x y q
  | 0 => .inl ⟨rfl, fun j hj => by omega⟩
  | i + 1 => by
    rw [nh_PL, find_snoc]
    rcases PL_find l x y i with ⟨h, hn⟩ | ⟨j, hj, h, h1, h2⟩
    · rw [h, Option.none_or]
      by_cases c : x = (l.getD i z62).f0.f0 ∧ y = (l.getD i z62).f0.f1
      · rw [if_pos c]
        exact .inr ⟨i, by omega, rfl, ⟨c.1.symm, c.2.symm⟩, hn⟩
      · rw [if_neg c]
        refine .inl ⟨rfl, fun j hj => ?_⟩
        by_cases e : j = i
        · subst e
          exact fun a => c ⟨a.1.symm, a.2.symm⟩
        · exact hn j (by omega)
    · rw [h]
      exact .inr ⟨j, by omega, rfl, h1, h2⟩
theorem fi_found (l : List S62) (c : Int × Int) : Found l c.1 c.2 (nh_fi l c) := by
  unfold nh_fi
  rcases PL_find l c.1 c.2 l.length with ⟨h, hn⟩ | ⟨j, hj, h, h1, h2⟩
  · rw [h]
    exact .inl ⟨rfl, hn⟩
  · rw [h]
    exact .inr ⟨j, hj, rfl, h1, h2⟩
theorem getD_map {β : Type} (f : S62 → β) (l : List S62) (i : Nat) (h : i < l.length) (d : β) : (l.map f).getD i d = f (l.getD i z62) := by
  rw [List.getD_eq_getElem?_getD, List.getElem?_map, List.getElem?_eq_getElem h, getD_at _ _ _ h]
  rfl
theorem st_can (l : List S62) (i : Nat) (h : i < l.length) : rd (nh_stageL l).f1 (i : Int) = (nh_stp l (l.getD i z62) 4).1 := getD_map (fun p => (nh_stp l p 4).1) l i h 0
theorem st_hits (l : List S62) (i : Nat) (h : i < l.length) : rd_T102 (nh_stageL l).f2 (i : Int) = nh_r102 (l.getD i z62) := getD_map nh_r102 l i h z102
theorem st_bes (l : List S62) (i : Nat) (h : i < l.length) (j : Nat) (hj : j < 4) : nh_bs (rd_T103 (nh_stageL l).f3 (i : Int)) (j : Int) = nr l i (j : Int) := by
  have e : rd_T103 (nh_stageL l).f3 (i : Int) = nh_r103 l (l.getD i z62) := getD_map (nh_r103 l) l i h z103
  rw [e]
  obtain rfl | rfl | rfl | rfl : j = 0 ∨ j = 1 ∨ j = 2 ∨ j = 3 := by omega
  all_goals rfl
theorem opp_all : ∀ j : Fin 4, nh_opp (j.val : Int) = (((j.val + 2) % 4 : Nat) : Int) := by decide +kernel
theorem nr_range (l : List S62) (i : Nat) (j : Int) : -1 ≤ nr l i j ∧ nr l i j < l.length := (fi_found l _).range
/-- The neighbour on a side can make the piece fall. -/
def EE (l : List S62) (i : Nat) (j : Int) : Bool := decide (nr l i j ≥ 0) && (decide (hz (l.getD i z62).f1 (l.getD i z62).f2 j ≥ 0) && cz (l.getD (nr l i j).toNat z62).f1 (l.getD (nr l i j).toNat z62).f2 (nh_opp j))
def acc (l : List S62) (i : Nat) : Nat → Bool
  | 0 => false
  | j + 1 => acc l i j || EE l i (j : Int)
theorem one_of {w h : Int} {l : List S62} (hb : BoardOk w h l) (i : Nat) (hi : i < l.length) (j : Nat) (hj : j < 4) : nh_oneE (nh_stageL l) (i : Int) (j : Int) = EE l i (j : Int) := by
  unfold nh_oneE EE
  rw [st_bes l i hi j hj, st_can l i hi, has_of (hb.piece i hi).1 l j hj]
  by_cases c : nr l i (j : Int) ≥ 0
  · have hr := nr_range l i (j : Int)
    obtain ⟨q, hq⟩ := Int.eq_ofNat_of_zero_le c
    rw [hq] at hr ⊢
    rw [Int.toNat_natCast]
    unfold nh_hv
    rw [st_hits l q (by omega), opp_all ⟨j, hj⟩, cf_of (hb.piece q (by omega)).1 _ (Nat.mod_lt _ (by decide))]
    rfl
  · rw [decide_eq_false c, Bool.false_and, Bool.false_and]
theorem hit_acc {w h : Int} {l : List S62} (hb : BoardOk w h l) (i : Nat) (hi : i < l.length) : nh_hitR (nh_stageL l) (i : Int) 4 = acc l i 4 := by
  simp only [nh_hitR, acc]
  rw [show ((3 - 3 : Nat) : Int) = ((0 : Nat) : Int) from rfl, show ((3 - 2 : Nat) : Int) = ((1 : Nat) : Int) from rfl, show ((3 - 1 : Nat) : Int) = ((2 : Nat) : Int) from rfl, show ((3 - 0 : Nat) : Int) = ((3 : Nat) : Int) from rfl, one_of hb i hi 0 (by omega), one_of hb i hi 1 (by omega), one_of hb i hi 2 (by omega), one_of hb i hi 3 (by omega)]
  simp only [Bool.false_or, Bool.or_false, Bool.or_assoc]
theorem fine_of {w h : Int} {l : List S62} (hb : BoardOk w h l) : nh_fineB l = true := by
  unfold nh_fineB
  simp only [Bool.and_eq_true, decide_eq_true_eq, List.all_eq_true, List.mem_range, Option.isNone_iff_eq_none]
  refine ⟨⟨hb.len, fun i hi => ⟨?_, fun j hj => ?_⟩⟩, fun i hi j hj => ?_⟩
  · rcases PL_find l (l.getD i z62).f0.f0 (l.getD i z62).f0.f1 i with ⟨h1, _⟩ | ⟨q, hq, _, h2, _⟩
    · exact h1
    · exact absurd h2 ((hb.piece i hi).2.2 q hq)
  · rw [falls_of (hb.piece i hi).1 j hj]
    rfl
  · rw [st_bes l i hi j hj]
    by_cases c : nr l i (j : Int) ≥ 0
    · have hr := nr_range l i (j : Int)
      obtain ⟨q, hq⟩ := Int.eq_ofNat_of_zero_le c
      rw [hq] at hr ⊢
      rw [st_hits l q (by omega), opp_all ⟨j, hj⟩, cf_of (hb.piece q (by omega)).1 _ (Nat.mod_lt _ (by decide))]
      have e : ((nh_stageL l).f2.length : Int) = l.length := by simp [nh_stageL]
      rw [e, decide_eq_true hr.2]
      simp
    · rw [decide_eq_false c]
      rfl
theorem next_same {p : S62} (hp : VP p) (j : Nat) (hj : j < 4) : spec_l01Next.f p.f0.f0 p.f0.f1 (j : Int) = some (nh_nxc p (j : Int)) := by
  have h := nh_nxc_some p j hj
  rw [← h]
  obtain ⟨_, _, _, ⟨a1, a2⟩, b1, b2⟩ := hp
  unfold spec_l01Next.f impl_Cell_next.f
  obtain rfl | rfl | rfl | rfl : j = 0 ∨ j = 1 ∨ j = 2 ∨ j = 3 := by omega
  · rw [if_pos (by decide), if_pos (by decide), if_pos (by decide)]
    show some (_, IntKind.i8.wrap _) = some (IntKind.i8.wrap (p.f0.f0 + 0), IntKind.i8.wrap (p.f0.f1 + -1))
    rw [w8 (n := p.f0.f0 + 0) (by omega), Int.add_zero]
    rfl
  · rw [if_neg (by decide), if_pos (by decide), if_pos (by decide), if_pos (by decide)]
    show some (IntKind.i8.wrap _, _) = some (IntKind.i8.wrap (p.f0.f0 + 1), IntKind.i8.wrap (p.f0.f1 + 0))
    rw [w8 (n := p.f0.f1 + 0) (by omega), Int.add_zero]
  · rw [if_neg (by decide), if_neg (by decide), if_pos (by decide), if_pos (by decide), if_pos (by decide)]
    show some (_, IntKind.i8.wrap _) = some (IntKind.i8.wrap (p.f0.f0 + 0), IntKind.i8.wrap (p.f0.f1 + 1))
    rw [w8 (n := p.f0.f0 + 0) (by omega), Int.add_zero]
  · rw [if_neg (by decide), if_neg (by decide), if_neg (by decide), if_pos (by decide), if_pos (by decide), if_pos (by decide)]
    show some (IntKind.i8.wrap _, _) = some (IntKind.i8.wrap (p.f0.f0 + -1), IntKind.i8.wrap (p.f0.f1 + 0))
    rw [w8 (n := p.f0.f1 + 0) (by omega), Int.add_zero]
    rfl
theorem near_of {w h : Int} {l : List S62} (hb : BoardOk w h l) (i : Nat) (hi : i < l.length) (j : Nat) (hj : j < 4) : Ev (fun k => spec_l01Near.f k [(⟨w, h, l⟩ : S30)] (i : Int) (j : Int)) (nr l i (j : Int)) := by
  obtain ⟨r, f1, f2⟩ := find_spec w h l (nh_nxc (l.getD i z62) (j : Int)).1 (nh_nxc (l.getD i z62) (j : Int)).2 (by have := hb.len; omega)
  have e : r = nr l i (j : Int) := f2.same (fi_found l _)
  subst e
  unfold spec_l01Near.f
  simp only [rd0, rdp]
  exact Ev.iteT (by simp) (Ev.iteT (by omega) (Ev.iteT (by omega) (Ev.bindc (next_same (hb.piece i hi).1 j hj) (Ev.bind f1 (Ev.now _)))))
theorem spec_never {w h : Int} {l : List S62} (hb : BoardOk w h l) : Ev (fun k => spec_NeverHit.l0 k [] 0 w h l) (nh_nev (nh_stageL l) l.length, 0) := by
  have hlen := hb.len
  refine ev_loop2 (g := fun k (s : List Int × Int) => spec_NeverHit.l0 k s.1 s.2 w h l) (fun i => (nh_nev (nh_stageL l) i, (i : Int))) l.length ?_ fun i hi ih => ?_
  · exact Ev.step (fun k => by rw [spec_NeverHit.l0]) (Ev.iteF (by omega) (Ev.now _))
  · have hn := nh_nev_len (nh_stageL l) i
    refine Ev.step (fun k => by rw [spec_NeverHit.l0]) (Ev.iteT (by omega) ?_)
    refine ev_loop2 (g := fun k (s : Bool × Int) => spec_NeverHit.l1 k (nh_nev (nh_stageL l) i) (i : Int) s.1 s.2 w h l) (fun j => (acc l i j, (j : Int))) 4 ?_ fun j hj ih2 => ?_
    · refine Ev.step (fun k => by rw [spec_NeverHit.l1]) (Ev.iteF (by omega) ?_)
      rw [wq (by omega) (show (i : Int) + 1 = ((i + 1 : Nat) : Int) by omega)]
      dsimp only at ih
      rw [nh_nev, hit_acc hb i hi] at ih
      cases hc : acc l i 4
      · rw [hc, if_neg (by decide)] at ih
        exact Ev.iteF (by decide) (Ev.iteT (by omega) ih)
      · rw [hc, if_pos rfl] at ih
        exact Ev.iteT rfl ih
    · have hg := (hb.piece i hi).1
      refine Ev.step (fun k => by rw [spec_NeverHit.l1]) (Ev.iteT (by omega) (Ev.bind (near_of hb i hi j hj) ?_))
      dsimp only at ih2 ⊢
      rw [wq (by omega) (show (j : Int) + 1 = ((j + 1 : Nat) : Int) by omega)]
      rw [acc] at ih2
      cases hc : acc l i j
      · rw [hc, Bool.false_or] at ih2
        refine Ev.iteF (by decide) ?_
        by_cases c : nr l i (j : Int) ≥ 0
        · have hr := nr_range l i (j : Int)
          obtain ⟨q, hq⟩ := Int.eq_ofNat_of_zero_le c
          unfold EE at ih2
          rw [hq] at ih2 hr ⊢
          rw [Int.toNat_natCast, decide_eq_true (show (q : Int) ≥ 0 by omega), Bool.true_and] at ih2
          simp only [rdp]
          refine Ev.iteT (by omega) (Ev.iteT (by omega) (Ev.iteT (by omega) (Ev.bind (hits_of hg j hj) ?_)))
          by_cases c2 : hz (l.getD i z62).f1 (l.getD i z62).f2 (j : Int) ≥ 0
          · rw [decide_eq_true c2, Bool.true_and] at ih2
            have hcn := can_of (hb.piece q (by omega)).1 ((j + 2) % 4) (Nat.mod_lt _ (by decide))
            rw [← opp_all ⟨j, hj⟩] at hcn
            exact Ev.iteT c2 (Ev.iteT (by omega) (Ev.iteT (by omega) (Ev.bind hcn ih2)))
          · rw [decide_eq_false c2, Bool.false_and] at ih2
            exact Ev.iteF c2 ih2
        · unfold EE at ih2
          rw [decide_eq_false c, Bool.false_and] at ih2
          exact Ev.iteF c ih2
      · rw [hc, Bool.true_or] at ih2
        exact Ev.iteT rfl ih2
theorem core (x0_0 : Int) (x0_1 : Int) (x0_2 : List (S62)) (ox0_0 : (-128 ≤ x0_0 ∧ x0_0 ≤ 127)) (ox0_1 : (-128 ≤ x0_1 ∧ x0_1 ≤ 127)) (ox0_2 : ∀ y ∈ x0_2, ok62 y) (nx0_2 : x0_2.length ≤ 1048576) : ∃ r : List Int × Int, Ev (fun k => spec_NeverHit.f k x0_0 x0_1 x0_2) r ∧ Ev (fun k => impl_NeverHit.f k x0_0 x0_1 x0_2) r ∧ r.1.length ≤ 1099511627776 := by
  obtain ⟨r, h1, h2, hr⟩ := both_ok x0_0 x0_1 x0_2 ox0_0 ox0_1 ox0_2 nx0_2
  unfold spec_NeverHit.f impl_NeverHit.f
  cases r
  · exact ⟨([], 1), Ev.bind h1 (Ev.iteF (by simp) (Ev.now _)), Ev.bind h2 (Ev.iteF (by simp) (Ev.now _)), by simp⟩
  · have hb := hr rfl
    have hl := hb.len
    have hn := nh_nev_len (nh_stageL x0_2) x0_2.length
    exact ⟨(_, 0), Ev.bind h1 (Ev.iteT rfl (spec_never hb)), Ev.bind h2 (Ev.iteT rfl (Ev.iteT (fine_of hb) (Ev.now _))), by dsimp only; omega⟩

theorem FnExactNeverHit : QFnExactNeverHit.Pure := by
  rintro ⟨x0_0, x0_1, x0_2⟩ ⟨wx0_0, wx0_1, wx0_2⟩
  have ox0_0 : (-128 ≤ x0_0 ∧ x0_0 ≤ 127) := i8b wx0_0
  have ox0_1 : (-128 ≤ x0_1 ∧ x0_1 ≤ 127) := i8b wx0_1
  obtain ⟨wx0_2, mx0_2⟩ := wx0_2
  have mx0_2 : x0_2.length ≤ 9223372036854775807 := mx0_2
  refine Ev.rounds (r := true) ?_
  unfold laws_FnExactNeverHit.f
  obtain ⟨r_0, e_0, c_0⟩ := szBoard x0_0 x0_1 x0_2 (1048576) (by omega) mx0_2
  refine Ev.bindc e_0 ?_
  rcases c_0 with c_0 | ⟨rfl, c_0⟩
  · exact Ev.iteT c_0 (Ev.now _)
  refine Ev.iteF (by omega) ?_
  refine Ev.bind (toBoard _ _ _ (by first | omega | ((try dsimp only); (try simp only [List.length_map, List.length_range, List.length_nil]); omega) | (simp; omega))) ?_
  try dsimp only
  obtain ⟨⟨r0, r1⟩, hs, hi, hb⟩ := core x0_0 x0_1 (x0_2.map cv78_62) ox0_0 ox0_1 (fun y hy => by obtain ⟨z, hz, rfl⟩ := List.mem_map.1 hy; exact okof78_62 (wx0_2 z hz)) (by first | omega | ((try dsimp only); (try simp only [List.length_map, List.length_range, List.length_nil]); omega) | (simp; omega))
  have b0 := hb
  try dsimp only at b0
  refine Ev.bind hs ?_
  try dsimp only
  refine Ev.bind (toBoard _ _ _ (by first | omega | ((try dsimp only); (try simp only [List.length_map, List.length_range, List.length_nil]); omega) | (simp; omega))) ?_
  try dsimp only
  refine Ev.bind hi ?_
  try dsimp only
  refine Ev.bind (eqInt64S _ (by first | omega | ((try dsimp only); (try simp only [List.length_map, List.length_range, List.length_nil]); omega) | (simp; omega))) ?_
  try dsimp only
  refine Ev.iteT (by first | rfl | (first | omega | ((try dsimp only); (try simp only [List.length_map, List.length_range, List.length_nil]); omega) | (simp; omega))) ?_
  try dsimp only
  refine Ev.iteT (by first | rfl | (first | omega | ((try dsimp only); (try simp only [List.length_map, List.length_range, List.length_nil]); omega) | (simp; omega))) ?_
  try dsimp only
  refine Ev.bind (toBoard _ _ _ (by first | omega | ((try dsimp only); (try simp only [List.length_map, List.length_range, List.length_nil]); omega) | (simp; omega))) ?_
  try dsimp only
  refine Ev.bind (eqBoard _ _ _ (by first | omega | ((try dsimp only); (try simp only [List.length_map, List.length_range, List.length_nil]); omega) | (simp; omega))) ?_
  try dsimp only
  refine Ev.iteT (by first | rfl | (first | omega | ((try dsimp only); (try simp only [List.length_map, List.length_range, List.length_nil]); omega) | (simp; omega))) ?_
  try dsimp only
  refine Ev.bind (markBoard _ _ _ _ (by first | omega | ((try dsimp only); (try simp only [List.length_map, List.length_range, List.length_nil]); omega) | (simp; omega)) (by first | omega | ((try dsimp only); (try simp only [List.length_map, List.length_range, List.length_nil]); omega) | (simp; omega))) ?_
  try dsimp only
  refine Ev.iteF (by first | (simp; done) | (first | omega | ((try dsimp only); (try simp only [List.length_map, List.length_range, List.length_nil]); omega) | (simp; omega))) ?_
  try dsimp only
  refine Ev.bind (eqInt64S _ (by first | omega | ((try dsimp only); (try simp only [List.length_map, List.length_range, List.length_nil]); omega) | (simp; omega))) ?_
  try dsimp only
  refine Ev.iteT (by first | rfl | (first | omega | ((try dsimp only); (try simp only [List.length_map, List.length_range, List.length_nil]); omega) | (simp; omega))) ?_
  try dsimp only
  refine Ev.bind (markInt64S _ _ (by first | omega | ((try dsimp only); (try simp only [List.length_map, List.length_range, List.length_nil]); omega) | (simp; omega)) (by first | omega | ((try dsimp only); (try simp only [List.length_map, List.length_range, List.length_nil]); omega) | (simp; omega))) ?_
  try dsimp only
  refine Ev.bind (heldInt64S _ _ (by first | omega | ((try dsimp only); (try simp only [List.length_map, List.length_range, List.length_nil]); omega) | (simp; omega)) (by first | omega | ((try dsimp only); (try simp only [List.length_map, List.length_range, List.length_nil]); omega) | (simp; omega))) ?_
  try dsimp only
  refine Ev.iteF (by first | (simp; done) | (first | omega | ((try dsimp only); (try simp only [List.length_map, List.length_range, List.length_nil]); omega) | (simp; omega))) ?_
  try dsimp only
  refine Ev.iteT (by first | rfl | (first | omega | ((try dsimp only); (try simp only [List.length_map, List.length_range, List.length_nil]); omega) | (simp; omega))) ?_
  try dsimp only
  refine Ev.bind (toBoard _ _ _ (by first | omega | ((try dsimp only); (try simp only [List.length_map, List.length_range, List.length_nil]); omega) | (simp; omega))) ?_
  try dsimp only
  refine Ev.bind hi ?_
  try dsimp only
  refine Ev.bind (eqInt64S _ (by first | omega | ((try dsimp only); (try simp only [List.length_map, List.length_range, List.length_nil]); omega) | (simp; omega))) ?_
  try dsimp only
  refine Ev.iteT (by first | rfl | (first | omega | ((try dsimp only); (try simp only [List.length_map, List.length_range, List.length_nil]); omega) | (simp; omega))) ?_
  try dsimp only
  refine Ev.iteT (by first | rfl | (first | omega | ((try dsimp only); (try simp only [List.length_map, List.length_range, List.length_nil]); omega) | (simp; omega))) ?_
  try dsimp only
  refine Ev.bind (heldInt64S _ _ (by first | omega | ((try dsimp only); (try simp only [List.length_map, List.length_range, List.length_nil]); omega) | (simp; omega)) (by first | omega | ((try dsimp only); (try simp only [List.length_map, List.length_range, List.length_nil]); omega) | (simp; omega))) ?_
  try dsimp only
  refine Ev.iteF (by first | (simp; done) | (first | omega | ((try dsimp only); (try simp only [List.length_map, List.length_range, List.length_nil]); omega) | (simp; omega))) ?_
  try dsimp only
  refine Ev.iteT (by first | rfl | (first | omega | ((try dsimp only); (try simp only [List.length_map, List.length_range, List.length_nil]); omega) | (simp; omega))) ?_
  try dsimp only
  exact Ev.now _
end Go.Proofs.Ytdjhcnepndflmaa.Pure
