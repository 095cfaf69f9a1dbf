/- The pure side of the law FnExactAlikePieces: for all arguments its Lean function answers true. No condition beside the arguments' kinds. -/
import Derived.Test.YtkcbcbannbllaaaQFnExactAlikePieces
import Derived.Test.YtkcbcbannbllaaaPB
namespace Go.Proofs.Ytkcbcbannbllaaa.Pure
open Go.RowKit Go.Proofs.Ytkcbcbannbllaaa.PFnExactAlikePieces Go.Proofs.YtkcbcbannbllaaaW.PrintWords Go.Proofs.YtkcbcbannbllaaaW.PrintLast Go.Proofs.YtkcbcbannbllaaaX Go.Proofs.Ytkcbcbannbllaaa.QFnExactAlikePieces Go.Proofs.YtkcbcbannbllaaaB
set_option linter.unusedVariables false
set_option linter.unusedSimpArgs false

theorem toCell (a0_0 : Int) (a0_1 : Int)  : Ev (fun k => laws_toCell.f k a0_0 a0_1) (a0_0, a0_1) := by
  refine ⟨3, fun k hk => ?_⟩
  obtain ⟨m, rfl⟩ : ∃ m, k = m + 3 := ⟨k - 3, by omega⟩
  simp [laws_toCell.f, laws_toCell.l0, wrap64]
theorem toPiece (a0_0 : Int) (a0_1 : Int) (a0_2 : Int) (a0_3 : Int) (a0_4 : Int)  : Ev (fun k => laws_toPiece.f k a0_0 a0_1 a0_2 a0_3 a0_4) (a0_0, a0_1, a0_2, a0_3, a0_4) := by
  unfold laws_toPiece.f
  exact (Ev.bind (toCell _ _ ) (Ev.now _))
theorem in_same : spec_l00In.f = impl_in.f := rfl
theorem in_some (a b c : Int) : impl_in.f a b c = some (decide (b ≤ a ∧ a ≤ c)) := by
  unfold impl_in.f
  by_cases h : b ≤ a <;> simp [h]

theorem valid_same (a b c d e : Int) : spec_l01Piece.f [(⟨(⟨a, b⟩ : S32), c, d, e⟩ : S34)] = impl_ValidPiece.f a b c d e := by
  unfold spec_l01Piece.f impl_ValidPiece.f impl_Cell_placed.f spec_l01In.f
  simp [in_same, in_some, rd_T34, wrap64]
theorem valid_some (a b c d e : Int) : ∃ r, impl_ValidPiece.f a b c d e = some r ∧ (r = true → 0 ≤ wrap64 c ∧ wrap64 c ≤ 5 ∧ 0 ≤ wrap64 d ∧ wrap64 d ≤ 3 ∧ 1 ≤ wrap64 e ∧ wrap64 e ≤ 9 ∧ 0 ≤ wrap64 a ∧ wrap64 a ≤ 23 ∧ 0 ≤ wrap64 b ∧ wrap64 b ≤ 23) := by
  unfold impl_ValidPiece.f impl_Cell_placed.f
  simp only [in_some, Option.bind_some]
  by_cases h1 : 0 ≤ wrap64 c ∧ wrap64 c ≤ 5 <;> by_cases h2 : 0 ≤ wrap64 d ∧ wrap64 d ≤ 3 <;> by_cases h3 : 1 ≤ wrap64 e ∧ wrap64 e ≤ 9 <;> by_cases h4 : 0 ≤ wrap64 a ∧ wrap64 a ≤ 23 <;> simp [h1, h2, h3, h4] <;> omega

def hitOk (S : Option Int) (I : Option (Bool × Int)) : Bool :=
  match S, I with
  | some h, some (b, m) => (h == -1 && !b && m == 0) || (decide (0 ≤ h) && b && m == h && decide (h < 16))
  | _, _ => false
theorem hits_all : ∀ c ∈ ([0, 1, 2, 3, 4, 5] : List Int), ∀ d ∈ ([0, 1, 2, 3] : List Int), ∀ s ∈ ([0, 1, 2, 3] : List Int), hitOk (spec_l01Hits.f 100 [(⟨(⟨0, 0⟩ : S32), c, d, 1⟩ : S34)] s) (impl_Piece_falls.f 100 0 0 c d 1 s) = true := by decide +kernel
theorem hits_plain (k : Nat) (a b c d e s : Int) : spec_l01Hits.f k [(⟨(⟨a, b⟩ : S32), c, d, e⟩ : S34)] s = spec_l01Hits.f k [(⟨(⟨0, 0⟩ : S32), c, d, 1⟩ : S34)] s := rfl
theorem falls_plain (k : Nat) (a b c d e s : Int) : impl_Piece_falls.f k a b c d e s = impl_Piece_falls.f k 0 0 c d 1 s := rfl
theorem hits_same (a b c d e s : Int) (hc : 0 ≤ c ∧ c ≤ 5) (hd : 0 ≤ d ∧ d ≤ 3) (hs : 0 ≤ s ∧ s ≤ 3) :
    ∃ (h : Int) (i : Bool × Int), Ev (fun k => spec_l01Hits.f k [(⟨(⟨a, b⟩ : S32), c, d, e⟩ : S34)] s) h ∧ Ev (fun k => impl_Piece_falls.f k a b c d e s) i ∧ ((h = -1 ∧ i = (false, 0)) ∨ (0 ≤ h ∧ h < 16 ∧ i = (true, h))) := by
  have mc : c ∈ ([0, 1, 2, 3, 4, 5] : List Int) := by
    have : c = 0 ∨ c = 1 ∨ c = 2 ∨ c = 3 ∨ c = 4 ∨ c = 5 := by omega
    rcases this with rfl | rfl | rfl | rfl | rfl | rfl <;> decide
  have md : d ∈ ([0, 1, 2, 3] : List Int) := by
    have : d = 0 ∨ d = 1 ∨ d = 2 ∨ d = 3 := by omega
    rcases this with rfl | rfl | rfl | rfl <;> decide
  have ms : s ∈ ([0, 1, 2, 3] : List Int) := by
    have : s = 0 ∨ s = 1 ∨ s = 2 ∨ s = 3 := by omega
    rcases this with rfl | rfl | rfl | rfl <;> decide
  have h := hits_all c mc d md s ms
  simp only [hits_plain _ a b c d e s, falls_plain _ a b c d e s]
  cases hS : spec_l01Hits.f 100 [(⟨(⟨0, 0⟩ : S32), c, d, 1⟩ : S34)] s with
  | none => rw [hS] at h; simp [hitOk] at h
  | some x =>
    cases hI : impl_Piece_falls.f 100 0 0 c d 1 s with
    | none => rw [hS, hI] at h; simp [hitOk] at h
    | some y =>
      obtain ⟨y1, y2⟩ := y
      rw [hS, hI] at h
      refine ⟨x, (y1, y2), Ev.of (k := 100) (fun k => spec_l01Hits.mono _ _ k) hS, Ev.of (k := 100) (fun k => impl_Piece_falls.mono _ _ _ _ _ _ k) hI, ?_⟩
      simp only [hitOk, Bool.or_eq_true, Bool.and_eq_true, beq_iff_eq, decide_eq_true_eq, Bool.not_eq_true'] at h
      rcases h with ⟨⟨h1, h2⟩, h3⟩ | ⟨⟨⟨h1, h2⟩, h3⟩, h4⟩
      · exact .inl ⟨h1, by rw [h2, h3]⟩
      · exact .inr ⟨h1, h4, by rw [h2, h3]⟩
theorem valid_i8 (a b c d e : Int) (ha : -128 ≤ a ∧ a ≤ 127) (hb : -128 ≤ b ∧ b ≤ 127) (hc : -128 ≤ c ∧ c ≤ 127) (hd : -128 ≤ d ∧ d ≤ 127) (he : -128 ≤ e ∧ e ≤ 127) : ∃ r, spec_l01Piece.f [(⟨(⟨a, b⟩ : S32), c, d, e⟩ : S34)] = some r ∧ impl_ValidPiece.f a b c d e = some r ∧ (r = true → (0 ≤ c ∧ c ≤ 5) ∧ (0 ≤ d ∧ d ≤ 3)) := by
  obtain ⟨r, h1, h2⟩ := valid_some a b c d e
  refine ⟨r, by rw [valid_same, h1], h1, fun hr => ?_⟩
  have h := h2 hr
  rw [w64 (n := c) (by omega), w64 (n := d) (by omega)] at h
  exact ⟨⟨h.1, h.2.1⟩, h.2.2.1, h.2.2.2.1⟩

theorem alike_round (a b c d e a' b' c' d' e' : Int) (hc : 0 ≤ c ∧ c ≤ 5) (hd : 0 ≤ d ∧ d ≤ 3) (hc' : 0 ≤ c' ∧ c' ≤ 5) (hd' : 0 ≤ d' ∧ d' ≤ 3) (s : Int) (hs : 0 ≤ s ∧ s ≤ 3) :
    ∃ (h : Int) (p : Bool × Int) (h' : Int) (p' : Bool × Int), Ev (fun k => spec_l01Hits.f k [(⟨(⟨a, b⟩ : S32), c, d, e⟩ : S34)] s) h ∧ Ev (fun k => impl_Piece_falls.f k a b c d e s) p ∧ Ev (fun k => spec_l01Hits.f k [(⟨(⟨a', b'⟩ : S32), c', d', e'⟩ : S34)] s) h' ∧ Ev (fun k => impl_Piece_falls.f k a' b' c' d' e' s) p' ∧ ((h = h' ∧ p = p') ∨ (h ≠ h' ∧ (p.1 ≠ p'.1 ∨ (p.1 = p'.1 ∧ p.2 ≠ p'.2)))) := by
  obtain ⟨h, p, k1, k2, k3⟩ := hits_same a b c d e s hc hd hs
  obtain ⟨h', p', k1', k2', k3'⟩ := hits_same a' b' c' d' e' s hc' hd' hs
  refine ⟨h, p, h', p', k1, k2, k1', k2', ?_⟩
  clear k1 k2 k1' k2' hc hd hc' hd' hs
  rcases k3 with ⟨a1, a2⟩ | ⟨a1, _, a2⟩ <;> rcases k3' with ⟨b1, b2⟩ | ⟨b1, _, b2⟩
  · exact .inl ⟨by rw [a1, b1], by rw [a2, b2]⟩
  · exact .inr ⟨by omega, .inl (by rw [a2, b2]; simp)⟩
  · exact .inr ⟨by omega, .inl (by rw [a2, b2]; simp)⟩
  · by_cases e : h = h'
    · exact .inl ⟨e, by rw [a2, b2, e]⟩
    · exact .inr ⟨e, .inr ⟨by rw [a2, b2], by rw [a2, b2]; exact e⟩⟩
theorem alike_loop (a b c d e a' b' c' d' e' : Int) (hc : 0 ≤ c ∧ c ≤ 5) (hd : 0 ≤ d ∧ d ≤ 3) (hc' : 0 ≤ c' ∧ c' ≤ 5) (hd' : 0 ≤ d' ∧ d' ≤ 3) :
    ∃ r : Bool × Int, Ev (fun k => spec_AlikePieces.l0 k 0 a b c d e a' b' c' d' e') r ∧ Ev (fun k => impl_AlikePieces.l0 k 0 a b c d e a' b' c' d' e') r ∧ True := by
  refine ev_pair (σ := Unit) (ρ := Bool × Int) (fun _ _ => True) 4 (fun i _ k => spec_AlikePieces.l0 k (i : Int) a b c d e a' b' c' d' e') (fun i _ k => impl_AlikePieces.l0 k (i : Int) a b c d e a' b' c' d' e') (fun _ => True) ?_ ?_ () trivial
  · intro _ _
    refine ⟨(e == e', 0), ?_, ?_, trivial⟩
    · refine Ev.step (fun k => by rw [spec_AlikePieces.l0]) ?_
      exact Ev.iteF (by decide) (Ev.now _)
    · refine Ev.step (fun k => by rw [impl_AlikePieces.l0]) ?_
      exact Ev.iteF (by decide) (Ev.now _)
  · intro i _ hi _
    have h0 : (i : Int) < 4 := by omega
    have h1 : 0 ≤ (i : Int) ∧ (i : Int) ≤ 3 := by omega
    have wi : wrap64 ((i : Int) + 1) = ((i + 1 : Nat) : Int) := w64 (by omega)
    obtain ⟨h, p, h', p', k1, k2, k1', k2', k3⟩ := alike_round a b c d e a' b' c' d' e' hc hd hc' hd' (i : Int) h1
    rcases k3 with ⟨he, ep⟩ | ⟨he, ep⟩
    · refine .inl ⟨(), trivial, fun r => ⟨fun hh => ?_, fun hh => ?_⟩⟩
      · refine Ev.step (fun k => by rw [spec_AlikePieces.l0]) ?_
        rw [wi]
        exact Ev.iteT h0 (Ev.bind k1 (Ev.bind k1' (Ev.iteT he hh)))
      · refine Ev.step (fun k => by rw [impl_AlikePieces.l0]) ?_
        rw [wi]
        exact Ev.iteT h0 (Ev.bind k2 (Ev.bind k2' (Ev.iteF (by rw [ep]; simp) (Ev.iteT (by rw [ep]) hh))))
    · refine .inr ⟨(false, 0), ?_, ?_, trivial⟩
      · refine Ev.step (fun k => by rw [spec_AlikePieces.l0]) ?_
        exact Ev.iteT h0 (Ev.bind k1 (Ev.bind k1' (Ev.iteF he (Ev.now _))))
      · refine Ev.step (fun k => by rw [impl_AlikePieces.l0]) ?_
        refine Ev.iteT h0 (Ev.bind k2 (Ev.bind k2' ?_))
        rcases ep with e1 | ⟨e1, e2⟩
        · exact Ev.iteT (by simpa using e1) (Ev.now _)
        · exact Ev.iteF (by rw [e1]; simp) (Ev.iteF e2 (Ev.now _))
set_option maxHeartbeats 4000000 in
theorem core (x0_0_0 : Int) (x0_0_1 : Int) (x0_1 : Int) (x0_2 : Int) (x0_3 : Int) (x1_0_0 : Int) (x1_0_1 : Int) (x1_1 : Int) (x1_2 : Int) (x1_3 : Int) (ox0_0_0 : (-128 ≤ x0_0_0 ∧ x0_0_0 ≤ 127)) (ox0_0_1 : (-128 ≤ x0_0_1 ∧ x0_0_1 ≤ 127)) (ox0_1 : (-128 ≤ x0_1 ∧ x0_1 ≤ 127)) (ox0_2 : (-128 ≤ x0_2 ∧ x0_2 ≤ 127)) (ox0_3 : (-128 ≤ x0_3 ∧ x0_3 ≤ 127)) (ox1_0_0 : (-128 ≤ x1_0_0 ∧ x1_0_0 ≤ 127)) (ox1_0_1 : (-128 ≤ x1_0_1 ∧ x1_0_1 ≤ 127)) (ox1_1 : (-128 ≤ x1_1 ∧ x1_1 ≤ 127)) (ox1_2 : (-128 ≤ x1_2 ∧ x1_2 ≤ 127)) (ox1_3 : (-128 ≤ x1_3 ∧ x1_3 ≤ 127)) : ∃ r : Bool × Int, Ev (fun k => spec_AlikePieces.f k x0_0_0 x0_0_1 x0_1 x0_2 x0_3 x1_0_0 x1_0_1 x1_1 x1_2 x1_3) r ∧ Ev (fun k => impl_AlikePieces.f k x0_0_0 x0_0_1 x0_1 x0_2 x0_3 x1_0_0 x1_0_1 x1_1 x1_2 x1_3) r ∧ True := by
  obtain ⟨v, h1, h2, h3⟩ := valid_i8 x0_0_0 x0_0_1 x0_1 x0_2 x0_3 ox0_0_0 ox0_0_1 ox0_1 ox0_2 ox0_3
  obtain ⟨v', h1', h2', h3'⟩ := valid_i8 x1_0_0 x1_0_1 x1_1 x1_2 x1_3 ox1_0_0 ox1_0_1 ox1_1 ox1_2 ox1_3
  unfold spec_AlikePieces.f impl_AlikePieces.f
  have a1 : Ev (fun k => spec_AlikePieces.j0 k true x0_0_0 x0_0_1 x0_1 x0_2 x0_3 x1_0_0 x1_0_1 x1_1 x1_2 x1_3) (false, 1) := Ev.step (fun k => by rw [spec_AlikePieces.j0]) (Ev.iteT rfl (Ev.now _))
  have a2 : Ev (fun k => impl_AlikePieces.j0 k true x0_0_0 x0_0_1 x0_1 x0_2 x0_3 x1_0_0 x1_0_1 x1_1 x1_2 x1_3) (false, 1) := Ev.step (fun k => by rw [impl_AlikePieces.j0]) (Ev.iteT rfl (Ev.now _))
  cases v
  · exact ⟨(false, 1), Ev.bindc h1 (Ev.iteF (by simp) a1), Ev.bindc h2 (Ev.iteF (by simp) a2), trivial⟩
  cases v'
  · exact ⟨(false, 1), Ev.bindc h1 (Ev.iteT rfl (Ev.bindc h1' a1)), Ev.bindc h2 (Ev.iteT rfl (Ev.bindc h2' a2)), trivial⟩
  obtain ⟨hc, hd⟩ := h3 rfl
  obtain ⟨hc', hd'⟩ := h3' rfl
  suffices key : ∃ r : Bool × Int, Ev (fun k => spec_AlikePieces.l0 k 0 x0_0_0 x0_0_1 x0_1 x0_2 x0_3 x1_0_0 x1_0_1 x1_1 x1_2 x1_3) r ∧ Ev (fun k => impl_AlikePieces.l0 k 0 x0_0_0 x0_0_1 x0_1 x0_2 x0_3 x1_0_0 x1_0_1 x1_1 x1_2 x1_3) r ∧ True by
    obtain ⟨r, k1, k2, _⟩ := key
    exact ⟨r, Ev.bindc h1 (Ev.iteT rfl (Ev.bindc h1' (Ev.step (fun k => by rw [spec_AlikePieces.j0]) (Ev.iteF (by simp) k1)))), Ev.bindc h2 (Ev.iteT rfl (Ev.bindc h2' (Ev.step (fun k => by rw [impl_AlikePieces.j0]) (Ev.iteF (by simp) k2)))), trivial⟩
  exact alike_loop _ _ _ _ _ _ _ _ _ _ hc hd hc' hd'

theorem FnExactAlikePieces : QFnExactAlikePieces.Pure := by
  rintro ⟨⟨x0_0_0, x0_0_1⟩, x0_1, x0_2, x0_3⟩ ⟨⟨x1_0_0, x1_0_1⟩, x1_1, x1_2, x1_3⟩ ⟨⟨wx0_0_0, wx0_0_1⟩, wx0_1, wx0_2, wx0_3⟩ ⟨⟨wx1_0_0, wx1_0_1⟩, wx1_1, wx1_2, wx1_3⟩
  have ox0_0_0 : (-128 ≤ x0_0_0 ∧ x0_0_0 ≤ 127) := i8b wx0_0_0
  have ox0_0_1 : (-128 ≤ x0_0_1 ∧ x0_0_1 ≤ 127) := i8b wx0_0_1
  have ox0_1 : (-128 ≤ x0_1 ∧ x0_1 ≤ 127) := i8b wx0_1
  have ox0_2 : (-128 ≤ x0_2 ∧ x0_2 ≤ 127) := i8b wx0_2
  have ox0_3 : (-128 ≤ x0_3 ∧ x0_3 ≤ 127) := i8b wx0_3
  have ox1_0_0 : (-128 ≤ x1_0_0 ∧ x1_0_0 ≤ 127) := i8b wx1_0_0
  have ox1_0_1 : (-128 ≤ x1_0_1 ∧ x1_0_1 ≤ 127) := i8b wx1_0_1
  have ox1_1 : (-128 ≤ x1_1 ∧ x1_1 ≤ 127) := i8b wx1_1
  have ox1_2 : (-128 ≤ x1_2 ∧ x1_2 ≤ 127) := i8b wx1_2
  have ox1_3 : (-128 ≤ x1_3 ∧ x1_3 ≤ 127) := i8b wx1_3
  refine Ev.rounds (r := true) ?_
  unfold laws_FnExactAlikePieces.f
  refine Ev.bind (toPiece _ _ _ _ _ ) ?_
  try dsimp only
  refine Ev.bind (toPiece _ _ _ _ _ ) ?_
  try dsimp only
  obtain ⟨⟨r0, r1⟩, hs, hi, hb⟩ := core x0_0_0 x0_0_1 x0_1 x0_2 x0_3 x1_0_0 x1_0_1 x1_1 x1_2 x1_3 ox0_0_0 ox0_0_1 ox0_1 ox0_2 ox0_3 ox1_0_0 ox1_0_1 ox1_1 ox1_2 ox1_3
  refine Ev.bind hs ?_
  try dsimp only
  refine Ev.bind (toPiece _ _ _ _ _ ) ?_
  try dsimp only
  refine Ev.bind (toPiece _ _ _ _ _ ) ?_
  try dsimp only
  refine Ev.bind hi ?_
  try dsimp only
  refine Ev.iteF (by first | (simp; done) | (first | omega | ((try dsimp only); (try simp only [List.length_map, List.length_range, List.length_nil]); omega) | (simp; omega))) ?_
  try dsimp only
  refine Ev.iteT (by first | rfl | (first | omega | ((try dsimp only); (try simp only [List.length_map, List.length_range, List.length_nil]); omega) | (simp; omega))) ?_
  try dsimp only
  exact Ev.now _
end Go.Proofs.Ytkcbcbannbllaaa.Pure
