/- The pure side of the law FnExactHitsFrom: for all arguments its Lean function answers true. No condition beside the arguments' kinds. -/
import Derived.Test.YtkcbcbannbllaaaQFnExactHitsFrom
import Derived.Test.YtkcbcbannbllaaaPB
namespace Go.Proofs.Ytkcbcbannbllaaa.Pure
open Go.RowKit Go.Proofs.Ytkcbcbannbllaaa.PFnExactHitsFrom Go.Proofs.YtkcbcbannbllaaaW.PrintWords Go.Proofs.YtkcbcbannbllaaaW.PrintLast Go.Proofs.YtkcbcbannbllaaaX Go.Proofs.Ytkcbcbannbllaaa.QFnExactHitsFrom Go.Proofs.YtkcbcbannbllaaaB
set_option linter.unusedVariables false
set_option linter.unusedSimpArgs false

theorem toCell (a0_0 : Int) (a0_1 : Int)  : Ev (fun k => laws_toCell.f k a0_0 a0_1) (a0_0, a0_1) := by
  refine ⟨3, fun k hk => ?_⟩
  obtain ⟨m, rfl⟩ : ∃ m, k = m + 3 := ⟨k - 3, by omega⟩
  simp [laws_toCell.f, laws_toCell.l0, wrap64]
theorem toPiece (a0_0 : Int) (a0_1 : Int) (a0_2 : Int) (a0_3 : Int) (a0_4 : Int)  : Ev (fun k => laws_toPiece.f k a0_0 a0_1 a0_2 a0_3 a0_4) (a0_0, a0_1, a0_2, a0_3, a0_4) := by
  unfold laws_toPiece.f
  exact (Ev.bind (toCell _ _ ) (Ev.now _))
theorem eqBoolA4 (a0_0 : Bool) (a0_1 : Bool) (a0_2 : Bool) (a0_3 : Bool)  : Ev (fun k => laws_eqBoolA4.f k a0_0 a0_1 a0_2 a0_3 a0_0 a0_1 a0_2 a0_3) true := by
  refine ⟨5, fun k hk => ?_⟩
  obtain ⟨m, rfl⟩ : ∃ m, k = m + 5 := ⟨k - 5, by omega⟩
  simp [laws_eqBoolA4.f, laws_eqBoolA4.l0, wrap64]
theorem in_same : spec_l00In.f = impl_in.f := rfl
theorem in_some (a b c : Int) : impl_in.f a b c = some (decide (b ≤ a ∧ a ≤ c)) := by
  unfold impl_in.f
  by_cases h : b ≤ a <;> simp [h]

theorem valid_same (a b c d e : Int) : spec_l01Piece.f [(⟨(⟨a, b⟩ : S32), c, d, e⟩ : S34)] = impl_ValidPiece.f a b c d e := by
  unfold spec_l01Piece.f impl_ValidPiece.f impl_Cell_placed.f spec_l01In.f
  simp [in_same, in_some, rd_T34, wrap64]
theorem valid_some (a b c d e : Int) : ∃ r, impl_ValidPiece.f a b c d e = some r ∧ (r = true → 0 ≤ wrap64 c ∧ wrap64 c ≤ 5 ∧ 0 ≤ wrap64 d ∧ wrap64 d ≤ 3 ∧ 1 ≤ wrap64 e ∧ wrap64 e ≤ 9 ∧ 0 ≤ wrap64 a ∧ wrap64 a ≤ 23 ∧ 0 ≤ wrap64 b ∧ wrap64 b ≤ 23) := by
  unfold impl_ValidPiece.f impl_Cell_placed.f
  simp only [in_some, Option.bind_some]
  by_cases h1 : 0 ≤ wrap64 c ∧ wrap64 c ≤ 5 <;> by_cases h2 : 0 ≤ wrap64 d ∧ wrap64 d ≤ 3 <;> by_cases h3 : 1 ≤ wrap64 e ∧ wrap64 e ≤ 9 <;> by_cases h4 : 0 ≤ wrap64 a ∧ wrap64 a ≤ 23 <;> simp [h1, h2, h3, h4] <;> omega

def hitOk (S : Option Int) (I : Option (Bool × Int)) : Bool :=
  match S, I with
  | some h, some (b, m) => (h == -1 && !b && m == 0) || (decide (0 ≤ h) && b && m == h && decide (h < 16))
  | _, _ => false
theorem hits_all : ∀ c ∈ ([0, 1, 2, 3, 4, 5] : List Int), ∀ d ∈ ([0, 1, 2, 3] : List Int), ∀ s ∈ ([0, 1, 2, 3] : List Int), hitOk (spec_l01Hits.f 100 [(⟨(⟨0, 0⟩ : S32), c, d, 1⟩ : S34)] s) (impl_Piece_falls.f 100 0 0 c d 1 s) = true := by decide +kernel
theorem hits_plain (k : Nat) (a b c d e s : Int) : spec_l01Hits.f k [(⟨(⟨a, b⟩ : S32), c, d, e⟩ : S34)] s = spec_l01Hits.f k [(⟨(⟨0, 0⟩ : S32), c, d, 1⟩ : S34)] s := rfl
theorem falls_plain (k : Nat) (a b c d e s : Int) : impl_Piece_falls.f k a b c d e s = impl_Piece_falls.f k 0 0 c d 1 s := rfl
theorem hits_same (a b c d e s : Int) (hc : 0 ≤ c ∧ c ≤ 5) (hd : 0 ≤ d ∧ d ≤ 3) (hs : 0 ≤ s ∧ s ≤ 3) :
    ∃ (h : Int) (i : Bool × Int), Ev (fun k => spec_l01Hits.f k [(⟨(⟨a, b⟩ : S32), c, d, e⟩ : S34)] s) h ∧ Ev (fun k => impl_Piece_falls.f k a b c d e s) i ∧ ((h = -1 ∧ i = (false, 0)) ∨ (0 ≤ h ∧ h < 16 ∧ i = (true, h))) := by
  have mc : c ∈ ([0, 1, 2, 3, 4, 5] : List Int) := by
    have : c = 0 ∨ c = 1 ∨ c = 2 ∨ c = 3 ∨ c = 4 ∨ c = 5 := by omega
    rcases this with rfl | rfl | rfl | rfl | rfl | rfl <;> decide
  have md : d ∈ ([0, 1, 2, 3] : List Int) := by
    have : d = 0 ∨ d = 1 ∨ d = 2 ∨ d = 3 := by omega
    rcases this with rfl | rfl | rfl | rfl <;> decide
  have ms : s ∈ ([0, 1, 2, 3] : List Int) := by
    have : s = 0 ∨ s = 1 ∨ s = 2 ∨ s = 3 := by omega
    rcases this with rfl | rfl | rfl | rfl <;> decide
  have h := hits_all c mc d md s ms
  simp only [hits_plain _ a b c d e s, falls_plain _ a b c d e s]
  cases hS : spec_l01Hits.f 100 [(⟨(⟨0, 0⟩ : S32), c, d, 1⟩ : S34)] s with
  | none => rw [hS] at h; simp [hitOk] at h
  | some x =>
    cases hI : impl_Piece_falls.f 100 0 0 c d 1 s with
    | none => rw [hS, hI] at h; simp [hitOk] at h
    | some y =>
      obtain ⟨y1, y2⟩ := y
      rw [hS, hI] at h
      refine ⟨x, (y1, y2), Ev.of (k := 100) (fun k => spec_l01Hits.mono _ _ k) hS, Ev.of (k := 100) (fun k => impl_Piece_falls.mono _ _ _ _ _ _ k) hI, ?_⟩
      simp only [hitOk, Bool.or_eq_true, Bool.and_eq_true, beq_iff_eq, decide_eq_true_eq, Bool.not_eq_true'] at h
      rcases h with ⟨⟨h1, h2⟩, h3⟩ | ⟨⟨⟨h1, h2⟩, h3⟩, h4⟩
      · exact .inl ⟨h1, by rw [h2, h3]⟩
      · exact .inr ⟨h1, h4, by rw [h2, h3]⟩
theorem valid_i8 (a b c d e : Int) (ha : -128 ≤ a ∧ a ≤ 127) (hb : -128 ≤ b ∧ b ≤ 127) (hc : -128 ≤ c ∧ c ≤ 127) (hd : -128 ≤ d ∧ d ≤ 127) (he : -128 ≤ e ∧ e ≤ 127) : ∃ r, spec_l01Piece.f [(⟨(⟨a, b⟩ : S32), c, d, e⟩ : S34)] = some r ∧ impl_ValidPiece.f a b c d e = some r ∧ (r = true → (0 ≤ c ∧ c ≤ 5) ∧ (0 ≤ d ∧ d ≤ 3)) := by
  obtain ⟨r, h1, h2⟩ := valid_some a b c d e
  refine ⟨r, by rw [valid_same, h1], h1, fun hr => ?_⟩
  have h := h2 hr
  rw [w64 (n := c) (by omega), w64 (n := d) (by omega)] at h
  exact ⟨⟨h.1, h.2.1⟩, h.2.2.1, h.2.2.2.1⟩

theorem asked_same (a b c d e s : Int) (ha : -128 ≤ a ∧ a ≤ 127) (hb : -128 ≤ b ∧ b ≤ 127) (hc : -128 ≤ c ∧ c ≤ 127) (hd : -128 ≤ d ∧ d ≤ 127) (he : -128 ≤ e ∧ e ≤ 127) : ∃ r, spec_l01Asked.f [(⟨(⟨a, b⟩ : S32), c, d, e⟩ : S34)] s = some r ∧ impl_pieceOk.f a b c d e s = some r ∧ (r = 0 → (0 ≤ c ∧ c ≤ 5) ∧ (0 ≤ d ∧ d ≤ 3) ∧ (0 ≤ s ∧ s ≤ 3)) := by
  obtain ⟨v, h1, h2, h3⟩ := valid_i8 a b c d e ha hb hc hd he
  unfold spec_l01Asked.f impl_pieceOk.f spec_l01Side.f impl_isSide.f
  simp only [h1, h2, in_same, in_some, Option.bind_some]
  cases v
  · exact ⟨1, by simp, by simp, by simp⟩
  · by_cases hs : 0 ≤ s ∧ s ≤ 3
    · exact ⟨0, by simp [hs], by simp [hs], fun _ => ⟨(h3 rfl).1, (h3 rfl).2, hs⟩⟩
    · exact ⟨2, by simp [hs], by simp [hs], by simp⟩

theorem rows_all : ∀ h ∈ ([-1, 0, 1, 2, 3, 4, 5, 6, 7, 8, 9, 10, 11, 12, 13, 14, 15] : List Int), (spec_HitsFrom.l0 100 h 0 false false false false).isSome = true ∧ spec_HitsFrom.l0 100 h 0 false false false false = impl_HitsFrom.l0 100 (if h = -1 then 0 else h) 0 false false false false := by decide +kernel
theorem rows_same (h : Int) (hh : -1 ≤ h ∧ h < 16) : ∃ r, Ev (fun k => spec_HitsFrom.l0 k h 0 false false false false) r ∧ Ev (fun k => impl_HitsFrom.l0 k (if h = -1 then 0 else h) 0 false false false false) r := by
  have m : h ∈ ([-1, 0, 1, 2, 3, 4, 5, 6, 7, 8, 9, 10, 11, 12, 13, 14, 15] : List Int) := by
    have : h = -1 ∨ h = 0 ∨ h = 1 ∨ h = 2 ∨ h = 3 ∨ h = 4 ∨ h = 5 ∨ h = 6 ∨ h = 7 ∨ h = 8 ∨ h = 9 ∨ h = 10 ∨ h = 11 ∨ h = 12 ∨ h = 13 ∨ h = 14 ∨ h = 15 := by omega
    rcases this with rfl | rfl | rfl | rfl | rfl | rfl | rfl | rfl | rfl | rfl | rfl | rfl | rfl | rfl | rfl | rfl | rfl <;> decide
  obtain ⟨h1, h2⟩ := rows_all h m
  cases hv : spec_HitsFrom.l0 100 h 0 false false false false with
  | none => rw [hv] at h1; simp at h1
  | some r =>
    rw [hv] at h2
    exact ⟨r, Ev.of (k := 100) (fun k => spec_HitsFrom.mono_l k _ _ _ _ _ _) hv, Ev.of (k := 100) (fun k => impl_HitsFrom.mono_l k _ _ _ _ _ _) h2.symm⟩
theorem core (x0_0_0 : Int) (x0_0_1 : Int) (x0_1 : Int) (x0_2 : Int) (x0_3 : Int) (x1 : Int) (ox0_0_0 : (-128 ≤ x0_0_0 ∧ x0_0_0 ≤ 127)) (ox0_0_1 : (-128 ≤ x0_0_1 ∧ x0_0_1 ≤ 127)) (ox0_1 : (-128 ≤ x0_1 ∧ x0_1 ≤ 127)) (ox0_2 : (-128 ≤ x0_2 ∧ x0_2 ≤ 127)) (ox0_3 : (-128 ≤ x0_3 ∧ x0_3 ≤ 127)) (ox1 : (-9223372036854775808 ≤ x1 ∧ x1 ≤ 9223372036854775807)) : ∃ r : Bool × Bool × Bool × Bool × Int, Ev (fun k => spec_HitsFrom.f k x0_0_0 x0_0_1 x0_1 x0_2 x0_3 x1) r ∧ Ev (fun k => impl_HitsFrom.f k x0_0_0 x0_0_1 x0_1 x0_2 x0_3 x1) r ∧ True := by
  obtain ⟨r, h1, h2, h3⟩ := asked_same x0_0_0 x0_0_1 x0_1 x0_2 x0_3 x1 ox0_0_0 ox0_0_1 ox0_1 ox0_2 ox0_3
  unfold spec_HitsFrom.f impl_HitsFrom.f
  by_cases hr : r = 0
  · obtain ⟨hc, hd, hs⟩ := h3 hr
    obtain ⟨h, i, k1, k2, k3⟩ := hits_same x0_0_0 x0_0_1 x0_1 x0_2 x0_3 x1 hc hd hs
    obtain ⟨q, j1, j2⟩ := rows_same h (by omega)
    have e : i.2 = if h = -1 then 0 else h := by
      rcases k3 with ⟨rfl, rfl⟩ | ⟨g1, g2, rfl⟩
      · rfl
      · rw [if_neg (by omega)]
    rw [← e] at j2
    exact ⟨q, Ev.bindc h1 (Ev.iteT hr (Ev.bind k1 j1)), Ev.bindc h2 (Ev.iteT hr (Ev.bind k2 j2)), trivial⟩
  · exact ⟨(false, false, false, false, r), Ev.bindc h1 (Ev.iteF hr (Ev.now _)), Ev.bindc h2 (Ev.iteF hr (Ev.now _)), trivial⟩

theorem FnExactHitsFrom : QFnExactHitsFrom.Pure := by
  rintro ⟨⟨x0_0_0, x0_0_1⟩, x0_1, x0_2, x0_3⟩ x1 ⟨⟨wx0_0_0, wx0_0_1⟩, wx0_1, wx0_2, wx0_3⟩ wx1
  have ox0_0_0 : (-128 ≤ x0_0_0 ∧ x0_0_0 ≤ 127) := i8b wx0_0_0
  have ox0_0_1 : (-128 ≤ x0_0_1 ∧ x0_0_1 ≤ 127) := i8b wx0_0_1
  have ox0_1 : (-128 ≤ x0_1 ∧ x0_1 ≤ 127) := i8b wx0_1
  have ox0_2 : (-128 ≤ x0_2 ∧ x0_2 ≤ 127) := i8b wx0_2
  have ox0_3 : (-128 ≤ x0_3 ∧ x0_3 ≤ 127) := i8b wx0_3
  have ox1 : (-9223372036854775808 ≤ x1 ∧ x1 ≤ 9223372036854775807) := i64b wx1
  refine Ev.rounds (r := true) ?_
  unfold laws_FnExactHitsFrom.f
  refine Ev.bind (toPiece _ _ _ _ _ ) ?_
  try dsimp only
  obtain ⟨⟨r0, r1, r2, r3, r4⟩, hs, hi, hb⟩ := core x0_0_0 x0_0_1 x0_1 x0_2 x0_3 x1 ox0_0_0 ox0_0_1 ox0_1 ox0_2 ox0_3 ox1
  refine Ev.bind hs ?_
  try dsimp only
  refine Ev.bind (toPiece _ _ _ _ _ ) ?_
  try dsimp only
  refine Ev.bind hi ?_
  try dsimp only
  refine Ev.bind (eqBoolA4 _ _ _ _ ) ?_
  try dsimp only
  refine Ev.iteT (by first | rfl | (first | omega | ((try dsimp only); (try simp only [List.length_map, List.length_range, List.length_nil]); omega) | (simp; omega))) ?_
  try dsimp only
  refine Ev.iteT (by first | rfl | (first | omega | ((try dsimp only); (try simp only [List.length_map, List.length_range, List.length_nil]); omega) | (simp; omega))) ?_
  try dsimp only
  exact Ev.now _
end Go.Proofs.Ytkcbcbannbllaaa.Pure
